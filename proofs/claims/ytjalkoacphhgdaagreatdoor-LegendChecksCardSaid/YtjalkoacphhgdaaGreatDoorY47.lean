/- Y47: BV. -/
import Derived.Test.YtjalkoacphhgdaaGreatDoorY44
import Derived.Test.YtjalkoacphhgdaaGreatDoorY39
set_option maxRecDepth 100000
set_option maxHeartbeats 16000000
namespace Go.Proofs.YtjalkoacphhgdaaGreatDoor
open Go.RowKit Kl Go.Shelf
def lookO(s:Sg)(L:List (Sg×Int)):Option Int:=(L.find? (fun e=>AK s e.1)).map (·.2)
theorem Ai7{α:Type}{enc:α→Value}{same:α→α→Bool}{mt kt et:TypeId}{z:Value}(K:Js mt kt et z enc same)(k:α)(l:List (α×Value×Nat)){b clock:Nat}{W:World}(hb:W.heap[b]?=some (.map (Ax enc l).toArray clock)) :
  (Instr.lookup mt (.map (some b)) (enc k) true).run Tryz.prog W=.ok (.tuple #[EX same z k l,.bool (l.find? (fun e=>same k e.1)).isSome]) W:=by
 have hf:=Rk K k l W;rw [yS]at hf;unfold EX
 cases h:l.find? (fun e=>same k e.1)with
 | none=>
  rw [h]at hf
  have hf':(Instr.findKey kt (enc k) (Ax enc l)).run Tryz.prog W=.ok none W:=by rw [hf];cases EW same k l<;>rfl
  simp [Instr.lookup,run_underlying K.map,MapKept.run_getObj_map hb,K.chk,hf',K.zero,Result.andThen]
 | some e=>
  have hi:(EW same k l).isSome:=by unfold EW;rw [List.findIdx?_isSome,List.any_eq_true];exact⟨e,List.mem_of_find?_eq_some h,(by have:=List.find?_some h;exact this)⟩
  obtain⟨j,hj⟩:=Option.isSome_iff_exists.1 hi;rw [h,hj]at hf;simp only [Option.bind_some,Option.map_some]at hf;simp [Instr.lookup,run_underlying K.map,MapKept.run_getObj_map hb,K.chk,hf,Result.andThen]
theorem Ajr(s:Sg)(L:List (Sg×Int)):((stamp L).find? (fun e=>AK s e.1)).isSome=(lookO s L).isSome:=by
 unfold lookO;rw [Option.isSome_map,Bool.eq_iff_iff,List.find?_isSome,List.find?_isSome];constructor
 ·rintro⟨x,hx,h⟩;obtain⟨e,he,h1⟩:=iN hx;exact⟨e,he,by rw [←h1];exact h⟩
 ·rintro⟨e,he,h⟩;obtain⟨i,hi,rfl⟩:=List.getElem_of_mem he;have hi':i<(stamp L).length:=(by rw [Dn];exact hi);exact⟨(stamp L)[i],AmD hi',by rw [WR];exact h⟩
theorem jq(s:Sg)(L:List (Sg×Int)){b:Nat}{W:World}(hb:W.heap[b]?=some (.map (Ax As (stamp L)).toArray L.length)) :
  (Instr.lookup 131 (.map (some b)) (As s) true).run Tryz.prog W=.ok (.tuple #[.int .i64 ((lookO s L).getD 0),.bool (lookO s L).isSome]) W:=by
 rw [Ai7 VT s (stamp L) hb,zW,Ajr]
 have:AG s L=(lookO s L).getD 0:=by
  unfold AG lookO
  cases L.find? (fun e=>AK s e.1)<;>rfl
 rw [this]
structure jB(P:List (List Pt×Bs)):Prop where
 so:lE P
 poly:∀e∈P,Nl e.1
 apart:∀(i k:Nat) (hi:i<P.length) (hk:k<i),(∀j,j<(P[k]'(by omega)).1.length→Lt P[i].1 (By (P[k]'(by omega)).1 j)∨JS P[i].1 (By (P[k]'(by omega)).1 j))/\∃j,j<(P[k]'(by omega)).1.length/\JS P[i].1 (By (P[k]'(by omega)).1 j)
def I0(L0:List (Sg×Int))(s:Sg):Option (Sg×Int×Int):=match lookO (AQ s) L0 with
 | none=>some (s,AG s L0,-1)
 | some u=>if AG s L0≠u/\AX s.a s.b < 0 then some (s,AG s L0,u)else none
def DN(L0:List (Sg×Int))(ws:List Sg):List (Sg×Int×Int):=ws.filterMap (I0 L0)
theorem lL{L0:List (Sg×Int)}{ws:List Sg}{k:Nat}(hk:k<ws.length):DN L0 (ws.take (k+1))=DN L0 (ws.take k)++(I0 L0 ws[k]).toList:=by
 unfold DN;rw [AmF hk,List.filterMap_append]
 congr 1
theorem xo{L0:List (Sg×Int)}{ws:List Sg}{k:Nat}(hk:k<ws.length){x:Sg×Int×Int}(hx:I0 L0 ws[k]=some x):(DN L0 ws)[(DN L0 (ws.take k)).length]?=some x:=by
 have h1:DN L0 ws=DN L0 (ws.take (k+1))++DN L0 (ws.drop (k+1)):=by unfold DN;rw [←List.filterMap_append,List.take_append_drop]
 rw [h1,lL hk,hx,List.append_assoc,List.getElem?_append_right (AmC _),Nat.sub_self]
 rfl
theorem fH{B:Nat}{w w':World}{e:TypeId}{s n:Nat}{v:Value}{xs:List Value}{b1 b2:Nat}(h:w.ownsRow B e s v n xs)(hk:∀(k:Nat) (o:Obj),w.heap[k]?=some o→k≠b1→k≠b2→(∀cs,o≠.cells cs 92 (0,0))→w'.heap[k]?=some o)(hne:∀k,v.ownBlock=some k→k≠b1/\k≠b2)(he:e≠92):w'.ownsRow B e s v n xs:=by
 refine⟨h.1,?_⟩
 rcases h.2 with h'|⟨g,cap,cur,e1,e2,hgb,e4⟩
 ·exact .inl h'
 ·refine .inr ⟨g,cap,cur,e1,e2,hk g _ hgb ?_ ?_ (fun cs e=>he (Obj.cells.inj e).2.1),e4⟩
  ·exact(hne g (by rw [e1];rfl)).1
  ·exact(hne g (by rw [e1];rfl)).2
def Q9(w w':World)(b1 b2:Nat):Prop:=∀(k:Nat) (o:Obj),w.heap[k]?=some o→k≠b1→k≠b2→(∀cs,o≠.cells cs 92 (0,0))→w'.heap[k]?=some o
theorem PI{a b d:World}{b1 b2:Nat}(h:Q9 a b b1 b2)(k:Q9 b d b1 b2):Q9 a d b1 b2:=fun i o h1 h2 h3 h4=>k i o (h i o h1 h2 h3 h4) h2 h3 h4
theorem VS{a b:World}{b1 b2:Nat}(hx:Aa a b):Q9 a b b1 b2:=fun _ _ h _ _ _=>(hx.block _ (AmA h)).trans h
structure Na(P:List (List Pt×Bs))(n k bg bs:Nat)(gl:List Int)(ul:List Bs)(W:World):Prop where
 lg:gl.length=n
 lu:ul.length=n
 g:∀j,j<k→gl[j]?=some (j:Int)
 u:∀j,j<k→ul[j]?=some (P.getD j ([],[])).2
 og:W.ownsRow 0 3 1 (.slice (some ⟨bg,0,none⟩) n n) n (zs gl)
 os:W.ownsRow 0 9 1 (.slice (some ⟨bs,0,none⟩) n n) n (ul.map S)
theorem Na.step{P:List (List Pt×Bs)}{n k bg bs:Nat}{gl:List Int}{ul:List Bs}{W:World}(h:Na P n k bg bs gl ul W)(hk:k<n)(hne:bg≠bs) :
  Na P n (k+1) bg bs (gl.set k (k:Int)) (ul.set k (P.getD k ([],[])).2) ((W.setCell ⟨bg,k,none⟩ (.int .i64 (k:Nat))).setCell ⟨bs,k,none⟩ (S (P.getD k ([],[])).2)):=by
 have g1:=(h.og.stored k (.int .i64 (k:Nat))).1;have g2:=ownsRow_setCell_other (a:=⟨bs,k,none⟩) g1 (by simp only [Value.ownBlock,ne_eq,AmG];exact hne) (S (P.getD k ([],[])).2);have u1:=ownsRow_setCell_other (a:=⟨bg,k,none⟩) h.os (by simp only [Value.ownBlock,ne_eq,AmG];exact fun e=>hne e.symm) (.int .i64 (k:Nat));have u2:=(u1.stored k (S (P.getD k ([],[])).2)).1;refine⟨by rw [List.length_set];exact h.lg,by rw [List.length_set];exact h.lu,fun j hj=>?_,fun j hj=>?_,by rw [←ou];exact g2,by rw [List.map_set];exact u2⟩
 ·by_cases e:j=k
  ·subst e;rw [List.getElem?_set_self (by rw [h.lg];exact hk)]
  ·rw [List.getElem?_set_ne (fun e'=>e e'.symm)];exact h.g j (by omega)
 ·by_cases e:j=k
  ·subst e;rw [List.getElem?_set_self (by rw [h.lu];exact hk)]
  ·rw [List.getElem?_set_ne (fun e'=>e e'.symm)];exact h.u j (by omega)
theorem Bq.base{B B':Nat}{W:World}{r b1 b2:Nat}{L:List (Sg×Int)}{E:List (Pt×Value×Nat)}{R:List (Pt×List Pt)}(h:Bq B W r b1 b2 L E R)(e:B=B'):Bq B' W r b1 b2 L E R:=e▸h
structure kV(pts:List Pt)(eds:List Av)(n:Nat)(R1:List (Pt×List Pt)):Prop where
 eo:MZ pts eds
 le:eds.length<=1000
 wo:OB ((AL pts eds).map (·.1))
 gr:∀s∈(AL pts eds).map (·.1),Ju s
 lf:∀x∈AL pts eds,-1<=x.2/\x.2<(n:Int)
 r1:R1=(Cy pts eds).map (fun e=>(e.1,DG e.1 e.2))
 op:(Kn (AL pts eds) n (Ho ((AL pts eds).map (·.1)) R1) (JR ((AL pts eds).map (·.1)) (Ho ((AL pts eds).map (·.1)) R1))).op=false
 hz:∀e∈R1,Ar 200 e.1/\∀p∈e.2,Ar 200 p
 ln:R1.length<=400
 rl:∀e∈R1,e.2.length<100000
 nd:(R1.map (·.1)).Nodup
 no:∀e∈R1,∀p q,e.2 = [p,q]→AD (Al p e.1 q)≠0
 sz:∀e∈AL pts eds,Eh 200 e.1
 bk:∀e∈AL pts eds,∃e'∈AL pts eds,e'.1=AQ e.1
theorem oY{l:List Av}{j:Nat}(hj:j<(Bz l).length):∃z,(Bz l)[j]=.int .i64 z:=by
 have:=AmD hj;unfold Bz at this;rw [List.mem_flatMap]at this;obtain⟨p,_,h⟩:=this;simp only [List.mem_cons,AmN,or_false]at h
 rcases h with h|h|h|h<;>exact⟨_,h⟩
theorem gG{w w':World}{A:Option Addr}{l:List Value}{b:Nat}{a0 a1 a2:Value}{t:TypeId}(h:Ae w A l)(hb:Au (fun q=>q=b) w w')(hm:w.heap[b]?=some (.cells #[a0,a1,a2] t))(hne:∀(j:Nat) (hj:j<l.length),l[j]≠a0/\l[j]≠a1/\l[j]≠a2):Ae w' A l:=by
 refine⟨fun h0=>?_⟩;obtain⟨g,o,e,hc⟩:=h.ad h0;refine⟨g,o,e,fun j hj=>?_⟩;have h1:=hc j hj;refine(World.cell?_of_block (a:=⟨g,o+j,none⟩) (hb.block g (World.block_lt_of_cell? w _ h1) (fun e'=>?_))).trans h1;subst e';have h2:=Aad hm h1;obtain⟨n1,n2,n3⟩:=hne j hj
 match hn:o+j with
 | 0=>rw [hn]at h2;exact n1 (by simpa using h2.symm)
 | 1=>rw [hn]at h2;exact n2 (by simpa using h2.symm)
 | 2=>rw [hn]at h2;exact n3 (by simpa using h2.symm)
 | n+3=>rw [hn]at h2;simp at h2
def Qs(w:World)(m:Ck)(Am:List Bs)(e:Ending)(w':World):Prop:=
 ∃A Bk F c d g,e=.returned (.tuple #[Dk A Bk F m c d g,.int .i64 0])/\Ka m c d g/\Ae w' A (flat (Ao m.pts))/\Ae w' Bk (Bz m.eds)/\Ae w' F (Am.map S)/\m.nf=Am.length/\Aa w w'
theorem Aag(P:List (List Pt×Bs))(hP:jB P)(Gp:0<P.length)(NV:∀e∈B8 P P.length,0<=e.2/\e.2<(P.length:Int)/\∀z,lookO (AQ e.1) (B8 P P.length)=some z→0<=z/\z<(P.length:Int)/\(P.getD e.2.toNat ([],[])).2≠(P.getD z.toNat ([],[])).2)(IV:∀e∈B8 P P.length,Eh 200 e.1)(Dh:(B8 P P.length).length<=10000){Ec:List Pt}{C2:List Av}(hadd:DN (B8 P P.length) (B7 ((B8 P P.length).map (·.1)))=C2.map (fun e=>(Bc Ec e,e.l,e.r))){R1:List (Pt×List Pt)}(GP:kV Ec C2 P.length R1){pts:List Pt}(NR:pts=EC (R1.map (·.1))){st:G2}(hst:st=I2 (P.map (·.2)) (BO pts) (AL Ec C2) (B7 ((AL Ec C2).map (·.1))))(A:Option Addr)(c:Nat)(w:World)(hw:An w)(h:Jv w A c P) :
  Calls Tryz.prog 44 #[.slice A P.length c] w (Qs w ⟨pts,st.ed,st.fa.length⟩ st.fa):=by
 have hmm:=@run_makeMap Tryz.prog;have hlen:P.length<=1000:=hP.so.len;have hc1:=h.c1;have hc2:=h.c2;have HP:=Am9 hP;have HA:=Am9 h;obtain⟨n,hn⟩:=Am8 P.length;rw [←hn]at hlen hc1 Gp NV IV Dh hadd GP ⊢;have o5:=Am9 hadd;have ru:=Am9 GP;have TE:=Am9 GP.eo;have TG:=Am9 NR;have HST:=Am9 hst;have hel:=GP.le;have F3:=Am9 Dh;have XF:=Am9 NV;have Jp:=Am9 IV;have HN:=Am9 hn;have E1:=(Aa.refl w).alloc (.cells #[.slice none 0 0,.slice none 0 0,.slice none 0 0] 36);have hbr:=AmB w (.cells #[.slice none 0 0,.slice none 0 0,.slice none 0 0] 36);clear hP h hn NV IV Dh hadd GP NR hst;go_enter Tryz.func44,Tryz.ntmps44
 go_upto_region 4 with fail
 generalize w.alloc (.cells #[.slice none 0 0,.slice none 0 0,.slice none 0 0] 36)=W1 at *;have hl0:(0:Int)<=(n:Int):=by omega
 go_loopw [39] (fun iv wr=>∃k:Nat,iv=.int .i64 (k:Nat)/\k<=n/\Aa W1 wr) (fun iv _=>n-(intOf iv).toNat)
 case atStart=>exact⟨0,rfl,by omega,Aa.refl _⟩
 case round=>
  obtain⟨k,rfl,hk,hX⟩:=hrel;by_cases hkn:k<n
  ·have Px:k<P.length:=(by rw [←HN.out];exact hkn);obtain⟨bA,oA,A',c',rfl,AE,AS,Bt,AP,hr1,hr2⟩:=HA.out.row k Px;have BU:=E1.trans hX;replace AE:=BU.cellS AE;replace AS:=BU.cellS AS;replace Bt:=BU.cellS Bt;have hk0:(0:Int)<=(k:Int):=(by omega);have Cb:(k:Int)<(n:Int):=(by omega);have IS:=HP.out.poly _ (AmD Px);have hsz:=HP.out.so.sz _ (AmD Px);obtain⟨pg,Gr⟩:=Am8 (P[k].1);obtain⟨un,Ay⟩:=Am8 (P[k].2);rw [←Gr]at AE AP hr1 IS hsz;rw [←Ay]at AS;have EA:=(Aa.refl wr).alloc (.cells #[.slice A' pg.length c',S un,.slice none 0 0] 95);have Aq:=AmB wr (.cells #[.slice A' pg.length c',S un,.slice none 0 0] 95);have ck:=fR pg IS hsz (by omega) (by omega) A' c' _ (hw.ext (BU.trans EA)) (AP.ext (BU.trans EA)) hr1 hr2;have y0:=Ab (o:=0) Aq rfl;clear Gr Ay IS hsz;(go_wp2_with fail);(with_reducible refine ck.mono ?_);rintro e w2 ⟨rfl,hx2⟩;go_wp2;go_roundw
   case rel=>exact⟨k+1,by go_num,hkn,(hX.trans EA).trans hx2⟩
   case measure=>simp [intOf];omega
  ·have Bw:k=n:=(by omega);subst Bw;have hd:decide (k<k)=false:=(by simp);have Ca:decide ((k:Int)<(k:Int))=false:=by simp
   go_upto_region 11 with fail
   obtain⟨W2,rfl⟩:=eJ hX;have C3:=E1.trans hX;have hR2:=(hX.block _ (AmA hbr)).trans hbr;clear hX hd Ca E1 hbr
   go_loopw [53] (fun iv wr=>∃i:Nat,iv=.int .i64 (i:Nat)/\i<=k/\Aa W2 wr) (fun iv _=>k-(intOf iv).toNat)
   case atStart=>exact⟨0,rfl,by omega,Aa.refl _⟩
   case round=>
    obtain⟨i,rfl,hi,hX⟩:=hrel;have BU:=C3.trans hX;by_cases hin:i<k
    ·have Mv:i<P.length:=(by rw [←HN.out];exact hin);obtain⟨bA,oA,A',c',rfl,AE,AS,Bt,AP,hr1,hr2⟩:=HA.out.row i Mv;replace AE:=BU.cellS AE;replace AS:=BU.cellS AS;replace Bt:=BU.cellS Bt;have NJ:(0:Int)<=(i:Int):=(by omega);have Pv:(i:Int)<(k:Int):=(by omega);have IS:=HP.out.poly _ (AmD Mv);have hsz:=HP.out.so.sz _ (AmD Mv);have hap:=fun q (hq:q<i)=>HP.out.apart i q Mv hq;obtain⟨pg,Gr⟩:=Am8 (P[i].1);obtain⟨un,Ay⟩:=Am8 (P[i].2);rw [←Gr]at AE AP hr1 IS hsz hap;rw [←Ay]at AS;have EA:=(Aa.refl wr).alloc (.cells #[.slice A' pg.length c',S un,.slice none 0 0] 95);have Aq:=AmB wr (.cells #[.slice A' pg.length c',S un,.slice none 0 0] 95);have pj:=Am9 hap;clear Gr Ay hap
     go_upto_region 14 with fail
     unfold S at Aq EA;generalize wr.alloc (.cells #[.slice A' pg.length c',.string ⟨un.toArray⟩,.slice none 0 0] 95)=W3 at *;obtain⟨b8,FG⟩:=Am8 wr.heap.size;rw [←FG]at Aq ⊢;clear FG AE AS Bt;have GM:=hX.trans EA;have CW:=C3.trans GM;have y0:=Ab (o:=0) Aq rfl;clear EA hX Aq
     go_loopw [62] (fun jv wj=>∃j:Nat,jv=.int .i64 (j:Nat)/\j<=i/\Aa W3 wj) (fun jv _=>i-(intOf jv).toNat)
     case atStart=>exact⟨0,rfl,by omega,Aa.refl _⟩
     case round=>
      obtain⟨j,rfl,hj,Pf⟩:=hrel;have Pg:=CW.trans Pf;by_cases Sc:j<i
      ·have H6:j<P.length:=(by omega);obtain⟨bB,oB,B',d',he,AE,AS,Bt,xA,hs1,hs2⟩:=HA.out.row j H6;simp only [AmG,Addr.mk.injEq,and_true]at he;obtain⟨rfl,rfl⟩:=he;replace AE:=Pg.cellS AE;replace AS:=Pg.cellS AS;replace Bt:=Pg.cellS Bt;have hj0:(0:Int)<=(j:Int):=(by omega);have KL:(j:Int)<(i:Int):=(by omega);obtain⟨Yd,Ye⟩:=pj.out j Sc;have bY:=HP.out.poly _ (AmD H6);have NT:=HP.out.so.sz _ (AmD H6);obtain⟨qg,wO⟩:=Am8 (P[j].1);obtain⟨un,Ay⟩:=Am8 (P[j].2);rw [←wO]at AE xA hs1 bY NT Yd Ye;rw [←Ay]at AS;have EA:=(Aa.refl wr).alloc (.cells #[.slice B' qg.length d',S un,.slice none 0 0] 95);have Aq:=AmB wr (.cells #[.slice B' qg.length d',S un,.slice none 0 0] 95);have it:=Afn pg qg IS bY hsz NT Yd Ye A' B' c' d' _ (hw.ext (Pg.trans EA)) (AP.ext (Pg.trans EA)) (xA.ext (Pg.trans EA)) hr1 hr2 hs1 hs2;have z0:=Ab (o:=0) Aq rfl;have z1:=EA.cellS (Pf.cellS y0);clear wO Ay Yd Ye bY NT;(go_wp2_with fail);(with_reducible refine it.mono ?_);rintro e w2 ⟨rfl,hx2⟩;go_wp2;go_roundw
       case rel=>exact⟨j+1,by go_num,Sc,(Pf.trans EA).trans hx2⟩
       case measure=>simp [intOf];omega
      ·have H7:j=i:=(by omega);subst H7;go_wp2;go_roundw
       case rel=>exact⟨j+1,by go_num,hin,GM.trans Pf⟩
       case measure=>simp [intOf];omega
    ·have NK:i=k:=(by omega);subst NK;have hd:decide (i<i)=false:=(by simp);have Ca:decide ((i:Int)<(i:Int))=false:=(by simp);have ps:=fun (V:World) (hV:Aa w V)=>AhH P HP.out.so A c V (hw.ext hV) (HA.out.ext hV);rw [←HN.out]at ps;have p1:=ps wr BU;(go_wp2_with fail);(with_reducible refine p1.mono ?_);rintro e w4 ⟨bl,rfl,hML,hbl,Ai⟩;have Hu:=BU.trans Ai;have Alr:w.heap.size<=bl:=(by have:=BU.size;omega);have UJ:=((hX.trans Ai).block _ (AmA hR2)).trans hR2;clear ps p1 hR2 C3 hX Ai BU hd Ca;have mki:=ai i (by omega) (i:Int) rfl w4;have E5:=(Aa.refl w4).alloc (.cells (madeCells #[.int .i64 0] i) 3);have mks:=Agp i (by omega) (i:Int) rfl (w4.alloc (.cells (madeCells #[.int .i64 0] i) 3))
     go_upto_region 25 with fail
     have og:=fp w4 0 i (Nat.zero_le _) (by omega);have os:=Ahq (w4.alloc (.cells (madeCells #[.int .i64 0] i) 3)) 0 i (Nat.zero_le _) (by omega);rw [AmJ]at os;have E6:=E5.alloc (.cells (madeCells #[S []] i) 9);have eT:=AI og ((Aa.refl (w4.alloc (.cells (madeCells #[.int .i64 0] i) 3))).alloc (.cells (madeCells #[S []] i) 9));have Ky:=hML.ext E6;have Mg:=(E6.block _ (AmA UJ)).trans UJ;have Mk:=Hu.trans E6;have xI:((w4.alloc (.cells (madeCells #[.int .i64 0] i) 3)).alloc (.cells (madeCells #[S []] i) 9)).heap.size=w4.heap.size+2:=(by simp only [AmJ]);obtain⟨bg,hbg⟩:=Am8 w4.heap.size;rw [←hbg]at eT os xI ⊢;have Adf:=AmA hML;have hRl:=AmA UJ;generalize (w4.alloc (.cells (madeCells #[.int .i64 0] i) 3)).alloc (.cells (madeCells #[S []] i) 9)=W6 at *;have rI:Na P i 0 bg (bg+1) (zn (List.replicate i 0)) (List.replicate i []) W6:=⟨by simp [zn],by simp,fun j hj=>by omega,fun j hj=>by omega,eT,os⟩;have Aln:w.heap.size<bg:=(by omega);have Alp:bl<bg:=(by omega);clear mki mks og os eT E5 E6 hML UJ Hu hbg xI Adf hRl hbl
     go_loopw [89] (fun kv wk=>∃(k:Nat) (gl:List Int) (ul:List Bs),kv=.int .i64 (k:Nat)/\k<=i/\Na P i k bg (bg+1) gl ul wk/\Au (fun q=>q=bg∨q=bg+1) W6 wk) (fun kv _=>i-(intOf kv).toNat)
     case atStart=>exact⟨0,_,_,rfl,by omega,rI,Au.refl _ _⟩
     case round=>
      obtain⟨k,gl,ul,rfl,hk,hG,hB⟩:=hrel;have BU:Aa w wr:=hB.toExt Mk (fun q e=>by rcases e with e|e<;>omega);by_cases hkn:k<i
      ·have Px:k<P.length:=(by rw [←HN.out];exact hkn);obtain⟨bA,oA,A',c',rfl,AE,AS,Bt,AP,hr1,hr2⟩:=HA.out.row k Px;replace AE:=BU.cellS AE;replace AS:=BU.cellS AS;replace Bt:=BU.cellS Bt;have hk0:(0:Int)<=(k:Int):=(by omega);have Cb:(k:Int)<(i:Int):=(by omega);obtain⟨pg,Gr⟩:=Am8 (P[k].1);obtain⟨un,Ay⟩:=Am8 (P[k].2);have hgd:(P.getD k ([],[])).2=un:=(by rw [Ay];simp [List.getD_eq_getElem?_getD,AmH Px]);rw [←Gr]at AE;rw [←Ay]at AS;have EA:=(Aa.refl wr).alloc (.cells #[.slice A' pg.length c',S un,.slice none 0 0] 95);have Aq:=AmB wr (.cells #[.slice A' pg.length c',S un,.slice none 0 0] 95);have N6:Na P i k bg (bg+1) gl ul (wr.alloc (.cells #[.slice A' pg.length c',S un,.slice none 0 0] 95)):=⟨hG.lg,hG.lu,hG.g,hG.u,AI hG.og EA,AI hG.os EA⟩;have BM:=hB.ext EA;clear Gr Ay
       go_upto_region 27 with fail
       unfold S at Aq EA N6 BM;generalize wr.alloc (.cells #[.slice A' pg.length c',.string ⟨un.toArray⟩,.slice none 0 0] 95)=W3 at *;obtain⟨b8,FG⟩:=Am8 wr.heap.size;rw [←FG]at Aq ⊢
       have Alk:bg+1<b8:=by obtain⟨cu,ZX⟩:=Ob hG.os;have:=AmA ZX;omega
       have y1:=Ab (o:=1) Aq rfl;have CL:∃z,gl[k]?=some z:=⟨_,AmH (by rw [hG.lg];exact hkn)⟩;have VI:∃z,ul[k]?=some z:=⟨_,AmH (by rw [hG.lu];exact hkn)⟩;obtain⟨zg,CL⟩:=CL;obtain⟨zu,VI⟩:=VI;have c1:W3.cell? ⟨bg,k,none⟩=some (.int .i64 zg):=(by rw [N6.og.cellAt k (by omega)];simp [zs,CL]);have c2:W3.cell? ⟨bg+1,k,none⟩=some (S zu):=(by rw [N6.os.cellAt k (by omega)];simp [VI]);have f1:=N6.og.frozenAt k;have f2:=N6.os.frozenAt k;have GI:=N6.step hkn (by omega);rw [hgd]at GI;have Ow:=Am9 GI;have TC:=Am9 BM;unfold S at y1 c2;have bG:bg≠bg+1:=(by omega);have EU:b8≠bg:=(by omega);have AlO:b8≠bg+1:=(by omega);clear FG N6 GI BM hG hB CL VI hgd AE AS Bt EA Aq BU
       go_region
       go_wp2;go_roundw
       case rel=>exact⟨k+1,_,_,by go_num,hkn,⟨Ow.out.lg,Ow.out.lu,Ow.out.g,Ow.out.u,AI Ow.out.og (Aa.refl _).drew,AI Ow.out.os (Aa.refl _).drew⟩,((TC.out.setCell (p:=⟨bg,k,none⟩) (.inl (.inl rfl)) _).setCell (p:=⟨bg+1,k,none⟩) (.inl (.inr rfl)) _).ext (Aa.refl _).drew⟩
       case measure=>simp [intOf];omega
      ·have Bw:k=i:=(by omega);subst Bw;have hd:decide (k<k)=false:=(by simp);have Ca:decide ((k:Int)<(k:Int))=false:=(by simp);have ET:Dp wr bl (B8 P k):=(hB.block _ (AmA Ky) (fun e=>by rcases e with e|e<;>omega)).trans Ky;have Zz:=(hB.block _ (AmA Mg) (fun e=>by rcases e with e|e<;>omega)).trans Mg;clear hB Ky Mg Mk rI;obtain⟨L0,Zo⟩:=Am8 (B8 P k);rw [←Zo]at ET;unfold Dp at ET;have hrg:=C0.range (enc:=As) (E:=stamp L0) (t:=131) Tryz.underlying131 (W:=wr) (b:=bl) (by rw [Dn];exact ET);obtain⟨hr1,hr2⟩:=hrg;have E8:=(Aa.refl wr).alloc (.mapIter (some bl) (stamp L0).length #[] (stamp L0).length);have Ry:=(E8.block _ (AmA ET)).trans ET;have ZF:=BU.trans E8;have Z0:=(E8.block _ (AmA Zz)).trans Zz;have Ma:Na P k k bg (bg+1) gl ul (wr.alloc (.mapIter (some bl) (stamp L0).length #[] (stamp L0).length)):=⟨hG.lg,hG.lu,hG.g,hG.u,AI hG.og E8,AI hG.os E8⟩;have Adg:=AmA ET;obtain⟨cu7,uI⟩:=Ob hG.os;have AdB:=AmA uI;have G6:=Am9 Zo;clear Zo hG Zz BU E8 hd Ca
       go_upto_region 30 with fail
       clear hr1 ET;obtain⟨bt,FI⟩:=Am8 wr.heap.size;rw [←FI]at hr2 ⊢;generalize wr.alloc (.mapIter (some bl) (stamp L0).length #[] (stamp L0).length)=W8 at *;have Alq:bl<bt:=(by omega);have Er:bg+1<bt:=(by omega);clear FI Adg uI AdB
       go_loopw [106] (fun v wx=>v=v/\∃seen,C0 wx bt bl (stamp L0) seen/\Au (fun q=>q=bt) W8 wx) (fun _ wx=>L0.length-(wx.iterSeen bt).size)
       case atStart=>exact⟨rfl,[],hr2,Au.refl _ _⟩
       case round=>
        obtain⟨-,seen,hI,hB⟩:=hrel;have IE:=(hB.block bl (AmA Ry) (by omega)).trans Ry;have ZO:=IE;rw [←Dn]at ZO;have K2:Aa w wr:=hB.toExt ZF (fun q e=>by subst e;omega)
        rcases C0.next As hI ZO (iM L0) (by omega) 0 with⟨hlen,hrun⟩|⟨j,hj,Gq,W9,OU,hG9,hs9,hrun,hen⟩
        ·have Xp:=Am9 hlen
         obtain⟨eh,PS⟩:wr.ownsRow 0 3 1 (.slice (some ⟨bg,0,none⟩) k k) k (zs gl)/\wr.ownsRow 0 9 1 (.slice (some ⟨bg+1,0,none⟩) k k) k (ul.map S):=
          ⟨CB Ma.og hB (fun q hq e=>by simp only [Value.ownBlock,AmG]at hq;omega),CB Ma.os hB (fun q hq e=>by simp only [Value.ownBlock,AmG]at hq;omega)⟩
         have UL:=AmA Z0;have Mh:=(hB.block _ UL (by omega)).trans Z0;have HG:=Am9 Ma;have em:=pD wr;have en:=@pC wr
         have eb:Aa wr (Nw wr):=((Aa.refl wr).alloc _).alloc _ |>.alloc _
         clear hlen hB hI Z0 ZF Ry Ma ZO hr2
         go_upto_region 35 with fail
         clear hrun;generalize Nw wr=V0 at *;obtain⟨wb,NW⟩:=Am8 wr.heap.size;rw [←NW]at em en;have Amh:w.heap.size<=wb:=by have:=K2.size;omega
         have Alm:bg+1<wb:=by obtain⟨cu,ZX⟩:=Ob PS;have:=AmA ZX;omega
         have Alo:bl<wb:=(by have:=AmA IE;omega);have hRb:w.heap.size<wb:=(by have:=AmA Mh;omega);have XH:=Am9 NW;clear NW;(go_wp2_with fail);(with_reducible refine em.mono ?_);rintro e w10 ⟨rfl,hw10⟩;rw [hw10];clear hw10 em;have RD:=K2;have Pe:=K2.trans eb;have Me:=(eb.block _ (AmA IE)).trans IE;have kw:=fun W=>dV (some bl) W;have LA:=(Aa.refl V0).alloc (.cells #[.map (some bl)] 131);have BQ:=AmB V0 (.cells #[.map (some bl)] 131);have J7:=(LA.block _ (AmA Me)).trans Me;have sk:=iI hw (Pe.trans LA) V0.heap.size bl L0 (AmA BQ) (Ab BQ rfl) J7 (fun e he=>Jp.out e (by rw [←G6.out];exact he)) (by have:=F3.out;rw [←G6.out]at this;omega);obtain⟨ws,NX⟩:=Am8 (B7 (L0.map (·.1)));have hwl:ws.length=L0.length:=(by rw [NX,(Jh _).length_eq];simp);rw [←NX,←hwl]at sk;have Amj:ws.length<=10000:=(by have:=F3.out;rw [←G6.out]at this;omega);have LK:=Am9 NX;clear NX hwl;(go_wp2_with fail);(with_reducible refine(kw _).mono ?_);rintro e w11 ⟨rfl,rfl⟩;(go_wp2_with fail);(with_reducible refine sk.mono ?_);rintro e Qo ⟨sv,rfl,hS12,hE12⟩;obtain⟨sA,sc,rfl,-,-,-⟩:=Ae.of_own' (by omega) hS12;have T9:=LA.trans hE12;have AcW:=Pe.trans T9;have LC:=eb.trans T9;have Zr:=en.ext T9;have dx:=AI eh LC;have fh:=AI PS LC;have rM:=(LC.block _ (AmA IE)).trans IE;have rV:=(LC.block _ (AmA Mh)).trans Mh;have hVl:wb+3<=V0.heap.size:=(by have:=AmA en.cell;omega);have HQ:=Am9 (And.intro RD (And.intro LC (And.intro PS Mh)));clear kw sk BQ J7 Me Pe eb en IE Mh eh PS LA hE12 T9 LC K2 RD;have Ami:(0:Int)<=(ws.length:Int):=by omega
         go_upto_region 37 with fail
         have hadd:DN L0 ws=C2.map (fun e=>(Bc Ec e,e.l,e.r)):=(by rw [LK.out,G6.out];exact o5.out);have U5:wb<=Qo.heap.size:=(by have:=AmA Zr.cell;omega);have BR:wb<=wb+2:=(by omega);have Xg:=Am9 hadd
         have XI:=Am9 (show ∀s∈ws,∃e∈L0,e.1=s from fun s hs=>by
          rw [LK.out]at hs;obtain⟨e,he,h1⟩:=List.mem_map.1 ((Jh _).mem_iff.1 hs)
          exact⟨e,he,h1⟩)
         clear hadd
         go_loopw [143] (fun kv wk=>∃(q j:Nat) (E:List (Pt×Value×Nat)),kv=.int .i64 (q:Nat)/\q<=ws.length/\j=(DN L0 (ws.take q)).length/\Bq wb wk (wb+2) wb (wb+1) (AL Ec (C2.take j)) E (Cy Ec (C2.take j))/\Q9 Qo wk wb (wb+1)/\Below wb Qo wk) (fun kv _=>ws.length-(intOf kv).toNat)
         case atStart=>exact⟨0,0,[],rfl,by omega,rfl,by simpa [AL,Cy]using Zr,fun _ _ h _ _ _=>h,Below.refl _ _⟩
         case round=>
          obtain⟨q,j,E,rfl,hq,hj,hN,hK,hBl⟩:=hrel;have Mi:=fH hS12 hK (fun k hk=>by have:=(hS12.lt k hk).1;rw [AmJ]at this;omega) (by decide);have ei:=fH dx hK (fun k hk=>by simp only [Value.ownBlock,AmG]at hk;omega) (by decide);have osr:=fH fh hK (fun k hk=>by simp only [Value.ownBlock,AmG]at hk;omega) (by decide);have El:=hK bl _ rM (by omega) (by omega) (fun cs e=>by cases e);have Pb:=hK _ _ rV (by omega) (by omega) (fun cs e=>by simp only [Obj.cells.injEq]at e;exact absurd e.2.1 (by decide));have BI:Aa w wr:=AcW.trans_below hBl (by omega);by_cases IT:q<ws.length
          ·obtain⟨b,o,rfl,f1,f2,f3,f4⟩:=MS (MO (by omega) Mi) IT;obtain⟨e1,KD,KE⟩:=XI.out _ (AmD IT);have cX:=XF.out e1 (by rw [←G6.out];exact KD);have hsz:=Jp.out e1 (by rw [←G6.out];exact KD);rw [←G6.out]at cX;obtain⟨e2,Hz,hf2⟩:=VY (s:=ws[q]) (L:=L0) (by rw [←KE];exact List.mem_map_of_mem KD);have hfr:=XF.out e2 (by rw [←G6.out];exact Hz);rw [←hf2]at hfr;rw [KE]at hsz;have xY:∀z,lookO (AQ ws[q]) L0=some z→0<=z/\z<(k:Int):=fun z hz=>(by have:=cX.2.2 z (by rw [KE];exact hz);exact⟨this.1,this.2.1⟩);replace hfr:0<=AG ws[q] L0/\AG ws[q] L0<(k:Int):=⟨hfr.1,hfr.2.1⟩;clear cX;have Ib:=lL (L0:=L0) IT;have Er:=fun x hx=>xo (L0:=L0) (x:=x) IT hx;rw [←hj]at Er;obtain⟨s,hs⟩:=Am8 (ws[q]);rw [←hs]at f1 f2 f3 f4 xY hsz hfr Ib Er;obtain⟨fi,CY⟩:∃fi:Nat,AG s L0=(fi:Int):=⟨(AG s L0).toNat,by omega⟩;have LJ:=Am9 Ib;have LH:=Am9 Er;have HJ:=Am9 hj;have AE:(0:Int)<=(q:Int):=(by omega);have AS:(q:Int)<(ws.length:Int):=(by omega);have EA:=(Aa.refl wr).alloc (.cells #[S (R s.a.x),S (R s.a.y),S (R s.b.x),S (R s.b.y)] 155);have Aq:=AmB wr (.cells #[S (R s.a.x),S (R s.a.y),S (R s.b.x),S (R s.b.y)] 155);clear hs KE KD e1 Hz hf2 Ib Er hj
           go_upto_region 39 with fail
           unfold S at Aq EA;generalize wr.alloc (.cells #[.string ⟨(R s.a.x).toArray⟩,.string ⟨(R s.a.y).toArray⟩,.string ⟨(R s.b.x).toArray⟩,.string ⟨(R s.b.y).toArray⟩] 155)=V at *;obtain⟨bx,Aw⟩:=Am8 wr.heap.size;rw [←Aw]at Aq ⊢;clear Aw f1 f2 f3 f4;have y0:=Ab (o:=0) Aq rfl;have y1:=Ab (o:=1) Aq rfl;have y2:=Ab (o:=2) Aq rfl;have y3:=Ab (o:=3) Aq rfl;have bk1:=Uf s V;unfold As S at bk1;(go_wp2_with fail);(with_reducible refine bk1.mono ?_);rintro e V2 ⟨rfl,hx11⟩;have GM:=EA.trans hx11;have N8:=(GM.block _ (AmA El)).trans El;have lk:=jq (AQ s) L0 (W:=V2) N8;have NY:=Qh s L0 (W:=V2) N8;rw [CY]at NY;have ogV:=AI ei GM;have Mo:=(hx11.block _ (AmA Aq)).trans Aq;have z0:=Ab (o:=0) Mo rfl;have z1:=Ab (o:=1) Mo rfl;have z2:=Ab (o:=2) Mo rfl;have z3:=Ab (o:=3) Mo rfl;have hG:=HG.out;have NH:fi<k:=(by omega);unfold As S at lk NY;clear bk1 y0 y1 y2 y3 Aq;have rt:=fun (x:Nat) (hx:x<k) (V3:World) (h3:Aa V2 V3)=>Aix (l:=gl) (k:=x) (c:=k) (by rw [hG.lg];exact hx) (by have:=hG.g x hx;rw [AmH (by rw [hG.lg];exact hx)]at this;exact Option.some.inj this) (MO (by omega) (AI ogV h3));rw [hG.lg]at rt
           cases hlo:lookO (AQ s) L0 with
           | none=>
            rw [hlo]at lk;simp only [Option.getD_none,Option.isSome_none]at lk;have GN:I0 L0 s=some (s,(fi:Int),-1):=(by unfold I0;rw [hlo,CY]);have NI:=LH.out _ GN;rw [Xg.out,List.getElem?_map]at NI;obtain⟨e0,II,RS⟩:=Option.map_eq_some_iff.1 NI;simp only [Prod.mk.injEq]at RS;obtain⟨Kt,Rb,Rc⟩:=RS
            have AW:j<C2.length:=by
             rcases Nat.lt_or_ge j C2.length with h|h
             ·exact h
             ·rw [List.getElem?_eq_none h]at II;cases II
            have KC:C2[j]=e0:=(by rw [AmH AW]at II;exact Option.some.inj II);have DC:=TE.out.keys AW;have Ss:=TE.out.ne _ (AmD AW);rw [KC,Kt]at DC Ss
            have R2:AL Ec (C2.take (j+1))=AL Ec (C2.take j) ++ [(s,(fi:Int)),(AQ s,-1)]:=by rw [AmF AW,Wk,KC,Kt,Rb,Rc]
            have R7:Cy Ec (C2.take (j+1))=CG (CG (Cy Ec (C2.take j)) s.a s.b) s.b s.a:=by rw [AmF AW,Wl,KC,Kt]
            have hrl:=SU Ec (C2.take j);have hjn:j+1=(DN L0 (ws.take (q+1))).length:=(by rw [LJ.out,List.length_append,←HJ.out,GN];rfl);have Xv:=Am9 R2;have Xw:=Am9 R7;have Jn:=Am9 hjn;clear hlo GN NI II KC Kt Rb Rc R2 R7 hjn;have r1:=rt fi NH
            go_upto_region 43 with fail
            have r2:=r1 V2 (Aa.refl _);(go_wp2_with fail);(with_reducible refine r2.mono ?_);rintro e V3 ⟨rfl,hx13⟩;have Gh:=hN.ext (GM.trans hx13);have Ali:=BI.trans (GM.trans hx13);have hb3:wb<=V3.heap.size:=(by have:=AmA Gh.cell;omega);have ad:=Ya Gh hb3 s (fi:Int) (-1) DC.1 DC.2 Ss (fun e he=>by have:=hrl e he;rw [List.length_take]at this;omega);have hb4:=(hx13.block _ (AmA Mo)).trans Mo;have x0:=Ab (o:=0) hb4 rfl;have x1:=Ab (o:=1) hb4 rfl;have x2:=Ab (o:=2) hb4 rfl;have x3:=Ab (o:=3) hb4 rfl;have uT:¬((fi:Int) = -1):=(by omega);have hf2:((fi:Int) == -1)=false:=beq_false_of_ne uT;have hf3:((fi:Int) != -1)=true:=(by rw [bne,hf2];rfl);unfold As S at ad;clear r1 r2 rt lk NY z0 z1 z2 z3;(go_wp2_with fail);(with_reducible refine ad.mono ?_);rintro e V4 ⟨rfl,N3,hK4,E4,GK⟩;rw [←Xv.out,←Xw.out]at GK;have Zn:=PI hK (PI (VS (GM.trans hx13)) hK4);have Ze:=hBl.trans ((Below.mono (GM.trans hx13) (by have:=hBl.size;omega)).trans N3);clear ad x0 x1 x2 x3 Gh;go_wp2;go_roundw
            case rel=>exact⟨q+1,j+1,E4,by go_num,IT,Jn.out,GK,Zn,Ze⟩
            case measure=>simp [intOf];omega
           | some u=>
            rw [hlo]at lk;simp only [Option.getD_some,Option.isSome_some]at lk;obtain⟨hu0,hu1⟩:=xY u hlo;obtain⟨ui,rfl⟩:∃ui:Nat,u=(ui:Int):=⟨u.toNat,by omega⟩;have JG:ui<k:=(by omega);have r1:=rt ui JG;have jb:=rt fi NH;have PW:=fun (V3:World) (h3:Aa w V3)=>Ik s.a s.b hsz.a hsz.b (by omega) (by omega) V3 (hw.ext h3)
            go_upto_region 42 with fail
            have r2:=r1 V2 (Aa.refl _);(go_wp2_with fail);(with_reducible refine r2.mono ?_);rintro e V3 ⟨rfl,BN⟩;have eC:=Qh s L0 (W:=V3) ((BN.block _ (AmA N8)).trans N8);rw [CY]at eC;have w0:=BN.cellS z0;have w1:=BN.cellS z1;have w2:=BN.cellS z2;have w3:=BN.cellS z3;unfold As S at eC;clear r2 r1 lk NY z0 z1 z2 z3;have r3:=jb V3 BN;(go_wp2_with fail);(with_reducible refine r3.mono ?_);rintro e V4 ⟨rfl,hx13⟩;have RA:=GM.trans (BN.trans hx13);have AcZ:=BI.trans RA;have hb4:=((BN.trans hx13).block _ (AmA Mo)).trans Mo;have x0:=Ab (o:=0) hb4 rfl;have x1:=Ab (o:=1) hb4 rfl;have x2:=Ab (o:=2) hb4 rfl;have x3:=Ab (o:=3) hb4 rfl;have hK4:=PI hK (VS RA);have N3:=hBl.trans (Below.mono RA (by have:=hBl.size;omega));have GK:=hN.ext RA;clear r3 jb rt eC w0 w1 w2 w3;by_cases uY:fi=ui
            ·subst uY;have GN:I0 L0 s=none:=(by unfold I0;rw [hlo,CY];simp);have hjn:j=(DN L0 (ws.take (q+1))).length:=(by rw [LJ.out,List.length_append,←HJ.out,GN];rfl);have Jn:=Am9 hjn;clear GN hjn hlo PW;go_wp2;go_roundw
             case rel=>exact⟨q+1,j,E,by go_num,IT,Jn.out,GK,hK4,N3⟩
             case measure=>simp [intOf];omega
            ·have uZ:¬((fi:Int)=(ui:Int)):=(by omega);have hf2:((fi:Int) == (ui:Int))=false:=beq_false_of_ne uZ;have hf3:((fi:Int) != (ui:Int))=true:=(by rw [bne,hf2];rfl);have uU:(fi == ui)=false:=beq_false_of_ne uY;have p1:=PW V4 AcZ;obtain⟨z,hz⟩:=Am8 (AX s.a s.b);rw [←hz]at p1;unfold Ak S at p1;clear PW;(go_wp2_with fail);(with_reducible refine p1.mono ?_);rintro e V5 ⟨rfl,hx14⟩;have Alh:=RA.trans hx14;clear p1 x0 x1 x2 x3;by_cases Ie:z<0
             ·have GN:I0 L0 s=some (s,(fi:Int),(ui:Int)):=by unfold I0;rw [hlo,CY];simp only;rw [if_pos ⟨uZ,by rw [←hz];exact Ie⟩]
              have NI:=LH.out _ GN;rw [Xg.out,List.getElem?_map]at NI;obtain⟨e0,II,RS⟩:=Option.map_eq_some_iff.1 NI;simp only [Prod.mk.injEq]at RS;obtain⟨Kt,Rb,Rc⟩:=RS
              have AW:j<C2.length:=by
               rcases Nat.lt_or_ge j C2.length with h|h
               ·exact h
               ·rw [List.getElem?_eq_none h]at II;cases II
              have KC:C2[j]=e0:=(by rw [AmH AW]at II;exact Option.some.inj II);have DC:=TE.out.keys AW;have Ss:=TE.out.ne _ (AmD AW);rw [KC,Kt]at DC Ss
              have R2:AL Ec (C2.take (j+1))=AL Ec (C2.take j) ++ [(s,(fi:Int)),(AQ s,(ui:Int))]:=by rw [AmF AW,Wk,KC,Kt,Rb,Rc]
              have R7:Cy Ec (C2.take (j+1))=CG (CG (Cy Ec (C2.take j)) s.a s.b) s.b s.a:=by rw [AmF AW,Wl,KC,Kt]
              have hrl:=SU Ec (C2.take j);have hjn:j+1=(DN L0 (ws.take (q+1))).length:=(by rw [LJ.out,List.length_append,←HJ.out,GN];rfl);have Xv:=Am9 R2;have Xw:=Am9 R7;have Jn:=Am9 hjn;clear hlo GN NI II KC Kt Rb Rc R2 R7 hjn hz;have NA:=GK.ext hx14;have hb5:wb<=V5.heap.size:=(by have:=AmA NA.cell;omega);have ad:=Ya NA hb5 s (fi:Int) (ui:Int) DC.1 DC.2 Ss (fun e he=>by have:=hrl e he;rw [List.length_take]at this;omega);have IB:=(hx14.block _ (AmA hb4)).trans hb4;have x0:=Ab (o:=0) IB rfl;have x1:=Ab (o:=1) IB rfl;have x2:=Ab (o:=2) IB rfl;have x3:=Ab (o:=3) IB rfl;unfold As S at ad;(go_wp2_with fail);(with_reducible refine ad.mono ?_);rintro e V6 ⟨rfl,hBl6,hK6,E6,UF⟩;rw [←Xv.out,←Xw.out]at UF;have hK7:=PI (PI hK4 (VS hx14)) hK6;have Ac6:=(N3.trans (Below.mono hx14 (by have:=N3.size;omega))).trans hBl6;clear ad x0 x1 x2 x3 NA;go_wp2;go_roundw
              case rel=>exact⟨q+1,j+1,E6,by go_num,IT,Jn.out,UF,hK7,Ac6⟩
              case measure=>simp [intOf];omega
             ·have GN:I0 L0 s=none:=by unfold I0;rw [hlo];simp only;rw [if_neg (fun h=>by rw [←hz]at h;exact Ie h.2)]
              have hjn:j=(DN L0 (ws.take (q+1))).length:=(by rw [LJ.out,List.length_append,←HJ.out,GN];rfl);have Jn:=Am9 hjn;have Zn:=PI hK4 (VS hx14);have Ze:=N3.trans (Below.mono hx14 (by have:=N3.size;omega));have NA:=GK.ext hx14;clear GN hjn hlo hz;go_wp2;go_roundw
              case rel=>exact⟨q+1,j,E,by go_num,IT,Jn.out,NA,Zn,Ze⟩
              case measure=>simp [intOf];omega
          ·have hqe:q=ws.length:=(by omega);subst hqe;rw [List.take_length,Xg.out,List.length_map]at hj;subst hj;rw [List.take_length]at hN;obtain⟨RD,LC,PS,Mh⟩:=HQ.out;have Gi:=ru.out;have sS:=LC.trans_below hBl (by rw [XH.out];exact AmC _);have rQ:=hN.base XH.out;have ag:=lO (hw.ext RD) sS rQ rfl (ay Ec C2) Gi.wo Gi.gr (by rw [eP];omega) (fun e he=>by have:=SU Ec C2 e he;omega) k (by omega) Gi.lf Gi.r1 rfl rfl;rw [Gi.op]at ag;have hd:decide (ws.length<ws.length)=false:=(by simp);have Ca:decide ((ws.length:Int)<(ws.length:Int))=false:=(by simp);clear Mi ei osr El Pb hN hK hBl hS12 dx fh rM rV Zr HQ
           go_upto_region 47 with fail
           (go_wp2_with fail);(with_reducible refine ag.mono ?_);rintro e w14 ⟨rfl,hx14,hN14⟩;have sQ:=RD.trans hx14;have fj:=AI PS hx14;have rW:=(hx14.block _ (AmA Mh)).trans Mh
           have Ae7:ul=P.map (·.2):=by
            have hG:=HG.out;apply List.ext_getElem?;intro j
            rcases Nat.lt_or_ge j k with h|h
            ·rw [hG.u j h];have H6:j<P.length:=(by rw [←HN.out];exact h);simp [List.getD_eq_getElem?_getD,AmH H6]
            ·rw [List.getElem?_eq_none (by rw [hG.lu];exact h),List.getElem?_eq_none (by rw [List.length_map,←HN.out];exact h)]
           have cY:=HG.out.lu;have can:=Aak (st:=st) (pts:=pts) hw sQ hN14 Gi.hz (by have:=Gi.ln;omega) Gi.rl Gi.nd Gi.no Gi.sz (by rw [eP];omega) Gi.bk (some ⟨bg+1,0,none⟩) k ul (MO (by omega) fj) (fun x hx=>by cases hx;have:=hx14.size;have:=XH.out;show bg+1<_;omega) (by omega) (fun x hx=>by rw [cY];exact Gi.lf x hx) TG.out rfl (by rw [Ae7];exact HST.out);rw [cY]at can;have hpl:pts.length<=400:=(by rw [TG.out,(JU _).length_eq,List.length_map];exact Gi.ln);clear ag fj hN14 rQ sS hx14 cY;(go_wp2_with fail);(with_reducible refine can.mono ?_);rintro e w15 ⟨pA,pB,pF,pc,pd,pg,rfl,hcaps,hA15,hB15,hF15,-,hx15⟩;unfold Dk;have Zw:=(hx15.block _ (AmA rW)).trans rW;have AcX:=sQ.trans hx15;have Qw:=(Aa.refl w15).alloc (.cells #[.slice pA pts.length pc,.slice pB st.ed.length pd,.slice pF st.fa.length pg] 36);have RG:=AmB w15 (.cells #[.slice pA pts.length pc,.slice pB st.ed.length pd,.slice pF st.fa.length pg] 36);have I9:=(Qw.block _ (AmA Zw)).trans Zw;have AcY:=AcX.trans Qw;have gA:=hA15.ext Qw;have gB:=hB15.ext Qw;have gF:=hF15.ext Qw;have AlQ:¬(400<(pts.length:Int)):=(by omega);have AeG:=AmA Zw
           go_upto_region 51 with fail
           generalize w15.alloc (.cells #[.slice pA pts.length pc,.slice pB st.ed.length pd,.slice pF st.fa.length pg] 36)=W16 at *;obtain⟨b32,tD⟩:=Am8 w15.heap.size;rw [←tD]at RG AeG ⊢;clear tD can;have m0:=Ab (o:=0) RG rfl;have m1:=Ab (o:=1) RG rfl;have m2:=Ab (o:=2) RG rfl;have r0:=Ab (o:=0) I9 rfl;have r1:=Ab (o:=1) I9 rfl;have r2:=Ab (o:=2) I9 rfl;have r3:=AV (o:=0) I9;have r4:=AV (o:=1) I9;have r5:=AV (o:=2) I9;have FR:=Yq (.slice pA pts.length pc) (.slice pB st.ed.length pd) (.slice pF st.fa.length pg) I9;have bb:=(((Au.refl (fun q=>q=w.heap.size) W16).setCell (p:=⟨w.heap.size,0,none⟩) (.inl rfl) (.slice pA pts.length pc)).setCell (p:=⟨w.heap.size,1,none⟩) (.inl rfl) (.slice pB st.ed.length pd)).setCell (p:=⟨w.heap.size,2,none⟩) (.inl rfl) (.slice pF st.fa.length pg);have t1:=Ab (o:=0) FR rfl;have t2:=Ab (o:=1) FR rfl;have t3:=Ab (o:=2) FR rfl;have RB:=bb.toExt AcY (fun q e=>by subst e;exact AmC _);have fA:=gG gA bb I9 (fun j hj=>by obtain⟨s,h⟩:=qL hj;rw [h];simp);have fB:=gG gB bb I9 (fun j hj=>by obtain⟨s,h⟩:=oY hj;rw [h];simp);have fF:=gG gF bb I9 (fun j hj=>by rw [List.getElem_map];simp);have CC:=Am9 (And.intro fA (And.intro fB (And.intro fF RB)));clear gA gB gF fA fB fF bb FR I9 RB RG;go_wp2;refine bodyPost_ret (v:=.tuple #[.agg #[.slice pA pts.length pc,.slice pB st.ed.length pd,.slice pF st.fa.length pg],.int .i64 0]) (by simp [results,Tryz.results44,go_sem,t1,t2,t3]) rfl ?_;exact⟨pA,pB,pF,pc,pd,pg,rfl,hcaps,CC.out.1,CC.out.2.1,CC.out.2.2.1,rfl,CC.out.2.2.2⟩
        ·have vH:j<L0.length:=(by rw [Dn]at hj;exact hj);rw [WR,iO]at hrun hen
         have hlen':seen.length<L0.length:=by
          have h2:(j::seen) ⊆ List.range L0.length:=by
           intro q hq
           rcases List.mem_cons.1 hq with rfl|hq
           ·simpa using vH
           ·have:=hI.lt q hq;rw [Dn]at this;simpa using this
          have:=(List.nodup_cons.2 ⟨Gq,hI.nd⟩).length_le_of_subset h2;simp at this;omega
         have LZ:=hB.grown hG9 (fun q e=>by cases e;exact .inl rfl);have NL:=AmD vH;obtain⟨s,hs⟩:=Am8 (L0[j].1);obtain⟨z,hz⟩:=Am8 (L0[j].2);have hin:=XF.out L0[j] (by rw [←G6.out];exact NL);rw [←hs,←hz]at hin;rw [←hs,←hz]at hrun hen;obtain⟨hz0,hz1,FM⟩:=hin;obtain⟨zi,rfl⟩:∃zi:Nat,z=(zi:Int):=⟨z.toNat,by omega⟩;have hsz:Eh 200 s:=(by rw [hs];exact Jp.out _ (by rw [←G6.out];exact NL));have EA:=(Aa.refl W9).alloc (.cells #[S (R s.a.x),S (R s.a.y),S (R s.b.x),S (R s.b.y)] 155);have Aq:=AmB W9 (.cells #[S (R s.a.x),S (R s.a.y),S (R s.b.x),S (R s.b.y)] 155);have e9:=hen W9 rfl rfl;unfold As at hrun e9;have bk:=fun (V:World)=>Uf s V;have ZN:=(EA.block _ (AmA ((hG9.block bl (AmA IE) (fun e=>by cases e;omega)).trans IE))).trans ((hG9.block bl (AmA IE) (fun e=>by cases e;omega)).trans IE);have qW:=LZ.ext EA;have Zl:C0 (W9.alloc (.cells #[S (R s.a.x),S (R s.a.y),S (R s.b.x),S (R s.b.y)] 155)) bt bl (stamp L0) (seen ++ [j]):=OU.keep (EA.block _ (AmA OU.it));have Xp:=Am9 (Ey hI);clear hs hz NL hen hs9
         go_upto_region 32 with fail
         unfold S at Aq EA ZN qW Zl;generalize W9.alloc (.cells #[.string ⟨(R s.a.x).toArray⟩,.string ⟨(R s.a.y).toArray⟩,.string ⟨(R s.b.x).toArray⟩,.string ⟨(R s.b.y).toArray⟩] 155)=V at *;obtain⟨bx,Aw⟩:=Am8 W9.heap.size;rw [←Aw]at Aq ⊢;clear Aw hrun e9 LZ hG9 OU EA;have y0:=Ab (o:=0) Aq rfl;have y1:=Ab (o:=1) Aq rfl;have y2:=Ab (o:=2) Aq rfl;have y3:=Ab (o:=3) Aq rfl;have bk1:=bk V;unfold As S at bk1;(go_wp2_with fail);(with_reducible refine bk1.mono ?_);rintro e V2 ⟨rfl,hx11⟩;have N1:=qW.ext hx11;have Kx:=Zl.keep (hx11.block _ (AmA Zl.it));have lk:=jq (AQ s) L0 (W:=V2) ((hx11.block _ (AmA ZN)).trans ZN);unfold As S at lk;clear bk1 bk y0 y1 y2 y3;have NB:Aa w V2:=N1.toExt ZF (fun q e=>by subst e;omega)
         obtain⟨Amu,fg⟩:V2.ownsRow 0 3 1 (.slice (some ⟨bg,0,none⟩) k k) k (zs gl)/\V2.ownsRow 0 9 1 (.slice (some ⟨bg+1,0,none⟩) k k) k (ul.map S):=
          ⟨CB Ma.og N1 (fun q hq e=>by simp only [Value.ownBlock,AmG]at hq;omega),CB Ma.os N1 (fun q hq e=>by simp only [Value.ownBlock,AmG]at hq;omega)⟩
         cases hlo:lookO (AQ s) L0 with
         | none=>
          rw [hlo]at lk;simp only [Option.getD_none,Option.isSome_none]at lk;have ri:=Am9 hlo;clear hlo
          go_upto_region 33 with fail
          refine Fe (by kernel_rfl) (by kernel_rfl) ?_
          repeat (go_big_quiet_step (fail))
          refine wpQuiet_nil ?_;rintro XU ⟨q,hq⟩;have BN:Aa V2 XU:=hq▸q.h;have Ru:=Kx.keep (BN.block _ (AmA Kx.it));have U5:=N1.ext BN;have Xq:=Am9 (Ey Ru);clear hq q lk Kx N1;go_wp2;go_roundw
          case rel=>exact⟨trivial,seen ++ [j],Ru,U5⟩
          case measure=>rw [Xp.out,Xq.out,List.length_append,List.length_singleton];omega
         | some u=>
          rw [hlo]at lk;simp only [Option.getD_some,Option.isSome_some]at lk;obtain⟨hu0,hu1,hne⟩:=FM u (by rw [←G6.out];exact hlo);obtain⟨ui,rfl⟩:∃ui:Nat,u=(ui:Int):=⟨u.toNat,by omega⟩;simp only [Int.toNat_natCast]at hne;have g1:=Ma.u zi (by omega);have g2:=Ma.u ui (by omega);obtain⟨s1,hs1⟩:=Am8 ((P.getD zi ([],[])).2);obtain⟨s2,hs2⟩:=Am8 ((P.getD ui ([],[])).2);rw [←hs1]at g1 hne;rw [←hs2]at g2 hne;have c1:=fg.cellAt zi (by omega);have c2:=fg.cellAt ui (by omega);rw [List.getElem?_map,g1]at c1;rw [List.getElem?_map,g2]at c2;simp only [Option.map_some]at c1 c2;have q1:∀q:Af V2,q.w.cell? ⟨bg+1,zi,none⟩=some (S s1):=Af.cell c1;have q2:∀q:Af V2,q.w.cell? ⟨bg+1,ui,none⟩=some (S s2):=Af.cell c2;have hb1:(s1 == s2)=false:=beq_false_of_ne hne;have ri:=Am9 hlo;clear hlo hs1 hs2 g1 g2 c1 c2 hne FM
          go_upto_region 33 with fail
          unfold S at q1 q2;refine Fe (by kernel_rfl) (by kernel_rfl) ?_
          repeat (go_big_quiet_step (fail))
          refine wpQuiet_nil ?_;rintro XU ⟨q,hq⟩;have BN:Aa V2 XU:=hq▸q.h;clear q1 q2;have Ru:=Kx.keep (BN.block _ (AmA Kx.it));have U5:=N1.ext BN;have Xq:=Am9 (Ey Ru);clear hq q lk Kx N1;go_wp2;go_roundw
          case rel=>exact⟨trivial,seen ++ [j],Ru,U5⟩
          case measure=>rw [Xp.out,Xq.out,List.length_append,List.length_singleton];omega
end Go.Proofs.YtjalkoacphhgdaaGreatDoor
