/- V40: BV BX BY. -/
import Derived.Test.YtbejphgbbpplbaaGreatDoorV38
import Derived.Test.YtbejphgbbpplbaaGreatDoorV33
import Derived.Test.YtbejphgbbpplbaaGreatDoorV39
set_option maxRecDepth 100000
set_option maxHeartbeats 16000000
namespace Go.Proofs.YtbejphgbbpplbaaGreatDoor
open Go.RowKit Kl Go.Shelf
def lookO(s:Sg)(L:List (Sg×Int)):Option Int:=(L.find? (fun e=>AK s e.1)).map (·.2)
theorem AiV{α:Type}{enc:α→Value}{same:α→α→Bool}{mt kt et:TypeId}{z:Value}(K:Js mt kt et z enc same)(k:α)(l:List (α×Value×Nat)){b clock:Nat}{W:World}(hb:W.heap[b]?=some (.map (Aw enc l).toArray clock)) :
  (Instr.lookup mt (.map (some b)) (enc k) true).run Tryz.prog W=.ok (.tuple #[Fb same z k l,.bool (l.find? (fun e=>same k e.1)).isSome]) W:=by
 have hf:=Rn K k l W;rw [zR]at hf;unfold Fb
 cases h:l.find? (fun e=>same k e.1)with
 | none=>
  rw [h]at hf
  have hf':(Instr.findKey kt (enc k) (Aw enc l)).run Tryz.prog W=.ok none W:=by rw [hf];cases Fa same k l<;>rfl
  simp [Instr.lookup,run_underlying K.map,MapKept.run_getObj_map hb,K.chk,hf',K.zero,Result.andThen]
 | some e=>
  have hi:(Fa same k l).isSome:=by unfold Fa;rw [List.findIdx?_isSome,List.any_eq_true];exact⟨e,List.mem_of_find?_eq_some h,(by have:=List.find?_some h;exact this)⟩
  obtain⟨j,hj⟩:=Option.isSome_iff_exists.1 hi;rw [h,hj]at hf;simp only [Option.bind_some,Option.map_some]at hf;simp [Instr.lookup,run_underlying K.map,MapKept.run_getObj_map hb,K.chk,hf,Result.andThen]
theorem AjE(s:Sg)(L:List (Sg×Int)):((stamp L).find? (fun e=>AK s e.1)).isSome=(lookO s L).isSome:=by
 unfold lookO;rw [Option.isSome_map,Bool.eq_iff_iff,List.find?_isSome,List.find?_isSome];constructor
 ·rintro⟨x,hx,h⟩;obtain⟨e,he,h1⟩:=jF hx;exact⟨e,he,by rw [←h1];exact h⟩
 ·rintro⟨e,he,h⟩;obtain⟨i,hi,rfl⟩:=List.getElem_of_mem he;have hi':i<(stamp L).length:=(by rw [Dp];exact hi);exact⟨(stamp L)[i],AmY hi',by rw [Xa];exact h⟩
theorem kz(s:Sg)(L:List (Sg×Int)){b:Nat}{W:World}(hb:W.heap[b]?=some (.map (Aw As (stamp L)).toArray L.length)) :
  (Instr.lookup 131 (.map (some b)) (As s) true).run Tryz.prog W=.ok (.tuple #[.int .i64 ((lookO s L).getD 0),.bool (lookO s L).isSome]) W:=by
 rw [AiV Wh s (stamp L) hb,dh,AjE]
 have:AI s L=(lookO s L).getD 0:=by
  unfold AI lookO
  cases L.find? (fun e=>AK s e.1)<;>rfl
 rw [this]
structure jS(P:List (List Pt×Bs)):Prop where
 so:lU P
 poly:∀e∈P,Nh e.1
 apart:∀(i k:Nat) (hi:i<P.length) (hk:k<i),(∀j,j<(P[k]'(by omega)).1.length→Lt P[i].1 (Bv (P[k]'(by omega)).1 j)∨JU P[i].1 (Bv (P[k]'(by omega)).1 j))/\∃j,j<(P[k]'(by omega)).1.length/\JU P[i].1 (Bv (P[k]'(by omega)).1 j)
def Iz(L0:List (Sg×Int))(s:Sg):Option (Sg×Int×Int):=match lookO (AP s) L0 with
 | none=>some (s,AI s L0,-1)
 | some u=>if AI s L0≠u/\AW s.a s.b < 0 then some (s,AI s L0,u)else none
def DV(L0:List (Sg×Int))(ws:List Sg):List (Sg×Int×Int):=ws.filterMap (Iz L0)
theorem mB{L0:List (Sg×Int)}{ws:List Sg}{k:Nat}(hk:k<ws.length):DV L0 (ws.take (k+1))=DV L0 (ws.take k)++(Iz L0 ws[k]).toList:=by
 unfold DV;rw [Ana hk,List.filterMap_append]
 congr 1
theorem yt{L0:List (Sg×Int)}{ws:List Sg}{k:Nat}(hk:k<ws.length){x:Sg×Int×Int}(hx:Iz L0 ws[k]=some x):(DV L0 ws)[(DV L0 (ws.take k)).length]?=some x:=by
 have h1:DV L0 ws=DV L0 (ws.take (k+1))++DV L0 (ws.drop (k+1)):=by unfold DV;rw [←List.filterMap_append,List.take_append_drop]
 rw [h1,mB hk,hx,List.append_assoc,List.getElem?_append_right (AmX _),Nat.sub_self]
 rfl
theorem fW{B:Nat}{w w':World}{e:TypeId}{s n:Nat}{v:Value}{xs:List Value}{b1 b2:Nat}(h:w.ownsRow B e s v n xs)(hk:∀(k:Nat) (o:Obj),w.heap[k]?=some o→k≠b1→k≠b2→(∀cs,o≠.cells cs 94 (0,0))→w'.heap[k]?=some o)(hne:∀k,v.ownBlock=some k→k≠b1/\k≠b2)(he:e≠94):w'.ownsRow B e s v n xs:=by
 refine⟨h.1,?_⟩
 rcases h.2 with h'|⟨g,cap,cur,e1,e2,hgb,e4⟩
 ·exact .inl h'
 ·refine .inr ⟨g,cap,cur,e1,e2,hk g _ hgb ?_ ?_ (fun cs e=>he (Obj.cells.inj e).2.1),e4⟩
  ·exact(hne g (by rw [e1];rfl)).1
  ·exact(hne g (by rw [e1];rfl)).2
def QB(w w':World)(b1 b2:Nat):Prop:=∀(k:Nat) (o:Obj),w.heap[k]?=some o→k≠b1→k≠b2→(∀cs,o≠.cells cs 94 (0,0))→w'.heap[k]?=some o
theorem PH{a b d:World}{b1 b2:Nat}(h:QB a b b1 b2)(k:QB b d b1 b2):QB a d b1 b2:=fun i o h1 h2 h3 h4=>k i o (h i o h1 h2 h3 h4) h2 h3 h4
theorem Wg{a b:World}{b1 b2:Nat}(hx:Aa a b):QB a b b1 b2:=fun _ _ h _ _ _=>(hx.block _ (AmV h)).trans h
structure MW(P:List (List Pt×Bs))(n k bg bs:Nat)(gl:List Int)(ul:List Bs)(W:World):Prop where
 lg:gl.length=n
 lu:ul.length=n
 g:∀j,j<k→gl[j]?=some (j:Int)
 u:∀j,j<k→ul[j]?=some (P.getD j ([],[])).2
 og:W.ownsRow 0 3 1 (.slice (some ⟨bg,0,none⟩) n n) n (zs gl)
 os:W.ownsRow 0 9 1 (.slice (some ⟨bs,0,none⟩) n n) n (ul.map S)
theorem MW.step{P:List (List Pt×Bs)}{n k bg bs:Nat}{gl:List Int}{ul:List Bs}{W:World}(h:MW P n k bg bs gl ul W)(hk:k<n)(hne:bg≠bs) :
  MW P n (k+1) bg bs (gl.set k (k:Int)) (ul.set k (P.getD k ([],[])).2) ((W.setCell ⟨bg,k,none⟩ (.int .i64 (k:Nat))).setCell ⟨bs,k,none⟩ (S (P.getD k ([],[])).2)):=by
 have g1:=(h.og.stored k (.int .i64 (k:Nat))).1;have g2:=ownsRow_setCell_other (a:=⟨bs,k,none⟩) g1 (by simp only [Value.ownBlock,ne_eq,Anb];exact hne) (S (P.getD k ([],[])).2);have u1:=ownsRow_setCell_other (a:=⟨bg,k,none⟩) h.os (by simp only [Value.ownBlock,ne_eq,Anb];exact fun e=>hne e.symm) (.int .i64 (k:Nat));have u2:=(u1.stored k (S (P.getD k ([],[])).2)).1;refine⟨by rw [List.length_set];exact h.lg,by rw [List.length_set];exact h.lu,fun j hj=>?_,fun j hj=>?_,by rw [←q9];exact g2,by rw [List.map_set];exact u2⟩
 ·by_cases e:j=k
  ·subst e;rw [List.getElem?_set_self (by rw [h.lg];exact hk)]
  ·rw [List.getElem?_set_ne (fun e'=>e e'.symm)];exact h.g j (by omega)
 ·by_cases e:j=k
  ·subst e;rw [List.getElem?_set_self (by rw [h.lu];exact hk)]
  ·rw [List.getElem?_set_ne (fun e'=>e e'.symm)];exact h.u j (by omega)
theorem Bo.base{B B':Nat}{W:World}{r b1 b2:Nat}{L:List (Sg×Int)}{E:List (Pt×Value×Nat)}{R:List (Pt×List Pt)}(h:Bo B W r b1 b2 L E R)(e:B=B'):Bo B' W r b1 b2 L E R:=e▸h
structure lJ(pts:List Pt)(eds:List Av)(n:Nat)(R1:List (Pt×List Pt)):Prop where
 eo:MV pts eds
 le:eds.length<=1000
 wo:OD ((AL pts eds).map (·.1))
 gr:∀s∈(AL pts eds).map (·.1),Ju s
 lf:∀x∈AL pts eds,-1<=x.2/\x.2<(n:Int)
 r1:R1=(C3 pts eds).map (fun e=>(e.1,DO e.1 e.2))
 op:(Ko (AL pts eds) n (Hu ((AL pts eds).map (·.1)) R1) (JS ((AL pts eds).map (·.1)) (Hu ((AL pts eds).map (·.1)) R1))).op=false
 hz:∀e∈R1,Ar 200 e.1/\∀p∈e.2,Ar 200 p
 ln:R1.length<=400
 rl:∀e∈R1,e.2.length<100000
 nd:(R1.map (·.1)).Nodup
 no:∀e∈R1,∀p q,e.2 = [p,q]→AD (Al p e.1 q)≠0
 sz:∀e∈AL pts eds,Ei 200 e.1
 bk:∀e∈AL pts eds,∃e'∈AL pts eds,e'.1=AP e.1
theorem pY{l:List Av}{j:Nat}(hj:j<(Bt l).length):∃z,(Bt l)[j]=.int .i64 z:=by
 have:=AmY hj;unfold Bt at this;rw [List.mem_flatMap]at this;obtain⟨p,_,h⟩:=this;simp only [List.mem_cons,Anj,or_false]at h
 rcases h with h|h|h|h<;>exact⟨_,h⟩
theorem iE{w w':World}{A:Option Addr}{l:List Value}{b:Nat}{a0 a1 a2:Value}{t:TypeId}(h:Ae w A l)(hb:Au (fun q=>q=b) w w')(hm:w.heap[b]?=some (.cells #[a0,a1,a2] t))(hne:∀(j:Nat) (hj:j<l.length),l[j]≠a0/\l[j]≠a1/\l[j]≠a2):Ae w' A l:=by
 refine⟨fun h0=>?_⟩;obtain⟨g,o,e,hc⟩:=h.ad h0;refine⟨g,o,e,fun j hj=>?_⟩;have h1:=hc j hj;refine(World.cell?_of_block (a:=⟨g,o+j,none⟩) (hb.block g (World.block_lt_of_cell? w _ h1) (fun e'=>?_))).trans h1;subst e';have h2:=Aa5 hm h1;obtain⟨n1,n2,n3⟩:=hne j hj
 match hn:o+j with
 | 0=>rw [hn]at h2;exact n1 (by simpa using h2.symm)
 | 1=>rw [hn]at h2;exact n2 (by simpa using h2.symm)
 | 2=>rw [hn]at h2;exact n3 (by simpa using h2.symm)
 | n+3=>rw [hn]at h2;simp at h2
def Qt(w:World)(m:Cm)(Am:List Bs)(e:Ending)(w':World):Prop:=
 ∃A Bk F c d g,e=.returned (.tuple #[C2 A Bk F m c d g,.int .i64 0])/\Jm m c d g/\Ae w' A (flat (Ao m.pts))/\Ae w' Bk (Bt m.eds)/\Ae w' F (Am.map S)/\m.nf=Am.length/\Aa w w'
theorem Aa7(P:List (List Pt×Bs))(hP:jS P)(Gw:0<P.length)(NT:∀e∈B9 P P.length,0<=e.2/\e.2<(P.length:Int)/\∀z,lookO (AP e.1) (B9 P P.length)=some z→0<=z/\z<(P.length:Int)/\(P.getD e.2.toNat ([],[])).2≠(P.getD z.toNat ([],[])).2)(IV:∀e∈B9 P P.length,Ei 200 e.1)(Dm:(B9 P P.length).length<=10000){Eg:List Pt}{C6:List Av}(hadd:DV (B9 P P.length) (B7 ((B9 P P.length).map (·.1)))=C6.map (fun e=>(AY Eg e,e.l,e.r))){R1:List (Pt×List Pt)}(GR:lJ Eg C6 P.length R1){pts:List Pt}(NN:pts=ED (R1.map (·.1))){st:G7}(hst:st=I1 (P.map (·.2)) (BM pts) (AL Eg C6) (B7 ((AL Eg C6).map (·.1))))(A:Option Addr)(c:Nat)(w:World)(hw:An w)(h:Jv w A c P) :
  Calls Tryz.prog 47 #[.slice A P.length c] w (Qt w ⟨pts,st.ed,st.fa.length⟩ st.fa):=by
 have hmm:=@run_makeMap Tryz.prog;have hlen:P.length<=1000:=hP.so.len;have hc1:=h.c1;have hc2:=h.c2;have HP:=AmU hP;have HA:=AmU h;obtain⟨n,hn⟩:=AmT P.length;rw [←hn]at hlen hc1 Gw NT IV Dm hadd GR ⊢;have rk:=AmU hadd;have vh:=AmU GR;have TK:=AmU GR.eo;have TM:=AmU NN;have HST:=AmU hst;have hel:=GR.le;have FA:=AmU Dm;have XL:=AmU NT;have Jp:=AmU IV;have HN:=AmU hn;have E1:=(Aa.refl w).alloc (.cells #[.slice none 0 0,.slice none 0 0,.slice none 0 0] 36);have hbr:=AmW w (.cells #[.slice none 0 0,.slice none 0 0,.slice none 0 0] 36);clear hP h hn NT IV Dm hadd GR NN hst;go_enter Tryz.func47,Tryz.ntmps47
 go_upto_region 4 with fail
 generalize w.alloc (.cells #[.slice none 0 0,.slice none 0 0,.slice none 0 0] 36)=W1 at *;have hl0:(0:Int)<=(n:Int):=by omega
 go_loopw [39] (fun iv wr=>∃k:Nat,iv=.int .i64 (k:Nat)/\k<=n/\Aa W1 wr) (fun iv _=>n-(intOf iv).toNat)
 case atStart=>exact⟨0,rfl,by omega,Aa.refl _⟩
 case round=>
  obtain⟨k,rfl,hk,hX⟩:=hrel;by_cases hkn:k<n
  ·have Px:k<P.length:=(by rw [←HN.out];exact hkn);obtain⟨bA,oA,A',c',rfl,AE,AQ,Bp,AO,hr1,hr2⟩:=HA.out.row k Px;have BQ:=E1.trans hX;replace AE:=BQ.cellS AE;replace AQ:=BQ.cellS AQ;replace Bp:=BQ.cellS Bp;have hk0:(0:Int)<=(k:Int):=(by omega);have Ci:(k:Int)<(n:Int):=(by omega);have IS:=HP.out.poly _ (AmY Px);have hsz:=HP.out.so.sz _ (AmY Px);obtain⟨pg,Gy⟩:=AmT (P[k].1);obtain⟨un,Ax⟩:=AmT (P[k].2);rw [←Gy]at AE AO hr1 IS hsz;rw [←Ax]at AQ;have EA:=(Aa.refl wr).alloc (.cells #[.slice A' pg.length c',S un,.slice none 0 0] 97);have Aq:=AmW wr (.cells #[.slice A' pg.length c',S un,.slice none 0 0] 97);have ck:=gQ pg IS hsz (by omega) (by omega) A' c' _ (hw.ext (BQ.trans EA)) (AO.ext (BQ.trans EA)) hr1 hr2;have y0:=Ab (o:=0) Aq rfl;clear Gy Ax IS hsz;(go_wp2_with fail);(with_reducible refine ck.mono ?_);rintro e w2 ⟨rfl,hx2⟩;go_wp2;go_roundw
   case rel=>exact⟨k+1,by go_num,hkn,(hX.trans EA).trans hx2⟩
   case measure=>simp [intOf];omega
  ·have B6:k=n:=(by omega);subst B6;have hd:decide (k<k)=false:=(by simp);have BW:decide ((k:Int)<(k:Int))=false:=by simp
   go_upto_region 11 with fail
   obtain⟨W2,rfl⟩:=eV hX;have C7:=E1.trans hX;have hR2:=(hX.block _ (AmV hbr)).trans hbr;clear hX hd BW E1 hbr
   go_loopw [53] (fun iv wr=>∃i:Nat,iv=.int .i64 (i:Nat)/\i<=k/\Aa W2 wr) (fun iv _=>k-(intOf iv).toNat)
   case atStart=>exact⟨0,rfl,by omega,Aa.refl _⟩
   case round=>
    obtain⟨i,rfl,hi,hX⟩:=hrel;have BQ:=C7.trans hX;by_cases hin:i<k
    ·have Mr:i<P.length:=(by rw [←HN.out];exact hin);obtain⟨bA,oA,A',c',rfl,AE,AQ,Bp,AO,hr1,hr2⟩:=HA.out.row i Mr;replace AE:=BQ.cellS AE;replace AQ:=BQ.cellS AQ;replace Bp:=BQ.cellS Bp;have NG:(0:Int)<=(i:Int):=(by omega);have Pv:(i:Int)<(k:Int):=(by omega);have IS:=HP.out.poly _ (AmY Mr);have hsz:=HP.out.so.sz _ (AmY Mr);have hap:=fun q (hq:q<i)=>HP.out.apart i q Mr hq;obtain⟨pg,Gy⟩:=AmT (P[i].1);obtain⟨un,Ax⟩:=AmT (P[i].2);rw [←Gy]at AE AO hr1 IS hsz hap;rw [←Ax]at AQ;have EA:=(Aa.refl wr).alloc (.cells #[.slice A' pg.length c',S un,.slice none 0 0] 97);have Aq:=AmW wr (.cells #[.slice A' pg.length c',S un,.slice none 0 0] 97);have rq:=AmU hap;clear Gy Ax hap
     go_upto_region 14 with fail
     unfold S at Aq EA;generalize wr.alloc (.cells #[.slice A' pg.length c',.string ⟨un.toArray⟩,.slice none 0 0] 97)=W3 at *;obtain⟨b8,FK⟩:=AmT wr.heap.size;rw [←FK]at Aq ⊢;clear FK AE AQ Bp;have GO:=hX.trans EA;have CY:=C7.trans GO;have y0:=Ab (o:=0) Aq rfl;clear EA hX Aq
     go_loopw [62] (fun jv wj=>∃j:Nat,jv=.int .i64 (j:Nat)/\j<=i/\Aa W3 wj) (fun jv _=>i-(intOf jv).toNat)
     case atStart=>exact⟨0,rfl,by omega,Aa.refl _⟩
     case round=>
      obtain⟨j,rfl,hj,Pf⟩:=hrel;have Pg:=CY.trans Pf;by_cases Si:j<i
      ·have Ia:j<P.length:=(by omega);obtain⟨bB,oB,B',d',he,AE,AQ,Bp,yC,hs1,hs2⟩:=HA.out.row j Ia;simp only [Anb,Addr.mk.injEq,and_true]at he;obtain⟨rfl,rfl⟩:=he;replace AE:=Pg.cellS AE;replace AQ:=Pg.cellS AQ;replace Bp:=Pg.cellS Bp;have hj0:(0:Int)<=(j:Int):=(by omega);have Ms:(j:Int)<(i:Int):=(by omega);obtain⟨Yk,Yl⟩:=rq.out j Si;have cS:=HP.out.poly _ (AmY Ia);have NR:=HP.out.so.sz _ (AmY Ia);obtain⟨qg,xO⟩:=AmT (P[j].1);obtain⟨un,Ax⟩:=AmT (P[j].2);rw [←xO]at AE yC hs1 cS NR Yk Yl;rw [←Ax]at AQ;have EA:=(Aa.refl wr).alloc (.cells #[.slice B' qg.length d',S un,.slice none 0 0] 97);have Aq:=AmW wr (.cells #[.slice B' qg.length d',S un,.slice none 0 0] 97);have it:=AfD pg qg IS cS hsz NR Yk Yl A' B' c' d' _ (hw.ext (Pg.trans EA)) (AO.ext (Pg.trans EA)) (yC.ext (Pg.trans EA)) hr1 hr2 hs1 hs2;have z0:=Ab (o:=0) Aq rfl;have z1:=EA.cellS (Pf.cellS y0);clear xO Ax Yk Yl cS NR;(go_wp2_with fail);(with_reducible refine it.mono ?_);rintro e w2 ⟨rfl,hx2⟩;go_wp2;go_roundw
       case rel=>exact⟨j+1,by go_num,Si,(Pf.trans EA).trans hx2⟩
       case measure=>simp [intOf];omega
      ·have JB:j=i:=(by omega);subst JB;go_wp2;go_roundw
       case rel=>exact⟨j+1,by go_num,hin,GO.trans Pf⟩
       case measure=>simp [intOf];omega
    ·have NH:i=k:=(by omega);subst NH;have hd:decide (i<i)=false:=(by simp);have BW:decide ((i:Int)<(i:Int))=false:=(by simp);have ps:=fun (V:World) (hV:Aa w V)=>Aih P HP.out.so A c V (hw.ext hV) (HA.out.ext hV);rw [←HN.out]at ps;have p1:=ps wr BQ;(go_wp2_with fail);(with_reducible refine p1.mono ?_);rintro e w4 ⟨bl,rfl,hML,hbl,Ai⟩;have Fw:=BQ.trans Ai;have AlB:w.heap.size<=bl:=(by have:=BQ.size;omega);have UO:=((hX.trans Ai).block _ (AmV hR2)).trans hR2;clear ps p1 hR2 C7 hX Ai BQ hd BW;have mki:=eh i (by omega) (i:Int) rfl w4;have E5:=(Aa.refl w4).alloc (.cells (madeCells #[.int .i64 0] i) 3);have mks:=AgH i (by omega) (i:Int) rfl (w4.alloc (.cells (madeCells #[.int .i64 0] i) 3))
     go_upto_region 25 with fail
     have og:=iw w4 0 i (Nat.zero_le _) (by omega);have os:=AhH (w4.alloc (.cells (madeCells #[.int .i64 0] i) 3)) 0 i (Nat.zero_le _) (by omega);rw [Anf]at os;have E6:=E5.alloc (.cells (madeCells #[S []] i) 9);have fJ:=AH og ((Aa.refl (w4.alloc (.cells (madeCells #[.int .i64 0] i) 3))).alloc (.cells (madeCells #[S []] i) 9));have Kz:=hML.ext E6;have Md:=(E6.block _ (AmV UO)).trans UO;have Mh:=Fw.trans E6;have yJ:((w4.alloc (.cells (madeCells #[.int .i64 0] i) 3)).alloc (.cells (madeCells #[S []] i) 9)).heap.size=w4.heap.size+2:=(by simp only [Anf]);obtain⟨bg,hbg⟩:=AmT w4.heap.size;rw [←hbg]at fJ os yJ ⊢;have Ad8:=AmV hML;have hRl:=AmV UO;generalize (w4.alloc (.cells (madeCells #[.int .i64 0] i) 3)).alloc (.cells (madeCells #[S []] i) 9)=W6 at *;have sL:MW P i 0 bg (bg+1) (zn (List.replicate i 0)) (List.replicate i []) W6:=⟨by simp [zn],by simp,fun j hj=>by omega,fun j hj=>by omega,fJ,os⟩;have Al7:w.heap.size<bg:=(by omega);have Al9:bl<bg:=(by omega);clear mki mks og os fJ E5 E6 hML UO Fw hbg yJ Ad8 hRl hbl
     go_loopw [89] (fun kv wk=>∃(k:Nat) (gl:List Int) (ul:List Bs),kv=.int .i64 (k:Nat)/\k<=i/\MW P i k bg (bg+1) gl ul wk/\Au (fun q=>q=bg∨q=bg+1) W6 wk) (fun kv _=>i-(intOf kv).toNat)
     case atStart=>exact⟨0,_,_,rfl,by omega,sL,Au.refl _ _⟩
     case round=>
      obtain⟨k,gl,ul,rfl,hk,hG,hB⟩:=hrel;have BQ:Aa w wr:=hB.toExt Mh (fun q e=>by rcases e with e|e<;>omega);by_cases hkn:k<i
      ·have Px:k<P.length:=(by rw [←HN.out];exact hkn);obtain⟨bA,oA,A',c',rfl,AE,AQ,Bp,AO,hr1,hr2⟩:=HA.out.row k Px;replace AE:=BQ.cellS AE;replace AQ:=BQ.cellS AQ;replace Bp:=BQ.cellS Bp;have hk0:(0:Int)<=(k:Int):=(by omega);have Ci:(k:Int)<(i:Int):=(by omega);obtain⟨pg,Gy⟩:=AmT (P[k].1);obtain⟨un,Ax⟩:=AmT (P[k].2);have hgd:(P.getD k ([],[])).2=un:=(by rw [Ax];simp [List.getD_eq_getElem?_getD,Anc Px]);rw [←Gy]at AE;rw [←Ax]at AQ;have EA:=(Aa.refl wr).alloc (.cells #[.slice A' pg.length c',S un,.slice none 0 0] 97);have Aq:=AmW wr (.cells #[.slice A' pg.length c',S un,.slice none 0 0] 97);have N3:MW P i k bg (bg+1) gl ul (wr.alloc (.cells #[.slice A' pg.length c',S un,.slice none 0 0] 97)):=⟨hG.lg,hG.lu,hG.g,hG.u,AH hG.og EA,AH hG.os EA⟩;have BL:=hB.ext EA;clear Gy Ax
       go_upto_region 27 with fail
       unfold S at Aq EA N3 BL;generalize wr.alloc (.cells #[.slice A' pg.length c',.string ⟨un.toArray⟩,.slice none 0 0] 97)=W3 at *;obtain⟨b8,FK⟩:=AmT wr.heap.size;rw [←FK]at Aq ⊢
       have Al5:bg+1<b8:=by obtain⟨cu,aI⟩:=Ob hG.os;have:=AmV aI;omega
       have y1:=Ab (o:=1) Aq rfl;have CL:∃z,gl[k]?=some z:=⟨_,Anc (by rw [hG.lg];exact hkn)⟩;have VS:∃z,ul[k]?=some z:=⟨_,Anc (by rw [hG.lu];exact hkn)⟩;obtain⟨zg,CL⟩:=CL;obtain⟨zu,VS⟩:=VS;have c1:W3.cell? ⟨bg,k,none⟩=some (.int .i64 zg):=(by rw [N3.og.cellAt k (by omega)];simp [zs,CL]);have c2:W3.cell? ⟨bg+1,k,none⟩=some (S zu):=(by rw [N3.os.cellAt k (by omega)];simp [VS]);have f1:=N3.og.frozenAt k;have f2:=N3.os.frozenAt k;have Gm:=N3.step hkn (by omega);rw [hgd]at Gm;have Oy:=AmU Gm;have TI:=AmU BL;unfold S at y1 c2;have bT:bg≠bg+1:=(by omega);have EY:b8≠bg:=(by omega);have Amj:b8≠bg+1:=(by omega);clear FK N3 Gm BL hG hB CL VS hgd AE AQ Bp EA Aq BQ
       go_region
       go_wp2;go_roundw
       case rel=>exact⟨k+1,_,_,by go_num,hkn,⟨Oy.out.lg,Oy.out.lu,Oy.out.g,Oy.out.u,AH Oy.out.og (Aa.refl _).drew,AH Oy.out.os (Aa.refl _).drew⟩,((TI.out.setCell (p:=⟨bg,k,none⟩) (.inl (.inl rfl)) _).setCell (p:=⟨bg+1,k,none⟩) (.inl (.inr rfl)) _).ext (Aa.refl _).drew⟩
       case measure=>simp [intOf];omega
      ·have B6:k=i:=(by omega);subst B6;have hd:decide (k<k)=false:=(by simp);have BW:decide ((k:Int)<(k:Int))=false:=(by simp);have EW:Dt wr bl (B9 P k):=(hB.block _ (AmV Kz) (fun e=>by rcases e with e|e<;>omega)).trans Kz;have ZA:=(hB.block _ (AmV Md) (fun e=>by rcases e with e|e<;>omega)).trans Md;clear hB Kz Md Mh sL;obtain⟨L0,Zx⟩:=AmT (B9 P k);rw [←Zx]at EW;unfold Dt at EW;have hrg:=C5.range (enc:=As) (E:=stamp L0) (t:=131) Tryz.underlying131 (W:=wr) (b:=bl) (by rw [Dp];exact EW);obtain⟨hr1,hr2⟩:=hrg;have E8:=(Aa.refl wr).alloc (.mapIter (some bl) (stamp L0).length #[] (stamp L0).length);have R7:=(E8.block _ (AmV EW)).trans EW;have ZP:=BQ.trans E8;have ZB:=(E8.block _ (AmV ZA)).trans ZA;have LY:MW P k k bg (bg+1) gl ul (wr.alloc (.mapIter (some bl) (stamp L0).length #[] (stamp L0).length)):=⟨hG.lg,hG.lu,hG.g,hG.u,AH hG.og E8,AH hG.os E8⟩;have Ad9:=AmV EW;obtain⟨cu7,vG⟩:=Ob hG.os;have Aec:=AmV vG;have GB:=AmU Zx;clear Zx hG ZA BQ E8 hd BW
       go_upto_region 30 with fail
       clear hr1 EW;obtain⟨bt,FN⟩:=AmT wr.heap.size;rw [←FN]at hr2 ⊢;generalize wr.alloc (.mapIter (some bl) (stamp L0).length #[] (stamp L0).length)=W8 at *;have AlA:bl<bt:=(by omega);have Eu:bg+1<bt:=(by omega);clear FN Ad9 vG Aec
       go_loopw [106] (fun v wx=>v=v/\∃seen,C5 wx bt bl (stamp L0) seen/\Au (fun q=>q=bt) W8 wx) (fun _ wx=>L0.length-(wx.iterSeen bt).size)
       case atStart=>exact⟨rfl,[],hr2,Au.refl _ _⟩
       case round=>
        obtain⟨-,seen,hI,hB⟩:=hrel;have IG:=(hB.block bl (AmV R7) (by omega)).trans R7;have ZY:=IG;rw [←Dp]at ZY;have K3:Aa w wr:=hB.toExt ZP (fun q e=>by subst e;omega)
        rcases C5.next As hI ZY (jE L0) (by omega) 0 with⟨hlen,hrun⟩|⟨j,hj,Gx,W9,OU,hG9,hs9,hrun,hen⟩
        ·have Xx:=AmU hlen
         obtain⟨gu,PU⟩:wr.ownsRow 0 3 1 (.slice (some ⟨bg,0,none⟩) k k) k (zs gl)/\wr.ownsRow 0 9 1 (.slice (some ⟨bg+1,0,none⟩) k k) k (ul.map S):=
          ⟨CC LY.og hB (fun q hq e=>by simp only [Value.ownBlock,Anb]at hq;omega),CC LY.os hB (fun q hq e=>by simp only [Value.ownBlock,Anb]at hq;omega)⟩
         have UQ:=AmV ZB;have Me:=(hB.block _ UQ (by omega)).trans ZB;have HG:=AmU LY;have em:=qC wr;have en:=@qB wr
         have eb:Aa wr (Ns wr):=((Aa.refl wr).alloc _).alloc _ |>.alloc _
         clear hlen hB hI ZB ZP R7 LY ZY hr2
         go_upto_region 35 with fail
         clear hrun;generalize Ns wr=V0 at *;obtain⟨wb,NV⟩:=AmT wr.heap.size;rw [←NV]at em en;have Am3:w.heap.size<=wb:=by have:=K3.size;omega
         have Al6:bg+1<wb:=by obtain⟨cu,aI⟩:=Ob PU;have:=AmV aI;omega
         have Al8:bl<wb:=(by have:=AmV IG;omega);have hRb:w.heap.size<wb:=(by have:=AmV Me;omega);have XN:=AmU NV;clear NV;(go_wp2_with fail);(with_reducible refine em.mono ?_);rintro e w10 ⟨rfl,hw10⟩;rw [hw10];clear hw10 em;have RH:=K3;have Pe:=K3.trans eb;have Zy:=(eb.block _ (AmV IG)).trans IG;have kw:=fun W=>eG (some bl) W;have LA:=(Aa.refl V0).alloc (.cells #[.map (some bl)] 131);have BO:=AmW V0 (.cells #[.map (some bl)] 131);have Rz:=(LA.block _ (AmV Zy)).trans Zy;have sk:=jA hw (Pe.trans LA) V0.heap.size bl L0 (AmV BO) (Ab BO rfl) Rz (fun e he=>Jp.out e (by rw [←GB.out];exact he)) (by have:=FA.out;rw [←GB.out]at this;omega);obtain⟨ws,NW⟩:=AmT (B7 (L0.map (·.1)));have hwl:ws.length=L0.length:=(by rw [NW,(Jh _).length_eq];simp);rw [←NW,←hwl]at sk;have Am5:ws.length<=10000:=(by have:=FA.out;rw [←GB.out]at this;omega);have LI:=AmU NW;clear NW hwl;(go_wp2_with fail);(with_reducible refine(kw _).mono ?_);rintro e w11 ⟨rfl,rfl⟩;(go_wp2_with fail);(with_reducible refine sk.mono ?_);rintro e Tw ⟨sv,rfl,hS12,hE12⟩;obtain⟨sA,sc,rfl,-,-,-⟩:=Ae.of_own' (by omega) hS12;have TE:=LA.trans hE12;have Ad0:=Pe.trans TE;have LC:=eb.trans TE;have Z1:=en.ext TE;have gq:=AH gu LC;have io:=AH PU LC;have sQ:=(LC.block _ (AmV IG)).trans IG;have sZ:=(LC.block _ (AmV Me)).trans Me;have hVl:wb+3<=V0.heap.size:=(by have:=AmV en.cell;omega);have HQ:=AmU (And.intro RH (And.intro LC (And.intro PU Me)));clear kw sk BO Rz Zy Pe eb en IG Me gu PU LA hE12 TE LC K3 RH;have Am4:(0:Int)<=(ws.length:Int):=by omega
         go_upto_region 37 with fail
         have hadd:DV L0 ws=C6.map (fun e=>(AY Eg e,e.l,e.r)):=(by rw [LI.out,GB.out];exact rk.out);have UA:wb<=Tw.heap.size:=(by have:=AmV Z1.cell;omega);have BP:wb<=wb+2:=(by omega);have Xo:=AmU hadd
         have XO:=AmU (show ∀s∈ws,∃e∈L0,e.1=s from fun s hs=>by
          rw [LI.out]at hs;obtain⟨e,he,h1⟩:=List.mem_map.1 ((Jh _).mem_iff.1 hs)
          exact⟨e,he,h1⟩)
         clear hadd
         go_loopw [143] (fun kv wk=>∃(q j:Nat) (E:List (Pt×Value×Nat)),kv=.int .i64 (q:Nat)/\q<=ws.length/\j=(DV L0 (ws.take q)).length/\Bo wb wk (wb+2) wb (wb+1) (AL Eg (C6.take j)) E (C3 Eg (C6.take j))/\QB Tw wk wb (wb+1)/\Below wb Tw wk) (fun kv _=>ws.length-(intOf kv).toNat)
         case atStart=>exact⟨0,0,[],rfl,by omega,rfl,by simpa [AL,C3]using Z1,fun _ _ h _ _ _=>h,Below.refl _ _⟩
         case round=>
          obtain⟨q,j,E,rfl,hq,hj,hN,hK,hBl⟩:=hrel;have Mf:=fW hS12 hK (fun k hk=>by have:=(hS12.lt k hk).1;rw [Anf]at this;omega) (by decide);have gw:=fW gq hK (fun k hk=>by simp only [Value.ownBlock,Anb]at hk;omega) (by decide);have osr:=fW io hK (fun k hk=>by simp only [Value.ownBlock,Anb]at hk;omega) (by decide);have Ep:=hK bl _ sQ (by omega) (by omega) (fun cs e=>by cases e);have Pb:=hK _ _ sZ (by omega) (by omega) (fun cs e=>by simp only [Obj.cells.injEq]at e;exact absurd e.2.1 (by decide));have BJ:Aa w wr:=Ad0.trans_below hBl (by omega);by_cases IT:q<ws.length
          ·obtain⟨b,o,rfl,f1,f2,f3,f4⟩:=MO (MK (by omega) Mf) IT;obtain⟨e1,KE,KF⟩:=XO.out _ (AmY IT);have dJ:=XL.out e1 (by rw [←GB.out];exact KE);have hsz:=Jp.out e1 (by rw [←GB.out];exact KE);rw [←GB.out]at dJ;obtain⟨e2,H9,hf2⟩:=Wm (s:=ws[q]) (L:=L0) (by rw [←KF];exact List.mem_map_of_mem KE);have hfr:=XL.out e2 (by rw [←GB.out];exact H9);rw [←hf2]at hfr;rw [KF]at hsz;have yW:∀z,lookO (AP ws[q]) L0=some z→0<=z/\z<(k:Int):=fun z hz=>(by have:=dJ.2.2 z (by rw [KF];exact hz);exact⟨this.1,this.2.1⟩);replace hfr:0<=AI ws[q] L0/\AI ws[q] L0<(k:Int):=⟨hfr.1,hfr.2.1⟩;clear dJ;have If:=mB (L0:=L0) IT;have Eu:=fun x hx=>yt (L0:=L0) (x:=x) IT hx;rw [←hj]at Eu;obtain⟨s,hs⟩:=AmT (ws[q]);rw [←hs]at f1 f2 f3 f4 yW hsz hfr If Eu;obtain⟨fi,Da⟩:∃fi:Nat,AI s L0=(fi:Int):=⟨(AI s L0).toNat,by omega⟩;have LH:=AmU If;have LF:=AmU Eu;have HJ:=AmU hj;have AE:(0:Int)<=(q:Int):=(by omega);have AQ:(q:Int)<(ws.length:Int):=(by omega);have EA:=(Aa.refl wr).alloc (.cells #[S (R s.a.x),S (R s.a.y),S (R s.b.x),S (R s.b.y)] 155);have Aq:=AmW wr (.cells #[S (R s.a.x),S (R s.a.y),S (R s.b.x),S (R s.b.y)] 155);clear hs KF KE e1 H9 hf2 If Eu hj
           go_upto_region 39 with fail
           unfold S at Aq EA;generalize wr.alloc (.cells #[.string ⟨(R s.a.x).toArray⟩,.string ⟨(R s.a.y).toArray⟩,.string ⟨(R s.b.x).toArray⟩,.string ⟨(R s.b.y).toArray⟩] 155)=V at *;obtain⟨bx,Ay⟩:=AmT wr.heap.size;rw [←Ay]at Aq ⊢;clear Ay f1 f2 f3 f4;have y0:=Ab (o:=0) Aq rfl;have y1:=Ab (o:=1) Aq rfl;have y2:=Ab (o:=2) Aq rfl;have y3:=Ab (o:=3) Aq rfl;have bk1:=Uk s V;unfold As S at bk1;(go_wp2_with fail);(with_reducible refine bk1.mono ?_);rintro e V2 ⟨rfl,hx11⟩;have GO:=EA.trans hx11;have N5:=(GO.block _ (AmV Ep)).trans Ep;have lk:=kz (AP s) L0 (W:=V2) N5;have NY:=Qi s L0 (W:=V2) N5;rw [Da]at NY;have ogV:=AH gw GO;have Ml:=(hx11.block _ (AmV Aq)).trans Aq;have z0:=Ab (o:=0) Ml rfl;have z1:=Ab (o:=1) Ml rfl;have z2:=Ab (o:=2) Ml rfl;have z3:=Ab (o:=3) Ml rfl;have hG:=HG.out;have NE:fi<k:=(by omega);unfold As S at lk NY;clear bk1 y0 y1 y2 y3 Aq;have rt:=fun (x:Nat) (hx:x<k) (V3:World) (h3:Aa V2 V3)=>AiM (l:=gl) (k:=x) (c:=k) (by rw [hG.lg];exact hx) (by have:=hG.g x hx;rw [Anc (by rw [hG.lg];exact hx)]at this;exact Option.some.inj this) (MK (by omega) (AH ogV h3));rw [hG.lg]at rt
           cases hlo:lookO (AP s) L0 with
           | none=>
            rw [hlo]at lk;simp only [Option.getD_none,Option.isSome_none]at lk;have GP:Iz L0 s=some (s,(fi:Int),-1):=(by unfold Iz;rw [hlo,Da]);have NF:=LF.out _ GP;rw [Xo.out,List.getElem?_map]at NF;obtain⟨e0,IK,RY⟩:=Option.map_eq_some_iff.1 NF;simp only [Prod.mk.injEq]at RY;obtain⟨Ku,Re,Rf⟩:=RY
            have AV:j<C6.length:=by
             rcases Nat.lt_or_ge j C6.length with h|h
             ·exact h
             ·rw [List.getElem?_eq_none h]at IK;cases IK
            have KD:C6[j]=e0:=(by rw [Anc AV]at IK;exact Option.some.inj IK);have DI:=TK.out.keys AV;have Sw:=TK.out.ne _ (AmY AV);rw [KD,Ku]at DI Sw
            have RA:AL Eg (C6.take (j+1))=AL Eg (C6.take j) ++ [(s,(fi:Int)),(AP s,-1)]:=by rw [Ana AV,Ww,KD,Ku,Re,Rf]
            have RB:C3 Eg (C6.take (j+1))=CG (CG (C3 Eg (C6.take j)) s.a s.b) s.b s.a:=by rw [Ana AV,Wx,KD,Ku]
            have hrl:=SZ Eg (C6.take j);have hjn:j+1=(DV L0 (ws.take (q+1))).length:=(by rw [LH.out,List.length_append,←HJ.out,GP];rfl);have XC:=AmU RA;have XD:=AmU RB;have Jn:=AmU hjn;clear hlo GP NF IK KD Ku Re Rf RA RB hjn;have r1:=rt fi NE
            go_upto_region 43 with fail
            have r2:=r1 V2 (Aa.refl _);(go_wp2_with fail);(with_reducible refine r2.mono ?_);rintro e V3 ⟨rfl,hx13⟩;have Gn:=hN.ext (GO.trans hx13);have Al3:=BJ.trans (GO.trans hx13);have hb3:wb<=V3.heap.size:=(by have:=AmV Gn.cell;omega);have ad:=Yi Gn hb3 s (fi:Int) (-1) DI.1 DI.2 Sw (fun e he=>by have:=hrl e he;rw [List.length_take]at this;omega);have hb4:=(hx13.block _ (AmV Ml)).trans Ml;have x0:=Ab (o:=0) hb4 rfl;have x1:=Ab (o:=1) hb4 rfl;have x2:=Ab (o:=2) hb4 rfl;have x3:=Ab (o:=3) hb4 rfl;have vT:¬((fi:Int) = -1):=(by omega);have hf2:((fi:Int) == -1)=false:=beq_false_of_ne vT;have hf3:((fi:Int) != -1)=true:=(by rw [bne,hf2];rfl);unfold As S at ad;clear r1 r2 rt lk NY z0 z1 z2 z3;(go_wp2_with fail);(with_reducible refine ad.mono ?_);rintro e V4 ⟨rfl,Nz,hK4,E4,GM⟩;rw [←XC.out,←XD.out]at GM;have Zw:=PH hK (PH (Wg (GO.trans hx13)) hK4);have Zn:=hBl.trans ((Below.mono (GO.trans hx13) (by have:=hBl.size;omega)).trans Nz);clear ad x0 x1 x2 x3 Gn;go_wp2;go_roundw
            case rel=>exact⟨q+1,j+1,E4,by go_num,IT,Jn.out,GM,Zw,Zn⟩
            case measure=>simp [intOf];omega
           | some u=>
            rw [hlo]at lk;simp only [Option.getD_some,Option.isSome_some]at lk;obtain⟨hu0,hu1⟩:=yW u hlo;obtain⟨ui,rfl⟩:∃ui:Nat,u=(ui:Int):=⟨u.toNat,by omega⟩;have EZ:ui<k:=(by omega);have r1:=rt ui EZ;have j8:=rt fi NE;have PY:=fun (V3:World) (h3:Aa w V3)=>Il s.a s.b hsz.a hsz.b (by omega) (by omega) V3 (hw.ext h3)
            go_upto_region 42 with fail
            have r2:=r1 V2 (Aa.refl _);(go_wp2_with fail);(with_reducible refine r2.mono ?_);rintro e V3 ⟨rfl,Ca⟩;have eN:=Qi s L0 (W:=V3) ((Ca.block _ (AmV N5)).trans N5);rw [Da]at eN;have w0:=Ca.cellS z0;have w1:=Ca.cellS z1;have w2:=Ca.cellS z2;have w3:=Ca.cellS z3;unfold As S at eN;clear r2 r1 lk NY z0 z1 z2 z3;have r3:=j8 V3 Ca;(go_wp2_with fail);(with_reducible refine r3.mono ?_);rintro e V4 ⟨rfl,hx13⟩;have RF:=GO.trans (Ca.trans hx13);have Ad3:=BJ.trans RF;have hb4:=((Ca.trans hx13).block _ (AmV Ml)).trans Ml;have x0:=Ab (o:=0) hb4 rfl;have x1:=Ab (o:=1) hb4 rfl;have x2:=Ab (o:=2) hb4 rfl;have x3:=Ab (o:=3) hb4 rfl;have hK4:=PH hK (Wg RF);have Nz:=hBl.trans (Below.mono RF (by have:=hBl.size;omega));have GM:=hN.ext RF;clear r3 j8 rt eN w0 w1 w2 w3;by_cases vY:fi=ui
            ·subst vY;have GP:Iz L0 s=none:=(by unfold Iz;rw [hlo,Da];simp);have hjn:j=(DV L0 (ws.take (q+1))).length:=(by rw [LH.out,List.length_append,←HJ.out,GP];rfl);have Jn:=AmU hjn;clear GP hjn hlo PY;go_wp2;go_roundw
             case rel=>exact⟨q+1,j,E,by go_num,IT,Jn.out,GM,hK4,Nz⟩
             case measure=>simp [intOf];omega
            ·have vZ:¬((fi:Int)=(ui:Int)):=(by omega);have hf2:((fi:Int) == (ui:Int))=false:=beq_false_of_ne vZ;have hf3:((fi:Int) != (ui:Int))=true:=(by rw [bne,hf2];rfl);have vU:(fi == ui)=false:=beq_false_of_ne vY;have p1:=PY V4 Ad3;obtain⟨z,hz⟩:=AmT (AW s.a s.b);rw [←hz]at p1;unfold Ak S at p1;clear PY;(go_wp2_with fail);(with_reducible refine p1.mono ?_);rintro e V5 ⟨rfl,hx14⟩;have Al2:=RF.trans hx14;clear p1 x0 x1 x2 x3;by_cases MC:z<0
             ·have GP:Iz L0 s=some (s,(fi:Int),(ui:Int)):=by unfold Iz;rw [hlo,Da];simp only;rw [if_pos ⟨vZ,by rw [←hz];exact MC⟩]
              have NF:=LF.out _ GP;rw [Xo.out,List.getElem?_map]at NF;obtain⟨e0,IK,RY⟩:=Option.map_eq_some_iff.1 NF;simp only [Prod.mk.injEq]at RY;obtain⟨Ku,Re,Rf⟩:=RY
              have AV:j<C6.length:=by
               rcases Nat.lt_or_ge j C6.length with h|h
               ·exact h
               ·rw [List.getElem?_eq_none h]at IK;cases IK
              have KD:C6[j]=e0:=(by rw [Anc AV]at IK;exact Option.some.inj IK);have DI:=TK.out.keys AV;have Sw:=TK.out.ne _ (AmY AV);rw [KD,Ku]at DI Sw
              have RA:AL Eg (C6.take (j+1))=AL Eg (C6.take j) ++ [(s,(fi:Int)),(AP s,(ui:Int))]:=by rw [Ana AV,Ww,KD,Ku,Re,Rf]
              have RB:C3 Eg (C6.take (j+1))=CG (CG (C3 Eg (C6.take j)) s.a s.b) s.b s.a:=by rw [Ana AV,Wx,KD,Ku]
              have hrl:=SZ Eg (C6.take j);have hjn:j+1=(DV L0 (ws.take (q+1))).length:=(by rw [LH.out,List.length_append,←HJ.out,GP];rfl);have XC:=AmU RA;have XD:=AmU RB;have Jn:=AmU hjn;clear hlo GP NF IK KD Ku Re Rf RA RB hjn hz;have N6:=GM.ext hx14;have hb5:wb<=V5.heap.size:=(by have:=AmV N6.cell;omega);have ad:=Yi N6 hb5 s (fi:Int) (ui:Int) DI.1 DI.2 Sw (fun e he=>by have:=hrl e he;rw [List.length_take]at this;omega);have ID:=(hx14.block _ (AmV hb4)).trans hb4;have x0:=Ab (o:=0) ID rfl;have x1:=Ab (o:=1) ID rfl;have x2:=Ab (o:=2) ID rfl;have x3:=Ab (o:=3) ID rfl;unfold As S at ad;(go_wp2_with fail);(with_reducible refine ad.mono ?_);rintro e V6 ⟨rfl,hBl6,hK6,E6,UK⟩;rw [←XC.out,←XD.out]at UK;have hK7:=PH (PH hK4 (Wg hx14)) hK6;have Ada:=(Nz.trans (Below.mono hx14 (by have:=Nz.size;omega))).trans hBl6;clear ad x0 x1 x2 x3 N6;go_wp2;go_roundw
              case rel=>exact⟨q+1,j+1,E6,by go_num,IT,Jn.out,UK,hK7,Ada⟩
              case measure=>simp [intOf];omega
             ·have GP:Iz L0 s=none:=by unfold Iz;rw [hlo];simp only;rw [if_neg (fun h=>by rw [←hz]at h;exact MC h.2)]
              have hjn:j=(DV L0 (ws.take (q+1))).length:=(by rw [LH.out,List.length_append,←HJ.out,GP];rfl);have Jn:=AmU hjn;have Zw:=PH hK4 (Wg hx14);have Zn:=Nz.trans (Below.mono hx14 (by have:=Nz.size;omega));have N6:=GM.ext hx14;clear GP hjn hlo hz;go_wp2;go_roundw
              case rel=>exact⟨q+1,j,E,by go_num,IT,Jn.out,N6,Zw,Zn⟩
              case measure=>simp [intOf];omega
          ·have hqe:q=ws.length:=(by omega);subst hqe;rw [List.take_length,Xo.out,List.length_map]at hj;subst hj;rw [List.take_length]at hN;obtain⟨RH,LC,PU,Me⟩:=HQ.out;have Gp:=vh.out;have tQ:=LC.trans_below hBl (by rw [XN.out];exact AmX _);have sU:=hN.base XN.out;have ag:=mE (hw.ext RH) tQ sU rfl (ew Eg C6) Gp.wo Gp.gr (by rw [fD];omega) (fun e he=>by have:=SZ Eg C6 e he;omega) k (by omega) Gp.lf Gp.r1 rfl rfl;rw [Gp.op]at ag;have hd:decide (ws.length<ws.length)=false:=(by simp);have BW:decide ((ws.length:Int)<(ws.length:Int))=false:=(by simp);clear Mf gw osr Ep Pb hN hK hBl hS12 gq io sQ sZ Z1 HQ
           go_upto_region 47 with fail
           (go_wp2_with fail);(with_reducible refine ag.mono ?_);rintro e w14 ⟨rfl,hx14,hN14⟩;have tO:=RH.trans hx14;have ip:=AH PU hx14;have tA:=(hx14.block _ (AmV Me)).trans Me
           have AeY:ul=P.map (·.2):=by
            have hG:=HG.out;apply List.ext_getElem?;intro j
            rcases Nat.lt_or_ge j k with h|h
            ·rw [hG.u j h];have Ia:j<P.length:=(by rw [←HN.out];exact h);simp [List.getD_eq_getElem?_getD,Anc Ia]
            ·rw [List.getElem?_eq_none (by rw [hG.lu];exact h),List.getElem?_eq_none (by rw [List.length_map,←HN.out];exact h)]
           have dK:=HG.out.lu;have can:=AaB (st:=st) (pts:=pts) hw tO hN14 Gp.hz (by have:=Gp.ln;omega) Gp.rl Gp.nd Gp.no Gp.sz (by rw [fD];omega) Gp.bk (some ⟨bg+1,0,none⟩) k ul (MK (by omega) ip) (fun x hx=>by cases hx;have:=hx14.size;have:=XN.out;show bg+1<_;omega) (by omega) (fun x hx=>by rw [dK];exact Gp.lf x hx) TM.out rfl (by rw [AeY];exact HST.out);rw [dK]at can;have hpl:pts.length<=400:=(by rw [TM.out,(JV _).length_eq,List.length_map];exact Gp.ln);clear ag ip hN14 sU tQ hx14 dK;(go_wp2_with fail);(with_reducible refine can.mono ?_);rintro e w15 ⟨pA,pB,pF,pc,pd,pg,rfl,hcaps,hA15,hB15,hF15,-,hx15⟩;unfold C2;have Z7:=(hx15.block _ (AmV tA)).trans tA;have Ad1:=tO.trans hx15;have Qw:=(Aa.refl w15).alloc (.cells #[.slice pA pts.length pc,.slice pB st.ed.length pd,.slice pF st.fa.length pg] 36);have RL:=AmW w15 (.cells #[.slice pA pts.length pc,.slice pB st.ed.length pd,.slice pF st.fa.length pg] 36);have IB:=(Qw.block _ (AmV Z7)).trans Z7;have Ad2:=Ad1.trans Qw;have gA:=hA15.ext Qw;have gB:=hB15.ext Qw;have gF:=hF15.ext Qw;have Aml:¬(400<(pts.length:Int)):=(by omega);have Afg:=AmV Z7
           go_upto_region 51 with fail
           generalize w15.alloc (.cells #[.slice pA pts.length pc,.slice pB st.ed.length pd,.slice pF st.fa.length pg] 36)=W16 at *;obtain⟨b32,uD⟩:=AmT w15.heap.size;rw [←uD]at RL Afg ⊢;clear uD can;have m0:=Ab (o:=0) RL rfl;have m1:=Ab (o:=1) RL rfl;have m2:=Ab (o:=2) RL rfl;have r0:=Ab (o:=0) IB rfl;have r1:=Ab (o:=1) IB rfl;have r2:=Ab (o:=2) IB rfl;have r3:=AU (o:=0) IB;have r4:=AU (o:=1) IB;have r5:=AU (o:=2) IB;have FX:=Yy (.slice pA pts.length pc) (.slice pB st.ed.length pd) (.slice pF st.fa.length pg) IB;have bb:=(((Au.refl (fun q=>q=w.heap.size) W16).setCell (p:=⟨w.heap.size,0,none⟩) (.inl rfl) (.slice pA pts.length pc)).setCell (p:=⟨w.heap.size,1,none⟩) (.inl rfl) (.slice pB st.ed.length pd)).setCell (p:=⟨w.heap.size,2,none⟩) (.inl rfl) (.slice pF st.fa.length pg);have t1:=Ab (o:=0) FX rfl;have t2:=Ab (o:=1) FX rfl;have t3:=Ab (o:=2) FX rfl;have RG:=bb.toExt Ad2 (fun q e=>by subst e;exact AmX _);have fA:=iE gA bb IB (fun j hj=>by obtain⟨s,h⟩:=rJ hj;rw [h];simp);have fB:=iE gB bb IB (fun j hj=>by obtain⟨s,h⟩:=pY hj;rw [h];simp);have fF:=iE gF bb IB (fun j hj=>by rw [List.getElem_map];simp);have Cu:=AmU (And.intro fA (And.intro fB (And.intro fF RG)));clear gA gB gF fA fB fF bb FX IB RG RL;go_wp2;refine bodyPost_ret (v:=.tuple #[.agg #[.slice pA pts.length pc,.slice pB st.ed.length pd,.slice pF st.fa.length pg],.int .i64 0]) (by simp [results,Tryz.results47,go_sem,t1,t2,t3]) rfl ?_;exact⟨pA,pB,pF,pc,pd,pg,rfl,hcaps,Cu.out.1,Cu.out.2.1,Cu.out.2.2.1,rfl,Cu.out.2.2.2⟩
        ·have wJ:j<L0.length:=(by rw [Dp]at hj;exact hj);rw [Xa,jG]at hrun hen
         have hlen':seen.length<L0.length:=by
          have h2:(j::seen) ⊆ List.range L0.length:=by
           intro q hq
           rcases List.mem_cons.1 hq with rfl|hq
           ·simpa using wJ
           ·have:=hI.lt q hq;rw [Dp]at this;simpa using this
          have:=(List.nodup_cons.2 ⟨Gx,hI.nd⟩).length_le_of_subset h2;simp at this;omega
         have LX:=hB.grown hG9 (fun q e=>by cases e;exact .inl rfl);have NI:=AmY wJ;obtain⟨s,hs⟩:=AmT (L0[j].1);obtain⟨z,hz⟩:=AmT (L0[j].2);have hin:=XL.out L0[j] (by rw [←GB.out];exact NI);rw [←hs,←hz]at hin;rw [←hs,←hz]at hrun hen;obtain⟨hz0,hz1,FP⟩:=hin;obtain⟨zi,rfl⟩:∃zi:Nat,z=(zi:Int):=⟨z.toNat,by omega⟩;have hsz:Ei 200 s:=(by rw [hs];exact Jp.out _ (by rw [←GB.out];exact NI));have EA:=(Aa.refl W9).alloc (.cells #[S (R s.a.x),S (R s.a.y),S (R s.b.x),S (R s.b.y)] 155);have Aq:=AmW W9 (.cells #[S (R s.a.x),S (R s.a.y),S (R s.b.x),S (R s.b.y)] 155);have e9:=hen W9 rfl rfl;unfold As at hrun e9;have bk:=fun (V:World)=>Uk s V;have ZX:=(EA.block _ (AmV ((hG9.block bl (AmV IG) (fun e=>by cases e;omega)).trans IG))).trans ((hG9.block bl (AmV IG) (fun e=>by cases e;omega)).trans IG);have rT:=LX.ext EA;have Zu:C5 (W9.alloc (.cells #[S (R s.a.x),S (R s.a.y),S (R s.b.x),S (R s.b.y)] 155)) bt bl (stamp L0) (seen ++ [j]):=OU.keep (EA.block _ (AmV OU.it));have Xx:=AmU (Ey hI);clear hs hz NI hen hs9
         go_upto_region 32 with fail
         unfold S at Aq EA ZX rT Zu;generalize W9.alloc (.cells #[.string ⟨(R s.a.x).toArray⟩,.string ⟨(R s.a.y).toArray⟩,.string ⟨(R s.b.x).toArray⟩,.string ⟨(R s.b.y).toArray⟩] 155)=V at *;obtain⟨bx,Ay⟩:=AmT W9.heap.size;rw [←Ay]at Aq ⊢;clear Ay hrun e9 LX hG9 OU EA;have y0:=Ab (o:=0) Aq rfl;have y1:=Ab (o:=1) Aq rfl;have y2:=Ab (o:=2) Aq rfl;have y3:=Ab (o:=3) Aq rfl;have bk1:=bk V;unfold As S at bk1;(go_wp2_with fail);(with_reducible refine bk1.mono ?_);rintro e V2 ⟨rfl,hx11⟩;have Nx:=rT.ext hx11;have Ky:=Zu.keep (hx11.block _ (AmV Zu.it));have lk:=kz (AP s) L0 (W:=V2) ((hx11.block _ (AmV ZX)).trans ZX);unfold As S at lk;clear bk1 bk y0 y1 y2 y3;have N7:Aa w V2:=Nx.toExt ZP (fun q e=>by subst e;omega)
         obtain⟨AmG,il⟩:V2.ownsRow 0 3 1 (.slice (some ⟨bg,0,none⟩) k k) k (zs gl)/\V2.ownsRow 0 9 1 (.slice (some ⟨bg+1,0,none⟩) k k) k (ul.map S):=
          ⟨CC LY.og Nx (fun q hq e=>by simp only [Value.ownBlock,Anb]at hq;omega),CC LY.os Nx (fun q hq e=>by simp only [Value.ownBlock,Anb]at hq;omega)⟩
         cases hlo:lookO (AP s) L0 with
         | none=>
          rw [hlo]at lk;simp only [Option.getD_none,Option.isSome_none]at lk;have uv:=AmU hlo;clear hlo
          go_upto_region 33 with fail
          refine F3 (by kernel_rfl) (by kernel_rfl) ?_
          repeat (go_big_quiet_step (fail))
          refine wpQuiet_nil ?_;rintro Yc ⟨q,hq⟩;have Ca:Aa V2 Yc:=hq▸q.h;have Rw:=Ky.keep (Ca.block _ (AmV Ky.it));have UA:=Nx.ext Ca;have Xy:=AmU (Ey Rw);clear hq q lk Ky Nx;go_wp2;go_roundw
          case rel=>exact⟨trivial,seen ++ [j],Rw,UA⟩
          case measure=>rw [Xx.out,Xy.out,List.length_append,List.length_singleton];omega
         | some u=>
          rw [hlo]at lk;simp only [Option.getD_some,Option.isSome_some]at lk;obtain⟨hu0,hu1,hne⟩:=FP u (by rw [←GB.out];exact hlo);obtain⟨ui,rfl⟩:∃ui:Nat,u=(ui:Int):=⟨u.toNat,by omega⟩;simp only [Int.toNat_natCast]at hne;have g1:=LY.u zi (by omega);have g2:=LY.u ui (by omega);obtain⟨s1,hs1⟩:=AmT ((P.getD zi ([],[])).2);obtain⟨s2,hs2⟩:=AmT ((P.getD ui ([],[])).2);rw [←hs1]at g1 hne;rw [←hs2]at g2 hne;have c1:=il.cellAt zi (by omega);have c2:=il.cellAt ui (by omega);rw [List.getElem?_map,g1]at c1;rw [List.getElem?_map,g2]at c2;simp only [Option.map_some]at c1 c2;have q1:∀q:Af V2,q.w.cell? ⟨bg+1,zi,none⟩=some (S s1):=Af.cell c1;have q2:∀q:Af V2,q.w.cell? ⟨bg+1,ui,none⟩=some (S s2):=Af.cell c2;have hb1:(s1 == s2)=false:=beq_false_of_ne hne;have uv:=AmU hlo;clear hlo hs1 hs2 g1 g2 c1 c2 hne FP
          go_upto_region 33 with fail
          unfold S at q1 q2;refine F3 (by kernel_rfl) (by kernel_rfl) ?_
          repeat (go_big_quiet_step (fail))
          refine wpQuiet_nil ?_;rintro Yc ⟨q,hq⟩;have Ca:Aa V2 Yc:=hq▸q.h;clear q1 q2;have Rw:=Ky.keep (Ca.block _ (AmV Ky.it));have UA:=Nx.ext Ca;have Xy:=AmU (Ey Rw);clear hq q lk Ky Nx;go_wp2;go_roundw
          case rel=>exact⟨trivial,seen ++ [j],Rw,UA⟩
          case measure=>rw [Xx.out,Xy.out,List.length_append,List.length_singleton];omega
end Go.Proofs.YtbejphgbbpplbaaGreatDoor
namespace Kl
section
variable {α : Type} (le : α → α → Bool)
def MF:Nat→List α→List α→List α
 | 0,xs,ys=>xs++ys
 | _+1,[],ys=>ys
 | _+1,x::xs,[]=>x::xs
 | n+1,x::xs,y::ys=>if le x y then x::MF n xs (y::ys)else y::MF n (x::xs) ys
theorem eP:∀(n:Nat) (xs ys:List α),xs.length+ys.length<=n→MF le n xs ys=List.merge xs ys le
 | 0,[],[],_=>by simp [MF]
 | 0,_::_,_,h=>by simp at h
 | 0,[],_::_,h=>by simp at h
 | n+1,[],ys,_=>by simp [MF]
 | n+1,x::xs,[],_=>by simp [MF]
 | n+1,x::xs,y::ys,h=>by simp only [List.length_cons]at h;rw [MF,List.cons_merge_cons,eP n xs (y::ys) (by simp;omega),eP n (x::xs) ys (by simp;omega)]
def DL:Nat→List α→List α
 | 0,l=>l
 | _+1,[]=>[]
 | _+1,[a]=>[a]
 | n+1,a::b::l=>MF le (l.length+2) (DL n ((a::b::l).take ((l.length+3) / 2))) (DL n ((a::b::l).drop ((l.length+3) / 2)))
theorem NZ:∀(n:Nat) (l:List α),l.length<=n→DL le n l=l.mergeSort le
 | 0,[],_=>by simp [DL]
 | 0,_::_,h=>by simp at h
 | n+1,[],_=>by simp [DL]
 | n+1,[a],_=>by simp [DL]
 | n+1,a::b::l,h=>by
  simp only [List.length_cons]at h;have h1:((a::b::l).take ((l.length+3)/2)).length<=n:=(by simp only [List.length_take,List.length_cons];omega);have h2:((a::b::l).drop ((l.length+3)/2)).length<=n:=(by simp only [List.length_drop,List.length_cons];omega);have h3:((a::b::l).take ((l.length+3)/2)).length+((a::b::l).drop ((l.length+3)/2)).length<=l.length+2:=(by simp only [List.length_take,List.length_drop,List.length_cons];omega);rw [DL,NZ n _ h1,NZ n _ h2,eP _ _ _ _ (by rw [List.length_mergeSort,List.length_mergeSort];exact h3)];rw [List.mergeSort];simp only [List.MergeSort.Internal.splitInTwo_fst,List.MergeSort.Internal.splitInTwo_snd]
  rfl
end
end Kl
namespace Go.Proofs.YtbejphgbbpplbaaGreatDoor
open Go.RowKit Kl
def Wi(x y:Pt):Bool:=!decide (AW y x<0)
def SL(x y:Sg):Bool:=!decide (Fx y x<0)
def eJ(p x y:Pt):Bool:=!decide (CX p y x<0)
theorem m9(l:List Pt):ED l=DL Wi l.length l:=(NZ Wi _ l (AmX _)).symm
theorem jC(l:List Sg):B7 l=DL SL l.length l:=(NZ SL _ l (AmX _)).symm
theorem Aj5(p:Pt)(l:List Pt):DO p l=DL (eJ p) l.length l:=(NZ (eJ p) _ l (AmX _)).symm
def OO(W:List Sg)(R0:List (Pt×List Pt)):List (List Sg):=((DL SL W.length W).foldl (FG W.length R0) ([],[])).2
theorem pH(W:List Sg)(R0:List (Pt×List Pt)):Hu W R0=OO W R0:=by unfold Hu OO;rw [jC]
def iU(p:List Pt)(s:Pt×Pt):Bool:=p.all (fun x=>decide (0<=Al s.1 s.2 x))&&p.any (fun x=>decide (0<Al s.1 s.2 x))
def WT(p:List Pt)(s:Pt×Pt):Bool:=p.all (fun x=>decide (Al s.1 s.2 x<=0))
theorem Ajn{p:List Pt}{s:Pt×Pt}(h:iU p s=true):Lt p s:=by
 unfold iU at h;rw [Bool.and_eq_true,List.all_eq_true,List.any_eq_true]at h;obtain⟨h1,x,hx,h2⟩:=h;exact⟨fun x hx=>of_decide_eq_true (h1 x hx),x,hx,of_decide_eq_true h2⟩
theorem lj{p:List Pt}{s:Pt×Pt}(h:WT p s=true):JU p s:=by
 unfold WT at h;rw [List.all_eq_true]at h;exact fun x hx=>of_decide_eq_true (h x hx)
def gP(l:List Pt):Bool:=decide (3<=l.length)&&(decide (l.length<=60)&&((List.range l.length).all (fun i=>(List.range l.length).all (fun n=>n == i||(n == (i+1)%l.length||decide (0<Al (l.getD i ⟨0,0⟩) (l.getD ((i+1)%l.length) ⟨0,0⟩) (l.getD n ⟨0,0⟩)))))&&(List.range (l.length-1)).all (fun n=>!decide (AW (l.getD (n+1) ⟨0,0⟩) (l.getD 0 ⟨0,0⟩)<0))))
theorem getD_at{α:Type}(l:List α)(d:α){i:Nat}(h:i<l.length):l.getD i d=l[i]:=by rw [List.getD_eq_getElem?_getD,Anc h];rfl
theorem jo{l:List Pt}(h:gP l=true):Nh l:=by
 unfold gP at h;simp only [Bool.and_eq_true,List.all_eq_true,decide_eq_true_eq,List.mem_range,Bool.or_eq_true,beq_iff_eq,Bool.not_eq_true',decide_eq_false_iff_not]at h;obtain⟨h1,h2,h3,h4⟩:=h;refine⟨h1,h2,?_,?_⟩
 ·intro i n hi hn h5 h6;have:=h3 i hi n hn;rw [getD_at l _ hi,getD_at l _ hn,getD_at l _ (Nat.mod_lt _ (by omega))]at this
  rcases this with k|k|k
  ·exact absurd k h5
  ·exact absurd k h6
  ·exact k
 ·intro n hn;have:=h4 n (by omega);rw [getD_at l _ hn,getD_at l _ (by omega:0<l.length)]at this;exact this
def Ly(p:Pt):Bool:=decide (p.x.num.natAbs<10^200)&&(decide (p.x.den<10^200)&&(decide (p.y.num.natAbs<10^200)&&decide (p.y.den<10^200)))
theorem Oj{p:Pt}(h:Ly p=true):Ar 200 p:=by
 unfold Ly at h;simp only [Bool.and_eq_true,decide_eq_true_eq]at h;exact⟨⟨h.1,h.2.1⟩,⟨h.2.2.1,h.2.2.2⟩⟩
def Ro(p:Pt):Bool:=decide ((p.x*2).den=1)&&(decide ((p.x*2).num.natAbs<=1000000)&&(decide ((p.y*2).den=1)&&decide ((p.y*2).num.natAbs<=1000000)))
theorem tW{q:Rat}(h1:(q*2).den=1)(h2:(q*2).num.natAbs<=1000000):Q6 q:=by
 refine⟨(q*2).num,h2,?_⟩
 have:((q*2).num:Rat)=q*2:=by
  refine Rat.ext ?_ ?_
  ·rw [Rat.num_intCast]
  ·rw [Rat.den_intCast,h1]
 rw [this];grind
theorem Zc{p:Pt}(h:Ro p=true):D4 p:=by
 unfold Ro at h;simp only [Bool.and_eq_true,decide_eq_true_eq]at h;exact⟨tW h.1 h.2.1,tW h.2.2.1 h.2.2.2⟩
def Ft(P:List (List Pt×Bs)):List Pt:=Lib.compact (DL Wi (Dg P P.length).length (Dg P P.length))
theorem Ab3(P:List (List Pt×Bs)):QW P=Ft P:=by unfold QW Ft;rw [m9]
def Wy:List Sg→Bool
 | []=>true
 | s::l=>!l.any (AK s) && Wy l
theorem fo:∀{l:List Sg},Wy l=true→l.Nodup
 | [],_=>List.nodup_nil
 | s::l,h=>by rw [Wy,Bool.and_eq_true,Bool.not_eq_true']at h;rw [List.nodup_cons];exact⟨mH.1 h.1,fo h.2⟩
def PZ(P:List (List Pt×Bs)):Bool:=
 decide (0<P.length)&&(decide (P.length<=1000)&&(P.all (fun e=>gP e.1&&e.1.all Ly) &&
 (P.all (fun e=>(List.range e.1.length).all (fun k=>decide ((Ft P).filter (fun q=>G4 (Gc e.1 k).a (Gc e.1 k).b q)=Rj (Gc e.1 k)))) &&
 (Wy ((B9 P P.length).map (·.1)) &&
 ((List.range P.length).all (fun i=>(List.range i).all (fun k=>(List.range (P.getD k ([],[])).1.length).all (fun j=>iU (P.getD i ([],[])).1 (Bv (P.getD k ([],[])).1 j)||WT (P.getD i ([],[])).1 (Bv (P.getD k ([],[])).1 j))&&(List.range (P.getD k ([],[])).1.length).any (fun j=>WT (P.getD i ([],[])).1 (Bv (P.getD k ([],[])).1 j)))) &&
 ((B9 P P.length).all (fun e=>decide (0<=e.2/\e.2<(P.length:Int))&&(Ly e.1.a&&Ly e.1.b)&&(match lookO (AP e.1) (B9 P P.length)with|none=>true|some z=>decide (0<=z/\z<(P.length:Int))&&decide ((P.getD e.2.toNat ([],[])).2≠(P.getD z.toNat ([],[])).2))) &&
 decide ((B9 P P.length).length<=10000)))))))
theorem AhT{P:List (List Pt×Bs)}(h:PZ P=true):jS P:=by
 unfold PZ at h;simp only [Bool.and_eq_true,List.all_eq_true,decide_eq_true_eq,List.mem_range]at h;obtain⟨-,h1,h2,h3,h4,h5,-,-⟩:=h;refine⟨⟨h1,fun e he=>?_,fun e he p hp=>Oj ((h2 e he).2 p hp),fun e he k hk=>?_,fo h4⟩,fun e he=>jo (h2 e he).1,?_⟩
 ·have:=jo (h2 e he).1;exact⟨by have:=this.n3;omega,this.n60⟩
 ·rw [Ab3];exact h3 e he k hk
 ·intro i k hi hk;obtain⟨ha,hb⟩:=h5 i hi k hk;rw [getD_at P _ hi,getD_at P _ (by omega:k<P.length)]at ha hb;rw [List.any_eq_true]at hb;obtain⟨j,hj,hb⟩:=hb;refine⟨fun j hj=>?_,j,List.mem_range.1 hj,lj hb⟩;have:=ha j hj;rw [Bool.or_eq_true]at this;exact this.imp Ajn lj
instance sgDec:DecidableEq Sg:=fun s t=>decidable_of_iff (AK s t=true) Iq
def Ip(pts:List Pt)(eds:List Av):List (Pt×List Pt):=(C3 pts eds).map (fun e=>(e.1,DL (eJ e.1) e.2.length e.2))
theorem km(pts:List Pt)(eds:List Av):Ip pts eds=(C3 pts eds).map (fun e=>(e.1,DO e.1 e.2)):=by
 unfold Ip;refine List.map_congr_left fun e _=>?_;rw [Aj5]
def yz(pts:List Pt)(eds:List Av)(n:Nat):D2:=Ko (AL pts eds) n (OO ((AL pts eds).map (·.1)) (Ip pts eds)) (JS ((AL pts eds).map (·.1)) (OO ((AL pts eds).map (·.1)) (Ip pts eds)))
def fk(e:Pt×List Pt):Bool:=match e.2 with
 | [p,q]=>decide (AD (Al p e.1 q)≠0)
 | _=>true
def PP(pts:List Pt)(eds:List Av)(n:Nat):Bool:=
 decide (CH [] pts=0)&&(decide (CW pts.length n [] eds=0)&&(decide (D8 pts [] eds=0)&&(pts.all Ro&&(decide (eds.length<=1000)&&(!(yz pts eds n).op &&
 ((Ip pts eds).all (fun e=>Ly e.1&&(e.2.all Ly&&(decide (e.2.length<100000)&&fk e)))&&(decide ((Ip pts eds).length<=400)&&(decide ((Ip pts eds).map (·.1)).Nodup &&
 ((AL pts eds).all (fun e=>Ly e.1.a&&Ly e.1.b)&&(AL pts eds).all (fun e=>(AL pts eds).any (fun e'=>AK e'.1 (AP e.1))))))))))))
theorem AgX{pts:List Pt}{eds:List Av}{n:Nat}(h:PP pts eds n=true):lJ pts eds n (Ip pts eds):=by
 unfold PP at h;simp only [Bool.and_eq_true,List.all_eq_true,decide_eq_true_eq,Bool.not_eq_true']at h;obtain⟨h1,h2,h3,h4,h5,h6,h7,h8,h9,h10,h11⟩:=h;have hg:∀p∈pts,D4 p:=fun p hp=>Zc (h4 p hp);have he:=qA h1 h2;refine⟨he,h5,fh he hg h3,fC he hg,fg h2,km pts eds,?_,fun e k=>⟨Oj (h7 e k).1,fun p hp=>Oj ((h7 e k).2.1 p hp)⟩,h8,fun e k=>(h7 e k).2.2.1,h9,?_,fun e k=>⟨Oj (h10 e k).1,Oj (h10 e k).2⟩,?_⟩
 ·rw [pH];exact h6
 ·intro e k p q Mx;have:=(h7 e k).2.2.2;unfold fk at this;rw [Mx]at this;exact of_decide_eq_true this
 ·intro e k;have:=h11 e k;rw [List.any_eq_true]at this;obtain⟨x,hx,hs⟩:=this;exact⟨x,hx,Iq.1 hs⟩
def jO(P:List (List Pt×Bs)):List Sg:=DL SL ((B9 P P.length).map (·.1)).length ((B9 P P.length).map (·.1))
def I6(P:List (List Pt×Bs)):List Av:=(DV (B9 P P.length) (jO P)).map (fun x=>⟨G3 x.1.a (BM (Ft P)),G3 x.1.b (BM (Ft P)),x.2.1,x.2.2⟩)
def Tn(P:List (List Pt×Bs)):List Pt:=DL Wi ((Ip (Ft P) (I6 P)).map (·.1)).length ((Ip (Ft P) (I6 P)).map (·.1))
def MR(P:List (List Pt×Bs)):G7:=I1 (P.map (·.2)) (BM (Tn P)) (AL (Ft P) (I6 P)) (DL SL ((AL (Ft P) (I6 P)).map (·.1)).length ((AL (Ft P) (I6 P)).map (·.1)))
def SS(P:List (List Pt×Bs)):Cm:=⟨Tn P,(MR P).ed,(MR P).fa.length⟩
def Yh(P:List (List Pt×Bs)):Bool:=decide (DV (B9 P P.length) (jO P)=(I6 P).map (fun e=>(AY (Ft P) e,e.l,e.r)))
theorem nG(P:List (List Pt×Bs))(h1:PZ P=true)(h2:PP (Ft P) (I6 P) P.length=true)(h3:Yh P=true)(A:Option Addr)(c:Nat)(w:World)(hw:An w)(h:Jv w A c P) :
  Calls Tryz.prog 47 #[.slice A P.length c] w (Qt w (SS P) (MR P).fa):=by
 have hp:=h1;unfold PZ at h1;simp only [Bool.and_eq_true,List.all_eq_true,decide_eq_true_eq]at h1;obtain⟨g0,-,-,-,-,-,g6,g7⟩:=h1;have ha:DV (B9 P P.length) (jO P)=(I6 P).map (fun e=>(AY (Ft P) e,e.l,e.r)):=of_decide_eq_true h3;refine Aa7 P (AhT hp) g0 ?_ (fun e k=>⟨Oj (g6 e k).1.2.1,Oj (g6 e k).1.2.2⟩) g7 (by rw [jC];exact ha) (AgX h2) (pts:=Tn P) (by rw [m9];rfl) (st:=MR P) (by rw [jC];rfl) A c w hw h;intro e k;obtain⟨⟨g1,-⟩,g3⟩:=g6 e k;refine⟨g1.1,g1.2,fun z hz=>?_⟩;rw [hz]at g3;simp only [Bool.and_eq_true,decide_eq_true_eq]at g3;exact⟨g3.1.1,g3.1.2,g3.2⟩
def Oi(i:Rat):List Pt:=[⟨i,0⟩,⟨i+1,0⟩,⟨i+1,1⟩,⟨i,1⟩]
def str3:List (List Pt×Bs):=[(Oi 0,[66]),(Oi 1,[65]),(Oi 2,[120])]
set_option maxRecDepth 100000
theorem AjK:PZ str3=true:=by decide +kernel
theorem AjI:Yh str3=true:=by decide +kernel
theorem AjJ:PP (Ft str3) (I6 str3) 3=true:=by decide +kernel
set_option maxRecDepth 100000
def Lj:Cm:=⟨[⟨0,0⟩,⟨0,1⟩,⟨1,0⟩,⟨1,1⟩,⟨2,0⟩,⟨2,1⟩,⟨3,0⟩,⟨3,1⟩],[⟨0,1,-1,0⟩,⟨0,2,0,-1⟩,⟨1,3,-1,0⟩,⟨2,3,0,1⟩,⟨2,4,1,-1⟩,⟨3,5,-1,1⟩,⟨4,5,1,2⟩,⟨4,6,2,-1⟩,⟨5,7,-1,2⟩,⟨6,7,2,-1⟩],3⟩
def Rc(e:Av):Int×Int×Int×Int:=(e.f,e.t,e.l,e.r)
theorem YQ:∀{l m:List Av},l.map Rc=m.map Rc→l=m
 | [],[],_=>rfl
 | [],_::_,h=>by cases h
 | _::_,[],h=>by cases h
 | ⟨a,b,c,d⟩::l,⟨a',b',c',d'⟩::m,h=>by rw [List.map_cons,List.map_cons,List.cons.injEq]at h;obtain⟨h1,h2⟩:=h;simp only [Rc,Prod.mk.injEq]at h1;obtain⟨rfl,rfl,rfl,rfl⟩:=h1;rw [YQ h2]
theorem ol:(MR str3).fa = [[66],[65],[120]]:=by decide +kernel
theorem AgB:SS str3=Lj:=by
 have h1:Tn str3=Lj.pts:=(by decide +kernel);have h2:(MR str3).ed=Lj.eds:=YQ (by decide +kernel);unfold SS;rw [h1,h2,ol];rfl
theorem Aa6(A:Option Addr)(c:Nat)(w:World)(hw:An w)(h:Jv w A c str3) :
  Calls Tryz.prog 47 #[.slice A 3 c] w (Qt w Lj [[66],[65],[120]]):=by
 have:=nG str3 AjK AjJ AjI A c w hw h;rw [AgB,ol]at this;exact this
def YC(m:Cm):Bool:=!LP m&&(decide (CH [] m.pts=0)&&(decide (CW m.pts.length m.nf [] m.eds=0)&&(decide (D8 m.pts [] m.eds=0)&&(!Rl (C3 m.pts m.eds) m.pts&&LK (AL m.pts m.eds) m.nf (OO ((AL m.pts m.eds).map (·.1)) (Ip m.pts m.eds)) (JS ((AL m.pts m.eds).map (·.1)) (OO ((AL m.pts m.eds).map (·.1)) (Ip m.pts m.eds)))))))
theorem nY{m:Cm}(h:YC m=true):Hr m=0:=by
 unfold YC at h;simp only [Bool.and_eq_true,decide_eq_true_eq,Bool.not_eq_true']at h;obtain⟨h1,h2,h3,h4,h5,h6⟩:=h
 have e:LK (AL m.pts m.eds) m.nf (Oa m) (PQ m)=true:=by unfold PQ Oa eZ eY;rw [←km,pH];exact h6
 unfold Hr YD;rw [if_neg (by rw [h1];simp),if_neg (by omega),if_neg (by omega),if_neg (by omega),if_neg (by rw [h5];simp),if_pos e]
theorem AaX:Hr Lj=0:=nY (by decide +kernel)
theorem AcI:∀p∈Lj.pts,D4 p:=fun p hp=>Zc ((List.all_eq_true.1 (by decide +kernel:Lj.pts.all Ro=true)) p hp)
end Go.Proofs.YtbejphgbbpplbaaGreatDoor
