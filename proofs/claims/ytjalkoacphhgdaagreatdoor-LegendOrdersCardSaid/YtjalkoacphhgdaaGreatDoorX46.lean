/- X46: BV. -/
import Derived.Test.YtjalkoacphhgdaaGreatDoorX42
import Derived.Test.YtjalkoacphhgdaaGreatDoorX37
set_option maxRecDepth 100000
set_option maxHeartbeats 16000000
namespace Go.Proofs.YtjalkoacphhgdaaGreatDoor
open Go.RowKit Kl Go.Shelf
def lookO(s:Sg)(L:List (Sg×Int)):Option Int:=(L.find? (fun e=>AL s e.1)).map (·.2)
theorem Am6{α:Type}{enc:α→Value}{same:α→α→Bool}{mt kt et:TypeId}{z:Value}(K:JJ mt kt et z enc same)(k:α)(l:List (α×Value×Nat)){b clock:Nat}{W:World}(hb:W.heap[b]?=some (.map (AB enc l).toArray clock)) :
  (Instr.lookup mt (.map (some b)) (enc k) true).run Tryz.prog W=.ok (.tuple #[Fu same z k l,.bool (l.find? (fun e=>same k e.1)).isSome]) W:=by
 have hf:=Sq K k l W;rw [ko]at hf;unfold Fu
 cases h:l.find? (fun e=>same k e.1)with
 | none=>
  rw [h]at hf
  have hf':(Instr.findKey kt (enc k) (AB enc l)).run Tryz.prog W=.ok none W:=by rw [hf];cases Ft same k l<;>rfl
  simp [Instr.lookup,run_underlying K.map,MapKept.run_getObj_map hb,K.chk,hf',K.zero,Result.andThen]
 | some e=>
  have hi:(Ft same k l).isSome:=by unfold Ft;rw [List.findIdx?_isSome,List.any_eq_true];exact⟨e,List.mem_of_find?_eq_some h,(by have:=List.find?_some h;exact this)⟩
  obtain⟨j,hj⟩:=Option.isSome_iff_exists.1 hi;rw [h,hj]at hf;simp only [Option.bind_some,Option.map_some]at hf;simp [Instr.lookup,run_underlying K.map,MapKept.run_getObj_map hb,K.chk,hf,Result.andThen]
theorem Anx(s:Sg)(L:List (Sg×Int)):((stamp L).find? (fun e=>AL s e.1)).isSome=(lookO s L).isSome:=by
 unfold lookO;rw [Option.isSome_map,Bool.eq_iff_iff,List.find?_isSome,List.find?_isSome];constructor
 ·rintro⟨x,hx,h⟩;obtain⟨e,he,h1⟩:=mT hx;exact⟨e,he,by rw [←h1];exact h⟩
 ·rintro⟨e,he,h⟩;obtain⟨i,hi,rfl⟩:=List.getElem_of_mem he;have hi':i<(stamp L).length:=(by rw [D4];exact hi);exact⟨(stamp L)[i],AqL hi',by rw [Yu];exact h⟩
theorem wu(s:Sg)(L:List (Sg×Int)){b:Nat}{W:World}(hb:W.heap[b]?=some (.map (AB As (stamp L)).toArray L.length)) :
  (Instr.lookup 131 (.map (some b)) (As s) true).run Tryz.prog W=.ok (.tuple #[.int .i64 ((lookO s L).getD 0),.bool (lookO s L).isSome]) W:=by
 rw [Am6 Xs s (stamp L) hb,m8,Anx]
 have:AI s L=(lookO s L).getD 0:=by
  unfold AI lookO
  cases L.find? (fun e=>AL s e.1)<;>rfl
 rw [this]
structure nG(P:List (List Pt×Bs)):Prop where
 so:qA P
 poly:∀e∈P,NP e.1
 apart:∀(i k:Nat) (hi:i<P.length) (hk:k<i),(∀j,j<(P[k]'(by omega)).1.length→LY P[i].1 (B6 (P[k]'(by omega)).1 j)∨Kx P[i].1 (B6 (P[k]'(by omega)).1 j))/\∃j,j<(P[k]'(by omega)).1.length/\Kx P[i].1 (B6 (P[k]'(by omega)).1 j)
def IU(L0:List (Sg×Int))(s:Sg):Option (Sg×Int×Int):=match lookO (AW s) L0 with
 | none=>some (s,AI s L0,-1)
 | some u=>if AI s L0≠u/\Be s.a s.b < 0 then some (s,AI s L0,u)else none
def Ef(L0:List (Sg×Int))(ws:List Sg):List (Sg×Int×Int):=ws.filterMap (IU L0)
theorem qI{L0:List (Sg×Int)}{ws:List Sg}{k:Nat}(hk:k<ws.length):Ef L0 (ws.take (k+1))=Ef L0 (ws.take k)++(IU L0 ws[k]).toList:=by
 unfold Ef;rw [AqN hk,List.filterMap_append]
 congr 1
theorem AbX{L0:List (Sg×Int)}{ws:List Sg}{k:Nat}(hk:k<ws.length){x:Sg×Int×Int}(hx:IU L0 ws[k]=some x):(Ef L0 ws)[(Ef L0 (ws.take k)).length]?=some x:=by
 have h1:Ef L0 ws=Ef L0 (ws.take (k+1))++Ef L0 (ws.drop (k+1)):=by unfold Ef;rw [←List.filterMap_append,List.take_append_drop]
 rw [h1,qI hk,hx,List.append_assoc,List.getElem?_append_right (AqK _),Nat.sub_self]
 rfl
theorem kU{B:Nat}{w w':World}{e:TypeId}{s n:Nat}{v:Value}{xs:List Value}{b1 b2:Nat}(h:w.ownsRow B e s v n xs)(hk:∀(k:Nat) (o:Obj),w.heap[k]?=some o→k≠b1→k≠b2→(∀cs,o≠.cells cs 92 (0,0))→w'.heap[k]?=some o)(hne:∀k,v.ownBlock=some k→k≠b1/\k≠b2)(he:e≠92):w'.ownsRow B e s v n xs:=by
 refine⟨h.1,?_⟩
 rcases h.2 with h'|⟨g,cap,cur,e1,e2,hgb,e4⟩
 ·exact .inl h'
 ·refine .inr ⟨g,cap,cur,e1,e2,hk g _ hgb ?_ ?_ (fun cs e=>he (Obj.cells.inj e).2.1),e4⟩
  ·exact(hne g (by rw [e1];rfl)).1
  ·exact(hne g (by rw [e1];rfl)).2
def R2(w w':World)(b1 b2:Nat):Prop:=∀(k:Nat) (o:Obj),w.heap[k]?=some o→k≠b1→k≠b2→(∀cs,o≠.cells cs 92 (0,0))→w'.heap[k]?=some o
theorem Qy{a b d:World}{b1 b2:Nat}(h:R2 a b b1 b2)(k:R2 b d b1 b2):R2 a d b1 b2:=fun i o h1 h2 h3 h4=>k i o (h i o h1 h2 h3 h4) h2 h3 h4
theorem Xr{a b:World}{b1 b2:Nat}(hx:Aa a b):R2 a b b1 b2:=fun _ _ h _ _ _=>(hx.block _ (AqI h)).trans h
structure NH(P:List (List Pt×Bs))(n k bg bs:Nat)(gl:List Int)(ul:List Bs)(W:World):Prop where
 lg:gl.length=n
 lu:ul.length=n
 g:∀j,j<k→gl[j]?=some (j:Int)
 u:∀j,j<k→ul[j]?=some (P.getD j ([],[])).2
 og:W.ownsRow 0 3 1 (.slice (some ⟨bg,0,none⟩) n n) n (zs gl)
 os:W.ownsRow 0 9 1 (.slice (some ⟨bs,0,none⟩) n n) n (ul.map S)
theorem NH.step{P:List (List Pt×Bs)}{n k bg bs:Nat}{gl:List Int}{ul:List Bs}{W:World}(h:NH P n k bg bs gl ul W)(hk:k<n)(hne:bg≠bs) :
  NH P n (k+1) bg bs (gl.set k (k:Int)) (ul.set k (P.getD k ([],[])).2) ((W.setCell ⟨bg,k,none⟩ (.int .i64 (k:Nat))).setCell ⟨bs,k,none⟩ (S (P.getD k ([],[])).2)):=by
 have g1:=(h.og.stored k (.int .i64 (k:Nat))).1;have g2:=ownsRow_setCell_other (a:=⟨bs,k,none⟩) g1 (by simp only [Value.ownBlock,ne_eq,AqO];exact hne) (S (P.getD k ([],[])).2);have u1:=ownsRow_setCell_other (a:=⟨bg,k,none⟩) h.os (by simp only [Value.ownBlock,ne_eq,AqO];exact fun e=>hne e.symm) (.int .i64 (k:Nat));have u2:=(u1.stored k (S (P.getD k ([],[])).2)).1;refine⟨by rw [List.length_set];exact h.lg,by rw [List.length_set];exact h.lu,fun j hj=>?_,fun j hj=>?_,by rw [←Aas];exact g2,by rw [List.map_set];exact u2⟩
 ·by_cases e:j=k
  ·subst e;rw [List.getElem?_set_self (by rw [h.lg];exact hk)]
  ·rw [List.getElem?_set_ne (fun e'=>e e'.symm)];exact h.g j (by omega)
 ·by_cases e:j=k
  ·subst e;rw [List.getElem?_set_self (by rw [h.lu];exact hk)]
  ·rw [List.getElem?_set_ne (fun e'=>e e'.symm)];exact h.u j (by omega)
theorem Bw.base{B B':Nat}{W:World}{r b1 b2:Nat}{L:List (Sg×Int)}{E:List (Pt×Value×Nat)}{R:List (Pt×List Pt)}(h:Bw B W r b1 b2 L E R)(e:B=B'):Bw B' W r b1 b2 L E R:=e▸h
structure pN(pts:List Pt)(eds:List Az)(n:Nat)(R1:List (Pt×List Pt)):Prop where
 eo:NG pts eds
 le:eds.length<=1000
 wo:Px ((AO pts eds).map (·.1))
 gr:∀s∈(AO pts eds).map (·.1),JL s
 lf:∀x∈AO pts eds,-1<=x.2/\x.2<(n:Int)
 r1:R1=(C7 pts eds).map (fun e=>(e.1,Ea e.1 e.2))
 op:(KR (AO pts eds) n (Is ((AO pts eds).map (·.1)) R1) (Kv ((AO pts eds).map (·.1)) (Is ((AO pts eds).map (·.1)) R1))).op=false
 hz:∀e∈R1,Ar 200 e.1/\∀p∈e.2,Ar 200 p
 ln:R1.length<=400
 rl:∀e∈R1,e.2.length<100000
 nd:(R1.map (·.1)).Nodup
 no:∀e∈R1,∀p q,e.2 = [p,q]→AH (Al p e.1 q)≠0
 sz:∀e∈AO pts eds,Ex 200 e.1
 bk:∀e∈AO pts eds,∃e'∈AO pts eds,e'.1=AW e.1
theorem uF{l:List Az}{j:Nat}(hj:j<(B7 l).length):∃z,(B7 l)[j]=.int .i64 z:=by
 have:=AqL hj;unfold B7 at this;rw [List.mem_flatMap]at this;obtain⟨p,_,h⟩:=this;simp only [List.mem_cons,AqV,or_false]at h
 rcases h with h|h|h|h<;>exact⟨_,h⟩
theorem lN{w w':World}{A:Option Addr}{l:List Value}{b:Nat}{a0 a1 a2:Value}{t:TypeId}(h:Ad w A l)(hb:Au (fun q=>q=b) w w')(hm:w.heap[b]?=some (.cells #[a0,a1,a2] t))(hne:∀(j:Nat) (hj:j<l.length),l[j]≠a0/\l[j]≠a1/\l[j]≠a2):Ad w' A l:=by
 refine⟨fun h0=>?_⟩;obtain⟨g,o,e,hc⟩:=h.ad h0;refine⟨g,o,e,fun j hj=>?_⟩;have h1:=hc j hj;refine(World.cell?_of_block (a:=⟨g,o+j,none⟩) (hb.block g (World.block_lt_of_cell? w _ h1) (fun e'=>?_))).trans h1;subst e';have h2:=AcT hm h1;obtain⟨n1,n2,n3⟩:=hne j hj
 match hn:o+j with
 | 0=>rw [hn]at h2;exact n1 (by simpa using h2.symm)
 | 1=>rw [hn]at h2;exact n2 (by simpa using h2.symm)
 | 2=>rw [hn]at h2;exact n3 (by simpa using h2.symm)
 | n+3=>rw [hn]at h2;simp at h2
def Uy(w:World)(m:Cw)(An:List Bs)(e:Ending)(w':World):Prop:=
 ∃A Bk F c d g,e=.returned (.tuple #[DK A Bk F m c d g,.int .i64 0])/\K3 m c d g/\Ad w' A (flat (Ao m.pts))/\Ad w' Bk (B7 m.eds)/\Ad w' F (An.map S)/\m.nf=An.length/\Aa w w'
theorem AcW(P:List (List Pt×Bs))(hP:nG P)(Gk:0<P.length)(OF:∀e∈BC P P.length,0<=e.2/\e.2<(P.length:Int)/\∀z,lookO (AW e.1) (BC P P.length)=some z→0<=z/\z<(P.length:Int)/\(P.getD e.2.toNat ([],[])).2≠(P.getD z.toNat ([],[])).2)(Js:∀e∈BC P P.length,Ex 200 e.1)(Dx:(BC P P.length).length<=10000){Es:List Pt}{CE:List Az}(hadd:Ef (BC P P.length) (BA ((BC P P.length).map (·.1)))=CE.map (fun e=>(Bh Es e,e.l,e.r))){R1:List (Pt×List Pt)}(Hy:pN Es CE P.length R1){pts:List Pt}(OA:pts=ES (R1.map (·.1))){st:GT}(hst:st=IW (P.map (·.2)) (BR pts) (AO Es CE) (BA ((AO Es CE).map (·.1))))(A:Option Addr)(c:Nat)(w:World)(hw:Am w)(h:KI w A c P) :
  Calls Tryz.prog 44 #[.slice A P.length c] w (Uy w ⟨pts,st.ed,st.fa.length⟩ st.fa):=by
 have hmm:=@run_makeMap Tryz.prog;have hlen:P.length<=1000:=hP.so.len;have hc1:=h.c1;have hc2:=h.c2;have HP:=AqH hP;have HA:=AqH h;obtain⟨n,hn⟩:=AqG P.length;rw [←hn]at hlen hc1 Gk OF Js Dx hadd Hy ⊢;have Aax:=AqH hadd;have HNI:=AqH Hy;have U8:=AqH Hy.eo;have UC:=AqH OA;have HST:=AqH hst;have hel:=Hy.le;have FW:=AqH Dx;have Zc:=AqH OF;have JF:=AqH Js;have HN:=AqH hn;have E1:=(Aa.refl w).alloc (.cells #[.slice none 0 0,.slice none 0 0,.slice none 0 0] 36);have hbr:=AqJ w (.cells #[.slice none 0 0,.slice none 0 0,.slice none 0 0] 36);clear hP h hn OF Js Dx hadd Hy OA hst;go_enter Tryz.func44,Tryz.ntmps44
 go_upto_region 4 with fail
 generalize w.alloc (.cells #[.slice none 0 0,.slice none 0 0,.slice none 0 0] 36)=W1 at *;have hl0:(0:Int)<=(n:Int):=by omega
 go_loopw [39] (fun iv wr=>∃k:Nat,iv=.int .i64 (k:Nat)/\k<=n/\Aa W1 wr) (fun iv _=>n-(intOf iv).toNat)
 case atStart=>exact⟨0,rfl,by omega,Aa.refl _⟩
 case round=>
  obtain⟨k,rfl,hk,hX⟩:=hrel;by_cases hkn:k<n
  ·have Qh:k<P.length:=(by rw [←HN.out];exact hkn);obtain⟨bA,oA,A',c',rfl,AG,AX,By,AN,hr1,hr2⟩:=HA.out.row k Qh;have BY:=E1.trans hX;replace AG:=BY.cellS AG;replace AX:=BY.cellS AX;replace By:=BY.cellS By;have hk0:(0:Int)<=(k:Int):=(by omega);have BH:(k:Int)<(n:Int):=(by omega);have Jo:=HP.out.poly _ (AqL Qh);have hsz:=HP.out.so.sz _ (AqL Qh);obtain⟨pg,GB⟩:=AqG (P[k].1);obtain⟨un,Av⟩:=AqG (P[k].2);rw [←GB]at AG AN hr1 Jo hsz;rw [←Av]at AX;have EA:=(Aa.refl wr).alloc (.cells #[.slice A' pg.length c',S un,.slice none 0 0] 95);have Aq:=AqJ wr (.cells #[.slice A' pg.length c',S un,.slice none 0 0] 95);have ck:=lE pg Jo hsz (by omega) (by omega) A' c' _ (hw.ext (BY.trans EA)) (AN.ext (BY.trans EA)) hr1 hr2;have y0:=Ab (o:=0) Aq rfl;clear GB Av Jo hsz;(go_wp2_with fail);(with_reducible refine ck.mono ?_);rintro e w2 ⟨rfl,hx2⟩;go_wp2;go_roundw
   case rel=>exact⟨k+1,by go_num,hkn,(hX.trans EA).trans hx2⟩
   case measure=>simp [intOf];omega
  ·have Bt:k=n:=(by omega);subst Bt;have hd:decide (k<k)=false:=(by simp);have BP:decide ((k:Int)<(k:Int))=false:=by simp
   go_upto_region 11 with fail
   obtain⟨W2,rfl⟩:=jW hX;have CH:=E1.trans hX;have hR2:=(hX.block _ (AqI hbr)).trans hbr;clear hX hd BP E1 hbr
   go_loopw [53] (fun iv wr=>∃i:Nat,iv=.int .i64 (i:Nat)/\i<=k/\Aa W2 wr) (fun iv _=>k-(intOf iv).toNat)
   case atStart=>exact⟨0,rfl,by omega,Aa.refl _⟩
   case round=>
    obtain⟨i,rfl,hi,hX⟩:=hrel;have BY:=CH.trans hX;by_cases hin:i<k
    ·have Nf:i<P.length:=(by rw [←HN.out];exact hin);obtain⟨bA,oA,A',c',rfl,AG,AX,By,AN,hr1,hr2⟩:=HA.out.row i Nf;replace AG:=BY.cellS AG;replace AX:=BY.cellS AX;replace By:=BY.cellS By;have Lt:(0:Int)<=(i:Int):=(by omega);have Qf:(i:Int)<(k:Int):=(by omega);have Jo:=HP.out.poly _ (AqL Nf);have hsz:=HP.out.so.sz _ (AqL Nf);have hap:=fun q (hq:q<i)=>HP.out.apart i q Nf hq;obtain⟨pg,GB⟩:=AqG (P[i].1);obtain⟨un,Av⟩:=AqG (P[i].2);rw [←GB]at AG AN hr1 Jo hsz hap;rw [←Av]at AX;have EA:=(Aa.refl wr).alloc (.cells #[.slice A' pg.length c',S un,.slice none 0 0] 95);have Aq:=AqJ wr (.cells #[.slice A' pg.length c',S un,.slice none 0 0] 95);have Rn:=AqH hap;clear GB Av hap
     go_upto_region 14 with fail
     unfold S at Aq EA;generalize wr.alloc (.cells #[.slice A' pg.length c',.string ⟨un.toArray⟩,.slice none 0 0] 95)=W3 at *;obtain⟨b8,Du⟩:=AqG wr.heap.size;rw [←Du]at Aq ⊢;clear Du AG AX By;have Ht:=hX.trans EA;have Di:=CH.trans Ht;have y0:=Ab (o:=0) Aq rfl;clear EA hX Aq
     go_loopw [62] (fun jv wj=>∃j:Nat,jv=.int .i64 (j:Nat)/\j<=i/\Aa W3 wj) (fun jv _=>i-(intOf jv).toNat)
     case atStart=>exact⟨0,rfl,by omega,Aa.refl _⟩
     case round=>
      obtain⟨j,rfl,hj,PT⟩:=hrel;have PU:=Di.trans PT;by_cases O2:j<i
      ·have I4:j<P.length:=(by omega);obtain⟨bB,oB,B',d',he,AG,AX,By,ij,hs1,hs2⟩:=HA.out.row j I4;simp only [AqO,Addr.mk.injEq,and_true]at he;obtain⟨rfl,rfl⟩:=he;replace AG:=PU.cellS AG;replace AX:=PU.cellS AX;replace By:=PU.cellS By;have hj0:(0:Int)<=(j:Int):=(by omega);have Gh:(j:Int)<(i:Int):=(by omega);obtain⟨Z4,Z5⟩:=Rn.out j O2;have gP:=HP.out.poly _ (AqL I4);have L9:=HP.out.so.sz _ (AqL I4);obtain⟨qg,fp⟩:=AqG (P[j].1);obtain⟨un,Av⟩:=AqG (P[j].2);rw [←fp]at AG ij hs1 gP L9 Z4 Z5;rw [←Av]at AX;have EA:=(Aa.refl wr).alloc (.cells #[.slice B' qg.length d',S un,.slice none 0 0] 95);have Aq:=AqJ wr (.cells #[.slice B' qg.length d',S un,.slice none 0 0] 95);have it:=AiE pg qg Jo gP hsz L9 Z4 Z5 A' B' c' d' _ (hw.ext (PU.trans EA)) (AN.ext (PU.trans EA)) (ij.ext (PU.trans EA)) hr1 hr2 hs1 hs2;have z0:=Ab (o:=0) Aq rfl;have z1:=EA.cellS (PT.cellS y0);clear fp Av Z4 Z5 gP L9;(go_wp2_with fail);(with_reducible refine it.mono ?_);rintro e w2 ⟨rfl,hx2⟩;go_wp2;go_roundw
       case rel=>exact⟨j+1,by go_num,O2,(PT.trans EA).trans hx2⟩
       case measure=>simp [intOf];omega
      ·have Kf:j=i:=(by omega);subst Kf;go_wp2;go_roundw
       case rel=>exact⟨j+1,by go_num,hin,Ht.trans PT⟩
       case measure=>simp [intOf];omega
    ·have O0:i=k:=(by omega);subst O0;have hd:decide (i<i)=false:=(by simp);have BP:decide ((i:Int)<(i:Int))=false:=(by simp);have ps:=fun (V:World) (hV:Aa w V)=>Al1 P HP.out.so A c V (hw.ext hV) (HA.out.ext hV);rw [←HN.out]at ps;have p1:=ps wr BY;(go_wp2_with fail);(with_reducible refine p1.mono ?_);rintro e w4 ⟨bl,rfl,hML,hbl,Ai⟩;have Iy:=BY.trans Ai;have Apu:w.heap.size<=bl:=(by have:=BY.size;omega);have VP:=((hX.trans Ai).block _ (AqI hR2)).trans hR2;clear ps p1 hR2 CH hX Ai BY hd BP;have mki:=oh i (by omega) (i:Int) rfl w4;have E5:=(Aa.refl w4).alloc (.cells (madeCells #[.int .i64 0] i) 3);have mks:=AjQ i (by omega) (i:Int) rfl (w4.alloc (.cells (madeCells #[.int .i64 0] i) 3))
     go_upto_region 25 with fail
     have og:=rk w4 0 i (Nat.zero_le _) (by omega);have os:=AkY (w4.alloc (.cells (madeCells #[.int .i64 0] i) 3)) 0 i (Nat.zero_le _) (by omega);rw [AqR]at os;have E6:=E5.alloc (.cells (madeCells #[S []] i) 9);have kG:=AC og ((Aa.refl (w4.alloc (.cells (madeCells #[.int .i64 0] i) 3))).alloc (.cells (madeCells #[S []] i) 9));have Lg:=hML.ext E6;have ML:=(E6.block _ (AqI VP)).trans VP;have MP:=Iy.trans E6;have iu:((w4.alloc (.cells (madeCells #[.int .i64 0] i) 3)).alloc (.cells (madeCells #[S []] i) 9)).heap.size=w4.heap.size+2:=(by simp only [AqR]);obtain⟨bg,hbg⟩:=AqG w4.heap.size;rw [←hbg]at kG os iu ⊢;have Ag3:=AqI hML;have hRl:=AqI VP;generalize (w4.alloc (.cells (madeCells #[.int .i64 0] i) 3)).alloc (.cells (madeCells #[S []] i) 9)=W6 at *;have wS:NH P i 0 bg (bg+1) (zn (List.replicate i 0)) (List.replicate i []) W6:=⟨by simp [zn],by simp,fun j hj=>by omega,fun j hj=>by omega,kG,os⟩;have Apq:w.heap.size<bg:=(by omega);have Aps:bl<bg:=(by omega);clear mki mks og os kG E5 E6 hML VP Iy hbg iu Ag3 hRl hbl
     go_loopw [89] (fun kv wk=>∃(k:Nat) (gl:List Int) (ul:List Bs),kv=.int .i64 (k:Nat)/\k<=i/\NH P i k bg (bg+1) gl ul wk/\Au (fun q=>q=bg∨q=bg+1) W6 wk) (fun kv _=>i-(intOf kv).toNat)
     case atStart=>exact⟨0,_,_,rfl,by omega,wS,Au.refl _ _⟩
     case round=>
      obtain⟨k,gl,ul,rfl,hk,hG,hB⟩:=hrel;have BY:Aa w wr:=hB.toExt MP (fun q e=>by rcases e with e|e<;>omega);by_cases hkn:k<i
      ·have Qh:k<P.length:=(by rw [←HN.out];exact hkn);obtain⟨bA,oA,A',c',rfl,AG,AX,By,AN,hr1,hr2⟩:=HA.out.row k Qh;replace AG:=BY.cellS AG;replace AX:=BY.cellS AX;replace By:=BY.cellS By;have hk0:(0:Int)<=(k:Int):=(by omega);have BH:(k:Int)<(i:Int):=(by omega);obtain⟨pg,GB⟩:=AqG (P[k].1);obtain⟨un,Av⟩:=AqG (P[k].2);have hgd:(P.getD k ([],[])).2=un:=(by rw [Av];simp [List.getD_eq_getElem?_getD,AqP Qh]);rw [←GB]at AG;rw [←Av]at AX;have EA:=(Aa.refl wr).alloc (.cells #[.slice A' pg.length c',S un,.slice none 0 0] 95);have Aq:=AqJ wr (.cells #[.slice A' pg.length c',S un,.slice none 0 0] 95);have Oi:NH P i k bg (bg+1) gl ul (wr.alloc (.cells #[.slice A' pg.length c',S un,.slice none 0 0] 95)):=⟨hG.lg,hG.lu,hG.g,hG.u,AC hG.og EA,AC hG.os EA⟩;have B5:=hB.ext EA;clear GB Av
       go_upto_region 27 with fail
       unfold S at Aq EA Oi B5;generalize wr.alloc (.cells #[.slice A' pg.length c',.string ⟨un.toArray⟩,.slice none 0 0] 95)=W3 at *;obtain⟨b8,Du⟩:=AqG wr.heap.size;rw [←Du]at Aq ⊢
       have Apo:bg+1<b8:=by obtain⟨cu,eB⟩:=OL hG.os;have:=AqI eB;omega
       have y1:=Ab (o:=1) Aq rfl;have CZ:∃z,gl[k]?=some z:=⟨_,AqP (by rw [hG.lg];exact hkn)⟩;have Xf:∃z,ul[k]?=some z:=⟨_,AqP (by rw [hG.lu];exact hkn)⟩;obtain⟨zg,CZ⟩:=CZ;obtain⟨zu,Xf⟩:=Xf;have c1:W3.cell? ⟨bg,k,none⟩=some (.int .i64 zg):=(by rw [Oi.og.cellAt k (by omega)];simp [zs,CZ]);have c2:W3.cell? ⟨bg+1,k,none⟩=some (S zu):=(by rw [Oi.os.cellAt k (by omega)];simp [Xf]);have f1:=Oi.og.frozenAt k;have f2:=Oi.os.frozenAt k;have Hp:=Oi.step hkn (by omega);rw [hgd]at Hp;have Pf:=AqH Hp;have U6:=AqH B5;unfold S at y1 c2;have fP:bg≠bg+1:=(by omega);have Fp:b8≠bg:=(by omega);have ApX:b8≠bg+1:=(by omega);clear Du Oi Hp B5 hG hB CZ Xf hgd AG AX By EA Aq BY
       go_region
       go_wp2;go_roundw
       case rel=>exact⟨k+1,_,_,by go_num,hkn,⟨Pf.out.lg,Pf.out.lu,Pf.out.g,Pf.out.u,AC Pf.out.og (Aa.refl _).drew,AC Pf.out.os (Aa.refl _).drew⟩,((U6.out.setCell (p:=⟨bg,k,none⟩) (.inl (.inl rfl)) _).setCell (p:=⟨bg+1,k,none⟩) (.inl (.inr rfl)) _).ext (Aa.refl _).drew⟩
       case measure=>simp [intOf];omega
      ·have Bt:k=i:=(by omega);subst Bt;have hd:decide (k<k)=false:=(by simp);have BP:decide ((k:Int)<(k:Int))=false:=(by simp);have Ff:D6 wr bl (BC P k):=(hB.block _ (AqI Lg) (fun e=>by rcases e with e|e<;>omega)).trans Lg;have cR:=(hB.block _ (AqI ML) (fun e=>by rcases e with e|e<;>omega)).trans ML;clear hB Lg ML MP wS;obtain⟨L0,bW⟩:=AqG (BC P k);rw [←bW]at Ff;unfold D6 at Ff;have hrg:=CC.range (enc:=As) (E:=stamp L0) (t:=131) Tryz.underlying131 (W:=wr) (b:=bl) (by rw [D4];exact Ff);obtain⟨hr1,hr2⟩:=hrg;have E8:=(Aa.refl wr).alloc (.mapIter (some bl) (stamp L0).length #[] (stamp L0).length);have S7:=(E8.block _ (AqI Ff)).trans Ff;have dI:=BY.trans E8;have cS:=(E8.block _ (AqI cR)).trans cR;have MG:NH P k k bg (bg+1) gl ul (wr.alloc (.mapIter (some bl) (stamp L0).length #[] (stamp L0).length)):=⟨hG.lg,hG.lu,hG.g,hG.u,AC hG.og E8,AC hG.os E8⟩;have Ag4:=AqI Ff;obtain⟨cu7,zM⟩:=OL hG.os;have Ahb:=AqI zM;have Hb:=AqH bW;clear bW hG cR BY E8 hd BP
       go_upto_region 30 with fail
       clear hr1 Ff;obtain⟨bt,Gf⟩:=AqG wr.heap.size;rw [←Gf]at hr2 ⊢;generalize wr.alloc (.mapIter (some bl) (stamp L0).length #[] (stamp L0).length)=W8 at *;have Apt:bl<bt:=(by omega);have EG:bg+1<bt:=(by omega);clear Gf Ag4 zM Ahb
       go_loopw [106] (fun v wx=>v=v/\∃seen,CC wx bt bl (stamp L0) seen/\Au (fun q=>q=bt) W8 wx) (fun _ wx=>L0.length-(wx.iterSeen bt).size)
       case atStart=>exact⟨rfl,[],hr2,Au.refl _ _⟩
       case round=>
        obtain⟨-,seen,hI,hB⟩:=hrel;have Je:=(hB.block bl (AqI S7) (by omega)).trans S7;have dS:=Je;rw [←D4]at dS;have Lj:Aa w wr:=hB.toExt dI (fun q e=>by subst e;omega)
        rcases CC.next As hI dS (mS L0) (by omega) 0 with⟨hlen,hrun⟩|⟨j,hj,GA,W9,PI,hG9,hs9,hrun,hen⟩
        ·have YO:=AqH hlen
         obtain⟨qi,QB⟩:wr.ownsRow 0 3 1 (.slice (some ⟨bg,0,none⟩) k k) k (zs gl)/\wr.ownsRow 0 9 1 (.slice (some ⟨bg+1,0,none⟩) k k) k (ul.map S):=
          ⟨CB MG.og hB (fun q hq e=>by simp only [Value.ownBlock,AqO]at hq;omega),CB MG.os hB (fun q hq e=>by simp only [Value.ownBlock,AqO]at hq;omega)⟩
         have VR:=AqI cS;have MM:=(hB.block _ VR (by omega)).trans cS;have HG:=AqH MG;have em:=uJ wr;have en:=@uI wr
         have eb:Aa wr (NZ wr):=((Aa.refl wr).alloc _).alloc _ |>.alloc _
         clear hlen hB hI cS dI S7 MG dS hr2
         go_upto_region 35 with fail
         clear hrun;generalize NZ wr=V0 at *;obtain⟨wb,OG⟩:=AqG wr.heap.size;rw [←OG]at em en;have Aqs:w.heap.size<=wb:=by have:=Lj.size;omega
         have App:bg+1<wb:=by obtain⟨cu,eB⟩:=OL QB;have:=AqI eB;omega
         have Apr:bl<wb:=(by have:=AqI Je;omega);have hRb:w.heap.size<wb:=(by have:=AqI MM;omega);have Ze:=AqH OG;clear OG;(go_wp2_with fail);(with_reducible refine em.mono ?_);rintro e w10 ⟨rfl,hw10⟩;rw [hw10];clear hw10 em;have SE:=Lj;have PS:=Lj.trans eb;have bX:=(eb.block _ (AqI Je)).trans Je;have kw:=fun W=>jI (some bl) W;have Mj:=(Aa.refl V0).alloc (.cells #[.map (some bl)] 131);have BU:=AqJ V0 (.cells #[.map (some bl)] 131);have S4:=(Mj.block _ (AqI bX)).trans bX;have sk:=mO hw (PS.trans Mj) V0.heap.size bl L0 (AqI BU) (Ab BU rfl) S4 (fun e he=>JF.out e (by rw [←Hb.out];exact he)) (by have:=FW.out;rw [←Hb.out]at this;omega);obtain⟨ws,OH⟩:=AqG (BA (L0.map (·.1)));have hwl:ws.length=L0.length:=(by rw [OH,(J4 _).length_eq];simp);rw [←OH,←hwl]at sk;have Aqu:ws.length<=10000:=(by have:=FW.out;rw [←Hb.out]at this;omega);have Mq:=AqH OH;clear OH hwl;(go_wp2_with fail);(with_reducible refine(kw _).mono ?_);rintro e w11 ⟨rfl,rfl⟩;(go_wp2_with fail);(with_reducible refine sk.mono ?_);rintro e Uw ⟨sv,rfl,hS12,hE12⟩;obtain⟨sA,sc,rfl,-,-,-⟩:=Ad.of_own' (by omega) hS12;have U3:=Mj.trans hE12;have Agu:=PS.trans U3;have Mk:=eb.trans U3;have cH:=en.ext U3;have qh:=AC qi Mk;have rb:=AC QB Mk;have wX:=(Mk.block _ (AqI Je)).trans Je;have xH:=(Mk.block _ (AqI MM)).trans MM;have hVl:wb+3<=V0.heap.size:=(by have:=AqI en.cell;omega);have HQ:=AqH (And.intro SE (And.intro Mk (And.intro QB MM)));clear kw sk BU S4 bX PS eb en Je MM qi QB Mj hE12 U3 Mk Lj SE;have Aqt:(0:Int)<=(ws.length:Int):=by omega
         go_upto_region 37 with fail
         have hadd:Ef L0 ws=CE.map (fun e=>(Bh Es e,e.l,e.r)):=(by rw [Mq.out,Hb.out];exact Aax.out);have VC:wb<=Uw.heap.size:=(by have:=AqI cH.cell;omega);have BX:wb<=wb+2:=(by omega);have YC:=AqH hadd
         have Zf:=AqH (show ∀s∈ws,∃e∈L0,e.1=s from fun s hs=>by
          rw [Mq.out]at hs;obtain⟨e,he,h1⟩:=List.mem_map.1 ((J4 _).mem_iff.1 hs)
          exact⟨e,he,h1⟩)
         clear hadd
         go_loopw [143] (fun kv wk=>∃(q j:Nat) (E:List (Pt×Value×Nat)),kv=.int .i64 (q:Nat)/\q<=ws.length/\j=(Ef L0 (ws.take q)).length/\Bw wb wk (wb+2) wb (wb+1) (AO Es (CE.take j)) E (C7 Es (CE.take j))/\R2 Uw wk wb (wb+1)/\Below wb Uw wk) (fun kv _=>ws.length-(intOf kv).toNat)
         case atStart=>exact⟨0,0,[],rfl,by omega,rfl,by simpa [AO,C7]using cH,fun _ _ h _ _ _=>h,Below.refl _ _⟩
         case round=>
          obtain⟨q,j,E,rfl,hq,hj,hN,hK,hBl⟩:=hrel;have MN:=kU hS12 hK (fun k hk=>by have:=(hS12.lt k hk).1;rw [AqR]at this;omega) (by decide);have qj:=kU qh hK (fun k hk=>by simp only [Value.ownBlock,AqO]at hk;omega) (by decide);have osr:=kU rb hK (fun k hk=>by simp only [Value.ownBlock,AqO]at hk;omega) (by decide);have EE:=hK bl _ wX (by omega) (by omega) (fun cs e=>by cases e);have PQ:=hK _ _ xH (by omega) (by omega) (fun cs e=>by simp only [Obj.cells.injEq]at e;exact absurd e.2.1 (by decide));have BL:Aa w wr:=Agu.trans_below hBl (by omega);by_cases Jp:q<ws.length
          ·obtain⟨b,o,rfl,f1,f2,f3,f4⟩:=NC (N6 (by omega) MN) Jp;obtain⟨e1,Lq,Kd⟩:=Zf.out _ (AqL Jp);have iG:=Zc.out e1 (by rw [←Hb.out];exact Lq);have hsz:=JF.out e1 (by rw [←Hb.out];exact Lq);rw [←Hb.out]at iG;obtain⟨e2,I3,hf2⟩:=Xy (s:=ws[q]) (L:=L0) (by rw [←Kd];exact List.mem_map_of_mem Lq);have hfr:=Zc.out e2 (by rw [←Hb.out];exact I3);rw [←hf2]at hfr;rw [Kd]at hsz;have jk:∀z,lookO (AW ws[q]) L0=some z→0<=z/\z<(k:Int):=fun z hz=>(by have:=iG.2.2 z (by rw [Kd];exact hz);exact⟨this.1,this.2.1⟩);replace hfr:0<=AI ws[q] L0/\AI ws[q] L0<(k:Int):=⟨hfr.1,hfr.2.1⟩;clear iG;have I8:=qI (L0:=L0) Jp;have EG:=fun x hx=>AbX (L0:=L0) (x:=x) Jp hx;rw [←hj]at EG;obtain⟨s,hs⟩:=AqG (ws[q]);rw [←hs]at f1 f2 f3 f4 jk hsz hfr I8 EG;obtain⟨fi,Dk⟩:∃fi:Nat,AI s L0=(fi:Int):=⟨(AI s L0).toNat,by omega⟩;have Mp:=AqH I8;have JD:=AqH EG;have HJ:=AqH hj;have AG:(0:Int)<=(q:Int):=(by omega);have AX:(q:Int)<(ws.length:Int):=(by omega);have EA:=(Aa.refl wr).alloc (.cells #[S (R s.a.x),S (R s.a.y),S (R s.b.x),S (R s.b.y)] 155);have Aq:=AqJ wr (.cells #[S (R s.a.x),S (R s.a.y),S (R s.b.x),S (R s.b.y)] 155);clear hs Kd Lq e1 I3 hf2 I8 EG hj
           go_upto_region 39 with fail
           unfold S at Aq EA;generalize wr.alloc (.cells #[.string ⟨(R s.a.x).toArray⟩,.string ⟨(R s.a.y).toArray⟩,.string ⟨(R s.b.x).toArray⟩,.string ⟨(R s.b.y).toArray⟩] 155)=V at *;obtain⟨bx,AA⟩:=AqG wr.heap.size;rw [←AA]at Aq ⊢;clear AA f1 f2 f3 f4;have y0:=Ab (o:=0) Aq rfl;have y1:=Ab (o:=1) Aq rfl;have y2:=Ab (o:=2) Aq rfl;have y3:=Ab (o:=3) Aq rfl;have bk1:=UY s V;unfold As S at bk1;(go_wp2_with fail);(with_reducible refine bk1.mono ?_);rintro e V2 ⟨rfl,hx11⟩;have Ht:=EA.trans hx11;have Ol:=(Ht.block _ (AqI EE)).trans EE;have lk:=wu (AW s) L0 (W:=V2) Ol;have OI:=QP s L0 (W:=V2) Ol;rw [Dk]at OI;have ogV:=AC qj Ht;have MU:=(hx11.block _ (AqI Aq)).trans Aq;have z0:=Ab (o:=0) MU rfl;have z1:=Ab (o:=1) MU rfl;have z2:=Ab (o:=2) MU rfl;have z3:=Ab (o:=3) MU rfl;have hG:=HG.out;have Ox:fi<k:=(by omega);unfold As S at lk OI;clear bk1 y0 y1 y2 y3 Aq;have rt:=fun (x:Nat) (hx:x<k) (V3:World) (h3:Aa V2 V3)=>Amv (l:=gl) (k:=x) (c:=k) (by rw [hG.lg];exact hx) (by have:=hG.g x hx;rw [AqP (by rw [hG.lg];exact hx)]at this;exact Option.some.inj this) (N6 (by omega) (AC ogV h3));rw [hG.lg]at rt
           cases hlo:lookO (AW s) L0 with
           | none=>
            rw [hlo]at lk;simp only [Option.getD_none,Option.isSome_none]at lk;have Hu:IU L0 s=some (s,(fi:Int),-1):=(by unfold IU;rw [hlo,Dk]);have Oy:=JD.out _ Hu;rw [YC.out,List.getElem?_map]at Oy;obtain⟨e0,Jj,SX⟩:=Option.map_eq_some_iff.1 Oy;simp only [Prod.mk.injEq]at SX;obtain⟨Lb,Si,Sj⟩:=SX
            have AV:j<CE.length:=by
             rcases Nat.lt_or_ge j CE.length with h|h
             ·exact h
             ·rw [List.getElem?_eq_none h]at Jj;cases Jj
            have Lp:CE[j]=e0:=(by rw [AqP AV]at Jj;exact Option.some.inj Jj);have DY:=U8.out.keys AV;have To:=U8.out.ne _ (AqL AV);rw [Lp,Lb]at DY To
            have S9:AO Es (CE.take (j+1))=AO Es (CE.take j) ++ [(s,(fi:Int)),(AW s,-1)]:=by rw [AqN AV,XL,Lp,Lb,Si,Sj]
            have SA:C7 Es (CE.take (j+1))=CU (CU (C7 Es (CE.take j)) s.a s.b) s.b s.a:=by rw [AqN AV,XM,Lp,Lb]
            have hrl:=TS Es (CE.take j);have hjn:j+1=(Ef L0 (ws.take (q+1))).length:=(by rw [Mp.out,List.length_append,←HJ.out,Hu];rfl);have YS:=AqH S9;have YT:=AqH SA;have JE:=AqH hjn;clear hlo Hu Oy Jj Lp Lb Si Sj S9 SA hjn;have r1:=rt fi Ox
            go_upto_region 43 with fail
            have r2:=r1 V2 (Aa.refl _);(go_wp2_with fail);(with_reducible refine r2.mono ?_);rintro e V3 ⟨rfl,hx13⟩;have G2:=hN.ext (Ht.trans hx13);have Apl:=BL.trans (Ht.trans hx13);have hb3:wb<=V3.heap.size:=(by have:=AqI G2.cell;omega);have ad:=Z1 G2 hb3 s (fi:Int) (-1) DY.1 DY.2 To (fun e he=>by have:=hrl e he;rw [List.length_take]at this;omega);have hb4:=(hx13.block _ (AqI MU)).trans MU;have x0:=Ab (o:=0) hb4 rfl;have x1:=Ab (o:=1) hb4 rfl;have x2:=Ab (o:=2) hb4 rfl;have x3:=Ab (o:=3) hb4 rfl;have zY:¬((fi:Int) = -1):=(by omega);have hf2:((fi:Int) == -1)=false:=beq_false_of_ne zY;have hf3:((fi:Int) != -1)=true:=(by rw [bne,hf2];rfl);unfold As S at ad;clear r1 r2 rt lk OI z0 z1 z2 z3;(go_wp2_with fail);(with_reducible refine ad.mono ?_);rintro e V4 ⟨rfl,Oe,hK4,E4,Hq⟩;rw [←YS.out,←YT.out]at Hq;have bV:=Qy hK (Qy (Xr (Ht.trans hx13)) hK4);have bJ:=hBl.trans ((Below.mono (Ht.trans hx13) (by have:=hBl.size;omega)).trans Oe);clear ad x0 x1 x2 x3 G2;go_wp2;go_roundw
            case rel=>exact⟨q+1,j+1,E4,by go_num,Jp,JE.out,Hq,bV,bJ⟩
            case measure=>simp [intOf];omega
           | some u=>
            rw [hlo]at lk;simp only [Option.getD_some,Option.isSome_some]at lk;obtain⟨hu0,hu1⟩:=jk u hlo;obtain⟨ui,rfl⟩:∃ui:Nat,u=(ui:Int):=⟨u.toNat,by omega⟩;have Kk:ui<k:=(by omega);have r1:=rt ui Kk;have ve:=rt fi Ox;have QG:=fun (V3:World) (h3:Aa w V3)=>IE s.a s.b hsz.a hsz.b (by omega) (by omega) V3 (hw.ext h3)
            go_upto_region 42 with fail
            have r2:=r1 V2 (Aa.refl _);(go_wp2_with fail);(with_reducible refine r2.mono ?_);rintro e V3 ⟨rfl,Ch⟩;have jO:=QP s L0 (W:=V3) ((Ch.block _ (AqI Ol)).trans Ol);rw [Dk]at jO;have w0:=Ch.cellS z0;have w1:=Ch.cellS z1;have w2:=Ch.cellS z2;have w3:=Ch.cellS z3;unfold As S at jO;clear r2 r1 lk OI z0 z1 z2 z3;have r3:=ve V3 Ch;(go_wp2_with fail);(with_reducible refine r3.mono ?_);rintro e V4 ⟨rfl,hx13⟩;have SC:=Ht.trans (Ch.trans hx13);have Agx:=BL.trans SC;have hb4:=((Ch.trans hx13).block _ (AqI MU)).trans MU;have x0:=Ab (o:=0) hb4 rfl;have x1:=Ab (o:=1) hb4 rfl;have x2:=Ab (o:=2) hb4 rfl;have x3:=Ab (o:=3) hb4 rfl;have hK4:=Qy hK (Xr SC);have Oe:=hBl.trans (Below.mono SC (by have:=hBl.size;omega));have Hq:=hN.ext SC;clear r3 ve rt jO w0 w1 w2 w3;by_cases ah:fi=ui
            ·subst ah;have Hu:IU L0 s=none:=(by unfold IU;rw [hlo,Dk];simp);have hjn:j=(Ef L0 (ws.take (q+1))).length:=(by rw [Mp.out,List.length_append,←HJ.out,Hu];rfl);have JE:=AqH hjn;clear Hu hjn hlo QG;go_wp2;go_roundw
             case rel=>exact⟨q+1,j,E,by go_num,Jp,JE.out,Hq,hK4,Oe⟩
             case measure=>simp [intOf];omega
            ·have ai:¬((fi:Int)=(ui:Int)):=(by omega);have hf2:((fi:Int) == (ui:Int))=false:=beq_false_of_ne ai;have hf3:((fi:Int) != (ui:Int))=true:=(by rw [bne,hf2];rfl);have zZ:(fi == ui)=false:=beq_false_of_ne ah;have p1:=QG V4 Agx;obtain⟨z,hz⟩:=AqG (Be s.a s.b);rw [←hz]at p1;unfold Ak S at p1;clear QG;(go_wp2_with fail);(with_reducible refine p1.mono ?_);rintro e V5 ⟨rfl,hx14⟩;have Apk:=SC.trans hx14;clear p1 x0 x1 x2 x3;by_cases Nv:z<0
             ·have Hu:IU L0 s=some (s,(fi:Int),(ui:Int)):=by unfold IU;rw [hlo,Dk];simp only;rw [if_pos ⟨ai,by rw [←hz];exact Nv⟩]
              have Oy:=JD.out _ Hu;rw [YC.out,List.getElem?_map]at Oy;obtain⟨e0,Jj,SX⟩:=Option.map_eq_some_iff.1 Oy;simp only [Prod.mk.injEq]at SX;obtain⟨Lb,Si,Sj⟩:=SX
              have AV:j<CE.length:=by
               rcases Nat.lt_or_ge j CE.length with h|h
               ·exact h
               ·rw [List.getElem?_eq_none h]at Jj;cases Jj
              have Lp:CE[j]=e0:=(by rw [AqP AV]at Jj;exact Option.some.inj Jj);have DY:=U8.out.keys AV;have To:=U8.out.ne _ (AqL AV);rw [Lp,Lb]at DY To
              have S9:AO Es (CE.take (j+1))=AO Es (CE.take j) ++ [(s,(fi:Int)),(AW s,(ui:Int))]:=by rw [AqN AV,XL,Lp,Lb,Si,Sj]
              have SA:C7 Es (CE.take (j+1))=CU (CU (C7 Es (CE.take j)) s.a s.b) s.b s.a:=by rw [AqN AV,XM,Lp,Lb]
              have hrl:=TS Es (CE.take j);have hjn:j+1=(Ef L0 (ws.take (q+1))).length:=(by rw [Mp.out,List.length_append,←HJ.out,Hu];rfl);have YS:=AqH S9;have YT:=AqH SA;have JE:=AqH hjn;clear hlo Hu Oy Jj Lp Lb Si Sj S9 SA hjn hz;have Om:=Hq.ext hx14;have hb5:wb<=V5.heap.size:=(by have:=AqI Om.cell;omega);have ad:=Z1 Om hb5 s (fi:Int) (ui:Int) DY.1 DY.2 To (fun e he=>by have:=hrl e he;rw [List.length_take]at this;omega);have DC:=(hx14.block _ (AqI hb4)).trans hb4;have x0:=Ab (o:=0) DC rfl;have x1:=Ab (o:=1) DC rfl;have x2:=Ab (o:=2) DC rfl;have x3:=Ab (o:=3) DC rfl;unfold As S at ad;(go_wp2_with fail);(with_reducible refine ad.mono ?_);rintro e V6 ⟨rfl,hBl6,hK6,E6,VL⟩;rw [←YS.out,←YT.out]at VL;have hK7:=Qy (Qy hK4 (Xr hx14)) hK6;have AfT:=(Oe.trans (Below.mono hx14 (by have:=Oe.size;omega))).trans hBl6;clear ad x0 x1 x2 x3 Om;go_wp2;go_roundw
              case rel=>exact⟨q+1,j+1,E6,by go_num,Jp,JE.out,VL,hK7,AfT⟩
              case measure=>simp [intOf];omega
             ·have Hu:IU L0 s=none:=by unfold IU;rw [hlo];simp only;rw [if_neg (fun h=>by rw [←hz]at h;exact Nv h.2)]
              have hjn:j=(Ef L0 (ws.take (q+1))).length:=(by rw [Mp.out,List.length_append,←HJ.out,Hu];rfl);have JE:=AqH hjn;have bV:=Qy hK4 (Xr hx14);have bJ:=Oe.trans (Below.mono hx14 (by have:=Oe.size;omega));have Om:=Hq.ext hx14;clear Hu hjn hlo hz;go_wp2;go_roundw
              case rel=>exact⟨q+1,j,E,by go_num,Jp,JE.out,Om,bV,bJ⟩
              case measure=>simp [intOf];omega
          ·have hqe:q=ws.length:=(by omega);subst hqe;rw [List.take_length,YC.out,List.length_map]at hj;subst hj;rw [List.take_length]at hN;obtain⟨SE,Mk,QB,MM⟩:=HQ.out;have G3:=HNI.out;have xZ:=Mk.trans_below hBl (by rw [Ze.out];exact AqK _);have xB:=hN.base Ze.out;have ag:=qL (hw.ext SE) xZ xB rfl (ou Es CE) G3.wo G3.gr (by rw [kC];omega) (fun e he=>by have:=TS Es CE e he;omega) k (by omega) G3.lf G3.r1 rfl rfl;rw [G3.op]at ag;have hd:decide (ws.length<ws.length)=false:=(by simp);have BP:decide ((ws.length:Int)<(ws.length:Int))=false:=(by simp);clear MN qj osr EE PQ hN hK hBl hS12 qh rb wX xH cH HQ
           go_upto_region 47 with fail
           (go_wp2_with fail);(with_reducible refine ag.mono ?_);rintro e w14 ⟨rfl,hx14,hN14⟩;have xX:=SE.trans hx14;have rf:=AC QB hx14;have xI:=(hx14.block _ (AqI MM)).trans MM
           have Aie:ul=P.map (·.2):=by
            have hG:=HG.out;apply List.ext_getElem?;intro j
            rcases Nat.lt_or_ge j k with h|h
            ·rw [hG.u j h];have I4:j<P.length:=(by rw [←HN.out];exact h);simp [List.getD_eq_getElem?_getD,AqP I4]
            ·rw [List.getElem?_eq_none (by rw [hG.lu];exact h),List.getElem?_eq_none (by rw [List.length_map,←HN.out];exact h)]
           have iH:=HG.out.lu;have can:=Adg (st:=st) (pts:=pts) hw xX hN14 G3.hz (by have:=G3.ln;omega) G3.rl G3.nd G3.no G3.sz (by rw [kC];omega) G3.bk (some ⟨bg+1,0,none⟩) k ul (N6 (by omega) rf) (fun x hx=>by cases hx;have:=hx14.size;have:=Ze.out;show bg+1<_;omega) (by omega) (fun x hx=>by rw [iH];exact G3.lf x hx) UC.out rfl (by rw [Aie];exact HST.out);rw [iH]at can;have hpl:pts.length<=400:=(by rw [UC.out,(Ky _).length_eq,List.length_map];exact G3.ln);clear ag rf hN14 xB xZ hx14 iH;(go_wp2_with fail);(with_reducible refine can.mono ?_);rintro e w15 ⟨pA,pB,pF,pc,pd,pg,rfl,hcaps,hA15,hB15,hF15,-,hx15⟩;unfold DK;have cO:=(hx15.block _ (AqI xI)).trans xI;have Agv:=xX.trans hx15;have Ri:=(Aa.refl w15).alloc (.cells #[.slice pA pts.length pc,.slice pB st.ed.length pd,.slice pF st.fa.length pg] 36);have SI:=AqJ w15 (.cells #[.slice pA pts.length pc,.slice pB st.ed.length pd,.slice pF st.fa.length pg] 36);have Jb:=(Ri.block _ (AqI cO)).trans cO;have Agw:=Agv.trans Ri;have gA:=hA15.ext Ri;have gB:=hB15.ext Ri;have gF:=hF15.ext Ri;have ApZ:¬(400<(pts.length:Int)):=(by omega);have Aik:=AqI cO
           go_upto_region 51 with fail
           generalize w15.alloc (.cells #[.slice pA pts.length pc,.slice pB st.ed.length pd,.slice pF st.fa.length pg] 36)=W16 at *;obtain⟨b32,yK⟩:=AqG w15.heap.size;rw [←yK]at SI Aik ⊢;clear yK can;have m0:=Ab (o:=0) SI rfl;have m1:=Ab (o:=1) SI rfl;have m2:=Ab (o:=2) SI rfl;have r0:=Ab (o:=0) Jb rfl;have r1:=Ab (o:=1) Jb rfl;have r2:=Ab (o:=2) Jb rfl;have r3:=AK (o:=0) Jb;have r4:=AK (o:=1) Jb;have r5:=AK (o:=2) Jb;have Gn:=Ve (.slice pA pts.length pc) (.slice pB st.ed.length pd) (.slice pF st.fa.length pg) Jb;have bb:=(((Au.refl (fun q=>q=w.heap.size) W16).setCell (p:=⟨w.heap.size,0,none⟩) (.inl rfl) (.slice pA pts.length pc)).setCell (p:=⟨w.heap.size,1,none⟩) (.inl rfl) (.slice pB st.ed.length pd)).setCell (p:=⟨w.heap.size,2,none⟩) (.inl rfl) (.slice pF st.fa.length pg);have t1:=Ab (o:=0) Gn rfl;have t2:=Ab (o:=1) Gn rfl;have t3:=Ab (o:=2) Gn rfl;have SD:=bb.toExt Agw (fun q e=>by subst e;exact AqK _);have fA:=lN gA bb Jb (fun j hj=>by obtain⟨s,h⟩:=vU hj;rw [h];simp);have fB:=lN gB bb Jb (fun j hj=>by obtain⟨s,h⟩:=uF hj;rw [h];simp);have fF:=lN gF bb Jb (fun j hj=>by rw [List.getElem_map];simp);have BN:=AqH (And.intro fA (And.intro fB (And.intro fF SD)));clear gA gB gF fA fB fF bb Gn Jb SD SI;go_wp2;refine bodyPost_ret (v:=.tuple #[.agg #[.slice pA pts.length pc,.slice pB st.ed.length pd,.slice pF st.fa.length pg],.int .i64 0]) (by simp [results,Tryz.results44,go_sem,t1,t2,t3]) rfl ?_;exact⟨pA,pB,pF,pc,pd,pg,rfl,hcaps,BN.out.1,BN.out.2.1,BN.out.2.2.1,rfl,BN.out.2.2.2⟩
        ·have br:j<L0.length:=(by rw [D4]at hj;exact hj);rw [Yu,mU]at hrun hen
         have hlen':seen.length<L0.length:=by
          have h2:(j::seen) ⊆ List.range L0.length:=by
           intro q hq
           rcases List.mem_cons.1 hq with rfl|hq
           ·simpa using br
           ·have:=hI.lt q hq;rw [D4]at this;simpa using this
          have:=(List.nodup_cons.2 ⟨GA,hI.nd⟩).length_le_of_subset h2;simp at this;omega
         have ME:=hB.grown hG9 (fun q e=>by cases e;exact .inl rfl);have O3:=AqL br;obtain⟨s,hs⟩:=AqG (L0[j].1);obtain⟨z,hz⟩:=AqG (L0[j].2);have hin:=Zc.out L0[j] (by rw [←Hb.out];exact O3);rw [←hs,←hz]at hin;rw [←hs,←hz]at hrun hen;obtain⟨hz0,hz1,Gg⟩:=hin;obtain⟨zi,rfl⟩:∃zi:Nat,z=(zi:Int):=⟨z.toNat,by omega⟩;have hsz:Ex 200 s:=(by rw [hs];exact JF.out _ (by rw [←Hb.out];exact O3));have EA:=(Aa.refl W9).alloc (.cells #[S (R s.a.x),S (R s.a.y),S (R s.b.x),S (R s.b.y)] 155);have Aq:=AqJ W9 (.cells #[S (R s.a.x),S (R s.a.y),S (R s.b.x),S (R s.b.y)] 155);have e9:=hen W9 rfl rfl;unfold As at hrun e9;have bk:=fun (V:World)=>UY s V;have dR:=(EA.block _ (AqI ((hG9.block bl (AqI Je) (fun e=>by cases e;omega)).trans Je))).trans ((hG9.block bl (AqI Je) (fun e=>by cases e;omega)).trans Je);have wF:=ME.ext EA;have bS:CC (W9.alloc (.cells #[S (R s.a.x),S (R s.a.y),S (R s.b.x),S (R s.b.y)] 155)) bt bl (stamp L0) (seen ++ [j]):=PI.keep (EA.block _ (AqI PI.it));have YO:=AqH (EO hI);clear hs hz O3 hen hs9
         go_upto_region 32 with fail
         unfold S at Aq EA dR wF bS;generalize W9.alloc (.cells #[.string ⟨(R s.a.x).toArray⟩,.string ⟨(R s.a.y).toArray⟩,.string ⟨(R s.b.x).toArray⟩,.string ⟨(R s.b.y).toArray⟩] 155)=V at *;obtain⟨bx,AA⟩:=AqG W9.heap.size;rw [←AA]at Aq ⊢;clear AA hrun e9 ME hG9 PI EA;have y0:=Ab (o:=0) Aq rfl;have y1:=Ab (o:=1) Aq rfl;have y2:=Ab (o:=2) Aq rfl;have y3:=Ab (o:=3) Aq rfl;have bk1:=bk V;unfold As S at bk1;(go_wp2_with fail);(with_reducible refine bk1.mono ?_);rintro e V2 ⟨rfl,hx11⟩;have Od:=wF.ext hx11;have Lf:=bS.keep (hx11.block _ (AqI bS.it));have lk:=wu (AW s) L0 (W:=V2) ((hx11.block _ (AqI dR)).trans dR);unfold As S at lk;clear bk1 bk y0 y1 y2 y3;have On:Aa w V2:=Od.toExt dI (fun q e=>by subst e;omega)
         obtain⟨Aq5,ra⟩:V2.ownsRow 0 3 1 (.slice (some ⟨bg,0,none⟩) k k) k (zs gl)/\V2.ownsRow 0 9 1 (.slice (some ⟨bg+1,0,none⟩) k k) k (ul.map S):=
          ⟨CB MG.og Od (fun q hq e=>by simp only [Value.ownBlock,AqO]at hq;omega),CB MG.os Od (fun q hq e=>by simp only [Value.ownBlock,AqO]at hq;omega)⟩
         cases hlo:lookO (AW s) L0 with
         | none=>
          rw [hlo]at lk;simp only [Option.getD_none,Option.isSome_none]at lk;have HLO:=AqH hlo;clear hlo
          go_upto_region 33 with fail
          refine F5 (by kernel_rfl) (by kernel_rfl) ?_
          repeat (go_big_quiet_step (fail))
          refine wpQuiet_nil ?_;rintro Zu ⟨q,hq⟩;have Ch:Aa V2 Zu:=hq▸q.h;have S1:=Lf.keep (Ch.block _ (AqI Lf.it));have VC:=Od.ext Ch;have YP:=AqH (EO S1);clear hq q lk Lf Od;go_wp2;go_roundw
          case rel=>exact⟨trivial,seen ++ [j],S1,VC⟩
          case measure=>rw [YO.out,YP.out,List.length_append,List.length_singleton];omega
         | some u=>
          rw [hlo]at lk;simp only [Option.getD_some,Option.isSome_some]at lk;obtain⟨hu0,hu1,hne⟩:=Gg u (by rw [←Hb.out];exact hlo);obtain⟨ui,rfl⟩:∃ui:Nat,u=(ui:Int):=⟨u.toNat,by omega⟩;simp only [Int.toNat_natCast]at hne;have g1:=MG.u zi (by omega);have g2:=MG.u ui (by omega);obtain⟨s1,hs1⟩:=AqG ((P.getD zi ([],[])).2);obtain⟨s2,hs2⟩:=AqG ((P.getD ui ([],[])).2);rw [←hs1]at g1 hne;rw [←hs2]at g2 hne;have c1:=ra.cellAt zi (by omega);have c2:=ra.cellAt ui (by omega);rw [List.getElem?_map,g1]at c1;rw [List.getElem?_map,g2]at c2;simp only [Option.map_some]at c1 c2;have q1:∀q:Af V2,q.w.cell? ⟨bg+1,zi,none⟩=some (S s1):=Af.cell c1;have q2:∀q:Af V2,q.w.cell? ⟨bg+1,ui,none⟩=some (S s2):=Af.cell c2;have hb1:(s1 == s2)=false:=beq_false_of_ne hne;have HLO:=AqH hlo;clear hlo hs1 hs2 g1 g2 c1 c2 hne Gg
          go_upto_region 33 with fail
          unfold S at q1 q2;refine F5 (by kernel_rfl) (by kernel_rfl) ?_
          repeat (go_big_quiet_step (fail))
          refine wpQuiet_nil ?_;rintro Zu ⟨q,hq⟩;have Ch:Aa V2 Zu:=hq▸q.h;clear q1 q2;have S1:=Lf.keep (Ch.block _ (AqI Lf.it));have VC:=Od.ext Ch;have YP:=AqH (EO S1);clear hq q lk Lf Od;go_wp2;go_roundw
          case rel=>exact⟨trivial,seen ++ [j],S1,VC⟩
          case measure=>rw [YO.out,YP.out,List.length_append,List.length_singleton];omega
end Go.Proofs.YtjalkoacphhgdaaGreatDoor
