/- I39: ShBV ShBX ShBY ShKA3. -/
import Derived.Test.YtnddllipjippnaaGreatDoorI38
import Derived.Test.YtnddllipjippnaaGreatDoorI35
set_option maxRecDepth 100000
set_option maxHeartbeats 16000000
namespace Go.Proofs.YtnddllipjippnaaGreatDoor
open Go.RowKit Kl Go.Shelf
def lookO(s:Sg)(L:List (Sg×Int)):Option Int:=(L.find? (fun e=>AU s e.1)).map (·.2)
theorem Aoe{α:Type}{enc:α→Value}{same:α→α→Bool}{mt kt et:TypeId}{z:Value}(K:K7 mt kt et z enc same)(k:α)(l:List (α×Value×Nat)){b clock:Nat}{W:World}(hb:W.heap[b]?=some (.map (AK enc l).toArray clock)) :
  (Instr.lookup mt (.map (some b)) (enc k) true).run Tryz.prog W=.ok (.tuple #[FW same z k l,.bool (l.find? (fun e=>same k e.1)).isSome]) W:=by
 have hf:=TP K k l W;rw [xi]at hf;unfold FW
 cases h:l.find? (fun e=>same k e.1)with
 | none=>
  rw [h]at hf
  have hf':(Instr.findKey kt (enc k) (AK enc l)).run Tryz.prog W=.ok none W:=by rw [hf];cases FV same k l<;>rfl
  simp [Instr.lookup,run_underlying K.map,MapKept.run_getObj_map hb,K.chk,hf',K.zero,Result.andThen]
 | some e=>
  have hi:(FV same k l).isSome:=by unfold FV;rw [List.findIdx?_isSome,List.any_eq_true];exact⟨e,List.mem_of_find?_eq_some h,(by have:=List.find?_some h;exact this)⟩
  obtain⟨j,hj⟩:=Option.isSome_iff_exists.1 hi;rw [h,hj]at hf;simp only [Option.bind_some,Option.map_some]at hf;simp [Instr.lookup,run_underlying K.map,MapKept.run_getObj_map hb,K.chk,hf,Result.andThen]
theorem Apb(s:Sg)(L:List (Sg×Int)):((stamp L).find? (fun e=>AU s e.1)).isSome=(lookO s L).isSome:=by
 unfold lookO;rw [Option.isSome_map,Bool.eq_iff_iff,List.find?_isSome,List.find?_isSome];constructor
 ·rintro⟨x,hx,h⟩;obtain⟨e,he,h1⟩:=qK hx;exact⟨e,he,by rw [←h1];exact h⟩
 ·rintro⟨e,he,h⟩;obtain⟨i,hi,rfl⟩:=List.getElem_of_mem he;have hi':i<(stamp L).length:=(by rw [Eg];exact hi);exact⟨(stamp L)[i],As1 hi',by rw [ZR];exact h⟩
theorem AbC(s:Sg)(L:List (Sg×Int)){b:Nat}{W:World}(hb:W.heap[b]?=some (.map (AK A8 (stamp L)).toArray L.length)) :
  (Instr.lookup 95 (.map (some b)) (A8 s) true).run Tryz.prog W=.ok (.tuple #[.int .i64 ((lookO s L).getD 0),.bool (lookO s L).isSome]) W:=by
 rw [Aoe Za s (stamp L) hb,zv,Apb]
 have:AM s L=(lookO s L).getD 0:=by
  unfold AM lookO
  cases L.find? (fun e=>AU s e.1)<;>rfl
 rw [this]
structure rG(P:List (List Pt×Bs)):Prop where
 so:tZ P
 poly:∀e∈P,OK e.1
 apart:∀(i k:Nat) (hi:i<P.length) (hk:k<i),(∀j,j<(P[k]'(by omega)).1.length→MJ P[i].1 (BE (P[k]'(by omega)).1 j)∨Lu P[i].1 (BE (P[k]'(by omega)).1 j))/\∃j,j<(P[k]'(by omega)).1.length/\Lu P[i].1 (BE (P[k]'(by omega)).1 j)
def J7(L0:List (Sg×Int))(s:Sg):Option (Sg×Int×Int):=match lookO (Bg s) L0 with
 | none=>some (s,AM s L0,-1)
 | some u=>if AM s L0≠u/\AY s.a s.b < 0 then some (s,AM s L0,u)else none
def EL(L0:List (Sg×Int))(ws:List Sg):List (Sg×Int×Int):=ws.filterMap (J7 L0)
theorem uI{L0:List (Sg×Int)}{ws:List Sg}{k:Nat}(hk:k<ws.length):EL L0 (ws.take (k+1))=EL L0 (ws.take k)++(J7 L0 ws[k]).toList:=by
 unfold EL;rw [As3 hk,List.filterMap_append]
 congr 1
theorem AeS{L0:List (Sg×Int)}{ws:List Sg}{k:Nat}(hk:k<ws.length){x:Sg×Int×Int}(hx:J7 L0 ws[k]=some x):(EL L0 ws)[(EL L0 (ws.take k)).length]?=some x:=by
 have h1:EL L0 ws=EL L0 (ws.take (k+1))++EL L0 (ws.drop (k+1)):=by unfold EL;rw [←List.filterMap_append,List.take_append_drop]
 rw [h1,uI hk,hx,List.append_assoc,List.getElem?_append_right (As0 _),Nat.sub_self]
 rfl
theorem oZ{B:Nat}{w w':World}{e:TypeId}{s n:Nat}{v:Value}{xs:List Value}{b1 b2:Nat}(h:w.ownsRow B e s v n xs)(hk:∀(k:Nat) (o:Obj),w.heap[k]?=some o→k≠b1→k≠b2→(∀cs,o≠.cells cs 24 (0,0))→w'.heap[k]?=some o)(hne:∀k,v.ownBlock=some k→k≠b1/\k≠b2)(he:e≠24):w'.ownsRow B e s v n xs:=by
 refine⟨h.1,?_⟩
 rcases h.2 with h'|⟨g,cap,cur,e1,e2,hgb,e4⟩
 ·exact .inl h'
 ·refine .inr ⟨g,cap,cur,e1,e2,hk g _ hgb ?_ ?_ (fun cs e=>he (Obj.cells.inj e).2.1),e4⟩
  ·exact(hne g (by rw [e1];rfl)).1
  ·exact(hne g (by rw [e1];rfl)).2
def Ti(w w':World)(b1 b2:Nat):Prop:=∀(k:Nat) (o:Obj),w.heap[k]?=some o→k≠b1→k≠b2→(∀cs,o≠.cells cs 24 (0,0))→w'.heap[k]?=some o
theorem RL{a b d:World}{b1 b2:Nat}(h:Ti a b b1 b2)(k:Ti b d b1 b2):Ti a d b1 b2:=fun i o h1 h2 h3 h4=>k i o (h i o h1 h2 h3 h4) h2 h3 h4
theorem YZ{a b:World}{b1 b2:Nat}(hx:Ab a b):Ti a b b1 b2:=fun _ _ h _ _ _=>(hx.block _ (Asy h)).trans h
structure OB(P:List (List Pt×Bs))(n k bg bs:Nat)(gl:List Int)(ul:List Bs)(W:World):Prop where
 lg:gl.length=n
 lu:ul.length=n
 g:∀j,j<k→gl[j]?=some (j:Int)
 u:∀j,j<k→ul[j]?=some (P.getD j ([],[])).2
 og:W.ownsRow 0 3 1 (.slice (some ⟨bg,0,none⟩) n n) n (zs gl)
 os:W.ownsRow 0 9 1 (.slice (some ⟨bs,0,none⟩) n n) n (ul.map S)
theorem OB.step{P:List (List Pt×Bs)}{n k bg bs:Nat}{gl:List Int}{ul:List Bs}{W:World}(h:OB P n k bg bs gl ul W)(hk:k<n)(hne:bg≠bs) :
  OB P n (k+1) bg bs (gl.set k (k:Int)) (ul.set k (P.getD k ([],[])).2) ((W.setCell ⟨bg,k,none⟩ (.int .i64 (k:Nat))).setCell ⟨bs,k,none⟩ (S (P.getD k ([],[])).2)):=by
 have g1:=(h.og.stored k (.int .i64 (k:Nat))).1;have g2:=ownsRow_setCell_other (a:=⟨bs,k,none⟩) g1 (by simp only [Value.ownBlock,ne_eq,As4];exact hne) (S (P.getD k ([],[])).2);have u1:=ownsRow_setCell_other (a:=⟨bg,k,none⟩) h.os (by simp only [Value.ownBlock,ne_eq,As4];exact fun e=>hne e.symm) (.int .i64 (k:Nat));have u2:=(u1.stored k (S (P.getD k ([],[])).2)).1;refine⟨by rw [List.length_set];exact h.lg,by rw [List.length_set];exact h.lu,fun j hj=>?_,fun j hj=>?_,by rw [←ZW];exact g2,by rw [List.map_set];exact u2⟩
 ·by_cases e:j=k
  ·subst e;rw [List.getElem?_set_self (by rw [h.lg];exact hk)]
  ·rw [List.getElem?_set_ne (fun e'=>e e'.symm)];exact h.g j (by omega)
 ·by_cases e:j=k
  ·subst e;rw [List.getElem?_set_self (by rw [h.lu];exact hk)]
  ·rw [List.getElem?_set_ne (fun e'=>e e'.symm)];exact h.u j (by omega)
theorem B7.base{B B':Nat}{W:World}{r b1 b2:Nat}{L:List (Sg×Int)}{E:List (Pt×Value×Nat)}{R:List (Pt×List Pt)}(h:B7 B W r b1 b2 L E R)(e:B=B'):B7 B' W r b1 b2 L E R:=e▸h
structure tR(pts:List Pt)(eds:List EdZ)(n:Nat)(R1:List (Pt×List Pt)):Prop where
 eo:O9 pts eds
 le:eds.length<=1000
 wo:Qw ((AD pts eds).map (·.1))
 gr:∀s∈(AD pts eds).map (·.1),G5 s
 lf:∀x∈AD pts eds,-1<=x.2/\x.2<(n:Int)
 r1:R1=(BM pts eds).map (fun e=>(e.1,Dt e.1 e.2))
 op:(LG (AD pts eds) n (Ix ((AD pts eds).map (·.1)) R1) (Lr ((AD pts eds).map (·.1)) (Ix ((AD pts eds).map (·.1)) R1))).op=false
 hz:∀e∈R1,Aw 1 e.1/\∀p∈e.2,Aw 1 p
 ln:R1.length<=400
 rl:∀e∈R1,e.2.length<100000
 nd:(R1.map (·.1)).Nodup
 no:∀e∈R1,∀p q,e.2 = [p,q]→AN (Am p e.1 q)≠0
 sz:∀e∈AD pts eds,G7 1 e.1
 bk:∀e∈AD pts eds,∃e'∈AD pts eds,e'.1=Bg e.1
theorem Nx{l:List EdZ}{j:Nat}(hj:j<(Ar l).length):∃z,(Ar l)[j]=.int .i64 z:=by
 have:=As1 hj;unfold Ar at this;rw [List.mem_flatMap]at this;obtain⟨p,_,h⟩:=this;simp only [List.mem_cons,AsB,or_false]at h
 rcases h with h|h|h|h<;>exact⟨_,h⟩
theorem FI{w w':World}{A:Option Addr}{l:List Value}{b:Nat}{a0 a1 a2:Value}{t:TypeId}(h:Ad w A l)(hb:Ak (fun q=>q=b) w w')(hm:w.heap[b]?=some (.cells #[a0,a1,a2] t))(hne:∀(j:Nat) (hj:j<l.length),l[j]≠a0/\l[j]≠a1/\l[j]≠a2):Ad w' A l:=by
 refine⟨fun h0=>?_⟩;obtain⟨g,o,e,hc⟩:=h.ad h0;refine⟨g,o,e,fun j hj=>?_⟩;have h1:=hc j hj;refine(World.cell?_of_block (a:=⟨g,o+j,none⟩) (hb.block g (World.block_lt_of_cell? w _ h1) (fun e'=>?_))).trans h1;subst e';have h2:=AfP hm h1;obtain⟨n1,n2,n3⟩:=hne j hj
 match hn:o+j with
 | 0=>rw [hn]at h2;exact n1 (by simpa using h2.symm)
 | 1=>rw [hn]at h2;exact n2 (by simpa using h2.symm)
 | 2=>rw [hn]at h2;exact n3 (by simpa using h2.symm)
 | n+3=>rw [hn]at h2;simp at h2
def MS(w:World)(m:MapZ)(faces:List Bs)(e:Ending)(w':World):Prop:=
 ∃A Bk F c d g,e=.returned (.tuple #[AH A Bk F m c d g,.int .i64 0])/\Db m c d g/\Ad w' A (flat (Ag m.pts))/\Ad w' Bk (Ar m.eds)/\Ad w' F (faces.map S)/\m.nf=faces.length/\Ab w w'
theorem AfT(P:List (List Pt×Bs))(hP:rG P)(DL:0<P.length)(mI:∀e∈BU P P.length,0<=e.2/\e.2<(P.length:Int)/\∀z,lookO (Bg e.1) (BU P P.length)=some z→0<=z/\z<(P.length:Int)/\(P.getD e.2.toNat ([],[])).2≠(P.getD z.toNat ([],[])).2)(IC:∀e∈BU P P.length,G7 1 e.1)(DK:(BU P P.length).length<=10000){Fc:List Pt}{Dl:List EdZ}(hadd:EL (BU P P.length) (BO ((BU P P.length).map (·.1)))=Dl.map (fun e=>(Br Fc e,e.l,e.r))){R1:List (Pt×List Pt)}(H6:tR Fc Dl P.length R1){pts:List Pt}(P8:pts=FK (R1.map (·.1))){st:GX}(hst:st=IW (P.map (·.2)) (Cq pts) (AD Fc Dl) (BO ((AD Fc Dl).map (·.1))))(A:Option Addr)(c:Nat)(w:World)(hw:Aj w)(h:IS w A c P) :
  Calls Tryz.prog 44 #[.slice A P.length c] w (MS w ⟨pts,st.ed,st.fa.length⟩ st.fa):=by
 have hmm:=@run_makeMap Tryz.prog;have hlen:P.length<=1000:=hP.so.len;have hc1:=h.c1;have hc2:=h.c2;have HP:=Asx hP;have HA:=Asx h;obtain⟨n,hn⟩:=Asw P.length;rw [←hn]at hlen hc1 DL mI IC DK hadd H6 ⊢;have AcW:=Asx hadd;have HNI:=Asx H6;have Wt:=Asx H6.eo;have Wy:=Asx P8;have HST:=Asx hst;have hel:=H6.le;have Ik:=Asx DK;have bO:=Asx mI;have J4:=Asx IC;have HN:=Asx hn;have E1:=(Ab.refl w).alloc (.cells #[.slice none 0 0,.slice none 0 0,.slice none 0 0] 35);have hbr:=Asz w (.cells #[.slice none 0 0,.slice none 0 0,.slice none 0 0] 35);clear hP h hn mI IC DK hadd H6 P8 hst;go_enter Tryz.func44,Tryz.ntmps44
 go_upto_region 4 with fail
 generalize w.alloc (.cells #[.slice none 0 0,.slice none 0 0,.slice none 0 0] 35)=W1 at *;have hl0:(0:Int)<=(n:Int):=by omega
 go_loopw [39] (fun iv wr=>∃k:Nat,iv=.int .i64 (k:Nat)/\k<=n/\Ab W1 wr) (fun iv _=>n-(intOf iv).toNat)
 case atStart=>exact⟨0,rfl,by omega,Ab.refl _⟩
 case round=>
  obtain⟨k,rfl,hk,hX⟩:=hrel;by_cases hkn:k<n
  ·have Rp:k<P.length:=(by rw [←HN.out];exact hkn);obtain⟨bA,oA,A',c',rfl,Bd,Bl,Bp,Bi,hr1,hr2⟩:=HA.out.row k Rp;have B8:=E1.trans hX;replace Bd:=B8.cellS Bd;replace Bl:=B8.cellS Bl;replace Bp:=B8.cellS Bp;have hk0:(0:Int)<=(k:Int):=(by omega);have D3:(k:Int)<(n:Int):=(by omega);have GP:=HP.out.poly _ (As1 Rp);have hsz:=HP.out.so.sz _ (As1 Rp);obtain⟨pg,Ec⟩:=Asw (P[k].1);obtain⟨un,AG⟩:=Asw (P[k].2);rw [←Ec]at Bd Bi hr1 GP hsz;rw [←AG]at Bl;have EA:=(Ab.refl wr).alloc (.cells #[.slice A' pg.length c',S un,.slice none 0 0] 84);have Au:=Asz wr (.cells #[.slice A' pg.length c',S un,.slice none 0 0] 84);have ck:=pH pg GP hsz (by omega) (by omega) A' c' _ (hw.ext (B8.trans EA)) (Bi.ext (B8.trans EA)) hr1 hr2;have y0:=Aa (o:=0) Au rfl;clear Ec AG GP hsz;(go_wp2_with fail);(with_reducible refine ck.mono ?_);rintro e w2 ⟨rfl,hx2⟩;go_wp2;go_roundw
   case rel=>exact⟨k+1,by go_num,hkn,(hX.trans EA).trans hx2⟩
   case measure=>simp [intOf];omega
  ·have Ch:k=n:=(by omega);subst Ch;have hd:decide (k<k)=false:=(by simp);have De:decide ((k:Int)<(k:Int))=false:=by simp
   go_upto_region 11 with fail
   obtain⟨W2,rfl⟩:=nW hX;have BR:=E1.trans hX;have hR2:=(hX.block _ (Asy hbr)).trans hbr;clear hX hd De E1 hbr
   go_loopw [53] (fun iv wr=>∃i:Nat,iv=.int .i64 (i:Nat)/\i<=k/\Ab W2 wr) (fun iv _=>k-(intOf iv).toNat)
   case atStart=>exact⟨0,rfl,by omega,Ab.refl _⟩
   case round=>
    obtain⟨i,rfl,hi,hX⟩:=hrel;have B8:=BR.trans hX;by_cases hin:i<k
    ·have Jj:i<P.length:=(by rw [←HN.out];exact hin);obtain⟨bA,oA,A',c',rfl,Bd,Bl,Bp,Bi,hr1,hr2⟩:=HA.out.row i Jj;replace Bd:=B8.cellS Bd;replace Bl:=B8.cellS Bl;replace Bp:=B8.cellS Bp;have EW:(0:Int)<=(i:Int):=(by omega);have Ji:(i:Int)<(k:Int):=(by omega);have GP:=HP.out.poly _ (As1 Jj);have hsz:=HP.out.so.sz _ (As1 Jj);have hap:=fun q (hq:q<i)=>HP.out.apart i q Jj hq;obtain⟨pg,Ec⟩:=Asw (P[i].1);obtain⟨un,AG⟩:=Asw (P[i].2);rw [←Ec]at Bd Bi hr1 GP hsz hap;rw [←AG]at Bl;have EA:=(Ab.refl wr).alloc (.cells #[.slice A' pg.length c',S un,.slice none 0 0] 84);have Au:=Asz wr (.cells #[.slice A' pg.length c',S un,.slice none 0 0] 84);have HAP:=Asx hap;clear Ec AG hap
     go_upto_region 14 with fail
     unfold S at Au EA;generalize wr.alloc (.cells #[.slice A' pg.length c',.string ⟨un.toArray⟩,.slice none 0 0] 84)=W3 at *;obtain⟨b8,Cz⟩:=Asw wr.heap.size;rw [←Cz]at Au ⊢;clear Cz Bd Bl Bp;have CL:=hX.trans EA;have BL:=BR.trans CL;have y0:=Aa (o:=0) Au rfl;clear EA hX Au
     go_loopw [62] (fun jv wj=>∃j:Nat,jv=.int .i64 (j:Nat)/\j<=i/\Ab W3 wj) (fun jv _=>i-(intOf jv).toNat)
     case atStart=>exact⟨0,rfl,by omega,Ab.refl _⟩
     case round=>
      obtain⟨j,rfl,hj,QS⟩:=hrel;have QT:=BL.trans QS;by_cases Hz:j<i
      ·have Jk:j<P.length:=(by omega);obtain⟨bB,oB,B',d',he,Bd,Bl,Bp,su,hs1,hs2⟩:=HA.out.row j Jk;simp only [As4,Addr.mk.injEq,and_true]at he;obtain⟨rfl,rfl⟩:=he;replace Bd:=QT.cellS Bd;replace Bl:=QT.cellS Bl;replace Bp:=QT.cellS Bp;have hj0:(0:Int)<=(j:Int):=(by omega);have FS:(j:Int)<(i:Int):=(by omega);obtain⟨cT,cY⟩:=HAP.out j Hz;have P7:=HP.out.poly _ (As1 Jk);have Vf:=HP.out.so.sz _ (As1 Jk);obtain⟨qg,rx⟩:=Asw (P[j].1);obtain⟨un,AG⟩:=Asw (P[j].2);rw [←rx]at Bd su hs1 P7 Vf cT cY;rw [←AG]at Bl;have EA:=(Ab.refl wr).alloc (.cells #[.slice B' qg.length d',S un,.slice none 0 0] 84);have Au:=Asz wr (.cells #[.slice B' qg.length d',S un,.slice none 0 0] 84);have it:=AkJ pg qg GP P7 hsz Vf cT cY A' B' c' d' _ (hw.ext (QT.trans EA)) (Bi.ext (QT.trans EA)) (su.ext (QT.trans EA)) hr1 hr2 hs1 hs2;have z0:=Aa (o:=0) Au rfl;have z1:=EA.cellS (QS.cellS y0);clear rx AG cT cY P7 Vf;(go_wp2_with fail);(with_reducible refine it.mono ?_);rintro e w2 ⟨rfl,hx2⟩;go_wp2;go_roundw
       case rel=>exact⟨j+1,by go_num,Hz,(QS.trans EA).trans hx2⟩
       case measure=>simp [intOf];omega
      ·have D2:j=i:=(by omega);subst D2;go_wp2;go_roundw
       case rel=>exact⟨j+1,by go_num,hin,CL.trans QS⟩
       case measure=>simp [intOf];omega
    ·have Mp:i=k:=(by omega);subst Mp;have hd:decide (i<i)=false:=(by simp);have De:decide ((i:Int)<(i:Int))=false:=(by simp);have ps:=fun (V:World) (hV:Ab w V)=>Anm P HP.out.so A c V (hw.ext hV) (HA.out.ext hV);rw [←HN.out]at ps;have p1:=ps wr B8;(go_wp2_with fail);(with_reducible refine p1.mono ?_);rintro e w4 ⟨bl,rfl,hML,hbl,Ao⟩;have CJ:=B8.trans Ao;have AqD:w.heap.size<=bl:=(by have:=B8.size;omega);have XP:=((hX.trans Ao).block _ (Asy hR2)).trans hR2;clear ps p1 hR2 BR hX Ao B8 hd De;have mki:=Aal i (by omega) (i:Int) rfl w4;have E5:=(Ab.refl w4).alloc (.cells (madeCells #[.int .i64 0] i) 3);have mks:=Aam i (by omega) (i:Int) rfl (w4.alloc (.cells (madeCells #[.int .i64 0] i) 3))
     go_upto_region 25 with fail
     have og:=Z4 w4 0 i (Nat.zero_le _) (by omega);have os:=AaK (w4.alloc (.cells (madeCells #[.int .i64 0] i) 3)) 0 i (Nat.zero_le _) (by omega);rw [As7]at os;have E6:=E5.alloc (.cells (madeCells #[S []] i) 9);have oJ:=An og ((Ab.refl (w4.alloc (.cells (madeCells #[.int .i64 0] i) 3))).alloc (.cells (madeCells #[S []] i) 9));have Gs:=hML.ext E6;have NB:=(E6.block _ (Asy XP)).trans XP;have BY:=CJ.trans E6;have YR:((w4.alloc (.cells (madeCells #[.int .i64 0] i) 3)).alloc (.cells (madeCells #[S []] i) 9)).heap.size=w4.heap.size+2:=(by simp only [As7]);obtain⟨bg,hbg⟩:=Asw w4.heap.size;rw [←hbg]at oJ os YR ⊢;have QX:=Asy hML;have hRl:=Asy XP;generalize (w4.alloc (.cells (madeCells #[.int .i64 0] i) 3)).alloc (.cells (madeCells #[S []] i) 9)=W6 at *;have ak:OB P i 0 bg (bg+1) (zn (List.replicate i 0)) (List.replicate i []) W6:=⟨by simp [zn],by simp,fun j hj=>by omega,fun j hj=>by omega,oJ,os⟩;have Aq9:w.heap.size<bg:=(by omega);have AqB:bl<bg:=(by omega);clear mki mks og os oJ E5 E6 hML XP CJ hbg YR QX hRl hbl
     go_loopw [89] (fun kv wk=>∃(k:Nat) (gl:List Int) (ul:List Bs),kv=.int .i64 (k:Nat)/\k<=i/\OB P i k bg (bg+1) gl ul wk/\Ak (fun q=>q=bg∨q=bg+1) W6 wk) (fun kv _=>i-(intOf kv).toNat)
     case atStart=>exact⟨0,_,_,rfl,by omega,ak,Ak.refl _ _⟩
     case round=>
      obtain⟨k,gl,ul,rfl,hk,hG,hB⟩:=hrel;have B8:Ab w wr:=hB.toExt BY (fun q e=>by rcases e with e|e<;>omega);by_cases hkn:k<i
      ·have Rp:k<P.length:=(by rw [←HN.out];exact hkn);obtain⟨bA,oA,A',c',rfl,Bd,Bl,Bp,Bi,hr1,hr2⟩:=HA.out.row k Rp;replace Bd:=B8.cellS Bd;replace Bl:=B8.cellS Bl;replace Bp:=B8.cellS Bp;have hk0:(0:Int)<=(k:Int):=(by omega);have D3:(k:Int)<(i:Int):=(by omega);obtain⟨pg,Ec⟩:=Asw (P[k].1);obtain⟨un,AG⟩:=Asw (P[k].2);have hgd:(P.getD k ([],[])).2=un:=(by rw [AG];simp [List.getD_eq_getElem?_getD,As5 Rp]);rw [←Ec]at Bd;rw [←AG]at Bl;have EA:=(Ab.refl wr).alloc (.cells #[.slice A' pg.length c',S un,.slice none 0 0] 84);have Au:=Asz wr (.cells #[.slice A' pg.length c',S un,.slice none 0 0] 84);have OY:OB P i k bg (bg+1) gl ul (wr.alloc (.cells #[.slice A' pg.length c',S un,.slice none 0 0] 84)):=⟨hG.lg,hG.lu,hG.g,hG.u,An hG.og EA,An hG.os EA⟩;have Cy:=hB.ext EA;clear Ec AG
       go_upto_region 27 with fail
       unfold S at Au EA OY Cy;generalize wr.alloc (.cells #[.slice A' pg.length c',.string ⟨un.toArray⟩,.slice none 0 0] 84)=W3 at *;obtain⟨b8,Cz⟩:=Asw wr.heap.size;rw [←Cz]at Au ⊢
       have Aq2:bg+1<b8:=by obtain⟨cu,jT⟩:=Ic hG.os;have:=Asy jT;omega
       have y1:=Aa (o:=1) Au rfl;have Eo:∃z,gl[k]?=some z:=⟨_,As5 (by rw [hG.lg];exact hkn)⟩;have PE:∃z,ul[k]?=some z:=⟨_,As5 (by rw [hG.lu];exact hkn)⟩;obtain⟨zg,Eo⟩:=Eo;obtain⟨zu,PE⟩:=PE;have c1:W3.cell? ⟨bg,k,none⟩=some (.int .i64 zg):=(by rw [OY.og.cellAt k (by omega)];simp [zs,Eo]);have c2:W3.cell? ⟨bg+1,k,none⟩=some (S zu):=(by rw [OY.os.cellAt k (by omega)];simp [PE]);have f1:=OY.og.frozenAt k;have f2:=OY.os.frozenAt k;have Hn:=OY.step hkn (by omega);rw [hgd]at Hn;have Ql:=Asx Hn;have HB3:=Asx Cy;unfold S at y1 c2;have lB:bg≠bg+1:=(by omega);have H5:b8≠bg:=(by omega);have Ars:b8≠bg+1:=(by omega);clear Cz OY Hn Cy hG hB Eo PE hgd Bd Bl Bp EA Au B8
       go_region
       go_wp2;go_roundw
       case rel=>exact⟨k+1,_,_,by go_num,hkn,⟨Ql.out.lg,Ql.out.lu,Ql.out.g,Ql.out.u,An Ql.out.og (Ab.refl _).drew,An Ql.out.os (Ab.refl _).drew⟩,((HB3.out.setCell (p:=⟨bg,k,none⟩) (.inl (.inl rfl)) _).setCell (p:=⟨bg+1,k,none⟩) (.inl (.inr rfl)) _).ext (Ab.refl _).drew⟩
       case measure=>simp [intOf];omega
      ·have Ch:k=i:=(by omega);subst Ch;have hd:decide (k<k)=false:=(by simp);have De:decide ((k:Int)<(k:Int))=false:=(by simp);have CH:Fp wr bl (BU P k):=(hB.block _ (Asy Gs) (fun e=>by rcases e with e|e<;>omega)).trans Gs;have gX:=(hB.block _ (Asy NB) (fun e=>by rcases e with e|e<;>omega)).trans NB;clear hB Gs NB BY ak;obtain⟨L0,fU⟩:=Asw (BU P k);rw [←fU]at CH;unfold Fp at CH;have hrg:=Dk.range (enc:=A8) (E:=stamp L0) (t:=95) Tryz.underlying95 (W:=wr) (b:=bl) (by rw [Eg];exact CH);obtain⟨hr1,hr2⟩:=hrg;have E8:=(Ab.refl wr).alloc (.mapIter (some bl) (stamp L0).length #[] (stamp L0).length);have Uf:=(E8.block _ (Asy CH)).trans CH;have JM:=B8.trans E8;have gY:=(E8.block _ (Asy gX)).trans gX;have N5:OB P k k bg (bg+1) gl ul (wr.alloc (.mapIter (some bl) (stamp L0).length #[] (stamp L0).length)):=⟨hG.lg,hG.lu,hG.g,hG.u,An hG.og E8,An hG.os E8⟩;have AiJ:=Asy CH;obtain⟨cu7,km⟩:=Ic hG.os;have Ajg:=Asy km;have GY:=Asx fU;clear fU hG gX B8 E8 hd De
       go_upto_region 30 with fail
       clear hr1 CH;obtain⟨bt,En⟩:=Asw wr.heap.size;rw [←En]at hr2 ⊢;generalize wr.alloc (.mapIter (some bl) (stamp L0).length #[] (stamp L0).length)=W8 at *;have AqC:bl<bt:=(by omega);have Jh:bg+1<bt:=(by omega);clear En AiJ km Ajg
       go_loopw [106] (fun v wx=>v=v/\∃seen,Dk wx bt bl (stamp L0) seen/\Ak (fun q=>q=bt) W8 wx) (fun _ wx=>L0.length-(wx.iterSeen bt).size)
       case atStart=>exact⟨rfl,[],hr2,Ak.refl _ _⟩
       case round=>
        obtain⟨-,seen,hI,hB⟩:=hrel;have JO:=(hB.block bl (Asy Uf) (by omega)).trans Uf;have jE:=JO;rw [←Eg]at jE;have Fz:Ab w wr:=hB.toExt JM (fun q e=>by subst e;omega)
        rcases Dk.next A8 hI jE (qJ L0) (by omega) 0 with⟨hlen,hrun⟩|⟨j,hj,H8,W9,QH,hG9,YS,hrun,hen⟩
        ·have aV:=Asx hlen
         obtain⟨og9,RY⟩:wr.ownsRow 0 3 1 (.slice (some ⟨bg,0,none⟩) k k) k (zs gl)/\wr.ownsRow 0 9 1 (.slice (some ⟨bg+1,0,none⟩) k k) k (ul.map S):=
          ⟨AS N5.og hB (fun q hq e=>by simp only [Value.ownBlock,As4]at hq;omega),AS N5.os hB (fun q hq e=>by simp only [Value.ownBlock,As4]at hq;omega)⟩
         have XR:=Asy gY;have NC:=(hB.block _ XR (by omega)).trans gY;have HG:=Asx N5;have em:=yN wr;have en:=@yM wr
         have eb:Ab wr (OQ wr):=((Ab.refl wr).alloc _).alloc _ |>.alloc _
         clear hlen hB hI gY JM Uf N5 jE hr2
         go_upto_region 35 with fail
         clear hrun;generalize OQ wr=V0 at *;obtain⟨wb,mQ⟩:=Asw wr.heap.size;rw [←mQ]at em en;have ArH:w.heap.size<=wb:=by have:=Fz.size;omega
         have Aq8:bg+1<wb:=by obtain⟨cu,jT⟩:=Ic RY;have:=Asy jT;omega
         have AqA:bl<wb:=(by have:=Asy JO;omega);have hRb:w.heap.size<wb:=(by have:=Asy NC;omega);have bQ:=Asx mQ;clear mQ;(go_wp2_with fail);(with_reducible refine em.mono ?_);rintro e w10 ⟨rfl,hw10⟩;rw [hw10];clear hw10 em;have Un:=Fz;have Je:=Fz.trans eb;have fW:=(eb.block _ (Asy JO)).trans JO;have kw:=fun W=>nK (some bl) W;have MV:=(Ab.refl V0).alloc (.cells #[.map (some bl)] 95);have CX:=Asz V0 (.cells #[.map (some bl)] 95);have Ud:=(MV.block _ (Asy fW)).trans fW;have sk:=qE hw (Je.trans MV) V0.heap.size bl L0 (Asy CX) (Aa CX rfl) Ud (fun e he=>J4.out e (by rw [←GY.out];exact he)) (by have:=Ik.out;rw [←GY.out]at this;omega);obtain⟨ws,PI⟩:=Asw (BO (L0.map (·.1)));have hwl:ws.length=L0.length:=(by rw [PI,(Ks _).length_eq];simp);rw [←PI,←hwl]at sk;have ArJ:ws.length<=10000:=(by have:=Ik.out;rw [←GY.out]at this;omega);have Ng:=Asx PI;clear PI hwl;(go_wp2_with fail);(with_reducible refine(kw _).mono ?_);rintro e w11 ⟨rfl,rfl⟩;(go_wp2_with fail);(with_reducible refine sk.mono ?_);rintro e Cu ⟨sv,rfl,hS12,hE12⟩;obtain⟨sA,sc,rfl,-,-,-⟩:=Ad.of_own' (by omega) hS12;have Wi:=MV.trans hE12;have Ai2:=Je.trans Wi;have MW:=eb.trans Wi;have gG:=en.ext Wi;have Aa0:=An og9 MW;have AaC:=An RY MW;have aw:=(MW.block _ (Asy JO)).trans JO;have dx:=(MW.block _ (Asy NC)).trans NC;have hVl:wb+3<=V0.heap.size:=(by have:=Asy en.cell;omega);have HQ:=Asx (And.intro Un (And.intro MW (And.intro RY NC)));clear kw sk CX Ud fW Je eb en JO NC og9 RY MV hE12 Wi MW Fz Un;have ArI:(0:Int)<=(ws.length:Int):=by omega
         go_upto_region 37 with fail
         have hadd:EL L0 ws=Dl.map (fun e=>(Br Fc e,e.l,e.r)):=(by rw [Ng.out,GY.out];exact AcW.out);have XD:wb<=Cu.heap.size:=(by have:=Asy gG.cell;omega);have hrb:wb<=wb+2:=(by omega);have aC:=Asx hadd
         have bS:=Asx (show ∀s∈ws,∃e∈L0,e.1=s from fun s hs=>by
          rw [Ng.out]at hs;obtain⟨e,he,h1⟩:=List.mem_map.1 ((Ks _).mem_iff.1 hs)
          exact⟨e,he,h1⟩)
         clear hadd
         go_loopw [143] (fun kv wk=>∃(q j:Nat) (E:List (Pt×Value×Nat)),kv=.int .i64 (q:Nat)/\q<=ws.length/\j=(EL L0 (ws.take q)).length/\B7 wb wk (wb+2) wb (wb+1) (AD Fc (Dl.take j)) E (BM Fc (Dl.take j))/\Ti Cu wk wb (wb+1)/\Below wb Cu wk) (fun kv _=>ws.length-(intOf kv).toNat)
         case atStart=>exact⟨0,0,[],rfl,by omega,rfl,by simpa [AD,BM]using gG,fun _ _ h _ _ _=>h,Below.refl _ _⟩
         case round=>
          obtain⟨q,j,E,rfl,hq,hj,hN,hK,hBl⟩:=hrel;have ND:=oZ hS12 hK (fun k hk=>by have:=(hS12.lt k hk).1;rw [As7]at this;omega) (by decide);have ogr:=oZ Aa0 hK (fun k hk=>by simp only [Value.ownBlock,As4]at hk;omega) (by decide);have osr:=oZ AaC hK (fun k hk=>by simp only [Value.ownBlock,As4]at hk;omega) (by decide);have Fx:=hK bl _ aw (by omega) (by omega) (fun cs e=>by cases e);have QP:=hK _ _ dx (by omega) (by omega) (fun cs e=>by simp only [Obj.cells.injEq]at e;exact absurd e.2.1 (by decide));have BG:Ab w wr:=Ai2.trans_below hBl (by omega);by_cases Od:q<ws.length
          ·obtain⟨b,o,rfl,f1,f2,f3,f4⟩:=Lq (Ow (by omega) ND) Od;obtain⟨e1,Mk,Ml⟩:=bS.out _ (As1 Od);have mJ:=bO.out e1 (by rw [←GY.out];exact Mk);have hsz:=J4.out e1 (by rw [←GY.out];exact Mk);rw [←GY.out]at mJ;obtain⟨e2,ET,hf2⟩:=Zf (s:=ws[q]) (L:=L0) (by rw [←Ml];exact List.mem_map_of_mem Mk);have hfr:=bO.out e2 (by rw [←GY.out];exact ET);rw [←hf2]at hfr;rw [Ml]at hsz;have uv:∀z,lookO (Bg ws[q]) L0=some z→0<=z/\z<(k:Int):=fun z hz=>(by have:=mJ.2.2 z (by rw [Ml];exact hz);exact⟨this.1,this.2.1⟩);replace hfr:0<=AM ws[q] L0/\AM ws[q] L0<(k:Int):=⟨hfr.1,hfr.2.1⟩;clear mJ;have EY:=uI (L0:=L0) Od;have Jh:=fun x hx=>AeS (L0:=L0) (x:=x) Od hx;rw [←hj]at Jh;obtain⟨s,hs⟩:=Asw (ws[q]);rw [←hs]at f1 f2 f3 f4 uv hsz hfr EY Jh;obtain⟨fi,DY⟩:∃fi:Nat,AM s L0=(fi:Int):=⟨(AM s L0).toNat,by omega⟩;have G4:=Asx EY;have MZ:=Asx Jh;have HJ:=Asx hj;have Bd:(0:Int)<=(q:Int):=(by omega);have Bl:(q:Int)<(ws.length:Int):=(by omega);have EA:=(Ab.refl wr).alloc (.cells #[S (R s.a.x),S (R s.a.y),S (R s.b.x),S (R s.b.y)] 140);have Au:=Asz wr (.cells #[S (R s.a.x),S (R s.a.y),S (R s.b.x),S (R s.b.y)] 140);clear hs Ml Mk e1 ET hf2 EY Jh hj
           go_upto_region 39 with fail
           unfold S at Au EA;generalize wr.alloc (.cells #[.string ⟨(R s.a.x).toArray⟩,.string ⟨(R s.a.y).toArray⟩,.string ⟨(R s.b.x).toArray⟩,.string ⟨(R s.b.y).toArray⟩] 140)=V at *;obtain⟨bx,Ax⟩:=Asw wr.heap.size;rw [←Ax]at Au ⊢;clear Ax f1 f2 f3 f4;have y0:=Aa (o:=0) Au rfl;have y1:=Aa (o:=1) Au rfl;have y2:=Aa (o:=2) Au rfl;have y3:=Aa (o:=3) Au rfl;have bk1:=Xc s V;unfold A8 S at bk1;(go_wp2_with fail);(with_reducible refine bk1.mono ?_);rintro e V2 ⟨rfl,EF⟩;have CL:=EA.trans EF;have Pa:=(CL.block _ (Asy Fx)).trans Fx;have lk:=AbC (Bg s) L0 (W:=V2) Pa;have Lh:=O3 s L0 (W:=V2) Pa;rw [DY]at Lh;have ogV:=An ogr CL;have NL:=(EF.block _ (Asy Au)).trans Au;have z0:=Aa (o:=0) NL rfl;have z1:=Aa (o:=1) NL rfl;have z2:=Aa (o:=2) NL rfl;have z3:=Aa (o:=3) NL rfl;have hG:=HG.out;have C5:fi<k:=(by omega);unfold A8 S at lk Lh;clear bk1 y0 y1 y2 y3 Au;have rt:=fun (x:Nat) (hx:x<k) (V3:World) (h3:Ab V2 V3)=>AnX (l:=gl) (k:=x) (c:=k) (by rw [hG.lg];exact hx) (by have:=hG.g x hx;rw [As5 (by rw [hG.lg];exact hx)]at this;exact Option.some.inj this) (Ow (by omega) (An ogV h3));rw [hG.lg]at rt
           cases hlo:lookO (Bg s) L0 with
           | none=>
            rw [hlo]at lk;simp only [Option.getD_none,Option.isSome_none]at lk;have I3:J7 L0 s=some (s,(fi:Int),-1):=(by unfold J7;rw [hlo,DY]);have Pr:=MZ.out _ I3;rw [aC.out,List.getElem?_map]at Pr;obtain⟨e0,I5,U7⟩:=Option.map_eq_some_iff.1 Pr;simp only [Prod.mk.injEq]at U7;obtain⟨JF,OO,OP⟩:=U7
            have Ay:j<Dl.length:=by
             rcases Nat.lt_or_ge j Dl.length with h|h
             ·exact h
             ·rw [List.getElem?_eq_none h]at I5;cases I5
            have Mj:Dl[j]=e0:=(by rw [As5 Ay]at I5;exact Option.some.inj I5);have ED:=Wt.out.keys Ay;have UU:=Wt.out.ne _ (As1 Ay);rw [Mj,JF]at ED UU
            have Uh:AD Fc (Dl.take (j+1))=AD Fc (Dl.take j) ++ [(s,(fi:Int)),(Bg s,-1)]:=by rw [As3 Ay,Zm,Mj,JF,OO,OP]
            have Ui:BM Fc (Dl.take (j+1))=Dw (Dw (BM Fc (Dl.take j)) s.a s.b) s.b s.a:=by rw [As3 Ay,Zn,Mj,JF]
            have hrl:=RS Fc (Dl.take j);have hjn:j+1=(EL L0 (ws.take (q+1))).length:=(by rw [G4.out,List.length_append,←HJ.out,I3];rfl);have bD:=Asx Uh;have bF:=Asx Ui;have K1:=Asx hjn;clear hlo I3 Pr I5 Mj JF OO OP Uh Ui hjn;have r1:=rt fi C5
            go_upto_region 43 with fail
            have r2:=r1 V2 (Ab.refl _);(go_wp2_with fail);(with_reducible refine r2.mono ?_);rintro e V3 ⟨rfl,Kd⟩;have Ho:=hN.ext (CL.trans Kd);have Aqz:=BG.trans (CL.trans Kd);have hb3:wb<=V3.heap.size:=(by have:=Asy Ho.cell;omega);have ad:=cS Ho hb3 s (fi:Int) (-1) ED.1 ED.2 UU (fun e he=>by have:=hrl e he;rw [List.length_take]at this;omega);have hb4:=(Kd.block _ (Asy NL)).trans NL;have x0:=Aa (o:=0) hb4 rfl;have x1:=Aa (o:=1) hb4 rfl;have x2:=Aa (o:=2) hb4 rfl;have x3:=Aa (o:=3) hb4 rfl;have I6:¬((fi:Int) = -1):=(by omega);have hf2:((fi:Int) == -1)=false:=beq_false_of_ne I6;have hf3:((fi:Int) != -1)=true:=(by rw [bne,hf2];rfl);unfold A8 S at ad;clear r1 r2 rt lk Lh z0 z1 z2 z3;(go_wp2_with fail);(with_reducible refine ad.mono ?_);rintro e V4 ⟨rfl,OV,hK4,E4,I1⟩;rw [←bD.out,←bF.out]at I1;have fS:=RL hK (RL (YZ (CL.trans Kd)) hK4);have fG:=hBl.trans ((Below.mono (CL.trans Kd) (by have:=hBl.size;omega)).trans OV);clear ad x0 x1 x2 x3 Ho;go_wp2;go_roundw
            case rel=>exact⟨q+1,j+1,E4,by go_num,Od,K1.out,I1,fS,fG⟩
            case measure=>simp [intOf];omega
           | some u=>
            rw [hlo]at lk;simp only [Option.getD_some,Option.isSome_some]at lk;obtain⟨uj,hu1⟩:=uv u hlo;obtain⟨ui,rfl⟩:∃ui:Nat,u=(ui:Int):=⟨u.toNat,by omega⟩;have Dq:ui<k:=(by omega);have r1:=rt ui Dq;have r1b:=rt fi C5;have Sc:=fun (V3:World) (h3:Ab w V3)=>Ju s.a s.b hsz.a hsz.b (by omega) (by omega) V3 (hw.ext h3)
            go_upto_region 42 with fail
            have r2:=r1 V2 (Ab.refl _);(go_wp2_with fail);(with_reducible refine r2.mono ?_);rintro e V3 ⟨rfl,Cc⟩;have nP:=O3 s L0 (W:=V3) ((Cc.block _ (Asy Pa)).trans Pa);rw [DY]at nP;have w0:=Cc.cellS z0;have w1:=Cc.cellS z1;have w2:=Cc.cellS z2;have w3:=Cc.cellS z3;unfold A8 S at nP;clear r2 r1 lk Lh z0 z1 z2 z3;have r3:=r1b V3 Cc;(go_wp2_with fail);(with_reducible refine r3.mono ?_);rintro e V4 ⟨rfl,Kd⟩;have Um:=CL.trans (Cc.trans Kd);have Ai6:=BG.trans Um;have hb4:=((Cc.trans Kd).block _ (Asy NL)).trans NL;have x0:=Aa (o:=0) hb4 rfl;have x1:=Aa (o:=1) hb4 rfl;have x2:=Aa (o:=2) hb4 rfl;have x3:=Aa (o:=3) hb4 rfl;have hK4:=RL hK (YZ Um);have OV:=hBl.trans (Below.mono Um (by have:=hBl.size;omega));have I1:=hN.ext Um;clear r3 r1b rt nP w0 w1 w2 w3;by_cases ma:fi=ui
            ·subst ma;have I3:J7 L0 s=none:=(by unfold J7;rw [hlo,DY];simp);have hjn:j=(EL L0 (ws.take (q+1))).length:=(by rw [G4.out,List.length_append,←HJ.out,I3];rfl);have K1:=Asx hjn;clear I3 hjn hlo Sc;go_wp2;go_roundw
             case rel=>exact⟨q+1,j,E,by go_num,Od,K1.out,I1,hK4,OV⟩
             case measure=>simp [intOf];omega
            ·have mf:¬((fi:Int)=(ui:Int)):=(by omega);have hf2:((fi:Int) == (ui:Int))=false:=beq_false_of_ne mf;have hf3:((fi:Int) != (ui:Int))=true:=(by rw [bne,hf2];rfl);have hf4:(fi == ui)=false:=beq_false_of_ne ma;have p1:=Sc V4 Ai6;obtain⟨z,hz⟩:=Asw (AY s.a s.b);rw [←hz]at p1;unfold Af S at p1;clear Sc;(go_wp2_with fail);(with_reducible refine p1.mono ?_);rintro e V5 ⟨rfl,FB⟩;have Aqy:=Um.trans FB;clear p1 x0 x1 x2 x3;by_cases Js:z<0
             ·have I3:J7 L0 s=some (s,(fi:Int),(ui:Int)):=by unfold J7;rw [hlo,DY];simp only;rw [if_pos ⟨mf,by rw [←hz];exact Js⟩]
              have Pr:=MZ.out _ I3;rw [aC.out,List.getElem?_map]at Pr;obtain⟨e0,I5,U7⟩:=Option.map_eq_some_iff.1 Pr;simp only [Prod.mk.injEq]at U7;obtain⟨JF,OO,OP⟩:=U7
              have Ay:j<Dl.length:=by
               rcases Nat.lt_or_ge j Dl.length with h|h
               ·exact h
               ·rw [List.getElem?_eq_none h]at I5;cases I5
              have Mj:Dl[j]=e0:=(by rw [As5 Ay]at I5;exact Option.some.inj I5);have ED:=Wt.out.keys Ay;have UU:=Wt.out.ne _ (As1 Ay);rw [Mj,JF]at ED UU
              have Uh:AD Fc (Dl.take (j+1))=AD Fc (Dl.take j) ++ [(s,(fi:Int)),(Bg s,(ui:Int))]:=by rw [As3 Ay,Zm,Mj,JF,OO,OP]
              have Ui:BM Fc (Dl.take (j+1))=Dw (Dw (BM Fc (Dl.take j)) s.a s.b) s.b s.a:=by rw [As3 Ay,Zn,Mj,JF]
              have hrl:=RS Fc (Dl.take j);have hjn:j+1=(EL L0 (ws.take (q+1))).length:=(by rw [G4.out,List.length_append,←HJ.out,I3];rfl);have bD:=Asx Uh;have bF:=Asx Ui;have K1:=Asx hjn;clear hlo I3 Pr I5 Mj JF OO OP Uh Ui hjn hz;have Pb:=I1.ext FB;have hb5:wb<=V5.heap.size:=(by have:=Asy Pb.cell;omega);have ad:=cS Pb hb5 s (fi:Int) (ui:Int) ED.1 ED.2 UU (fun e he=>by have:=hrl e he;rw [List.length_take]at this;omega);have By:=(FB.block _ (Asy hb4)).trans hb4;have x0:=Aa (o:=0) By rfl;have x1:=Aa (o:=1) By rfl;have x2:=Aa (o:=2) By rfl;have x3:=Aa (o:=3) By rfl;unfold A8 S at ad;(go_wp2_with fail);(with_reducible refine ad.mono ?_);rintro e V6 ⟨rfl,hBl6,hK6,E6,XM⟩;rw [←bD.out,←bF.out]at XM;have hK7:=RL (RL hK4 (YZ FB)) hK6;have Aid:=(OV.trans (Below.mono FB (by have:=OV.size;omega))).trans hBl6;clear ad x0 x1 x2 x3 Pb;go_wp2;go_roundw
              case rel=>exact⟨q+1,j+1,E6,by go_num,Od,K1.out,XM,hK7,Aid⟩
              case measure=>simp [intOf];omega
             ·have I3:J7 L0 s=none:=by unfold J7;rw [hlo];simp only;rw [if_neg (fun h=>by rw [←hz]at h;exact Js h.2)]
              have hjn:j=(EL L0 (ws.take (q+1))).length:=(by rw [G4.out,List.length_append,←HJ.out,I3];rfl);have K1:=Asx hjn;have fS:=RL hK4 (YZ FB);have fG:=OV.trans (Below.mono FB (by have:=OV.size;omega));have Pb:=I1.ext FB;clear I3 hjn hlo hz;go_wp2;go_roundw
              case rel=>exact⟨q+1,j,E,by go_num,Od,K1.out,Pb,fS,fG⟩
              case measure=>simp [intOf];omega
          ·have hqe:q=ws.length:=(by omega);subst hqe;rw [List.take_length,aC.out,List.length_map]at hj;subst hj;rw [List.take_length]at hN;obtain⟨Un,MW,RY,NC⟩:=HQ.out;have Hp:=HNI.out;have fo:=MW.trans_below hBl (by rw [bQ.out];exact As0 _);have cz:=hN.base bQ.out;have ag:=uL (hw.ext Un) fo cz rfl (oG Fc Dl) Hp.wo Hp.gr (by rw [RU];omega) (fun e he=>by have:=RS Fc Dl e he;omega) k (by omega) Hp.lf Hp.r1 rfl rfl;rw [Hp.op]at ag;have hd:decide (ws.length<ws.length)=false:=(by simp);have De:decide ((ws.length:Int)<(ws.length:Int))=false:=(by simp);clear ND ogr osr Fx QP hN hK hBl hS12 Aa0 AaC aw dx gG HQ
           go_upto_region 47 with fail
           (go_wp2_with fail);(with_reducible refine ag.mono ?_);rintro e w14 ⟨rfl,FB,hN14⟩;have fj:=Un.trans FB;have AaD:=An RY FB;have eh:=(FB.block _ (Asy NC)).trans NC
           have Aki:ul=P.map (·.2):=by
            have hG:=HG.out;apply List.ext_getElem?;intro j
            rcases Nat.lt_or_ge j k with h|h
            ·rw [hG.u j h];have Jk:j<P.length:=(by rw [←HN.out];exact h);simp [List.getD_eq_getElem?_getD,As5 Jk]
            ·rw [List.getElem?_eq_none (by rw [hG.lu];exact h),List.getElem?_eq_none (by rw [List.length_map,←HN.out];exact h)]
           have mK:=HG.out.lu;have can:=wE (st:=st) (pts:=pts) hw fj hN14 Hp.hz (by have:=Hp.ln;omega) Hp.rl Hp.nd Hp.no Hp.sz (by rw [RU];omega) Hp.bk (some ⟨bg+1,0,none⟩) k ul (Ow (by omega) AaD) (fun x hx=>by cases hx;have:=FB.size;have:=bQ.out;show bg+1<_;omega) (by omega) (fun x hx=>by rw [mK];exact Hp.lf x hx) Wy.out rfl (by rw [Aki];exact HST.out);rw [mK]at can;have hpl:pts.length<=400:=(by rw [Wy.out,(Lv _).length_eq,List.length_map];exact Hp.ln);clear ag AaD hN14 cz fo FB mK;(go_wp2_with fail);(with_reducible refine can.mono ?_);rintro e w15 ⟨pA,pB,pF,pc,pd,pg,rfl,hcaps,hA15,hB15,hF15,-,hx15⟩;unfold AH;have gV:=(hx15.block _ (Asy eh)).trans eh;have Ai3:=fj.trans hx15;have S8:=(Ab.refl w15).alloc (.cells #[.slice pA pts.length pc,.slice pB st.ed.length pd,.slice pF st.fa.length pg] 35);have Ur:=Asz w15 (.cells #[.slice pA pts.length pc,.slice pB st.ed.length pd,.slice pF st.fa.length pg] 35);have JJ:=(S8.block _ (Asy gV)).trans gV;have Ai4:=Ai3.trans S8;have gA:=hA15.ext S8;have gB:=hB15.ext S8;have gF:=hF15.ext S8;have Arx:¬(400<(pts.length:Int)):=(by omega);have Akq:=Asy gV
           go_upto_region 51 with fail
           generalize w15.alloc (.cells #[.slice pA pts.length pc,.slice pB st.ed.length pd,.slice pF st.fa.length pg] 35)=W16 at *;obtain⟨b32,gu⟩:=Asw w15.heap.size;rw [←gu]at Ur Akq ⊢;clear gu can;have m0:=Aa (o:=0) Ur rfl;have m1:=Aa (o:=1) Ur rfl;have m2:=Aa (o:=2) Ur rfl;have r0:=Aa (o:=0) JJ rfl;have r1:=Aa (o:=1) JJ rfl;have r2:=Aa (o:=2) JJ rfl;have r3:=Ah (o:=0) JJ;have r4:=Ah (o:=1) JJ;have r5:=Ah (o:=2) JJ;have AA:=Dd (.slice pA pts.length pc) (.slice pB st.ed.length pd) (.slice pF st.fa.length pg) JJ;have bb:=(((Ak.refl (fun q=>q=w.heap.size) W16).setCell (p:=⟨w.heap.size,0,none⟩) (.inl rfl) (.slice pA pts.length pc)).setCell (p:=⟨w.heap.size,1,none⟩) (.inl rfl) (.slice pB st.ed.length pd)).setCell (p:=⟨w.heap.size,2,none⟩) (.inl rfl) (.slice pF st.fa.length pg);have t1:=Aa (o:=0) AA rfl;have t2:=Aa (o:=1) AA rfl;have t3:=Aa (o:=2) AA rfl;have Hu:=bb.toExt Ai4 (fun q e=>by subst e;exact As0 _);have fA:=FI gA bb JJ (fun j hj=>by obtain⟨s,h⟩:=OS hj;rw [h];simp);have fB:=FI gB bb JJ (fun j hj=>by obtain⟨s,h⟩:=Nx hj;rw [h];simp);have fF:=FI gF bb JJ (fun j hj=>by rw [List.getElem_map];simp);have Bf:=Asx (And.intro fA (And.intro fB (And.intro fF Hu)));clear gA gB gF fA fB fF bb AA JJ Hu Ur;go_wp2;refine bodyPost_ret (v:=.tuple #[.agg #[.slice pA pts.length pc,.slice pB st.ed.length pd,.slice pF st.fa.length pg],.int .i64 0]) (by simp [results,Tryz.results44,go_sem,t1,t2,t3]) rfl ?_;exact⟨pA,pB,pF,pc,pd,pg,rfl,hcaps,Bf.out.1,Bf.out.2.1,Bf.out.2.2.1,rfl,Bf.out.2.2.2⟩
        ·have nt:j<L0.length:=(by rw [Eg]at hj;exact hj);rw [ZR,qL]at hrun hen
         have hlen':seen.length<L0.length:=by
          have h2:(j::seen) ⊆ List.range L0.length:=by
           intro q hq
           rcases List.mem_cons.1 hq with rfl|hq
           ·simpa using nt
           ·have:=hI.lt q hq;rw [Eg]at this;simpa using this
          have:=(List.nodup_cons.2 ⟨H8,hI.nd⟩).length_le_of_subset h2;simp at this;omega
         have Gq:=hB.grown hG9 (fun q e=>by cases e;exact .inl rfl);have Pw:=As1 nt;obtain⟨s,hs⟩:=Asw (L0[j].1);obtain⟨z,hz⟩:=Asw (L0[j].2);have hin:=bO.out L0[j] (by rw [←GY.out];exact Pw);rw [←hs,←hz]at hin;rw [←hs,←hz]at hrun hen;obtain⟨hz0,hz1,GI⟩:=hin;obtain⟨zi,rfl⟩:∃zi:Nat,z=(zi:Int):=⟨z.toNat,by omega⟩;have hsz:G7 1 s:=(by rw [hs];exact J4.out _ (by rw [←GY.out];exact Pw));have EA:=(Ab.refl W9).alloc (.cells #[S (R s.a.x),S (R s.a.y),S (R s.b.x),S (R s.b.y)] 140);have Au:=Asz W9 (.cells #[S (R s.a.x),S (R s.a.y),S (R s.b.x),S (R s.b.y)] 140);have e9:=hen W9 rfl rfl;unfold A8 at hrun e9;have bk:=fun (V:World)=>Xc s V;have jD:=(EA.block _ (Asy ((hG9.block bl (Asy JO) (fun e=>by cases e;omega)).trans JO))).trans ((hG9.block bl (Asy JO) (fun e=>by cases e;omega)).trans JO);have QD:=Gq.ext EA;have fP:Dk (W9.alloc (.cells #[S (R s.a.x),S (R s.a.y),S (R s.b.x),S (R s.b.y)] 140)) bt bl (stamp L0) (seen ++ [j]):=QH.keep (EA.block _ (Asy QH.it));have aV:=Asx (FD hI);clear hs hz Pw hen YS
         go_upto_region 32 with fail
         unfold S at Au EA jD QD fP;generalize W9.alloc (.cells #[.string ⟨(R s.a.x).toArray⟩,.string ⟨(R s.a.y).toArray⟩,.string ⟨(R s.b.x).toArray⟩,.string ⟨(R s.b.y).toArray⟩] 140)=V at *;obtain⟨bx,Ax⟩:=Asw W9.heap.size;rw [←Ax]at Au ⊢;clear Ax hrun e9 Gq hG9 QH EA;have y0:=Aa (o:=0) Au rfl;have y1:=Aa (o:=1) Au rfl;have y2:=Aa (o:=2) Au rfl;have y3:=Aa (o:=3) Au rfl;have bk1:=bk V;unfold A8 S at bk1;(go_wp2_with fail);(with_reducible refine bk1.mono ?_);rintro e V2 ⟨rfl,EF⟩;have KN:=QD.ext EF;have LW:=fP.keep (EF.block _ (Asy fP.it));have lk:=AbC (Bg s) L0 (W:=V2) ((EF.block _ (Asy jD)).trans jD);unfold A8 S at lk;clear bk1 bk y0 y1 y2 y3;have KW:Ab w V2:=KN.toExt JM (fun q e=>by subst e;omega)
         obtain⟨Asa,AaB⟩:V2.ownsRow 0 3 1 (.slice (some ⟨bg,0,none⟩) k k) k (zs gl)/\V2.ownsRow 0 9 1 (.slice (some ⟨bg+1,0,none⟩) k k) k (ul.map S):=
          ⟨AS N5.og KN (fun q hq e=>by simp only [Value.ownBlock,As4]at hq;omega),AS N5.os KN (fun q hq e=>by simp only [Value.ownBlock,As4]at hq;omega)⟩
         cases hlo:lookO (Bg s) L0 with
         | none=>
          rw [hlo]at lk;simp only [Option.getD_none,Option.isSome_none]at lk;have HLO:=Asx hlo;clear hlo
          go_upto_region 33 with fail
          refine Bh (by kernel_rfl) (by kernel_rfl) ?_
          repeat (go_big_quiet_step (fail))
          refine wpQuiet_nil ?_;rintro cJ ⟨q,hq⟩;have Cc:Ab V2 cJ:=hq▸q.h;have TZ:=LW.keep (Cc.block _ (Asy LW.it));have XD:=KN.ext Cc;have aW:=Asx (FD TZ);clear hq q lk LW KN;go_wp2;go_roundw
          case rel=>exact⟨trivial,seen ++ [j],TZ,XD⟩
          case measure=>rw [aV.out,aW.out,List.length_append,List.length_singleton];omega
         | some u=>
          rw [hlo]at lk;simp only [Option.getD_some,Option.isSome_some]at lk;obtain⟨uj,hu1,hne⟩:=GI u (by rw [←GY.out];exact hlo);obtain⟨ui,rfl⟩:∃ui:Nat,u=(ui:Int):=⟨u.toNat,by omega⟩;simp only [Int.toNat_natCast]at hne;have g1:=N5.u zi (by omega);have g2:=N5.u ui (by omega);obtain⟨s1,hs1⟩:=Asw ((P.getD zi ([],[])).2);obtain⟨s2,hs2⟩:=Asw ((P.getD ui ([],[])).2);rw [←hs1]at g1 hne;rw [←hs2]at g2 hne;have c1:=AaB.cellAt zi (by omega);have c2:=AaB.cellAt ui (by omega);rw [List.getElem?_map,g1]at c1;rw [List.getElem?_map,g2]at c2;simp only [Option.map_some]at c1 c2;have q1:∀q:Ac V2,q.w.cell? ⟨bg+1,zi,none⟩=some (S s1):=Ac.cell c1;have q2:∀q:Ac V2,q.w.cell? ⟨bg+1,ui,none⟩=some (S s2):=Ac.cell c2;have hb1:(s1 == s2)=false:=beq_false_of_ne hne;have HLO:=Asx hlo;clear hlo hs1 hs2 g1 g2 c1 c2 hne GI
          go_upto_region 33 with fail
          unfold S at q1 q2;refine Bh (by kernel_rfl) (by kernel_rfl) ?_
          repeat (go_big_quiet_step (fail))
          refine wpQuiet_nil ?_;rintro cJ ⟨q,hq⟩;have Cc:Ab V2 cJ:=hq▸q.h;clear q1 q2;have TZ:=LW.keep (Cc.block _ (Asy LW.it));have XD:=KN.ext Cc;have aW:=Asx (FD TZ);clear hq q lk LW KN;go_wp2;go_roundw
          case rel=>exact⟨trivial,seen ++ [j],TZ,XD⟩
          case measure=>rw [aV.out,aW.out,List.length_append,List.length_singleton];omega
end Go.Proofs.YtnddllipjippnaaGreatDoor
namespace Kl
section
variable {α : Type} (le : α → α → Bool)
def On:Nat→List α→List α→List α
 | 0,xs,ys=>xs++ys
 | _+1,[],ys=>ys
 | _+1,x::xs,[]=>x::xs
 | n+1,x::xs,y::ys=>if le x y then x::On n xs (y::ys)else y::On n (x::xs) ys
theorem nR:∀(n:Nat) (xs ys:List α),xs.length+ys.length<=n→On le n xs ys=List.merge xs ys le
 | 0,[],[],_=>by simp [On]
 | 0,_::_,_,h=>by simp at h
 | 0,[],_::_,h=>by simp at h
 | n+1,[],ys,_=>by simp [On]
 | n+1,x::xs,[],_=>by simp [On]
 | n+1,x::xs,y::ys,h=>by simp only [List.length_cons]at h;rw [On,List.cons_merge_cons,nR n xs (y::ys) (by simp;omega),nR n (x::xs) ys (by simp;omega)]
def FG:Nat→List α→List α
 | 0,l=>l
 | _+1,[]=>[]
 | _+1,[a]=>[a]
 | n+1,a::b::l=>On le (l.length+2) (FG n ((a::b::l).take ((l.length+3) / 2))) (FG n ((a::b::l).drop ((l.length+3) / 2)))
theorem Vy:∀(n:Nat) (l:List α),l.length<=n→FG le n l=l.mergeSort le
 | 0,[],_=>by simp [FG]
 | 0,_::_,h=>by simp at h
 | n+1,[],_=>by simp [FG]
 | n+1,[a],_=>by simp [FG]
 | n+1,a::b::l,h=>by
  simp only [List.length_cons]at h;have h1:((a::b::l).take ((l.length+3)/2)).length<=n:=(by simp only [List.length_take,List.length_cons];omega);have h2:((a::b::l).drop ((l.length+3)/2)).length<=n:=(by simp only [List.length_drop,List.length_cons];omega);have h3:((a::b::l).take ((l.length+3)/2)).length+((a::b::l).drop ((l.length+3)/2)).length<=l.length+2:=(by simp only [List.length_take,List.length_drop,List.length_cons];omega);rw [FG,Vy n _ h1,Vy n _ h2,nR _ _ _ _ (by rw [List.length_mergeSort,List.length_mergeSort];exact h3)];rw [List.mergeSort];simp only [List.MergeSort.Internal.splitInTwo_fst,List.MergeSort.Internal.splitInTwo_snd]
  rfl
end
end Kl
namespace Go.Proofs.YtnddllipjippnaaGreatDoor
open Go.RowKit Kl
def Vu(x y:Pt):Bool:=!decide (AY y x<0)
def RO(x y:Sg):Bool:=!decide (Gz y x<0)
def nN(p x y:Pt):Bool:=!decide (DD p y x<0)
theorem qF(l:List Pt):FK l=FG Vu l.length l:=(Vy Vu _ l (As0 _)).symm
theorem ZP(l:List Sg):BO l=FG RO l.length l:=(Vy RO _ l (As0 _)).symm
theorem AoM(p:Pt)(l:List Pt):Dt p l=FG (nN p) l.length l:=(Vy (nN p) _ l (As0 _)).symm
def OM(W:List Sg)(R0:List (Pt×List Pt)):List (List Sg):=((FG RO W.length W).foldl (GB W.length R0) ([],[])).2
theorem eD(W:List Sg)(R0:List (Pt×List Pt)):Ix W R0=OM W R0:=by unfold Ix OM;rw [ZP]
def qB(p:List Pt)(s:Pt×Pt):Bool:=p.all (fun x=>decide (0<=Am s.1 s.2 x))&&p.any (fun x=>decide (0<Am s.1 s.2 x))
def ZI(p:List Pt)(s:Pt×Pt):Bool:=p.all (fun x=>decide (Am s.1 s.2 x<=0))
theorem Aoy{p:List Pt}{s:Pt×Pt}(h:qB p s=true):MJ p s:=by
 unfold qB at h;rw [Bool.and_eq_true,List.all_eq_true,List.any_eq_true]at h;obtain⟨h1,x,hx,h2⟩:=h;exact⟨fun x hx=>of_decide_eq_true (h1 x hx),x,hx,of_decide_eq_true h2⟩
theorem AbE{p:List Pt}{s:Pt×Pt}(h:ZI p s=true):Lu p s:=by
 unfold ZI at h;rw [List.all_eq_true]at h;exact fun x hx=>of_decide_eq_true (h x hx)
def pG(l:List Pt):Bool:=decide (3<=l.length)&&(decide (l.length<=60)&&((List.range l.length).all (fun i=>(List.range l.length).all (fun n=>n == i||(n == (i+1)%l.length||decide (0<Am (l.getD i ⟨0,0⟩) (l.getD ((i+1)%l.length) ⟨0,0⟩) (l.getD n ⟨0,0⟩)))))&&(List.range (l.length-1)).all (fun n=>!decide (AY (l.getD (n+1) ⟨0,0⟩) (l.getD 0 ⟨0,0⟩)<0))))
theorem getD_at{α:Type}(l:List α)(d:α){i:Nat}(h:i<l.length):l.getD i d=l[i]:=by rw [List.getD_eq_getElem?_getD,As5 h];rfl
theorem Abc{l:List Pt}(h:pG l=true):OK l:=by
 unfold pG at h;simp only [Bool.and_eq_true,List.all_eq_true,decide_eq_true_eq,List.mem_range,Bool.or_eq_true,beq_iff_eq,Bool.not_eq_true',decide_eq_false_iff_not]at h;obtain⟨h1,h2,h3,h4⟩:=h;refine⟨h1,h2,?_,?_⟩
 ·intro i n hi hn h5 h6;have:=h3 i hi n hn;rw [getD_at l _ hi,getD_at l _ hn,getD_at l _ (Nat.mod_lt _ (by omega))]at this
  rcases this with k|k|k
  ·exact absurd k h5
  ·exact absurd k h6
  ·exact k
 ·intro n hn;have:=h4 n (by omega);rw [getD_at l _ hn,getD_at l _ (by omega:0<l.length)]at this;exact this
def szB(p:Pt):Bool:=decide (p.x.num.natAbs<10^1)&&(decide (p.x.den<10^1)&&(decide (p.y.num.natAbs<10^1)&&decide (p.y.den<10^1)))
theorem Ku{p:Pt}(h:szB p=true):Aw 1 p:=by
 unfold szB at h;simp only [Bool.and_eq_true,decide_eq_true_eq]at h;exact⟨⟨h.1,h.2.1⟩,⟨h.2.2.1,h.2.2.2⟩⟩
def TR(p:Pt):Bool:=decide ((p.x*2).den=1)&&(decide ((p.x*2).num.natAbs<=9)&&(decide ((p.y*2).den=1)&&decide ((p.y*2).num.natAbs<=9)))
theorem fx{q:Rat}(h1:(q*2).den=1)(h2:(q*2).num.natAbs<=9):Ni q:=by
 refine⟨(q*2).num,h2,?_⟩
 have:((q*2).num:Rat)=q*2:=by
  refine Rat.ext ?_ ?_
  ·rw [Rat.num_intCast]
  ·rw [Rat.den_intCast,h1]
 rw [this];grind
theorem TS{p:Pt}(h:TR p=true):Ce p:=by
 unfold TR at h;simp only [Bool.and_eq_true,decide_eq_true_eq]at h;exact⟨fx h.1 h.2.1,fx h.2.2.1 h.2.2.2⟩
def He(P:List (List Pt×Bs)):List Pt:=Lib.compact (FG Vu (DT P P.length).length (DT P P.length))
theorem Ag1(P:List (List Pt×Bs)):TD P=He P:=by unfold TD He;rw [qF]
def Zr:List Sg→Bool
 | []=>true
 | s::l=>!l.any (AU s) && Zr l
theorem Aaw:∀{l:List Sg},Zr l=true→l.Nodup
 | [],_=>List.nodup_nil
 | s::l,h=>by rw [Zr,Bool.and_eq_true,Bool.not_eq_true']at h;rw [List.nodup_cons];exact⟨uP.1 h.1,Aaw h.2⟩
def VJ(P:List (List Pt×Bs)):Bool:=
 decide (0<P.length)&&(decide (P.length<=1000)&&(P.all (fun e=>pG e.1&&e.1.all szB) &&
 (P.all (fun e=>(List.range e.1.length).all (fun k=>decide ((He P).filter (fun q=>FY (GV e.1 k).a (GV e.1 k).b q)=TK (GV e.1 k)))) &&
 (Zr ((BU P P.length).map (·.1)) &&
 ((List.range P.length).all (fun i=>(List.range i).all (fun k=>(List.range (P.getD k ([],[])).1.length).all (fun j=>qB (P.getD i ([],[])).1 (BE (P.getD k ([],[])).1 j)||ZI (P.getD i ([],[])).1 (BE (P.getD k ([],[])).1 j))&&(List.range (P.getD k ([],[])).1.length).any (fun j=>ZI (P.getD i ([],[])).1 (BE (P.getD k ([],[])).1 j)))) &&
 ((BU P P.length).all (fun e=>decide (0<=e.2/\e.2<(P.length:Int))&&(szB e.1.a&&szB e.1.b)&&(match lookO (Bg e.1) (BU P P.length)with|none=>true|some z=>decide (0<=z/\z<(P.length:Int))&&decide ((P.getD e.2.toNat ([],[])).2≠(P.getD z.toNat ([],[])).2))) &&
 decide ((BU P P.length).length<=10000)))))))
theorem AmX{P:List (List Pt×Bs)}(h:VJ P=true):rG P:=by
 unfold VJ at h;simp only [Bool.and_eq_true,List.all_eq_true,decide_eq_true_eq,List.mem_range]at h;obtain⟨-,h1,h2,h3,h4,h5,-,-⟩:=h;refine⟨⟨h1,fun e he=>?_,fun e he p hp=>Ku ((h2 e he).2 p hp),fun e he k hk=>?_,Aaw h4⟩,fun e he=>Abc (h2 e he).1,?_⟩
 ·have:=Abc (h2 e he).1;exact⟨by have:=this.n3;omega,this.n60⟩
 ·rw [Ag1];exact h3 e he k hk
 ·intro i k hi hk;obtain⟨ha,hb⟩:=h5 i hi k hk;rw [getD_at P _ hi,getD_at P _ (by omega:k<P.length)]at ha hb;rw [List.any_eq_true]at hb;obtain⟨j,hj,hb⟩:=hb;refine⟨fun j hj=>?_,j,List.mem_range.1 hj,AbE hb⟩;have:=ha j hj;rw [Bool.or_eq_true]at this;exact this.imp Aoy AbE
instance sgDec:DecidableEq Sg:=fun s t=>decidable_of_iff (AU s t=true) IG
def If(pts:List Pt)(eds:List EdZ):List (Pt×List Pt):=(BM pts eds).map (fun e=>(e.1,FG (nN e.1) e.2.length e.2))
theorem pQ(pts:List Pt)(eds:List EdZ):If pts eds=(BM pts eds).map (fun e=>(e.1,Dt e.1 e.2)):=by
 unfold If;refine List.map_congr_left fun e _=>?_;rw [AoM]
def AeY(pts:List Pt)(eds:List EdZ)(n:Nat):Et:=LG (AD pts eds) n (OM ((AD pts eds).map (·.1)) (If pts eds)) (Lr ((AD pts eds).map (·.1)) (OM ((AD pts eds).map (·.1)) (If pts eds)))
def Zq(e:Pt×List Pt):Bool:=match e.2 with
 | [p,q]=>decide (AN (Am p e.1 q)≠0)
 | _=>true
def Zl(pts:List Pt)(eds:List EdZ)(n:Nat):Bool:=
 decide (Cr [] pts=0)&&(decide (DC pts.length n [] eds=0)&&(decide (Ey pts [] eds=0)&&(pts.all TR&&(decide (eds.length<=1000)&&(!(AeY pts eds n).op &&
 ((If pts eds).all (fun e=>szB e.1&&(e.2.all szB&&(decide (e.2.length<100000)&&Zq e)))&&(decide ((If pts eds).length<=400)&&(decide ((If pts eds).map (·.1)).Nodup &&
 ((AD pts eds).all (fun e=>szB e.1.a&&szB e.1.b)&&(AD pts eds).all (fun e=>(AD pts eds).any (fun e'=>AU e'.1 (Bg e.1))))))))))))
theorem AlT{pts:List Pt}{eds:List EdZ}{n:Nat}(h:Zl pts eds n=true):tR pts eds n (If pts eds):=by
 unfold Zl at h;simp only [Bool.and_eq_true,List.all_eq_true,decide_eq_true_eq,Bool.not_eq_true']at h;obtain⟨h1,h2,h3,h4,h5,h6,h7,h8,h9,h10,h11⟩:=h;have hg:∀p∈pts,Ce p:=fun p hp=>TS (h4 p hp);have he:=TJ h1 h2;refine⟨he,h5,Zo he hg h3,Vz he hg,Aas h2,pQ pts eds,?_,fun e k=>⟨Ku (h7 e k).1,fun p hp=>Ku ((h7 e k).2.1 p hp)⟩,h8,fun e k=>(h7 e k).2.2.1,h9,?_,fun e k=>⟨Ku (h10 e k).1,Ku (h10 e k).2⟩,?_⟩
 ·rw [eD];exact h6
 ·intro e k p q Rz;have:=(h7 e k).2.2.2;unfold Zq at this;rw [Rz]at this;exact of_decide_eq_true this
 ·intro e k;have:=h11 e k;rw [List.any_eq_true]at this;obtain⟨x,hx,hs⟩:=this;exact⟨x,hx,IG.1 hs⟩
def rA(P:List (List Pt×Bs)):List Sg:=FG RO ((BU P P.length).map (·.1)).length ((BU P P.length).map (·.1))
def LL(P:List (List Pt×Bs)):List EdZ:=(EL (BU P P.length) (rA P)).map (fun x=>⟨Ib x.1.a (Cq (He P)),Ib x.1.b (Cq (He P)),x.2.1,x.2.2⟩)
def pM(P:List (List Pt×Bs)):List Pt:=FG Vu ((If (He P) (LL P)).map (·.1)).length ((If (He P) (LL P)).map (·.1))
def VU(P:List (List Pt×Bs)):GX:=IW (P.map (·.2)) (Cq (pM P)) (AD (He P) (LL P)) (FG RO ((AD (He P) (LL P)).map (·.1)).length ((AD (He P) (LL P)).map (·.1)))
def Aad(P:List (List Pt×Bs)):MapZ:=⟨pM P,(VU P).ed,(VU P).fa.length⟩
def uH(P:List (List Pt×Bs)):Bool:=decide (EL (BU P P.length) (rA P)=(LL P).map (fun e=>(Br (He P) e,e.l,e.r)))
theorem AfU(P:List (List Pt×Bs))(h1:VJ P=true)(h2:Zl (He P) (LL P) P.length=true)(h3:uH P=true)(A:Option Addr)(c:Nat)(w:World)(hw:Aj w)(h:IS w A c P) :
  Calls Tryz.prog 44 #[.slice A P.length c] w (MS w (Aad P) (VU P).fa):=by
 have hp:=h1;unfold VJ at h1;simp only [Bool.and_eq_true,List.all_eq_true,decide_eq_true_eq]at h1;obtain⟨g0,-,-,-,-,-,g6,g7⟩:=h1;have ha:EL (BU P P.length) (rA P)=(LL P).map (fun e=>(Br (He P) e,e.l,e.r)):=of_decide_eq_true h3;refine AfT P (AmX hp) g0 ?_ (fun e k=>⟨Ku (g6 e k).1.2.1,Ku (g6 e k).1.2.2⟩) g7 (by rw [ZP];exact ha) (AlT h2) (pts:=pM P) (by rw [qF];rfl) (st:=VU P) (by rw [ZP];rfl) A c w hw h;intro e k;obtain⟨⟨g1,-⟩,g3⟩:=g6 e k;refine⟨g1.1,g1.2,fun z hz=>?_⟩;rw [hz]at g3;simp only [Bool.and_eq_true,decide_eq_true_eq]at g3;exact⟨g3.1.1,g3.1.2,g3.2⟩
set_option maxRecDepth 100000
set_option maxRecDepth 100000
def Q3(m:MapZ):Bool:=!Nt m&&(decide (Cr [] m.pts=0)&&(decide (DC m.pts.length m.nf [] m.eds=0)&&(decide (Ey m.pts [] m.eds=0)&&(!TO (BM m.pts m.eds) m.pts&&Np (AD m.pts m.eds) m.nf (OM ((AD m.pts m.eds).map (·.1)) (If m.pts m.eds)) (Lr ((AD m.pts m.eds).map (·.1)) (OM ((AD m.pts m.eds).map (·.1)) (If m.pts m.eds)))))))
theorem Agn{m:MapZ}(h:Q3 m=true):Fq m=0:=by
 unfold Q3 at h;simp only [Bool.and_eq_true,decide_eq_true_eq,Bool.not_eq_true']at h;obtain⟨h1,h2,h3,h4,h5,h6⟩:=h
 have e:Np (AD m.pts m.eds) m.nf (PP m) (RR m)=true:=by unfold RR PP oI oH;rw [←pQ,eD];exact h6
 unfold Fq dS;rw [if_neg (by rw [h1];simp),if_neg (by omega),if_neg (by omega),if_neg (by omega),if_neg (by rw [h5];simp),if_pos e]
def KG(m:MapZ):List Pt:=FG Vu ((BM m.pts m.eds).map (·.1)).length ((BM m.pts m.eds).map (·.1))
def wA(m:MapZ):List Sg:=FG RO ((AD m.pts m.eds).map (·.1)).length ((AD m.pts m.eds).map (·.1))
def Dx(m:MapZ)(fa:List Bs):GX:=IW fa (Cq (KG m)) (AD m.pts m.eds) (wA m)
def OL(m:MapZ)(fa:List Bs):MapZ:=⟨KG m,(Dx m fa).ed,(Dx m fa).fa.length⟩
def Iu(m:MapZ):Bool:=
 Q3 m&&(m.pts.all TR&&(decide (m.eds.length<=1000)&&((BM m.pts m.eds).all (fun e=>szB e.1&&(e.2.all szB&&(decide (e.2.length<100000)&&Zq e)))&&(decide ((BM m.pts m.eds).length<=400)&&(decide ((BM m.pts m.eds).map (·.1)).Nodup &&
 ((AD m.pts m.eds).all (fun e=>szB e.1.a&&(szB e.1.b&&decide (-1<=e.2/\e.2<(m.nf:Int))))&&(AD m.pts m.eds).all (fun e=>(AD m.pts m.eds).any (fun e'=>AU e'.1 (Bg e.1)))))))))
theorem GF{w:World}{b bm:Nat}(hne:bm≠b)(x y z:Value)(o:Nat):(((w.setCell ⟨b,0,none⟩ x).setCell ⟨b,1,none⟩ y).setCell ⟨b,2,none⟩ z).cell? ⟨bm,o,none⟩=w.cell? ⟨bm,o,none⟩:=by
 refine World.cell?_of_block ?_;show (((w.setCell ⟨b,0,none⟩ x).setCell ⟨b,1,none⟩ y).setCell ⟨b,2,none⟩ z).heap[bm]?=w.heap[bm]?;rw [Bu (by exact hne),Bu (by exact hne),Bu (by exact hne)]
theorem LI{m:MapZ}(h:Iu m=true):Fq m=0/\∀p∈m.pts,Ce p:=by
 unfold Iu at h;simp only [Bool.and_eq_true,List.all_eq_true]at h;exact⟨Agn h.1,fun p hp=>TS (h.2.1 p hp)⟩
theorem AaV(m:MapZ)(fa:List Bs)(BS:m.nf=fa.length)(hb:Iu m=true)(A B F:Option Addr)(c d g:Nat)(AW:Db m c d g)(w:World)(hw:Aj w)(hA:Ad w A (flat (Ag m.pts)))(hB:Ad w B (Ar m.eds))(hF:Ad w F (fa.map S))(Jq:∀x,F=some x→x.block<w.heap.size)(h8:m.nf<=100000) :
  Calls Tryz.prog 43 #[AH A B F m c d g] w (MS w (OL m fa) (Dx m fa).fa):=by
 obtain⟨hck,hgr⟩:=LI hb;unfold Iu at hb;simp only [Bool.and_eq_true,List.all_eq_true,decide_eq_true_eq]at hb;obtain⟨h0,-,h2,h3,h4,h5,h6,h7⟩:=hb;unfold Q3 at h0;simp only [Bool.and_eq_true,decide_eq_true_eq]at h0;have F7:=TJ h0.2.1 h0.2.2.1;have pc:=fun W (hx:Ab w W)=>PR m hgr A B F c d g AW W (hw.ext hx) (hA.ext hx) (hB.ext hx);rw [hck]at pc;have oc:=fun W (hx:Ab w W)=>Zv m A B F c d g AW F7 (by omega) W (hA.ext hx) (hB.ext hx)
 have cn:=fun (W W':World) (h1:Ab w W) (hx:Ab W W') (r b1 b2:Nat) (E:List (Pt×Value×Nat)) (hn:B7 W.heap.size W' r b1 b2 (AD m.pts m.eds) E (BM m.pts m.eds))=>wE (hw.ext h1) hx hn
  (fun e k=>⟨Ku (h3 e k).1,fun p hp=>Ku ((h3 e k).2.1 p hp)⟩) (by omega) (fun e k=>(h3 e k).2.2.1) h5 (fun e k p q Rz=>by
   have:=(h3 e k).2.2.2;unfold Zq at this;rw [Rz]at this
   exact of_decide_eq_true this)
  (fun e k=>⟨Ku (h6 e k).1,Ku (h6 e k).2.1⟩) (by rw [RU];omega) (fun e k=>by
   have:=h7 e k;rw [List.any_eq_true]at this;obtain⟨x,hx,hs⟩:=this
   exact⟨x,hx,IG.1 hs⟩) F g fa ((hF.ext h1).ext hx) (fun x e=>As9 (Jq x e) (h1.trans hx).size) (by rw [←BS];exact h8) (fun x k=>by have:=(h6 x k).2.2;omega) (pts:=KG m) (by rw [qF];rfl) (ws:=wA m) (by rw [ZP];rfl) (st:=Dx m fa) rfl
 rw [←BS]at cn;have h1:=Asz w (.cells #[.slice A m.pts.length c,.slice B m.eds.length d,.slice F m.nf g] 35);have h2':=Asz (w.alloc (.cells #[.slice A m.pts.length c,.slice B m.eds.length d,.slice F m.nf g] 35)) (.cells #[.slice none 0 0,.slice none 0 0,.slice none 0 0] 35);rw [As7]at h2';have e2:=(Ab.refl (w.alloc (.cells #[.slice A m.pts.length c,.slice B m.eds.length d,.slice F m.nf g] 35))).alloc (.cells #[.slice none 0 0,.slice none 0 0,.slice none 0 0] 35);have hM:=(e2.block _ (Asy h1)).trans h1;have hE:=((Ab.refl w).alloc (.cells #[.slice A m.pts.length c,.slice B m.eds.length d,.slice F m.nf g] 35)).trans e2;unfold AH at pc oc ⊢;have HN:=Asx BS;clear h0 h2 h3 h4 h5 h6 h7 F7 hck hgr Jq hF hA hB AW BS h1 e2;go_enter Tryz.func43,Tryz.ntmps43
 go_upto_region 1 with fail
 generalize (w.alloc (.cells #[.slice A m.pts.length c,.slice B m.eds.length d,.slice F m.nf g] 35)).alloc (.cells #[.slice none 0 0,.slice none 0 0,.slice none 0 0] 35)=V at *;obtain⟨bm,AB⟩:=Asw w.heap.size;have Cp:w.heap.size<=bm+1:=(by omega);rw [←AB]at hM h2' ⊢;clear AB;have k1:=Aa (o:=0) hM rfl;have k2:=Aa (o:=1) hM rfl;have k3:=Aa (o:=2) hM rfl;(go_wp2_with fail);(with_reducible refine(pc V hE).mono ?_);rintro e w1 ⟨rfl,hx1⟩;have X1:=hE.trans hx1;have CE:=(hx1.block _ (Asy hM)).trans hM;have hR1:=(hx1.block _ (Asy h2')).trans h2';clear k1 k2 k3 hM h2' pc;have k1:w1.cell? ⟨bm,0,none⟩=some (.slice A m.pts.length c):=Aa CE rfl;have k2:w1.cell? ⟨bm,1,none⟩=some (.slice B m.eds.length d):=Aa CE rfl;have k3:w1.cell? ⟨bm,2,none⟩=some (.slice F m.nf g):=Aa CE rfl;have X:Ab w1 w1:=Ab.refl w1;have SO:=fun (w':World) (h:Ab w1 w')=>(⟨h.cellS k1,h.cellS k2,h.cellS k3⟩:_/\_/\_)
 go_upto_region 4 with fail
 go_region_held3 (fun w'=>w'.cell? ⟨bm,0,none⟩=some (.slice A m.pts.length c)/\w'.cell? ⟨bm,1,none⟩=some (.slice B m.eds.length d)/\w'.cell? ⟨bm,2,none⟩=some (.slice F m.nf g))
  (first|exact SS|with_reducible exact SO _ X.drew|with_reducible exact SO _ X)
  (first
   | ((with_reducible refine(cn w1.drew w2 (X1.trans (Ab.refl w1).drew) xo r b1 b2 E Ci).mono ?_);rintro e w3 ⟨A3,B3,F3,c3,d3,g3,rfl,y1,y2,y3,y4,y5,xc⟩;replace X:Ab w1 w3:=X.trans xc;have AE:=(X.block _ (Asy hR1)).trans hR1;have g0:=Aa (o:=0) AE rfl;have g1:=Aa (o:=1) AE rfl;have g2:=Aa (o:=2) AE rfl;have Jb:=Ah (o:=0) AE;have g4:=Ah (o:=1) AE;have g5:=Ah (o:=2) AE;have SS:=(⟨(GF (show bm≠bm+1 by omega) (.slice A3 (KG m).length c3) (.slice B3 (Dx m fa).ed.length d3) (.slice F3 (Dx m fa).fa.length g3) 0).trans (X.cellS k1),(GF (show bm≠bm+1 by omega) (.slice A3 (KG m).length c3) (.slice B3 (Dx m fa).ed.length d3) (.slice F3 (Dx m fa).fa.length g3) 1).trans (X.cellS k2),(GF (show bm≠bm+1 by omega) (.slice A3 (KG m).length c3) (.slice B3 (Dx m fa).ed.length d3) (.slice F3 (Dx m fa).fa.length g3) 2).trans (X.cellS k3)⟩:_/\_/\_);unfold AH)
   | ((with_reducible refine(oc _ (X1.trans X.drew)).mono ?_);rintro e w2 ⟨r,b1,b2,E,rfl,xo,Ci⟩;replace X:Ab w1 w2:=X.drew.trans xo))
 have bb:=(((Ak.refl (fun q=>q=bm+1) w3).setCell (p:=⟨bm+1,0,none⟩) (.inl rfl) (.slice A3 (KG m).length c3)).setCell (p:=⟨bm+1,1,none⟩) (.inl rfl) (.slice B3 (Dx m fa).ed.length d3)).setCell (p:=⟨bm+1,2,none⟩) (.inl rfl) (.slice F3 (Dx m fa).fa.length g3);have fA:=FI y2 bb AE (fun j hj=>by obtain⟨s,h⟩:=OS hj;rw [h];simp);have fB:=FI y3 bb AE (fun j hj=>by obtain⟨s,h⟩:=Nx hj;rw [h];simp);have fF:=FI y4 bb AE (fun j hj=>by rw [List.getElem_map];simp);have AA:=Dd (.slice A3 (KG m).length c3) (.slice B3 (Dx m fa).ed.length d3) (.slice F3 (Dx m fa).fa.length g3) AE;have t1:=Aa (o:=0) AA rfl;have t2:=Aa (o:=1) AA rfl;have t3:=Aa (o:=2) AA rfl;have Hu:=(((X1.trans X).setCell (p:=⟨bm+1,0,none⟩) Cp (.slice A3 (KG m).length c3)).setCell (p:=⟨bm+1,1,none⟩) Cp (.slice B3 (Dx m fa).ed.length d3)).setCell (p:=⟨bm+1,2,none⟩) Cp (.slice F3 (Dx m fa).fa.length g3);have Bf:=Asx (And.intro y1 (And.intro fA (And.intro fB (And.intro fF (And.intro y5 Hu)))));clear fA fB fF Hu bb y1 y2 y3 y4 y5 SS SO;go_wp2;refine bodyPost_ret (v:=.tuple #[.agg #[.slice A3 (KG m).length c3,.slice B3 (Dx m fa).ed.length d3,.slice F3 (Dx m fa).fa.length g3],.int .i64 0]) (by simp [results,Tryz.results43,go_sem,t1,t2,t3]) rfl ?_;exact⟨A3,B3,F3,c3,d3,g3,rfl,Bf.out.1,Bf.out.2.1,Bf.out.2.2.1,Bf.out.2.2.2.1,rfl,Bf.out.2.2.2.2.2⟩
end Go.Proofs.YtnddllipjippnaaGreatDoor
