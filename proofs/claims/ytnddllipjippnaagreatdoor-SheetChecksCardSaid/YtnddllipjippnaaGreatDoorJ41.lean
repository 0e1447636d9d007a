/- J41: BV BX BY KA3. -/
import Derived.Test.YtnddllipjippnaaGreatDoorJ40
import Derived.Test.YtnddllipjippnaaGreatDoorJ39
set_option maxRecDepth 100000
set_option maxHeartbeats 16000000
namespace Go.Proofs.YtnddllipjippnaaGreatDoor
open Go.RowKit Kl Go.Shelf
def lookO(s:Sg)(L:List (Sg×Int)):Option Int:=(L.find? (fun e=>Be s e.1)).map (·.2)
theorem Akf{α:Type}{enc:α→Value}{same:α→α→Bool}{mt kt et:TypeId}{z:Value}(K:JM mt kt et z enc same)(k:α)(l:List (α×Value×Nat)){b clock:Nat}{W:World}(hb:W.heap[b]?=some (.map (AN enc l).toArray clock)) :
  (Instr.lookup mt (.map (some b)) (enc k) true).run Tryz.prog W=.ok (.tuple #[FI same z k l,.bool (l.find? (fun e=>same k e.1)).isSome]) W:=by
 have hf:=S4 K k l W;rw [jl]at hf;unfold FI
 cases h:l.find? (fun e=>same k e.1)with
 | none=>
  rw [h]at hf
  have hf':(Instr.findKey kt (enc k) (AN enc l)).run Tryz.prog W=.ok none W:=by rw [hf];cases FH same k l<;>rfl
  simp [Instr.lookup,run_underlying K.map,MapKept.run_getObj_map hb,K.chk,hf',K.zero,Result.andThen]
 | some e=>
  have hi:(FH same k l).isSome:=by unfold FH;rw [List.findIdx?_isSome,List.any_eq_true];exact⟨e,List.mem_of_find?_eq_some h,(by have:=List.find?_some h;exact this)⟩
  obtain⟨j,hj⟩:=Option.isSome_iff_exists.1 hi;rw [h,hj]at hf;simp only [Option.bind_some,Option.map_some]at hf;simp [Instr.lookup,run_underlying K.map,MapKept.run_getObj_map hb,K.chk,hf,Result.andThen]
theorem Alh(s:Sg)(L:List (Sg×Int)):((stamp L).find? (fun e=>Be s e.1)).isSome=(lookO s L).isSome:=by
 unfold lookO;rw [Option.isSome_map,Bool.eq_iff_iff,List.find?_isSome,List.find?_isSome];constructor
 ·rintro⟨x,hx,h⟩;obtain⟨e,he,h1⟩:=lV hx;exact⟨e,he,by rw [←h1];exact h⟩
 ·rintro⟨e,he,h⟩;obtain⟨i,hi,rfl⟩:=List.getElem_of_mem he;have hi':i<(stamp L).length:=(by rw [DK];exact hi);exact⟨(stamp L)[i],Ao8 hi',by rw [Yy];exact h⟩
theorem ru(s:Sg)(L:List (Sg×Int)){b:Nat}{W:World}(hb:W.heap[b]?=some (.map (AN AC (stamp L)).toArray L.length)) :
  (Instr.lookup 95 (.map (some b)) (AC s) true).run Tryz.prog W=.ok (.tuple #[.int .i64 ((lookO s L).getD 0),.bool (lookO s L).isSome]) W:=by
 rw [Akf XB s (stamp L) hb,ky,Alh]
 have:AS s L=(lookO s L).getD 0:=by
  unfold AS lookO
  cases L.find? (fun e=>Be s e.1)<;>rfl
 rw [this]
structure mL(P:List (List Pt×Bs)):Prop where
 so:oM P
 poly:∀e∈P,Oa e.1
 apart:∀(i k:Nat) (hi:i<P.length) (hk:k<i),(∀j,j<(P[k]'(by omega)).1.length→Mj P[i].1 (BK (P[k]'(by omega)).1 j)∨KE P[i].1 (BK (P[k]'(by omega)).1 j))/\∃j,j<(P[k]'(by omega)).1.length/\KE P[i].1 (BK (P[k]'(by omega)).1 j)
def Jc(L0:List (Sg×Int))(s:Sg):Option (Sg×Int×Int):=match lookO (Bh s) L0 with
 | none=>some (s,AS s L0,-1)
 | some u=>if AS s L0≠u/\Bq s.a s.b < 0 then some (s,AS s L0,u)else none
def EB(L0:List (Sg×Int))(ws:List Sg):List (Sg×Int×Int):=ws.filterMap (Jc L0)
theorem oZ{L0:List (Sg×Int)}{ws:List Sg}{k:Nat}(hk:k<ws.length):EB L0 (ws.take (k+1))=EB L0 (ws.take k)++(Jc L0 ws[k]).toList:=by
 unfold EB;rw [AoA hk,List.filterMap_append]
 congr 1
theorem Abp{L0:List (Sg×Int)}{ws:List Sg}{k:Nat}(hk:k<ws.length){x:Sg×Int×Int}(hx:Jc L0 ws[k]=some x):(EB L0 ws)[(EB L0 (ws.take k)).length]?=some x:=by
 have h1:EB L0 ws=EB L0 (ws.take (k+1))++EB L0 (ws.drop (k+1)):=by unfold EB;rw [←List.filterMap_append,List.take_append_drop]
 rw [h1,oZ hk,hx,List.append_assoc,List.getElem?_append_right (Ao7 _),Nat.sub_self]
 rfl
theorem kJ{B:Nat}{w w':World}{e:TypeId}{s n:Nat}{v:Value}{xs:List Value}{b1 b2:Nat}(h:w.ownsRow B e s v n xs)(hk:∀(k:Nat) (o:Obj),w.heap[k]?=some o→k≠b1→k≠b2→(∀cs,o≠.cells cs 24 (0,0))→w'.heap[k]?=some o)(hne:∀k,v.ownBlock=some k→k≠b1/\k≠b2)(he:e≠24):w'.ownsRow B e s v n xs:=by
 refine⟨h.1,?_⟩
 rcases h.2 with h'|⟨g,cap,cur,e1,e2,hgb,e4⟩
 ·exact .inl h'
 ·refine .inr ⟨g,cap,cur,e1,e2,hk g _ hgb ?_ ?_ (fun cs e=>he (Obj.cells.inj e).2.1),e4⟩
  ·exact(hne g (by rw [e1];rfl)).1
  ·exact(hne g (by rw [e1];rfl)).2
def RI(w w':World)(b1 b2:Nat):Prop:=∀(k:Nat) (o:Obj),w.heap[k]?=some o→k≠b1→k≠b2→(∀cs,o≠.cells cs 24 (0,0))→w'.heap[k]?=some o
theorem QC{a b d:World}{b1 b2:Nat}(h:RI a b b1 b2)(k:RI b d b1 b2):RI a d b1 b2:=fun i o h1 h2 h3 h4=>k i o (h i o h1 h2 h3 h4) h2 h3 h4
theorem XA{a b:World}{b1 b2:Nat}(hx:Ab a b):RI a b b1 b2:=fun _ _ h _ _ _=>(hx.block _ (Ao5 h)).trans h
structure NQ(P:List (List Pt×Bs))(n k bg bs:Nat)(gl:List Int)(ul:List Bs)(W:World):Prop where
 lg:gl.length=n
 lu:ul.length=n
 g:∀j,j<k→gl[j]?=some (j:Int)
 u:∀j,j<k→ul[j]?=some (P.getD j ([],[])).2
 og:W.ownsRow 0 3 1 (.slice (some ⟨bg,0,none⟩) n n) n (zs gl)
 os:W.ownsRow 0 9 1 (.slice (some ⟨bs,0,none⟩) n n) n (ul.map S)
theorem NQ.step{P:List (List Pt×Bs)}{n k bg bs:Nat}{gl:List Int}{ul:List Bs}{W:World}(h:NQ P n k bg bs gl ul W)(hk:k<n)(hne:bg≠bs) :
  NQ P n (k+1) bg bs (gl.set k (k:Int)) (ul.set k (P.getD k ([],[])).2) ((W.setCell ⟨bg,k,none⟩ (.int .i64 (k:Nat))).setCell ⟨bs,k,none⟩ (S (P.getD k ([],[])).2)):=by
 have g1:=(h.og.stored k (.int .i64 (k:Nat))).1;have g2:=ownsRow_setCell_other (a:=⟨bs,k,none⟩) g1 (by simp only [Value.ownBlock,ne_eq,AoB];exact hne) (S (P.getD k ([],[])).2);have u1:=ownsRow_setCell_other (a:=⟨bg,k,none⟩) h.os (by simp only [Value.ownBlock,ne_eq,AoB];exact fun e=>hne e.symm) (.int .i64 (k:Nat));have u2:=(u1.stored k (S (P.getD k ([],[])).2)).1;refine⟨by rw [List.length_set];exact h.lg,by rw [List.length_set];exact h.lu,fun j hj=>?_,fun j hj=>?_,by rw [←Amk];exact g2,by rw [List.map_set];exact u2⟩
 ·by_cases e:j=k
  ·subst e;rw [List.getElem?_set_self (by rw [h.lg];exact hk)]
  ·rw [List.getElem?_set_ne (fun e'=>e e'.symm)];exact h.g j (by omega)
 ·by_cases e:j=k
  ·subst e;rw [List.getElem?_set_self (by rw [h.lu];exact hk)]
  ·rw [List.getElem?_set_ne (fun e'=>e e'.symm)];exact h.u j (by omega)
theorem BD.base{B B':Nat}{W:World}{r b1 b2:Nat}{L:List (Sg×Int)}{E:List (Pt×Value×Nat)}{R:List (Pt×List Pt)}(h:BD B W r b1 b2 L E R)(e:B=B'):BD B' W r b1 b2 L E R:=e▸h
structure oH(pts:List Pt)(eds:List EdZ)(n:Nat)(R1:List (Pt×List Pt)):Prop where
 eo:NP pts eds
 le:eds.length<=1000
 wo:P9 ((AH pts eds).map (·.1))
 gr:∀s∈(AH pts eds).map (·.1),IZ s
 lf:∀x∈AH pts eds,-1<=x.2/\x.2<(n:Int)
 r1:R1=(BN pts eds).map (fun e=>(e.1,Dh e.1 e.2))
 op:(KX (AH pts eds) n (Hz ((AH pts eds).map (·.1)) R1) (K8 ((AH pts eds).map (·.1)) (Hz ((AH pts eds).map (·.1)) R1))).op=false
 hz:∀e∈R1,Az 200 e.1/\∀p∈e.2,Az 200 p
 ln:R1.length<=400
 rl:∀e∈R1,e.2.length<100000
 nd:(R1.map (·.1)).Nodup
 no:∀e∈R1,∀p q,e.2 = [p,q]→AZ (Ar p e.1 q)≠0
 sz:∀e∈AH pts eds,EP 200 e.1
 bk:∀e∈AH pts eds,∃e'∈AH pts eds,e'.1=Bh e.1
theorem Ol{l:List EdZ}{j:Nat}(hj:j<(A9 l).length):∃z,(A9 l)[j]=.int .i64 z:=by
 have:=Ao8 hj;unfold A9 at this;rw [List.mem_flatMap]at this;obtain⟨p,_,h⟩:=this;simp only [List.mem_cons,AoI,or_false]at h
 rcases h with h|h|h|h<;>exact⟨_,h⟩
theorem Fl{w w':World}{A:Option Addr}{l:List Value}{b:Nat}{a0 a1 a2:Value}{t:TypeId}(h:Af w A l)(hb:AD (fun q=>q=b) w w')(hm:w.heap[b]?=some (.cells #[a0,a1,a2] t))(hne:∀(j:Nat) (hj:j<l.length),l[j]≠a0/\l[j]≠a1/\l[j]≠a2):Af w' A l:=by
 refine⟨fun h0=>?_⟩;obtain⟨g,o,e,hc⟩:=h.ad h0;refine⟨g,o,e,fun j hj=>?_⟩;have h1:=hc j hj;refine(World.cell?_of_block (a:=⟨g,o+j,none⟩) (hb.block g (World.block_lt_of_cell? w _ h1) (fun e'=>?_))).trans h1;subst e';have h2:=Acn hm h1;obtain⟨n1,n2,n3⟩:=hne j hj
 match hn:o+j with
 | 0=>rw [hn]at h2;exact n1 (by simpa using h2.symm)
 | 1=>rw [hn]at h2;exact n2 (by simpa using h2.symm)
 | 2=>rw [hn]at h2;exact n3 (by simpa using h2.symm)
 | n+3=>rw [hn]at h2;simp at h2
def Mr(w:World)(m:MapZ)(Ay:List Bs)(e:Ending)(w':World):Prop:=
 ∃A Bk F c d g,e=.returned (.tuple #[AO A Bk F m c d g,.int .i64 0])/\CY m c d g/\Af w' A (flat (Aq m.pts))/\Af w' Bk (A9 m.eds)/\Af w' F (Ay.map S)/\m.nf=Ay.length/\Ab w w'
theorem Acp(P:List (List Pt×Bs))(hP:mL P)(Gc:0<P.length)(OR:∀e∈BR P P.length,0<=e.2/\e.2<(P.length:Int)/\∀z,lookO (Bh e.1) (BR P P.length)=some z→0<=z/\z<(P.length:Int)/\(P.getD e.2.toNat ([],[])).2≠(P.getD z.toNat ([],[])).2)(J4:∀e∈BR P P.length,EP 200 e.1)(EH:(BR P P.length).length<=10000){EK:List Pt}{Dc:List EdZ}(hadd:EB (BR P P.length) (BO ((BR P P.length).map (·.1)))=Dc.map (fun e=>(Bv EK e,e.l,e.r))){R1:List (Pt×List Pt)}(If:oH EK Dc P.length R1){pts:List Pt}(OM:pts=Fo (R1.map (·.1))){st:G9}(hst:st=I1 (P.map (·.2)) (Ci pts) (AH EK Dc) (BO ((AH EK Dc).map (·.1))))(A:Option Addr)(c:Nat)(w:World)(hw:Am w)(h:NZ w A c P) :
  Calls Tryz.prog 44 #[.slice A P.length c] w (Mr w ⟨pts,st.ed,st.fa.length⟩ st.fa):=by
 have hmm:=@run_makeMap Tryz.prog;have hlen:P.length<=1000:=hP.so.len;have hc1:=h.c1;have hc2:=h.c2;have HP:=Ao4 hP;have HA:=Ao4 h;obtain⟨n,hn⟩:=Ao3 P.length;rw [←hn]at hlen hc1 Gc OR J4 EH hadd If ⊢;have xy:=Ao4 hadd;have HNI:=Ao4 If;have UY:=Ao4 If.eo;have Va:=Ao4 OM;have HST:=Ao4 hst;have hel:=If.le;have JK:=Ao4 EH;have Ze:=Ao4 OR;have Is:=Ao4 J4;have HN:=Ao4 hn;have E1:=(Ab.refl w).alloc (.cells #[.slice none 0 0,.slice none 0 0,.slice none 0 0] 35);have hbr:=Ao6 w (.cells #[.slice none 0 0,.slice none 0 0,.slice none 0 0] 35);clear hP h hn OR J4 EH hadd If OM hst;go_enter Tryz.func44,Tryz.ntmps44
 go_upto_region 4 with fail
 generalize w.alloc (.cells #[.slice none 0 0,.slice none 0 0,.slice none 0 0] 35)=W1 at *;have hl0:(0:Int)<=(n:Int):=by omega
 go_loopw [39] (fun iv wr=>∃k:Nat,iv=.int .i64 (k:Nat)/\k<=n/\Ab W1 wr) (fun iv _=>n-(intOf iv).toNat)
 case atStart=>exact⟨0,rfl,by omega,Ab.refl _⟩
 case round=>
  obtain⟨k,rfl,hk,hX⟩:=hrel;by_cases hkn:k<n
  ·have Qo:k<P.length:=(by rw [←HN.out];exact hkn);obtain⟨bA,oA,A',c',rfl,AY,Bl,BH,Bf,hr1,hr2⟩:=HA.out.row k Qo;have Cw:=E1.trans hX;replace AY:=Cw.cellS AY;replace Bl:=Cw.cellS Bl;replace BH:=Cw.cellS BH;have hk0:(0:Int)<=(k:Int):=(by omega);have DX:(k:Int)<(n:Int):=(by omega);have J1:=HP.out.poly _ (Ao8 Qo);have hsz:=HP.out.so.sz _ (Ao8 Qo);obtain⟨pg,Ha⟩:=Ao3 (P[k].1);obtain⟨un,AM⟩:=Ao3 (P[k].2);rw [←Ha]at AY Bf hr1 J1 hsz;rw [←AM]at Bl;have EA:=(Ab.refl wr).alloc (.cells #[.slice A' pg.length c',S un,.slice none 0 0] 84);have Av:=Ao6 wr (.cells #[.slice A' pg.length c',S un,.slice none 0 0] 84);have ck:=kR pg J1 hsz (by omega) (by omega) A' c' _ (hw.ext (Cw.trans EA)) (Bf.ext (Cw.trans EA)) hr1 hr2;have y0:=Aa (o:=0) Av rfl;clear Ha AM J1 hsz;(go_wp2_with fail);(with_reducible refine ck.mono ?_);rintro e w2 ⟨rfl,hx2⟩;go_wp2;go_roundw
   case rel=>exact⟨k+1,by go_num,hkn,(hX.trans EA).trans hx2⟩
   case measure=>simp [intOf];omega
  ·have CO:k=n:=(by omega);subst CO;have hd:decide (k<k)=false:=(by simp);have C2:decide ((k:Int)<(k:Int))=false:=by simp
   go_upto_region 11 with fail
   obtain⟨W2,rfl⟩:=jN hX;have CW:=E1.trans hX;have hR2:=(hX.block _ (Ao5 hbr)).trans hbr;clear hX hd C2 E1 hbr
   go_loopw [53] (fun iv wr=>∃i:Nat,iv=.int .i64 (i:Nat)/\i<=k/\Ab W2 wr) (fun iv _=>k-(intOf iv).toNat)
   case atStart=>exact⟨0,rfl,by omega,Ab.refl _⟩
   case round=>
    obtain⟨i,rfl,hi,hX⟩:=hrel;have Cw:=CW.trans hX;by_cases hin:i<k
    ·have Np:i<P.length:=(by rw [←HN.out];exact hin);obtain⟨bA,oA,A',c',rfl,AY,Bl,BH,Bf,hr1,hr2⟩:=HA.out.row i Np;replace AY:=Cw.cellS AY;replace Bl:=Cw.cellS Bl;replace BH:=Cw.cellS BH;have Kh:(0:Int)<=(i:Int):=(by omega);have OF:(i:Int)<(k:Int):=(by omega);have J1:=HP.out.poly _ (Ao8 Np);have hsz:=HP.out.so.sz _ (Ao8 Np);have hap:=fun q (hq:q<i)=>HP.out.apart i q Np hq;obtain⟨pg,Ha⟩:=Ao3 (P[i].1);obtain⟨un,AM⟩:=Ao3 (P[i].2);rw [←Ha]at AY Bf hr1 J1 hsz hap;rw [←AM]at Bl;have EA:=(Ab.refl wr).alloc (.cells #[.slice A' pg.length c',S un,.slice none 0 0] 84);have Av:=Ao6 wr (.cells #[.slice A' pg.length c',S un,.slice none 0 0] 84);have ya:=Ao4 hap;clear Ha AM hap
     go_upto_region 14 with fail
     unfold S at Av EA;generalize wr.alloc (.cells #[.slice A' pg.length c',.string ⟨un.toArray⟩,.slice none 0 0] 84)=W3 at *;obtain⟨b8,Gt⟩:=Ao3 wr.heap.size;rw [←Gt]at Av ⊢;clear Gt AY Bl BH;have C5:=hX.trans EA;have C0:=CW.trans C5;have y0:=Aa (o:=0) Av rfl;clear EA hX Av
     go_loopw [62] (fun jv wj=>∃j:Nat,jv=.int .i64 (j:Nat)/\j<=i/\Ab W3 wj) (fun jv _=>i-(intOf jv).toNat)
     case atStart=>exact⟨0,rfl,by omega,Ab.refl _⟩
     case round=>
      obtain⟨j,rfl,hj,Qe⟩:=hrel;have Qf:=C0.trans Qe;by_cases GV:j<i
      ·have ID:j<P.length:=(by omega);obtain⟨bB,oB,B',d',he,AY,Bl,BH,fg,hs1,hs2⟩:=HA.out.row j ID;simp only [AoB,Addr.mk.injEq,and_true]at he;obtain⟨rfl,rfl⟩:=he;replace AY:=Qf.cellS AY;replace Bl:=Qf.cellS Bl;replace BH:=Qf.cellS BH;have hj0:(0:Int)<=(j:Int):=(by omega);have Nr:(j:Int)<(i:Int):=(by omega);obtain⟨Zu,Zv⟩:=ya.out j GV;have fS:=HP.out.poly _ (Ao8 ID);have OP:=HP.out.so.sz _ (Ao8 ID);obtain⟨qg,dl⟩:=Ao3 (P[j].1);obtain⟨un,AM⟩:=Ao3 (P[j].2);rw [←dl]at AY fg hs1 fS OP Zu Zv;rw [←AM]at Bl;have EA:=(Ab.refl wr).alloc (.cells #[.slice B' qg.length d',S un,.slice none 0 0] 84);have Av:=Ao6 wr (.cells #[.slice B' qg.length d',S un,.slice none 0 0] 84);have it:=Ahe pg qg J1 fS hsz OP Zu Zv A' B' c' d' _ (hw.ext (Qf.trans EA)) (Bf.ext (Qf.trans EA)) (fg.ext (Qf.trans EA)) hr1 hr2 hs1 hs2;have z0:=Aa (o:=0) Av rfl;have z1:=EA.cellS (Qe.cellS y0);clear dl AM Zu Zv fS OP;(go_wp2_with fail);(with_reducible refine it.mono ?_);rintro e w2 ⟨rfl,hx2⟩;go_wp2;go_roundw
       case rel=>exact⟨j+1,by go_num,GV,(Qe.trans EA).trans hx2⟩
       case measure=>simp [intOf];omega
      ·have Kj:j=i:=(by omega);subst Kj;go_wp2;go_roundw
       case rel=>exact⟨j+1,by go_num,hin,C5.trans Qe⟩
       case measure=>simp [intOf];omega
    ·have LC:i=k:=(by omega);subst LC;have hd:decide (i<i)=false:=(by simp);have C2:decide ((i:Int)<(i:Int))=false:=(by simp);have ps:=fun (V:World) (hV:Ab w V)=>Ajs P HP.out.so A c V (hw.ext hV) (HA.out.ext hV);rw [←HN.out]at ps;have p1:=ps wr Cw;(go_wp2_with fail);(with_reducible refine p1.mono ?_);rintro e w4 ⟨bl,rfl,hML,hbl,Ag⟩;have I7:=Cw.trans Ag;have AmR:w.heap.size<=bl:=(by have:=Cw.size;omega);have Wm:=((hX.trans Ag).block _ (Ao5 hR2)).trans hR2;clear ps p1 hR2 CW hX Ag Cw hd C2;have mki:=lw i (by omega) (i:Int) rfl w4;have E5:=(Ab.refl w4).alloc (.cells (madeCells #[.int .i64 0] i) 3);have mks:=AhX i (by omega) (i:Int) rfl (w4.alloc (.cells (madeCells #[.int .i64 0] i) 3))
     go_upto_region 25 with fail
     have og:=od w4 0 i (Nat.zero_le _) (by omega);have os:=AiN (w4.alloc (.cells (madeCells #[.int .i64 0] i) 3)) 0 i (Nat.zero_le _) (by omega);rw [AoE]at os;have E6:=E5.alloc (.cells (madeCells #[S []] i) 9);have jY:=AL og ((Ab.refl (w4.alloc (.cells (madeCells #[.int .i64 0] i) 3))).alloc (.cells (madeCells #[S []] i) 9));have Gb:=hML.ext E6;have MX:=(E6.block _ (Ao5 Wm)).trans Wm;have Nf:=I7.trans E6;have fq:((w4.alloc (.cells (madeCells #[.int .i64 0] i) 3)).alloc (.cells (madeCells #[S []] i) 9)).heap.size=w4.heap.size+2:=(by simp only [AoE]);obtain⟨bg,hbg⟩:=Ao3 w4.heap.size;rw [←hbg]at jY os fq ⊢;have AeV:=Ao5 hML;have hRl:=Ao5 Wm;generalize (w4.alloc (.cells (madeCells #[.int .i64 0] i) 3)).alloc (.cells (madeCells #[S []] i) 9)=W6 at *;have vF:NQ P i 0 bg (bg+1) (zn (List.replicate i 0)) (List.replicate i []) W6:=⟨by simp [zn],by simp,fun j hj=>by omega,fun j hj=>by omega,jY,os⟩;have AmN:w.heap.size<bg:=(by omega);have AmP:bl<bg:=(by omega);clear mki mks og os jY E5 E6 hML Wm I7 hbg fq AeV hRl hbl
     go_loopw [89] (fun kv wk=>∃(k:Nat) (gl:List Int) (ul:List Bs),kv=.int .i64 (k:Nat)/\k<=i/\NQ P i k bg (bg+1) gl ul wk/\AD (fun q=>q=bg∨q=bg+1) W6 wk) (fun kv _=>i-(intOf kv).toNat)
     case atStart=>exact⟨0,_,_,rfl,by omega,vF,AD.refl _ _⟩
     case round=>
      obtain⟨k,gl,ul,rfl,hk,hG,hB⟩:=hrel;have Cw:Ab w wr:=hB.toExt Nf (fun q e=>by rcases e with e|e<;>omega);by_cases hkn:k<i
      ·have Qo:k<P.length:=(by rw [←HN.out];exact hkn);obtain⟨bA,oA,A',c',rfl,AY,Bl,BH,Bf,hr1,hr2⟩:=HA.out.row k Qo;replace AY:=Cw.cellS AY;replace Bl:=Cw.cellS Bl;replace BH:=Cw.cellS BH;have hk0:(0:Int)<=(k:Int):=(by omega);have DX:(k:Int)<(i:Int):=(by omega);obtain⟨pg,Ha⟩:=Ao3 (P[k].1);obtain⟨un,AM⟩:=Ao3 (P[k].2);have hgd:(P.getD k ([],[])).2=un:=(by rw [AM];simp [List.getD_eq_getElem?_getD,AoC Qo]);rw [←Ha]at AY;rw [←AM]at Bl;have EA:=(Ab.refl wr).alloc (.cells #[.slice A' pg.length c',S un,.slice none 0 0] 84);have Av:=Ao6 wr (.cells #[.slice A' pg.length c',S un,.slice none 0 0] 84);have Oz:NQ P i k bg (bg+1) gl ul (wr.alloc (.cells #[.slice A' pg.length c',S un,.slice none 0 0] 84)):=⟨hG.lg,hG.lu,hG.g,hG.u,AL hG.og EA,AL hG.os EA⟩;have CM:=hB.ext EA;clear Ha AM
       go_upto_region 27 with fail
       unfold S at Av EA Oz CM;generalize wr.alloc (.cells #[.slice A' pg.length c',.string ⟨un.toArray⟩,.slice none 0 0] 84)=W3 at *;obtain⟨b8,Gt⟩:=Ao3 wr.heap.size;rw [←Gt]at Av ⊢
       have AmL:bg+1<b8:=by obtain⟨cu,dT⟩:=jU hG.os;have:=Ao5 dT;omega
       have y1:=Aa (o:=1) Av rfl;have Dt:∃z,gl[k]?=some z:=⟨_,AoC (by rw [hG.lg];exact hkn)⟩;have Xs:∃z,ul[k]?=some z:=⟨_,AoC (by rw [hG.lu];exact hkn)⟩;obtain⟨zg,Dt⟩:=Dt;obtain⟨zu,Xs⟩:=Xs;have c1:W3.cell? ⟨bg,k,none⟩=some (.int .i64 zg):=(by rw [Oz.og.cellAt k (by omega)];simp [zs,Dt]);have c2:W3.cell? ⟨bg+1,k,none⟩=some (S zu):=(by rw [Oz.os.cellAt k (by omega)];simp [Xs]);have f1:=Oz.og.frozenAt k;have f2:=Oz.os.frozenAt k;have GM:=Oz.step hkn (by omega);rw [hgd]at GM;have Pq:=Ao4 GM;have yg:=Ao4 CM;unfold S at y1 c2;have fE:bg≠bg+1:=(by omega);have G1:b8≠bg:=(by omega);have An6:b8≠bg+1:=(by omega);clear Gt Oz GM CM hG hB Dt Xs hgd AY Bl BH EA Av Cw
       go_region
       go_wp2;go_roundw
       case rel=>exact⟨k+1,_,_,by go_num,hkn,⟨Pq.out.lg,Pq.out.lu,Pq.out.g,Pq.out.u,AL Pq.out.og (Ab.refl _).drew,AL Pq.out.os (Ab.refl _).drew⟩,((yg.out.setCell (p:=⟨bg,k,none⟩) (.inl (.inl rfl)) _).setCell (p:=⟨bg+1,k,none⟩) (.inl (.inr rfl)) _).ext (Ab.refl _).drew⟩
       case measure=>simp [intOf];omega
      ·have CO:k=i:=(by omega);subst CO;have hd:decide (k<k)=false:=(by simp);have C2:decide ((k:Int)<(k:Int))=false:=(by simp);have DV:EO wr bl (BR P k):=(hB.block _ (Ao5 Gb) (fun e=>by rcases e with e|e<;>omega)).trans Gb;have bX:=(hB.block _ (Ao5 MX) (fun e=>by rcases e with e|e<;>omega)).trans MX;clear hB Gb MX Nf vF;obtain⟨L0,bG⟩:=Ao3 (BR P k);rw [←bG]at DV;unfold EO at DV;have hrg:=Da.range (enc:=AC) (E:=stamp L0) (t:=95) Tryz.underlying95 (W:=wr) (b:=bl) (by rw [DK];exact DV);obtain⟨hr1,hr2⟩:=hrg;have E8:=(Ab.refl wr).alloc (.mapIter (some bl) (stamp L0).length #[] (stamp L0).length);have SU:=(E8.block _ (Ao5 DV)).trans DV;have dB:=Cw.trans E8;have bY:=(E8.block _ (Ao5 bX)).trans bX;have MR:NQ P k k bg (bg+1) gl ul (wr.alloc (.mapIter (some bl) (stamp L0).length #[] (stamp L0).length)):=⟨hG.lg,hG.lu,hG.g,hG.u,AL hG.og E8,AL hG.os E8⟩;have AeW:=Ao5 DV;obtain⟨cu7,yK⟩:=jU hG.os;have Afy:=Ao5 yK;have IX:=Ao4 bG;clear bG hG bX Cw E8 hd C2
       go_upto_region 30 with fail
       clear hr1 DV;obtain⟨bt,Gu⟩:=Ao3 wr.heap.size;rw [←Gu]at hr2 ⊢;generalize wr.alloc (.mapIter (some bl) (stamp L0).length #[] (stamp L0).length)=W8 at *;have AmQ:bl<bt:=(by omega);have Fb:bg+1<bt:=(by omega);clear Gu AeW yK Afy
       go_loopw [106] (fun v wx=>v=v/\∃seen,Da wx bt bl (stamp L0) seen/\AD (fun q=>q=bt) W8 wx) (fun _ wx=>L0.length-(wx.iterSeen bt).size)
       case atStart=>exact⟨rfl,[],hr2,AD.refl _ _⟩
       case round=>
        obtain⟨-,seen,hI,hB⟩:=hrel;have Jp:=(hB.block bl (Ao5 SU) (by omega)).trans SU;have dK:=Jp;rw [←DK]at dK;have I8:Ab w wr:=hB.toExt dB (fun q e=>by subst e;omega)
        rcases Da.next AC hI dK (lU L0) (by omega) 0 with⟨hlen,hrun⟩|⟨j,hj,GY,W9,PW,hG9,hs9,hrun,hen⟩
        ·have YQ:=Ao4 hlen
         obtain⟨m9,QQ⟩:wr.ownsRow 0 3 1 (.slice (some ⟨bg,0,none⟩) k k) k (zs gl)/\wr.ownsRow 0 9 1 (.slice (some ⟨bg+1,0,none⟩) k k) k (ul.map S):=
          ⟨Cg MR.og hB (fun q hq e=>by simp only [Value.ownBlock,AoB]at hq;omega),Cg MR.os hB (fun q hq e=>by simp only [Value.ownBlock,AoB]at hq;omega)⟩
         have Wo:=Ao5 bY;have MY:=(hB.block _ Wo (by omega)).trans bY;have HG:=Ao4 MR;have em:=sZ wr;have en:=@sY wr
         have eb:Ab wr (Om wr):=((Ab.refl wr).alloc _).alloc _ |>.alloc _
         clear hlen hB hI bY dB SU MR dK hr2
         go_upto_region 35 with fail
         clear hrun;generalize Om wr=V0 at *;obtain⟨wb,OS⟩:=Ao3 wr.heap.size;rw [←OS]at em en;have AnU:w.heap.size<=wb:=by have:=I8.size;omega
         have AmM:bg+1<wb:=by obtain⟨cu,dT⟩:=jU QQ;have:=Ao5 dT;omega
         have AmO:bl<wb:=(by have:=Ao5 Jp;omega);have hRb:w.heap.size<wb:=(by have:=Ao5 MY;omega);have Zg:=Ao4 OS;clear OS;(go_wp2_with fail);(with_reducible refine em.mono ?_);rintro e w10 ⟨rfl,hw10⟩;rw [hw10];clear hw10 em;have Td:=I8;have Nb:=I8.trans eb;have bH:=(eb.block _ (Ao5 Jp)).trans Jp;have kw:=fun W=>iY (some bl) W;have Mv:=(Ab.refl V0).alloc (.cells #[.map (some bl)] 95);have Cq:=Ao6 V0 (.cells #[.map (some bl)] 95);have SQ:=(Mv.block _ (Ao5 bH)).trans bH;have sk:=lP hw (Nb.trans Mv) V0.heap.size bl L0 (Ao5 Cq) (Aa Cq rfl) SQ (fun e he=>Is.out e (by rw [←IX.out];exact he)) (by have:=JK.out;rw [←IX.out]at this;omega);obtain⟨ws,OT⟩:=Ao3 (BO (L0.map (·.1)));have hwl:ws.length=L0.length:=(by rw [OT,(JD _).length_eq];simp);rw [←OT,←hwl]at sk;have AnX:ws.length<=10000:=(by have:=JK.out;rw [←IX.out]at this;omega);have M7:=Ao4 OT;clear OT hwl;(go_wp2_with fail);(with_reducible refine(kw _).mono ?_);rintro e w11 ⟨rfl,rfl⟩;(go_wp2_with fail);(with_reducible refine sk.mono ?_);rintro e Ex ⟨sv,rfl,hS12,hE12⟩;obtain⟨sA,sc,rfl,-,-,-⟩:=Af.of_own' (by omega) hS12;have UQ:=Mv.trans hE12;have AeM:=Nb.trans UQ;have Mw:=eb.trans UQ;have bL:=en.ext UQ;have m8:=AL m9 Mw;have nw:=AL QQ Mw;have vI:=(Mw.block _ (Ao5 Jp)).trans Jp;have vZ:=(Mw.block _ (Ao5 MY)).trans MY;have hVl:wb+3<=V0.heap.size:=(by have:=Ao5 en.cell;omega);have HQ:=Ao4 (And.intro Td (And.intro Mw (And.intro QQ MY)));clear kw sk Cq SQ bH Nb eb en Jp MY m9 QQ Mv hE12 UQ Mw I8 Td;have AnV:(0:Int)<=(ws.length:Int):=by omega
         go_upto_region 37 with fail
         have hadd:EB L0 ws=Dc.map (fun e=>(Bv EK e,e.l,e.r)):=(by rw [M7.out,IX.out];exact xy.out);have VW:wb<=Ex.heap.size:=(by have:=Ao5 bL.cell;omega);have Ct:wb<=wb+2:=(by omega);have YE:=Ao4 hadd
         have Zh:=Ao4 (show ∀s∈ws,∃e∈L0,e.1=s from fun s hs=>by
          rw [M7.out]at hs;obtain⟨e,he,h1⟩:=List.mem_map.1 ((JD _).mem_iff.1 hs)
          exact⟨e,he,h1⟩)
         clear hadd
         go_loopw [143] (fun kv wk=>∃(q j:Nat) (E:List (Pt×Value×Nat)),kv=.int .i64 (q:Nat)/\q<=ws.length/\j=(EB L0 (ws.take q)).length/\BD wb wk (wb+2) wb (wb+1) (AH EK (Dc.take j)) E (BN EK (Dc.take j))/\RI Ex wk wb (wb+1)/\Below wb Ex wk) (fun kv _=>ws.length-(intOf kv).toNat)
         case atStart=>exact⟨0,0,[],rfl,by omega,rfl,by simpa [AH,BN]using bL,fun _ _ h _ _ _=>h,Below.refl _ _⟩
         case round=>
          obtain⟨q,j,E,rfl,hq,hj,hN,hK,hBl⟩:=hrel;have MZ:=kJ hS12 hK (fun k hk=>by have:=(hS12.lt k hk).1;rw [AoE]at this;omega) (by decide);have nc:=kJ m8 hK (fun k hk=>by simp only [Value.ownBlock,AoB]at hk;omega) (by decide);have osr:=kJ nw hK (fun k hk=>by simp only [Value.ownBlock,AoB]at hk;omega) (by decide);have EX:=hK bl _ vI (by omega) (by omega) (fun cs e=>by cases e);have Qc:=hK _ _ vZ (by omega) (by omega) (fun cs e=>by simp only [Obj.cells.injEq]at e;exact absurd e.2.1 (by decide));have Cd:Ab w wr:=AeM.trans_below hBl (by omega);by_cases J2:q<ws.length
          ·obtain⟨b,o,rfl,f1,f2,f3,f4⟩:=K7 (NE (by omega) MZ) J2;obtain⟨e1,Ly,Lz⟩:=Zh.out _ (Ao8 J2);have gW:=Ze.out e1 (by rw [←IX.out];exact Ly);have hsz:=Is.out e1 (by rw [←IX.out];exact Ly);rw [←IX.out]at gW;obtain⟨e2,IC,hf2⟩:=XF (s:=ws[q]) (L:=L0) (by rw [←Lz];exact List.mem_map_of_mem Ly);have hfr:=Ze.out e2 (by rw [←IX.out];exact IC);rw [←hf2]at hfr;rw [Lz]at hsz;have gy:∀z,lookO (Bh ws[q]) L0=some z→0<=z/\z<(k:Int):=fun z hz=>(by have:=gW.2.2 z (by rw [Lz];exact hz);exact⟨this.1,this.2.1⟩);replace hfr:0<=AS ws[q] L0/\AS ws[q] L0<(k:Int):=⟨hfr.1,hfr.2.1⟩;clear gW;have IF:=oZ (L0:=L0) J2;have Fb:=fun x hx=>Abp (L0:=L0) (x:=x) J2 hx;rw [←hj]at Fb;obtain⟨s,hs⟩:=Ao3 (ws[q]);rw [←hs]at f1 f2 f3 f4 gy hsz hfr IF Fb;obtain⟨fi,DI⟩:∃fi:Nat,AS s L0=(fi:Int):=⟨(AS s L0).toNat,by omega⟩;have M6:=Ao4 IF;have Mz:=Ao4 Fb;have HJ:=Ao4 hj;have AY:(0:Int)<=(q:Int):=(by omega);have Bl:(q:Int)<(ws.length:Int):=(by omega);have EA:=(Ab.refl wr).alloc (.cells #[S (R s.a.x),S (R s.a.y),S (R s.b.x),S (R s.b.y)] 140);have Av:=Ao6 wr (.cells #[S (R s.a.x),S (R s.a.y),S (R s.b.x),S (R s.b.y)] 140);clear hs Lz Ly e1 IC hf2 IF Fb hj
           go_upto_region 39 with fail
           unfold S at Av EA;generalize wr.alloc (.cells #[.string ⟨(R s.a.x).toArray⟩,.string ⟨(R s.a.y).toArray⟩,.string ⟨(R s.b.x).toArray⟩,.string ⟨(R s.b.y).toArray⟩] 140)=V at *;obtain⟨bx,As⟩:=Ao3 wr.heap.size;rw [←As]at Av ⊢;clear As f1 f2 f3 f4;have y0:=Aa (o:=0) Av rfl;have y1:=Aa (o:=1) Av rfl;have y2:=Aa (o:=2) Av rfl;have y3:=Aa (o:=3) Av rfl;have bk1:=Vz s V;unfold AC S at bk1;(go_wp2_with fail);(with_reducible refine bk1.mono ?_);rintro e V2 ⟨rfl,Es⟩;have C5:=EA.trans Es;have O1:=(C5.block _ (Ao5 EX)).trans EX;have lk:=ru (Bh s) L0 (W:=V2) O1;have Ku:=NJ s L0 (W:=V2) O1;rw [DI]at Ku;have ogV:=AL nc C5;have Nj:=(Es.block _ (Ao5 Av)).trans Av;have z0:=Aa (o:=0) Nj rfl;have z1:=Aa (o:=1) Nj rfl;have z2:=Aa (o:=2) Nj rfl;have z3:=Aa (o:=3) Nj rfl;have hG:=HG.out;have D6:fi<k:=(by omega);unfold AC S at lk Ku;clear bk1 y0 y1 y2 y3 Av;have rt:=fun (x:Nat) (hx:x<k) (V3:World) (h3:Ab V2 V3)=>AjW (l:=gl) (k:=x) (c:=k) (by rw [hG.lg];exact hx) (by have:=hG.g x hx;rw [AoC (by rw [hG.lg];exact hx)]at this;exact Option.some.inj this) (NE (by omega) (AL ogV h3));rw [hG.lg]at rt
           cases hlo:lookO (Bh s) L0 with
           | none=>
            rw [hlo]at lk;simp only [Option.getD_none,Option.isSome_none]at lk;have Ia:Jc L0 s=some (s,(fi:Int),-1):=(by unfold Jc;rw [hlo,DI]);have OE:=Mz.out _ Ia;rw [YE.out,List.getElem?_map]at OE;obtain⟨e0,Ic,Tw⟩:=Option.map_eq_some_iff.1 OE;simp only [Prod.mk.injEq]at Tw;obtain⟨Gp,Jf,Le⟩:=Tw
            have Bc:j<Dc.length:=by
             rcases Nat.lt_or_ge j Dc.length with h|h
             ·exact h
             ·rw [List.getElem?_eq_none h]at Ic;cases Ic
            have Lx:Dc[j]=e0:=(by rw [AoC Bc]at Ic;exact Option.some.inj Ic);have Ep:=UY.out.keys Bc;have TM:=UY.out.ne _ (Ao8 Bc);rw [Lx,Gp]at Ep TM
            have SX:AH EK (Dc.take (j+1))=AH EK (Dc.take j) ++ [(s,(fi:Int)),(Bh s,-1)]:=by rw [AoA Bc,XN,Lx,Gp,Jf,Le]
            have SY:BN EK (Dc.take (j+1))=Dl (Dl (BN EK (Dc.take j)) s.a s.b) s.b s.a:=by rw [AoA Bc,XO,Lx,Gp]
            have hrl:=QL EK (Dc.take j);have hjn:j+1=(EB L0 (ws.take (q+1))).length:=(by rw [M6.out,List.length_append,←HJ.out,Ia];rfl);have YW:=Ao4 SX;have YX:=Ao4 SY;have JJ:=Ao4 hjn;clear hlo Ia OE Ic Lx Gp Jf Le SX SY hjn;have r1:=rt fi D6
            go_upto_region 43 with fail
            have r2:=r1 V2 (Ab.refl _);(go_wp2_with fail);(with_reducible refine r2.mono ?_);rintro e V3 ⟨rfl,hx13⟩;have GN:=hN.ext (C5.trans hx13);have AmJ:=Cd.trans (C5.trans hx13);have hb3:wb<=V3.heap.size:=(by have:=Ao5 GN.cell;omega);have ad:=Zt GN hb3 s (fi:Int) (-1) Ep.1 Ep.2 TM (fun e he=>by have:=hrl e he;rw [List.length_take]at this;omega);have hb4:=(hx13.block _ (Ao5 Nj)).trans Nj;have x0:=Aa (o:=0) hb4 rfl;have x1:=Aa (o:=1) hb4 rfl;have x2:=Aa (o:=2) hb4 rfl;have x3:=Aa (o:=3) hb4 rfl;have dX:¬((fi:Int) = -1):=(by omega);have hf2:((fi:Int) == -1)=false:=beq_false_of_ne dX;have hf3:((fi:Int) != -1)=true:=(by rw [bne,hf2];rfl);unfold AC S at ad;clear r1 r2 rt lk Ku z0 z1 z2 z3;(go_wp2_with fail);(with_reducible refine ad.mono ?_);rintro e V4 ⟨rfl,Ow,hK4,E4,H8⟩;rw [←YW.out,←YX.out]at H8;have bF:=QC hK (QC (XA (C5.trans hx13)) hK4);have aS:=hBl.trans ((Below.mono (C5.trans hx13) (by have:=hBl.size;omega)).trans Ow);clear ad x0 x1 x2 x3 GN;go_wp2;go_roundw
            case rel=>exact⟨q+1,j+1,E4,by go_num,J2,JJ.out,H8,bF,aS⟩
            case measure=>simp [intOf];omega
           | some u=>
            rw [hlo]at lk;simp only [Option.getD_some,Option.isSome_some]at lk;obtain⟨hu0,hu1⟩:=gy u hlo;obtain⟨ui,rfl⟩:∃ui:Nat,u=(ui:Int):=⟨u.toNat,by omega⟩;have Kq:ui<k:=(by omega);have r1:=rt ui Kq;have qu:=rt fi D6;have QU:=fun (V3:World) (h3:Ab w V3)=>IM s.a s.b hsz.a hsz.b (by omega) (by omega) V3 (hw.ext h3)
            go_upto_region 42 with fail
            have r2:=r1 V2 (Ab.refl _);(go_wp2_with fail);(with_reducible refine r2.mono ?_);rintro e V3 ⟨rfl,Ca⟩;have jF:=NJ s L0 (W:=V3) ((Ca.block _ (Ao5 O1)).trans O1);rw [DI]at jF;have w0:=Ca.cellS z0;have w1:=Ca.cellS z1;have w2:=Ca.cellS z2;have w3:=Ca.cellS z3;unfold AC S at jF;clear r2 r1 lk Ku z0 z1 z2 z3;have r3:=qu V3 Ca;(go_wp2_with fail);(with_reducible refine r3.mono ?_);rintro e V4 ⟨rfl,hx13⟩;have Tc:=C5.trans (Ca.trans hx13);have AeP:=Cd.trans Tc;have hb4:=((Ca.trans hx13).block _ (Ao5 Nj)).trans Nj;have x0:=Aa (o:=0) hb4 rfl;have x1:=Aa (o:=1) hb4 rfl;have x2:=Aa (o:=2) hb4 rfl;have x3:=Aa (o:=3) hb4 rfl;have hK4:=QC hK (XA Tc);have Ow:=hBl.trans (Below.mono Tc (by have:=hBl.size;omega));have H8:=hN.ext Tc;clear r3 qu rt jF w0 w1 w2 w3;by_cases yY:fi=ui
            ·subst yY;have Ia:Jc L0 s=none:=(by unfold Jc;rw [hlo,DI];simp);have hjn:j=(EB L0 (ws.take (q+1))).length:=(by rw [M6.out,List.length_append,←HJ.out,Ia];rfl);have JJ:=Ao4 hjn;clear Ia hjn hlo QU;go_wp2;go_roundw
             case rel=>exact⟨q+1,j,E,by go_num,J2,JJ.out,H8,hK4,Ow⟩
             case measure=>simp [intOf];omega
            ·have yZ:¬((fi:Int)=(ui:Int)):=(by omega);have hf2:((fi:Int) == (ui:Int))=false:=beq_false_of_ne yZ;have hf3:((fi:Int) != (ui:Int))=true:=(by rw [bne,hf2];rfl);have yU:(fi == ui)=false:=beq_false_of_ne yY;have p1:=QU V4 AeP;obtain⟨z,hz⟩:=Ao3 (Bq s.a s.b);rw [←hz]at p1;unfold Ak S at p1;clear QU;(go_wp2_with fail);(with_reducible refine p1.mono ?_);rintro e V5 ⟨rfl,Fg⟩;have AmH:=Tc.trans Fg;clear p1 x0 x1 x2 x3;by_cases N5:z<0
             ·have Ia:Jc L0 s=some (s,(fi:Int),(ui:Int)):=by unfold Jc;rw [hlo,DI];simp only;rw [if_pos ⟨yZ,by rw [←hz];exact N5⟩]
              have OE:=Mz.out _ Ia;rw [YE.out,List.getElem?_map]at OE;obtain⟨e0,Ic,Tw⟩:=Option.map_eq_some_iff.1 OE;simp only [Prod.mk.injEq]at Tw;obtain⟨Gp,Jf,Le⟩:=Tw
              have Bc:j<Dc.length:=by
               rcases Nat.lt_or_ge j Dc.length with h|h
               ·exact h
               ·rw [List.getElem?_eq_none h]at Ic;cases Ic
              have Lx:Dc[j]=e0:=(by rw [AoC Bc]at Ic;exact Option.some.inj Ic);have Ep:=UY.out.keys Bc;have TM:=UY.out.ne _ (Ao8 Bc);rw [Lx,Gp]at Ep TM
              have SX:AH EK (Dc.take (j+1))=AH EK (Dc.take j) ++ [(s,(fi:Int)),(Bh s,(ui:Int))]:=by rw [AoA Bc,XN,Lx,Gp,Jf,Le]
              have SY:BN EK (Dc.take (j+1))=Dl (Dl (BN EK (Dc.take j)) s.a s.b) s.b s.a:=by rw [AoA Bc,XO,Lx,Gp]
              have hrl:=QL EK (Dc.take j);have hjn:j+1=(EB L0 (ws.take (q+1))).length:=(by rw [M6.out,List.length_append,←HJ.out,Ia];rfl);have YW:=Ao4 SX;have YX:=Ao4 SY;have JJ:=Ao4 hjn;clear hlo Ia OE Ic Lx Gp Jf Le SX SY hjn hz;have O2:=H8.ext Fg;have hb5:wb<=V5.heap.size:=(by have:=Ao5 O2.cell;omega);have ad:=Zt O2 hb5 s (fi:Int) (ui:Int) Ep.1 Ep.2 TM (fun e he=>by have:=hrl e he;rw [List.length_take]at this;omega);have Bj:=(Fg.block _ (Ao5 hb4)).trans hb4;have x0:=Aa (o:=0) Bj rfl;have x1:=Aa (o:=1) Bj rfl;have x2:=Aa (o:=2) Bj rfl;have x3:=Aa (o:=3) Bj rfl;unfold AC S at ad;(go_wp2_with fail);(with_reducible refine ad.mono ?_);rintro e V6 ⟨rfl,hBl6,hK6,E6,Wj⟩;rw [←YW.out,←YX.out]at Wj;have hK7:=QC (QC hK4 (XA Fg)) hK6;have Aex:=(Ow.trans (Below.mono Fg (by have:=Ow.size;omega))).trans hBl6;clear ad x0 x1 x2 x3 O2;go_wp2;go_roundw
              case rel=>exact⟨q+1,j+1,E6,by go_num,J2,JJ.out,Wj,hK7,Aex⟩
              case measure=>simp [intOf];omega
             ·have Ia:Jc L0 s=none:=by unfold Jc;rw [hlo];simp only;rw [if_neg (fun h=>by rw [←hz]at h;exact N5 h.2)]
              have hjn:j=(EB L0 (ws.take (q+1))).length:=(by rw [M6.out,List.length_append,←HJ.out,Ia];rfl);have JJ:=Ao4 hjn;have bF:=QC hK4 (XA Fg);have aS:=Ow.trans (Below.mono Fg (by have:=Ow.size;omega));have O2:=H8.ext Fg;clear Ia hjn hlo hz;go_wp2;go_roundw
              case rel=>exact⟨q+1,j,E,by go_num,J2,JJ.out,O2,bF,aS⟩
              case measure=>simp [intOf];omega
          ·have hqe:q=ws.length:=(by omega);subst hqe;rw [List.take_length,YE.out,List.length_map]at hj;subst hj;rw [List.take_length]at hN;obtain⟨Td,Mw,QQ,MY⟩:=HQ.out;have GO:=HNI.out;have wR:=Mw.trans_below hBl (by rw [Zg.out];exact Ao7 _);have vR:=hN.base Zg.out;have ag:=pE (hw.ext Td) wR vR rfl (jQ EK Dc) GO.wo GO.gr (by rw [QM];omega) (fun e he=>by have:=QL EK Dc e he;omega) k (by omega) GO.lf GO.r1 rfl rfl;rw [GO.op]at ag;have hd:decide (ws.length<ws.length)=false:=(by simp);have C2:decide ((ws.length:Int)<(ws.length:Int))=false:=(by simp);clear MZ nc osr EX Qc hN hK hBl hS12 m8 nw vI vZ bL HQ
           go_upto_region 47 with fail
           (go_wp2_with fail);(with_reducible refine ag.mono ?_);rintro e w14 ⟨rfl,Fg,hN14⟩;have wP:=Td.trans Fg;have ny:=AL QQ Fg;have wA:=(Fg.block _ (Ao5 MY)).trans MY
           have Agu:ul=P.map (·.2):=by
            have hG:=HG.out;apply List.ext_getElem?;intro j
            rcases Nat.lt_or_ge j k with h|h
            ·rw [hG.u j h];have ID:j<P.length:=(by rw [←HN.out];exact h);simp [List.getD_eq_getElem?_getD,AoC ID]
            ·rw [List.getElem?_eq_none (by rw [hG.lu];exact h),List.getElem?_eq_none (by rw [List.length_map,←HN.out];exact h)]
           have gX:=HG.out.lu;have can:=qX (st:=st) (pts:=pts) hw wP hN14 GO.hz (by have:=GO.ln;omega) GO.rl GO.nd GO.no GO.sz (by rw [QM];omega) GO.bk (some ⟨bg+1,0,none⟩) k ul (NE (by omega) ny) (fun x hx=>by cases hx;have:=Fg.size;have:=Zg.out;show bg+1<_;omega) (by omega) (fun x hx=>by rw [gX];exact GO.lf x hx) Va.out rfl (by rw [Agu];exact HST.out);rw [gX]at can;have hpl:pts.length<=400:=(by rw [Va.out,(KF _).length_eq,List.length_map];exact GO.ln);clear ag ny hN14 vR wR Fg gX;(go_wp2_with fail);(with_reducible refine can.mono ?_);rintro e w15 ⟨pA,pB,pF,pc,pd,pg,rfl,hcaps,hA15,hB15,hF15,-,hx15⟩;unfold AO;have bV:=(hx15.block _ (Ao5 wA)).trans wA;have AeN:=wP.trans hx15;have Rw:=(Ab.refl w15).alloc (.cells #[.slice pA pts.length pc,.slice pB st.ed.length pd,.slice pF st.fa.length pg] 35);have Ti:=Ao6 w15 (.cells #[.slice pA pts.length pc,.slice pB st.ed.length pd,.slice pF st.fa.length pg] 35);have Ji:=(Rw.block _ (Ao5 bV)).trans bV;have AeO:=AeN.trans Rw;have gA:=hA15.ext Rw;have gB:=hB15.ext Rw;have gF:=hF15.ext Rw;have AnA:¬(400<(pts.length:Int)):=(by omega);have Ag2:=Ao5 bV
           go_upto_region 51 with fail
           generalize w15.alloc (.cells #[.slice pA pts.length pc,.slice pB st.ed.length pd,.slice pF st.fa.length pg] 35)=W16 at *;obtain⟨b32,xE⟩:=Ao3 w15.heap.size;rw [←xE]at Ti Ag2 ⊢;clear xE can;have m0:=Aa (o:=0) Ti rfl;have m1:=Aa (o:=1) Ti rfl;have m2:=Aa (o:=2) Ti rfl;have r0:=Aa (o:=0) Ji rfl;have r1:=Aa (o:=1) Ji rfl;have r2:=Aa (o:=2) Ji rfl;have r3:=Aj (o:=0) Ji;have r4:=Aj (o:=1) Ji;have r5:=Aj (o:=2) Ji;have Bd:=DT (.slice pA pts.length pc) (.slice pB st.ed.length pd) (.slice pF st.fa.length pg) Ji;have bb:=(((AD.refl (fun q=>q=w.heap.size) W16).setCell (p:=⟨w.heap.size,0,none⟩) (.inl rfl) (.slice pA pts.length pc)).setCell (p:=⟨w.heap.size,1,none⟩) (.inl rfl) (.slice pB st.ed.length pd)).setCell (p:=⟨w.heap.size,2,none⟩) (.inl rfl) (.slice pF st.fa.length pg);have t1:=Aa (o:=0) Bd rfl;have t2:=Aa (o:=1) Bd rfl;have t3:=Aa (o:=2) Bd rfl;have Jn:=bb.toExt AeO (fun q e=>by subst e;exact Ao7 _);have fA:=Fl gA bb Ji (fun j hj=>by obtain⟨s,h⟩:=On hj;rw [h];simp);have fB:=Fl gB bb Ji (fun j hj=>by obtain⟨s,h⟩:=Ol hj;rw [h];simp);have fF:=Fl gF bb Ji (fun j hj=>by rw [List.getElem_map];simp);have CH:=Ao4 (And.intro fA (And.intro fB (And.intro fF Jn)));clear gA gB gF fA fB fF bb Bd Ji Jn Ti;go_wp2;refine bodyPost_ret (v:=.tuple #[.agg #[.slice pA pts.length pc,.slice pB st.ed.length pd,.slice pF st.fa.length pg],.int .i64 0]) (by simp [results,Tryz.results44,go_sem,t1,t2,t3]) rfl ?_;exact⟨pA,pB,pF,pc,pd,pg,rfl,hcaps,CH.out.1,CH.out.2.1,CH.out.2.2.1,rfl,CH.out.2.2.2⟩
        ·have zM:j<L0.length:=(by rw [DK]at hj;exact hj);rw [Yy,lW]at hrun hen
         have hlen':seen.length<L0.length:=by
          have h2:(j::seen) ⊆ List.range L0.length:=by
           intro q hq
           rcases List.mem_cons.1 hq with rfl|hq
           ·simpa using zM
           ·have:=hI.lt q hq;rw [DK]at this;simpa using this
          have:=(List.nodup_cons.2 ⟨GY,hI.nd⟩).length_le_of_subset h2;simp at this;omega
         have PS:=hB.grown hG9 (fun q e=>by cases e;exact .inl rfl);have OG:=Ao8 zM;obtain⟨s,hs⟩:=Ao3 (L0[j].1);obtain⟨z,hz⟩:=Ao3 (L0[j].2);have hin:=Ze.out L0[j] (by rw [←IX.out];exact OG);rw [←hs,←hz]at hin;rw [←hs,←hz]at hrun hen;obtain⟨hz0,hz1,Gw⟩:=hin;obtain⟨zi,rfl⟩:∃zi:Nat,z=(zi:Int):=⟨z.toNat,by omega⟩;have hsz:EP 200 s:=(by rw [hs];exact Is.out _ (by rw [←IX.out];exact OG));have EA:=(Ab.refl W9).alloc (.cells #[S (R s.a.x),S (R s.a.y),S (R s.b.x),S (R s.b.y)] 140);have Av:=Ao6 W9 (.cells #[S (R s.a.x),S (R s.a.y),S (R s.b.x),S (R s.b.y)] 140);have e9:=hen W9 rfl rfl;unfold AC at hrun e9;have bk:=fun (V:World)=>Vz s V;have dJ:=(EA.block _ (Ao5 ((hG9.block bl (Ao5 Jp) (fun e=>by cases e;omega)).trans Jp))).trans ((hG9.block bl (Ao5 Jp) (fun e=>by cases e;omega)).trans Jp);have uQ:=PS.ext EA;have aZ:Da (W9.alloc (.cells #[S (R s.a.x),S (R s.a.y),S (R s.b.x),S (R s.b.y)] 140)) bt bl (stamp L0) (seen ++ [j]):=PW.keep (EA.block _ (Ao5 PW.it));have YQ:=Ao4 (Fh hI);clear hs hz OG hen hs9
         go_upto_region 32 with fail
         unfold S at Av EA dJ uQ aZ;generalize W9.alloc (.cells #[.string ⟨(R s.a.x).toArray⟩,.string ⟨(R s.a.y).toArray⟩,.string ⟨(R s.b.x).toArray⟩,.string ⟨(R s.b.y).toArray⟩] 140)=V at *;obtain⟨bx,As⟩:=Ao3 W9.heap.size;rw [←As]at Av ⊢;clear As hrun e9 PS hG9 PW EA;have y0:=Aa (o:=0) Av rfl;have y1:=Aa (o:=1) Av rfl;have y2:=Aa (o:=2) Av rfl;have y3:=Aa (o:=3) Av rfl;have bk1:=bk V;unfold AC S at bk1;(go_wp2_with fail);(with_reducible refine bk1.mono ?_);rintro e V2 ⟨rfl,Es⟩;have Ou:=uQ.ext Es;have Ln:=aZ.keep (Es.block _ (Ao5 aZ.it));have lk:=ru (Bh s) L0 (W:=V2) ((Es.block _ (Ao5 dJ)).trans dJ);unfold AC S at lk;clear bk1 bk y0 y1 y2 y3;have O5:Ab w V2:=Ou.toExt dB (fun q e=>by subst e;omega)
         obtain⟨Aom,nv⟩:V2.ownsRow 0 3 1 (.slice (some ⟨bg,0,none⟩) k k) k (zs gl)/\V2.ownsRow 0 9 1 (.slice (some ⟨bg+1,0,none⟩) k k) k (ul.map S):=
          ⟨Cg MR.og Ou (fun q hq e=>by simp only [Value.ownBlock,AoB]at hq;omega),Cg MR.os Ou (fun q hq e=>by simp only [Value.ownBlock,AoB]at hq;omega)⟩
         cases hlo:lookO (Bh s) L0 with
         | none=>
          rw [hlo]at lk;simp only [Option.getD_none,Option.isSome_none]at lk;have HLO:=Ao4 hlo;clear hlo
          go_upto_region 33 with fail
          refine Di (by kernel_rfl) (by kernel_rfl) ?_
          repeat (go_big_quiet_step (fail))
          refine wpQuiet_nil ?_;rintro Zq ⟨q,hq⟩;have Ca:Ab V2 Zq:=hq▸q.h;have SJ:=Ln.keep (Ca.block _ (Ao5 Ln.it));have VW:=Ou.ext Ca;have YR:=Ao4 (Fh SJ);clear hq q lk Ln Ou;go_wp2;go_roundw
          case rel=>exact⟨trivial,seen ++ [j],SJ,VW⟩
          case measure=>rw [YQ.out,YR.out,List.length_append,List.length_singleton];omega
         | some u=>
          rw [hlo]at lk;simp only [Option.getD_some,Option.isSome_some]at lk;obtain⟨hu0,hu1,hne⟩:=Gw u (by rw [←IX.out];exact hlo);obtain⟨ui,rfl⟩:∃ui:Nat,u=(ui:Int):=⟨u.toNat,by omega⟩;simp only [Int.toNat_natCast]at hne;have g1:=MR.u zi (by omega);have g2:=MR.u ui (by omega);obtain⟨s1,hs1⟩:=Ao3 ((P.getD zi ([],[])).2);obtain⟨s2,hs2⟩:=Ao3 ((P.getD ui ([],[])).2);rw [←hs1]at g1 hne;rw [←hs2]at g2 hne;have c1:=nv.cellAt zi (by omega);have c2:=nv.cellAt ui (by omega);rw [List.getElem?_map,g1]at c1;rw [List.getElem?_map,g2]at c2;simp only [Option.map_some]at c1 c2;have q1:∀q:Ad V2,q.w.cell? ⟨bg+1,zi,none⟩=some (S s1):=Ad.cell c1;have q2:∀q:Ad V2,q.w.cell? ⟨bg+1,ui,none⟩=some (S s2):=Ad.cell c2;have hb1:(s1 == s2)=false:=beq_false_of_ne hne;have HLO:=Ao4 hlo;clear hlo hs1 hs2 g1 g2 c1 c2 hne Gw
          go_upto_region 33 with fail
          unfold S at q1 q2;refine Di (by kernel_rfl) (by kernel_rfl) ?_
          repeat (go_big_quiet_step (fail))
          refine wpQuiet_nil ?_;rintro Zq ⟨q,hq⟩;have Ca:Ab V2 Zq:=hq▸q.h;clear q1 q2;have SJ:=Ln.keep (Ca.block _ (Ao5 Ln.it));have VW:=Ou.ext Ca;have YR:=Ao4 (Fh SJ);clear hq q lk Ln Ou;go_wp2;go_roundw
          case rel=>exact⟨trivial,seen ++ [j],SJ,VW⟩
          case measure=>rw [YQ.out,YR.out,List.length_append,List.length_singleton];omega
end Go.Proofs.YtnddllipjippnaaGreatDoor
namespace Kl
section
variable {α : Type} (le : α → α → Bool)
def N8:Nat→List α→List α→List α
 | 0,xs,ys=>xs++ys
 | _+1,[],ys=>ys
 | _+1,x::xs,[]=>x::xs
 | n+1,x::xs,y::ys=>if le x y then x::N8 n xs (y::ys)else y::N8 n (x::xs) ys
theorem jI:∀(n:Nat) (xs ys:List α),xs.length+ys.length<=n→N8 le n xs ys=List.merge xs ys le
 | 0,[],[],_=>by simp [N8]
 | 0,_::_,_,h=>by simp at h
 | 0,[],_::_,h=>by simp at h
 | n+1,[],ys,_=>by simp [N8]
 | n+1,x::xs,[],_=>by simp [N8]
 | n+1,x::xs,y::ys,h=>by simp only [List.length_cons]at h;rw [N8,List.cons_merge_cons,jI n xs (y::ys) (by simp;omega),jI n (x::xs) ys (by simp;omega)]
def Fi:Nat→List α→List α
 | 0,l=>l
 | _+1,[]=>[]
 | _+1,[a]=>[a]
 | n+1,a::b::l=>N8 le (l.length+2) (Fi n ((a::b::l).take ((l.length+3) / 2))) (Fi n ((a::b::l).drop ((l.length+3) / 2)))
theorem Us:∀(n:Nat) (l:List α),l.length<=n→Fi le n l=l.mergeSort le
 | 0,[],_=>by simp [Fi]
 | 0,_::_,h=>by simp at h
 | n+1,[],_=>by simp [Fi]
 | n+1,[a],_=>by simp [Fi]
 | n+1,a::b::l,h=>by
  simp only [List.length_cons]at h;have h1:((a::b::l).take ((l.length+3)/2)).length<=n:=(by simp only [List.length_take,List.length_cons];omega);have h2:((a::b::l).drop ((l.length+3)/2)).length<=n:=(by simp only [List.length_drop,List.length_cons];omega);have h3:((a::b::l).take ((l.length+3)/2)).length+((a::b::l).drop ((l.length+3)/2)).length<=l.length+2:=(by simp only [List.length_take,List.length_drop,List.length_cons];omega);rw [Fi,Us n _ h1,Us n _ h2,jI _ _ _ _ (by rw [List.length_mergeSort,List.length_mergeSort];exact h3)];rw [List.mergeSort];simp only [List.MergeSort.Internal.splitInTwo_fst,List.MergeSort.Internal.splitInTwo_snd]
  rfl
end
end Kl
namespace Go.Proofs.YtnddllipjippnaaGreatDoor
open Go.RowKit Kl
def Um(x y:Pt):Bool:=!decide (Bq y x<0)
def QF(x y:Sg):Bool:=!decide (Gg y x<0)
def jA(p x y:Pt):Bool:=!decide (D3 p y x<0)
theorem lQ(l:List Pt):Fo l=Fi Um l.length l:=(Us Um _ l (Ao7 _)).symm
theorem Yx(l:List Sg):BO l=Fi QF l.length l:=(Us QF _ l (Ao7 _)).symm
theorem AkZ(p:Pt)(l:List Pt):Dh p l=Fi (jA p) l.length l:=(Us (jA p) _ l (Ao7 _)).symm
def Oi(W:List Sg)(R0:List (Pt×List Pt)):List (List Sg):=((Fi QF W.length W).foldl (Gn W.length R0) ([],[])).2
theorem ZO(W:List Sg)(R0:List (Pt×List Pt)):Hz W R0=Oi W R0:=by unfold Hz Oi;rw [Yx]
def lL(p:List Pt)(s:Pt×Pt):Bool:=p.all (fun x=>decide (0<=Ar s.1 s.2 x))&&p.any (fun x=>decide (0<Ar s.1 s.2 x))
def Ys(p:List Pt)(s:Pt×Pt):Bool:=p.all (fun x=>decide (Ar s.1 s.2 x<=0))
theorem AkH{p:List Pt}{s:Pt×Pt}(h:lL p s=true):Mj p s:=by
 unfold lL at h;rw [Bool.and_eq_true,List.all_eq_true,List.any_eq_true]at h;obtain⟨h1,x,hx,h2⟩:=h;exact⟨fun x hx=>of_decide_eq_true (h1 x hx),x,hx,of_decide_eq_true h2⟩
theorem rz{p:List Pt}{s:Pt×Pt}(h:Ys p s=true):KE p s:=by
 unfold Ys at h;rw [List.all_eq_true]at h;exact fun x hx=>of_decide_eq_true (h x hx)
def kQ(l:List Pt):Bool:=decide (3<=l.length)&&(decide (l.length<=60)&&((List.range l.length).all (fun i=>(List.range l.length).all (fun n=>n == i||(n == (i+1)%l.length||decide (0<Ar (l.getD i ⟨0,0⟩) (l.getD ((i+1)%l.length) ⟨0,0⟩) (l.getD n ⟨0,0⟩)))))&&(List.range (l.length-1)).all (fun n=>!decide (Bq (l.getD (n+1) ⟨0,0⟩) (l.getD 0 ⟨0,0⟩)<0))))
theorem getD_at{α:Type}(l:List α)(d:α){i:Nat}(h:i<l.length):l.getD i d=l[i]:=by rw [List.getD_eq_getElem?_getD,AoC h];rfl
theorem qh{l:List Pt}(h:kQ l=true):Oa l:=by
 unfold kQ at h;simp only [Bool.and_eq_true,List.all_eq_true,decide_eq_true_eq,List.mem_range,Bool.or_eq_true,beq_iff_eq,Bool.not_eq_true',decide_eq_false_iff_not]at h;obtain⟨h1,h2,h3,h4⟩:=h;refine⟨h1,h2,?_,?_⟩
 ·intro i n hi hn h5 h6;have:=h3 i hi n hn;rw [getD_at l _ hi,getD_at l _ hn,getD_at l _ (Nat.mod_lt _ (by omega))]at this
  rcases this with k|k|k
  ·exact absurd k h5
  ·exact absurd k h6
  ·exact k
 ·intro n hn;have:=h4 n (by omega);rw [getD_at l _ hn,getD_at l _ (by omega:0<l.length)]at this;exact this
def szB(p:Pt):Bool:=decide (p.x.num.natAbs<10^200)&&(decide (p.x.den<10^200)&&(decide (p.y.num.natAbs<10^200)&&decide (p.y.den<10^200)))
theorem JF{p:Pt}(h:szB p=true):Az 200 p:=by
 unfold szB at h;simp only [Bool.and_eq_true,decide_eq_true_eq]at h;exact⟨⟨h.1,h.2.1⟩,⟨h.2.2.1,h.2.2.2⟩⟩
def S6(p:Pt):Bool:=decide ((p.x*2).den=1)&&(decide ((p.x*2).num.natAbs<=1000000)&&(decide ((p.y*2).den=1)&&decide ((p.y*2).num.natAbs<=1000000)))
theorem wV{q:Rat}(h1:(q*2).den=1)(h2:(q*2).num.natAbs<=1000000):RD q:=by
 refine⟨(q*2).num,h2,?_⟩
 have:((q*2).num:Rat)=q*2:=by
  refine Rat.ext ?_ ?_
  ·rw [Rat.num_intCast]
  ·rw [Rat.den_intCast,h1]
 rw [this];grind
theorem S7{p:Pt}(h:S6 p=true):Db p:=by
 unfold S6 at h;simp only [Bool.and_eq_true,decide_eq_true_eq]at h;exact⟨wV h.1 h.2.1,wV h.2.2.1 h.2.2.2⟩
def GG(P:List (List Pt×Bs)):List Pt:=Lib.compact (Fi Um (DC P P.length).length (DC P P.length))
theorem AcR(P:List (List Pt×Bs)):Sm P=GG P:=by unfold Sm GG;rw [lQ]
def XU:List Sg→Bool
 | []=>true
 | s::l=>!l.any (Be s) && XU l
theorem ml:∀{l:List Sg},XU l=true→l.Nodup
 | [],_=>List.nodup_nil
 | s::l,h=>by rw [XU,Bool.and_eq_true,Bool.not_eq_true']at h;rw [List.nodup_cons];exact⟨pJ.1 h.1,ml h.2⟩
def U6(P:List (List Pt×Bs)):Bool:=
 decide (0<P.length)&&(decide (P.length<=1000)&&(P.all (fun e=>kQ e.1&&e.1.all szB) &&
 (P.all (fun e=>(List.range e.1.length).all (fun k=>decide ((GG P).filter (fun q=>FM (G7 e.1 k).a (G7 e.1 k).b q)=Sx (G7 e.1 k)))) &&
 (XU ((BR P P.length).map (·.1)) &&
 ((List.range P.length).all (fun i=>(List.range i).all (fun k=>(List.range (P.getD k ([],[])).1.length).all (fun j=>lL (P.getD i ([],[])).1 (BK (P.getD k ([],[])).1 j)||Ys (P.getD i ([],[])).1 (BK (P.getD k ([],[])).1 j))&&(List.range (P.getD k ([],[])).1.length).any (fun j=>Ys (P.getD i ([],[])).1 (BK (P.getD k ([],[])).1 j)))) &&
 ((BR P P.length).all (fun e=>decide (0<=e.2/\e.2<(P.length:Int))&&(szB e.1.a&&szB e.1.b)&&(match lookO (Bh e.1) (BR P P.length)with|none=>true|some z=>decide (0<=z/\z<(P.length:Int))&&decide ((P.getD e.2.toNat ([],[])).2≠(P.getD z.toNat ([],[])).2))) &&
 decide ((BR P P.length).length<=10000)))))))
theorem Aje{P:List (List Pt×Bs)}(h:U6 P=true):mL P:=by
 unfold U6 at h;simp only [Bool.and_eq_true,List.all_eq_true,decide_eq_true_eq,List.mem_range]at h;obtain⟨-,h1,h2,h3,h4,h5,-,-⟩:=h;refine⟨⟨h1,fun e he=>?_,fun e he p hp=>JF ((h2 e he).2 p hp),fun e he k hk=>?_,ml h4⟩,fun e he=>qh (h2 e he).1,?_⟩
 ·have:=qh (h2 e he).1;exact⟨by have:=this.n3;omega,this.n60⟩
 ·rw [AcR];exact h3 e he k hk
 ·intro i k hi hk;obtain⟨ha,hb⟩:=h5 i hi k hk;rw [getD_at P _ hi,getD_at P _ (by omega:k<P.length)]at ha hb;rw [List.any_eq_true]at hb;obtain⟨j,hj,hb⟩:=hb;refine⟨fun j hj=>?_,j,List.mem_range.1 hj,rz hb⟩;have:=ha j hj;rw [Bool.or_eq_true]at this;exact this.imp AkH rz
instance sgDec:DecidableEq Sg:=fun s t=>decidable_of_iff (Be s t=true) Ip
def Hj(pts:List Pt)(eds:List EdZ):List (Pt×List Pt):=(BN pts eds).map (fun e=>(e.1,Fi (jA e.1) e.2.length e.2))
theorem lC(pts:List Pt)(eds:List EdZ):Hj pts eds=(BN pts eds).map (fun e=>(e.1,Dh e.1 e.2)):=by
 unfold Hj;refine List.map_congr_left fun e _=>?_;rw [AkZ]
def Abw(pts:List Pt)(eds:List EdZ)(n:Nat):Ec:=KX (AH pts eds) n (Oi ((AH pts eds).map (·.1)) (Hj pts eds)) (K8 ((AH pts eds).map (·.1)) (Oi ((AH pts eds).map (·.1)) (Hj pts eds)))
def XT(e:Pt×List Pt):Bool:=match e.2 with
 | [p,q]=>decide (AZ (Ar p e.1 q)≠0)
 | _=>true
def XM(pts:List Pt)(eds:List EdZ)(n:Nat):Bool:=
 decide (Dn [] pts=0)&&(decide (D2 pts.length n [] eds=0)&&(decide (Ej pts [] eds=0)&&(pts.all S6&&(decide (eds.length<=1000)&&(!(Abw pts eds n).op &&
 ((Hj pts eds).all (fun e=>szB e.1&&(e.2.all szB&&(decide (e.2.length<100000)&&XT e)))&&(decide ((Hj pts eds).length<=400)&&(decide ((Hj pts eds).map (·.1)).Nodup &&
 ((AH pts eds).all (fun e=>szB e.1.a&&szB e.1.b)&&(AH pts eds).all (fun e=>(AH pts eds).any (fun e'=>Be e'.1 (Bh e.1))))))))))))
theorem Aij{pts:List Pt}{eds:List EdZ}{n:Nat}(h:XM pts eds n=true):oH pts eds n (Hj pts eds):=by
 unfold XM at h;simp only [Bool.and_eq_true,List.all_eq_true,decide_eq_true_eq,Bool.not_eq_true']at h;obtain⟨h1,h2,h3,h4,h5,h6,h7,h8,h9,h10,h11⟩:=h;have hg:∀p∈pts,Db p:=fun p hp=>S7 (h4 p hp);have he:=Sv h1 h2;refine⟨he,h5,XQ he hg h3,XP he hg,mh h2,lC pts eds,?_,fun e k=>⟨JF (h7 e k).1,fun p hp=>JF ((h7 e k).2.1 p hp)⟩,h8,fun e k=>(h7 e k).2.2.1,h9,?_,fun e k=>⟨JF (h10 e k).1,JF (h10 e k).2⟩,?_⟩
 ·rw [ZO];exact h6
 ·intro e k p q Km;have:=(h7 e k).2.2.2;unfold XT at this;rw [Km]at this;exact of_decide_eq_true this
 ·intro e k;have:=h11 e k;rw [List.any_eq_true]at this;obtain⟨x,hx,hs⟩:=this;exact⟨x,hx,Ip.1 hs⟩
def mH(P:List (List Pt×Bs)):List Sg:=Fi QF ((BR P P.length).map (·.1)).length ((BR P P.length).map (·.1))
def Ld(P:List (List Pt×Bs)):List EdZ:=(EB (BR P P.length) (mH P)).map (fun x=>⟨Hg x.1.a (Ci (GG P)),Hg x.1.b (Ci (GG P)),x.2.1,x.2.2⟩)
def kX(P:List (List Pt×Bs)):List Pt:=Fi Um ((Hj (GG P) (Ld P)).map (·.1)).length ((Hj (GG P) (Ld P)).map (·.1))
def UD(P:List (List Pt×Bs)):G9:=I1 (P.map (·.2)) (Ci (kX P)) (AH (GG P) (Ld P)) (Fi QF ((AH (GG P) (Ld P)).map (·.1)).length ((AH (GG P) (Ld P)).map (·.1)))
def lh(P:List (List Pt×Bs)):MapZ:=⟨kX P,(UD P).ed,(UD P).fa.length⟩
def oV(P:List (List Pt×Bs)):Bool:=decide (EB (BR P P.length) (mH P)=(Ld P).map (fun e=>(Bv (GG P) e,e.l,e.r)))
theorem Acr(P:List (List Pt×Bs))(h1:U6 P=true)(h2:XM (GG P) (Ld P) P.length=true)(h3:oV P=true)(A:Option Addr)(c:Nat)(w:World)(hw:Am w)(h:NZ w A c P) :
  Calls Tryz.prog 44 #[.slice A P.length c] w (Mr w (lh P) (UD P).fa):=by
 have hp:=h1;unfold U6 at h1;simp only [Bool.and_eq_true,List.all_eq_true,decide_eq_true_eq]at h1;obtain⟨g0,-,-,-,-,-,g6,g7⟩:=h1;have ha:EB (BR P P.length) (mH P)=(Ld P).map (fun e=>(Bv (GG P) e,e.l,e.r)):=of_decide_eq_true h3;refine Acp P (Aje hp) g0 ?_ (fun e k=>⟨JF (g6 e k).1.2.1,JF (g6 e k).1.2.2⟩) g7 (by rw [Yx];exact ha) (Aij h2) (pts:=kX P) (by rw [lQ];rfl) (st:=UD P) (by rw [Yx];rfl) A c w hw h;intro e k;obtain⟨⟨g1,-⟩,g3⟩:=g6 e k;refine⟨g1.1,g1.2,fun z hz=>?_⟩;rw [hz]at g3;simp only [Bool.and_eq_true,decide_eq_true_eq]at g3;exact⟨g3.1.1,g3.1.2,g3.2⟩
set_option maxRecDepth 100000
set_option maxRecDepth 100000
def PH(m:MapZ):Bool:=!MJ m&&(decide (Dn [] m.pts=0)&&(decide (D2 m.pts.length m.nf [] m.eds=0)&&(decide (Ej m.pts [] m.eds=0)&&(!S3 (BN m.pts m.eds) m.pts&&MF (AH m.pts m.eds) m.nf (Oi ((AH m.pts m.eds).map (·.1)) (Hj m.pts m.eds)) (K8 ((AH m.pts m.eds).map (·.1)) (Oi ((AH m.pts m.eds).map (·.1)) (Hj m.pts m.eds)))))))
theorem Ac9{m:MapZ}(h:PH m=true):Fx m=0:=by
 unfold PH at h;simp only [Bool.and_eq_true,decide_eq_true_eq,Bool.not_eq_true']at h;obtain⟨h1,h2,h3,h4,h5,h6⟩:=h
 have e:MF (AH m.pts m.eds) m.nf (OW m) (QK m)=true:=by unfold QK OW jS jR;rw [←lC,ZO];exact h6
 unfold Fx ZE;rw [if_neg (by rw [h1];simp),if_neg (by omega),if_neg (by omega),if_neg (by omega),if_neg (by rw [h5];simp),if_pos e]
def JS(m:MapZ):List Pt:=Fi Um ((BN m.pts m.eds).map (·.1)).length ((BN m.pts m.eds).map (·.1))
def qU(m:MapZ):List Sg:=Fi QF ((AH m.pts m.eds).map (·.1)).length ((AH m.pts m.eds).map (·.1))
def Dm(m:MapZ)(fa:List Bs):G9:=I1 fa (Ci (JS m)) (AH m.pts m.eds) (qU m)
def Og(m:MapZ)(fa:List Bs):MapZ:=⟨JS m,(Dm m fa).ed,(Dm m fa).fa.length⟩
def Hx(m:MapZ):Bool:=
 PH m&&(m.pts.all S6&&(decide (m.eds.length<=1000)&&((BN m.pts m.eds).all (fun e=>szB e.1&&(e.2.all szB&&(decide (e.2.length<100000)&&XT e)))&&(decide ((BN m.pts m.eds).length<=400)&&(decide ((BN m.pts m.eds).map (·.1)).Nodup &&
 ((AH m.pts m.eds).all (fun e=>szB e.1.a&&(szB e.1.b&&decide (-1<=e.2/\e.2<(m.nf:Int))))&&(AH m.pts m.eds).all (fun e=>(AH m.pts m.eds).any (fun e'=>Be e'.1 (Bh e.1)))))))))
theorem Gr{w:World}{b bm:Nat}(hne:bm≠b)(x y z:Value)(o:Nat):(((w.setCell ⟨b,0,none⟩ x).setCell ⟨b,1,none⟩ y).setCell ⟨b,2,none⟩ z).cell? ⟨bm,o,none⟩=w.cell? ⟨bm,o,none⟩:=by
 refine World.cell?_of_block ?_;show (((w.setCell ⟨b,0,none⟩ x).setCell ⟨b,1,none⟩ y).setCell ⟨b,2,none⟩ z).heap[bm]?=w.heap[bm]?;rw [Cj (by exact hne),Cj (by exact hne),Cj (by exact hne)]
theorem La{m:MapZ}(h:Hx m=true):Fx m=0/\∀p∈m.pts,Db p:=by
 unfold Hx at h;simp only [Bool.and_eq_true,List.all_eq_true]at h;exact⟨Ac9 h.1,fun p hp=>S7 (h.2.1 p hp)⟩
theorem pw(m:MapZ)(fa:List Bs)(Cr:m.nf=fa.length)(hb:Hx m=true)(A B F:Option Addr)(c d g:Nat)(AP:CY m c d g)(w:World)(hw:Am w)(hA:Af w A (flat (Aq m.pts)))(hB:Af w B (A9 m.eds))(hF:Af w F (fa.map S))(LM:∀x,F=some x→x.block<w.heap.size)(h8:m.nf<=100000) :
  Calls Tryz.prog 43 #[AO A B F m c d g] w (Mr w (Og m fa) (Dm m fa).fa):=by
 obtain⟨hck,hgr⟩:=La hb;unfold Hx at hb;simp only [Bool.and_eq_true,List.all_eq_true,decide_eq_true_eq]at hb;obtain⟨h0,-,h2,h3,h4,h5,h6,h7⟩:=hb;unfold PH at h0;simp only [Bool.and_eq_true,decide_eq_true_eq]at h0;have F8:=Sv h0.2.1 h0.2.2.1;have pc:=fun W (hx:Ab w W)=>Pa m hgr A B F c d g AP W (hw.ext hx) (hA.ext hx) (hB.ext hx);rw [hck]at pc;have oc:=fun W (hx:Ab w W)=>XW m A B F c d g AP F8 (by omega) W (hA.ext hx) (hB.ext hx)
 have cn:=fun (W W':World) (h1:Ab w W) (hx:Ab W W') (r b1 b2:Nat) (E:List (Pt×Value×Nat)) (hn:BD W.heap.size W' r b1 b2 (AH m.pts m.eds) E (BN m.pts m.eds))=>qX (hw.ext h1) hx hn
  (fun e k=>⟨JF (h3 e k).1,fun p hp=>JF ((h3 e k).2.1 p hp)⟩) (by omega) (fun e k=>(h3 e k).2.2.1) h5 (fun e k p q Km=>by
   have:=(h3 e k).2.2.2;unfold XT at this;rw [Km]at this
   exact of_decide_eq_true this)
  (fun e k=>⟨JF (h6 e k).1,JF (h6 e k).2.1⟩) (by rw [QM];omega) (fun e k=>by
   have:=h7 e k;rw [List.any_eq_true]at this;obtain⟨x,hx,hs⟩:=this
   exact⟨x,hx,Ip.1 hs⟩) F g fa ((hF.ext h1).ext hx) (fun x e=>AoG (LM x e) (h1.trans hx).size) (by rw [←Cr];exact h8) (fun x k=>by have:=(h6 x k).2.2;omega) (pts:=JS m) (by rw [lQ];rfl) (ws:=qU m) (by rw [Yx];rfl) (st:=Dm m fa) rfl
 rw [←Cr]at cn;have h1:=Ao6 w (.cells #[.slice A m.pts.length c,.slice B m.eds.length d,.slice F m.nf g] 35);have h2':=Ao6 (w.alloc (.cells #[.slice A m.pts.length c,.slice B m.eds.length d,.slice F m.nf g] 35)) (.cells #[.slice none 0 0,.slice none 0 0,.slice none 0 0] 35);rw [AoE]at h2';have e2:=(Ab.refl (w.alloc (.cells #[.slice A m.pts.length c,.slice B m.eds.length d,.slice F m.nf g] 35))).alloc (.cells #[.slice none 0 0,.slice none 0 0,.slice none 0 0] 35);have hM:=(e2.block _ (Ao5 h1)).trans h1;have hE:=((Ab.refl w).alloc (.cells #[.slice A m.pts.length c,.slice B m.eds.length d,.slice F m.nf g] 35)).trans e2;unfold AO at pc oc ⊢;have HN:=Ao4 Cr;clear h0 h2 h3 h4 h5 h6 h7 F8 hck hgr LM hF hA hB AP Cr h1 e2;go_enter Tryz.func43,Tryz.ntmps43
 go_upto_region 1 with fail
 generalize (w.alloc (.cells #[.slice A m.pts.length c,.slice B m.eds.length d,.slice F m.nf g] 35)).alloc (.cells #[.slice none 0 0,.slice none 0 0,.slice none 0 0] 35)=V at *;obtain⟨bm,AW⟩:=Ao3 w.heap.size;have Dd:w.heap.size<=bm+1:=(by omega);rw [←AW]at hM h2' ⊢;clear AW;have k1:=Aa (o:=0) hM rfl;have k2:=Aa (o:=1) hM rfl;have k3:=Aa (o:=2) hM rfl;(go_wp2_with fail);(with_reducible refine(pc V hE).mono ?_);rintro e w1 ⟨rfl,hx1⟩;have X1:=hE.trans hx1;have Cp:=(hx1.block _ (Ao5 hM)).trans hM;have hR1:=(hx1.block _ (Ao5 h2')).trans h2';clear k1 k2 k3 hM h2' pc;have k1:w1.cell? ⟨bm,0,none⟩=some (.slice A m.pts.length c):=Aa Cp rfl;have k2:w1.cell? ⟨bm,1,none⟩=some (.slice B m.eds.length d):=Aa Cp rfl;have k3:w1.cell? ⟨bm,2,none⟩=some (.slice F m.nf g):=Aa Cp rfl;have X:Ab w1 w1:=Ab.refl w1;have SO:=fun (w':World) (h:Ab w1 w')=>(⟨h.cellS k1,h.cellS k2,h.cellS k3⟩:_/\_/\_)
 go_upto_region 4 with fail
 go_region_held3 (fun w'=>w'.cell? ⟨bm,0,none⟩=some (.slice A m.pts.length c)/\w'.cell? ⟨bm,1,none⟩=some (.slice B m.eds.length d)/\w'.cell? ⟨bm,2,none⟩=some (.slice F m.nf g))
  (first|exact SS|with_reducible exact SO _ X.drew|with_reducible exact SO _ X)
  (first
   | ((with_reducible refine(cn w1.drew w2 (X1.trans (Ab.refl w1).drew) xo r b1 b2 E Cf).mono ?_);rintro e w3 ⟨A3,B3,F3,c3,d3,g3,rfl,y1,y2,y3,y4,y5,xc⟩;replace X:Ab w1 w3:=X.trans xc;have AK:=(X.block _ (Ao5 hR1)).trans hR1;have g0:=Aa (o:=0) AK rfl;have g1:=Aa (o:=1) AK rfl;have g2:=Aa (o:=2) AK rfl;have I4:=Aj (o:=0) AK;have g4:=Aj (o:=1) AK;have g5:=Aj (o:=2) AK;have SS:=(⟨(Gr (show bm≠bm+1 by omega) (.slice A3 (JS m).length c3) (.slice B3 (Dm m fa).ed.length d3) (.slice F3 (Dm m fa).fa.length g3) 0).trans (X.cellS k1),(Gr (show bm≠bm+1 by omega) (.slice A3 (JS m).length c3) (.slice B3 (Dm m fa).ed.length d3) (.slice F3 (Dm m fa).fa.length g3) 1).trans (X.cellS k2),(Gr (show bm≠bm+1 by omega) (.slice A3 (JS m).length c3) (.slice B3 (Dm m fa).ed.length d3) (.slice F3 (Dm m fa).fa.length g3) 2).trans (X.cellS k3)⟩:_/\_/\_);unfold AO)
   | ((with_reducible refine(oc _ (X1.trans X.drew)).mono ?_);rintro e w2 ⟨r,b1,b2,E,rfl,xo,Cf⟩;replace X:Ab w1 w2:=X.drew.trans xo))
 have bb:=(((AD.refl (fun q=>q=bm+1) w3).setCell (p:=⟨bm+1,0,none⟩) (.inl rfl) (.slice A3 (JS m).length c3)).setCell (p:=⟨bm+1,1,none⟩) (.inl rfl) (.slice B3 (Dm m fa).ed.length d3)).setCell (p:=⟨bm+1,2,none⟩) (.inl rfl) (.slice F3 (Dm m fa).fa.length g3);have fA:=Fl y2 bb AK (fun j hj=>by obtain⟨s,h⟩:=On hj;rw [h];simp);have fB:=Fl y3 bb AK (fun j hj=>by obtain⟨s,h⟩:=Ol hj;rw [h];simp);have fF:=Fl y4 bb AK (fun j hj=>by rw [List.getElem_map];simp);have Bd:=DT (.slice A3 (JS m).length c3) (.slice B3 (Dm m fa).ed.length d3) (.slice F3 (Dm m fa).fa.length g3) AK;have t1:=Aa (o:=0) Bd rfl;have t2:=Aa (o:=1) Bd rfl;have t3:=Aa (o:=2) Bd rfl;have Jn:=(((X1.trans X).setCell (p:=⟨bm+1,0,none⟩) Dd (.slice A3 (JS m).length c3)).setCell (p:=⟨bm+1,1,none⟩) Dd (.slice B3 (Dm m fa).ed.length d3)).setCell (p:=⟨bm+1,2,none⟩) Dd (.slice F3 (Dm m fa).fa.length g3);have CH:=Ao4 (And.intro y1 (And.intro fA (And.intro fB (And.intro fF (And.intro y5 Jn)))));clear fA fB fF Jn bb y1 y2 y3 y4 y5 SS SO;go_wp2;refine bodyPost_ret (v:=.tuple #[.agg #[.slice A3 (JS m).length c3,.slice B3 (Dm m fa).ed.length d3,.slice F3 (Dm m fa).fa.length g3],.int .i64 0]) (by simp [results,Tryz.results43,go_sem,t1,t2,t3]) rfl ?_;exact⟨A3,B3,F3,c3,d3,g3,rfl,CH.out.1,CH.out.2.1,CH.out.2.2.1,CH.out.2.2.2.1,rfl,CH.out.2.2.2.2.2⟩
end Go.Proofs.YtnddllipjippnaaGreatDoor
