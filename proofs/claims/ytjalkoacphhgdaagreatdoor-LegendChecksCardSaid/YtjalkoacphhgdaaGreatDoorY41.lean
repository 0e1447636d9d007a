/- Y41: D4 BK BQ BR. -/
import Derived.Laws.EntriesVeiled
import Derived.Test.YtjalkoacphhgdaaGreatDoorY40
set_option maxRecDepth 100000
set_option maxHeartbeats 8000000
namespace Go.Proofs.YtjalkoacphhgdaaGreatDoor
open Go.RowKit Kl
open Go.ChangeMaps (setBlock)
theorem zR{W:World}{b:Nat}{L:List (Sg×Int)}(h:W.heap[b]?=some (.map (Ax As (stamp L)).toArray L.length))(s:Sg)(hno:∀e∈L,AK s e.1=false)(z:Int) :
  ∃W',(Instr.mapUpdate 131 (.map (some b)) (As s) (.int .i64 z)).run Tryz.prog W=.ok () W'/\W'.heap[b]?=some (.map (Ax As (stamp (L ++ [(s,z)]))).toArray (L ++ [(s,z)]).length)/\W.grownBy W' (some b)/\W'.heap.size=W.heap.size:=by
 refine⟨_,gV VT s (stamp L) ?_ (.int .i64 z) h,?_,Kv h,by simp [setBlock]⟩
 ·intro e he;obtain⟨x,hx,h1⟩:=iN he;rw [h1];exact hno x hx
 ·rw [Ls h,l7];simp
theorem jz{s t:Sg}(h:s≠t):AK s t=false:=by
 rw [Bool.eq_false_iff];exact fun k=>h (Ip.1 k)
theorem Acc{C:List (List Sg)}(Ci:C.flatten.Nodup){k:Nat}(hk:k<C.length){j:Nat}(hj:j<C[k].length):∀e∈CQ (C.take k)++(C[k].take j).map (fun s=>(s,(k:Int))),AK C[k][j] e.1=false:=by
 intro e he;refine jz fun hh=>?_;have h1:C=C.take k++C[k]::C.drop (k+1):=(by rw [←List.drop_eq_getElem_cons hk,List.take_append_drop]);have h2:C[k]=C[k].take j++C[k][j]::C[k].drop (j+1):=by rw [←List.drop_eq_getElem_cons hj,List.take_append_drop]
 have h3:C.flatten=(C.take k).flatten++(C[k]++(C.drop (k+1)).flatten):=by
  have:=congrArg List.flatten h1
  rwa [List.flatten_append,List.flatten_cons]at this
 rw [h3,List.nodup_append]at Ci;obtain⟨-,Da,Adw⟩:=Ci;rw [List.nodup_append]at Da;obtain⟨KQ,-,-⟩:=Da
 rcases List.mem_append.1 he with he|he
 ·have:e.1∈(CQ (C.take k)).map (·.1):=List.mem_map_of_mem he;rw [gj]at this;exact Adw _ this _ (List.mem_append_left _ (AmD hj)) hh.symm
 ·rw [List.mem_map]at he;obtain⟨s,hs,rfl⟩:=he;rw [h2,List.nodup_append]at KQ;exact KQ.2.2 _ hs _ List.mem_cons_self hh.symm
theorem ai(n:Nat)(hn:n<=200000)(c:Int)(hc:c=(n:Int))(W:World) :
  (Instr.makeSlice 68 (.int .i64 c) (.int .i64 c)).run Tryz.prog W=.ok (.slice (some ⟨W.heap.size,0,none⟩) n n) (W.alloc (.cells (madeCells #[.int .i64 0] n) 3)):=Ago n hn c hc W
def Jd(W:List Sg)(C:List (List Sg))(k:Nat):List Value:=(List.range C.length).map (fun j=>Value.int .i64 (if j<k then Ch W C (W.length+1) j else 0))
theorem Aio(W:List Sg)(C:List (List Sg)):Jd W C 0=zs (zn (List.replicate C.length 0)):=by
 unfold Jd zs zn;apply List.ext_getElem
 ·simp
 ·intro i h1 h2;simp
theorem Aim(W:List Sg)(C:List (List Sg)):Jd W C C.length=(JR W C).map (Value.int .i64):=by
 unfold Jd JR;apply List.ext_getElem
 ·simp
 ·intro i h1 h2;have:i<C.length:=(by simpa using h1);simp [this]
theorem Ain(W:List Sg)(C:List (List Sg)){k:Nat}(_:k<C.length):(Jd W C k).set k (.int .i64 (Ch W C (W.length+1) k))=Jd W C (k+1):=by
 unfold Jd;apply List.ext_getElem
 ·simp
 ·intro i h1 h2;by_cases h:k=i
  ·subst h;simp
  ·rw [List.getElem_set_ne h];have:(i<k+1)↔i<k:=(by omega);simp [this]
theorem Aab(w:World)(o1 o2 o3 o4:Obj):∃W,W=(((w.alloc o1).alloc o2).alloc o3).alloc o4/\Aa w W/\W.heap.size=w.heap.size+4/\W.heap[w.heap.size]?=some o1/\W.heap[w.heap.size+1]?=some o2/\W.heap[w.heap.size+1+1]?=some o3/\W.heap[w.heap.size+1+1+1]?=some o4:=by
 obtain⟨V,hV,hE,h1,h2,h3⟩:=OD w o1 o2 o3;have hs:V.heap.size=w.heap.size+1+1+1:=(by rw [hV];simp);have FB:=(Aa.refl V).alloc o4;refine⟨_,by rw [←hV],hE.alloc o4,by simp [hs],(FB.block _ (AmA h1)).trans h1,(FB.block _ (AmA h2)).trans h2,(FB.block _ (AmA h3)).trans h3,?_⟩;rw [←hs];exact AmB V o4
def Dp(W:World)(b:Nat)(l:List (Sg×Int)):Prop:=W.heap[b]?=some (.map (Ax As (stamp l)).toArray l.length)
theorem Dp.far{W W':World}{b:Nat}{l:List (Sg×Int)}(h:Dp W b l){row:Option Nat}(hg:W.grownBy W' row)(hr:row≠some b):Dp W' b l:=(hg.block b (AmA h) (fun e=>hr e.symm)).trans h
theorem Dp.ext{W W':World}{b:Nat}{l:List (Sg×Int)}(h:Dp W b l)(hx:Aa W W'):Dp W' b l:=(hx.block b (AmA h)).trans h
theorem Air{B:Nat}{w:World}(hw:An w){r b1 b2:Nat}{L:List (Sg×Int)}{E:List (Pt×Value×Nat)}{R0:List (Pt×List Pt)}(h:Bq B w r b1 b2 L E R0){W U:List Sg}{C:List (List Sg)}(hW:W=L.map (·.1))(hG:Qy W U C){A:Option Addr}{cap:Nat}(hC:L8 w A cap C) :
  Calls Tryz.prog 157 #[.pointer (some ⟨r,0,none⟩),.slice A C.length cap] w fun e w'=>∃A',e=.returned (.slice A' C.length C.length)/\Ae w' A' ((JR W C).map (Value.int .i64))/\Aa w w':=by
 have hmm:=@run_makeMap Tryz.prog;have Alv:=hC.cap1;have uE:=hC.cap2;go_enter Tryz.func157,Tryz.ntmps157
 go_upto_region 2 with fail
 obtain⟨W1,hW1,EO,hs1,hb1,hb2,hb3,hb4⟩:=Aab w (.cells #[.pointer (some ⟨r,0,none⟩)] 128) (.cells #[.slice A C.length cap] 209) (.map #[] 0) (.cells #[.map (some (w.heap.size+1+1))] 131);rw [←hW1];clear hW1;obtain⟨bn,BV⟩:=Am8 w.heap.size;rw [←BV]at hb1 hb2 hb3 hb4 ⊢;have hle:w.heap.size<=bn:=(by omega);have OV:Dp W1 (bn+1+1) (CQ (C.take 0)):=by rw [List.take_zero];exact hb3
 have rC:C.length<=100000:=by have h1:=VV hG.ok.ne;rw [hG.ok.flat]at h1;have h2:=JJ hG.ok.nd hG.ok.sub;have:=hG.len;omega
 have hl0:(0:Int)<=(C.length:Int):=(by omega);have Ci:C.flatten.Nodup:=(by rw [hG.ok.flat];exact hG.ok.nd);have Xu:=Am9 Ci;have m2:=Ab (o:=0) hb2 rfl;clear BV hb3 Ci
 go_upto_region 3 with fail
 go_loopw [16] (fun i wr=>∃k:Nat,i=.int .i64 (k:Nat)/\k<=C.length/\Dp wr (bn+1+1) (CQ (C.take k))/\Au (fun j=>j=bn+1+1) W1 wr) (fun i _=>C.length-(intOf i).toNat)
 case atStart=>exact⟨0,rfl,by omega,OV,Au.refl _ _⟩
 case round=>
  obtain⟨k,rfl,hk,hM,hB⟩:=hrel;have BI:Aa w wr:=hB.toExt EO (fun j e=>by subst e;omega);by_cases hlt:k<C.length
  ·obtain⟨bA,oA,A',c',rfl,hcell,AP,hc1,hc2⟩:=hC.row k hlt;replace hcell:=BI.cellS hcell;have hk0:(0:Int)<=(k:Int):=(by omega);have Cb:(k:Int)<(C.length:Int):=(by omega);obtain⟨c,hcc⟩:=Am8 (C[k]);have hfr:=fun j (hj:j<C[k].length)=>Acc Xu.out hlt hj;rw [←hcc]at hcell AP hc1 hfr
   have Mf:CQ (C.take (k+1))=CQ (C.take k)++c.map (fun s=>(s,(k:Int))):=by rw [AmF hlt,gm,←hcc,List.length_take,Nat.min_eq_left (by omega)]
   have Xr:=Am9 Mf;have qu:=Am9 hfr;have ES:Dp wr (bn+1+1) (CQ (C.take k)++(c.take 0).map (fun s=>(s,(k:Int)))):=(by rw [List.take_zero,List.map_nil,List.append_nil];exact hM);have hcl:(0:Int)<=(c.length:Int):=(by omega);clear hcc Mf hfr hM
   go_upto_region 6 with fail
   go_loopw [23] (fun i wi=>∃j:Nat,i=.int .i64 (j:Nat)/\j<=c.length/\Dp wi (bn+1+1) (CQ (C.take k)++(c.take j).map (fun s=>(s,(k:Int))))/\Au (fun j=>j=bn+1+1) W1 wi) (fun i _=>c.length-(intOf i).toNat)
   case atStart=>exact⟨0,rfl,by omega,ES,hB⟩
   case round=>
    obtain⟨j,rfl,hj,UE,Rs⟩:=hrel;have Pf:Aa w wr:=Rs.toExt EO (fun j e=>by subst e;omega);by_cases AW:j<c.length
    ·obtain⟨b',o',rfl,f1,f2,f3,f4⟩:=MS (AP.ext Pf) AW;have hno:=qu.out j AW
     have Ib:CQ (C.take k)++(c.take (j+1)).map (fun s=>(s,(k:Int)))=(CQ (C.take k)++(c.take j).map (fun s=>(s,(k:Int)))) ++ [(c[j],(k:Int))]:=by rw [AmF AW,List.map_append,←List.append_assoc];rfl
     obtain⟨s,hs⟩:=Am8 (c[j]);rw [←hs]at f1 f2 f3 f4 hno Ib;have hj0:(0:Int)<=(j:Int):=(by omega);have KL:(j:Int)<(c.length:Int):=(by omega);have Aw:=AmB wr (.cells #[S (R s.a.x),S (R s.a.y),S (R s.b.x),S (R s.b.y)] 155);have E4:=(Aa.refl wr).alloc (.cells #[S (R s.a.x),S (R s.a.y),S (R s.b.x),S (R s.b.y)] 155);have h4:=(E4.block _ (AmA (Rs.cells hb4 (by omega)))).trans (Rs.cells hb4 (by omega));obtain⟨Wp,hput,OX,Ms,-⟩:=zR (UE.ext E4) s hno (k:Int);rw [←Ib]at OX;have Zf:=(Rs.ext E4).grown Ms (fun q e=>by cases e;exact .inl rfl);have Xs:=Am9 OX;clear hno Ib hs UE Ms OX
     go_upto_region 8 with fail
     unfold S at Aw h4 hput;unfold As S at hput;have z0:=Ab (o:=0) Aw rfl;have z1:=Ab (o:=1) Aw rfl;have z2:=Ab (o:=2) Aw rfl;have z3:=Ab (o:=3) Aw rfl;have z4:=Ab (o:=0) h4 rfl;generalize (wr.alloc (.cells #[.string ⟨(R s.a.x).toArray⟩,.string ⟨(R s.a.y).toArray⟩,.string ⟨(R s.b.x).toArray⟩,.string ⟨(R s.b.y).toArray⟩] 155))=W4 at *;clear f1 f2 f3 f4 Aw h4;go_wp2;go_roundw
     case rel=>exact⟨j+1,by go_num,AW,Xs.out,Zf⟩
     case measure=>simp [intOf];omega
    ·have H7:j=c.length:=(by omega);subst H7;have aX:(c.length:Int)<=(c.length:Int):=(by omega);rw [List.take_length,←Xr.out]at UE;go_wp2;go_roundw
     case rel=>exact⟨k+1,by go_num,hlt,UE,Rs⟩
     case measure=>simp [intOf];omega
  ·have Bw:k=C.length:=(by omega);subst Bw;rw [List.take_length]at hM;have hmk:=ai C.length (by omega) (C.length:Int) rfl wr;have wB:∀(fn:Fn) (first cap:Array Value) (w:World),(Instr.makeFunc fn first cap).run Tryz.prog w=.ok (.func fn first cap) w:=fun _ _ _ _=>rfl;have UZ:=hB.cells hb2 (by omega);have m2':=Ab (o:=0) UZ rfl;have own:=fp wr w.heap.size C.length (AmM EO.size hB.size) (by omega);have hx0:(w.heap.size:Nat)<=wr.heap.size:=AmM EO.size hB.size;have rG:=(Aa.refl wr).alloc (.cells (madeCells #[.int .i64 0] C.length) 3);obtain⟨fv,Mr⟩:=Am8 (Value.func (.func 233) #[] #[.pointer (some ⟨bn+1,0,none⟩),.pointer (some ⟨bn,0,none⟩),.pointer (some ⟨wr.heap.size+1,0,none⟩),.pointer (some ⟨bn+1+1+1,0,none⟩)]);have Zj:=(Aa.refl (wr.alloc (.cells (madeCells #[.int .i64 0] C.length) 3))).alloc (.cells #[fv] 253);have ND:=AmB (wr.alloc (.cells (madeCells #[.int .i64 0] C.length) 3)) (.cells #[fv] 253);rw [AmJ]at ND;have Gg:=rG.trans Zj;have C3:=BI.trans Gg;have Td:=AI own Zj;have Ht:=hM.ext Gg;have n1:=(Gg.block _ (AmA (hB.cells hb1 (by omega)))).trans (hB.cells hb1 (by omega));have n2:=(Gg.block _ (AmA UZ)).trans UZ;have n4:=(Gg.block _ (AmA (hB.cells hb4 (by omega)))).trans (hB.cells hb4 (by omega));have H8:bn+1+1+1<wr.heap.size:=AmA (hB.cells hb4 (by omega));have NT:wr.heap.size+1<((wr.alloc (.cells (madeCells #[.int .i64 0] C.length) 3)).alloc (.cells #[fv] 253)).heap.size:=by simp
   go_upto_region 14 with fail
   rw [←Mr];clear hmk wB m2' own hM rG Zj Gg UZ;generalize (wr.alloc (.cells (madeCells #[.int .i64 0] C.length) 3)).alloc (.cells #[fv] 253)=V2 at *;obtain⟨bo,K3⟩:=Am8 wr.heap.size;rw [←K3]at Td Mr ND H8 NT ⊢;have AeE:w.heap.size<=bo:=(by omega);clear K3;have Tc:V2.ownsRow w.heap.size 3 1 (.slice (some ⟨bo,0,none⟩) C.length C.length) C.length (Jd W C 0):=(by rw [Aio];exact Td);have m2:=Ab (o:=0) n2 rfl
   have Sl:∀i (hi:i<C.length),leftOf W (Ch.aOf C[i]).x<W.length+1:=fun i hi=>by have:leftOf W (Ch.aOf C[i]).x<=W.length:=List.countP_le_length;omega
   have qw:=Am9 Mr;clear Td Mr
   go_upto_region 15 with fail
   clear m2
   go_loopw [38] (fun i w3=>∃k:Nat,i=.int .i64 (k:Nat)/\k<=C.length/\w3.ownsRow w.heap.size 3 1 (.slice (some ⟨bo,0,none⟩) C.length C.length) C.length (Jd W C k)/\Au (fun j=>j=bo) V2 w3) (fun i _=>C.length-(intOf i).toNat)
   case atStart=>exact⟨0,rfl,by omega,Tc,Au.refl _ _⟩
   case round=>
    obtain⟨k,rfl,hk3,Du,BM⟩:=hrel;have CW:Aa w wr:=BM.toExt C3 (fun j e=>by subst e;exact AeE);by_cases hlt:k<C.length
    ·have hR:QD B wr r b1 b2 L E R0 (bn+1) bn (bo+1) (bn+1+1+1) (bn+1+1) A cap C:=⟨h.ext CW,hC.ext CW,Ab (BM.cells n2 (by omega)) rfl,Ab (BM.cells n1 (by omega)) rfl,by rw [←qw.out];exact Ab (BM.cells ND (by omega)) rfl,Ab (BM.cells n4 (by omega)) rfl,BM.cells Ht (by omega)⟩;have fc:=AbY hW hG (W.length+1) k hlt (Sl k hlt) wr (hw.ext CW) hR;have hcf:wr.cell? ⟨bo+1,0,none⟩=some (.func (.func 233) #[] #[.pointer (some ⟨bn+1,0,none⟩),.pointer (some ⟨bn,0,none⟩),.pointer (some ⟨bo+1,0,none⟩),.pointer (some ⟨bn+1+1+1,0,none⟩)]):=hR.cf;obtain⟨z,hz⟩:=Am8 (Ch W C (W.length+1) k);rw [←hz]at fc;have hk0:(0:Int)<=(k:Int):=(by omega);have Cb:(k:Int)<(C.length:Int):=(by omega);have HZ:=Am9 hz;clear hz hR;have DY:(Jd W C k)[k]?=some (.int .i64 0):=(by unfold Jd;simp [hlt]);have FR:=Ain W C hlt;rw [←HZ.out]at FR;have HS:=Am9 FR;clear FR;(go_wp2_with fail);(with_reducible refine fc.mono ?_);rintro e w4 ⟨rfl,Ai⟩;have BW:=AI Du Ai;have hce:=(BW.cellAt k (by omega)).trans DY;have Vl:=BW.frozenAt k;have hst:=(BW.stored k (.int .i64 z)).1;have hg4:=(BW.stored k (.int .i64 z)).2;have DV:=(BM.ext Ai).grown hg4 (fun q e=>by cases e;exact .inl rfl);rw [HS.out]at hst;clear hg4 BM Du BW fc hcf;go_wp2;go_roundw
     case rel=>exact⟨k+1,by go_num,hlt,hst,DV⟩
     case measure=>simp [intOf];omega
    ·have Bw:k=C.length:=(by omega);subst Bw;rw [Aim]at Du;obtain⟨A2,cap2,Hz,IU,-,-⟩:=Ae.of_own' (by omega) Du;simp only [Value.slice.injEq,true_and]at Hz;obtain⟨rfl,-⟩:=Hz;go_wp2;go_ret;exact⟨_,rfl,IU,CW⟩
end Go.Proofs.YtjalkoacphhgdaaGreatDoor
namespace Go.Proofs.YtjalkoacphhgdaaGreatDoor
open Go.RowKit Kl
def Dd(P:List (List Pt×Bs))(i:Nat):List Pt:=(P.take i).flatMap (·.1)
def QV(P:List (List Pt×Bs)):List Pt:=Lib.compact (EC (Dd P P.length))
theorem nT{P:List (List Pt×Bs)}{i:Nat}(h:i<P.length):Dd P (i+1)=Dd P i++P[i].1:=by
 unfold Dd;rw [AmF h,List.flatMap_append];simp
theorem Y9{P:List (List Pt×Bs)}(hP:∀e∈P,e.1.length<=60):∀i,i<=P.length→(Dd P i).length<=i*60
 | 0,_=>by simp [Dd]
 | i+1,h=>by rw [nT (show i<P.length by omega),List.length_append];have h1:=Y9 hP i (by omega);have h2:=hP _ (AmD (show i<P.length by omega));omega
theorem aa{P:List (List Pt×Bs)}{i:Nat}{q:Pt}(h:q∈Dd P i):∃e∈P,q∈e.1:=by
 unfold Dd at h;rw [List.mem_flatMap]at h;obtain⟨e,he,hq⟩:=h;exact⟨e,List.mem_of_mem_take he,hq⟩
theorem mem_compact{l:List Pt}{q:Pt}(h:q∈Lib.compact l):q∈l:=by
 unfold Lib.compact Lib.compactUpTo at h;rw [List.mem_map]at h;obtain⟨j,hj,rfl⟩:=h;have hj':j<l.length:=(by simpa using (List.mem_filter.1 hj).1);rw [getElem!_pos l.toArray j (by simpa using hj')];simp
theorem AaN(l:List Pt):(Lib.compact l).length<=l.length:=by
 unfold Lib.compact Lib.compactUpTo;rw [List.length_map];refine AmM (List.length_filter_le _ _) ?_;simp
section
variable {ops : Array Oper} {rest : List Oper} {o : Oper} {a : Act} {Q : Exit → Act → World → Prop}
theorem ye(hgd:o.guard=none)(s x:Operand)(ho:o.op=.call {callee:=.builtin .append,args:=#[s,x],argTypes:=#[33,33]})
  (wN:World) (base:Nat) (v:Value) (n:Nat) (l:List Pt) (hs:a.eval s=v) (hown:wN.ownsRow base 92 2 v n (flat (Ao l))) (hn:n<200000) (m:List Pt) (A:Option Addr) (c:Nat) (hx:a.eval x=.slice A m.length c) (hr:Ae wN A (flat (Ao m))) (hm:0<m.length) (IM:m.length<=1000) (hbase:base<=wN.heap.size)
  (h:∀v' w',w'.ownsRow base 92 2 v' (n+m.length) (flat (Ao (l++m)))→(∀w0,Aa w0 wN→w0.heap.size<=base→Aa w0 w')→wpList Tryz.prog ops Q rest (a.put o.dst v') w') :
  wpList Tryz.prog ops Q (o::rest) a wN:=by
 obtain⟨i0,hi,hz0,hz1,hz2⟩:=info_parts Tryz.infoPt;have NH:(flat (Ao m)).length=m.length*2:=(by rw [flat_length];simp [Ao]);obtain⟨b,oo,rfl,hc⟩:=hr.ad (by omega);have RO:(n+m.length)*32<=140737488355328:=(by omega);have C5:n+m.length<=maxLen:=(by unfold maxLen;omega);refine wpList_plain hgd fun K hK=>wp_append_own _ s x 33 ho base 92 i0 (.agg #[S [],S []]) 2 32 Tryz.underlying33 hi hz0 hz1 hz2 rfl (by omega) v n _ hs hown ⟨b,oo,none⟩ m.length c (flat (Ao m)) hx ?_ ?_ ?_ C5 RO hbase ?_
 ·exact NH
 ·intro j u hu;obtain⟨hj,e⟩:=List.getElem?_eq_some_iff.1 hu;rw [Addr.add_lit,←e];exact hc j hj
 ·intro u hu;unfold flat at hu;simp only [List.mem_flatMap,List.mem_cons,AmN,or_false]at hu;obtain⟨p,_,rfl|rfl⟩:=hu<;>rfl
 ·intro v' w' h2 h3 _;refine hK _ _ (h v' w' ?_ (fun w0 he AZ=>?_))
  ·have e:flat (Ao (l++m))=flat (Ao l)++flat (Ao m):=(by unfold flat Ao;simp);rw [e];exact h2
  ·exact he.grown h3 fun k hk=>by
    rcases hown.2 with⟨rfl,_⟩|⟨g,cap,cur,rfl,hb',_⟩
    ·cases hk
    ·simp only [Value.ownBlock,AmG]at hk;omega
end
section
open Go.ChangeMaps (setBlock)
theorem zK:Js 252 92 3 (.int .i64 0) Ak Ap where
 map:=Tryz.underlying252
 st:=⟨_,Tryz.underlying92⟩
 zero:=fun W=>by simp [go_sem]
 eq:=pL
 chk:=mZ
 iff:=Ct
 bits:=fun x=>by unfold Ak;simp [Instr.sameBits,beq_toListBytes]
def Lx(L:List (Pt×Int)):List (Pt×Value×Nat):=L.mapIdx fun i e=>(e.1,.int .i64 e.2,i)
theorem Ajq(L:List (Pt×Int))(e:Pt×Int):Lx (L ++ [e])=Lx L ++ [(e.1,.int .i64 e.2,L.length)]:=by simp [Lx,List.mapIdx_append]
theorem Ajp{L:List (Pt×Int)}{x:Pt×Value×Nat}(h:x∈Lx L):∃e∈L,x.1=e.1:=by
 unfold Lx at h;rw [List.mem_mapIdx]at h;obtain⟨i,hi,rfl⟩:=h;exact⟨L[i],AmD hi,rfl⟩
def Gx(p:Pt)(L:List (Pt×Int)):Int:=match L.find? (fun e=>Ap p e.1)with|some e=>e.2|none=>0
theorem AfT(p:Pt)(L:List (Pt×Int)):EX Ap (.int .i64 0) p (Lx L)=.int .i64 (Gx p L):=by
 have h:∀(L:List (Pt×Int)) (n:Nat),EX Ap (.int .i64 0) p (L.mapIdx fun i e=>(e.1,.int .i64 e.2,i+n))=.int .i64 (Gx p L):=by
  intro L
  induction L with
  | nil=>intro n;simp [EX,Gx]
  | cons e L ih=>
   intro n;rw [List.mapIdx_cons];unfold EX Gx;rw [List.find?_cons,List.find?_cons];simp only
   cases hb:Ap p e.1
   ·simp only;have:=ih (n+1)
    have e1:(L.mapIdx fun i e=>(e.1,Value.int .i64 e.2,i+1+n))=L.mapIdx fun i e=>(e.1,Value.int .i64 e.2,i+(n+1)):=by congr 1;funext i e;rw [show i+1+n=i+(n+1)by omega]
    rw [e1];unfold EX Gx at this;exact this
   ·rfl
 exact h L 0
def Hh(W:World)(b:Nat)(l:List (Pt×Int)):Prop:=W.heap[b]?=some (.map (Ax Ak (Lx l)).toArray l.length)
theorem Hh.ext{W W':World}{b:Nat}{l:List (Pt×Int)}(h:Hh W b l)(hx:Aa W W'):Hh W' b l:=(hx.block b (AmA h)).trans h
theorem Hh.put{W:World}{b:Nat}{l:List (Pt×Int)}(h:Hh W b l)(p:Pt)(hno:∀e∈l,Ap p e.1=false)(z:Int) :
  ∃W',(Instr.mapUpdate 252 (.map (some b)) (Ak p) (.int .i64 z)).run Tryz.prog W=.ok () W'/\Hh W' b (l ++ [(p,z)])/\W.grownBy W' (some b)/\W'.heap.size=W.heap.size:=by
 refine⟨_,gV zK p (Lx l) (fun e he=>by obtain⟨e',h1,h2⟩:=Ajp he;rw [h2];exact hno e' h1) (.int .i64 z) h,?_,Kv h,by simp [setBlock]⟩;unfold Hh;rw [Ls h,Ajq,List.length_append]
 rfl
theorem Hh.look{W:World}{b:Nat}{l:List (Pt×Int)}(h:Hh W b l)(p:Pt):(Instr.lookup 252 (.map (some b)) (Ak p) false).run Tryz.prog W=.ok (.int .i64 (Gx p l)) W:=by
 rw [Qi zK p (Lx l) h,AfT]
theorem jr(k:Int)(l:List (Int×Int)){b clock:Nat}{W:World}(hb:W.heap[b]?=some (.map (Ku l).toArray clock)) :
  (Instr.lookup 212 (.map (some b)) (.int .i64 k) false).run Tryz.prog W=.ok (.int .i64 ((Cx k l).getD 0)) W:=by
 obtain⟨x,h1,h2⟩:=YR k l W;have hz:(zeroValue 3).run Tryz.prog W=.ok (.int .i64 0) W:=(by simp [go_sem]);have hc:∀b,(Instr.checkKey b 10000 3 (.int .i64 k)).run Tryz.prog W=.ok () W:=fun b=>MapKept.run_checkKey (k:=.int .i64 k) Tryz.underlying3 (by simp [MapKept.IsKey]) b 9999;have hm:=run_underlying (w:=W) Tryz.underlying212
 cases h:Cx k l with
 | none=>
  rw [h]at h2;have hx:x=none:=(by simpa using h2);subst hx;simp [Instr.lookup,hm,MapKept.run_getObj_map hb,hc,h1,hz,Result.andThen]
 | some z=>rw [h]at h2;obtain⟨⟨i,v⟩,rfl,hv⟩:=Option.map_eq_some_iff.1 h2;simp only at hv;subst hv;simp [Instr.lookup,hm,MapKept.run_getObj_map hb,hc,h1,Result.andThen]
theorem Au.mono{K K':Nat→Prop}{w w':World}(h:Au K w w')(hk:∀k,K k→K' k):Au K' w w':=⟨h.os,h.tape,h.output,h.size,fun k h1 h2=>h.block k h1 (fun h3=>h2 (hk k h3))⟩
structure G4(wr:World)(B bx bn bm bu:Nat)(U:Option Addr)(cu:Nat)(units:List Bs)(P E F:Value)(nm:List (Int×Int))(Am:List Bs):Prop where
 cN:wr.heap[bx]?=some (.cells #[.map (some bn)] 212)
 num:F5 wr bn nm
 cM:wr.heap[bm]?=some (.cells #[P,E,F] 36)
 fac:wr.ownsRow B 9 1 F Am.length (Am.map S)
 cU:wr.heap[bu]?=some (.cells #[.slice U units.length cu] 23)
 uni:Ae wr U (units.map S)
 uB:∀x,U=some x→x.block<B
theorem G4.extn{w w':World}{B bx bn bm bu:Nat}{U:Option Addr}{cu:Nat}{units:List Bs}{P E F:Value}{nm:List (Int×Int)}{Am:List Bs}(h:G4 w B bx bn bm bu U cu units P E F nm Am)(hx:Aa w w'):G4 w' B bx bn bm bu U cu units P E F nm Am:=
 ⟨(hx.block _ (AmA h.cN)).trans h.cN,(hx.block _ (AmA h.num)).trans h.num,(hx.block _ (AmA h.cM)).trans h.cM,AI h.fac hx,(hx.block _ (AmA h.cU)).trans h.cU,h.uni.ext hx,h.uB⟩
theorem G4.far{w w':World}{B bx bn bm bu:Nat}{U:Option Addr}{cu:Nat}{units:List Bs}{P E F:Value}{nm:List (Int×Int)}{Am:List Bs}(h:G4 w B bx bn bm bu U cu units P E F nm Am){K:Nat→Prop}(hb:Au K w w')
  (k1:¬K bx) (k2:¬K bn) (k3:¬K bm) (k4:¬K bu) (k5:∀k,F.ownBlock=some k→¬K k) (k6:∀x,U=some x→0<units.length→¬K x.block):G4 w' B bx bn bm bu U cu units P E F nm Am:=by
 refine⟨(hb.block _ (AmA h.cN) k1).trans h.cN,(hb.block _ (AmA h.num) k2).trans h.num,(hb.block _ (AmA h.cM) k3).trans h.cM,CB h.fac hb k5,(hb.block _ (AmA h.cU) k4).trans h.cU,⟨fun h0=>?_⟩,h.uB⟩;obtain⟨b,o,e,hc⟩:=h.uni.ad h0;refine⟨b,o,e,fun j hj=>?_⟩;have h1:=hc j hj;exact(World.cell?_of_block (a:=⟨b,o+j,none⟩) (hb.block b (World.block_lt_of_cell? w _ h1) (k6 _ e (by simpa using h0)))).trans h1
def Ot(w:World)(B bx bn bm bu:Nat)(U:Option Addr)(cu:Nat)(units:List Bs)(P E F:Value)(z:Int)(Fw:List (Int×Int))(Bl:List Bs)(e:Ending)(w':World):Prop:=
 ∃F',e=.returned (.int .i64 z)/\G4 w' B bx bn bm bu U cu units P E F' Fw Bl/\Au (fun k=>k=bn∨k=bm∨F.ownBlock=some k) w w'
theorem AbO{w:World}{B bx bn bm bu:Nat}{U:Option Addr}{cu:Nat}{units:List Bs}{P E F:Value}{nm:List (Int×Int)}{Am:List Bs}(h:G4 w B bx bn bm bu U cu units P E F nm Am)(f z:Int)(hf:Cx f nm=some z) :
  Calls Tryz.prog 196 #[.int .i64 f,.pointer (some ⟨bx,0,none⟩),.pointer (some ⟨bm,0,none⟩),.pointer (some ⟨bu,0,none⟩)] w (Ot w B bx bn bm bu U cu units P E F z nm Am):=by
 have k0:=Ab (o:=0) h.cN rfl;have lk:=gR f nm h.num;have NY:=jr f nm h.num;rw [hf]at lk NY;simp only [Option.getD_some,Option.isSome_some]at lk NY;go_enter Tryz.func196,Tryz.ntmps196;go_wp2;go_ret;exact⟨F,rfl,h,Au.refl _ _⟩
theorem AbN{w:World}{B bx bn bm bu:Nat}{U:Option Addr}{cu:Nat}{units:List Bs}{P E F:Value}{nm:List (Int×Int)}{Am:List Bs}(h:G4 w B bx bn bm bu U cu units P E F nm Am)(hB:B<=w.heap.size)(hBn:B<=bn)(hBm:B<=bm)(m:Nat)(hf:Cx (m:Int) nm=none)(hm:m<units.length)(JG:units.length<=100000)(NH:Am.length<=100000) :
  Calls Tryz.prog 196 #[.int .i64 (m:Nat),.pointer (some ⟨bx,0,none⟩),.pointer (some ⟨bm,0,none⟩),.pointer (some ⟨bu,0,none⟩)] w (Ot w B bx bn bm bu U cu units P E F (Am.length:Nat) (nm ++ [((m:Int),(Am.length:Int))]) (Am ++ [units[m]])):=by
 have k0:=Ab (o:=0) h.cN rfl;have lk:=gR (m:Int) nm h.num;rw [hf]at lk;simp only [Option.getD_none,Option.isSome_none]at lk;obtain⟨W1,hput,FC,hg1,hs1⟩:=h.num.put (m:Int) (Am.length:Int) hf;have hb1:Au (fun k=>k=bn) w W1:=(Au.refl (fun k=>k=bn) w).grown hg1 (fun k e=>by cases e;exact .inl rfl)
 have nx:bx≠bn:=by
  intro e;have:=h.num;unfold F5 at this;rw [←e,h.cN]at this
  cases this
 have cj:bm≠bn:=by
  intro e;have:=h.num;unfold F5 at this;rw [←e,h.cM]at this
  cases this
 have nu:bu≠bn:=by
  intro e;have:=h.num;unfold F5 at this;rw [←e,h.cU]at this
  cases this
 have nF:F.ownBlock≠some bn:=by
  intro e
  rcases h.fac.2 with⟨h',_⟩|⟨g,cap,cur,h',_,hgb,_⟩
  ·rw [h']at e;cases e
  ·rw [h']at e;simp only [Value.ownBlock,AmG]at e;subst e;have:=h.num;unfold F5 at this;rw [hgb]at this
   cases this
 have c1:=(hb1.block _ (AmA h.cN) nx).trans h.cN;have c2:=(hb1.block _ (AmA h.cM) cj).trans h.cM;have c3:=(hb1.block _ (AmA h.cU) nu).trans h.cU;have c4:=CB h.fac hb1 (fun k hk e=>by subst e;exact nF hk)
 have c5:Ae W1 U (units.map S):=⟨fun h0=>by
  obtain⟨b,o,e,hc⟩:=h.uni.ad h0;refine⟨b,o,e,fun j hj=>?_⟩;have h1:=hc j hj
  exact(World.cell?_of_block (a:=⟨b,o+j,none⟩) (hb1.block b (World.block_lt_of_cell? w _ h1) (fun e'=>by have:=h.uB _ e;simp only at this;omega))).trans h1⟩
 have hB1:B<=W1.heap.size:=(by omega);obtain⟨ub,uo,rfl,hu⟩:=c5.ad (by simp;omega);have hum:=hu m (by simp;omega);have Amd:ub<B:=h.uB _ rfl;obtain⟨s,hs⟩:=Am8 (units[m]);rw [List.getElem_map,←hs]at hum;rw [←hs];obtain⟨oF,cF,rfl,-,-,-⟩:=Ae.of_own' (by omega) h.fac;have k1:w.cell? ⟨bm,2,none⟩=some (.slice oF Am.length cF):=Ab h.cM rfl;have k2:W1.cell? ⟨bm,2,none⟩=some (.slice oF Am.length cF):=Ab c2 rfl;have k3:=Ab (o:=0) c3 rfl;have hm0:(0:Int)<=(m:Int):=(by omega);have hm1:(m:Int)<(units.length:Int):=(by omega);have HN:=Am9 FC;have po:=Am9 hb1;have HW:=Am9 h;have qq:=Am9 hf;clear hu hs hf FC hb1 hg1 hs1 h;go_enter Tryz.func196,Tryz.ntmps196
 go_upto_region 4 with fail
 have hFM:(Value.slice oF Am.length cF).ownBlock≠some bm:=Bp c4 c2 (by decide);have hFN:(Value.slice oF Am.length cF).ownBlock≠some bx:=Bp c4 c1 (by decide);have hFU:(Value.slice oF Am.length cF).ownBlock≠some bu:=Bp c4 c3 (by decide);have AcL:=AmA c2;have Ad4:Am.length<200000:=by omega
 go_region_law (refine Ajt rfl _ _ rfl _ B (.slice oF Am.length cF) Am.length Am rfl (AI c4 (by first|exact(Aa.refl W1).alloc _|exact((Aa.refl W1).alloc _).drew)) Ad4 s W1.heap.size (AmB W1 _) rfl (by simp;omega) ?_;intro v7 w7 KT aA Pp;obtain⟨PP,OG,rfl,-,-,-⟩:=Ae.of_own' (by omega) KT;have ET:=(Pp.block bm (by simp;omega) (fun e=>hFM e.symm)).trans ((((Aa.refl W1).alloc _).block bm AcL).trans c2);have e1:w7.cell? ⟨bm,2,none⟩=some (.slice oF Am.length cF):=Ab ET rfl;have e2:=AV (o:=2) ET)
 all_goals (
  have E4:Aa W1 ((W1.alloc (.cells #[S s] 9)).drew):=((Aa.refl W1).alloc _).drew;have Vm:((W1.alloc (.cells #[S s] 9)).drew).grownBy w7 (Value.slice oF Am.length cF).ownBlock:=Pp;have g7:∀{j:Nat} {o:Obj},W1.heap[j]?=some o→(Value.slice oF Am.length cF).ownBlock≠some j→w7.heap[j]?=some o:=fun {j o} hj hn=>(Vm.block j (AmL (AmA hj) E4.size) (fun e=>hn e.symm)).trans ((E4.block j (AmA hj)).trans hj);have UG:=g7 c1 hFN;have sL:=g7 c3 hFU;have DW:=g7 HN.out nF;have nxm:=DO c1 c2 (by decide);have num:=DO c3 c2 (by decide)
  have UV:Au (fun k=>k=bn∨k=bm∨(Value.slice oF Am.length cF).ownBlock=some k) w (w7.setCell ⟨bm,2,none⟩ (.slice PP (Am.length+1) OG)):=
   (((po.out.mono (fun k e=>.inl e)).ext E4).grown Vm (fun k e=>.inl (.inr (.inr e)))).setCell (p:=⟨bm,2,none⟩) (.inl (.inr (.inl rfl))) _
  have o8:=CB (K:=fun k=>k=bm) KT ((Au.refl (fun k=>k=bm) w7).setCell (p:=⟨bm,2,none⟩) (.inl rfl) (.slice PP (Am.length+1) OG)) (fun k hk e=>by subst e;exact Bp KT ET (by decide) hk)
  have N9:G4 (w7.setCell ⟨bm,2,none⟩ (.slice PP (Am.length+1) OG)) B bx bn bm bu (some ⟨ub,uo,none⟩) cu units P E (.slice PP (Am.length+1) OG) (nm ++ [((m:Int),(Am.length:Int))]) (Am ++ [s]):=by
   refine⟨?_,?_,Yr _ ET,by rw [List.length_append];exact o8,?_,⟨fun h0=>?_⟩,HW.out.uB⟩
   ·rw [D7 (by show bx≠bm;exact nxm)];exact UG
   ·unfold F5;rw [D7 (by show bn≠bm;exact fun e=>cj e.symm)];exact DW
   ·rw [D7 (by show bu≠bm;exact num)];exact sL
   ·obtain⟨b,o,e,hc⟩:=c5.ad h0;simp only [AmG,Addr.mk.injEq,and_true]at e;obtain⟨rfl,rfl⟩:=e;refine⟨ub,uo,rfl,fun j hj=>?_⟩;have h1:=hc j hj;have hlt:=World.block_lt_of_cell? W1 _ h1;have n1:ub≠bm:=(by omega);have n2:(Value.slice oF Am.length cF).ownBlock≠some ub:=fun e=>(by have:=(c4.lt ub e).1;omega);refine(World.cell?_of_block (a:=⟨ub,uo+j,none⟩) (show (w7.setCell ⟨bm,2,none⟩ (.slice PP (Am.length+1) OG)).heap[ub]?=W1.heap[ub]? from ?_)).trans h1;rw [D7 (by show ub≠bm;exact n1)];exact(Vm.block ub (AmL hlt E4.size) (fun e=>n2 e.symm)).trans (E4.block ub hlt)
  have v1:=Ab (o:=0) N9.cN rfl;have zU:=jr (m:Int) (nm ++ [((m:Int),(Am.length:Int))]) N9.num
  rw [show Cx (m:Int) (nm ++ [((m:Int),(Am.length:Int))])=some (Am.length:Int)by
   have aC:=qq.out;unfold Cx at aC ⊢;rw [List.find?_append]
   cases hq:nm.find? (fun e=>(m:Int) == e.1)with
   | some e=>rw [hq]at aC;cases aC
   | none=>simp]at zU
  simp only [Option.getD_some]at zU;clear ET e1 e2 Pp Vm KT aA g7 UG sL DW o8 E4;generalize (w7.setCell ⟨bm,2,none⟩ (.slice PP (Am.length+1) OG))=W8 at *;have rp:=Am9 N9;have pq:=Am9 UV;clear N9 UV;go_wp2;go_ret
  exact⟨_,rfl,rp.out,pq.out⟩)
end
section
open Go.Shelf
section
variable {P : Program} {ops : Array Oper} {Q : Exit → Act → World → Prop}
theorem Ak2{β:Type}{id:Nat}(s m:Nat)(val:β→Nat→Value)(St:β→Array Bool→World→Prop)(b0:β){a0:Act}{w:World}(hm:P.follows .mixedOrders=true)(hb:okB s m ops=true)(hB:s+m<=a0.tmps.size)(h0:St b0 (Array.replicate ops.size false) w.drew)
  (hstep:∀b listed a w i o,BX .any ops (val b) a0 listed a→St b listed w→ops[i]?=some o→listed.size=ops.size→listed.getD i false=false→(∀e∈o.after,Region.binds .any e=true→listed.getD e.on false=true)→
   o.wp P a w (fun a' w'=>∃b',a'=a.put o.dst (val b' i)/\(∀j,listed.getD j false=true→val b' j=val b j)/\St b' (listed.setIfInBounds i true) w') Q)
  (hend:∀b listed a w,BX .any ops (val b) a0 listed a→a.defers=a0.defers→(∀i,i<ops.size→listed.getD i false=true)→St b listed w→Q .normal a w):(Code.region id ops true).wp P Q a0 w:=by
 refine Ak1 (fun listed a w'=>∃b,(BX .any ops (val b) a0 listed a/\a.defers=a0.defers)/\St b listed w') hm (fun i o ho=>(Ih hb i o ho).2.2) (fun i o ho=>(Ih hb i o ho).2.1) ⟨b0,⟨BX.start,rfl⟩,h0⟩ ?_ ?_
 ·rintro listed a w' i o ⟨b,⟨Aj,FM⟩,hst⟩ hs Ay ho hd;have hi:i<ops.size:=(Array.getElem?_eq_some_iff.1 ho).1;have hr:i∈Region.ready .any ops listed:=mem_ready.2 ⟨getD_in (by omega) Ay,o,ho,hd⟩;refine Oper.wp_mono ?_ (hstep b listed a w' i o Aj hst ho hs Ay hd);rintro a' w2 ⟨b',rfl,hv,Aey⟩;have bN:BX .any ops (val b') a0 listed a:=⟨Aj.sz,Aj.lsz,fun j oj d hj hl ZZ=>by rw [hv j hl];exact Aj.done j oj d hj hl ZZ,Aj.rest,Aj.closed⟩;exact⟨b',⟨bN.step (fun i o ho=>(Ih hb i o ho).1) hB ho hr,by rw [←FM];cases o.dst<;>rfl⟩,Aey⟩
 ·rintro listed a w' ⟨b,⟨Aj,FM⟩,hst⟩ hall;exact hend b listed a w' Aj FM hall hst
end
theorem BX.lit{md:Region.Mode}{ops:Array Oper}{val:Nat→Value}{a0 a:Act}{listed:Array Bool}{s m:Nat}(h:BX md ops val a0 listed a)(hb:okB s m ops=true)(hm:m<=ops.size)(hs:s+m<=a0.tmps.size)(hall:∀i,i<ops.size→listed.getD i false=true)(hd:a.defers=a0.defers) :
  a=⟨(a0.tmps.toList.take s++((List.range m).map val++a0.tmps.toList.drop (s+m))).toArray,a0.defers⟩:=by
 refine lG ?_ ?_ hd
 ·rw [h.sz];simp only [List.length_append,List.length_take,List.length_map,List.length_range,List.length_drop,Array.length_toList];omega
 ·intro d IH;simp only [List.length_append,List.length_take,List.length_map,List.length_range,List.length_drop,Array.length_toList]at IH
  have out:∀e,(e<s∨s+m<=e)→(he:e<a0.tmps.size)→a.eval (.tmp e)=a0.tmps.toList[e]'(by simpa using he):=fun e h1 he=>by refine h.out hb h1 ?_;simp [Act.eval,Array.getD_eq_getD_getElem?,Array.getElem?_eq_getElem he]
  by_cases h1:d<s
  ·rw [List.getElem_append_left (by simp;omega)];rw [List.getElem_take];exact out d (.inl h1) (by omega)
  ·rw [List.getElem_append_right (by simp;omega)];simp only [List.length_take,Array.length_toList,Nat.min_eq_left (show s<=a0.tmps.size by omega)];by_cases h2:d<s+m
   ·rw [List.getElem_append_left (by simp;omega)];simp only [List.getElem_map,List.getElem_range];exact h.val hb (d-s) (by omega) (by omega) (hall _ (by omega)) rfl
   ·rw [List.getElem_append_right (by simp;omega)];simp only [List.length_map,List.length_range,List.getElem_drop];have e3:s+m+(d-s-m)=d:=(by omega);have:=out d (.inr (by omega)) (by omega);rw [this]
    congr 1
    omega
theorem zv{w:World}{b:Nat}{a0 a1 a2:Value}{t:TypeId}(v:Value)(h:w.heap[b]?=some (.cells #[a0,a1,a2] t)):(w.setCell ⟨b,1,none⟩ v).heap[b]?=some (.cells #[a0,v,a2] t):=by
 simp only [World.setCell,Array.getElem?_modify,h];simp
structure Cn where
 B:Nat
 bx:Nat
 bn:Nat
 bm:Nat
 bu:Nat
 bi:Nat
 r:Nat
 b1:Nat
 b2:Nat
 U:Option Addr
 cu:Nat
 units:List Bs
 P:Value
 idx:List (Pt×Int)
 L:List (Sg×Int)
structure Cn.Ok(c:Cn):Prop where
 r:c.r<c.B
 b1:c.b1<c.B
 bn:c.B<=c.bn
 bm:c.B<=c.bm
 ni:c.bi≠c.bn
def Cn.fn(c:Cn):Value:=.func (.func 196) #[] #[.pointer (some ⟨c.bx,0,none⟩),.pointer (some ⟨c.bm,0,none⟩),.pointer (some ⟨c.bu,0,none⟩)]
structure QC(c:Cn)(w:World):Prop where
 net:w.heap[c.r]?=some (.cells #[.map (some c.b1),.map (some c.b2)] 134)
 left:w.heap[c.b1]?=some (.map (Ax As (stamp c.L)).toArray c.L.length)
 idx:Hh w c.bi c.idx
structure Cs(c:Cn)(E F:Value)(nm:List (Int×Int))(Am:List Bs)(eds:List Av)(w:World):Prop where
 fc:G4 w c.B c.bx c.bn c.bm c.bu c.U c.cu c.units c.P E F nm Am
 rd:QC c w
 own:w.ownsRow c.B 126 4 E eds.length (Bz eds)
 size:c.B<=w.heap.size
def Jz(w:World)(b:Nat)(x:Sg):Prop:=w.heap[b]?=some (.cells #[S (R x.a.x),S (R x.a.y),S (R x.b.x),S (R x.b.y)] 155)
section
variable {c : Cn} {E F : Value} {nm : List (Int × Int)} {Am : List Bs} {eds : List Av} {w w' : World}
theorem QC.but(h:QC c w){K:Nat→Prop}(hb:Au K w w')(k1:¬K c.r)(k2:¬K c.b1)(k3:¬K c.bi):QC c w':=
 ⟨(hb.block _ (AmA h.net) k1).trans h.net,(hb.block _ (AmA h.left) k2).trans h.left,(hb.block _ (AmA h.idx) k3).trans h.idx⟩
theorem Cs.ext(h:Cs c E F nm Am eds w)(hx:Aa w w'):Cs c E F nm Am eds w':=
 ⟨h.fc.extn hx,⟨(hx.block _ (AmA h.rd.net)).trans h.rd.net,(hx.block _ (AmA h.rd.left)).trans h.rd.left,(hx.block _ (AmA h.rd.idx)).trans h.rd.idx⟩,AI h.own hx,AmM h.size hx.size⟩
theorem Wy{B:Nat}{e:TypeId}{s n:Nat}{v:Value}{xs:List Value}(h:w.ownsRow B e s v n xs){j:Nat}{es:Array MapEntry}{k:Nat}(hj:w.heap[j]?=some (.map es k)):v.ownBlock≠some j:=by
 intro hk
 rcases h.2 with⟨h',_⟩|⟨g,cap,cur,h',_,hgb,_⟩
 ·rw [h']at hk;cases hk
 ·rw [h']at hk;simp only [Value.ownBlock,AmG]at hk;subst hk;rw [hgb]at hj
  cases hj
theorem LQ{i j:Nat}{cs:Array Value}{t:TypeId}{f:Nat×Nat}{es:Array MapEntry}{k:Nat}(hi:w.heap[i]?=some (.cells cs t f))(hj:w.heap[j]?=some (.map es k)):i≠j:=by
 rintro rfl;rw [hi]at hj
 cases hj
theorem Cs.named(ok:c.Ok)(h:Cs c E F nm Am eds w){F':Value}{Fw:List (Int×Int)}{Bl:List Bs}(hf:G4 w' c.B c.bx c.bn c.bm c.bu c.U c.cu c.units c.P E F' Fw Bl)(hb:Au (fun k=>k=c.bn∨k=c.bm∨F.ownBlock=some k) w w'):Cs c E F' Fw Bl eds w':=by
 have o1:=ok.r;have o2:=ok.b1;have o3:=ok.bn;have o4:=ok.bm;refine⟨hf,h.rd.but hb ?_ ?_ ?_,CB h.own hb ?_,AmM h.size hb.size⟩
 ·rintro(e|e|e)
  ·omega
  ·omega
  ·have:=(h.fc.fac.lt _ e).1;omega
 ·rintro(e|e|e)
  ·omega
  ·omega
  ·have:=(h.fc.fac.lt _ e).1;omega
 ·rintro(e|e|e)
  ·exact ok.ni e
  ·exact LQ h.fc.cM h.rd.idx e.symm
  ·exact Wy h.fc.fac h.rd.idx e
 ·rintro k hk (e|e|e)
  ·subst e;exact Wy h.own h.fc.num hk
  ·subst e;exact Bp h.own h.fc.cM (by decide) hk
  ·rcases h.fc.fac.2 with⟨h',_⟩|⟨g,cap,cur,h',_,hgb,_⟩
   ·rw [h']at e;cases e
   ·rw [h']at e;simp only [Value.ownBlock,AmG]at e;subst e;exact Bp h.own hgb (by decide) hk
theorem Cs.app(ok:c.Ok)(h:Cs c E F nm Am eds w){d:Av}{v':Value}(hg:w.grownBy w' E.ownBlock)(ho:w'.ownsRow c.B 126 4 v' (eds.length+1) (Bz (eds ++ [d]))) :
  w'.heap[c.bm]?=some (.cells #[c.P,E,F] 36)/\Cs c v' F nm Am (eds ++ [d]) (w'.setCell ⟨c.bm,1,none⟩ v'):=by
 have o1:=ok.r;have o2:=ok.b1;have o4:=ok.bm;have hb:Au (fun k=>E.ownBlock=some k) w w':=(Au.refl (fun k=>E.ownBlock=some k) w).grown hg (fun k e=>.inl e);have n1:=Bp h.own h.fc.cM (by decide);have n2:=Bp h.own h.fc.cN (by decide);have n3:=Bp h.own h.fc.cU (by decide);have n4:=Wy h.own h.fc.num;have n5:=Wy h.own h.rd.idx;have hM:=(hb.block _ (AmA h.fc.cM) n1).trans h.fc.cM
 have f1:G4 w' c.B c.bx c.bn c.bm c.bu c.U c.cu c.units c.P E F nm Am:=by
  refine h.fc.far hb n2 n4 n1 n3 ?_ ?_
  ·intro k hk e
   rcases h.own.2 with⟨h',_⟩|⟨g,cap,cur,h',_,hgb,_⟩
   ·rw [h']at e;cases e
   ·rw [h']at e;simp only [Value.ownBlock,AmG]at e;subst e;exact Bp h.fc.fac hgb (by decide) hk
  ·intro x hx _ e;have:=h.fc.uB x hx;have:=(h.own.lt _ e).1;omega
 have r1:QC c w':=h.rd.but hb (fun e=>by have:=(h.own.lt _ e).1;omega) (fun e=>by have:=(h.own.lt _ e).1;omega) n5;have hb2:Au (fun k=>k=c.bm) w' (w'.setCell ⟨c.bm,1,none⟩ v'):=(Au.refl (fun k=>k=c.bm) w').setCell (p:=⟨c.bm,1,none⟩) (.inl rfl) v';refine⟨hM,⟨⟨?_,?_,zv _ hM,CB f1.fac hb2 ?_,?_,⟨fun h0=>?_⟩,h.fc.uB⟩,r1.but hb2 (by omega) (by omega) ?_,by rw [List.length_append];exact CB ho hb2 (fun k hk e=>by subst e;exact Bp ho hM (by decide) hk),AmM h.size (AmM hb.size hb2.size)⟩⟩
 ·exact(hb2.block _ (AmA f1.cN) (DO f1.cN hM (by decide))).trans f1.cN
 ·exact(hb2.block _ (AmA f1.num) (fun e=>LQ hM f1.num e.symm)).trans f1.num
 ·intro k hk e;subst e;exact Bp f1.fac hM (by decide) hk
 ·exact(hb2.block _ (AmA f1.cU) (DO f1.cU hM (by decide))).trans f1.cU
 ·obtain⟨b,o,e,hc⟩:=f1.uni.ad h0;refine⟨b,o,e,fun j hj=>?_⟩;have h1:=hc j hj;exact(World.cell?_of_block (a:=⟨b,o+j,none⟩) (hb2.block b (World.block_lt_of_cell? w' _ h1) (fun e'=>by have:=h.fc.uB _ e;simp only at this;omega))).trans h1
 ·exact fun e=>LQ hM r1.idx e.symm
structure KB(B:Nat)(W w:World):Prop where
 kp:∀(k:Nat) (cs:Array Value) (t:TypeId) (f:Nat×Nat),t≠36→t≠9→t≠126→W.heap[k]?=some (.cells cs t f)→w.heap[k]?=some (.cells cs t f)
 bl:Below B W w
theorem KB.refl(B:Nat)(W:World):KB B W W:=⟨fun _ _ _ _ _ _ _ h=>h,Below.refl _ _⟩
theorem KB.trans{B:Nat}{a b d:World}(h:KB B a b)(k:KB B b d):KB B a d:=⟨fun i cs t f h1 h2 h3 h4=>k.kp i cs t f h1 h2 h3 (h.kp i cs t f h1 h2 h3 h4),h.bl.trans k.bl⟩
theorem KB.ext{B:Nat}{a b:World}(hx:Aa a b)(hB:B<=a.heap.size):KB B a b:=⟨fun _ _ _ _ _ _ _ h=>(hx.block _ (AmA h)).trans h,Below.mono hx hB⟩
theorem KB.named(ok:c.Ok)(h:Cs c E F nm Am eds w)(hb:Au (fun k=>k=c.bn∨k=c.bm∨F.ownBlock=some k) w w'):KB c.B w w':=by
 have o3:=ok.bn;have o4:=ok.bm;refine⟨fun k cs t f h1 h2 h3 h4=>(hb.block _ (AmA h4) ?_).trans h4,⟨hb.os,hb.tape,hb.output,hb.size,fun k hk=>hb.block k (AmL hk h.size) ?_⟩⟩
 ·rintro(e|e|e)
  ·exact LQ h4 h.fc.num e
  ·exact DO h4 h.fc.cM h1 e
  ·exact Bp h.fc.fac h4 (fun e'=>h2 e'.symm) e
 ·rintro(e|e|e)
  ·omega
  ·omega
  ·have:=(h.fc.fac.lt _ e).1;omega
theorem KB.app(h:Cs c E F nm Am eds w)(hg:w.grownBy w' E.ownBlock):KB c.B w w':=
 ⟨fun _ _ _ _ _ _ h3 h4=>(hg.block _ (AmA h4) (fun e=>Bp h.own h4 (fun e'=>h3 e'.symm) e.symm)).trans h4,(Below.refl c.B w).grown hg h.size (fun k e=>(h.own.lt k e).1)⟩
theorem KB.set(ok:c.Ok){P' E' F':Value}(hM:w.heap[c.bm]?=some (.cells #[P',E',F'] 36))(v:Value):KB c.B w (w.setCell ⟨c.bm,1,none⟩ v):=
 ⟨fun _ _ _ _ h1 _ _ h4=>(D7 (DO h4 hM h1)).trans h4,(Below.refl _ _).setCell (p:=⟨c.bm,1,none⟩) ok.bm v⟩
end
end
end Go.Proofs.YtjalkoacphhgdaaGreatDoor
