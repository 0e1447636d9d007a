/- V34: D4 BK BQ BR BS. -/
import Derived.Laws.EntriesVeiled
import Derived.Test.YtbejphgbbpplbaaGreatDoorV32
set_option maxRecDepth 100000
set_option maxHeartbeats 8000000
namespace Go.Proofs.YtbejphgbbpplbaaGreatDoor
open Go.RowKit Kl
open Go.ChangeMaps (setBlock)
theorem cm{W:World}{b:Nat}{L:List (Sg×Int)}(h:W.heap[b]?=some (.map (Aw As (stamp L)).toArray L.length))(s:Sg)(hno:∀e∈L,AK s e.1=false)(z:Int) :
  ∃W',(Instr.mapUpdate 131 (.map (some b)) (As s) (.int .i64 z)).run Tryz.prog W=.ok () W'/\W'.heap[b]?=some (.map (Aw As (stamp (L ++ [(s,z)]))).toArray (L ++ [(s,z)]).length)/\W.grownBy W' (some b)/\W'.heap.size=W.heap.size:=by
 refine⟨_,iN Wh s (stamp L) ?_ (.int .i64 z) h,?_,Kw h,by simp [setBlock]⟩
 ·intro e he;obtain⟨x,hx,h1⟩:=jF he;rw [h1];exact hno x hx
 ·rw [Ls h,nj];simp
theorem lz{s t:Sg}(h:s≠t):AK s t=false:=by
 rw [Bool.eq_false_iff];exact fun k=>h (Iq.1 k)
theorem Ac8{C:List (List Sg)}(Cj:C.flatten.Nodup){k:Nat}(hk:k<C.length){j:Nat}(hj:j<C[k].length):∀e∈CS (C.take k)++(C[k].take j).map (fun s=>(s,(k:Int))),AK C[k][j] e.1=false:=by
 intro e he;refine lz fun hh=>?_;have h1:C=C.take k++C[k]::C.drop (k+1):=(by rw [←List.drop_eq_getElem_cons hk,List.take_append_drop]);have h2:C[k]=C[k].take j++C[k][j]::C[k].drop (j+1):=by rw [←List.drop_eq_getElem_cons hj,List.take_append_drop]
 have h3:C.flatten=(C.take k).flatten++(C[k]++(C.drop (k+1)).flatten):=by
  have:=congrArg List.flatten h1
  rwa [List.flatten_append,List.flatten_cons]at this
 rw [h3,List.nodup_append]at Cj;obtain⟨-,Dc,AdN⟩:=Cj;rw [List.nodup_append]at Dc;obtain⟨KQ,-,-⟩:=Dc
 rcases List.mem_append.1 he with he|he
 ·have:e.1∈(CS (C.take k)).map (·.1):=List.mem_map_of_mem he;rw [jb]at this;exact AdN _ this _ (List.mem_append_left _ (AmY hj)) hh.symm
 ·rw [List.mem_map]at he;obtain⟨s,hs,rfl⟩:=he;rw [h2,List.nodup_append]at KQ;exact KQ.2.2 _ hs _ List.mem_cons_self hh.symm
theorem eh(n:Nat)(hn:n<=200000)(c:Int)(hc:c=(n:Int))(W:World) :
  (Instr.makeSlice 69 (.int .i64 c) (.int .i64 c)).run Tryz.prog W=.ok (.slice (some ⟨W.heap.size,0,none⟩) n n) (W.alloc (.cells (madeCells #[.int .i64 0] n) 3)):=AgG n hn c hc W
def Je(W:List Sg)(C:List (List Sg))(k:Nat):List Value:=(List.range C.length).map (fun j=>Value.int .i64 (if j<k then Ch W C (W.length+1) j else 0))
theorem AiE(W:List Sg)(C:List (List Sg)):Je W C 0=zs (zn (List.replicate C.length 0)):=by
 unfold Je zs zn;apply List.ext_getElem
 ·simp
 ·intro i h1 h2;simp
theorem AiC(W:List Sg)(C:List (List Sg)):Je W C C.length=(JS W C).map (Value.int .i64):=by
 unfold Je JS;apply List.ext_getElem
 ·simp
 ·intro i h1 h2;have:i<C.length:=(by simpa using h1);simp [this]
theorem AiD(W:List Sg)(C:List (List Sg)){k:Nat}(_:k<C.length):(Je W C k).set k (.int .i64 (Ch W C (W.length+1) k))=Je W C (k+1):=by
 unfold Je;apply List.ext_getElem
 ·simp
 ·intro i h1 h2;by_cases h:k=i
  ·subst h;simp
  ·rw [List.getElem_set_ne h];have:(i<k+1)↔i<k:=(by omega);simp [this]
theorem Aa3(w:World)(o1 o2 o3 o4:Obj):∃W,W=(((w.alloc o1).alloc o2).alloc o3).alloc o4/\Aa w W/\W.heap.size=w.heap.size+4/\W.heap[w.heap.size]?=some o1/\W.heap[w.heap.size+1]?=some o2/\W.heap[w.heap.size+1+1]?=some o3/\W.heap[w.heap.size+1+1+1]?=some o4:=by
 obtain⟨V,hV,hE,h1,h2,h3⟩:=OF w o1 o2 o3;have hs:V.heap.size=w.heap.size+1+1+1:=(by rw [hV];simp);have FH:=(Aa.refl V).alloc o4;refine⟨_,by rw [←hV],hE.alloc o4,by simp [hs],(FH.block _ (AmV h1)).trans h1,(FH.block _ (AmV h2)).trans h2,(FH.block _ (AmV h3)).trans h3,?_⟩;rw [←hs];exact AmW V o4
def Dt(W:World)(b:Nat)(l:List (Sg×Int)):Prop:=W.heap[b]?=some (.map (Aw As (stamp l)).toArray l.length)
theorem Dt.far{W W':World}{b:Nat}{l:List (Sg×Int)}(h:Dt W b l){row:Option Nat}(hg:W.grownBy W' row)(hr:row≠some b):Dt W' b l:=(hg.block b (AmV h) (fun e=>hr e.symm)).trans h
theorem Dt.ext{W W':World}{b:Nat}{l:List (Sg×Int)}(h:Dt W b l)(hx:Aa W W'):Dt W' b l:=(hx.block b (AmV h)).trans h
theorem AiH{B:Nat}{w:World}(hw:An w){r b1 b2:Nat}{L:List (Sg×Int)}{E:List (Pt×Value×Nat)}{R0:List (Pt×List Pt)}(h:Bo B w r b1 b2 L E R0){W U:List Sg}{C:List (List Sg)}(hW:W=L.map (·.1))(hG:Qy W U C){A:Option Addr}{cap:Nat}(hC:L8 w A cap C) :
  Calls Tryz.prog 156 #[.pointer (some ⟨r,0,none⟩),.slice A C.length cap] w fun e w'=>∃A',e=.returned (.slice A' C.length C.length)/\Ae w' A' ((JS W C).map (Value.int .i64))/\Aa w w':=by
 have hmm:=@run_makeMap Tryz.prog;have AlG:=hC.cap1;have vC:=hC.cap2;go_enter Tryz.func156,Tryz.ntmps156
 go_upto_region 2 with fail
 obtain⟨W1,hW1,ER,hs1,hb1,hb2,hb3,hb4⟩:=Aa3 w (.cells #[.pointer (some ⟨r,0,none⟩)] 128) (.cells #[.slice A C.length cap] 209) (.map #[] 0) (.cells #[.map (some (w.heap.size+1+1))] 131);rw [←hW1];clear hW1;obtain⟨bn,BR⟩:=AmT w.heap.size;rw [←BR]at hb1 hb2 hb3 hb4 ⊢;have hle:w.heap.size<=bn:=(by omega);have OV:Dt W1 (bn+1+1) (CS (C.take 0)):=by rw [List.take_zero];exact hb3
 have rZ:C.length<=100000:=by have h1:=Wk hG.ok.ne;rw [hG.ok.flat]at h1;have h2:=JJ hG.ok.nd hG.ok.sub;have:=hG.len;omega
 have hl0:(0:Int)<=(C.length:Int):=(by omega);have Cj:C.flatten.Nodup:=(by rw [hG.ok.flat];exact hG.ok.nd);have XB:=AmU Cj;have m2:=Ab (o:=0) hb2 rfl;clear BR hb3 Cj
 go_upto_region 3 with fail
 go_loopw [16] (fun i wr=>∃k:Nat,i=.int .i64 (k:Nat)/\k<=C.length/\Dt wr (bn+1+1) (CS (C.take k))/\Au (fun j=>j=bn+1+1) W1 wr) (fun i _=>C.length-(intOf i).toNat)
 case atStart=>exact⟨0,rfl,by omega,OV,Au.refl _ _⟩
 case round=>
  obtain⟨k,rfl,hk,hM,hB⟩:=hrel;have BJ:Aa w wr:=hB.toExt ER (fun j e=>by subst e;omega);by_cases hlt:k<C.length
  ·obtain⟨bA,oA,A',c',rfl,hcell,AO,hc1,hc2⟩:=hC.row k hlt;replace hcell:=BJ.cellS hcell;have hk0:(0:Int)<=(k:Int):=(by omega);have Ci:(k:Int)<(C.length:Int):=(by omega);obtain⟨c,hcc⟩:=AmT (C[k]);have hfr:=fun j (hj:j<C[k].length)=>Ac8 XB.out hlt hj;rw [←hcc]at hcell AO hc1 hfr
   have Mc:CS (C.take (k+1))=CS (C.take k)++c.map (fun s=>(s,(k:Int))):=by rw [Ana hlt,jc,←hcc,List.length_take,Nat.min_eq_left (by omega)]
   have Xz:=AmU Mc;have ua:=AmU hfr;have EU:Dt wr (bn+1+1) (CS (C.take k)++(c.take 0).map (fun s=>(s,(k:Int)))):=(by rw [List.take_zero,List.map_nil,List.append_nil];exact hM);have hcl:(0:Int)<=(c.length:Int):=(by omega);clear hcc Mc hfr hM
   go_upto_region 6 with fail
   go_loopw [23] (fun i wi=>∃j:Nat,i=.int .i64 (j:Nat)/\j<=c.length/\Dt wi (bn+1+1) (CS (C.take k)++(c.take j).map (fun s=>(s,(k:Int))))/\Au (fun j=>j=bn+1+1) W1 wi) (fun i _=>c.length-(intOf i).toNat)
   case atStart=>exact⟨0,rfl,by omega,EU,hB⟩
   case round=>
    obtain⟨j,rfl,hj,UJ,Ru⟩:=hrel;have Pf:Aa w wr:=Ru.toExt ER (fun j e=>by subst e;omega);by_cases AV:j<c.length
    ·obtain⟨b',o',rfl,f1,f2,f3,f4⟩:=MO (AO.ext Pf) AV;have hno:=ua.out j AV
     have If:CS (C.take k)++(c.take (j+1)).map (fun s=>(s,(k:Int)))=(CS (C.take k)++(c.take j).map (fun s=>(s,(k:Int)))) ++ [(c[j],(k:Int))]:=by rw [Ana AV,List.map_append,←List.append_assoc];rfl
     obtain⟨s,hs⟩:=AmT (c[j]);rw [←hs]at f1 f2 f3 f4 hno If;have hj0:(0:Int)<=(j:Int):=(by omega);have Ms:(j:Int)<(c.length:Int):=(by omega);have Ay:=AmW wr (.cells #[S (R s.a.x),S (R s.a.y),S (R s.b.x),S (R s.b.y)] 155);have E4:=(Aa.refl wr).alloc (.cells #[S (R s.a.x),S (R s.a.y),S (R s.b.x),S (R s.b.y)] 155);have h4:=(E4.block _ (AmV (Ru.cells hb4 (by omega)))).trans (Ru.cells hb4 (by omega));obtain⟨Wp,hput,OX,Mp,-⟩:=cm (UJ.ext E4) s hno (k:Int);rw [←If]at OX;have Zo:=(Ru.ext E4).grown Mp (fun q e=>by cases e;exact .inl rfl);have X9:=AmU OX;clear hno If hs UJ Mp OX
     go_upto_region 8 with fail
     unfold S at Ay h4 hput;unfold As S at hput;have z0:=Ab (o:=0) Ay rfl;have z1:=Ab (o:=1) Ay rfl;have z2:=Ab (o:=2) Ay rfl;have z3:=Ab (o:=3) Ay rfl;have z4:=Ab (o:=0) h4 rfl;generalize (wr.alloc (.cells #[.string ⟨(R s.a.x).toArray⟩,.string ⟨(R s.a.y).toArray⟩,.string ⟨(R s.b.x).toArray⟩,.string ⟨(R s.b.y).toArray⟩] 155))=W4 at *;clear f1 f2 f3 f4 Ay h4;go_wp2;go_roundw
     case rel=>exact⟨j+1,by go_num,AV,X9.out,Zo⟩
     case measure=>simp [intOf];omega
    ·have JB:j=c.length:=(by omega);subst JB;have bK:(c.length:Int)<=(c.length:Int):=(by omega);rw [List.take_length,←Xz.out]at UJ;go_wp2;go_roundw
     case rel=>exact⟨k+1,by go_num,hlt,UJ,Ru⟩
     case measure=>simp [intOf];omega
  ·have B6:k=C.length:=(by omega);subst B6;rw [List.take_length]at hM;have hmk:=eh C.length (by omega) (C.length:Int) rfl wr;have xB:∀(fn:Fn) (first cap:Array Value) (w:World),(Instr.makeFunc fn first cap).run Tryz.prog w=.ok (.func fn first cap) w:=fun _ _ _ _=>rfl;have Vg:=hB.cells hb2 (by omega);have m2':=Ab (o:=0) Vg rfl;have own:=iw wr w.heap.size C.length (Ani ER.size hB.size) (by omega);have hx0:(w.heap.size:Nat)<=wr.heap.size:=Ani ER.size hB.size;have sJ:=(Aa.refl wr).alloc (.cells (madeCells #[.int .i64 0] C.length) 3);obtain⟨fv,Mo⟩:=AmT (Value.func (.func 233) #[] #[.pointer (some ⟨bn+1,0,none⟩),.pointer (some ⟨bn,0,none⟩),.pointer (some ⟨wr.heap.size+1,0,none⟩),.pointer (some ⟨bn+1+1+1,0,none⟩)]);have Zs:=(Aa.refl (wr.alloc (.cells (madeCells #[.int .i64 0] C.length) 3))).alloc (.cells #[fv] 248);have NA:=AmW (wr.alloc (.cells (madeCells #[.int .i64 0] C.length) 3)) (.cells #[fv] 248);rw [Anf]at NA;have Gl:=sJ.trans Zs;have C7:=BJ.trans Gl;have Tg:=AH own Zs;have Hx:=hM.ext Gl;have n1:=(Gl.block _ (AmV (hB.cells hb1 (by omega)))).trans (hB.cells hb1 (by omega));have n2:=(Gl.block _ (AmV Vg)).trans Vg;have n4:=(Gl.block _ (AmV (hB.cells hb4 (by omega)))).trans (hB.cells hb4 (by omega));have Ib:bn+1+1+1<wr.heap.size:=AmV (hB.cells hb4 (by omega));have NR:wr.heap.size+1<((wr.alloc (.cells (madeCells #[.int .i64 0] C.length) 3)).alloc (.cells #[fv] 248)).heap.size:=by simp
   go_upto_region 14 with fail
   rw [←Mo];clear hmk xB m2' own hM sJ Zs Gl Vg;generalize (wr.alloc (.cells (madeCells #[.int .i64 0] C.length) 3)).alloc (.cells #[fv] 248)=V2 at *;obtain⟨bo,K7⟩:=AmT wr.heap.size;rw [←K7]at Tg Mo NA Ib NR ⊢;have Afe:w.heap.size<=bo:=(by omega);clear K7;have Tf:V2.ownsRow w.heap.size 3 1 (.slice (some ⟨bo,0,none⟩) C.length C.length) C.length (Je W C 0):=(by rw [AiE];exact Tg);have m2:=Ab (o:=0) n2 rfl
   have Sp:∀i (hi:i<C.length),leftOf W (Ch.aOf C[i]).x<W.length+1:=fun i hi=>by have:leftOf W (Ch.aOf C[i]).x<=W.length:=List.countP_le_length;omega
   have ue:=AmU Mo;clear Tg Mo
   go_upto_region 15 with fail
   clear m2
   go_loopw [38] (fun i w3=>∃k:Nat,i=.int .i64 (k:Nat)/\k<=C.length/\w3.ownsRow w.heap.size 3 1 (.slice (some ⟨bo,0,none⟩) C.length C.length) C.length (Je W C k)/\Au (fun j=>j=bo) V2 w3) (fun i _=>C.length-(intOf i).toNat)
   case atStart=>exact⟨0,rfl,by omega,Tf,Au.refl _ _⟩
   case round=>
    obtain⟨k,rfl,hk3,Dw,BL⟩:=hrel;have CY:Aa w wr:=BL.toExt C7 (fun j e=>by subst e;exact Afe);by_cases hlt:k<C.length
    ·have hR:QE B wr r b1 b2 L E R0 (bn+1) bn (bo+1) (bn+1+1+1) (bn+1+1) A cap C:=⟨h.ext CY,hC.ext CY,Ab (BL.cells n2 (by omega)) rfl,Ab (BL.cells n1 (by omega)) rfl,by rw [←ue.out];exact Ab (BL.cells NA (by omega)) rfl,Ab (BL.cells n4 (by omega)) rfl,BL.cells Hx (by omega)⟩;have fc:=Ac4 hW hG (W.length+1) k hlt (Sp k hlt) wr (hw.ext CY) hR;have hcf:wr.cell? ⟨bo+1,0,none⟩=some (.func (.func 233) #[] #[.pointer (some ⟨bn+1,0,none⟩),.pointer (some ⟨bn,0,none⟩),.pointer (some ⟨bo+1,0,none⟩),.pointer (some ⟨bn+1+1+1,0,none⟩)]):=hR.cf;obtain⟨z,hz⟩:=AmT (Ch W C (W.length+1) k);rw [←hz]at fc;have hk0:(0:Int)<=(k:Int):=(by omega);have Ci:(k:Int)<(C.length:Int):=(by omega);have HZ:=AmU hz;clear hz hR;have Ea:(Je W C k)[k]?=some (.int .i64 0):=(by unfold Je;simp [hlt]);have FX:=AiD W C hlt;rw [←HZ.out]at FX;have HS:=AmU FX;clear FX;(go_wp2_with fail);(with_reducible refine fc.mono ?_);rintro e w4 ⟨rfl,Ai⟩;have BS:=AH Dw Ai;have hce:=(BS.cellAt k (by omega)).trans Ea;have Vr:=BS.frozenAt k;have hst:=(BS.stored k (.int .i64 z)).1;have hg4:=(BS.stored k (.int .i64 z)).2;have Gk:=(BL.ext Ai).grown hg4 (fun q e=>by cases e;exact .inl rfl);rw [HS.out]at hst;clear hg4 BL Dw BS fc hcf;go_wp2;go_roundw
     case rel=>exact⟨k+1,by go_num,hlt,hst,Gk⟩
     case measure=>simp [intOf];omega
    ·have B6:k=C.length:=(by omega);subst B6;rw [AiC]at Dw;obtain⟨A2,cap2,H9,IU,-,-⟩:=Ae.of_own' (by omega) Dw;simp only [Value.slice.injEq,true_and]at H9;obtain⟨rfl,-⟩:=H9;go_wp2;go_ret;exact⟨_,rfl,IU,CY⟩
end Go.Proofs.YtbejphgbbpplbaaGreatDoor
namespace Go.Proofs.YtbejphgbbpplbaaGreatDoor
open Go.RowKit Kl
def Dg(P:List (List Pt×Bs))(i:Nat):List Pt:=(P.take i).flatMap (·.1)
def QW(P:List (List Pt×Bs)):List Pt:=Lib.compact (ED (Dg P P.length))
theorem oW{P:List (List Pt×Bs)}{i:Nat}(h:i<P.length):Dg P (i+1)=Dg P i++P[i].1:=by
 unfold Dg;rw [Ana h,List.flatMap_append];simp
theorem YJ{P:List (List Pt×Bs)}(hP:∀e∈P,e.1.length<=60):∀i,i<=P.length→(Dg P i).length<=i*60
 | 0,_=>by simp [Dg]
 | i+1,h=>by rw [oW (show i<P.length by omega),List.length_append];have h1:=YJ hP i (by omega);have h2:=hP _ (AmY (show i<P.length by omega));omega
theorem dr{P:List (List Pt×Bs)}{i:Nat}{q:Pt}(h:q∈Dg P i):∃e∈P,q∈e.1:=by
 unfold Dg at h;rw [List.mem_flatMap]at h;obtain⟨e,he,hq⟩:=h;exact⟨e,List.mem_of_mem_take he,hq⟩
theorem mem_compact{l:List Pt}{q:Pt}(h:q∈Lib.compact l):q∈l:=by
 unfold Lib.compact Lib.compactUpTo at h;rw [List.mem_map]at h;obtain⟨j,hj,rfl⟩:=h;have hj':j<l.length:=(by simpa using (List.mem_filter.1 hj).1);rw [getElem!_pos l.toArray j (by simpa using hj')];simp
theorem Aby(l:List Pt):(Lib.compact l).length<=l.length:=by
 unfold Lib.compact Lib.compactUpTo;rw [List.length_map];refine Ani (List.length_filter_le _ _) ?_;simp
section
variable {ops : Array Oper} {rest : List Oper} {o : Oper} {a : Act} {Q : Exit → Act → World → Prop}
theorem zm(hgd:o.guard=none)(s x:Operand)(ho:o.op=.call {callee:=.builtin .append,args:=#[s,x],argTypes:=#[33,33]})
  (wN:World) (base:Nat) (v:Value) (n:Nat) (l:List Pt) (hs:a.eval s=v) (hown:wN.ownsRow base 94 2 v n (flat (Ao l))) (hn:n<200000) (m:List Pt) (A:Option Addr) (c:Nat) (hx:a.eval x=.slice A m.length c) (hr:Ae wN A (flat (Ao m))) (hm:0<m.length) (Gv:m.length<=1000) (hbase:base<=wN.heap.size)
  (h:∀v' w',w'.ownsRow base 94 2 v' (n+m.length) (flat (Ao (l++m)))→(∀w0,Aa w0 wN→w0.heap.size<=base→Aa w0 w')→wpList Tryz.prog ops Q rest (a.put o.dst v') w') :
  wpList Tryz.prog ops Q (o::rest) a wN:=by
 obtain⟨i0,hi,hz0,hz1,hz2⟩:=info_parts Tryz.infoPt;have NE:(flat (Ao m)).length=m.length*2:=(by rw [flat_length];simp [Ao]);obtain⟨b,oo,rfl,hc⟩:=hr.ad (by omega);have RS:(n+m.length)*32<=140737488355328:=(by omega);have BX:n+m.length<=maxLen:=(by unfold maxLen;omega);refine wpList_plain hgd fun K hK=>wp_append_own _ s x 33 ho base 94 i0 (.agg #[S [],S []]) 2 32 Tryz.underlying33 hi hz0 hz1 hz2 rfl (by omega) v n _ hs hown ⟨b,oo,none⟩ m.length c (flat (Ao m)) hx ?_ ?_ ?_ BX RS hbase ?_
 ·exact NE
 ·intro j u hu;obtain⟨hj,e⟩:=List.getElem?_eq_some_iff.1 hu;rw [Addr.add_lit,←e];exact hc j hj
 ·intro u hu;unfold flat at hu;simp only [List.mem_flatMap,List.mem_cons,Anj,or_false]at hu;obtain⟨p,_,rfl|rfl⟩:=hu<;>rfl
 ·intro v' w' h2 h3 _;refine hK _ _ (h v' w' ?_ (fun w0 he Bl=>?_))
  ·have e:flat (Ao (l++m))=flat (Ao l)++flat (Ao m):=(by unfold flat Ao;simp);rw [e];exact h2
  ·exact he.grown h3 fun k hk=>by
    rcases hown.2 with⟨rfl,_⟩|⟨g,cap,cur,rfl,hb',_⟩
    ·cases hk
    ·simp only [Value.ownBlock,Anb]at hk;omega
end
section
open Go.ChangeMaps (setBlock)
theorem ax:Js 247 94 3 (.int .i64 0) Ak Ap where
 map:=Tryz.underlying247
 st:=⟨_,Tryz.underlying94⟩
 zero:=fun W=>by simp [go_sem]
 eq:=qI
 chk:=nO
 iff:=Cx
 bits:=fun x=>by unfold Ak;simp [Instr.sameBits,beq_toListBytes]
def Lx(L:List (Pt×Int)):List (Pt×Value×Nat):=L.mapIdx fun i e=>(e.1,.int .i64 e.2,i)
theorem AjD(L:List (Pt×Int))(e:Pt×Int):Lx (L ++ [e])=Lx L ++ [(e.1,.int .i64 e.2,L.length)]:=by simp [Lx,List.mapIdx_append]
theorem AjC{L:List (Pt×Int)}{x:Pt×Value×Nat}(h:x∈Lx L):∃e∈L,x.1=e.1:=by
 unfold Lx at h;rw [List.mem_mapIdx]at h;obtain⟨i,hi,rfl⟩:=h;exact⟨L[i],AmY hi,rfl⟩
def G3(p:Pt)(L:List (Pt×Int)):Int:=match L.find? (fun e=>Ap p e.1)with|some e=>e.2|none=>0
theorem Ago(p:Pt)(L:List (Pt×Int)):Fb Ap (.int .i64 0) p (Lx L)=.int .i64 (G3 p L):=by
 have h:∀(L:List (Pt×Int)) (n:Nat),Fb Ap (.int .i64 0) p (L.mapIdx fun i e=>(e.1,.int .i64 e.2,i+n))=.int .i64 (G3 p L):=by
  intro L
  induction L with
  | nil=>intro n;simp [Fb,G3]
  | cons e L ih=>
   intro n;rw [List.mapIdx_cons];unfold Fb G3;rw [List.find?_cons,List.find?_cons];simp only
   cases hb:Ap p e.1
   ·simp only;have:=ih (n+1)
    have e1:(L.mapIdx fun i e=>(e.1,Value.int .i64 e.2,i+1+n))=L.mapIdx fun i e=>(e.1,Value.int .i64 e.2,i+(n+1)):=by congr 1;funext i e;rw [show i+1+n=i+(n+1)by omega]
    rw [e1];unfold Fb G3 at this;exact this
   ·rfl
 exact h L 0
def Hk(W:World)(b:Nat)(l:List (Pt×Int)):Prop:=W.heap[b]?=some (.map (Aw Ak (Lx l)).toArray l.length)
theorem Hk.ext{W W':World}{b:Nat}{l:List (Pt×Int)}(h:Hk W b l)(hx:Aa W W'):Hk W' b l:=(hx.block b (AmV h)).trans h
theorem Hk.put{W:World}{b:Nat}{l:List (Pt×Int)}(h:Hk W b l)(p:Pt)(hno:∀e∈l,Ap p e.1=false)(z:Int) :
  ∃W',(Instr.mapUpdate 247 (.map (some b)) (Ak p) (.int .i64 z)).run Tryz.prog W=.ok () W'/\Hk W' b (l ++ [(p,z)])/\W.grownBy W' (some b)/\W'.heap.size=W.heap.size:=by
 refine⟨_,iN ax p (Lx l) (fun e he=>by obtain⟨e',h1,h2⟩:=AjC he;rw [h2];exact hno e' h1) (.int .i64 z) h,?_,Kw h,by simp [setBlock]⟩;unfold Hk;rw [Ls h,AjD,List.length_append]
 rfl
theorem Hk.look{W:World}{b:Nat}{l:List (Pt×Int)}(h:Hk W b l)(p:Pt):(Instr.lookup 247 (.map (some b)) (Ak p) false).run Tryz.prog W=.ok (.int .i64 (G3 p l)) W:=by
 rw [Qj ax p (Lx l) h,Ago]
theorem lc(k:Int)(l:List (Int×Int)){b clock:Nat}{W:World}(hb:W.heap[b]?=some (.map (Kv l).toArray clock)) :
  (Instr.lookup 212 (.map (some b)) (.int .i64 k) false).run Tryz.prog W=.ok (.int .i64 ((C0 k l).getD 0)) W:=by
 obtain⟨x,h1,h2⟩:=YZ k l W;have hz:(zeroValue 3).run Tryz.prog W=.ok (.int .i64 0) W:=(by simp [go_sem]);have hc:∀b,(Instr.checkKey b 10000 3 (.int .i64 k)).run Tryz.prog W=.ok () W:=fun b=>MapKept.run_checkKey (k:=.int .i64 k) Tryz.underlying3 (by simp [MapKept.IsKey]) b 9999;have hm:=run_underlying (w:=W) Tryz.underlying212
 cases h:C0 k l with
 | none=>
  rw [h]at h2;have hx:x=none:=(by simpa using h2);subst hx;simp [Instr.lookup,hm,MapKept.run_getObj_map hb,hc,h1,hz,Result.andThen]
 | some z=>rw [h]at h2;obtain⟨⟨i,v⟩,rfl,hv⟩:=Option.map_eq_some_iff.1 h2;simp only at hv;subst hv;simp [Instr.lookup,hm,MapKept.run_getObj_map hb,hc,h1,Result.andThen]
theorem Au.mono{K K':Nat→Prop}{w w':World}(h:Au K w w')(hk:∀k,K k→K' k):Au K' w w':=⟨h.os,h.tape,h.output,h.size,fun k h1 h2=>h.block k h1 (fun h3=>h2 (hk k h3))⟩
structure G9(wr:World)(B bx bn bm bu:Nat)(U:Option Addr)(cu:Nat)(units:List Bs)(P E F:Value)(nm:List (Int×Int))(Am:List Bs):Prop where
 cN:wr.heap[bx]?=some (.cells #[.map (some bn)] 212)
 num:FB wr bn nm
 cM:wr.heap[bm]?=some (.cells #[P,E,F] 36)
 fac:wr.ownsRow B 9 1 F Am.length (Am.map S)
 cU:wr.heap[bu]?=some (.cells #[.slice U units.length cu] 23)
 uni:Ae wr U (units.map S)
 uB:∀x,U=some x→x.block<B
theorem G9.extn{w w':World}{B bx bn bm bu:Nat}{U:Option Addr}{cu:Nat}{units:List Bs}{P E F:Value}{nm:List (Int×Int)}{Am:List Bs}(h:G9 w B bx bn bm bu U cu units P E F nm Am)(hx:Aa w w'):G9 w' B bx bn bm bu U cu units P E F nm Am:=
 ⟨(hx.block _ (AmV h.cN)).trans h.cN,(hx.block _ (AmV h.num)).trans h.num,(hx.block _ (AmV h.cM)).trans h.cM,AH h.fac hx,(hx.block _ (AmV h.cU)).trans h.cU,h.uni.ext hx,h.uB⟩
theorem G9.far{w w':World}{B bx bn bm bu:Nat}{U:Option Addr}{cu:Nat}{units:List Bs}{P E F:Value}{nm:List (Int×Int)}{Am:List Bs}(h:G9 w B bx bn bm bu U cu units P E F nm Am){K:Nat→Prop}(hb:Au K w w')
  (k1:¬K bx) (k2:¬K bn) (k3:¬K bm) (k4:¬K bu) (k5:∀k,F.ownBlock=some k→¬K k) (k6:∀x,U=some x→0<units.length→¬K x.block):G9 w' B bx bn bm bu U cu units P E F nm Am:=by
 refine⟨(hb.block _ (AmV h.cN) k1).trans h.cN,(hb.block _ (AmV h.num) k2).trans h.num,(hb.block _ (AmV h.cM) k3).trans h.cM,CC h.fac hb k5,(hb.block _ (AmV h.cU) k4).trans h.cU,⟨fun h0=>?_⟩,h.uB⟩;obtain⟨b,o,e,hc⟩:=h.uni.ad h0;refine⟨b,o,e,fun j hj=>?_⟩;have h1:=hc j hj;exact(World.cell?_of_block (a:=⟨b,o+j,none⟩) (hb.block b (World.block_lt_of_cell? w _ h1) (k6 _ e (by simpa using h0)))).trans h1
def Ov(w:World)(B bx bn bm bu:Nat)(U:Option Addr)(cu:Nat)(units:List Bs)(P E F:Value)(z:Int)(Fz:List (Int×Int))(Bi:List Bs)(e:Ending)(w':World):Prop:=
 ∃F',e=.returned (.int .i64 z)/\G9 w' B bx bn bm bu U cu units P E F' Fz Bi/\Au (fun k=>k=bn∨k=bm∨F.ownBlock=some k) w w'
theorem Acy{w:World}{B bx bn bm bu:Nat}{U:Option Addr}{cu:Nat}{units:List Bs}{P E F:Value}{nm:List (Int×Int)}{Am:List Bs}(h:G9 w B bx bn bm bu U cu units P E F nm Am)(f z:Int)(hf:C0 f nm=some z) :
  Calls Tryz.prog 187 #[.int .i64 f,.pointer (some ⟨bx,0,none⟩),.pointer (some ⟨bm,0,none⟩),.pointer (some ⟨bu,0,none⟩)] w (Ov w B bx bn bm bu U cu units P E F z nm Am):=by
 have k0:=Ab (o:=0) h.cN rfl;have lk:=iL f nm h.num;have NY:=lc f nm h.num;rw [hf]at lk NY;simp only [Option.getD_some,Option.isSome_some]at lk NY;go_enter Tryz.func187,Tryz.ntmps187;go_wp2;go_ret;exact⟨F,rfl,h,Au.refl _ _⟩
theorem Acx{w:World}{B bx bn bm bu:Nat}{U:Option Addr}{cu:Nat}{units:List Bs}{P E F:Value}{nm:List (Int×Int)}{Am:List Bs}(h:G9 w B bx bn bm bu U cu units P E F nm Am)(hB:B<=w.heap.size)(hBn:B<=bn)(hBm:B<=bm)(m:Nat)(hf:C0 (m:Int) nm=none)(hm:m<units.length)(EZ:units.length<=100000)(NE:Am.length<=100000) :
  Calls Tryz.prog 187 #[.int .i64 (m:Nat),.pointer (some ⟨bx,0,none⟩),.pointer (some ⟨bm,0,none⟩),.pointer (some ⟨bu,0,none⟩)] w (Ov w B bx bn bm bu U cu units P E F (Am.length:Nat) (nm ++ [((m:Int),(Am.length:Int))]) (Am ++ [units[m]])):=by
 have k0:=Ab (o:=0) h.cN rfl;have lk:=iL (m:Int) nm h.num;rw [hf]at lk;simp only [Option.getD_none,Option.isSome_none]at lk;obtain⟨W1,hput,FI,hg1,hs1⟩:=h.num.put (m:Int) (Am.length:Int) hf;have hb1:Au (fun k=>k=bn) w W1:=(Au.refl (fun k=>k=bn) w).grown hg1 (fun k e=>by cases e;exact .inl rfl)
 have nx:bx≠bn:=by
  intro e;have:=h.num;unfold FB at this;rw [←e,h.cN]at this
  cases this
 have fj:bm≠bn:=by
  intro e;have:=h.num;unfold FB at this;rw [←e,h.cM]at this
  cases this
 have nu:bu≠bn:=by
  intro e;have:=h.num;unfold FB at this;rw [←e,h.cU]at this
  cases this
 have nF:F.ownBlock≠some bn:=by
  intro e
  rcases h.fac.2 with⟨h',_⟩|⟨g,cap,cur,h',_,hgb,_⟩
  ·rw [h']at e;cases e
  ·rw [h']at e;simp only [Value.ownBlock,Anb]at e;subst e;have:=h.num;unfold FB at this;rw [hgb]at this
   cases this
 have c1:=(hb1.block _ (AmV h.cN) nx).trans h.cN;have c2:=(hb1.block _ (AmV h.cM) fj).trans h.cM;have c3:=(hb1.block _ (AmV h.cU) nu).trans h.cU;have c4:=CC h.fac hb1 (fun k hk e=>by subst e;exact nF hk)
 have c5:Ae W1 U (units.map S):=⟨fun h0=>by
  obtain⟨b,o,e,hc⟩:=h.uni.ad h0;refine⟨b,o,e,fun j hj=>?_⟩;have h1:=hc j hj
  exact(World.cell?_of_block (a:=⟨b,o+j,none⟩) (hb1.block b (World.block_lt_of_cell? w _ h1) (fun e'=>by have:=h.uB _ e;simp only at this;omega))).trans h1⟩
 have hB1:B<=W1.heap.size:=(by omega);obtain⟨ub,uo,rfl,hu⟩:=c5.ad (by simp;omega);have hum:=hu m (by simp;omega);have Amy:ub<B:=h.uB _ rfl;obtain⟨s,hs⟩:=AmT (units[m]);rw [List.getElem_map,←hs]at hum;rw [←hs];obtain⟨oF,cF,rfl,-,-,-⟩:=Ae.of_own' (by omega) h.fac;have k1:w.cell? ⟨bm,2,none⟩=some (.slice oF Am.length cF):=Ab h.cM rfl;have k2:W1.cell? ⟨bm,2,none⟩=some (.slice oF Am.length cF):=Ab c2 rfl;have k3:=Ab (o:=0) c3 rfl;have hm0:(0:Int)<=(m:Int):=(by omega);have hm1:(m:Int)<(units.length:Int):=(by omega);have HN:=AmU FI;have ru:=AmU hb1;have HW:=AmU h;have t8:=AmU hf;clear hu hs hf FI hb1 hg1 hs1 h;go_enter Tryz.func187,Tryz.ntmps187
 go_upto_region 4 with fail
 have hFM:(Value.slice oF Am.length cF).ownBlock≠some bm:=Bn c4 c2 (by decide);have hFN:(Value.slice oF Am.length cF).ownBlock≠some bx:=Bn c4 c1 (by decide);have hFU:(Value.slice oF Am.length cF).ownBlock≠some bu:=Bn c4 c3 (by decide);have Adq:=AmV c2;have AdV:Am.length<200000:=by omega
 go_region_law (refine AjG rfl _ _ rfl _ B (.slice oF Am.length cF) Am.length Am rfl (AH c4 (by first|exact(Aa.refl W1).alloc _|exact((Aa.refl W1).alloc _).drew)) AdV s W1.heap.size (AmW W1 _) rfl (by simp;omega) ?_;intro v7 w7 KR aL Pp;obtain⟨PR,OI,rfl,-,-,-⟩:=Ae.of_own' (by omega) KR;have EW:=(Pp.block bm (by simp;omega) (fun e=>hFM e.symm)).trans ((((Aa.refl W1).alloc _).block bm Adq).trans c2);have e1:w7.cell? ⟨bm,2,none⟩=some (.slice oF Am.length cF):=Ab EW rfl;have e2:=AU (o:=2) EW)
 all_goals (
  have E4:Aa W1 ((W1.alloc (.cells #[S s] 9)).drew):=((Aa.refl W1).alloc _).drew;have Vs:((W1.alloc (.cells #[S s] 9)).drew).grownBy w7 (Value.slice oF Am.length cF).ownBlock:=Pp;have g7:∀{j:Nat} {o:Obj},W1.heap[j]?=some o→(Value.slice oF Am.length cF).ownBlock≠some j→w7.heap[j]?=some o:=fun {j o} hj hn=>(Vs.block j (Anh (AmV hj) E4.size) (fun e=>hn e.symm)).trans ((E4.block j (AmV hj)).trans hj);have UL:=g7 c1 hFN;have tJ:=g7 c3 hFU;have DY:=g7 HN.out nF;have nxm:=DW c1 c2 (by decide);have num:=DW c3 c2 (by decide)
  have Vb:Au (fun k=>k=bn∨k=bm∨(Value.slice oF Am.length cF).ownBlock=some k) w (w7.setCell ⟨bm,2,none⟩ (.slice PR (Am.length+1) OI)):=
   (((ru.out.mono (fun k e=>.inl e)).ext E4).grown Vs (fun k e=>.inl (.inr (.inr e)))).setCell (p:=⟨bm,2,none⟩) (.inl (.inr (.inl rfl))) _
  have o8:=CC (K:=fun k=>k=bm) KR ((Au.refl (fun k=>k=bm) w7).setCell (p:=⟨bm,2,none⟩) (.inl rfl) (.slice PR (Am.length+1) OI)) (fun k hk e=>by subst e;exact Bn KR EW (by decide) hk)
  have N9:G9 (w7.setCell ⟨bm,2,none⟩ (.slice PR (Am.length+1) OI)) B bx bn bm bu (some ⟨ub,uo,none⟩) cu units P E (.slice PR (Am.length+1) OI) (nm ++ [((m:Int),(Am.length:Int))]) (Am ++ [s]):=by
   refine⟨?_,?_,Yz _ EW,by rw [List.length_append];exact o8,?_,⟨fun h0=>?_⟩,HW.out.uB⟩
   ·rw [DF (by show bx≠bm;exact nxm)];exact UL
   ·unfold FB;rw [DF (by show bn≠bm;exact fun e=>fj e.symm)];exact DY
   ·rw [DF (by show bu≠bm;exact num)];exact tJ
   ·obtain⟨b,o,e,hc⟩:=c5.ad h0;simp only [Anb,Addr.mk.injEq,and_true]at e;obtain⟨rfl,rfl⟩:=e;refine⟨ub,uo,rfl,fun j hj=>?_⟩;have h1:=hc j hj;have hlt:=World.block_lt_of_cell? W1 _ h1;have n1:ub≠bm:=(by omega);have n2:(Value.slice oF Am.length cF).ownBlock≠some ub:=fun e=>(by have:=(c4.lt ub e).1;omega);refine(World.cell?_of_block (a:=⟨ub,uo+j,none⟩) (show (w7.setCell ⟨bm,2,none⟩ (.slice PR (Am.length+1) OI)).heap[ub]?=W1.heap[ub]? from ?_)).trans h1;rw [DF (by show ub≠bm;exact n1)];exact(Vs.block ub (Anh hlt E4.size) (fun e=>n2 e.symm)).trans (E4.block ub hlt)
  have v1:=Ab (o:=0) N9.cN rfl;have dc:=lc (m:Int) (nm ++ [((m:Int),(Am.length:Int))]) N9.num
  rw [show C0 (m:Int) (nm ++ [((m:Int),(Am.length:Int))])=some (Am.length:Int)by
   have aN:=t8.out;unfold C0 at aN ⊢;rw [List.find?_append]
   cases hq:nm.find? (fun e=>(m:Int) == e.1)with
   | some e=>rw [hq]at aN;cases aN
   | none=>simp]at dc
  simp only [Option.getD_some]at dc;clear EW e1 e2 Pp Vs KR aL g7 UL tJ DY o8 E4;generalize (w7.setCell ⟨bm,2,none⟩ (.slice PR (Am.length+1) OI))=W8 at *;have ve:=AmU N9;have ry:=AmU Vb;clear N9 Vb;go_wp2;go_ret
  exact⟨_,rfl,ve.out,ry.out⟩)
end
section
open Go.Shelf
section
variable {P : Program} {ops : Array Oper} {Q : Exit → Act → World → Prop}
theorem AkN{β:Type}{id:Nat}(s m:Nat)(val:β→Nat→Value)(St:β→Array Bool→World→Prop)(b0:β){a0:Act}{w:World}(hm:P.follows .mixedOrders=true)(hb:okB s m ops=true)(hB:s+m<=a0.tmps.size)(h0:St b0 (Array.replicate ops.size false) w.drew)
  (hstep:∀b listed a w i o,BU .any ops (val b) a0 listed a→St b listed w→ops[i]?=some o→listed.size=ops.size→listed.getD i false=false→(∀e∈o.after,Region.binds .any e=true→listed.getD e.on false=true)→
   o.wp P a w (fun a' w'=>∃b',a'=a.put o.dst (val b' i)/\(∀j,listed.getD j false=true→val b' j=val b j)/\St b' (listed.setIfInBounds i true) w') Q)
  (hend:∀b listed a w,BU .any ops (val b) a0 listed a→a.defers=a0.defers→(∀i,i<ops.size→listed.getD i false=true)→St b listed w→Q .normal a w):(Code.region id ops true).wp P Q a0 w:=by
 refine AkM (fun listed a w'=>∃b,(BU .any ops (val b) a0 listed a/\a.defers=a0.defers)/\St b listed w') hm (fun i o ho=>(Ii hb i o ho).2.2) (fun i o ho=>(Ii hb i o ho).2.1) ⟨b0,⟨BU.start,rfl⟩,h0⟩ ?_ ?_
 ·rintro listed a w' i o ⟨b,⟨Aj,FP⟩,hst⟩ hs Ax ho hd;have hi:i<ops.size:=(Array.getElem?_eq_some_iff.1 ho).1;have hr:i∈Region.ready .any ops listed:=mem_ready.2 ⟨getD_in (by omega) Ax,o,ho,hd⟩;refine Oper.wp_mono ?_ (hstep b listed a w' i o Aj hst ho hs Ax hd);rintro a' w2 ⟨b',rfl,hv,AeP⟩;have cH:BU .any ops (val b') a0 listed a:=⟨Aj.sz,Aj.lsz,fun j oj d hj hl aK=>by rw [hv j hl];exact Aj.done j oj d hj hl aK,Aj.rest,Aj.closed⟩;exact⟨b',⟨cH.step (fun i o ho=>(Ii hb i o ho).1) hB ho hr,by rw [←FP];cases o.dst<;>rfl⟩,AeP⟩
 ·rintro listed a w' ⟨b,⟨Aj,FP⟩,hst⟩ hall;exact hend b listed a w' Aj FP hall hst
end
theorem BU.lit{md:Region.Mode}{ops:Array Oper}{val:Nat→Value}{a0 a:Act}{listed:Array Bool}{s m:Nat}(h:BU md ops val a0 listed a)(hb:okB s m ops=true)(hm:m<=ops.size)(hs:s+m<=a0.tmps.size)(hall:∀i,i<ops.size→listed.getD i false=true)(hd:a.defers=a0.defers) :
  a=⟨(a0.tmps.toList.take s++((List.range m).map val++a0.tmps.toList.drop (s+m))).toArray,a0.defers⟩:=by
 refine lW ?_ ?_ hd
 ·rw [h.sz];simp only [List.length_append,List.length_take,List.length_map,List.length_range,List.length_drop,Array.length_toList];omega
 ·intro d IJ;simp only [List.length_append,List.length_take,List.length_map,List.length_range,List.length_drop,Array.length_toList]at IJ
  have out:∀e,(e<s∨s+m<=e)→(he:e<a0.tmps.size)→a.eval (.tmp e)=a0.tmps.toList[e]'(by simpa using he):=fun e h1 he=>by refine h.out hb h1 ?_;simp [Act.eval,Array.getD_eq_getD_getElem?,Array.getElem?_eq_getElem he]
  by_cases h1:d<s
  ·rw [List.getElem_append_left (by simp;omega)];rw [List.getElem_take];exact out d (.inl h1) (by omega)
  ·rw [List.getElem_append_right (by simp;omega)];simp only [List.length_take,Array.length_toList,Nat.min_eq_left (show s<=a0.tmps.size by omega)];by_cases h2:d<s+m
   ·rw [List.getElem_append_left (by simp;omega)];simp only [List.getElem_map,List.getElem_range];exact h.val hb (d-s) (by omega) (by omega) (hall _ (by omega)) rfl
   ·rw [List.getElem_append_right (by simp;omega)];simp only [List.length_map,List.length_range,List.getElem_drop];have e3:s+m+(d-s-m)=d:=(by omega);have:=out d (.inr (by omega)) (by omega);rw [this]
    congr 1
    omega
theorem Aa0{w:World}{b:Nat}{a0 a1 a2:Value}{t:TypeId}(v:Value)(h:w.heap[b]?=some (.cells #[a0,a1,a2] t)):(w.setCell ⟨b,1,none⟩ v).heap[b]?=some (.cells #[a0,v,a2] t):=by
 simp only [World.setCell,Array.getElem?_modify,h];simp
structure Cn where
 B:Nat
 bx:Nat
 bn:Nat
 bm:Nat
 bu:Nat
 bi:Nat
 r:Nat
 b1:Nat
 b2:Nat
 U:Option Addr
 cu:Nat
 units:List Bs
 P:Value
 idx:List (Pt×Int)
 L:List (Sg×Int)
structure Cn.Ok(c:Cn):Prop where
 r:c.r<c.B
 b1:c.b1<c.B
 bn:c.B<=c.bn
 bm:c.B<=c.bm
 ni:c.bi≠c.bn
def Cn.fn(c:Cn):Value:=.func (.func 187) #[] #[.pointer (some ⟨c.bx,0,none⟩),.pointer (some ⟨c.bm,0,none⟩),.pointer (some ⟨c.bu,0,none⟩)]
structure QD(c:Cn)(w:World):Prop where
 net:w.heap[c.r]?=some (.cells #[.map (some c.b1),.map (some c.b2)] 134)
 left:w.heap[c.b1]?=some (.map (Aw As (stamp c.L)).toArray c.L.length)
 idx:Hk w c.bi c.idx
structure Cs(c:Cn)(E F:Value)(nm:List (Int×Int))(Am:List Bs)(eds:List Av)(w:World):Prop where
 fc:G9 w c.B c.bx c.bn c.bm c.bu c.U c.cu c.units c.P E F nm Am
 rd:QD c w
 own:w.ownsRow c.B 126 4 E eds.length (Bt eds)
 size:c.B<=w.heap.size
def Jz(w:World)(b:Nat)(x:Sg):Prop:=w.heap[b]?=some (.cells #[S (R x.a.x),S (R x.a.y),S (R x.b.x),S (R x.b.y)] 155)
section
variable {c : Cn} {E F : Value} {nm : List (Int × Int)} {Am : List Bs} {eds : List Av} {w w' : World}
theorem QD.but(h:QD c w){K:Nat→Prop}(hb:Au K w w')(k1:¬K c.r)(k2:¬K c.b1)(k3:¬K c.bi):QD c w':=
 ⟨(hb.block _ (AmV h.net) k1).trans h.net,(hb.block _ (AmV h.left) k2).trans h.left,(hb.block _ (AmV h.idx) k3).trans h.idx⟩
theorem Cs.ext(h:Cs c E F nm Am eds w)(hx:Aa w w'):Cs c E F nm Am eds w':=
 ⟨h.fc.extn hx,⟨(hx.block _ (AmV h.rd.net)).trans h.rd.net,(hx.block _ (AmV h.rd.left)).trans h.rd.left,(hx.block _ (AmV h.rd.idx)).trans h.rd.idx⟩,AH h.own hx,Ani h.size hx.size⟩
theorem WJ{B:Nat}{e:TypeId}{s n:Nat}{v:Value}{xs:List Value}(h:w.ownsRow B e s v n xs){j:Nat}{es:Array MapEntry}{k:Nat}(hj:w.heap[j]?=some (.map es k)):v.ownBlock≠some j:=by
 intro hk
 rcases h.2 with⟨h',_⟩|⟨g,cap,cur,h',_,hgb,_⟩
 ·rw [h']at hk;cases hk
 ·rw [h']at hk;simp only [Value.ownBlock,Anb]at hk;subst hk;rw [hgb]at hj
  cases hj
theorem LO{i j:Nat}{cs:Array Value}{t:TypeId}{f:Nat×Nat}{es:Array MapEntry}{k:Nat}(hi:w.heap[i]?=some (.cells cs t f))(hj:w.heap[j]?=some (.map es k)):i≠j:=by
 rintro rfl;rw [hi]at hj
 cases hj
theorem Cs.named(ok:c.Ok)(h:Cs c E F nm Am eds w){F':Value}{Fz:List (Int×Int)}{Bi:List Bs}(hf:G9 w' c.B c.bx c.bn c.bm c.bu c.U c.cu c.units c.P E F' Fz Bi)(hb:Au (fun k=>k=c.bn∨k=c.bm∨F.ownBlock=some k) w w'):Cs c E F' Fz Bi eds w':=by
 have o1:=ok.r;have o2:=ok.b1;have o3:=ok.bn;have o4:=ok.bm;refine⟨hf,h.rd.but hb ?_ ?_ ?_,CC h.own hb ?_,Ani h.size hb.size⟩
 ·rintro(e|e|e)
  ·omega
  ·omega
  ·have:=(h.fc.fac.lt _ e).1;omega
 ·rintro(e|e|e)
  ·omega
  ·omega
  ·have:=(h.fc.fac.lt _ e).1;omega
 ·rintro(e|e|e)
  ·exact ok.ni e
  ·exact LO h.fc.cM h.rd.idx e.symm
  ·exact WJ h.fc.fac h.rd.idx e
 ·rintro k hk (e|e|e)
  ·subst e;exact WJ h.own h.fc.num hk
  ·subst e;exact Bn h.own h.fc.cM (by decide) hk
  ·rcases h.fc.fac.2 with⟨h',_⟩|⟨g,cap,cur,h',_,hgb,_⟩
   ·rw [h']at e;cases e
   ·rw [h']at e;simp only [Value.ownBlock,Anb]at e;subst e;exact Bn h.own hgb (by decide) hk
theorem Cs.app(ok:c.Ok)(h:Cs c E F nm Am eds w){d:Av}{v':Value}(hg:w.grownBy w' E.ownBlock)(ho:w'.ownsRow c.B 126 4 v' (eds.length+1) (Bt (eds ++ [d]))) :
  w'.heap[c.bm]?=some (.cells #[c.P,E,F] 36)/\Cs c v' F nm Am (eds ++ [d]) (w'.setCell ⟨c.bm,1,none⟩ v'):=by
 have o1:=ok.r;have o2:=ok.b1;have o4:=ok.bm;have hb:Au (fun k=>E.ownBlock=some k) w w':=(Au.refl (fun k=>E.ownBlock=some k) w).grown hg (fun k e=>.inl e);have n1:=Bn h.own h.fc.cM (by decide);have n2:=Bn h.own h.fc.cN (by decide);have n3:=Bn h.own h.fc.cU (by decide);have n4:=WJ h.own h.fc.num;have n5:=WJ h.own h.rd.idx;have hM:=(hb.block _ (AmV h.fc.cM) n1).trans h.fc.cM
 have f1:G9 w' c.B c.bx c.bn c.bm c.bu c.U c.cu c.units c.P E F nm Am:=by
  refine h.fc.far hb n2 n4 n1 n3 ?_ ?_
  ·intro k hk e
   rcases h.own.2 with⟨h',_⟩|⟨g,cap,cur,h',_,hgb,_⟩
   ·rw [h']at e;cases e
   ·rw [h']at e;simp only [Value.ownBlock,Anb]at e;subst e;exact Bn h.fc.fac hgb (by decide) hk
  ·intro x hx _ e;have:=h.fc.uB x hx;have:=(h.own.lt _ e).1;omega
 have r1:QD c w':=h.rd.but hb (fun e=>by have:=(h.own.lt _ e).1;omega) (fun e=>by have:=(h.own.lt _ e).1;omega) n5;have hb2:Au (fun k=>k=c.bm) w' (w'.setCell ⟨c.bm,1,none⟩ v'):=(Au.refl (fun k=>k=c.bm) w').setCell (p:=⟨c.bm,1,none⟩) (.inl rfl) v';refine⟨hM,⟨⟨?_,?_,Aa0 _ hM,CC f1.fac hb2 ?_,?_,⟨fun h0=>?_⟩,h.fc.uB⟩,r1.but hb2 (by omega) (by omega) ?_,by rw [List.length_append];exact CC ho hb2 (fun k hk e=>by subst e;exact Bn ho hM (by decide) hk),Ani h.size (Ani hb.size hb2.size)⟩⟩
 ·exact(hb2.block _ (AmV f1.cN) (DW f1.cN hM (by decide))).trans f1.cN
 ·exact(hb2.block _ (AmV f1.num) (fun e=>LO hM f1.num e.symm)).trans f1.num
 ·intro k hk e;subst e;exact Bn f1.fac hM (by decide) hk
 ·exact(hb2.block _ (AmV f1.cU) (DW f1.cU hM (by decide))).trans f1.cU
 ·obtain⟨b,o,e,hc⟩:=f1.uni.ad h0;refine⟨b,o,e,fun j hj=>?_⟩;have h1:=hc j hj;exact(World.cell?_of_block (a:=⟨b,o+j,none⟩) (hb2.block b (World.block_lt_of_cell? w' _ h1) (fun e'=>by have:=h.fc.uB _ e;simp only at this;omega))).trans h1
 ·exact fun e=>LO hM r1.idx e.symm
structure KB(B:Nat)(W w:World):Prop where
 kp:∀(k:Nat) (cs:Array Value) (t:TypeId) (f:Nat×Nat),t≠36→t≠9→t≠126→W.heap[k]?=some (.cells cs t f)→w.heap[k]?=some (.cells cs t f)
 bl:Below B W w
theorem KB.refl(B:Nat)(W:World):KB B W W:=⟨fun _ _ _ _ _ _ _ h=>h,Below.refl _ _⟩
theorem KB.trans{B:Nat}{a b d:World}(h:KB B a b)(k:KB B b d):KB B a d:=⟨fun i cs t f h1 h2 h3 h4=>k.kp i cs t f h1 h2 h3 (h.kp i cs t f h1 h2 h3 h4),h.bl.trans k.bl⟩
theorem KB.ext{B:Nat}{a b:World}(hx:Aa a b)(hB:B<=a.heap.size):KB B a b:=⟨fun _ _ _ _ _ _ _ h=>(hx.block _ (AmV h)).trans h,Below.mono hx hB⟩
theorem KB.named(ok:c.Ok)(h:Cs c E F nm Am eds w)(hb:Au (fun k=>k=c.bn∨k=c.bm∨F.ownBlock=some k) w w'):KB c.B w w':=by
 have o3:=ok.bn;have o4:=ok.bm;refine⟨fun k cs t f h1 h2 h3 h4=>(hb.block _ (AmV h4) ?_).trans h4,⟨hb.os,hb.tape,hb.output,hb.size,fun k hk=>hb.block k (Anh hk h.size) ?_⟩⟩
 ·rintro(e|e|e)
  ·exact LO h4 h.fc.num e
  ·exact DW h4 h.fc.cM h1 e
  ·exact Bn h.fc.fac h4 (fun e'=>h2 e'.symm) e
 ·rintro(e|e|e)
  ·omega
  ·omega
  ·have:=(h.fc.fac.lt _ e).1;omega
theorem KB.app(h:Cs c E F nm Am eds w)(hg:w.grownBy w' E.ownBlock):KB c.B w w':=
 ⟨fun _ _ _ _ _ _ h3 h4=>(hg.block _ (AmV h4) (fun e=>Bn h.own h4 (fun e'=>h3 e'.symm) e.symm)).trans h4,(Below.refl c.B w).grown hg h.size (fun k e=>(h.own.lt k e).1)⟩
theorem KB.set(ok:c.Ok){P' E' F':Value}(hM:w.heap[c.bm]?=some (.cells #[P',E',F'] 36))(v:Value):KB c.B w (w.setCell ⟨c.bm,1,none⟩ v):=
 ⟨fun _ _ _ _ h1 _ _ h4=>(DF (DW h4 hM h1)).trans h4,(Below.refl _ _).setCell (p:=⟨c.bm,1,none⟩) ok.bm v⟩
end
end
section
open Go.Shelf
def fU:List (Op×Option Nat):=[
 (.fieldAddr 36 (.tmp 5) 1,some 64),(.load 34 (.tmp 64),some 65),(.move (.tmp 6),some 66),(.fieldAddr 155 (.tmp 12) 0,some 67),(.load 94 (.tmp 67),some 68),
 (.lookup 247 (.tmp 66) (.tmp 68) false,some 69),(.move (.tmp 6),some 70),(.fieldAddr 155 (.tmp 12) 1,some 71),(.load 94 (.tmp 71),some 72),
 (.lookup 247 (.tmp 70) (.tmp 72) false,some 73),(.move (.tmp 13),some 74),(.move (.tmp 10),some 75),(.move (.tmp 0),some 76),(.nilCheck (.tmp 76),some 77),(.fieldAddr 134 (.tmp 77) 0,some 78),
 (.load 131 (.tmp 78),some 79),(.load 155 (.tmp 12),some 80),
 (.call {callee:=.value (.func 104),args:=#[.tmp 80],argTypes:=#[155]},some 81),(.lookup 131 (.tmp 79) (.tmp 81) false,some 82),
 (.call {callee:=.value (.tmp 75),args:=#[.tmp 82],argTypes:=#[3]},some 83),
 (.build 126 #[(0,.tmp 69),(1,.tmp 73),(2,.tmp 74),(3,.tmp 83)],some 84),(.buildSlice 34 1 #[(0,.tmp 84)],some 85),
 (.call {callee:=.builtin .append,args:=#[.tmp 65,.tmp 85],argTypes:=#[34,34]},some 86),(.fieldAddr 36 (.tmp 5) 1,some 87),(.store 34 (.tmp 87) (.tmp 86),none)]
def YN:List (Nat×Nat):=[(1,0),(4,3),(5,2),(5,4),(8,7),(9,6),(9,8),(13,12),(14,13),(15,14),(17,16),(18,15),(18,17),(19,11),(19,18),(20,5),(20,9),(20,10),(20,19),(21,20),(22,1),(22,21),(24,22),(24,23)]
def L2(c:Cn)(E:Value)(Co:Nat)(x:Sg)(zl i1 i2 lr zr:Int)(g:Nat×Value):Nat→Value
 | 0=>.pointer (some ⟨c.bm,1,none⟩)
 | 1=>E
 | 2=>.map (some c.bi)
 | 3=>.pointer (some ⟨Co,0,none⟩)
 | 4=>Ak x.a
 | 5=>.int .i64 i1
 | 6=>.map (some c.bi)
 | 7=>.pointer (some ⟨Co,2,none⟩)
 | 8=>Ak x.b
 | 9=>.int .i64 i2
 | 10=>.int .i64 zl
 | 11=>c.fn
 | 12=>.pointer (some ⟨c.r,0,none⟩)
 | 13=>.pointer (some ⟨c.r,0,none⟩)
 | 14=>.pointer (some ⟨c.r,0,none⟩)
 | 15=>.map (some c.b1)
 | 16=>As x
 | 17=>As (AP x)
 | 18=>.int .i64 lr
 | 19=>.int .i64 zr
 | 20=>.agg #[.int .i64 i1,.int .i64 i2,.int .i64 zl,.int .i64 zr]
 | 21=>.slice (some ⟨g.1,0,none⟩) 1 1
 | 22=>g.2
 | _=>.pointer (some ⟨c.bm,1,none⟩)
structure OA(c:Cn)(W:World)(E:Value)(eds:List Av)(d:Av)(Fz:List (Int×Int))(Bi:List Bs)(Co:Nat)(x:Sg)(g:Nat×Value)(l:Array Bool)(w:World):Prop where
 way:Jz w Co x
 kb:KB c.B W w
 sA:l.getD 19 false=false→Aa W w
 sB:l.getD 19 false=true→l.getD 22 false=false→∃F',Cs c E F' Fz Bi eds w
 sG:l.getD 21 false=true→l.getD 22 false=false→w.heap[g.1]?=some (.cells #[.int .i64 d.f,.int .i64 d.t,.int .i64 d.l,.int .i64 d.r] 126)
 sC:l.getD 22 false=true→l.getD 24 false=false→∃F',w.heap[c.bm]?=some (.cells #[c.P,E,F'] 36)/\(∃A k d,g.2=.slice A k d)/\Cs c g.2 F' Fz Bi (eds ++ [d]) (w.setCell ⟨c.bm,1,none⟩ g.2)
 sD:l.getD 24 false=true→∃F',Cs c g.2 F' Fz Bi (eds ++ [d]) w
theorem AcB(b:Nat)(w:World):(Instr.fieldAt 155 (.pointer (some ⟨b,0,none⟩)) 0).run Tryz.prog w=.ok (.pointer (some ⟨b,0,none⟩)) w:=by simp [go_sem]
theorem AcC(b:Nat)(w:World):(Instr.fieldAt 155 (.pointer (some ⟨b,0,none⟩)) 1).run Tryz.prog w=.ok (.pointer (some ⟨b,2,none⟩)) w:=by simp [go_sem]
theorem AcA(b:Nat)(w:World):(Instr.fieldAt 134 (.pointer (some ⟨b,0,none⟩)) 0).run Tryz.prog w=.ok (.pointer (some ⟨b,0,none⟩)) w:=by simp [go_sem]
theorem Agm{w:World}{b:Nat}{x:Sg}(h:Jz w b x):(Instr.loadAt 155 (.pointer (some ⟨b,0,none⟩))).run Tryz.prog w=.ok (As x) w:=by
 have h0:=Ab (o:=0) h rfl;have h1:=Ab (o:=1) h rfl;have h2:=Ab (o:=2) h rfl;have h3:=Ab (o:=3) h rfl;simp [go_sem,h0,h1,h2,h3,As]
theorem Agl{w:World}{b:Nat}{u v:Value}(h:w.heap[b]?=some (.cells #[u,v] 134)):(Instr.loadAt 131 (.pointer (some ⟨b,0,none⟩))).run Tryz.prog w=.ok u w:=by
 have h0:=Ab (o:=0) h rfl;simp [go_sem,h0]
theorem jQ{P:Program}{o:Oper}{a:Act}{w:World}{v:Value}{K:Act→World→Prop}{Q:Exit→Act→World→Prop}{t:TypeId}{x y:Operand}{b:Bool}{D:Option Nat}(p:.lookup t x y b=o.op)(d:D=o.dst)(h:(Instr.lookup t (a.eval x) (a.eval y) b).run P w=.ok v w)(hk:K (a.put D v) w):o.wp P a w K Q:=
 T8 (Instr.lookup t (a.eval x) (a.eval y) b) (by unfold execOp;rw [←p]) h (d▸hk)
section
variable {c : Cn} {W : World} {E : Value} {eds : List Av} {d : Av} {Fz : List (Int × Int)} {Bi : List Bs} {Co : Nat} {x : Sg} {g : Nat × Value} {l : Array Bool} {w : World}
theorem OA.put(h:OA c W E eds d Fz Bi Co x g l w){i:Nat}(hi:i≠19/\i≠21/\i≠22/\i≠24):OA c W E eds d Fz Bi Co x g (l.setIfInBounds i true) w:=by
 refine⟨h.way,h.kb,?_,?_,?_,?_,?_⟩
 all_goals simp only [getD_set_ne false hi.1,getD_set_ne false hi.2.1,getD_set_ne false hi.2.2.1,getD_set_ne false hi.2.2.2]
 ·exact h.sA
 ·exact h.sB
 ·exact h.sG
 ·exact h.sC
 ·exact h.sD
end
theorem AiF{c:Cn}(ok:c.Ok){W:World}{E F:Value}{nm Fz:List (Int×Int)}{Am Bi:List Bs}{eds:List Av}(h0:Cs c E F nm Am eds W){Co:Nat}{x:Sg}(hx:Jz W Co x)(hel:eds.length<200000)(zl i1 i2 lr zr:Int)
  (Pv:G3 x.a c.idx=i1) (KI:G3 x.b c.idx=i2) (wV:AI (AP x) c.L=lr)
  (Vq:∀w F,Cs c E F nm Am eds w→Calls Tryz.prog 187 #[.int .i64 lr,.pointer (some ⟨c.bx,0,none⟩),.pointer (some ⟨c.bm,0,none⟩),.pointer (some ⟨c.bu,0,none⟩)] w (Ov w c.B c.bx c.bn c.bm c.bu c.U c.cu c.units c.P E F zr Fz Bi))
  {a0:Act} {ops:Array Oper} (hop:ops.toList.map (fun o=>(o.op,o.dst))=fU) (AM:pL ops YN=true) (VK:okB 64 24 ops=true) (hsz:88<=a0.tmps.size)
  (e5:a0.eval (.tmp 5)=.pointer (some ⟨c.bm,0,none⟩)) (e6:a0.eval (.tmp 6)=.map (some c.bi)) (e12:a0.eval (.tmp 12)=.pointer (some ⟨Co,0,none⟩)) (YP:a0.eval (.tmp 13)=.int .i64 zl) (e10:a0.eval (.tmp 10)=c.fn) (e0:a0.eval (.tmp 0)=.pointer (some ⟨c.r,0,none⟩))
  {id:Nat} {Q:Exit→Act→World→Prop}
  (hend:∀(v:Nat→Value) w E' F',Cs c E' F' Fz Bi (eds ++ [⟨i1,i2,zl,zr⟩]) w→KB c.B W w→Q .normal ⟨(a0.tmps.toList.take 64++((List.range 24).map v++a0.tmps.toList.drop 88)).toArray,a0.defers⟩ w) :
  (Code.region id ops true).wp Tryz.prog Q a0 W:=by
 have eg1:Enters Tryz.prog 104:=enters_of Tryz.func104 (by kernel_rfl) rfl;have eg3:Enters Tryz.prog 187:=enters_of Tryz.func187 (by kernel_rfl) rfl
 have Ams:ops.size=25:=by
  have:=congrArg List.length hop
  simpa [fU]using this
 refine AkN 64 24 (L2 c E Co x zl i1 i2 lr zr) (fun g l w=>OA c W E eds ⟨i1,i2,zl,zr⟩ Fz Bi Co x g l w) (0,.slice none 0 0) (by kernel_rfl) VK (by omega) ?_ ?_ ?_
 ·refine⟨(Aa.refl W).drew.block _ (AmV hx) |>.trans hx,KB.ext (Aa.refl W).drew h0.size,fun _=>(Aa.refl W).drew,?_,?_,?_,?_⟩
  all_goals (rw [getD_replicate_false];intro e;cases e)
 ·intro b l a w i o Aj hst ho bP Ax hd;have hi:i<25:=(by have:=(Array.getElem?_eq_some_iff.1 ho).1;omega);have hL:=Ah4 hop ho;have vP:=Ka hd;have ev:=fun (d:Nat) {v:Value} (e:a0.eval (.tmp d)=v) (hd:d<64)=>Aj.out VK (.inl hd) e;replace e5:=ev 5 e5 (by omega);replace e6:=ev 6 e6 (by omega);replace e12:=ev 12 e12 (by omega);replace YP:=ev 13 YP (by omega);replace e10:=ev 10 e10 (by omega);replace e0:=ev 0 e0 (by omega)
  have dep:∀j k,YN.contains (j,k)=true→j=i→l.getD k false=true:=by rintro j k hjk rfl;have h1:=List.all_eq_true.1 AM (j,k) (by simpa using hjk);rw [ho]at h1;exact vP k h1
  have need:∀j k,YN.contains (j,k)=true→l.getD j false=true→l.getD k false=true:=by
   intro j k hjk hl;have h1:=List.all_eq_true.1 AM (j,k) (by simpa using hjk)
   cases cG:ops[j]? with
   | none=>rw [cG]at h1;cases h1
   | some oj=>rw [cG]at h1;exact Aj.waits cG hl k h1
  have sl:=fun (k:Nat) (hk:k<24) (hl:l.getD k false=true)=>Aj.val VK k (d:=64+k) rfl hk hl (v:=L2 c E Co x zl i1 i2 lr zr b k) rfl
  have Y6:l.getD 22 false=true→∀k,k<22→k≠0∨k=0→l.getD k false=true:=by
   intro Kx k hk _;have k1:=need 22 1 (by decide) Kx;have Wd:=need 22 21 (by decide) Kx;have PG:=need 21 20 (by decide) Wd;have k5:=need 20 5 (by decide) PG;have k9:=need 20 9 (by decide) PG;have ah:=need 20 10 (by decide) PG;have Wc:=need 20 19 (by decide) PG;have k0:=need 1 0 (by decide) k1;have k2:=need 5 2 (by decide) k5;have k4:=need 5 4 (by decide) k5;have k3:=need 4 3 (by decide) k4;have k6:=need 9 6 (by decide) k9;have k8:=need 9 8 (by decide) k9;have k7:=need 8 7 (by decide) k8;have ai:=need 19 11 (by decide) Wc;have eF:=need 19 18 (by decide) Wc;have eE:=need 18 15 (by decide) eF;have ak:=need 18 17 (by decide) eF;have aj:=need 17 16 (by decide) ak;have eD:=need 15 14 (by decide) eE;have eC:=need 14 13 (by decide) eD;have k12:=need 13 12 (by decide) eC
   rcases(by omega:k=0∨k=1∨k=2∨k=3∨k=4∨k=5∨k=6∨k=7∨k=8∨k=9∨k=10∨k=11∨k=12∨k=13∨k=14∨k=15∨k=16∨k=17∨k=18∨k=19∨k=20∨k=21)with rfl|rfl|rfl|rfl|rfl|rfl|rfl|rfl|rfl|rfl|rfl|rfl|rfl|rfl|rfl|rfl|rfl|rfl|rfl|rfl|rfl|rfl<;>assumption
  have n22:i<22→l.getD 22 false=false:=fun h=>by
   cases e:l.getD 22 false
   ·rfl
   ·have:=Y6 e i h (by omega);rw [Ax]at this;cases this
  have cs:i<22→∃F nm Am,Cs c E F nm Am eds w:=fun h=>by
   cases e:l.getD 19 false
   ·exact⟨_,_,_,h0.ext (hst.sA e)⟩
   ·obtain⟨F',h'⟩:=hst.sB e (n22 h);exact⟨F',_,_,h'⟩
  have fin:(i≠19/\i≠21/\i≠22/\i≠24)→∀v,v=L2 c E Co x zl i1 i2 lr zr b i→∃b',a.put o.dst v=a.put o.dst (L2 c E Co x zl i1 i2 lr zr b' i)/\(∀j,l.getD j false=true→L2 c E Co x zl i1 i2 lr zr b' j=L2 c E Co x zl i1 i2 lr zr b j)/\OA c W E eds ⟨i1,i2,zl,zr⟩ Fz Bi Co x b' (l.setIfInBounds i true) w:=
   fun hne v hv=>⟨b,by rw [hv],fun _ _=>rfl,hst.put hne⟩
  rcases(by omega:i=0∨i=1∨i=2∨i=3∨i=4∨i=5∨i=6∨i=7∨i=8∨i=9∨i=10∨i=11∨i=12∨i=13∨i=14∨i=15∨i=16∨i=17∨i=18∨i=19∨i=20∨i=21∨i=22∨i=23∨i=24)with rfl|rfl|rfl|rfl|rfl|rfl|rfl|rfl|rfl|rfl|rfl|rfl|rfl|rfl|rfl|rfl|rfl|rfl|rfl|rfl|rfl|rfl|rfl|rfl|rfl
  all_goals
   simp only [fU,List.getElem?_cons_zero,List.getElem?_cons_succ,Anb,Prod.mk.injEq]at hL;obtain⟨p,d⟩:=hL
  ·refine Ty p d (by rw [e5];exact rK _ _) ?_;rw [d];exact fin (by omega) _ rfl
  ·obtain⟨F1,JK,U5,hc⟩:=cs (by omega);refine Tz p d (by rw [show a.eval (.tmp 64)=_ from sl 0 (by omega) (dep 1 0 (by decide) rfl)];exact Agk (Ab hc.fc.cM rfl)) ?_;rw [d];exact fin (by omega) _ rfl
  ·refine T0 _ p.symm ?_;rw [e6];exact fin (by omega) _ rfl
  ·refine Ty p d (by rw [e12];exact AcB _ _) ?_;rw [d];exact fin (by omega) _ rfl
  ·refine Tz p d (by rw [show a.eval (.tmp 67)=_ from sl 3 (by omega) (dep 4 3 (by decide) rfl)];exact df (Ab (o:=0) hst.way rfl) (Ab (o:=1) hst.way rfl)) ?_;rw [d];exact fin (by omega) _ rfl
  ·obtain⟨F1,JK,U5,hc⟩:=cs (by omega);refine jQ p d (by rw [show a.eval (.tmp 66)=_ from sl 2 (by omega) (dep 5 2 (by decide) rfl),show a.eval (.tmp 68)=_ from sl 4 (by omega) (dep 5 4 (by decide) rfl)];exact hc.rd.idx.look x.a) ?_;rw [d];exact fin (by omega) _ (by rw [Pv];rfl)
  ·refine T0 _ p.symm ?_;rw [e6];exact fin (by omega) _ rfl
  ·refine Ty p d (by rw [e12];exact AcC _ _) ?_;rw [d];exact fin (by omega) _ rfl
  ·refine Tz p d (by rw [show a.eval (.tmp 71)=_ from sl 7 (by omega) (dep 8 7 (by decide) rfl)];exact df (Ab (o:=2) hst.way rfl) (Ab (o:=3) hst.way rfl)) ?_;rw [d];exact fin (by omega) _ rfl
  ·obtain⟨F1,JK,U5,hc⟩:=cs (by omega);refine jQ p d (by rw [show a.eval (.tmp 70)=_ from sl 6 (by omega) (dep 9 6 (by decide) rfl),show a.eval (.tmp 72)=_ from sl 8 (by omega) (dep 9 8 (by decide) rfl)];exact hc.rd.idx.look x.b) ?_;rw [d];exact fin (by omega) _ (by rw [KI];rfl)
  ·refine T0 _ p.symm ?_;rw [YP];exact fin (by omega) _ rfl
  ·refine T0 _ p.symm ?_;rw [e10];exact fin (by omega) _ rfl
  ·refine T0 _ p.symm ?_;rw [e0];exact fin (by omega) _ rfl
  ·have s12:a.eval (.tmp 76)=.pointer (some ⟨c.r,0,none⟩):=sl 12 (by omega) (dep 13 12 (by decide) rfl);refine qw (v:=.pointer (some ⟨c.r,0,none⟩)) (w':=w) ?_ (fin (by omega) _ rfl);unfold execOp;rw [←p];simp [s12]
  ·refine Ty p d (by rw [show a.eval (.tmp 77)=_ from sl 13 (by omega) (dep 14 13 (by decide) rfl)];exact AcA _ _) ?_;rw [d];exact fin (by omega) _ rfl
  ·obtain⟨F1,JK,U5,hc⟩:=cs (by omega);refine Tz p d (by rw [show a.eval (.tmp 78)=_ from sl 14 (by omega) (dep 15 14 (by decide) rfl)];exact Agl hc.rd.net) ?_;rw [d];exact fin (by omega) _ rfl
  ·refine Tz p d (by rw [e12];exact Agm hst.way) ?_;rw [d];exact fin (by omega) _ rfl
  ·have n19:l.getD 19 false=false:=by
    cases e:l.getD 19 false
    ·rfl
    ·have:=need 18 17 (by decide) (need 19 18 (by decide) e);rw [Ax]at this;cases this
   have n21:l.getD 21 false=false:=by
    cases e:l.getD 21 false
    ·rfl
    ·have:=need 20 19 (by decide) (need 21 20 (by decide) e);rw [n19]at this;cases this
   have n24:l.getD 24 false=false:=by
    cases e:l.getD 24 false
    ·rfl
    ·have:=need 24 22 (by decide) e;rw [n22 (by omega)]at this;cases this
   refine AkK p.symm eg1 (show a.eval (.tmp 80)=_ from sl 16 (by omega) (dep 17 16 (by decide) rfl)) (Uk x w) ?_;rintro e w'' ⟨rfl,hX⟩;refine⟨_,rfl,b,rfl,fun _ _=>rfl,?_⟩;refine OA.put ⟨(hX.block _ (AmV hst.way)).trans hst.way,hst.kb.trans (KB.ext hX (h0.ext (hst.sA n19)).size),fun e=>(hst.sA e).trans hX,fun e=>?_,fun e=>?_,fun e=>?_,fun e=>?_⟩ (by omega)
   ·rw [n19]at e;cases e
   ·rw [n21]at e;cases e
   ·rw [n22 (by omega)]at e;cases e
   ·rw [n24]at e;cases e
  ·obtain⟨F1,JK,U5,hc⟩:=cs (by omega);refine jQ p d (by rw [show a.eval (.tmp 79)=_ from sl 15 (by omega) (dep 18 15 (by decide) rfl),show a.eval (.tmp 81)=_ from sl 17 (by omega) (dep 18 17 (by decide) rfl)];exact Qi _ _ hc.rd.left) ?_;rw [d];exact fin (by omega) _ (by rw [wV];rfl)
  ·have n21:l.getD 21 false=false:=by
    cases e:l.getD 21 false
    ·rfl
    ·have:=need 20 19 (by decide) (need 21 20 (by decide) e);rw [Ax]at this;cases this
   have n24:l.getD 24 false=false:=by
    cases e:l.getD 24 false
    ·rfl
    ·have:=need 24 22 (by decide) e;rw [n22 (by omega)]at this;cases this
   have hC:=h0.ext (hst.sA Ax);refine AkL p.symm eg3 (show a.eval (.tmp 75)=_ from sl 11 (by omega) (dep 19 11 (by decide) rfl)) (show a.eval (.tmp 82)=_ from sl 18 (by omega) (dep 19 18 (by decide) rfl)) (Vq w F hC) ?_;rintro e w'' ⟨F',rfl,hF,hB⟩;refine⟨_,rfl,b,rfl,fun _ _=>rfl,?_⟩
   have hw:Jz w'' Co x:=(hB.block _ (AmV hst.way) (by
    rintro(e|e|e)
    ·exact LO hst.way hC.fc.num e
    ·exact DW hst.way hC.fc.cM (by decide) e
    ·exact Bn hC.fc.fac hst.way (by decide) e)).trans hst.way
   refine⟨hw,hst.kb.trans (KB.named ok hC hB),?_,?_,?_,?_,?_⟩
   all_goals simp only [I7 (show 19<l.size by omega),getD_set_ne false (show (19:Nat)≠21 by omega),getD_set_ne false (show (19:Nat)≠22 by omega),getD_set_ne false (show (19:Nat)≠24 by omega)]
   ·intro e;cases e
   ·intro _ _;exact⟨F',hC.named ok hF hB⟩
   ·intro e;rw [n21]at e;cases e
   ·intro e;rw [n22 (by omega)]at e;cases e
   ·intro e;rw [n24]at e;cases e
  ·have s5:a.eval (.tmp 69)=.int .i64 i1:=sl 5 (by omega) (dep 20 5 (by decide) rfl);have s9:a.eval (.tmp 73)=.int .i64 i2:=sl 9 (by omega) (dep 20 9 (by decide) rfl);have s10:a.eval (.tmp 74)=.int .i64 zl:=sl 10 (by omega) (dep 20 10 (by decide) rfl);have s15:a.eval (.tmp 83)=.int .i64 zr:=sl 19 (by omega) (dep 20 19 (by decide) rfl);refine T8 (Instr.build 126 #[(0,.int .i64 i1),(1,.int .i64 i2),(2,.int .i64 zl),(3,.int .i64 zr)]) (by unfold execOp;rw [←p];simp [s5,s9,s10,s15]) (Aa9 _ _ _ _ _) ?_;exact fin (by omega) _ rfl
  ·have Dh:=dep 21 20 (by decide) rfl;have LW:=need 20 19 (by decide) Dh
   have n24:l.getD 24 false=false:=by
    cases e:l.getD 24 false
    ·rfl
    ·have:=need 24 22 (by decide) e;rw [n22 (by omega)]at this;cases this
   have s16:a.eval (.tmp 84)=.agg #[.int .i64 i1,.int .i64 i2,.int .i64 zl,.int .i64 zr]:=sl 20 (by omega) Dh;refine T8 (Instr.buildSlice 34 1 #[(0,.agg #[.int .i64 i1,.int .i64 i2,.int .i64 zl,.int .i64 zr])]) (by unfold execOp;rw [←p];simp [s16]) (Aa8 _ _ _ _ _) ?_;have hX:=(Aa.refl w).alloc (.cells #[.int .i64 i1,.int .i64 i2,.int .i64 zl,.int .i64 zr] 126);refine⟨(w.heap.size,b.2),rfl,fun j hj=>?_,?_⟩
   ·have:j≠21:=(by rintro rfl;rw [Ax]at hj;cases hj);unfold L2
    split<;>first|rfl|omega
   ·obtain⟨F1,h1⟩:=hst.sB LW (n22 (by omega));refine⟨(hX.block _ (AmV hst.way)).trans hst.way,hst.kb.trans (KB.ext hX h1.size),?_,?_,?_,?_,?_⟩
    all_goals simp only [I7 (show 21<l.size by omega),getD_set_ne false (show (21:Nat)≠19 by omega),getD_set_ne false (show (21:Nat)≠22 by omega),getD_set_ne false (show (21:Nat)≠24 by omega)]
    ·intro e;rw [LW]at e;cases e
    ·intro _ e;obtain⟨F',h'⟩:=hst.sB LW e;exact⟨F',h'.ext hX⟩
    ·intro _ _;exact AmW w _
    ·intro e;rw [n22 (by omega)]at e;cases e
    ·intro e;rw [n24]at e;cases e
  ·have U7:=dep 22 21 (by decide) rfl;have LW:=need 20 19 (by decide) (need 21 20 (by decide) U7)
   have n24:l.getD 24 false=false:=by
    cases e:l.getD 24 false
    ·rfl
    ·have:=need 24 22 (by decide) e;rw [Ax]at this;cases this
   obtain⟨F',hC⟩:=hst.sB LW Ax;refine AkE _ _ p.symm w c.B E eds.length eds (show a.eval (.tmp 65)=_ from sl 1 (by omega) (dep 22 1 (by decide) rfl)) hC.own hel ⟨i1,i2,zl,zr⟩ b.1 (hst.sG U7 Ax) (show a.eval (.tmp 85)=_ from sl 21 (by omega) U7) hC.size ?_;intro v' w' k1 k2;obtain⟨m1,m2⟩:=hC.app ok (d:=⟨i1,i2,zl,zr⟩) k2 k1;obtain⟨A,dd,rfl,-,-,-⟩:=Ae.of_own' (show 0<4 by omega) k1;refine⟨(b.1,.slice A (eds.length+1) dd),rfl,fun j hj=>?_,?_⟩
   ·have:j≠22:=(by rintro rfl;rw [Ax]at hj;cases hj);unfold L2
    split<;>first|rfl|omega
   ·have hw:Jz w' Co x:=(k2.block _ (AmV hst.way) (fun e=>Bn hC.own hst.way (by decide) e.symm)).trans hst.way;refine⟨hw,hst.kb.trans (KB.app hC k2),?_,?_,?_,?_,?_⟩
    all_goals simp only [I7 (show 22<l.size by omega),getD_set_ne false (show (22:Nat)≠19 by omega),getD_set_ne false (show (22:Nat)≠21 by omega),getD_set_ne false (show (22:Nat)≠24 by omega)]
    ·intro e;rw [LW]at e;cases e
    ·intro _ e;cases e
    ·intro _ e;cases e
    ·intro _ _;exact⟨F',m1,⟨_,_,_,rfl⟩,m2⟩
    ·intro e;rw [n24]at e;cases e
  ·refine Ty p d (by rw [e5];exact rK _ _) ?_;rw [d];exact fin (by omega) _ rfl
  ·have Kx:=dep 24 22 (by decide) rfl;have LW:=Y6 Kx 19 (by omega) (by omega);have U7:=Y6 Kx 21 (by omega) (by omega);obtain⟨F',k1,k2,k3⟩:=hst.sC Kx Ax
   have hrun:(execOp a.eval o).run Tryz.prog w=.ok .skip (w.setCell ⟨c.bm,1,none⟩ b.2):=by unfold execOp;rw [←p];show (do Instr.storeAt 34 (a.eval (.tmp 87)) (a.eval (.tmp 86));pure Next.skip:Sem Next).run Tryz.prog w=_;rw [show a.eval (.tmp 87)=_ from sl 23 (by omega) (dep 24 23 (by decide) rfl),show a.eval (.tmp 86)=_ from sl 22 (by omega) Kx];have:=AjH k2 k1;simp [L2,this]
   unfold Oper.wp;rw [hrun];refine⟨b,?_,fun _ _=>rfl,?_⟩
   ·rw [←d];rfl
   ·have hw:Jz (w.setCell ⟨c.bm,1,none⟩ b.2) Co x:=(DF (by show Co≠c.bm;exact DW hst.way k1 (by decide))).trans hst.way;refine⟨hw,hst.kb.trans (KB.set ok k1 _),?_,?_,?_,?_,?_⟩
    all_goals simp only [I7 (show 24<l.size by omega),getD_set_ne false (show (24:Nat)≠19 by omega),getD_set_ne false (show (24:Nat)≠21 by omega),getD_set_ne false (show (24:Nat)≠22 by omega)]
    ·intro e;rw [LW]at e;cases e
    ·intro _ e;rw [Kx]at e;cases e
    ·intro _ e;rw [Kx]at e;cases e
    ·intro _ e;cases e
    ·intro _;exact⟨F',k3⟩
 ·intro b l a w Aj FP hall hst;obtain⟨F',hF⟩:=hst.sD (hall 24 (by omega));have:=Aj.lit VK (by omega) (by omega) hall FP;rw [this];exact hend _ w _ F' hF hst.kb
end
end Go.Proofs.YtbejphgbbpplbaaGreatDoor
