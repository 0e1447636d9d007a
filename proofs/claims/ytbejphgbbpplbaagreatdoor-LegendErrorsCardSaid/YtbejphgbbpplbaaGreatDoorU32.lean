/- U32: ShD4 ShBK ShBQ ShBR ShBS. -/
import Derived.Laws.EntriesVeiled
import Derived.Test.YtbejphgbbpplbaaGreatDoorU31
set_option maxRecDepth 100000
set_option maxHeartbeats 8000000
namespace Go.Proofs.YtbejphgbbpplbaaGreatDoor
open Go.RowKit Kl
open Go.ChangeMaps (setBlock)
theorem sr{W:World}{b:Nat}{L:List (Sg×Int)}(h:W.heap[b]?=some (.map (AG AA (stamp L)).toArray L.length))(s:Sg)(hno:∀e∈L,AO s e.1=false)(z:Int) :
  ∃W',(Instr.mapUpdate 131 (.map (some b)) (AA s) (.int .i64 z)).run Tryz.prog W=.ok () W'/\W'.heap[b]?=some (.map (AG AA (stamp (L ++ [(s,z)]))).toArray (L ++ [(s,z)]).length)/\W.grownBy W' (some b)/\W'.heap.size=W.heap.size:=by
 refine⟨_,nJ XX s (stamp L) ?_ (.int .i64 z) h,?_,Ln h,by simp [setBlock]⟩
 ·intro e he;obtain⟨x,hx,h1⟩:=oH he;rw [h1];exact hno x hx
 ·rw [Mm h,Abc];simp
theorem Aa9{s t:Sg}(h:s≠t):AO s t=false:=by
 rw [Bool.eq_false_iff];exact fun k=>h (IS.1 k)
theorem Ag7{C:List (List Sg)}(Cr:C.flatten.Nodup){k:Nat}(hk:k<C.length){j:Nat}(hj:j<C[k].length):∀e∈Dq (C.take k)++(C[k].take j).map (fun s=>(s,(k:Int))),AO C[k][j] e.1=false:=by
 intro e he;refine Aa9 fun hh=>?_;have h1:C=C.take k++C[k]::C.drop (k+1):=(by rw [←List.drop_eq_getElem_cons hk,List.take_append_drop]);have h2:C[k]=C[k].take j++C[k][j]::C[k].drop (j+1):=by rw [←List.drop_eq_getElem_cons hj,List.take_append_drop]
 have h3:C.flatten=(C.take k).flatten++(C[k]++(C.drop (k+1)).flatten):=by
  have:=congrArg List.flatten h1
  rwa [List.flatten_append,List.flatten_cons]at this
 rw [h3,List.nodup_append]at Cr;obtain⟨-,D1,AhU⟩:=Cr;rw [List.nodup_append]at D1;obtain⟨LH,-,-⟩:=D1
 rcases List.mem_append.1 he with he|he
 ·have:e.1∈(Dq (C.take k)).map (·.1):=List.mem_map_of_mem he;rw [ym]at this;exact AhU _ this _ (List.mem_append_left _ (Asa hj)) hh.symm
 ·rw [List.mem_map]at he;obtain⟨s,hs,rfl⟩:=he;rw [h2,List.nodup_append]at LH;exact LH.2.2 _ hs _ List.mem_cons_self hh.symm
theorem vn(n:Nat)(hn:n<=200000)(c:Int)(hc:c=(n:Int))(W:World) :
  (Instr.makeSlice 69 (.int .i64 c) (.int .i64 c)).run Tryz.prog W=.ok (.slice (some ⟨W.heap.size,0,none⟩) n n) (W.alloc (.cells (madeCells #[.int .i64 0] n) 3)):=lL n hn c hc W
def JC(W:List Sg)(C:List (List Sg))(k:Nat):List Value:=(List.range C.length).map (fun j=>Value.int .i64 (if j<k then C5 W C (W.length+1) j else 0))
theorem Anb(W:List Sg)(C:List (List Sg)):JC W C 0=zs (zn (List.replicate C.length 0)):=by
 unfold JC zs zn;apply List.ext_getElem
 ·simp
 ·intro i h1 h2;simp
theorem AmZ(W:List Sg)(C:List (List Sg)):JC W C C.length=(KF W C).map (Value.int .i64):=by
 unfold JC KF;apply List.ext_getElem
 ·simp
 ·intro i h1 h2;have:i<C.length:=(by simpa using h1);simp [this]
theorem Ana(W:List Sg)(C:List (List Sg)){k:Nat}(_:k<C.length):(JC W C k).set k (.int .i64 (C5 W C (W.length+1) k))=JC W C (k+1):=by
 unfold JC;apply List.ext_getElem
 ·simp
 ·intro i h1 h2;by_cases h:k=i
  ·subst h;simp
  ·rw [List.getElem_set_ne h];have:(i<k+1)↔i<k:=(by omega);simp [this]
theorem Aen(w:World)(o1 o2 o3 o4:Obj):∃W,W=(((w.alloc o1).alloc o2).alloc o3).alloc o4/\Aa w W/\W.heap.size=w.heap.size+4/\W.heap[w.heap.size]?=some o1/\W.heap[w.heap.size+1]?=some o2/\W.heap[w.heap.size+1+1]?=some o3/\W.heap[w.heap.size+1+1+1]?=some o4:=by
 obtain⟨V,hV,hE,h1,h2,h3⟩:=Je w o1 o2 o3;have hs:V.heap.size=w.heap.size+1+1+1:=(by rw [hV];simp);have Kh:=(Aa.refl V).alloc o4;refine⟨_,by rw [←hV],hE.alloc o4,by simp [hs],(Kh.block _ (ArX h1)).trans h1,(Kh.block _ (ArX h2)).trans h2,(Kh.block _ (ArX h3)).trans h3,?_⟩;rw [←hs];exact ArY V o4
def DV(W:World)(b:Nat)(l:List (Sg×Int)):Prop:=W.heap[b]?=some (.map (AG AA (stamp l)).toArray l.length)
theorem DV.far{W W':World}{b:Nat}{l:List (Sg×Int)}(h:DV W b l){row:Option Nat}(hg:W.grownBy W' row)(hr:row≠some b):DV W' b l:=(hg.block b (ArX h) (fun e=>hr e.symm)).trans h
theorem DV.ext{W W':World}{b:Nat}{l:List (Sg×Int)}(h:DV W b l)(hx:Aa W W'):DV W' b l:=(hx.block b (ArX h)).trans h
theorem Ani{B:Nat}{w:World}(hw:Al w){r b1 b2:Nat}{L:List (Sg×Int)}{E:List (Pt×Value×Nat)}{R0:List (Pt×List Pt)}(h:B5 B w r b1 b2 L E R0){W U:List Sg}{C:List (List Sg)}(hW:W=L.map (·.1))(hG:RX W U C){A:Option Addr}{cap:Nat}(hC:Mz w A cap C) :
  Calls Tryz.prog 156 #[.pointer (some ⟨r,0,none⟩),.slice A C.length cap] w fun e w'=>∃A',e=.returned (.slice A' C.length C.length)/\Ae w' A' ((KF W C).map (Value.int .i64))/\Aa w w':=by
 have hmm:=@run_makeMap Tryz.prog;have Aq7:=hC.cap1;have Aq8:=hC.cap2;go_enter Tryz.func156,Tryz.ntmps156
 go_upto_region 2 with fail
 obtain⟨W1,hW1,CG,hs1,hb1,hb2,hb3,hb4⟩:=Aen w (.cells #[.pointer (some ⟨r,0,none⟩)] 128) (.cells #[.slice A C.length cap] 209) (.map #[] 0) (.cells #[.map (some (w.heap.size+1+1))] 131);rw [←hW1];clear hW1;obtain⟨bn,Cm⟩:=ArV w.heap.size;rw [←Cm]at hb1 hb2 hb3 hb4 ⊢;have hle:w.heap.size<=bn:=(by omega);have dV:DV W1 (bn+1+1) (Dq (C.take 0)):=by rw [List.take_zero];exact hb3
 have yA:C.length<=100000:=by have h1:=Ya hG.ok.ne;rw [hG.ok.flat]at h1;have h2:=Kz hG.ok.nd hG.ok.sub;have:=hG.len;omega
 have hl0:(0:Int)<=(C.length:Int):=(by omega);have Cr:C.flatten.Nodup:=(by rw [hG.ok.flat];exact hG.ok.nd);have Vi:=ArW Cr;have m2:=Ab (o:=0) hb2 rfl;clear Cm hb3 Cr
 go_upto_region 3 with fail
 go_loopw [16] (fun i wr=>∃k:Nat,i=.int .i64 (k:Nat)/\k<=C.length/\DV wr (bn+1+1) (Dq (C.take k))/\Ar (fun j=>j=bn+1+1) W1 wr) (fun i _=>C.length-(intOf i).toNat)
 case atStart=>exact⟨0,rfl,by omega,dV,Ar.refl _ _⟩
 case round=>
  obtain⟨k,rfl,hk,hM,hB⟩:=hrel;have BD:Aa w wr:=hB.toExt CG (fun j e=>by subst e;omega);by_cases hlt:k<C.length
  ·obtain⟨bA,oA,A',c',rfl,hcell,Bh,hc1,hc2⟩:=hC.row k hlt;replace hcell:=BD.cellS hcell;have hk0:(0:Int)<=(k:Int):=(by omega);have BX:(k:Int)<(C.length:Int):=(by omega);obtain⟨c,hcc⟩:=ArV (C[k]);have hfr:=fun j (hj:j<C[k].length)=>Ag7 Vi.out hlt hj;rw [←hcc]at hcell Bh hc1 hfr
   have MZ:Dq (C.take (k+1))=Dq (C.take k)++c.map (fun s=>(s,(k:Int))):=by rw [Asd hlt,yn,←hcc,List.length_take,Nat.min_eq_left (by omega)]
   have Si:=ArW MZ;have Zu:=ArW hfr;have GI:DV wr (bn+1+1) (Dq (C.take k)++(c.take 0).map (fun s=>(s,(k:Int)))):=(by rw [List.take_zero,List.map_nil,List.append_nil];exact hM);have hcl:(0:Int)<=(c.length:Int):=(by omega);clear hcc MZ hfr hM
   go_upto_region 6 with fail
   go_loopw [23] (fun i wi=>∃j:Nat,i=.int .i64 (j:Nat)/\j<=c.length/\DV wi (bn+1+1) (Dq (C.take k)++(c.take j).map (fun s=>(s,(k:Int))))/\Ar (fun j=>j=bn+1+1) W1 wi) (fun i _=>c.length-(intOf i).toNat)
   case atStart=>exact⟨0,rfl,by omega,GI,hB⟩
   case round=>
    obtain⟨j,rfl,hj,Wr,Tk⟩:=hrel;have Qy:Aa w wr:=Tk.toExt CG (fun j e=>by subst e;omega);by_cases A7:j<c.length
    ·obtain⟨b',o',rfl,f1,f2,f3,f4⟩:=NV (Bh.ext Qy) A7;have hno:=Zu.out j A7
     have G0:Dq (C.take k)++(c.take (j+1)).map (fun s=>(s,(k:Int)))=(Dq (C.take k)++(c.take j).map (fun s=>(s,(k:Int)))) ++ [(c[j],(k:Int))]:=by rw [Asd A7,List.map_append,←List.append_assoc];rfl
     obtain⟨s,hs⟩:=ArV (c[j]);rw [←hs]at f1 f2 f3 f4 hno G0;have hj0:(0:Int)<=(j:Int):=(by omega);have Fy:(j:Int)<(c.length:Int):=(by omega);have Ap:=ArY wr (.cells #[S (R s.a.x),S (R s.a.y),S (R s.b.x),S (R s.b.y)] 155);have E4:=(Aa.refl wr).alloc (.cells #[S (R s.a.x),S (R s.a.y),S (R s.b.x),S (R s.b.y)] 155);have h4:=(E4.block _ (ArX (Tk.cells hb4 (by omega)))).trans (Tk.cells hb4 (by omega));obtain⟨Wp,hput,Qp,Ny,-⟩:=sr (Wr.ext E4) s hno (k:Int);rw [←G0]at Qp;have dM:=(Tk.ext E4).grown Ny (fun q e=>by cases e;exact .inl rfl);have Z4:=ArW Qp;clear hno G0 hs Wr Ny Qp
     go_upto_region 8 with fail
     unfold S at Ap h4 hput;unfold AA S at hput;have z0:=Ab (o:=0) Ap rfl;have z1:=Ab (o:=1) Ap rfl;have z2:=Ab (o:=2) Ap rfl;have z3:=Ab (o:=3) Ap rfl;have z4:=Ab (o:=0) h4 rfl;generalize (wr.alloc (.cells #[.string ⟨(R s.a.x).toArray⟩,.string ⟨(R s.a.y).toArray⟩,.string ⟨(R s.b.x).toArray⟩,.string ⟨(R s.b.y).toArray⟩] 155))=W4 at *;clear f1 f2 f3 f4 Ap h4;go_wp2;go_roundw
     case rel=>exact⟨j+1,by go_num,A7,Z4.out,dM⟩
     case measure=>simp [intOf];omega
    ·have Dl:j=c.length:=(by omega);subst Dl;have Xs:(c.length:Int)<=(c.length:Int):=(by omega);rw [List.take_length,←Si.out]at Wr;go_wp2;go_roundw
     case rel=>exact⟨k+1,by go_num,hlt,Wr,Tk⟩
     case measure=>simp [intOf];omega
  ·have Bf:k=C.length:=(by omega);subst Bf;rw [List.take_length]at hM;have hmk:=vn C.length (by omega) (C.length:Int) rfl wr;have Xw:∀(fn:Fn) (first cap:Array Value) (w:World),(Instr.makeFunc fn first cap).run Tryz.prog w=.ok (.func fn first cap) w:=fun _ _ _ _=>rfl;have WW:=hB.cells hb2 (by omega);have m2':=Ab (o:=0) WW rfl;have own:=Y6 wr w.heap.size C.length (Asl CG.size hB.size) (by omega);have hx0:(w.heap.size:Nat)<=wr.heap.size:=Asl CG.size hB.size;have Hx:=(Aa.refl wr).alloc (.cells (madeCells #[.int .i64 0] C.length) 3);obtain⟨fv,Nw⟩:=ArV (Value.func (.func 233) #[] #[.pointer (some ⟨bn+1,0,none⟩),.pointer (some ⟨bn,0,none⟩),.pointer (some ⟨wr.heap.size+1,0,none⟩),.pointer (some ⟨bn+1+1+1,0,none⟩)]);have dP:=(Aa.refl (wr.alloc (.cells (madeCells #[.int .i64 0] C.length) 3))).alloc (.cells #[fv] 248);have H9:=ArY (wr.alloc (.cells (madeCells #[.int .i64 0] C.length) 3)) (.cells #[fv] 248);rw [Ash]at H9;have FW:=Hx.trans dP;have BN:=BD.trans FW;have mK:=Ao own dP;have I8:=hM.ext FW;have n1:=(FW.block _ (ArX (hB.cells hb1 (by omega)))).trans (hB.cells hb1 (by omega));have n2:=(FW.block _ (ArX WW)).trans WW;have n4:=(FW.block _ (ArX (hB.cells hb4 (by omega)))).trans (hB.cells hb4 (by omega));have ID:bn+1+1+1<wr.heap.size:=ArX (hB.cells hb4 (by omega));have Uo:wr.heap.size+1<((wr.alloc (.cells (madeCells #[.int .i64 0] C.length) 3)).alloc (.cells #[fv] 248)).heap.size:=by simp
   go_upto_region 14 with fail
   rw [←Nw];clear hmk Xw m2' own hM Hx dP FW WW;generalize (wr.alloc (.cells (madeCells #[.int .i64 0] C.length) 3)).alloc (.cells #[fv] 248)=V2 at *;obtain⟨bo,Gr⟩:=ArV wr.heap.size;rw [←Gr]at mK Nw H9 ID Uo ⊢;have Ajo:w.heap.size<=bo:=(by omega);clear Gr;have AlX:V2.ownsRow w.heap.size 3 1 (.slice (some ⟨bo,0,none⟩) C.length C.length) C.length (JC W C 0):=(by rw [Anb];exact mK);have m2:=Ab (o:=0) n2 rfl
   have TZ:∀i (hi:i<C.length),leftOf W (C5.aOf C[i]).x<W.length+1:=fun i hi=>by have:leftOf W (C5.aOf C[i]).x<=W.length:=List.countP_le_length;omega
   have HFV:=ArW Nw;clear mK Nw
   go_upto_region 15 with fail
   clear m2
   go_loopw [38] (fun i w3=>∃k:Nat,i=.int .i64 (k:Nat)/\k<=C.length/\w3.ownsRow w.heap.size 3 1 (.slice (some ⟨bo,0,none⟩) C.length C.length) C.length (JC W C k)/\Ar (fun j=>j=bo) V2 w3) (fun i _=>C.length-(intOf i).toNat)
   case atStart=>exact⟨0,rfl,by omega,AlX,Ar.refl _ _⟩
   case round=>
    obtain⟨k,rfl,hk3,Dc,BM⟩:=hrel;have Cq:Aa w wr:=BM.toExt BN (fun j e=>by subst e;exact Ajo);by_cases hlt:k<C.length
    ·have hR:S2 B wr r b1 b2 L E R0 (bn+1) bn (bo+1) (bn+1+1+1) (bn+1+1) A cap C:=⟨h.ext Cq,hC.ext Cq,Ab (BM.cells n2 (by omega)) rfl,Ab (BM.cells n1 (by omega)) rfl,by rw [←HFV.out];exact Ab (BM.cells H9 (by omega)) rfl,Ab (BM.cells n4 (by omega)) rfl,BM.cells I8 (by omega)⟩;have fc:=Ag2 hW hG (W.length+1) k hlt (TZ k hlt) wr (hw.ext Cq) hR;have GM:wr.cell? ⟨bo+1,0,none⟩=some (.func (.func 233) #[] #[.pointer (some ⟨bn+1,0,none⟩),.pointer (some ⟨bn,0,none⟩),.pointer (some ⟨bo+1,0,none⟩),.pointer (some ⟨bn+1+1+1,0,none⟩)]):=hR.cf;obtain⟨z,hz⟩:=ArV (C5 W C (W.length+1) k);rw [←hz]at fc;have hk0:(0:Int)<=(k:Int):=(by omega);have BX:(k:Int)<(C.length:Int):=(by omega);have HZ:=ArW hz;clear hz hR;have EC:(JC W C k)[k]?=some (.int .i64 0):=(by unfold JC;simp [hlt]);have CS:=Ana W C hlt;rw [←HZ.out]at CS;have HS:=ArW CS;clear CS;(go_wp2_with fail);(with_reducible refine fc.mono ?_);rintro e w4 ⟨rfl,Aj⟩;have C2:=Ao Dc Aj;have hce:=(C2.cellAt k (by omega)).trans EC;have TP:=C2.frozenAt k;have hst:=(C2.stored k (.int .i64 z)).1;have hg4:=(C2.stored k (.int .i64 z)).2;have Hw:=(BM.ext Aj).grown hg4 (fun q e=>by cases e;exact .inl rfl);rw [HS.out]at hst;clear hg4 BM Dc C2 fc GM;go_wp2;go_roundw
     case rel=>exact⟨k+1,by go_num,hlt,hst,Hw⟩
     case measure=>simp [intOf];omega
    ·have Bf:k=C.length:=(by omega);subst Bf;rw [AmZ]at Dc;obtain⟨A2,cap2,Gv,J3,-,-⟩:=Ae.of_own' (by omega) Dc;simp only [Value.slice.injEq,true_and]at Gv;obtain⟨rfl,-⟩:=Gv;go_wp2;go_ret;exact⟨_,rfl,J3,Cq⟩
end Go.Proofs.YtbejphgbbpplbaaGreatDoor
namespace Go.Proofs.YtbejphgbbpplbaaGreatDoor
open Go.RowKit Kl
def D9(P:List (List Pt×Bs))(i:Nat):List Pt:=(P.take i).flatMap (·.1)
def SJ(P:List (List Pt×Bs)):List Pt:=Lib.compact (Fo (D9 P P.length))
theorem vC{P:List (List Pt×Bs)}{i:Nat}(h:i<P.length):D9 P (i+1)=D9 P i++P[i].1:=by
 unfold D9;rw [Asd h,List.flatMap_append];simp
theorem bI{P:List (List Pt×Bs)}(hP:∀e∈P,e.1.length<=60):∀i,i<=P.length→(D9 P i).length<=i*60
 | 0,_=>by simp [D9]
 | i+1,h=>by rw [vC (show i<P.length by omega),List.length_append];have h1:=bI hP i (by omega);have h2:=hP _ (Asa (show i<P.length by omega));omega
theorem vd{P:List (List Pt×Bs)}{i:Nat}{q:Pt}(h:q∈D9 P i):∃e∈P,q∈e.1:=by
 unfold D9 at h;rw [List.mem_flatMap]at h;obtain⟨e,he,hq⟩:=h;exact⟨e,List.mem_of_mem_take he,hq⟩
theorem mem_compact{l:List Pt}{q:Pt}(h:q∈Lib.compact l):q∈l:=by
 unfold Lib.compact Lib.compactUpTo at h;rw [List.mem_map]at h;obtain⟨j,hj,rfl⟩:=h;have hj':j<l.length:=(by simpa using (List.mem_filter.1 hj).1);rw [getElem!_pos l.toArray j (by simpa using hj')];simp
theorem Aff(l:List Pt):(Lib.compact l).length<=l.length:=by
 unfold Lib.compact Lib.compactUpTo;rw [List.length_map];refine Asl (List.length_filter_le _ _) ?_;simp
section
variable {ops : Array Oper} {rest : List Oper} {o : Oper} {a : Act} {Q : Exit → Act → World → Prop}
theorem AdH(hgd:o.guard=none)(s x:Operand)(ho:o.op=.call {callee:=.builtin .append,args:=#[s,x],argTypes:=#[33,33]})
  (wN:World) (base:Nat) (v:Value) (n:Nat) (l:List Pt) (hs:a.eval s=v) (hown:wN.ownsRow base 94 2 v n (flat (Ak l))) (hn:n<200000) (m:List Pt) (A:Option Addr) (c:Nat) (hx:a.eval x=.slice A m.length c) (hr:Ae wN A (flat (Ak m))) (hm:0<m.length) (LG:m.length<=1000) (hbase:base<=wN.heap.size)
  (h:∀v' w',w'.ownsRow base 94 2 v' (n+m.length) (flat (Ak (l++m)))→(∀w0,Aa w0 wN→w0.heap.size<=base→Aa w0 w')→wpList Tryz.prog ops Q rest (a.put o.dst v') w') :
  wpList Tryz.prog ops Q (o::rest) a wN:=by
 obtain⟨i0,hi,hz0,hz1,hz2⟩:=info_parts Tryz.infoPt;have DJ:(flat (Ak m)).length=m.length*2:=(by rw [flat_length];simp [Ak]);obtain⟨b,oo,rfl,hc⟩:=hr.ad (by omega);have TD:(n+m.length)*32<=140737488355328:=(by omega);have Fz:n+m.length<=maxLen:=(by unfold maxLen;omega);refine wpList_plain hgd fun K hK=>wp_append_own _ s x 33 ho base 94 i0 (.agg #[S [],S []]) 2 32 Tryz.underlying33 hi hz0 hz1 hz2 rfl (by omega) v n _ hs hown ⟨b,oo,none⟩ m.length c (flat (Ak m)) hx ?_ ?_ ?_ Fz TD hbase ?_
 ·exact DJ
 ·intro j u hu;obtain⟨hj,e⟩:=List.getElem?_eq_some_iff.1 hu;rw [Addr.add_lit,←e];exact hc j hj
 ·intro u hu;unfold flat at hu;simp only [List.mem_flatMap,List.mem_cons,Asm,or_false]at hu;obtain⟨p,_,rfl|rfl⟩:=hu<;>rfl
 ·intro v' w' h2 h3 _;refine hK _ _ (h v' w' ?_ (fun w0 he Bq=>?_))
  ·have e:flat (Ak (l++m))=flat (Ak l)++flat (Ak m):=(by unfold flat Ak;simp);rw [e];exact h2
  ·exact he.grown h3 fun k hk=>by
    rcases hown.2 with⟨rfl,_⟩|⟨g,cap,cur,rfl,hb',_⟩
    ·cases hk
    ·simp only [Value.ownBlock,Ase]at hk;omega
end
section
open Go.ChangeMaps (setBlock)
theorem rq:JW 247 94 3 (.int .i64 0) Af An where
 map:=Tryz.underlying247
 st:=⟨_,Tryz.underlying94⟩
 zero:=fun W=>by simp [go_sem]
 eq:=wO
 chk:=uC
 iff:=BY
 bits:=fun x=>by unfold Af;simp [Instr.sameBits,beq_toListBytes]
def Mr(L:List (Pt×Int)):List (Pt×Value×Nat):=L.mapIdx fun i e=>(e.1,.int .i64 e.2,i)
theorem Aow(L:List (Pt×Int))(e:Pt×Int):Mr (L ++ [e])=Mr L ++ [(e.1,.int .i64 e.2,L.length)]:=by simp [Mr,List.mapIdx_append]
theorem Aov{L:List (Pt×Int)}{x:Pt×Value×Nat}(h:x∈Mr L):∃e∈L,x.1=e.1:=by
 unfold Mr at h;rw [List.mem_mapIdx]at h;obtain⟨i,hi,rfl⟩:=h;exact⟨L[i],Asa hi,rfl⟩
def Hb(p:Pt)(L:List (Pt×Int)):Int:=match L.find? (fun e=>An p e.1)with|some e=>e.2|none=>0
theorem Ak0(p:Pt)(L:List (Pt×Int)):F5 An (.int .i64 0) p (Mr L)=.int .i64 (Hb p L):=by
 have h:∀(L:List (Pt×Int)) (n:Nat),F5 An (.int .i64 0) p (L.mapIdx fun i e=>(e.1,.int .i64 e.2,i+n))=.int .i64 (Hb p L):=by
  intro L
  induction L with
  | nil=>intro n;simp [F5,Hb]
  | cons e L ih=>
   intro n;rw [List.mapIdx_cons];unfold F5 Hb;rw [List.find?_cons,List.find?_cons];simp only
   cases hb:An p e.1
   ·simp only;have:=ih (n+1)
    have e1:(L.mapIdx fun i e=>(e.1,Value.int .i64 e.2,i+1+n))=L.mapIdx fun i e=>(e.1,Value.int .i64 e.2,i+(n+1)):=by congr 1;funext i e;rw [show i+1+n=i+(n+1)by omega]
    rw [e1];unfold F5 Hb at this;exact this
   ·rfl
 exact h L 0
def Iv(W:World)(b:Nat)(l:List (Pt×Int)):Prop:=W.heap[b]?=some (.map (AG Af (Mr l)).toArray l.length)
theorem Iv.ext{W W':World}{b:Nat}{l:List (Pt×Int)}(h:Iv W b l)(hx:Aa W W'):Iv W' b l:=(hx.block b (ArX h)).trans h
theorem Iv.put{W:World}{b:Nat}{l:List (Pt×Int)}(h:Iv W b l)(p:Pt)(hno:∀e∈l,An p e.1=false)(z:Int) :
  ∃W',(Instr.mapUpdate 247 (.map (some b)) (Af p) (.int .i64 z)).run Tryz.prog W=.ok () W'/\Iv W' b (l ++ [(p,z)])/\W.grownBy W' (some b)/\W'.heap.size=W.heap.size:=by
 refine⟨_,nJ rq p (Mr l) (fun e he=>by obtain⟨e',h1,h2⟩:=Aov he;rw [h2];exact hno e' h1) (.int .i64 z) h,?_,Ln h,by simp [setBlock]⟩;unfold Iv;rw [Mm h,Aow,List.length_append]
 rfl
theorem Iv.look{W:World}{b:Nat}{l:List (Pt×Int)}(h:Iv W b l)(p:Pt):(Instr.lookup 247 (.map (some b)) (Af p) false).run Tryz.prog W=.ok (.int .i64 (Hb p l)) W:=by
 rw [R9 rq p (Mr l) h,Ak0]
theorem Aa2(k:Int)(l:List (Int×Int)){b clock:Nat}{W:World}(hb:W.heap[b]?=some (.map (Ll l).toArray clock)) :
  (Instr.lookup 212 (.map (some b)) (.int .i64 k) false).run Tryz.prog W=.ok (.int .i64 ((CU k l).getD 0)) W:=by
 obtain⟨x,h1,h2⟩:=cY k l W;have hz:(zeroValue 3).run Tryz.prog W=.ok (.int .i64 0) W:=(by simp [go_sem]);have hc:∀b,(Instr.checkKey b 10000 3 (.int .i64 k)).run Tryz.prog W=.ok () W:=fun b=>MapKept.run_checkKey (k:=.int .i64 k) Tryz.underlying3 (by simp [MapKept.IsKey]) b 9999;have hm:=run_underlying (w:=W) Tryz.underlying212
 cases h:CU k l with
 | none=>
  rw [h]at h2;have hx:x=none:=(by simpa using h2);subst hx;simp [Instr.lookup,hm,MapKept.run_getObj_map hb,hc,h1,hz,Result.andThen]
 | some z=>rw [h]at h2;obtain⟨⟨i,v⟩,rfl,hv⟩:=Option.map_eq_some_iff.1 h2;simp only at hv;subst hv;simp [Instr.lookup,hm,MapKept.run_getObj_map hb,hc,h1,Result.andThen]
theorem Ar.mono{K K':Nat→Prop}{w w':World}(h:Ar K w w')(hk:∀k,K k→K' k):Ar K' w w':=⟨h.os,h.tape,h.output,h.size,fun k h1 h2=>h.block k h1 (fun h3=>h2 (hk k h3))⟩
structure Hm(wr:World)(B bx bn bm bu:Nat)(U:Option Addr)(cu:Nat)(units:List Bs)(P E F:Value)(nm:List (Int×Int))(Ag:List Bs):Prop where
 cN:wr.heap[bx]?=some (.cells #[.map (some bn)] 212)
 num:Gi wr bn nm
 cM:wr.heap[bm]?=some (.cells #[P,E,F] 36)
 fac:wr.ownsRow B 9 1 F Ag.length (Ag.map S)
 cU:wr.heap[bu]?=some (.cells #[.slice U units.length cu] 23)
 uni:Ae wr U (units.map S)
 uB:∀x,U=some x→x.block<B
theorem Hm.extn{w w':World}{B bx bn bm bu:Nat}{U:Option Addr}{cu:Nat}{units:List Bs}{P E F:Value}{nm:List (Int×Int)}{Ag:List Bs}(h:Hm w B bx bn bm bu U cu units P E F nm Ag)(hx:Aa w w'):Hm w' B bx bn bm bu U cu units P E F nm Ag:=
 ⟨(hx.block _ (ArX h.cN)).trans h.cN,(hx.block _ (ArX h.num)).trans h.num,(hx.block _ (ArX h.cM)).trans h.cM,Ao h.fac hx,(hx.block _ (ArX h.cU)).trans h.cU,h.uni.ext hx,h.uB⟩
theorem Hm.far{w w':World}{B bx bn bm bu:Nat}{U:Option Addr}{cu:Nat}{units:List Bs}{P E F:Value}{nm:List (Int×Int)}{Ag:List Bs}(h:Hm w B bx bn bm bu U cu units P E F nm Ag){K:Nat→Prop}(hb:Ar K w w')
  (k1:¬K bx) (k2:¬K bn) (k3:¬K bm) (k4:¬K bu) (k5:∀k,F.ownBlock=some k→¬K k) (k6:∀x,U=some x→0<units.length→¬K x.block):Hm w' B bx bn bm bu U cu units P E F nm Ag:=by
 refine⟨(hb.block _ (ArX h.cN) k1).trans h.cN,(hb.block _ (ArX h.num) k2).trans h.num,(hb.block _ (ArX h.cM) k3).trans h.cM,BG h.fac hb k5,(hb.block _ (ArX h.cU) k4).trans h.cU,⟨fun h0=>?_⟩,h.uB⟩;obtain⟨b,o,e,hc⟩:=h.uni.ad h0;refine⟨b,o,e,fun j hj=>?_⟩;have h1:=hc j hj;exact(World.cell?_of_block (a:=⟨b,o+j,none⟩) (hb.block b (World.block_lt_of_cell? w _ h1) (k6 _ e (by simpa using h0)))).trans h1
def PD(w:World)(B bx bn bm bu:Nat)(U:Option Addr)(cu:Nat)(units:List Bs)(P E F:Value)(z:Int)(Gd:List (Int×Int))(AV:List Bs)(e:Ending)(w':World):Prop:=
 ∃F',e=.returned (.int .i64 z)/\Hm w' B bx bn bm bu U cu units P E F' Gd AV/\Ar (fun k=>k=bn∨k=bm∨F.ownBlock=some k) w w'
theorem Agx{w:World}{B bx bn bm bu:Nat}{U:Option Addr}{cu:Nat}{units:List Bs}{P E F:Value}{nm:List (Int×Int)}{Ag:List Bs}(h:Hm w B bx bn bm bu U cu units P E F nm Ag)(f z:Int)(hf:CU f nm=some z) :
  Calls Tryz.prog 187 #[.int .i64 f,.pointer (some ⟨bx,0,none⟩),.pointer (some ⟨bm,0,none⟩),.pointer (some ⟨bu,0,none⟩)] w (PD w B bx bn bm bu U cu units P E F z nm Ag):=by
 have k0:=Ab (o:=0) h.cN rfl;have lk:=nH f nm h.num;have Pk:=Aa2 f nm h.num;rw [hf]at lk Pk;simp only [Option.getD_some,Option.isSome_some]at lk Pk;go_enter Tryz.func187,Tryz.ntmps187;go_wp2;go_ret;exact⟨F,rfl,h,Ar.refl _ _⟩
theorem Agw{w:World}{B bx bn bm bu:Nat}{U:Option Addr}{cu:Nat}{units:List Bs}{P E F:Value}{nm:List (Int×Int)}{Ag:List Bs}(h:Hm w B bx bn bm bu U cu units P E F nm Ag)(hB:B<=w.heap.size)(hBn:B<=bn)(hBm:B<=bm)(m:Nat)(hf:CU (m:Int) nm=none)(hm:m<units.length)(D2:units.length<=100000)(DJ:Ag.length<=100000) :
  Calls Tryz.prog 187 #[.int .i64 (m:Nat),.pointer (some ⟨bx,0,none⟩),.pointer (some ⟨bm,0,none⟩),.pointer (some ⟨bu,0,none⟩)] w (PD w B bx bn bm bu U cu units P E F (Ag.length:Nat) (nm ++ [((m:Int),(Ag.length:Int))]) (Ag ++ [units[m]])):=by
 have k0:=Ab (o:=0) h.cN rfl;have lk:=nH (m:Int) nm h.num;rw [hf]at lk;simp only [Option.getD_none,Option.isSome_none]at lk;obtain⟨W1,hput,Gp,hg1,hs1⟩:=h.num.put (m:Int) (Ag.length:Int) hf;have hb1:Ar (fun k=>k=bn) w W1:=(Ar.refl (fun k=>k=bn) w).grown hg1 (fun k e=>by cases e;exact .inl rfl)
 have nx:bx≠bn:=by
  intro e;have:=h.num;unfold Gi at this;rw [←e,h.cN]at this
  cases this
 have wm:bm≠bn:=by
  intro e;have:=h.num;unfold Gi at this;rw [←e,h.cM]at this
  cases this
 have nu:bu≠bn:=by
  intro e;have:=h.num;unfold Gi at this;rw [←e,h.cU]at this
  cases this
 have nF:F.ownBlock≠some bn:=by
  intro e
  rcases h.fac.2 with⟨h',_⟩|⟨g,cap,cur,h',_,hgb,_⟩
  ·rw [h']at e;cases e
  ·rw [h']at e;simp only [Value.ownBlock,Ase]at e;subst e;have:=h.num;unfold Gi at this;rw [hgb]at this
   cases this
 have c1:=(hb1.block _ (ArX h.cN) nx).trans h.cN;have c2:=(hb1.block _ (ArX h.cM) wm).trans h.cM;have c3:=(hb1.block _ (ArX h.cU) nu).trans h.cU;have c4:=BG h.fac hb1 (fun k hk e=>by subst e;exact nF hk)
 have c5:Ae W1 U (units.map S):=⟨fun h0=>by
  obtain⟨b,o,e,hc⟩:=h.uni.ad h0;refine⟨b,o,e,fun j hj=>?_⟩;have h1:=hc j hj
  exact(World.cell?_of_block (a:=⟨b,o+j,none⟩) (hb1.block b (World.block_lt_of_cell? w _ h1) (fun e'=>by have:=h.uB _ e;simp only at this;omega))).trans h1⟩
 have hB1:B<=W1.heap.size:=(by omega);obtain⟨ub,uo,rfl,hu⟩:=c5.ad (by simp;omega);have kE:=hu m (by simp;omega);have Arp:ub<B:=h.uB _ rfl;obtain⟨s,hs⟩:=ArV (units[m]);rw [List.getElem_map,←hs]at kE;rw [←hs];obtain⟨oF,cF,rfl,-,-,-⟩:=Ae.of_own' (by omega) h.fac;have k1:w.cell? ⟨bm,2,none⟩=some (.slice oF Ag.length cF):=Ab h.cM rfl;have k2:W1.cell? ⟨bm,2,none⟩=some (.slice oF Ag.length cF):=Ab c2 rfl;have k3:=Ab (o:=0) c3 rfl;have hm0:(0:Int)<=(m:Int):=(by omega);have hm1:(m:Int)<(units.length:Int):=(by omega);have HN:=ArW Gp;have HB1:=ArW hb1;have HW:=ArW h;have HFO:=ArW hf;clear hu hs hf Gp hb1 hg1 hs1 h;go_enter Tryz.func187,Tryz.ntmps187
 go_upto_region 4 with fail
 have dQ:(Value.slice oF Ag.length cF).ownBlock≠some bm:=A8 c4 c2 (by decide);have hFN:(Value.slice oF Ag.length cF).ownBlock≠some bx:=A8 c4 c1 (by decide);have hFU:(Value.slice oF Ag.length cF).ownBlock≠some bu:=A8 c4 c3 (by decide);have dY:=ArX c2;have iF:Ag.length<200000:=by omega
 go_region_law (refine Abe rfl _ _ rfl _ B (.slice oF Ag.length cF) Ag.length Ag rfl (Ao c4 (by first|exact(Aa.refl W1).alloc _|exact((Aa.refl W1).alloc _).drew)) iF s W1.heap.size (ArY W1 _) rfl (by simp;omega) ?_;intro v7 w7 Dm Ia EB;obtain⟨IK,Iz,rfl,-,-,-⟩:=Ae.of_own' (by omega) Dm;have DY:=(EB.block bm (by simp;omega) (fun e=>dQ e.symm)).trans ((((Aa.refl W1).alloc _).block bm dY).trans c2);have e1:w7.cell? ⟨bm,2,none⟩=some (.slice oF Ag.length cF):=Ab DY rfl;have e2:=AB (o:=2) DY)
 all_goals (
  have E4:Aa W1 ((W1.alloc (.cells #[S s] 9)).drew):=((Aa.refl W1).alloc _).drew;have Xj:((W1.alloc (.cells #[S s] 9)).drew).grownBy w7 (Value.slice oF Ag.length cF).ownBlock:=EB;have g7:∀{j:Nat} {o:Obj},W1.heap[j]?=some o→(Value.slice oF Ag.length cF).ownBlock≠some j→w7.heap[j]?=some o:=fun {j o} hj hn=>(Xj.block j (Asj (ArX hj) E4.size) (fun e=>hn e.symm)).trans ((E4.block j (ArX hj)).trans hj);have Wu:=g7 c1 hFN;have zD:=g7 c3 hFU;have Ey:=g7 HN.out nF;have nxm:=Ds c1 c2 (by decide);have num:=Ds c3 c2 (by decide)
  have WP:Ar (fun k=>k=bn∨k=bm∨(Value.slice oF Ag.length cF).ownBlock=some k) w (w7.setCell ⟨bm,2,none⟩ (.slice IK (Ag.length+1) Iz)):=
   (((HB1.out.mono (fun k e=>.inl e)).ext E4).grown Xj (fun k e=>.inl (.inr (.inr e)))).setCell (p:=⟨bm,2,none⟩) (.inl (.inr (.inl rfl))) _
  have o8:=BG (K:=fun k=>k=bm) Dm ((Ar.refl (fun k=>k=bm) w7).setCell (p:=⟨bm,2,none⟩) (.inl rfl) (.slice IK (Ag.length+1) Iz)) (fun k hk e=>by subst e;exact A8 Dm DY (by decide) hk)
  have N9:Hm (w7.setCell ⟨bm,2,none⟩ (.slice IK (Ag.length+1) Iz)) B bx bn bm bu (some ⟨ub,uo,none⟩) cu units P E (.slice IK (Ag.length+1) Iz) (nm ++ [((m:Int),(Ag.length:Int))]) (Ag ++ [s]):=by
   refine⟨?_,?_,aM _ DY,by rw [List.length_append];exact o8,?_,⟨fun h0=>?_⟩,HW.out.uB⟩
   ·rw [Da (by show bx≠bm;exact nxm)];exact Wu
   ·unfold Gi;rw [Da (by show bn≠bm;exact fun e=>wm e.symm)];exact Ey
   ·rw [Da (by show bu≠bm;exact num)];exact zD
   ·obtain⟨b,o,e,hc⟩:=c5.ad h0;simp only [Ase,Addr.mk.injEq,and_true]at e;obtain⟨rfl,rfl⟩:=e;refine⟨ub,uo,rfl,fun j hj=>?_⟩;have h1:=hc j hj;have hlt:=World.block_lt_of_cell? W1 _ h1;have n1:ub≠bm:=(by omega);have n2:(Value.slice oF Ag.length cF).ownBlock≠some ub:=fun e=>(by have:=(c4.lt ub e).1;omega);refine(World.cell?_of_block (a:=⟨ub,uo+j,none⟩) (show (w7.setCell ⟨bm,2,none⟩ (.slice IK (Ag.length+1) Iz)).heap[ub]?=W1.heap[ub]? from ?_)).trans h1;rw [Da (by show ub≠bm;exact n1)];exact(Xj.block ub (Asj hlt E4.size) (fun e=>n2 e.symm)).trans (E4.block ub hlt)
  have v1:=Ab (o:=0) N9.cN rfl;have tu:=Aa2 (m:Int) (nm ++ [((m:Int),(Ag.length:Int))]) N9.num
  rw [show CU (m:Int) (nm ++ [((m:Int),(Ag.length:Int))])=some (Ag.length:Int)by
   have hT:=HFO.out;unfold CU at hT ⊢;rw [List.find?_append]
   cases hq:nm.find? (fun e=>(m:Int) == e.1)with
   | some e=>rw [hq]at hT;cases hT
   | none=>simp]at tu
  simp only [Option.getD_some]at tu;clear DY e1 e2 EB Xj Dm Ia g7 Wu zD Ey o8 E4;generalize (w7.setCell ⟨bm,2,none⟩ (.slice IK (Ag.length+1) Iz))=W8 at *;have Z6:=ArW N9;have HB9:=ArW WP;clear N9 WP;go_wp2;go_ret
  exact⟨_,rfl,Z6.out,HB9.out⟩)
end
section
open Go.Shelf
section
variable {P : Program} {ops : Array Oper} {Q : Exit → Act → World → Prop}
theorem Ap2{β:Type}{id:Nat}(s m:Nat)(val:β→Nat→Value)(St:β→Array Bool→World→Prop)(b0:β){a0:Act}{w:World}(hm:P.follows .mixedOrders=true)(hb:okB s m ops=true)(hB:s+m<=a0.tmps.size)(h0:St b0 (Array.replicate ops.size false) w.drew)
  (hstep:∀b listed a w i o,De .any ops (val b) a0 listed a→St b listed w→ops[i]?=some o→listed.size=ops.size→listed.getD i false=false→(∀e∈o.after,Region.binds .any e=true→listed.getD e.on false=true)→
   o.wp P a w (fun a' w'=>∃b',a'=a.put o.dst (val b' i)/\(∀j,listed.getD j false=true→val b' j=val b j)/\St b' (listed.setIfInBounds i true) w') Q)
  (hend:∀b listed a w,De .any ops (val b) a0 listed a→a.defers=a0.defers→(∀i,i<ops.size→listed.getD i false=true)→St b listed w→Q .normal a w):(Code.region id ops true).wp P Q a0 w:=by
 refine Zd (fun listed a w'=>∃b,(De .any ops (val b) a0 listed a/\a.defers=a0.defers)/\St b listed w') hm (fun i o ho=>(Md hb i o ho).2.2) (fun i o ho=>(Md hb i o ho).2.1) ⟨b0,⟨De.start,rfl⟩,h0⟩ ?_ ?_
 ·rintro listed a w' i o ⟨b,⟨Ah,Gu⟩,hst⟩ hs Az ho hd;have hi:i<ops.size:=(Array.getElem?_eq_some_iff.1 ho).1;have hr:i∈Region.ready .any ops listed:=mem_ready.2 ⟨getD_in (by omega) Az,o,ho,hd⟩;refine Oper.wp_mono ?_ (hstep b listed a w' i o Ah hst ho hs Az hd);rintro a' w2 ⟨b',rfl,hv,AiZ⟩;have jL:De .any ops (val b') a0 listed a:=⟨Ah.sz,Ah.lsz,fun j oj d hj hl hQ=>by rw [hv j hl];exact Ah.done j oj d hj hl hQ,Ah.rest,Ah.closed⟩;exact⟨b',⟨jL.step (fun i o ho=>(Md hb i o ho).1) hB ho hr,by rw [←Gu];cases o.dst<;>rfl⟩,AiZ⟩
 ·rintro listed a w' ⟨b,⟨Ah,Gu⟩,hst⟩ hall;exact hend b listed a w' Ah Gu hall hst
end
theorem De.lit{md:Region.Mode}{ops:Array Oper}{val:Nat→Value}{a0 a:Act}{listed:Array Bool}{s m:Nat}(h:De md ops val a0 listed a)(hb:okB s m ops=true)(hm:m<=ops.size)(hs:s+m<=a0.tmps.size)(hall:∀i,i<ops.size→listed.getD i false=true)(hd:a.defers=a0.defers) :
  a=⟨(a0.tmps.toList.take s++((List.range m).map val++a0.tmps.toList.drop (s+m))).toArray,a0.defers⟩:=by
 refine ZU ?_ ?_ hd
 ·rw [h.sz];simp only [List.length_append,List.length_take,List.length_map,List.length_range,List.length_drop,Array.length_toList];omega
 ·intro d L2;simp only [List.length_append,List.length_take,List.length_map,List.length_range,List.length_drop,Array.length_toList]at L2
  have out:∀e,(e<s∨s+m<=e)→(he:e<a0.tmps.size)→a.eval (.tmp e)=a0.tmps.toList[e]'(by simpa using he):=fun e h1 he=>by refine h.out hb h1 ?_;simp [Act.eval,Array.getD_eq_getD_getElem?,Array.getElem?_eq_getElem he]
  by_cases h1:d<s
  ·rw [List.getElem_append_left (by simp;omega)];rw [List.getElem_take];exact out d (.inl h1) (by omega)
  ·rw [List.getElem_append_right (by simp;omega)];simp only [List.length_take,Array.length_toList,Nat.min_eq_left (show s<=a0.tmps.size by omega)];by_cases h2:d<s+m
   ·rw [List.getElem_append_left (by simp;omega)];simp only [List.getElem_map,List.getElem_range];exact h.val hb (d-s) (by omega) (by omega) (hall _ (by omega)) rfl
   ·rw [List.getElem_append_right (by simp;omega)];simp only [List.length_map,List.length_range,List.getElem_drop];have e3:s+m+(d-s-m)=d:=(by omega);have:=out d (.inr (by omega)) (by omega);rw [this]
    congr 1
    omega
theorem Aek{w:World}{b:Nat}{a0 a1 a2:Value}{t:TypeId}(v:Value)(h:w.heap[b]?=some (.cells #[a0,a1,a2] t)):(w.setCell ⟨b,1,none⟩ v).heap[b]?=some (.cells #[a0,v,a2] t):=by
 simp only [World.setCell,Array.getElem?_modify,h];simp
structure Cn where
 B:Nat
 bx:Nat
 bn:Nat
 bm:Nat
 bu:Nat
 bi:Nat
 r:Nat
 b1:Nat
 b2:Nat
 U:Option Addr
 cu:Nat
 units:List Bs
 P:Value
 idx:List (Pt×Int)
 L:List (Sg×Int)
structure Cn.Ok(c:Cn):Prop where
 r:c.r<c.B
 b1:c.b1<c.B
 bn:c.B<=c.bn
 bm:c.B<=c.bm
 ni:c.bi≠c.bn
def Cn.fn(c:Cn):Value:=.func (.func 187) #[] #[.pointer (some ⟨c.bx,0,none⟩),.pointer (some ⟨c.bm,0,none⟩),.pointer (some ⟨c.bu,0,none⟩)]
structure S1(c:Cn)(w:World):Prop where
 net:w.heap[c.r]?=some (.cells #[.map (some c.b1),.map (some c.b2)] 134)
 left:w.heap[c.b1]?=some (.map (AG AA (stamp c.L)).toArray c.L.length)
 idx:Iv w c.bi c.idx
structure Cs(c:Cn)(E F:Value)(nm:List (Int×Int))(Ag:List Bs)(eds:List AD)(w:World):Prop where
 fc:Hm w c.B c.bx c.bn c.bm c.bu c.U c.cu c.units c.P E F nm Ag
 rd:S1 c w
 own:w.ownsRow c.B 126 4 E eds.length (B6 eds)
 size:c.B<=w.heap.size
def Kb(w:World)(b:Nat)(x:Sg):Prop:=w.heap[b]?=some (.cells #[S (R x.a.x),S (R x.a.y),S (R x.b.x),S (R x.b.y)] 155)
section
variable {c : Cn} {E F : Value} {nm : List (Int × Int)} {Ag : List Bs} {eds : List AD} {w w' : World}
theorem S1.but(h:S1 c w){K:Nat→Prop}(hb:Ar K w w')(k1:¬K c.r)(k2:¬K c.b1)(k3:¬K c.bi):S1 c w':=
 ⟨(hb.block _ (ArX h.net) k1).trans h.net,(hb.block _ (ArX h.left) k2).trans h.left,(hb.block _ (ArX h.idx) k3).trans h.idx⟩
theorem Cs.ext(h:Cs c E F nm Ag eds w)(hx:Aa w w'):Cs c E F nm Ag eds w':=
 ⟨h.fc.extn hx,⟨(hx.block _ (ArX h.rd.net)).trans h.rd.net,(hx.block _ (ArX h.rd.left)).trans h.rd.left,(hx.block _ (ArX h.rd.idx)).trans h.rd.idx⟩,Ao h.own hx,Asl h.size hx.size⟩
theorem Y7{B:Nat}{e:TypeId}{s n:Nat}{v:Value}{xs:List Value}(h:w.ownsRow B e s v n xs){j:Nat}{es:Array MapEntry}{k:Nat}(hj:w.heap[j]?=some (.map es k)):v.ownBlock≠some j:=by
 intro hk
 rcases h.2 with⟨h',_⟩|⟨g,cap,cur,h',_,hgb,_⟩
 ·rw [h']at hk;cases hk
 ·rw [h']at hk;simp only [Value.ownBlock,Ase]at hk;subst hk;rw [hgb]at hj
  cases hj
theorem ML{i j:Nat}{cs:Array Value}{t:TypeId}{f:Nat×Nat}{es:Array MapEntry}{k:Nat}(hi:w.heap[i]?=some (.cells cs t f))(hj:w.heap[j]?=some (.map es k)):i≠j:=by
 rintro rfl;rw [hi]at hj
 cases hj
theorem Cs.named(ok:c.Ok)(h:Cs c E F nm Ag eds w){F':Value}{Gd:List (Int×Int)}{AV:List Bs}(hf:Hm w' c.B c.bx c.bn c.bm c.bu c.U c.cu c.units c.P E F' Gd AV)(hb:Ar (fun k=>k=c.bn∨k=c.bm∨F.ownBlock=some k) w w'):Cs c E F' Gd AV eds w':=by
 have o1:=ok.r;have o2:=ok.b1;have o3:=ok.bn;have o4:=ok.bm;refine⟨hf,h.rd.but hb ?_ ?_ ?_,BG h.own hb ?_,Asl h.size hb.size⟩
 ·rintro(e|e|e)
  ·omega
  ·omega
  ·have:=(h.fc.fac.lt _ e).1;omega
 ·rintro(e|e|e)
  ·omega
  ·omega
  ·have:=(h.fc.fac.lt _ e).1;omega
 ·rintro(e|e|e)
  ·exact ok.ni e
  ·exact ML h.fc.cM h.rd.idx e.symm
  ·exact Y7 h.fc.fac h.rd.idx e
 ·rintro k hk (e|e|e)
  ·subst e;exact Y7 h.own h.fc.num hk
  ·subst e;exact A8 h.own h.fc.cM (by decide) hk
  ·rcases h.fc.fac.2 with⟨h',_⟩|⟨g,cap,cur,h',_,hgb,_⟩
   ·rw [h']at e;cases e
   ·rw [h']at e;simp only [Value.ownBlock,Ase]at e;subst e;exact A8 h.own hgb (by decide) hk
theorem Cs.app(ok:c.Ok)(h:Cs c E F nm Ag eds w){d:AD}{v':Value}(hg:w.grownBy w' E.ownBlock)(ho:w'.ownsRow c.B 126 4 v' (eds.length+1) (B6 (eds ++ [d]))) :
  w'.heap[c.bm]?=some (.cells #[c.P,E,F] 36)/\Cs c v' F nm Ag (eds ++ [d]) (w'.setCell ⟨c.bm,1,none⟩ v'):=by
 have o1:=ok.r;have o2:=ok.b1;have o4:=ok.bm;have hb:Ar (fun k=>E.ownBlock=some k) w w':=(Ar.refl (fun k=>E.ownBlock=some k) w).grown hg (fun k e=>.inl e);have n1:=A8 h.own h.fc.cM (by decide);have n2:=A8 h.own h.fc.cN (by decide);have n3:=A8 h.own h.fc.cU (by decide);have n4:=Y7 h.own h.fc.num;have n5:=Y7 h.own h.rd.idx;have hM:=(hb.block _ (ArX h.fc.cM) n1).trans h.fc.cM
 have f1:Hm w' c.B c.bx c.bn c.bm c.bu c.U c.cu c.units c.P E F nm Ag:=by
  refine h.fc.far hb n2 n4 n1 n3 ?_ ?_
  ·intro k hk e
   rcases h.own.2 with⟨h',_⟩|⟨g,cap,cur,h',_,hgb,_⟩
   ·rw [h']at e;cases e
   ·rw [h']at e;simp only [Value.ownBlock,Ase]at e;subst e;exact A8 h.fc.fac hgb (by decide) hk
  ·intro x hx _ e;have:=h.fc.uB x hx;have:=(h.own.lt _ e).1;omega
 have r1:S1 c w':=h.rd.but hb (fun e=>by have:=(h.own.lt _ e).1;omega) (fun e=>by have:=(h.own.lt _ e).1;omega) n5;have hb2:Ar (fun k=>k=c.bm) w' (w'.setCell ⟨c.bm,1,none⟩ v'):=(Ar.refl (fun k=>k=c.bm) w').setCell (p:=⟨c.bm,1,none⟩) (.inl rfl) v';refine⟨hM,⟨⟨?_,?_,Aek _ hM,BG f1.fac hb2 ?_,?_,⟨fun h0=>?_⟩,h.fc.uB⟩,r1.but hb2 (by omega) (by omega) ?_,by rw [List.length_append];exact BG ho hb2 (fun k hk e=>by subst e;exact A8 ho hM (by decide) hk),Asl h.size (Asl hb.size hb2.size)⟩⟩
 ·exact(hb2.block _ (ArX f1.cN) (Ds f1.cN hM (by decide))).trans f1.cN
 ·exact(hb2.block _ (ArX f1.num) (fun e=>ML hM f1.num e.symm)).trans f1.num
 ·intro k hk e;subst e;exact A8 f1.fac hM (by decide) hk
 ·exact(hb2.block _ (ArX f1.cU) (Ds f1.cU hM (by decide))).trans f1.cU
 ·obtain⟨b,o,e,hc⟩:=f1.uni.ad h0;refine⟨b,o,e,fun j hj=>?_⟩;have h1:=hc j hj;exact(World.cell?_of_block (a:=⟨b,o+j,none⟩) (hb2.block b (World.block_lt_of_cell? w' _ h1) (fun e'=>by have:=h.fc.uB _ e;simp only at this;omega))).trans h1
 ·exact fun e=>ML hM r1.idx e.symm
structure KB(B:Nat)(W w:World):Prop where
 kp:∀(k:Nat) (cs:Array Value) (t:TypeId) (f:Nat×Nat),t≠36→t≠9→t≠126→W.heap[k]?=some (.cells cs t f)→w.heap[k]?=some (.cells cs t f)
 bl:Below B W w
theorem KB.refl(B:Nat)(W:World):KB B W W:=⟨fun _ _ _ _ _ _ _ h=>h,Below.refl _ _⟩
theorem KB.trans{B:Nat}{a b d:World}(h:KB B a b)(k:KB B b d):KB B a d:=⟨fun i cs t f h1 h2 h3 h4=>k.kp i cs t f h1 h2 h3 (h.kp i cs t f h1 h2 h3 h4),h.bl.trans k.bl⟩
theorem KB.ext{B:Nat}{a b:World}(hx:Aa a b)(hB:B<=a.heap.size):KB B a b:=⟨fun _ _ _ _ _ _ _ h=>(hx.block _ (ArX h)).trans h,Below.mono hx hB⟩
theorem KB.named(ok:c.Ok)(h:Cs c E F nm Ag eds w)(hb:Ar (fun k=>k=c.bn∨k=c.bm∨F.ownBlock=some k) w w'):KB c.B w w':=by
 have o3:=ok.bn;have o4:=ok.bm;refine⟨fun k cs t f h1 h2 h3 h4=>(hb.block _ (ArX h4) ?_).trans h4,⟨hb.os,hb.tape,hb.output,hb.size,fun k hk=>hb.block k (Asj hk h.size) ?_⟩⟩
 ·rintro(e|e|e)
  ·exact ML h4 h.fc.num e
  ·exact Ds h4 h.fc.cM h1 e
  ·exact A8 h.fc.fac h4 (fun e'=>h2 e'.symm) e
 ·rintro(e|e|e)
  ·omega
  ·omega
  ·have:=(h.fc.fac.lt _ e).1;omega
theorem KB.app(h:Cs c E F nm Ag eds w)(hg:w.grownBy w' E.ownBlock):KB c.B w w':=
 ⟨fun _ _ _ _ _ _ h3 h4=>(hg.block _ (ArX h4) (fun e=>A8 h.own h4 (fun e'=>h3 e'.symm) e.symm)).trans h4,(Below.refl c.B w).grown hg h.size (fun k e=>(h.own.lt k e).1)⟩
theorem KB.set(ok:c.Ok){P' E' F':Value}(hM:w.heap[c.bm]?=some (.cells #[P',E',F'] 36))(v:Value):KB c.B w (w.setCell ⟨c.bm,1,none⟩ v):=
 ⟨fun _ _ _ _ h1 _ _ h4=>(Da (Ds h4 hM h1)).trans h4,(Below.refl _ _).setCell (p:=⟨c.bm,1,none⟩) ok.bm v⟩
end
end
section
open Go.Shelf
def mI:List (Op×Option Nat):=[
 (.fieldAddr 36 (.tmp 5) 1,some 64),(.load 34 (.tmp 64),some 65),(.move (.tmp 6),some 66),(.fieldAddr 155 (.tmp 12) 0,some 67),(.load 94 (.tmp 67),some 68),
 (.lookup 247 (.tmp 66) (.tmp 68) false,some 69),(.move (.tmp 6),some 70),(.fieldAddr 155 (.tmp 12) 1,some 71),(.load 94 (.tmp 71),some 72),
 (.lookup 247 (.tmp 70) (.tmp 72) false,some 73),(.move (.tmp 13),some 74),(.move (.tmp 10),some 75),(.move (.tmp 0),some 76),(.nilCheck (.tmp 76),some 77),(.fieldAddr 134 (.tmp 77) 0,some 78),
 (.load 131 (.tmp 78),some 79),(.load 155 (.tmp 12),some 80),
 (.call {callee:=.value (.func 104),args:=#[.tmp 80],argTypes:=#[155]},some 81),(.lookup 131 (.tmp 79) (.tmp 81) false,some 82),
 (.call {callee:=.value (.tmp 75),args:=#[.tmp 82],argTypes:=#[3]},some 83),
 (.build 126 #[(0,.tmp 69),(1,.tmp 73),(2,.tmp 74),(3,.tmp 83)],some 84),(.buildSlice 34 1 #[(0,.tmp 84)],some 85),
 (.call {callee:=.builtin .append,args:=#[.tmp 65,.tmp 85],argTypes:=#[34,34]},some 86),(.fieldAddr 36 (.tmp 5) 1,some 87),(.store 34 (.tmp 87) (.tmp 86),none)]
def bO:List (Nat×Nat):=[(1,0),(4,3),(5,2),(5,4),(8,7),(9,6),(9,8),(13,12),(14,13),(15,14),(17,16),(18,15),(18,17),(19,11),(19,18),(20,5),(20,9),(20,10),(20,19),(21,20),(22,1),(22,21),(24,22),(24,23)]
def Mv(c:Cn)(E:Value)(C9:Nat)(x:Sg)(zl i1 i2 lr zr:Int)(g:Nat×Value):Nat→Value
 | 0=>.pointer (some ⟨c.bm,1,none⟩)
 | 1=>E
 | 2=>.map (some c.bi)
 | 3=>.pointer (some ⟨C9,0,none⟩)
 | 4=>Af x.a
 | 5=>.int .i64 i1
 | 6=>.map (some c.bi)
 | 7=>.pointer (some ⟨C9,2,none⟩)
 | 8=>Af x.b
 | 9=>.int .i64 i2
 | 10=>.int .i64 zl
 | 11=>c.fn
 | 12=>.pointer (some ⟨c.r,0,none⟩)
 | 13=>.pointer (some ⟨c.r,0,none⟩)
 | 14=>.pointer (some ⟨c.r,0,none⟩)
 | 15=>.map (some c.b1)
 | 16=>AA x
 | 17=>AA (AY x)
 | 18=>.int .i64 lr
 | 19=>.int .i64 zr
 | 20=>.agg #[.int .i64 i1,.int .i64 i2,.int .i64 zl,.int .i64 zr]
 | 21=>.slice (some ⟨g.1,0,none⟩) 1 1
 | 22=>g.2
 | _=>.pointer (some ⟨c.bm,1,none⟩)
structure PQ(c:Cn)(W:World)(E:Value)(eds:List AD)(d:AD)(Gd:List (Int×Int))(AV:List Bs)(C9:Nat)(x:Sg)(g:Nat×Value)(l:Array Bool)(w:World):Prop where
 way:Kb w C9 x
 kb:KB c.B W w
 sA:l.getD 19 false=false→Aa W w
 sB:l.getD 19 false=true→l.getD 22 false=false→∃F',Cs c E F' Gd AV eds w
 sG:l.getD 21 false=true→l.getD 22 false=false→w.heap[g.1]?=some (.cells #[.int .i64 d.f,.int .i64 d.t,.int .i64 d.l,.int .i64 d.r] 126)
 sC:l.getD 22 false=true→l.getD 24 false=false→∃F',w.heap[c.bm]?=some (.cells #[c.P,E,F'] 36)/\(∃A k d,g.2=.slice A k d)/\Cs c g.2 F' Gd AV (eds ++ [d]) (w.setCell ⟨c.bm,1,none⟩ g.2)
 sD:l.getD 24 false=true→∃F',Cs c g.2 F' Gd AV (eds ++ [d]) w
theorem AgG(b:Nat)(w:World):(Instr.fieldAt 155 (.pointer (some ⟨b,0,none⟩)) 0).run Tryz.prog w=.ok (.pointer (some ⟨b,0,none⟩)) w:=by simp [go_sem]
theorem AgH(b:Nat)(w:World):(Instr.fieldAt 155 (.pointer (some ⟨b,0,none⟩)) 1).run Tryz.prog w=.ok (.pointer (some ⟨b,2,none⟩)) w:=by simp [go_sem]
theorem AgF(b:Nat)(w:World):(Instr.fieldAt 134 (.pointer (some ⟨b,0,none⟩)) 0).run Tryz.prog w=.ok (.pointer (some ⟨b,0,none⟩)) w:=by simp [go_sem]
theorem Aky{w:World}{b:Nat}{x:Sg}(h:Kb w b x):(Instr.loadAt 155 (.pointer (some ⟨b,0,none⟩))).run Tryz.prog w=.ok (AA x) w:=by
 have h0:=Ab (o:=0) h rfl;have h1:=Ab (o:=1) h rfl;have h2:=Ab (o:=2) h rfl;have h3:=Ab (o:=3) h rfl;simp [go_sem,h0,h1,h2,h3,AA]
theorem Akw{w:World}{b:Nat}{u v:Value}(h:w.heap[b]?=some (.cells #[u,v] 134)):(Instr.loadAt 131 (.pointer (some ⟨b,0,none⟩))).run Tryz.prog w=.ok u w:=by
 have h0:=Ab (o:=0) h rfl;simp [go_sem,h0]
theorem pD{P:Program}{o:Oper}{a:Act}{w:World}{v:Value}{K:Act→World→Prop}{Q:Exit→Act→World→Prop}{t:TypeId}{x y:Operand}{b:Bool}{D:Option Nat}(p:.lookup t x y b=o.op)(d:D=o.dst)(h:(Instr.lookup t (a.eval x) (a.eval y) b).run P w=.ok v w)(hk:K (a.put D v) w):o.wp P a w K Q:=
 Hk (Instr.lookup t (a.eval x) (a.eval y) b) (by unfold execOp;rw [←p]) h (d▸hk)
section
variable {c : Cn} {W : World} {E : Value} {eds : List AD} {d : AD} {Gd : List (Int × Int)} {AV : List Bs} {C9 : Nat} {x : Sg} {g : Nat × Value} {l : Array Bool} {w : World}
theorem PQ.put(h:PQ c W E eds d Gd AV C9 x g l w){i:Nat}(hi:i≠19/\i≠21/\i≠22/\i≠24):PQ c W E eds d Gd AV C9 x g (l.setIfInBounds i true) w:=by
 refine⟨h.way,h.kb,?_,?_,?_,?_,?_⟩
 all_goals simp only [getD_set_ne false hi.1,getD_set_ne false hi.2.1,getD_set_ne false hi.2.2.1,getD_set_ne false hi.2.2.2]
 ·exact h.sA
 ·exact h.sB
 ·exact h.sG
 ·exact h.sC
 ·exact h.sD
end
theorem Anc{c:Cn}(ok:c.Ok){W:World}{E F:Value}{nm Gd:List (Int×Int)}{Ag AV:List Bs}{eds:List AD}(h0:Cs c E F nm Ag eds W){C9:Nat}{x:Sg}(hx:Kb W C9 x)(hel:eds.length<200000)(zl i1 i2 lr zr:Int)
  (Jw:Hb x.a c.idx=i1) (QH:Hb x.b c.idx=i2) (jp:AL (AY x) c.L=lr)
  (Xi:∀w F,Cs c E F nm Ag eds w→Calls Tryz.prog 187 #[.int .i64 lr,.pointer (some ⟨c.bx,0,none⟩),.pointer (some ⟨c.bm,0,none⟩),.pointer (some ⟨c.bu,0,none⟩)] w (PD w c.B c.bx c.bn c.bm c.bu c.U c.cu c.units c.P E F zr Gd AV))
  {a0:Act} {ops:Array Oper} (hop:ops.toList.map (fun o=>(o.op,o.dst))=mI) (AZ:bN ops bO=true) (XE:okB 64 24 ops=true) (hsz:88<=a0.tmps.size)
  (e5:a0.eval (.tmp 5)=.pointer (some ⟨c.bm,0,none⟩)) (e6:a0.eval (.tmp 6)=.map (some c.bi)) (e12:a0.eval (.tmp 12)=.pointer (some ⟨C9,0,none⟩)) (bW:a0.eval (.tmp 13)=.int .i64 zl) (e10:a0.eval (.tmp 10)=c.fn) (e0:a0.eval (.tmp 0)=.pointer (some ⟨c.r,0,none⟩))
  {id:Nat} {Q:Exit→Act→World→Prop}
  (hend:∀(v:Nat→Value) w E' F',Cs c E' F' Gd AV (eds ++ [⟨i1,i2,zl,zr⟩]) w→KB c.B W w→Q .normal ⟨(a0.tmps.toList.take 64++((List.range 24).map v++a0.tmps.toList.drop 88)).toArray,a0.defers⟩ w) :
  (Code.region id ops true).wp Tryz.prog Q a0 W:=by
 have Qh:Enters Tryz.prog 104:=enters_of Tryz.func104 (by kernel_rfl) rfl;have cI:Enters Tryz.prog 187:=enters_of Tryz.func187 (by kernel_rfl) rfl
 have Arl:ops.size=25:=by
  have:=congrArg List.length hop
  simpa [mI]using this
 refine Ap2 64 24 (Mv c E C9 x zl i1 i2 lr zr) (fun g l w=>PQ c W E eds ⟨i1,i2,zl,zr⟩ Gd AV C9 x g l w) (0,.slice none 0 0) (by kernel_rfl) XE (by omega) ?_ ?_ ?_
 ·refine⟨(Aa.refl W).drew.block _ (ArX hx) |>.trans hx,KB.ext (Aa.refl W).drew h0.size,fun _=>(Aa.refl W).drew,?_,?_,?_,?_⟩
  all_goals (rw [getD_replicate_false];intro e;cases e)
 ·intro b l a w i o Ah hst ho Xv Az hd;have hi:i<25:=(by have:=(Array.getElem?_eq_some_iff.1 ho).1;omega);have hL:=mH hop ho;have GO:=KR hd;have ev:=fun (d:Nat) {v:Value} (e:a0.eval (.tmp d)=v) (hd:d<64)=>Ah.out XE (.inl hd) e;replace e5:=ev 5 e5 (by omega);replace e6:=ev 6 e6 (by omega);replace e12:=ev 12 e12 (by omega);replace bW:=ev 13 bW (by omega);replace e10:=ev 10 e10 (by omega);replace e0:=ev 0 e0 (by omega)
  have dep:∀j k,bO.contains (j,k)=true→j=i→l.getD k false=true:=by rintro j k hjk rfl;have h1:=List.all_eq_true.1 AZ (j,k) (by simpa using hjk);rw [ho]at h1;exact GO k h1
  have need:∀j k,bO.contains (j,k)=true→l.getD j false=true→l.getD k false=true:=by
   intro j k hjk hl;have h1:=List.all_eq_true.1 AZ (j,k) (by simpa using hjk)
   cases jK:ops[j]? with
   | none=>rw [jK]at h1;cases h1
   | some oj=>rw [jK]at h1;exact Ah.waits jK hl k h1
  have sl:=fun (k:Nat) (hk:k<24) (hl:l.getD k false=true)=>Ah.val XE k (d:=64+k) rfl hk hl (v:=Mv c E C9 x zl i1 i2 lr zr b k) rfl
  have aP:l.getD 22 false=true→∀k,k<22→k≠0∨k=0→l.getD k false=true:=by
   intro Lp k hk _;have k1:=need 22 1 (by decide) Lp;have XU:=need 22 21 (by decide) Lp;have Re:=need 21 20 (by decide) XU;have k5:=need 20 5 (by decide) Re;have k9:=need 20 9 (by decide) Re;have rb:=need 20 10 (by decide) Re;have XT:=need 20 19 (by decide) Re;have k0:=need 1 0 (by decide) k1;have k2:=need 5 2 (by decide) k5;have k4:=need 5 4 (by decide) k5;have k3:=need 4 3 (by decide) k4;have k6:=need 9 6 (by decide) k9;have k8:=need 9 8 (by decide) k9;have k7:=need 8 7 (by decide) k8;have rf:=need 19 11 (by decide) XT;have lA:=need 19 18 (by decide) XT;have kZ:=need 18 15 (by decide) lA;have ri:=need 18 17 (by decide) lA;have rh:=need 17 16 (by decide) ri;have kY:=need 15 14 (by decide) kZ;have kX:=need 14 13 (by decide) kY;have k12:=need 13 12 (by decide) kX
   rcases(by omega:k=0∨k=1∨k=2∨k=3∨k=4∨k=5∨k=6∨k=7∨k=8∨k=9∨k=10∨k=11∨k=12∨k=13∨k=14∨k=15∨k=16∨k=17∨k=18∨k=19∨k=20∨k=21)with rfl|rfl|rfl|rfl|rfl|rfl|rfl|rfl|rfl|rfl|rfl|rfl|rfl|rfl|rfl|rfl|rfl|rfl|rfl|rfl|rfl|rfl<;>assumption
  have n22:i<22→l.getD 22 false=false:=fun h=>by
   cases e:l.getD 22 false
   ·rfl
   ·have:=aP e i h (by omega);rw [Az]at this;cases this
  have cs:i<22→∃F nm Ag,Cs c E F nm Ag eds w:=fun h=>by
   cases e:l.getD 19 false
   ·exact⟨_,_,_,h0.ext (hst.sA e)⟩
   ·obtain⟨F',h'⟩:=hst.sB e (n22 h);exact⟨F',_,_,h'⟩
  have fin:(i≠19/\i≠21/\i≠22/\i≠24)→∀v,v=Mv c E C9 x zl i1 i2 lr zr b i→∃b',a.put o.dst v=a.put o.dst (Mv c E C9 x zl i1 i2 lr zr b' i)/\(∀j,l.getD j false=true→Mv c E C9 x zl i1 i2 lr zr b' j=Mv c E C9 x zl i1 i2 lr zr b j)/\PQ c W E eds ⟨i1,i2,zl,zr⟩ Gd AV C9 x b' (l.setIfInBounds i true) w:=
   fun hne v hv=>⟨b,by rw [hv],fun _ _=>rfl,hst.put hne⟩
  rcases(by omega:i=0∨i=1∨i=2∨i=3∨i=4∨i=5∨i=6∨i=7∨i=8∨i=9∨i=10∨i=11∨i=12∨i=13∨i=14∨i=15∨i=16∨i=17∨i=18∨i=19∨i=20∨i=21∨i=22∨i=23∨i=24)with rfl|rfl|rfl|rfl|rfl|rfl|rfl|rfl|rfl|rfl|rfl|rfl|rfl|rfl|rfl|rfl|rfl|rfl|rfl|rfl|rfl|rfl|rfl|rfl|rfl
  all_goals
   simp only [mI,List.getElem?_cons_zero,List.getElem?_cons_succ,Ase,Prod.mk.injEq]at hL;obtain⟨p,d⟩:=hL
  ·refine Il p d (by rw [e5];exact Wd _ _) ?_;rw [d];exact fin (by omega) _ rfl
  ·obtain⟨F1,K3,VY,hc⟩:=cs (by omega);refine FH p d (by rw [show a.eval (.tmp 64)=_ from sl 0 (by omega) (dep 1 0 (by decide) rfl)];exact t8 (Ab hc.fc.cM rfl)) ?_;rw [d];exact fin (by omega) _ rfl
  ·refine NY _ p.symm ?_;rw [e6];exact fin (by omega) _ rfl
  ·refine Il p d (by rw [e12];exact AgG _ _) ?_;rw [d];exact fin (by omega) _ rfl
  ·refine FH p d (by rw [show a.eval (.tmp 67)=_ from sl 3 (by omega) (dep 4 3 (by decide) rfl)];exact Yd (Ab (o:=0) hst.way rfl) (Ab (o:=1) hst.way rfl)) ?_;rw [d];exact fin (by omega) _ rfl
  ·obtain⟨F1,K3,VY,hc⟩:=cs (by omega);refine pD p d (by rw [show a.eval (.tmp 66)=_ from sl 2 (by omega) (dep 5 2 (by decide) rfl),show a.eval (.tmp 68)=_ from sl 4 (by omega) (dep 5 4 (by decide) rfl)];exact hc.rd.idx.look x.a) ?_;rw [d];exact fin (by omega) _ (by rw [Jw];rfl)
  ·refine NY _ p.symm ?_;rw [e6];exact fin (by omega) _ rfl
  ·refine Il p d (by rw [e12];exact AgH _ _) ?_;rw [d];exact fin (by omega) _ rfl
  ·refine FH p d (by rw [show a.eval (.tmp 71)=_ from sl 7 (by omega) (dep 8 7 (by decide) rfl)];exact Yd (Ab (o:=2) hst.way rfl) (Ab (o:=3) hst.way rfl)) ?_;rw [d];exact fin (by omega) _ rfl
  ·obtain⟨F1,K3,VY,hc⟩:=cs (by omega);refine pD p d (by rw [show a.eval (.tmp 70)=_ from sl 6 (by omega) (dep 9 6 (by decide) rfl),show a.eval (.tmp 72)=_ from sl 8 (by omega) (dep 9 8 (by decide) rfl)];exact hc.rd.idx.look x.b) ?_;rw [d];exact fin (by omega) _ (by rw [QH];rfl)
  ·refine NY _ p.symm ?_;rw [bW];exact fin (by omega) _ rfl
  ·refine NY _ p.symm ?_;rw [e10];exact fin (by omega) _ rfl
  ·refine NY _ p.symm ?_;rw [e0];exact fin (by omega) _ rfl
  ·have s12:a.eval (.tmp 76)=.pointer (some ⟨c.r,0,none⟩):=sl 12 (by omega) (dep 13 12 (by decide) rfl);refine Zc (v:=.pointer (some ⟨c.r,0,none⟩)) (w':=w) ?_ (fin (by omega) _ rfl);unfold execOp;rw [←p];simp [s12]
  ·refine Il p d (by rw [show a.eval (.tmp 77)=_ from sl 13 (by omega) (dep 14 13 (by decide) rfl)];exact AgF _ _) ?_;rw [d];exact fin (by omega) _ rfl
  ·obtain⟨F1,K3,VY,hc⟩:=cs (by omega);refine FH p d (by rw [show a.eval (.tmp 78)=_ from sl 14 (by omega) (dep 15 14 (by decide) rfl)];exact Akw hc.rd.net) ?_;rw [d];exact fin (by omega) _ rfl
  ·refine FH p d (by rw [e12];exact Aky hst.way) ?_;rw [d];exact fin (by omega) _ rfl
  ·have n19:l.getD 19 false=false:=by
    cases e:l.getD 19 false
    ·rfl
    ·have:=need 18 17 (by decide) (need 19 18 (by decide) e);rw [Az]at this;cases this
   have n21:l.getD 21 false=false:=by
    cases e:l.getD 21 false
    ·rfl
    ·have:=need 20 19 (by decide) (need 21 20 (by decide) e);rw [n19]at this;cases this
   have n24:l.getD 24 false=false:=by
    cases e:l.getD 24 false
    ·rfl
    ·have:=need 24 22 (by decide) e;rw [n22 (by omega)]at this;cases this
   refine oZ p.symm Qh (show a.eval (.tmp 80)=_ from sl 16 (by omega) (dep 17 16 (by decide) rfl)) (VI x w) ?_;rintro e w'' ⟨rfl,hX⟩;refine⟨_,rfl,b,rfl,fun _ _=>rfl,?_⟩;refine PQ.put ⟨(hX.block _ (ArX hst.way)).trans hst.way,hst.kb.trans (KB.ext hX (h0.ext (hst.sA n19)).size),fun e=>(hst.sA e).trans hX,fun e=>?_,fun e=>?_,fun e=>?_,fun e=>?_⟩ (by omega)
   ·rw [n19]at e;cases e
   ·rw [n21]at e;cases e
   ·rw [n22 (by omega)]at e;cases e
   ·rw [n24]at e;cases e
  ·obtain⟨F1,K3,VY,hc⟩:=cs (by omega);refine pD p d (by rw [show a.eval (.tmp 79)=_ from sl 15 (by omega) (dep 18 15 (by decide) rfl),show a.eval (.tmp 81)=_ from sl 17 (by omega) (dep 18 17 (by decide) rfl)];exact R7 _ _ hc.rd.left) ?_;rw [d];exact fin (by omega) _ (by rw [jp];rfl)
  ·have n21:l.getD 21 false=false:=by
    cases e:l.getD 21 false
    ·rfl
    ·have:=need 20 19 (by decide) (need 21 20 (by decide) e);rw [Az]at this;cases this
   have n24:l.getD 24 false=false:=by
    cases e:l.getD 24 false
    ·rfl
    ·have:=need 24 22 (by decide) e;rw [n22 (by omega)]at this;cases this
   have hC:=h0.ext (hst.sA Az);refine AbL p.symm cI (show a.eval (.tmp 75)=_ from sl 11 (by omega) (dep 19 11 (by decide) rfl)) (show a.eval (.tmp 82)=_ from sl 18 (by omega) (dep 19 18 (by decide) rfl)) (Xi w F hC) ?_;rintro e w'' ⟨F',rfl,hF,hB⟩;refine⟨_,rfl,b,rfl,fun _ _=>rfl,?_⟩
   have hw:Kb w'' C9 x:=(hB.block _ (ArX hst.way) (by
    rintro(e|e|e)
    ·exact ML hst.way hC.fc.num e
    ·exact Ds hst.way hC.fc.cM (by decide) e
    ·exact A8 hC.fc.fac hst.way (by decide) e)).trans hst.way
   refine⟨hw,hst.kb.trans (KB.named ok hC hB),?_,?_,?_,?_,?_⟩
   all_goals simp only [EU (show 19<l.size by omega),getD_set_ne false (show (19:Nat)≠21 by omega),getD_set_ne false (show (19:Nat)≠22 by omega),getD_set_ne false (show (19:Nat)≠24 by omega)]
   ·intro e;cases e
   ·intro _ _;exact⟨F',hC.named ok hF hB⟩
   ·intro e;rw [n21]at e;cases e
   ·intro e;rw [n22 (by omega)]at e;cases e
   ·intro e;rw [n24]at e;cases e
  ·have s5:a.eval (.tmp 69)=.int .i64 i1:=sl 5 (by omega) (dep 20 5 (by decide) rfl);have s9:a.eval (.tmp 73)=.int .i64 i2:=sl 9 (by omega) (dep 20 9 (by decide) rfl);have Py:a.eval (.tmp 74)=.int .i64 zl:=sl 10 (by omega) (dep 20 10 (by decide) rfl);have P0:a.eval (.tmp 83)=.int .i64 zr:=sl 19 (by omega) (dep 20 19 (by decide) rfl);refine Hk (Instr.build 126 #[(0,.int .i64 i1),(1,.int .i64 i2),(2,.int .i64 zl),(3,.int .i64 zr)]) (by unfold execOp;rw [←p];simp [s5,s9,Py,P0]) (tM _ _ _ _ _) ?_;exact fin (by omega) _ rfl
  ·have EW:=dep 21 20 (by decide) rfl;have MS:=need 20 19 (by decide) EW
   have n24:l.getD 24 false=false:=by
    cases e:l.getD 24 false
    ·rfl
    ·have:=need 24 22 (by decide) e;rw [n22 (by omega)]at this;cases this
   have P1:a.eval (.tmp 84)=.agg #[.int .i64 i1,.int .i64 i2,.int .i64 zl,.int .i64 zr]:=sl 20 (by omega) EW;refine Hk (Instr.buildSlice 34 1 #[(0,.agg #[.int .i64 i1,.int .i64 i2,.int .i64 zl,.int .i64 zr])]) (by unfold execOp;rw [←p];simp [P1]) (tL _ _ _ _ _) ?_;have hX:=(Aa.refl w).alloc (.cells #[.int .i64 i1,.int .i64 i2,.int .i64 zl,.int .i64 zr] 126);refine⟨(w.heap.size,b.2),rfl,fun j hj=>?_,?_⟩
   ·have:j≠21:=(by rintro rfl;rw [Az]at hj;cases hj);unfold Mv
    split<;>first|rfl|omega
   ·obtain⟨F1,h1⟩:=hst.sB MS (n22 (by omega));refine⟨(hX.block _ (ArX hst.way)).trans hst.way,hst.kb.trans (KB.ext hX h1.size),?_,?_,?_,?_,?_⟩
    all_goals simp only [EU (show 21<l.size by omega),getD_set_ne false (show (21:Nat)≠19 by omega),getD_set_ne false (show (21:Nat)≠22 by omega),getD_set_ne false (show (21:Nat)≠24 by omega)]
    ·intro e;rw [MS]at e;cases e
    ·intro _ e;obtain⟨F',h'⟩:=hst.sB MS e;exact⟨F',h'.ext hX⟩
    ·intro _ _;exact ArY w _
    ·intro e;rw [n22 (by omega)]at e;cases e
    ·intro e;rw [n24]at e;cases e
  ·have Lo:=dep 22 21 (by decide) rfl;have MS:=need 20 19 (by decide) (need 21 20 (by decide) Lo)
   have n24:l.getD 24 false=false:=by
    cases e:l.getD 24 false
    ·rfl
    ·have:=need 24 22 (by decide) e;rw [Az]at this;cases this
   obtain⟨F',hC⟩:=hst.sB MS Az;refine AbH _ _ p.symm w c.B E eds.length eds (show a.eval (.tmp 65)=_ from sl 1 (by omega) (dep 22 1 (by decide) rfl)) hC.own hel ⟨i1,i2,zl,zr⟩ b.1 (hst.sG Lo Az) (show a.eval (.tmp 85)=_ from sl 21 (by omega) Lo) hC.size ?_;intro v' w' k1 k2;obtain⟨m1,m2⟩:=hC.app ok (d:=⟨i1,i2,zl,zr⟩) k2 k1;obtain⟨A,dd,rfl,-,-,-⟩:=Ae.of_own' (show 0<4 by omega) k1;refine⟨(b.1,.slice A (eds.length+1) dd),rfl,fun j hj=>?_,?_⟩
   ·have:j≠22:=(by rintro rfl;rw [Az]at hj;cases hj);unfold Mv
    split<;>first|rfl|omega
   ·have hw:Kb w' C9 x:=(k2.block _ (ArX hst.way) (fun e=>A8 hC.own hst.way (by decide) e.symm)).trans hst.way;refine⟨hw,hst.kb.trans (KB.app hC k2),?_,?_,?_,?_,?_⟩
    all_goals simp only [EU (show 22<l.size by omega),getD_set_ne false (show (22:Nat)≠19 by omega),getD_set_ne false (show (22:Nat)≠21 by omega),getD_set_ne false (show (22:Nat)≠24 by omega)]
    ·intro e;rw [MS]at e;cases e
    ·intro _ e;cases e
    ·intro _ e;cases e
    ·intro _ _;exact⟨F',m1,⟨_,_,_,rfl⟩,m2⟩
    ·intro e;rw [n24]at e;cases e
  ·refine Il p d (by rw [e5];exact Wd _ _) ?_;rw [d];exact fin (by omega) _ rfl
  ·have Lp:=dep 24 22 (by decide) rfl;have MS:=aP Lp 19 (by omega) (by omega);have Lo:=aP Lp 21 (by omega) (by omega);obtain⟨F',k1,k2,k3⟩:=hst.sC Lp Az
   have hrun:(execOp a.eval o).run Tryz.prog w=.ok .skip (w.setCell ⟨c.bm,1,none⟩ b.2):=by unfold execOp;rw [←p];show (do Instr.storeAt 34 (a.eval (.tmp 87)) (a.eval (.tmp 86));pure Next.skip:Sem Next).run Tryz.prog w=_;rw [show a.eval (.tmp 87)=_ from sl 23 (by omega) (dep 24 23 (by decide) rfl),show a.eval (.tmp 86)=_ from sl 22 (by omega) Lp];have:=Abg k2 k1;simp [Mv,this]
   unfold Oper.wp;rw [hrun];refine⟨b,?_,fun _ _=>rfl,?_⟩
   ·rw [←d];rfl
   ·have hw:Kb (w.setCell ⟨c.bm,1,none⟩ b.2) C9 x:=(Da (by show C9≠c.bm;exact Ds hst.way k1 (by decide))).trans hst.way;refine⟨hw,hst.kb.trans (KB.set ok k1 _),?_,?_,?_,?_,?_⟩
    all_goals simp only [EU (show 24<l.size by omega),getD_set_ne false (show (24:Nat)≠19 by omega),getD_set_ne false (show (24:Nat)≠21 by omega),getD_set_ne false (show (24:Nat)≠22 by omega)]
    ·intro e;rw [MS]at e;cases e
    ·intro _ e;rw [Lp]at e;cases e
    ·intro _ e;rw [Lp]at e;cases e
    ·intro _ e;cases e
    ·intro _;exact⟨F',k3⟩
 ·intro b l a w Ah Gu hall hst;obtain⟨F',hF⟩:=hst.sD (hall 24 (by omega));have:=Ah.lit XE (by omega) (by omega) hall Gu;rw [this];exact hend _ w _ F' hF hst.kb
end
end Go.Proofs.YtbejphgbbpplbaaGreatDoor
