/- K30: ShD4 ShBK ShBQ ShBR ShBS. -/
import Derived.Laws.EntriesVeiled
import Derived.Test.YtgnejnampofhoaaGreatDoorK29
set_option maxRecDepth 100000
set_option maxHeartbeats 8000000
namespace Go.Proofs.YtgnejnampofhoaaGreatDoor
open Go.RowKit Kl
open Go.ChangeMaps (setBlock)
theorem uZ{W:World}{b:Nat}{L:List (Sg×Int)}(h:W.heap[b]?=some (.map (AH AC (stamp L)).toArray L.length))(s:Sg)(hno:∀e∈L,AN s e.1=false)(z:Int) :
  ∃W',(Instr.mapUpdate 162 (.map (some b)) (AC s) (.int .i64 z)).run Tryz.prog W=.ok () W'/\W'.heap[b]?=some (.map (AH AC (stamp (L ++ [(s,z)]))).toArray (L ++ [(s,z)]).length)/\W.grownBy W' (some b)/\W'.heap.size=W.heap.size:=by
 refine⟨_,cY UL s (stamp L) ?_ (.int .i64 z) h,?_,Kc h,by simp [setBlock]⟩
 ·intro e he;obtain⟨x,hx,h1⟩:=dK he;rw [h1];exact hno x hx
 ·rw [KY h,zY];simp
theorem yY{s t:Sg}(h:s≠t):AN s t=false:=by
 rw [Bool.eq_false_iff];exact fun k=>h (Hd.1 k)
theorem zw{C:List (List Sg)}(Ci:C.flatten.Nodup){k:Nat}(hk:k<C.length){j:Nat}(hj:j<C[k].length):∀e∈Dh (C.take k)++(C[k].take j).map (fun s=>(s,(k:Int))),AN C[k][j] e.1=false:=by
 intro e he;refine yY fun hh=>?_;have h1:C=C.take k++C[k]::C.drop (k+1):=(by rw [←List.drop_eq_getElem_cons hk,List.take_append_drop]);have h2:C[k]=C[k].take j++C[k][j]::C[k].drop (j+1):=by rw [←List.drop_eq_getElem_cons hj,List.take_append_drop]
 have h3:C.flatten=(C.take k).flatten++(C[k]++(C.drop (k+1)).flatten):=by
  have:=congrArg List.flatten h1
  rwa [List.flatten_append,List.flatten_cons]at this
 rw [h3,List.nodup_append]at Ci;obtain⟨-,BM,AaY⟩:=Ci;rw [List.nodup_append]at BM;obtain⟨FR,-,-⟩:=BM
 rcases List.mem_append.1 he with he|he
 ·have:e.1∈(Dh (C.take k)).map (·.1):=List.mem_map_of_mem he;rw [wY]at this;exact AaY _ this _ (List.mem_append_left _ (Aj0 hj)) hh.symm
 ·rw [List.mem_map]at he;obtain⟨s,hs,rfl⟩:=he;rw [h2,List.nodup_append]at FR;exact FR.2.2 _ hs _ List.mem_cons_self hh.symm
theorem vN(n:Nat)(hn:n<=200000)(c:Int)(hc:c=(n:Int))(W:World) :
  (Instr.makeSlice 85 (.int .i64 c) (.int .i64 c)).run Tryz.prog W=.ok (.slice (some ⟨W.heap.size,0,none⟩) n n) (W.alloc (.cells (madeCells #[.int .i64 0] n) 3)):=Ad9 n hn c hc W
def IK(W:List Sg)(C:List (List Sg))(k:Nat):List Value:=(List.range C.length).map (fun j=>Value.int .i64 (if j<k then Co W C (W.length+1) j else 0))
theorem Afv(W:List Sg)(C:List (List Sg)):IK W C 0=zs (zn (List.replicate C.length 0)):=by
 unfold IK zs zn;apply List.ext_getElem
 ·simp
 ·intro i h1 h2;simp
theorem Aft(W:List Sg)(C:List (List Sg)):IK W C C.length=(J5 W C).map (Value.int .i64):=by
 unfold IK J5;apply List.ext_getElem
 ·simp
 ·intro i h1 h2;have:i<C.length:=(by simpa using h1);simp [this]
theorem Afu(W:List Sg)(C:List (List Sg)){k:Nat}(_:k<C.length):(IK W C k).set k (.int .i64 (Co W C (W.length+1) k))=IK W C (k+1):=by
 unfold IK;apply List.ext_getElem
 ·simp
 ·intro i h1 h2;by_cases h:k=i
  ·subst h;simp
  ·rw [List.getElem_set_ne h];have:(i<k+1)↔i<k:=(by omega);simp [this]
theorem ru(w:World)(o1 o2 o3 o4:Obj):∃W,W=(((w.alloc o1).alloc o2).alloc o3).alloc o4/\Ac w W/\W.heap.size=w.heap.size+4/\W.heap[w.heap.size]?=some o1/\W.heap[w.heap.size+1]?=some o2/\W.heap[w.heap.size+1+1]?=some o3/\W.heap[w.heap.size+1+1+1]?=some o4:=by
 obtain⟨V,hV,hE,h1,h2,h3⟩:=MN w o1 o2 o3;have hs:V.heap.size=w.heap.size+1+1+1:=(by rw [hV];simp);have Jd:=(Ac.refl V).alloc o4;refine⟨_,by rw [←hV],hE.alloc o4,by simp [hs],(Jd.block _ (Ajx h1)).trans h1,(Jd.block _ (Ajx h2)).trans h2,(Jd.block _ (Ajx h3)).trans h3,?_⟩;rw [←hs];exact Ajy V o4
def Ek(W:World)(b:Nat)(l:List (Sg×Int)):Prop:=W.heap[b]?=some (.map (AH AC (stamp l)).toArray l.length)
theorem Ek.ext{W W':World}{b:Nat}{l:List (Sg×Int)}(h:Ek W b l)(hx:Ac W W'):Ek W' b l:=(hx.block b (Ajx h)).trans h
theorem Afy{B:Nat}{w:World}(hw:Ao w){r b1 b2:Nat}{L:List (Sg×Int)}{E:List (Pt×Value×Nat)}{R0:List (Pt×List Pt)}(h:Br B w r b1 b2 L E R0){W U:List Sg}{C:List (List Sg)}(hW:W=L.map (·.1))(hG:NN W U C){A:Option Addr}{cap:Nat}(hC:Li w A cap C) :
  Calls Tryz.prog 193 #[.pointer (some ⟨r,0,none⟩),.slice A C.length cap] w fun e w'=>∃A',e=.returned (.slice A' C.length C.length)/\Ae w' A' ((J5 W C).map (Value.int .i64))/\Ac w w':=by
 have hmm:=@run_makeMap Tryz.prog;have Jj:=hC.cap1;have O9:=hC.cap2;go_enter Tryz.func193,Tryz.ntmps193
 go_upto_region 2 with fail
 obtain⟨W1,hW1,BK,hs1,hb1,hb2,hb3,hb4⟩:=ru w (.cells #[.pointer (some ⟨r,0,none⟩)] 159) (.cells #[.slice A C.length cap] 253) (.map #[] 0) (.cells #[.map (some (w.heap.size+1+1))] 162);rw [←hW1];clear hW1;obtain⟨bn,Dd⟩:=Ajv w.heap.size;rw [←Dd]at hb1 hb2 hb3 hb4 ⊢;have hle:w.heap.size<=bn:=(by omega);have XX:Ek W1 (bn+1+1) (Dh (C.take 0)):=by rw [List.take_zero];exact hb3
 have mZ:C.length<=100000:=by have h1:=UM hG.ok.ne;rw [hG.ok.flat]at h1;have h2:=Ju hG.ok.nd hG.ok.sub;have:=hG.len;omega
 have hl0:(0:Int)<=(C.length:Int):=(by omega);have Ci:C.flatten.Nodup:=(by rw [hG.ok.flat];exact hG.ok.nd);have VZ:=Ajw Ci;have m2:=Aa (o:=0) hb2 rfl;clear Dd hb3 Ci
 go_upto_region 3 with fail
 go_loopw [16] (fun i wr=>∃k:Nat,i=.int .i64 (k:Nat)/\k<=C.length/\Ek wr (bn+1+1) (Dh (C.take k))/\Ax (fun j=>j=bn+1+1) W1 wr) (fun i _=>C.length-(intOf i).toNat)
 case atStart=>exact⟨0,rfl,by omega,XX,Ax.refl _ _⟩
 case round=>
  obtain⟨k,rfl,hk,hM,hB⟩:=hrel;have BQ:Ac w wr:=hB.toExt BK (fun j e=>by subst e;omega);by_cases hlt:k<C.length
  ·obtain⟨bA,oA,A',c',rfl,hcell,Bi,hc1,hc2⟩:=hC.row k hlt;replace hcell:=BQ.cellS hcell;have hk0:(0:Int)<=(k:Int):=(by omega);have Dn:(k:Int)<(C.length:Int):=(by omega);obtain⟨c,hcc⟩:=Ajv (C[k]);have hfr:=fun j (hj:j<C[k].length)=>zw VZ.out hlt hj;rw [←hcc]at hcell Bi hc1 hfr
   have LK:Dh (C.take (k+1))=Dh (C.take k)++c.map (fun s=>(s,(k:Int))):=by rw [Aj2 hlt,wZ,←hcc,List.length_take,Nat.min_eq_left (by omega)]
   have VW:=Ajw LK;have VN:=Ajw hfr;have Bt:Ek wr (bn+1+1) (Dh (C.take k)++(c.take 0).map (fun s=>(s,(k:Int)))):=(by rw [List.take_zero,List.map_nil,List.append_nil];exact hM);have hcl:(0:Int)<=(c.length:Int):=(by omega);clear hcc LK hfr hM
   go_upto_region 6 with fail
   go_loopw [23] (fun i wi=>∃j:Nat,i=.int .i64 (j:Nat)/\j<=c.length/\Ek wi (bn+1+1) (Dh (C.take k)++(c.take j).map (fun s=>(s,(k:Int))))/\Ax (fun j=>j=bn+1+1) W1 wi) (fun i _=>c.length-(intOf i).toNat)
   case atStart=>exact⟨0,rfl,by omega,Bt,hB⟩
   case round=>
    obtain⟨j,rfl,hj,TS,Q6⟩:=hrel;have O4:Ac w wr:=Q6.toExt BK (fun j e=>by subst e;omega);by_cases AP:j<c.length
    ·obtain⟨b',o',rfl,f1,f2,f3,f4⟩:=J4 (Bi.ext O4) AP;have hno:=VN.out j AP
     have Ic:Dh (C.take k)++(c.take (j+1)).map (fun s=>(s,(k:Int)))=(Dh (C.take k)++(c.take j).map (fun s=>(s,(k:Int)))) ++ [(c[j],(k:Int))]:=by rw [Aj2 AP,List.map_append,←List.append_assoc];rfl
     obtain⟨s,hs⟩:=Ajv (c[j]);rw [←hs]at f1 f2 f3 f4 hno Ic;have hj0:(0:Int)<=(j:Int):=(by omega);have Ku:(j:Int)<(c.length:Int):=(by omega);have AO:=Ajy wr (.cells #[S (R s.a.x),S (R s.a.y),S (R s.b.x),S (R s.b.y)] 175);have E4:=(Ac.refl wr).alloc (.cells #[S (R s.a.x),S (R s.a.y),S (R s.b.x),S (R s.b.y)] 175);have h4:=(E4.block _ (Ajx (Q6.cells hb4 (by omega)))).trans (Q6.cells hb4 (by omega));obtain⟨Wp,hput,Jh,Mb,-⟩:=uZ (TS.ext E4) s hno (k:Int);rw [←Ic]at Jh;have XL:=(Q6.ext E4).grown Mb (fun q e=>by cases e;exact .inl rfl);have PN:=Ajw Jh;clear hno Ic hs TS Mb Jh
     go_upto_region 8 with fail
     unfold S at AO h4 hput;unfold AC S at hput;have z0:=Aa (o:=0) AO rfl;have z1:=Aa (o:=1) AO rfl;have z2:=Aa (o:=2) AO rfl;have z3:=Aa (o:=3) AO rfl;have z4:=Aa (o:=0) h4 rfl;generalize (wr.alloc (.cells #[.string ⟨(R s.a.x).toArray⟩,.string ⟨(R s.a.y).toArray⟩,.string ⟨(R s.b.x).toArray⟩,.string ⟨(R s.b.y).toArray⟩] 175))=W4 at *;clear f1 f2 f3 f4 AO h4;go_wp2;go_roundw
     case rel=>exact⟨j+1,by go_num,AP,PN.out,XL⟩
     case measure=>simp [intOf];omega
    ·have Jr:j=c.length:=(by omega);subst Jr;have Zk:(c.length:Int)<=(c.length:Int):=(by omega);rw [List.take_length,←VW.out]at TS;go_wp2;go_roundw
     case rel=>exact⟨k+1,by go_num,hlt,TS,Q6⟩
     case measure=>simp [intOf];omega
  ·have CP:k=C.length:=(by omega);subst CP;rw [List.take_length]at hM;have hmk:=vN C.length (by omega) (C.length:Int) rfl wr;have U0:∀(fn:Fn) (first cap:Array Value) (w:World),(Instr.makeFunc fn first cap).run Tryz.prog w=.ok (.func fn first cap) w:=fun _ _ _ _=>rfl;have Uk:=hB.cells hb2 (by omega);have m2':=Aa (o:=0) Uk rfl;have own:=wS wr w.heap.size C.length (Aj9 BK.size hB.size) (by omega);have hx0:(w.heap.size:Nat)<=wr.heap.size:=Aj9 BK.size hB.size;have Q8:=(Ac.refl wr).alloc (.cells (madeCells #[.int .i64 0] C.length) 3);obtain⟨fv,LZ⟩:=Ajv (Value.func (.func 268) #[] #[.pointer (some ⟨bn+1,0,none⟩),.pointer (some ⟨bn,0,none⟩),.pointer (some ⟨wr.heap.size+1,0,none⟩),.pointer (some ⟨bn+1+1+1,0,none⟩)]);have XO:=(Ac.refl (wr.alloc (.cells (madeCells #[.int .i64 0] C.length) 3))).alloc (.cells #[fv] 235);have Nm:=Ajy (wr.alloc (.cells (madeCells #[.int .i64 0] C.length) 3)) (.cells #[fv] 235);rw [Aj6]at Nm;have Gf:=Q8.trans XO;have Ce:=BQ.trans Gf;have bK:=A9 own XO;have EC:=hM.ext Gf;have n1:=(Gf.block _ (Ajx (hB.cells hb1 (by omega)))).trans (hB.cells hb1 (by omega));have n2:=(Gf.block _ (Ajx Uk)).trans Uk;have n4:=(Gf.block _ (Ajx (hB.cells hb4 (by omega)))).trans (hB.cells hb4 (by omega));have OH:bn+1+1+1<wr.heap.size:=Ajx (hB.cells hb4 (by omega));have RE:wr.heap.size+1<((wr.alloc (.cells (madeCells #[.int .i64 0] C.length) 3)).alloc (.cells #[fv] 235)).heap.size:=by simp
   go_upto_region 14 with fail
   rw [←LZ];clear hmk U0 m2' own hM Q8 XO Gf Uk;generalize (wr.alloc (.cells (madeCells #[.int .i64 0] C.length) 3)).alloc (.cells #[fv] 235)=V2 at *;obtain⟨bo,Cw⟩:=Ajv wr.heap.size;rw [←Cw]at bK LZ Nm OH RE ⊢;have Aci:w.heap.size<=bo:=(by omega);clear Cw;have Aex:V2.ownsRow w.heap.size 3 1 (.slice (some ⟨bo,0,none⟩) C.length C.length) C.length (IK W C 0):=(by rw [Afv];exact bK);have m2:=Aa (o:=0) n2 rfl
   have Rq:∀i (hi:i<C.length),leftOf W (Co.aOf C[i]).x<W.length+1:=fun i hi=>by have:leftOf W (Co.aOf C[i]).x<=W.length:=List.countP_le_length;omega
   have ij:=Ajw LZ;clear bK LZ
   go_upto_region 15 with fail
   clear m2
   go_loopw [38] (fun i w3=>∃k:Nat,i=.int .i64 (k:Nat)/\k<=C.length/\w3.ownsRow w.heap.size 3 1 (.slice (some ⟨bo,0,none⟩) C.length C.length) C.length (IK W C k)/\Ax (fun j=>j=bo) V2 w3) (fun i _=>C.length-(intOf i).toNat)
   case atStart=>exact⟨0,rfl,by omega,Aex,Ax.refl _ _⟩
   case round=>
    obtain⟨k,rfl,hk3,Kz,EB⟩:=hrel;have BL:Ac w wr:=EB.toExt Ce (fun j e=>by subst e;exact Aci);by_cases hlt:k<C.length
    ·have hR:PY B wr r b1 b2 L E R0 (bn+1) bn (bo+1) (bn+1+1+1) (bn+1+1) A cap C:=⟨h.ext BL,hC.ext BL,Aa (EB.cells n2 (by omega)) rfl,Aa (EB.cells n1 (by omega)) rfl,by rw [←ij.out];exact Aa (EB.cells Nm (by omega)) rfl,Aa (EB.cells n4 (by omega)) rfl,EB.cells EC (by omega)⟩;have fc:=zq hW hG (W.length+1) k hlt (Rq k hlt) wr (hw.ext BL) hR;have Um:wr.cell? ⟨bo+1,0,none⟩=some (.func (.func 268) #[] #[.pointer (some ⟨bn+1,0,none⟩),.pointer (some ⟨bn,0,none⟩),.pointer (some ⟨bo+1,0,none⟩),.pointer (some ⟨bn+1+1+1,0,none⟩)]):=hR.cf;obtain⟨z,hz⟩:=Ajv (Co W C (W.length+1) k);rw [←hz]at fc;have hk0:(0:Int)<=(k:Int):=(by omega);have Dn:(k:Int)<(C.length:Int):=(by omega);have HZ:=Ajw hz;clear hz hR;have Ec:(IK W C k)[k]?=some (.int .i64 0):=(by unfold IK;simp [hlt]);have A7:=Afu W C hlt;rw [←HZ.out]at A7;have HS:=Ajw A7;clear A7;(go_wp2_with fail);(with_reducible refine fc.mono ?_);rintro e w4 ⟨rfl,Aq⟩;have Fi:=A9 Kz Aq;have hce:=(Fi.cellAt k (by omega)).trans Ec;have H6:=Fi.frozenAt k;have hst:=(Fi.stored k (.int .i64 z)).1;have hg4:=(Fi.stored k (.int .i64 z)).2;have TI:=(EB.ext Aq).grown hg4 (fun q e=>by cases e;exact .inl rfl);rw [HS.out]at hst;clear hg4 EB Kz Fi fc Um;go_wp2;go_roundw
     case rel=>exact⟨k+1,by go_num,hlt,hst,TI⟩
     case measure=>simp [intOf];omega
    ·have CP:k=C.length:=(by omega);subst CP;rw [Aft]at Kz;obtain⟨A2,cap2,H5,ID,-,-⟩:=Ae.of_own' (by omega) Kz;simp only [Value.slice.injEq,true_and]at H5;obtain⟨rfl,-⟩:=H5;go_wp2;go_ret;exact⟨_,rfl,ID,BL⟩
end Go.Proofs.YtgnejnampofhoaaGreatDoor
namespace Go.Proofs.YtgnejnampofhoaaGreatDoor
open Go.RowKit Kl
def Dv(P:List (List Pt×Bs))(i:Nat):List Pt:=(P.take i).flatMap (·.1)
def Qn(P:List (List Pt×Bs)):List Pt:=Lib.compact (Eh (Dv P P.length))
theorem kL{P:List (List Pt×Bs)}{i:Nat}(h:i<P.length):Dv P (i+1)=Dv P i++P[i].1:=by
 unfold Dv;rw [Aj2 h,List.flatMap_append];simp
theorem Xi{P:List (List Pt×Bs)}(hP:∀e∈P,e.1.length<=60):∀i,i<=P.length→(Dv P i).length<=i*60
 | 0,_=>by simp [Dv]
 | i+1,h=>by rw [kL (show i<P.length by omega),List.length_append];have h1:=Xi hP i (by omega);have h2:=hP _ (Aj0 (show i<P.length by omega));omega
theorem vJ{P:List (List Pt×Bs)}{i:Nat}{q:Pt}(h:q∈Dv P i):∃e∈P,q∈e.1:=by
 unfold Dv at h;rw [List.mem_flatMap]at h;obtain⟨e,he,hq⟩:=h;exact⟨e,List.mem_of_mem_take he,hq⟩
theorem mem_compact{l:List Pt}{q:Pt}(h:q∈Lib.compact l):q∈l:=by
 unfold Lib.compact Lib.compactUpTo at h;rw [List.mem_map]at h;obtain⟨j,hj,rfl⟩:=h;have hj':j<l.length:=(by simpa using (List.mem_filter.1 hj).1);rw [getElem!_pos l.toArray j (by simpa using hj')];simp
theorem vh(l:List Pt):(Lib.compact l).length<=l.length:=by
 unfold Lib.compact Lib.compactUpTo;rw [List.length_map];refine Aj9 (List.length_filter_le _ _) ?_;simp
section
variable {ops : Array Oper} {rest : List Oper} {o : Oper} {a : Act} {Q : Exit → Act → World → Prop}
theorem oy(hgd:o.guard=none)(s x:Operand)(ho:o.op=.call {callee:=.builtin .append,args:=#[s,x],argTypes:=#[31,31]})
  (wN:World) (base:Nat) (v:Value) (n:Nat) (l:List Pt) (hs:a.eval s=v) (hown:wN.ownsRow base 27 2 v n (flat (Ai l))) (hn:n<200000) (m:List Pt) (A:Option Addr) (c:Nat) (hx:a.eval x=.slice A m.length c) (hr:Ae wN A (flat (Ai m))) (hm:0<m.length) (Mi:m.length<=1000) (hbase:base<=wN.heap.size)
  (h:∀v' w',w'.ownsRow base 27 2 v' (n+m.length) (flat (Ai (l++m)))→(∀w0,Ac w0 wN→w0.heap.size<=base→Ac w0 w')→wpList Tryz.prog ops Q rest (a.put o.dst v') w') :
  wpList Tryz.prog ops Q (o::rest) a wN:=by
 obtain⟨i0,hi,hz0,hz1,hz2⟩:=info_parts Tryz.infoPt;have CN:(flat (Ai m)).length=m.length*2:=(by rw [flat_length];simp [Ai]);obtain⟨b,oo,rfl,hc⟩:=hr.ad (by omega);have QY:(n+m.length)*32<=140737488355328:=(by omega);have Ch:n+m.length<=maxLen:=(by unfold maxLen;omega);refine wpList_plain hgd fun K hK=>wp_append_own _ s x 31 ho base 27 i0 (.agg #[S [],S []]) 2 32 Tryz.underlying31 hi hz0 hz1 hz2 rfl (by omega) v n _ hs hown ⟨b,oo,none⟩ m.length c (flat (Ai m)) hx ?_ ?_ ?_ Ch QY hbase ?_
 ·exact CN
 ·intro j u hu;obtain⟨hj,e⟩:=List.getElem?_eq_some_iff.1 hu;rw [Addr.add_lit,←e];exact hc j hj
 ·intro u hu;unfold flat at hu;simp only [List.mem_flatMap,List.mem_cons,AjA,or_false]at hu;obtain⟨p,_,rfl|rfl⟩:=hu<;>rfl
 ·intro v' w' h2 h3 _;refine hK _ _ (h v' w' ?_ (fun w0 he Bf=>?_))
  ·have e:flat (Ai (l++m))=flat (Ai l)++flat (Ai m):=(by unfold flat Ai;simp);rw [e];exact h2
  ·exact he.grown h3 fun k hk=>by
    rcases hown.2 with⟨rfl,_⟩|⟨g,cap,cur,rfl,hb',_⟩
    ·cases hk
    ·simp only [Value.ownBlock,Aj3]at hk;omega
end
section
open Go.ChangeMaps (setBlock)
theorem uQ:IV 262 27 3 (.int .i64 0) Ak Ay where
 map:=Tryz.underlying262
 st:=⟨_,Tryz.underlying27⟩
 zero:=fun W=>by simp [go_sem]
 eq:=lR
 chk:=jQ
 iff:=C3
 bits:=fun x=>by unfold Ak;simp [Instr.sameBits,beq_toListBytes]
def Lc(L:List (Pt×Int)):List (Pt×Value×Nat):=L.mapIdx fun i e=>(e.1,.int .i64 e.2,i)
theorem AgA(L:List (Pt×Int))(e:Pt×Int):Lc (L ++ [e])=Lc L ++ [(e.1,.int .i64 e.2,L.length)]:=by simp [Lc,List.mapIdx_append]
theorem Ag9{L:List (Pt×Int)}{x:Pt×Value×Nat}(h:x∈Lc L):∃e∈L,x.1=e.1:=by
 unfold Lc at h;rw [List.mem_mapIdx]at h;obtain⟨i,hi,rfl⟩:=h;exact⟨L[i],Aj0 hi,rfl⟩
def G0(p:Pt)(L:List (Pt×Int)):Int:=match L.find? (fun e=>Ay p e.1)with|some e=>e.2|none=>0
theorem Adt(p:Pt)(L:List (Pt×Int)):EJ Ay (.int .i64 0) p (Lc L)=.int .i64 (G0 p L):=by
 have h:∀(L:List (Pt×Int)) (n:Nat),EJ Ay (.int .i64 0) p (L.mapIdx fun i e=>(e.1,.int .i64 e.2,i+n))=.int .i64 (G0 p L):=by
  intro L
  induction L with
  | nil=>intro n;simp [EJ,G0]
  | cons e L ih=>
   intro n;rw [List.mapIdx_cons];unfold EJ G0;rw [List.find?_cons,List.find?_cons];simp only
   cases hb:Ay p e.1
   ·simp only;have:=ih (n+1)
    have e1:(L.mapIdx fun i e=>(e.1,Value.int .i64 e.2,i+1+n))=L.mapIdx fun i e=>(e.1,Value.int .i64 e.2,i+(n+1)):=by congr 1;funext i e;rw [show i+1+n=i+(n+1)by omega]
    rw [e1];unfold EJ G0 at this;exact this
   ·rfl
 exact h L 0
def Hj(W:World)(b:Nat)(l:List (Pt×Int)):Prop:=W.heap[b]?=some (.map (AH Ak (Lc l)).toArray l.length)
theorem Hj.ext{W W':World}{b:Nat}{l:List (Pt×Int)}(h:Hj W b l)(hx:Ac W W'):Hj W' b l:=(hx.block b (Ajx h)).trans h
theorem Hj.put{W:World}{b:Nat}{l:List (Pt×Int)}(h:Hj W b l)(p:Pt)(hno:∀e∈l,Ay p e.1=false)(z:Int) :
  ∃W',(Instr.mapUpdate 262 (.map (some b)) (Ak p) (.int .i64 z)).run Tryz.prog W=.ok () W'/\Hj W' b (l ++ [(p,z)])/\W.grownBy W' (some b)/\W'.heap.size=W.heap.size:=by
 refine⟨_,cY uQ p (Lc l) (fun e he=>by obtain⟨e',h1,h2⟩:=Ag9 he;rw [h2];exact hno e' h1) (.int .i64 z) h,?_,Kc h,by simp [setBlock]⟩;unfold Hj;rw [KY h,AgA,List.length_append]
 rfl
theorem Hj.look{W:World}{b:Nat}{l:List (Pt×Int)}(h:Hj W b l)(p:Pt):(Instr.lookup 262 (.map (some b)) (Ak p) false).run Tryz.prog W=.ok (.int .i64 (G0 p l)) W:=by
 rw [Px uQ p (Lc l) h,Adt]
theorem Vr(k:Int)(l:List (Int×Int)){b clock:Nat}{W:World}(hb:W.heap[b]?=some (.map (JV l).toArray clock)) :
  (Instr.lookup 237 (.map (some b)) (.int .i64 k) false).run Tryz.prog W=.ok (.int .i64 ((BU k l).getD 0)) W:=by
 obtain⟨x,h1,h2⟩:=X9 k l W;have hz:(zeroValue 3).run Tryz.prog W=.ok (.int .i64 0) W:=(by simp [go_sem]);have hc:∀b,(Instr.checkKey b 10000 3 (.int .i64 k)).run Tryz.prog W=.ok () W:=fun b=>MapKept.run_checkKey (k:=.int .i64 k) Tryz.underlying3 (by simp [MapKept.IsKey]) b 9999;have hm:=run_underlying (w:=W) Tryz.underlying237
 cases h:BU k l with
 | none=>
  rw [h]at h2;have hx:x=none:=(by simpa using h2);subst hx;simp [Instr.lookup,hm,MapKept.run_getObj_map hb,hc,h1,hz,Result.andThen]
 | some z=>rw [h]at h2;obtain⟨⟨i,v⟩,rfl,hv⟩:=Option.map_eq_some_iff.1 h2;simp only at hv;subst hv;simp [Instr.lookup,hm,MapKept.run_getObj_map hb,hc,h1,Result.andThen]
theorem Ax.mono{K K':Nat→Prop}{w w':World}(h:Ax K w w')(hk:∀k,K k→K' k):Ax K' w w':=⟨h.os,h.tape,h.output,h.size,fun k h1 h2=>h.block k h1 (fun h3=>h2 (hk k h3))⟩
structure G6(wr:World)(B bx bn bm bu:Nat)(U:Option Addr)(cu:Nat)(units:List Bs)(P E F:Value)(nm:List (Int×Int))(A8:List Bs):Prop where
 cN:wr.heap[bx]?=some (.cells #[.map (some bn)] 237)
 num:CE wr bn nm
 cM:wr.heap[bm]?=some (.cells #[P,E,F] 35)
 fac:wr.ownsRow B 9 1 F A8.length (A8.map S)
 cU:wr.heap[bu]?=some (.cells #[.slice U units.length cu] 33)
 uni:Ae wr U (units.map S)
 uB:∀x,U=some x→x.block<B
theorem G6.extn{w w':World}{B bx bn bm bu:Nat}{U:Option Addr}{cu:Nat}{units:List Bs}{P E F:Value}{nm:List (Int×Int)}{A8:List Bs}(h:G6 w B bx bn bm bu U cu units P E F nm A8)(hx:Ac w w'):G6 w' B bx bn bm bu U cu units P E F nm A8:=
 ⟨(hx.block _ (Ajx h.cN)).trans h.cN,(hx.block _ (Ajx h.num)).trans h.num,(hx.block _ (Ajx h.cM)).trans h.cM,A9 h.fac hx,(hx.block _ (Ajx h.cU)).trans h.cU,h.uni.ext hx,h.uB⟩
theorem G6.far{w w':World}{B bx bn bm bu:Nat}{U:Option Addr}{cu:Nat}{units:List Bs}{P E F:Value}{nm:List (Int×Int)}{A8:List Bs}(h:G6 w B bx bn bm bu U cu units P E F nm A8){K:Nat→Prop}(hb:Ax K w w')
  (k1:¬K bx) (k2:¬K bn) (k3:¬K bm) (k4:¬K bu) (k5:∀k,F.ownBlock=some k→¬K k) (k6:∀x,U=some x→0<units.length→¬K x.block):G6 w' B bx bn bm bu U cu units P E F nm A8:=by
 refine⟨(hb.block _ (Ajx h.cN) k1).trans h.cN,(hb.block _ (Ajx h.num) k2).trans h.num,(hb.block _ (Ajx h.cM) k3).trans h.cM,Bw h.fac hb k5,(hb.block _ (Ajx h.cU) k4).trans h.cU,⟨fun h0=>?_⟩,h.uB⟩;obtain⟨b,o,e,hc⟩:=h.uni.ad h0;refine⟨b,o,e,fun j hj=>?_⟩;have h1:=hc j hj;exact(World.cell?_of_block (a:=⟨b,o+j,none⟩) (hb.block b (World.block_lt_of_cell? w _ h1) (k6 _ e (by simpa using h0)))).trans h1
def NM(w:World)(B bx bn bm bu:Nat)(U:Option Addr)(cu:Nat)(units:List Bs)(P E F:Value)(z:Int)(D7:List (Int×Int))(Fe:List Bs)(e:Ending)(w':World):Prop:=
 ∃F',e=.returned (.int .i64 z)/\G6 w' B bx bn bm bu U cu units P E F' D7 Fe/\Ax (fun k=>k=bn∨k=bm∨F.ownBlock=some k) w w'
theorem zh{w:World}{B bx bn bm bu:Nat}{U:Option Addr}{cu:Nat}{units:List Bs}{P E F:Value}{nm:List (Int×Int)}{A8:List Bs}(h:G6 w B bx bn bm bu U cu units P E F nm A8)(f z:Int)(hf:BU f nm=some z) :
  Calls Tryz.prog 198 #[.int .i64 f,.pointer (some ⟨bx,0,none⟩),.pointer (some ⟨bm,0,none⟩),.pointer (some ⟨bu,0,none⟩)] w (NM w B bx bn bm bu U cu units P E F z nm A8):=by
 have k0:=Aa (o:=0) h.cN rfl;have lk:=Sq f nm h.num;have Jv:=Vr f nm h.num;rw [hf]at lk Jv;simp only [Option.getD_some,Option.isSome_some]at lk Jv;go_enter Tryz.func198,Tryz.ntmps198;go_wp2;go_ret;exact⟨F,rfl,h,Ax.refl _ _⟩
theorem zf{w:World}{B bx bn bm bu:Nat}{U:Option Addr}{cu:Nat}{units:List Bs}{P E F:Value}{nm:List (Int×Int)}{A8:List Bs}(h:G6 w B bx bn bm bu U cu units P E F nm A8)(hB:B<=w.heap.size)(hBn:B<=bn)(hBm:B<=bm)(m:Nat)(hf:BU (m:Int) nm=none)(hm:m<units.length)(If:units.length<=100000)(CN:A8.length<=100000) :
  Calls Tryz.prog 198 #[.int .i64 (m:Nat),.pointer (some ⟨bx,0,none⟩),.pointer (some ⟨bm,0,none⟩),.pointer (some ⟨bu,0,none⟩)] w (NM w B bx bn bm bu U cu units P E F (A8.length:Nat) (nm ++ [((m:Int),(A8.length:Int))]) (A8 ++ [units[m]])):=by
 have k0:=Aa (o:=0) h.cN rfl;have lk:=Sq (m:Int) nm h.num;rw [hf]at lk;simp only [Option.getD_none,Option.isSome_none]at lk;obtain⟨W1,hput,Eo,hg1,hs1⟩:=h.num.put (m:Int) (A8.length:Int) hf;have hb1:Ax (fun k=>k=bn) w W1:=(Ax.refl (fun k=>k=bn) w).grown hg1 (fun k e=>by cases e;exact .inl rfl)
 have nx:bx≠bn:=by
  intro e;have:=h.num;unfold CE at this;rw [←e,h.cN]at this
  cases this
 have vU:bm≠bn:=by
  intro e;have:=h.num;unfold CE at this;rw [←e,h.cM]at this
  cases this
 have nu:bu≠bn:=by
  intro e;have:=h.num;unfold CE at this;rw [←e,h.cU]at this
  cases this
 have nF:F.ownBlock≠some bn:=by
  intro e
  rcases h.fac.2 with⟨h',_⟩|⟨g,cap,cur,h',_,hgb,_⟩
  ·rw [h']at e;cases e
  ·rw [h']at e;simp only [Value.ownBlock,Aj3]at e;subst e;have:=h.num;unfold CE at this;rw [hgb]at this
   cases this
 have c1:=(hb1.block _ (Ajx h.cN) nx).trans h.cN;have c2:=(hb1.block _ (Ajx h.cM) vU).trans h.cM;have c3:=(hb1.block _ (Ajx h.cU) nu).trans h.cU;have c4:=Bw h.fac hb1 (fun k hk e=>by subst e;exact nF hk)
 have c5:Ae W1 U (units.map S):=⟨fun h0=>by
  obtain⟨b,o,e,hc⟩:=h.uni.ad h0;refine⟨b,o,e,fun j hj=>?_⟩;have h1:=hc j hj
  exact(World.cell?_of_block (a:=⟨b,o+j,none⟩) (hb1.block b (World.block_lt_of_cell? w _ h1) (fun e'=>by have:=h.uB _ e;simp only at this;omega))).trans h1⟩
 have hB1:B<=W1.heap.size:=(by omega);obtain⟨ub,uo,rfl,hu⟩:=c5.ad (by simp;omega);have hum:=hu m (by simp;omega);have AiM:ub<B:=h.uB _ rfl;obtain⟨s,hs⟩:=Ajv (units[m]);rw [List.getElem_map,←hs]at hum;rw [←hs];obtain⟨oF,cF,rfl,-,-,-⟩:=Ae.of_own' (by omega) h.fac;have k1:w.cell? ⟨bm,2,none⟩=some (.slice oF A8.length cF):=Aa h.cM rfl;have k2:W1.cell? ⟨bm,2,none⟩=some (.slice oF A8.length cF):=Aa c2 rfl;have k3:=Aa (o:=0) c3 rfl;have hm0:(0:Int)<=(m:Int):=(by omega);have hm1:(m:Int)<(units.length:Int):=(by omega);have HN:=Ajw Eo;have NP:=Ajw hb1;have HW:=Ajw h;have Lm:=Ajw hf;clear hu hs hf Eo hb1 hg1 hs1 h;go_enter Tryz.func198,Tryz.ntmps198
 go_upto_region 4 with fail
 have hFM:(Value.slice oF A8.length cF).ownBlock≠some bm:=Bo c4 c2 (by decide);have hFN:(Value.slice oF A8.length cF).ownBlock≠some bx:=Bo c4 c1 (by decide);have hFU:(Value.slice oF A8.length cF).ownBlock≠some bu:=Bo c4 c3 (by decide);have Aa5:=Ajx c2;have YU:A8.length<200000:=by omega
 go_region_law (refine AgF rfl _ _ rfl _ B (.slice oF A8.length cF) A8.length A8 rfl (A9 c4 (by first|exact(Ac.refl W1).alloc _|exact((Ac.refl W1).alloc _).drew)) YU s W1.heap.size (Ajy W1 _) rfl (by simp;omega) ?_;intro v7 w7 GX Rf Jo;obtain⟨KL,JM,rfl,-,-,-⟩:=Ae.of_own' (by omega) GX;have CL:=(Jo.block bm (by simp;omega) (fun e=>hFM e.symm)).trans ((((Ac.refl W1).alloc _).block bm Aa5).trans c2);have e1:w7.cell? ⟨bm,2,none⟩=some (.slice oF A8.length cF):=Aa CL rfl;have e2:=Aj (o:=2) CL)
 all_goals (
  have E4:Ac W1 ((W1.alloc (.cells #[S s] 9)).drew):=((Ac.refl W1).alloc _).drew;have Us:((W1.alloc (.cells #[S s] 9)).drew).grownBy w7 (Value.slice oF A8.length cF).ownBlock:=Jo;have g7:∀{j:Nat} {o:Obj},W1.heap[j]?=some o→(Value.slice oF A8.length cF).ownBlock≠some j→w7.heap[j]?=some o:=fun {j o} hj hn=>(Us.block j (Aj8 (Ajx hj) E4.size) (fun e=>hn e.symm)).trans ((E4.block j (Ajx hj)).trans hj);have nS:=g7 c1 hFN;have oM:=g7 c3 hFU;have Ea:=g7 HN.out nF;have nxm:=Ct c1 c2 (by decide);have num:=Ct c3 c2 (by decide)
  have Eb:Ax (fun k=>k=bn∨k=bm∨(Value.slice oF A8.length cF).ownBlock=some k) w (w7.setCell ⟨bm,2,none⟩ (.slice KL (A8.length+1) JM)):=
   (((NP.out.mono (fun k e=>.inl e)).ext E4).grown Us (fun k e=>.inl (.inr (.inr e)))).setCell (p:=⟨bm,2,none⟩) (.inl (.inr (.inl rfl))) _
  have o8:=Bw (K:=fun k=>k=bm) GX ((Ax.refl (fun k=>k=bm) w7).setCell (p:=⟨bm,2,none⟩) (.inl rfl) (.slice KL (A8.length+1) JM)) (fun k hk e=>by subst e;exact Bo GX CL (by decide) hk)
  have N9:G6 (w7.setCell ⟨bm,2,none⟩ (.slice KL (A8.length+1) JM)) B bx bn bm bu (some ⟨ub,uo,none⟩) cu units P E (.slice KL (A8.length+1) JM) (nm ++ [((m:Int),(A8.length:Int))]) (A8 ++ [s]):=by
   refine⟨?_,?_,jA _ CL,by rw [List.length_append];exact o8,?_,⟨fun h0=>?_⟩,HW.out.uB⟩
   ·rw [B7 (by show bx≠bm;exact nxm)];exact nS
   ·unfold CE;rw [B7 (by show bn≠bm;exact fun e=>vU e.symm)];exact Ea
   ·rw [B7 (by show bu≠bm;exact num)];exact oM
   ·obtain⟨b,o,e,hc⟩:=c5.ad h0;simp only [Aj3,Addr.mk.injEq,and_true]at e;obtain⟨rfl,rfl⟩:=e;refine⟨ub,uo,rfl,fun j hj=>?_⟩;have h1:=hc j hj;have hlt:=World.block_lt_of_cell? W1 _ h1;have n1:ub≠bm:=(by omega);have n2:(Value.slice oF A8.length cF).ownBlock≠some ub:=fun e=>(by have:=(c4.lt ub e).1;omega);refine(World.cell?_of_block (a:=⟨ub,uo+j,none⟩) (show (w7.setCell ⟨bm,2,none⟩ (.slice KL (A8.length+1) JM)).heap[ub]?=W1.heap[ub]? from ?_)).trans h1;rw [B7 (by show ub≠bm;exact n1)];exact(Us.block ub (Aj8 hlt E4.size) (fun e=>n2 e.symm)).trans (E4.block ub hlt)
  have v1:=Aa (o:=0) N9.cN rfl;have RR:=Vr (m:Int) (nm ++ [((m:Int),(A8.length:Int))]) N9.num
  rw [show BU (m:Int) (nm ++ [((m:Int),(A8.length:Int))])=some (A8.length:Int)by
   have Nr:=Lm.out;unfold BU at Nr ⊢;rw [List.find?_append]
   cases hq:nm.find? (fun e=>(m:Int) == e.1)with
   | some e=>rw [hq]at Nr;cases Nr
   | none=>simp]at RR
  simp only [Option.getD_some]at RR;clear CL e1 e2 Jo Us GX Rf g7 nS oM Ea o8 E4;generalize (w7.setCell ⟨bm,2,none⟩ (.slice KL (A8.length+1) JM))=W8 at *;have VX:=Ajw N9;have fo:=Ajw Eb;clear N9 Eb;go_wp2;go_ret
  exact⟨_,rfl,VX.out,fo.out⟩)
end
section
open Go.Shelf
section
variable {P : Program} {ops : Array Oper} {Q : Exit → Act → World → Prop}
theorem Ahu{β:Type}{id:Nat}(s m:Nat)(val:β→Nat→Value)(St:β→Array Bool→World→Prop)(b0:β){a0:Act}{w:World}(hm:P.follows .mixedOrders=true)(hb:okB s m ops=true)(hB:s+m<=a0.tmps.size)(h0:St b0 (Array.replicate ops.size false) w.drew)
  (hstep:∀b listed a w i o,CX .any ops (val b) a0 listed a→St b listed w→ops[i]?=some o→listed.size=ops.size→listed.getD i false=false→(∀e∈o.after,Region.binds .any e=true→listed.getD e.on false=true)→
   o.wp P a w (fun a' w'=>∃b',a'=a.put o.dst (val b' i)/\(∀j,listed.getD j false=true→val b' j=val b j)/\St b' (listed.setIfInBounds i true) w') Q)
  (hend:∀b listed a w,CX .any ops (val b) a0 listed a→a.defers=a0.defers→(∀i,i<ops.size→listed.getD i false=true)→St b listed w→Q .normal a w):(Code.region id ops true).wp P Q a0 w:=by
 refine Aht (fun listed a w'=>∃b,(CX .any ops (val b) a0 listed a/\a.defers=a0.defers)/\St b listed w') hm (fun i o ho=>(KN hb i o ho).2.2) (fun i o ho=>(KN hb i o ho).2.1) ⟨b0,⟨CX.start,rfl⟩,h0⟩ ?_ ?_
 ·rintro listed a w' i o ⟨b,⟨Ap,FN⟩,hst⟩ hs AQ ho hd;have hi:i<ops.size:=(Array.getElem?_eq_some_iff.1 ho).1;have hr:i∈Region.ready .any ops listed:=mem_ready.2 ⟨getD_in (by omega) AQ,o,ho,hd⟩;refine Oper.wp_mono ?_ (hstep b listed a w' i o Ap hst ho hs AQ hd);rintro a' w2 ⟨b',rfl,hv,AbV⟩;have Zy:CX .any ops (val b') a0 listed a:=⟨Ap.sz,Ap.lsz,fun j oj d hj hl YO=>by rw [hv j hl];exact Ap.done j oj d hj hl YO,Ap.rest,Ap.closed⟩;exact⟨b',⟨Zy.step (fun i o ho=>(KN hb i o ho).1) hB ho hr,by rw [←FN];cases o.dst<;>rfl⟩,AbV⟩
 ·rintro listed a w' ⟨b,⟨Ap,FN⟩,hst⟩ hall;exact hend b listed a w' Ap FN hall hst
end
theorem CX.lit{md:Region.Mode}{ops:Array Oper}{val:Nat→Value}{a0 a:Act}{listed:Array Bool}{s m:Nat}(h:CX md ops val a0 listed a)(hb:okB s m ops=true)(hm:m<=ops.size)(hs:s+m<=a0.tmps.size)(hall:∀i,i<ops.size→listed.getD i false=true)(hd:a.defers=a0.defers) :
  a=⟨(a0.tmps.toList.take s++((List.range m).map val++a0.tmps.toList.drop (s+m))).toArray,a0.defers⟩:=by
 refine gP ?_ ?_ hd
 ·rw [h.sz];simp only [List.length_append,List.length_take,List.length_map,List.length_range,List.length_drop,Array.length_toList];omega
 ·intro d Rc;simp only [List.length_append,List.length_take,List.length_map,List.length_range,List.length_drop,Array.length_toList]at Rc
  have out:∀e,(e<s∨s+m<=e)→(he:e<a0.tmps.size)→a.eval (.tmp e)=a0.tmps.toList[e]'(by simpa using he):=fun e h1 he=>by refine h.out hb h1 ?_;simp [Act.eval,Array.getD_eq_getD_getElem?,Array.getElem?_eq_getElem he]
  by_cases h1:d<s
  ·rw [List.getElem_append_left (by simp;omega)];rw [List.getElem_take];exact out d (.inl h1) (by omega)
  ·rw [List.getElem_append_right (by simp;omega)];simp only [List.length_take,Array.length_toList,Nat.min_eq_left (show s<=a0.tmps.size by omega)];by_cases h2:d<s+m
   ·rw [List.getElem_append_left (by simp;omega)];simp only [List.getElem_map,List.getElem_range];exact h.val hb (d-s) (by omega) (by omega) (hall _ (by omega)) rfl
   ·rw [List.getElem_append_right (by simp;omega)];simp only [List.length_map,List.length_range,List.getElem_drop];have e3:s+m+(d-s-m)=d:=(by omega);have:=out d (.inr (by omega)) (by omega);rw [this]
    congr 1
    omega
theorem rj{w:World}{b:Nat}{a0 a1 a2:Value}{t:TypeId}(v:Value)(h:w.heap[b]?=some (.cells #[a0,a1,a2] t)):(w.setCell ⟨b,1,none⟩ v).heap[b]?=some (.cells #[a0,v,a2] t):=by
 simp only [World.setCell,Array.getElem?_modify,h];simp
structure Cn where
 B:Nat
 bx:Nat
 bn:Nat
 bm:Nat
 bu:Nat
 bi:Nat
 r:Nat
 b1:Nat
 b2:Nat
 U:Option Addr
 cu:Nat
 units:List Bs
 P:Value
 idx:List (Pt×Int)
 L:List (Sg×Int)
structure Cn.Ok(c:Cn):Prop where
 r:c.r<c.B
 b1:c.b1<c.B
 bn:c.B<=c.bn
 bm:c.B<=c.bm
 ni:c.bi≠c.bn
def Cn.fn(c:Cn):Value:=.func (.func 198) #[] #[.pointer (some ⟨c.bx,0,none⟩),.pointer (some ⟨c.bm,0,none⟩),.pointer (some ⟨c.bu,0,none⟩)]
structure PX(c:Cn)(w:World):Prop where
 net:w.heap[c.r]?=some (.cells #[.map (some c.b1),.map (some c.b2)] 165)
 left:w.heap[c.b1]?=some (.map (AH AC (stamp c.L)).toArray c.L.length)
 idx:Hj w c.bi c.idx
structure Cs(c:Cn)(E F:Value)(nm:List (Int×Int))(A8:List Bs)(eds:List EdZ)(w:World):Prop where
 fc:G6 w c.B c.bx c.bn c.bm c.bu c.U c.cu c.units c.P E F nm A8
 rd:PX c w
 own:w.ownsRow c.B 118 4 E eds.length (Au eds)
 size:c.B<=w.heap.size
def IZ(w:World)(b:Nat)(x:Sg):Prop:=w.heap[b]?=some (.cells #[S (R x.a.x),S (R x.a.y),S (R x.b.x),S (R x.b.y)] 175)
section
variable {c : Cn} {E F : Value} {nm : List (Int × Int)} {A8 : List Bs} {eds : List EdZ} {w w' : World}
theorem PX.but(h:PX c w){K:Nat→Prop}(hb:Ax K w w')(k1:¬K c.r)(k2:¬K c.b1)(k3:¬K c.bi):PX c w':=
 ⟨(hb.block _ (Ajx h.net) k1).trans h.net,(hb.block _ (Ajx h.left) k2).trans h.left,(hb.block _ (Ajx h.idx) k3).trans h.idx⟩
theorem Cs.ext(h:Cs c E F nm A8 eds w)(hx:Ac w w'):Cs c E F nm A8 eds w':=
 ⟨h.fc.extn hx,⟨(hx.block _ (Ajx h.rd.net)).trans h.rd.net,(hx.block _ (Ajx h.rd.left)).trans h.rd.left,(hx.block _ (Ajx h.rd.idx)).trans h.rd.idx⟩,A9 h.own hx,Aj9 h.size hx.size⟩
theorem Vh{B:Nat}{e:TypeId}{s n:Nat}{v:Value}{xs:List Value}(h:w.ownsRow B e s v n xs){j:Nat}{es:Array MapEntry}{k:Nat}(hj:w.heap[j]?=some (.map es k)):v.ownBlock≠some j:=by
 intro hk
 rcases h.2 with⟨h',_⟩|⟨g,cap,cur,h',_,hgb,_⟩
 ·rw [h']at hk;cases hk
 ·rw [h']at hk;simp only [Value.ownBlock,Aj3]at hk;subst hk;rw [hgb]at hj
  cases hj
theorem L6{i j:Nat}{cs:Array Value}{t:TypeId}{f:Nat×Nat}{es:Array MapEntry}{k:Nat}(hi:w.heap[i]?=some (.cells cs t f))(hj:w.heap[j]?=some (.map es k)):i≠j:=by
 rintro rfl;rw [hi]at hj
 cases hj
theorem Cs.named(ok:c.Ok)(h:Cs c E F nm A8 eds w){F':Value}{D7:List (Int×Int)}{Fe:List Bs}(hf:G6 w' c.B c.bx c.bn c.bm c.bu c.U c.cu c.units c.P E F' D7 Fe)(hb:Ax (fun k=>k=c.bn∨k=c.bm∨F.ownBlock=some k) w w'):Cs c E F' D7 Fe eds w':=by
 have o1:=ok.r;have o2:=ok.b1;have o3:=ok.bn;have o4:=ok.bm;refine⟨hf,h.rd.but hb ?_ ?_ ?_,Bw h.own hb ?_,Aj9 h.size hb.size⟩
 ·rintro(e|e|e)
  ·omega
  ·omega
  ·have:=(h.fc.fac.lt _ e).1;omega
 ·rintro(e|e|e)
  ·omega
  ·omega
  ·have:=(h.fc.fac.lt _ e).1;omega
 ·rintro(e|e|e)
  ·exact ok.ni e
  ·exact L6 h.fc.cM h.rd.idx e.symm
  ·exact Vh h.fc.fac h.rd.idx e
 ·rintro k hk (e|e|e)
  ·subst e;exact Vh h.own h.fc.num hk
  ·subst e;exact Bo h.own h.fc.cM (by decide) hk
  ·rcases h.fc.fac.2 with⟨h',_⟩|⟨g,cap,cur,h',_,hgb,_⟩
   ·rw [h']at e;cases e
   ·rw [h']at e;simp only [Value.ownBlock,Aj3]at e;subst e;exact Bo h.own hgb (by decide) hk
theorem Cs.app(ok:c.Ok)(h:Cs c E F nm A8 eds w){d:EdZ}{v':Value}(hg:w.grownBy w' E.ownBlock)(ho:w'.ownsRow c.B 118 4 v' (eds.length+1) (Au (eds ++ [d]))) :
  w'.heap[c.bm]?=some (.cells #[c.P,E,F] 35)/\Cs c v' F nm A8 (eds ++ [d]) (w'.setCell ⟨c.bm,1,none⟩ v'):=by
 have o1:=ok.r;have o2:=ok.b1;have o4:=ok.bm;have hb:Ax (fun k=>E.ownBlock=some k) w w':=(Ax.refl (fun k=>E.ownBlock=some k) w).grown hg (fun k e=>.inl e);have n1:=Bo h.own h.fc.cM (by decide);have n2:=Bo h.own h.fc.cN (by decide);have n3:=Bo h.own h.fc.cU (by decide);have n4:=Vh h.own h.fc.num;have n5:=Vh h.own h.rd.idx;have hM:=(hb.block _ (Ajx h.fc.cM) n1).trans h.fc.cM
 have f1:G6 w' c.B c.bx c.bn c.bm c.bu c.U c.cu c.units c.P E F nm A8:=by
  refine h.fc.far hb n2 n4 n1 n3 ?_ ?_
  ·intro k hk e
   rcases h.own.2 with⟨h',_⟩|⟨g,cap,cur,h',_,hgb,_⟩
   ·rw [h']at e;cases e
   ·rw [h']at e;simp only [Value.ownBlock,Aj3]at e;subst e;exact Bo h.fc.fac hgb (by decide) hk
  ·intro x hx _ e;have:=h.fc.uB x hx;have:=(h.own.lt _ e).1;omega
 have r1:PX c w':=h.rd.but hb (fun e=>by have:=(h.own.lt _ e).1;omega) (fun e=>by have:=(h.own.lt _ e).1;omega) n5;have hb2:Ax (fun k=>k=c.bm) w' (w'.setCell ⟨c.bm,1,none⟩ v'):=(Ax.refl (fun k=>k=c.bm) w').setCell (p:=⟨c.bm,1,none⟩) (.inl rfl) v';refine⟨hM,⟨⟨?_,?_,rj _ hM,Bw f1.fac hb2 ?_,?_,⟨fun h0=>?_⟩,h.fc.uB⟩,r1.but hb2 (by omega) (by omega) ?_,by rw [List.length_append];exact Bw ho hb2 (fun k hk e=>by subst e;exact Bo ho hM (by decide) hk),Aj9 h.size (Aj9 hb.size hb2.size)⟩⟩
 ·exact(hb2.block _ (Ajx f1.cN) (Ct f1.cN hM (by decide))).trans f1.cN
 ·exact(hb2.block _ (Ajx f1.num) (fun e=>L6 hM f1.num e.symm)).trans f1.num
 ·intro k hk e;subst e;exact Bo f1.fac hM (by decide) hk
 ·exact(hb2.block _ (Ajx f1.cU) (Ct f1.cU hM (by decide))).trans f1.cU
 ·obtain⟨b,o,e,hc⟩:=f1.uni.ad h0;refine⟨b,o,e,fun j hj=>?_⟩;have h1:=hc j hj;exact(World.cell?_of_block (a:=⟨b,o+j,none⟩) (hb2.block b (World.block_lt_of_cell? w' _ h1) (fun e'=>by have:=h.fc.uB _ e;simp only at this;omega))).trans h1
 ·exact fun e=>L6 hM r1.idx e.symm
structure KB(B:Nat)(W w:World):Prop where
 kp:∀(k:Nat) (cs:Array Value) (t:TypeId) (f:Nat×Nat),t≠35→t≠9→t≠118→W.heap[k]?=some (.cells cs t f)→w.heap[k]?=some (.cells cs t f)
 bl:Below B W w
theorem KB.refl(B:Nat)(W:World):KB B W W:=⟨fun _ _ _ _ _ _ _ h=>h,Below.refl _ _⟩
theorem KB.trans{B:Nat}{a b d:World}(h:KB B a b)(k:KB B b d):KB B a d:=⟨fun i cs t f h1 h2 h3 h4=>k.kp i cs t f h1 h2 h3 (h.kp i cs t f h1 h2 h3 h4),h.bl.trans k.bl⟩
theorem KB.ext{B:Nat}{a b:World}(hx:Ac a b)(hB:B<=a.heap.size):KB B a b:=⟨fun _ _ _ _ _ _ _ h=>(hx.block _ (Ajx h)).trans h,Below.mono hx hB⟩
theorem KB.named(ok:c.Ok)(h:Cs c E F nm A8 eds w)(hb:Ax (fun k=>k=c.bn∨k=c.bm∨F.ownBlock=some k) w w'):KB c.B w w':=by
 have o3:=ok.bn;have o4:=ok.bm;refine⟨fun k cs t f h1 h2 h3 h4=>(hb.block _ (Ajx h4) ?_).trans h4,⟨hb.os,hb.tape,hb.output,hb.size,fun k hk=>hb.block k (Aj8 hk h.size) ?_⟩⟩
 ·rintro(e|e|e)
  ·exact L6 h4 h.fc.num e
  ·exact Ct h4 h.fc.cM h1 e
  ·exact Bo h.fc.fac h4 (fun e'=>h2 e'.symm) e
 ·rintro(e|e|e)
  ·omega
  ·omega
  ·have:=(h.fc.fac.lt _ e).1;omega
theorem KB.app(h:Cs c E F nm A8 eds w)(hg:w.grownBy w' E.ownBlock):KB c.B w w':=
 ⟨fun _ _ _ _ _ _ h3 h4=>(hg.block _ (Ajx h4) (fun e=>Bo h.own h4 (fun e'=>h3 e'.symm) e.symm)).trans h4,(Below.refl c.B w).grown hg h.size (fun k e=>(h.own.lt k e).1)⟩
theorem KB.set(ok:c.Ok){P' E' F':Value}(hM:w.heap[c.bm]?=some (.cells #[P',E',F'] 35))(v:Value):KB c.B w (w.setCell ⟨c.bm,1,none⟩ v):=
 ⟨fun _ _ _ _ h1 _ _ h4=>(B7 (Ct h4 hM h1)).trans h4,(Below.refl _ _).setCell (p:=⟨c.bm,1,none⟩) ok.bm v⟩
end
end
section
open Go.Shelf
def bI:List (Op×Option Nat):=[
 (.fieldAddr 35 (.tmp 5) 1,some 64),(.load 32 (.tmp 64),some 65),(.move (.tmp 6),some 66),(.fieldAddr 175 (.tmp 12) 0,some 67),(.load 27 (.tmp 67),some 68),
 (.lookup 262 (.tmp 66) (.tmp 68) false,some 69),(.move (.tmp 6),some 70),(.fieldAddr 175 (.tmp 12) 1,some 71),(.load 27 (.tmp 71),some 72),
 (.lookup 262 (.tmp 70) (.tmp 72) false,some 73),(.move (.tmp 13),some 74),(.move (.tmp 10),some 75),(.move (.tmp 0),some 76),(.nilCheck (.tmp 76),some 77),(.fieldAddr 165 (.tmp 77) 0,some 78),
 (.load 162 (.tmp 78),some 79),(.load 175 (.tmp 12),some 80),
 (.call {callee:=.value (.func 114),args:=#[.tmp 80],argTypes:=#[175]},some 81),(.lookup 162 (.tmp 79) (.tmp 81) false,some 82),
 (.call {callee:=.value (.tmp 75),args:=#[.tmp 82],argTypes:=#[3]},some 83),
 (.build 118 #[(0,.tmp 69),(1,.tmp 73),(2,.tmp 74),(3,.tmp 83)],some 84),(.buildSlice 32 1 #[(0,.tmp 84)],some 85),
 (.call {callee:=.builtin .append,args:=#[.tmp 65,.tmp 85],argTypes:=#[32,32]},some 86),(.fieldAddr 35 (.tmp 5) 1,some 87),(.store 32 (.tmp 87) (.tmp 86),none)]
def Xp:List (Nat×Nat):=[(1,0),(4,3),(5,2),(5,4),(8,7),(9,6),(9,8),(13,12),(14,13),(15,14),(17,16),(18,15),(18,17),(19,11),(19,18),(20,5),(20,9),(20,10),(20,19),(21,20),(22,1),(22,21),(24,22),(24,23)]
def Ld(c:Cn)(E:Value)(Cr:Nat)(x:Sg)(zl i1 i2 lr zr:Int)(g:Nat×Value):Nat→Value
 | 0=>.pointer (some ⟨c.bm,1,none⟩)
 | 1=>E
 | 2=>.map (some c.bi)
 | 3=>.pointer (some ⟨Cr,0,none⟩)
 | 4=>Ak x.a
 | 5=>.int .i64 i1
 | 6=>.map (some c.bi)
 | 7=>.pointer (some ⟨Cr,2,none⟩)
 | 8=>Ak x.b
 | 9=>.int .i64 i2
 | 10=>.int .i64 zl
 | 11=>c.fn
 | 12=>.pointer (some ⟨c.r,0,none⟩)
 | 13=>.pointer (some ⟨c.r,0,none⟩)
 | 14=>.pointer (some ⟨c.r,0,none⟩)
 | 15=>.map (some c.b1)
 | 16=>AC x
 | 17=>AC (AV x)
 | 18=>.int .i64 lr
 | 19=>.int .i64 zr
 | 20=>.agg #[.int .i64 i1,.int .i64 i2,.int .i64 zl,.int .i64 zr]
 | 21=>.slice (some ⟨g.1,0,none⟩) 1 1
 | 22=>g.2
 | _=>.pointer (some ⟨c.bm,1,none⟩)
structure NZ(c:Cn)(W:World)(E:Value)(eds:List EdZ)(d:EdZ)(D7:List (Int×Int))(Fe:List Bs)(Cr:Nat)(x:Sg)(g:Nat×Value)(l:Array Bool)(w:World):Prop where
 way:IZ w Cr x
 kb:KB c.B W w
 sA:l.getD 19 false=false→Ac W w
 sB:l.getD 19 false=true→l.getD 22 false=false→∃F',Cs c E F' D7 Fe eds w
 sG:l.getD 21 false=true→l.getD 22 false=false→w.heap[g.1]?=some (.cells #[.int .i64 d.f,.int .i64 d.t,.int .i64 d.l,.int .i64 d.r] 118)
 sC:l.getD 22 false=true→l.getD 24 false=false→∃F',w.heap[c.bm]?=some (.cells #[c.P,E,F'] 35)/\(∃A k d,g.2=.slice A k d)/\Cs c g.2 F' D7 Fe (eds ++ [d]) (w.setCell ⟨c.bm,1,none⟩ g.2)
 sD:l.getD 24 false=true→∃F',Cs c g.2 F' D7 Fe (eds ++ [d]) w
theorem Aac(b:Nat)(w:World):(Instr.fieldAt 175 (.pointer (some ⟨b,0,none⟩)) 0).run Tryz.prog w=.ok (.pointer (some ⟨b,0,none⟩)) w:=by simp [go_sem]
theorem Aad(b:Nat)(w:World):(Instr.fieldAt 175 (.pointer (some ⟨b,0,none⟩)) 1).run Tryz.prog w=.ok (.pointer (some ⟨b,2,none⟩)) w:=by simp [go_sem]
theorem Aab(b:Nat)(w:World):(Instr.fieldAt 165 (.pointer (some ⟨b,0,none⟩)) 0).run Tryz.prog w=.ok (.pointer (some ⟨b,0,none⟩)) w:=by simp [go_sem]
theorem Adn{w:World}{b:Nat}{x:Sg}(h:IZ w b x):(Instr.loadAt 175 (.pointer (some ⟨b,0,none⟩))).run Tryz.prog w=.ok (AC x) w:=by
 have h0:=Aa (o:=0) h rfl;have h1:=Aa (o:=1) h rfl;have h2:=Aa (o:=2) h rfl;have h3:=Aa (o:=3) h rfl;simp [go_sem,h0,h1,h2,h3,AC]
theorem Adm{w:World}{b:Nat}{u v:Value}(h:w.heap[b]?=some (.cells #[u,v] 165)):(Instr.loadAt 162 (.pointer (some ⟨b,0,none⟩))).run Tryz.prog w=.ok u w:=by
 have h0:=Aa (o:=0) h rfl;simp [go_sem,h0]
theorem dX{P:Program}{o:Oper}{a:Act}{w:World}{v:Value}{K:Act→World→Prop}{Q:Exit→Act→World→Prop}{t:TypeId}{x y:Operand}{b:Bool}{D:Option Nat}(p:.lookup t x y b=o.op)(d:D=o.dst)(h:(Instr.lookup t (a.eval x) (a.eval y) b).run P w=.ok v w)(hk:K (a.put D v) w):o.wp P a w K Q:=
 S4 (Instr.lookup t (a.eval x) (a.eval y) b) (by unfold execOp;rw [←p]) h (d▸hk)
section
variable {c : Cn} {W : World} {E : Value} {eds : List EdZ} {d : EdZ} {D7 : List (Int × Int)} {Fe : List Bs} {Cr : Nat} {x : Sg} {g : Nat × Value} {l : Array Bool} {w : World}
theorem NZ.put(h:NZ c W E eds d D7 Fe Cr x g l w){i:Nat}(hi:i≠19/\i≠21/\i≠22/\i≠24):NZ c W E eds d D7 Fe Cr x g (l.setIfInBounds i true) w:=by
 refine⟨h.way,h.kb,?_,?_,?_,?_,?_⟩
 all_goals simp only [getD_set_ne false hi.1,getD_set_ne false hi.2.1,getD_set_ne false hi.2.2.1,getD_set_ne false hi.2.2.2]
 ·exact h.sA
 ·exact h.sB
 ·exact h.sG
 ·exact h.sC
 ·exact h.sD
end
theorem Afw{c:Cn}(ok:c.Ok){W:World}{E F:Value}{nm D7:List (Int×Int)}{A8 Fe:List Bs}{eds:List EdZ}(h0:Cs c E F nm A8 eds W){Cr:Nat}{x:Sg}(hx:IZ W Cr x)(hel:eds.length<200000)(zl i1 i2 lr zr:Int)
  (Nu:G0 x.a c.idx=i1) (OE:G0 x.b c.idx=i2) (rO:AI (AV x) c.L=lr)
  (Ur:∀w F,Cs c E F nm A8 eds w→Calls Tryz.prog 198 #[.int .i64 lr,.pointer (some ⟨c.bx,0,none⟩),.pointer (some ⟨c.bm,0,none⟩),.pointer (some ⟨c.bu,0,none⟩)] w (NM w c.B c.bx c.bn c.bm c.bu c.U c.cu c.units c.P E F zr D7 Fe))
  {a0:Act} {ops:Array Oper} (hop:ops.toList.map (fun o=>(o.op,o.dst))=bI) (Cx:ww ops Xp=true) (U4:okB 64 24 ops=true) (hsz:88<=a0.tmps.size)
  (e5:a0.eval (.tmp 5)=.pointer (some ⟨c.bm,0,none⟩)) (e6:a0.eval (.tmp 6)=.map (some c.bi)) (e12:a0.eval (.tmp 12)=.pointer (some ⟨Cr,0,none⟩)) (Xs:a0.eval (.tmp 13)=.int .i64 zl) (e10:a0.eval (.tmp 10)=c.fn) (e0:a0.eval (.tmp 0)=.pointer (some ⟨c.r,0,none⟩))
  {id:Nat} {Q:Exit→Act→World→Prop}
  (hend:∀(v:Nat→Value) w E' F',Cs c E' F' D7 Fe (eds ++ [⟨i1,i2,zl,zr⟩]) w→KB c.B W w→Q .normal ⟨(a0.tmps.toList.take 64++((List.range 24).map v++a0.tmps.toList.drop 88)).toArray,a0.defers⟩ w) :
  (Code.region id ops true).wp Tryz.prog Q a0 W:=by
 have yc:Enters Tryz.prog 114:=enters_of Tryz.func114 (by kernel_rfl) rfl;have yg:Enters Tryz.prog 198:=enters_of Tryz.func198 (by kernel_rfl) rfl
 have AiI:ops.size=25:=by
  have:=congrArg List.length hop
  simpa [bI]using this
 refine Ahu 64 24 (Ld c E Cr x zl i1 i2 lr zr) (fun g l w=>NZ c W E eds ⟨i1,i2,zl,zr⟩ D7 Fe Cr x g l w) (0,.slice none 0 0) (by kernel_rfl) U4 (by omega) ?_ ?_ ?_
 ·refine⟨(Ac.refl W).drew.block _ (Ajx hx) |>.trans hx,KB.ext (Ac.refl W).drew h0.size,fun _=>(Ac.refl W).drew,?_,?_,?_,?_⟩
  all_goals (rw [getD_replicate_false];intro e;cases e)
 ·intro b l a w i o Ap hst ho hls AQ hd;have hi:i<25:=(by have:=(Array.getElem?_eq_some_iff.1 ho).1;omega);have hL:=Aes hop ho;have qN:=P7 hd;have ev:=fun (d:Nat) {v:Value} (e:a0.eval (.tmp d)=v) (hd:d<64)=>Ap.out U4 (.inl hd) e;replace e5:=ev 5 e5 (by omega);replace e6:=ev 6 e6 (by omega);replace e12:=ev 12 e12 (by omega);replace Xs:=ev 13 Xs (by omega);replace e10:=ev 10 e10 (by omega);replace e0:=ev 0 e0 (by omega)
  have Db:∀j k,Xp.contains (j,k)=true→j=i→l.getD k false=true:=by rintro j k hjk rfl;have h1:=List.all_eq_true.1 Cx (j,k) (by simpa using hjk);rw [ho]at h1;exact qN k h1
  have need:∀j k,Xp.contains (j,k)=true→l.getD j false=true→l.getD k false=true:=by
   intro j k hjk hl;have h1:=List.all_eq_true.1 Cx (j,k) (by simpa using hjk)
   cases Mm:ops[j]? with
   | none=>rw [Mm]at h1;cases h1
   | some oj=>rw [Mm]at h1;exact Ap.waits Mm hl k h1
  have sl:=fun (k:Nat) (hk:k<24) (hl:l.getD k false=true)=>Ap.val U4 k (d:=64+k) rfl hk hl (v:=Ld c E Cr x zl i1 i2 lr zr b k) rfl
  have WX:l.getD 22 false=true→∀k,k<22→k≠0∨k=0→l.getD k false=true:=by
   intro Kd k hk _;have k1:=need 22 1 (by decide) Kd;have k21:=need 22 21 (by decide) Kd;have UJ:=need 21 20 (by decide) k21;have k5:=need 20 5 (by decide) UJ;have k9:=need 20 9 (by decide) UJ;have k10:=need 20 10 (by decide) UJ;have uO:=need 20 19 (by decide) UJ;have k0:=need 1 0 (by decide) k1;have k2:=need 5 2 (by decide) k5;have k4:=need 5 4 (by decide) k5;have k3:=need 4 3 (by decide) k4;have k6:=need 9 6 (by decide) k9;have k8:=need 9 8 (by decide) k9;have k7:=need 8 7 (by decide) k8;have k11:=need 19 11 (by decide) uO;have uN:=need 19 18 (by decide) uO;have k15:=need 18 15 (by decide) uN;have k17:=need 18 17 (by decide) uN;have k16:=need 17 16 (by decide) k17;have k14:=need 15 14 (by decide) k15;have k13:=need 14 13 (by decide) k14;have k12:=need 13 12 (by decide) k13
   rcases(by omega:k=0∨k=1∨k=2∨k=3∨k=4∨k=5∨k=6∨k=7∨k=8∨k=9∨k=10∨k=11∨k=12∨k=13∨k=14∨k=15∨k=16∨k=17∨k=18∨k=19∨k=20∨k=21)with rfl|rfl|rfl|rfl|rfl|rfl|rfl|rfl|rfl|rfl|rfl|rfl|rfl|rfl|rfl|rfl|rfl|rfl|rfl|rfl|rfl|rfl<;>assumption
  have n22:i<22→l.getD 22 false=false:=fun h=>by
   cases e:l.getD 22 false
   ·rfl
   ·have:=WX e i h (by omega);rw [AQ]at this;cases this
  have cs:i<22→∃F nm A8,Cs c E F nm A8 eds w:=fun h=>by
   cases e:l.getD 19 false
   ·exact⟨_,_,_,h0.ext (hst.sA e)⟩
   ·obtain⟨F',h'⟩:=hst.sB e (n22 h);exact⟨F',_,_,h'⟩
  have fin:(i≠19/\i≠21/\i≠22/\i≠24)→∀v,v=Ld c E Cr x zl i1 i2 lr zr b i→∃b',a.put o.dst v=a.put o.dst (Ld c E Cr x zl i1 i2 lr zr b' i)/\(∀j,l.getD j false=true→Ld c E Cr x zl i1 i2 lr zr b' j=Ld c E Cr x zl i1 i2 lr zr b j)/\NZ c W E eds ⟨i1,i2,zl,zr⟩ D7 Fe Cr x b' (l.setIfInBounds i true) w:=
   fun hne v hv=>⟨b,by rw [hv],fun _ _=>rfl,hst.put hne⟩
  rcases(by omega:i=0∨i=1∨i=2∨i=3∨i=4∨i=5∨i=6∨i=7∨i=8∨i=9∨i=10∨i=11∨i=12∨i=13∨i=14∨i=15∨i=16∨i=17∨i=18∨i=19∨i=20∨i=21∨i=22∨i=23∨i=24)with rfl|rfl|rfl|rfl|rfl|rfl|rfl|rfl|rfl|rfl|rfl|rfl|rfl|rfl|rfl|rfl|rfl|rfl|rfl|rfl|rfl|rfl|rfl|rfl|rfl
  all_goals
   simp only [bI,List.getElem?_cons_zero,List.getElem?_cons_succ,Aj3,Prod.mk.injEq]at hL;obtain⟨p,d⟩:=hL
  ·refine S1 p d (by rw [e5];exact mJ _ _) ?_;rw [d];exact fin (by omega) _ rfl
  ·obtain⟨F1,Jw,TD,hc⟩:=cs (by omega);refine S2 p d (by rw [show a.eval (.tmp 64)=_ from sl 0 (by omega) (Db 1 0 (by decide) rfl)];exact Adl (Aa hc.fc.cM rfl)) ?_;rw [d];exact fin (by omega) _ rfl
  ·refine S3 _ p.symm ?_;rw [e6];exact fin (by omega) _ rfl
  ·refine S1 p d (by rw [e12];exact Aac _ _) ?_;rw [d];exact fin (by omega) _ rfl
  ·refine S2 p d (by rw [show a.eval (.tmp 67)=_ from sl 3 (by omega) (Db 4 3 (by decide) rfl)];exact vC (Aa (o:=0) hst.way rfl) (Aa (o:=1) hst.way rfl)) ?_;rw [d];exact fin (by omega) _ rfl
  ·obtain⟨F1,Jw,TD,hc⟩:=cs (by omega);refine dX p d (by rw [show a.eval (.tmp 66)=_ from sl 2 (by omega) (Db 5 2 (by decide) rfl),show a.eval (.tmp 68)=_ from sl 4 (by omega) (Db 5 4 (by decide) rfl)];exact hc.rd.idx.look x.a) ?_;rw [d];exact fin (by omega) _ (by rw [Nu];rfl)
  ·refine S3 _ p.symm ?_;rw [e6];exact fin (by omega) _ rfl
  ·refine S1 p d (by rw [e12];exact Aad _ _) ?_;rw [d];exact fin (by omega) _ rfl
  ·refine S2 p d (by rw [show a.eval (.tmp 71)=_ from sl 7 (by omega) (Db 8 7 (by decide) rfl)];exact vC (Aa (o:=2) hst.way rfl) (Aa (o:=3) hst.way rfl)) ?_;rw [d];exact fin (by omega) _ rfl
  ·obtain⟨F1,Jw,TD,hc⟩:=cs (by omega);refine dX p d (by rw [show a.eval (.tmp 70)=_ from sl 6 (by omega) (Db 9 6 (by decide) rfl),show a.eval (.tmp 72)=_ from sl 8 (by omega) (Db 9 8 (by decide) rfl)];exact hc.rd.idx.look x.b) ?_;rw [d];exact fin (by omega) _ (by rw [OE];rfl)
  ·refine S3 _ p.symm ?_;rw [Xs];exact fin (by omega) _ rfl
  ·refine S3 _ p.symm ?_;rw [e10];exact fin (by omega) _ rfl
  ·refine S3 _ p.symm ?_;rw [e0];exact fin (by omega) _ rfl
  ·have s12:a.eval (.tmp 76)=.pointer (some ⟨c.r,0,none⟩):=sl 12 (by omega) (Db 13 12 (by decide) rfl);refine ej (v:=.pointer (some ⟨c.r,0,none⟩)) (w':=w) ?_ (fin (by omega) _ rfl);unfold execOp;rw [←p];simp [s12]
  ·refine S1 p d (by rw [show a.eval (.tmp 77)=_ from sl 13 (by omega) (Db 14 13 (by decide) rfl)];exact Aab _ _) ?_;rw [d];exact fin (by omega) _ rfl
  ·obtain⟨F1,Jw,TD,hc⟩:=cs (by omega);refine S2 p d (by rw [show a.eval (.tmp 78)=_ from sl 14 (by omega) (Db 15 14 (by decide) rfl)];exact Adm hc.rd.net) ?_;rw [d];exact fin (by omega) _ rfl
  ·refine S2 p d (by rw [e12];exact Adn hst.way) ?_;rw [d];exact fin (by omega) _ rfl
  ·have n19:l.getD 19 false=false:=by
    cases e:l.getD 19 false
    ·rfl
    ·have:=need 18 17 (by decide) (need 19 18 (by decide) e);rw [AQ]at this;cases this
   have n21:l.getD 21 false=false:=by
    cases e:l.getD 21 false
    ·rfl
    ·have:=need 20 19 (by decide) (need 21 20 (by decide) e);rw [n19]at this;cases this
   have n24:l.getD 24 false=false:=by
    cases e:l.getD 24 false
    ·rfl
    ·have:=need 24 22 (by decide) e;rw [n22 (by omega)]at this;cases this
   refine Ahq p.symm yc (show a.eval (.tmp 80)=_ from sl 16 (by omega) (Db 17 16 (by decide) rfl)) (Ts x w) ?_;rintro e w'' ⟨rfl,hX⟩;refine⟨_,rfl,b,rfl,fun _ _=>rfl,?_⟩;refine NZ.put ⟨(hX.block _ (Ajx hst.way)).trans hst.way,hst.kb.trans (KB.ext hX (h0.ext (hst.sA n19)).size),fun e=>(hst.sA e).trans hX,fun e=>?_,fun e=>?_,fun e=>?_,fun e=>?_⟩ (by omega)
   ·rw [n19]at e;cases e
   ·rw [n21]at e;cases e
   ·rw [n22 (by omega)]at e;cases e
   ·rw [n24]at e;cases e
  ·obtain⟨F1,Jw,TD,hc⟩:=cs (by omega);refine dX p d (by rw [show a.eval (.tmp 79)=_ from sl 15 (by omega) (Db 18 15 (by decide) rfl),show a.eval (.tmp 81)=_ from sl 17 (by omega) (Db 18 17 (by decide) rfl)];exact M7 _ _ hc.rd.left) ?_;rw [d];exact fin (by omega) _ (by rw [rO];rfl)
  ·have n21:l.getD 21 false=false:=by
    cases e:l.getD 21 false
    ·rfl
    ·have:=need 20 19 (by decide) (need 21 20 (by decide) e);rw [AQ]at this;cases this
   have n24:l.getD 24 false=false:=by
    cases e:l.getD 24 false
    ·rfl
    ·have:=need 24 22 (by decide) e;rw [n22 (by omega)]at this;cases this
   have hC:=h0.ext (hst.sA AQ);refine Ahr p.symm yg (show a.eval (.tmp 75)=_ from sl 11 (by omega) (Db 19 11 (by decide) rfl)) (show a.eval (.tmp 82)=_ from sl 18 (by omega) (Db 19 18 (by decide) rfl)) (Ur w F hC) ?_;rintro e w'' ⟨F',rfl,hF,hB⟩;refine⟨_,rfl,b,rfl,fun _ _=>rfl,?_⟩
   have hw:IZ w'' Cr x:=(hB.block _ (Ajx hst.way) (by
    rintro(e|e|e)
    ·exact L6 hst.way hC.fc.num e
    ·exact Ct hst.way hC.fc.cM (by decide) e
    ·exact Bo hC.fc.fac hst.way (by decide) e)).trans hst.way
   refine⟨hw,hst.kb.trans (KB.named ok hC hB),?_,?_,?_,?_,?_⟩
   all_goals simp only [Qx (show 19<l.size by omega),getD_set_ne false (show (19:Nat)≠21 by omega),getD_set_ne false (show (19:Nat)≠22 by omega),getD_set_ne false (show (19:Nat)≠24 by omega)]
   ·intro e;cases e
   ·intro _ _;exact⟨F',hC.named ok hF hB⟩
   ·intro e;rw [n21]at e;cases e
   ·intro e;rw [n22 (by omega)]at e;cases e
   ·intro e;rw [n24]at e;cases e
  ·have s5:a.eval (.tmp 69)=.int .i64 i1:=sl 5 (by omega) (Db 20 5 (by decide) rfl);have s9:a.eval (.tmp 73)=.int .i64 i2:=sl 9 (by omega) (Db 20 9 (by decide) rfl);have s10:a.eval (.tmp 74)=.int .i64 zl:=sl 10 (by omega) (Db 20 10 (by decide) rfl);have s15:a.eval (.tmp 83)=.int .i64 zr:=sl 19 (by omega) (Db 20 19 (by decide) rfl);refine S4 (Instr.build 118 #[(0,.int .i64 i1),(1,.int .i64 i2),(2,.int .i64 zl),(3,.int .i64 zr)]) (by unfold execOp;rw [←p];simp [s5,s9,s10,s15]) (si _ _ _ _ _) ?_;exact fin (by omega) _ rfl
  ·have mO:=Db 21 20 (by decide) rfl;have LE:=need 20 19 (by decide) mO
   have n24:l.getD 24 false=false:=by
    cases e:l.getD 24 false
    ·rfl
    ·have:=need 24 22 (by decide) e;rw [n22 (by omega)]at this;cases this
   have s16:a.eval (.tmp 84)=.agg #[.int .i64 i1,.int .i64 i2,.int .i64 zl,.int .i64 zr]:=sl 20 (by omega) mO;refine S4 (Instr.buildSlice 32 1 #[(0,.agg #[.int .i64 i1,.int .i64 i2,.int .i64 zl,.int .i64 zr])]) (by unfold execOp;rw [←p];simp [s16]) (sf _ _ _ _ _) ?_;have hX:=(Ac.refl w).alloc (.cells #[.int .i64 i1,.int .i64 i2,.int .i64 zl,.int .i64 zr] 118);refine⟨(w.heap.size,b.2),rfl,fun j hj=>?_,?_⟩
   ·have:j≠21:=(by rintro rfl;rw [AQ]at hj;cases hj);unfold Ld
    split<;>first|rfl|omega
   ·obtain⟨F1,h1⟩:=hst.sB LE (n22 (by omega));refine⟨(hX.block _ (Ajx hst.way)).trans hst.way,hst.kb.trans (KB.ext hX h1.size),?_,?_,?_,?_,?_⟩
    all_goals simp only [Qx (show 21<l.size by omega),getD_set_ne false (show (21:Nat)≠19 by omega),getD_set_ne false (show (21:Nat)≠22 by omega),getD_set_ne false (show (21:Nat)≠24 by omega)]
    ·intro e;rw [LE]at e;cases e
    ·intro _ e;obtain⟨F',h'⟩:=hst.sB LE e;exact⟨F',h'.ext hX⟩
    ·intro _ _;exact Ajy w _
    ·intro e;rw [n22 (by omega)]at e;cases e
    ·intro e;rw [n24]at e;cases e
  ·have MW:=Db 22 21 (by decide) rfl;have LE:=need 20 19 (by decide) (need 21 20 (by decide) MW)
   have n24:l.getD 24 false=false:=by
    cases e:l.getD 24 false
    ·rfl
    ·have:=need 24 22 (by decide) e;rw [AQ]at this;cases this
   obtain⟨F',hC⟩:=hst.sB LE AQ;refine dx _ _ p.symm w c.B E eds.length eds (show a.eval (.tmp 65)=_ from sl 1 (by omega) (Db 22 1 (by decide) rfl)) hC.own hel ⟨i1,i2,zl,zr⟩ b.1 (hst.sG MW AQ) (show a.eval (.tmp 85)=_ from sl 21 (by omega) MW) hC.size ?_;intro v' w' k1 k2;obtain⟨m1,m2⟩:=hC.app ok (d:=⟨i1,i2,zl,zr⟩) k2 k1;obtain⟨A,dd,rfl,-,-,-⟩:=Ae.of_own' (show 0<4 by omega) k1;refine⟨(b.1,.slice A (eds.length+1) dd),rfl,fun j hj=>?_,?_⟩
   ·have:j≠22:=(by rintro rfl;rw [AQ]at hj;cases hj);unfold Ld
    split<;>first|rfl|omega
   ·have hw:IZ w' Cr x:=(k2.block _ (Ajx hst.way) (fun e=>Bo hC.own hst.way (by decide) e.symm)).trans hst.way;refine⟨hw,hst.kb.trans (KB.app hC k2),?_,?_,?_,?_,?_⟩
    all_goals simp only [Qx (show 22<l.size by omega),getD_set_ne false (show (22:Nat)≠19 by omega),getD_set_ne false (show (22:Nat)≠21 by omega),getD_set_ne false (show (22:Nat)≠24 by omega)]
    ·intro e;rw [LE]at e;cases e
    ·intro _ e;cases e
    ·intro _ e;cases e
    ·intro _ _;exact⟨F',m1,⟨_,_,_,rfl⟩,m2⟩
    ·intro e;rw [n24]at e;cases e
  ·refine S1 p d (by rw [e5];exact mJ _ _) ?_;rw [d];exact fin (by omega) _ rfl
  ·have Kd:=Db 24 22 (by decide) rfl;have LE:=WX Kd 19 (by omega) (by omega);have MW:=WX Kd 21 (by omega) (by omega);obtain⟨F',k1,k2,k3⟩:=hst.sC Kd AQ
   have hrun:(execOp a.eval o).run Tryz.prog w=.ok .skip (w.setCell ⟨c.bm,1,none⟩ b.2):=by unfold execOp;rw [←p];show (do Instr.storeAt 32 (a.eval (.tmp 87)) (a.eval (.tmp 86));pure Next.skip:Sem Next).run Tryz.prog w=_;rw [show a.eval (.tmp 87)=_ from sl 23 (by omega) (Db 24 23 (by decide) rfl),show a.eval (.tmp 86)=_ from sl 22 (by omega) Kd];have:=AgG k2 k1;simp [Ld,this]
   unfold Oper.wp;rw [hrun];refine⟨b,?_,fun _ _=>rfl,?_⟩
   ·rw [←d];rfl
   ·have hw:IZ (w.setCell ⟨c.bm,1,none⟩ b.2) Cr x:=(B7 (by show Cr≠c.bm;exact Ct hst.way k1 (by decide))).trans hst.way;refine⟨hw,hst.kb.trans (KB.set ok k1 _),?_,?_,?_,?_,?_⟩
    all_goals simp only [Qx (show 24<l.size by omega),getD_set_ne false (show (24:Nat)≠19 by omega),getD_set_ne false (show (24:Nat)≠21 by omega),getD_set_ne false (show (24:Nat)≠22 by omega)]
    ·intro e;rw [LE]at e;cases e
    ·intro _ e;rw [Kd]at e;cases e
    ·intro _ e;rw [Kd]at e;cases e
    ·intro _ e;cases e
    ·intro _;exact⟨F',k3⟩
 ·intro b l a w Ap FN hall hst;obtain⟨F',hF⟩:=hst.sD (hall 24 (by omega));have:=Ap.lit U4 (by omega) (by omega) hall FN;rw [this];exact hend _ w _ F' hF hst.kb
end
end Go.Proofs.YtgnejnampofhoaaGreatDoor
