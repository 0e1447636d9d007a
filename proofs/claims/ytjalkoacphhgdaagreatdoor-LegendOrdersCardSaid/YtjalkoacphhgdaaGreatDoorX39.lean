/- X39: D4 BK BQ BR. -/
import Derived.Laws.EntriesVeiled
import Derived.Test.YtjalkoacphhgdaaGreatDoorX38
set_option maxRecDepth 100000
set_option maxHeartbeats 8000000
namespace Go.Proofs.YtjalkoacphhgdaaGreatDoor
open Go.RowKit Kl
open Go.ChangeMaps (setBlock)
theorem mo{W:World}{b:Nat}{L:List (Sg×Int)}(h:W.heap[b]?=some (.map (AB As (stamp L)).toArray L.length))(s:Sg)(hno:∀e∈L,AL s e.1=false)(z:Int) :
  ∃W',(Instr.mapUpdate 131 (.map (some b)) (As s) (.int .i64 z)).run Tryz.prog W=.ok () W'/\W'.heap[b]?=some (.map (AB As (stamp (L ++ [(s,z)]))).toArray (L ++ [(s,z)]).length)/\W.grownBy W' (some b)/\W'.heap.size=W.heap.size:=by
 refine⟨_,lV Xs s (stamp L) ?_ (.int .i64 z) h,?_,Ld h,by simp [setBlock]⟩
 ·intro e he;obtain⟨x,hx,h1⟩:=mT he;rw [h1];exact hno x hx
 ·rw [LX h,yr];simp
theorem xl{s t:Sg}(h:s≠t):AL s t=false:=by
 rw [Bool.eq_false_iff];exact fun k=>h (II.1 k)
theorem Afq{C:List (List Sg)}(Cc:C.flatten.Nodup){k:Nat}(hk:k<C.length){j:Nat}(hj:j<C[k].length):∀e∈Dd (C.take k)++(C[k].take j).map (fun s=>(s,(k:Int))),AL C[k][j] e.1=false:=by
 intro e he;refine xl fun hh=>?_;have h1:C=C.take k++C[k]::C.drop (k+1):=(by rw [←List.drop_eq_getElem_cons hk,List.take_append_drop]);have h2:C[k]=C[k].take j++C[k][j]::C[k].drop (j+1):=by rw [←List.drop_eq_getElem_cons hj,List.take_append_drop]
 have h3:C.flatten=(C.take k).flatten++(C[k]++(C.drop (k+1)).flatten):=by
  have:=congrArg List.flatten h1
  rwa [List.flatten_append,List.flatten_cons]at this
 rw [h3,List.nodup_append]at Cc;obtain⟨-,Da,AgI⟩:=Cc;rw [List.nodup_append]at Da;obtain⟨Lz,-,-⟩:=Da
 rcases List.mem_append.1 he with he|he
 ·have:e.1∈(Dd (C.take k)).map (·.1):=List.mem_map_of_mem he;rw [ry]at this;exact AgI _ this _ (List.mem_append_left _ (AqL hj)) hh.symm
 ·rw [List.mem_map]at he;obtain⟨s,hs,rfl⟩:=he;rw [h2,List.nodup_append]at Lz;exact Lz.2.2 _ hs _ List.mem_cons_self hh.symm
theorem oh(n:Nat)(hn:n<=200000)(c:Int)(hc:c=(n:Int))(W:World) :
  (Instr.makeSlice 68 (.int .i64 c) (.int .i64 c)).run Tryz.prog W=.ok (.slice (some ⟨W.heap.size,0,none⟩) n n) (W.alloc (.cells (madeCells #[.int .i64 0] n) 3)):=AjP n hn c hc W
def J1(W:List Sg)(C:List (List Sg))(k:Nat):List Value:=(List.range C.length).map (fun j=>Value.int .i64 (if j<k then Cl W C (W.length+1) j else 0))
theorem Amh(W:List Sg)(C:List (List Sg)):J1 W C 0=zs (zn (List.replicate C.length 0)):=by
 unfold J1 zs zn;apply List.ext_getElem
 ·simp
 ·intro i h1 h2;simp
theorem Amf(W:List Sg)(C:List (List Sg)):J1 W C C.length=(Kv W C).map (Value.int .i64):=by
 unfold J1 Kv;apply List.ext_getElem
 ·simp
 ·intro i h1 h2;have:i<C.length:=(by simpa using h1);simp [this]
theorem Amg(W:List Sg)(C:List (List Sg)){k:Nat}(_:k<C.length):(J1 W C k).set k (.int .i64 (Cl W C (W.length+1) k))=J1 W C (k+1):=by
 unfold J1;apply List.ext_getElem
 ·simp
 ·intro i h1 h2;by_cases h:k=i
  ·subst h;simp
  ·rw [List.getElem_set_ne h];have:(i<k+1)↔i<k:=(by omega);simp [this]
theorem AcR(w:World)(o1 o2 o3 o4:Obj):∃W,W=(((w.alloc o1).alloc o2).alloc o3).alloc o4/\Aa w W/\W.heap.size=w.heap.size+4/\W.heap[w.heap.size]?=some o1/\W.heap[w.heap.size+1]?=some o2/\W.heap[w.heap.size+1+1]?=some o3/\W.heap[w.heap.size+1+1+1]?=some o4:=by
 obtain⟨V,hV,hE,h1,h2,h3⟩:=P0 w o1 o2 o3;have hs:V.heap.size=w.heap.size+1+1+1:=(by rw [hV];simp);have Gc:=(Aa.refl V).alloc o4;refine⟨_,by rw [←hV],hE.alloc o4,by simp [hs],(Gc.block _ (AqI h1)).trans h1,(Gc.block _ (AqI h2)).trans h2,(Gc.block _ (AqI h3)).trans h3,?_⟩;rw [←hs];exact AqJ V o4
def D6(W:World)(b:Nat)(l:List (Sg×Int)):Prop:=W.heap[b]?=some (.map (AB As (stamp l)).toArray l.length)
theorem D6.far{W W':World}{b:Nat}{l:List (Sg×Int)}(h:D6 W b l){row:Option Nat}(hg:W.grownBy W' row)(hr:row≠some b):D6 W' b l:=(hg.block b (AqI h) (fun e=>hr e.symm)).trans h
theorem D6.ext{W W':World}{b:Nat}{l:List (Sg×Int)}(h:D6 W b l)(hx:Aa W W'):D6 W' b l:=(hx.block b (AqI h)).trans h
theorem Aml{B:Nat}{w:World}(hw:Am w){r b1 b2:Nat}{L:List (Sg×Int)}{E:List (Pt×Value×Nat)}{R0:List (Pt×List Pt)}(h:Bw B w r b1 b2 L E R0){W U:List Sg}{C:List (List Sg)}(hW:W=L.map (·.1))(hG:Rj W U C){A:Option Addr}{cap:Nat}(hC:Mi w A cap C) :
  Calls Tryz.prog 157 #[.pointer (some ⟨r,0,none⟩),.slice A C.length cap] w fun e w'=>∃A',e=.returned (.slice A' C.length C.length)/\Ad w' A' ((Kv W C).map (Value.int .i64))/\Aa w w':=by
 have hmm:=@run_makeMap Tryz.prog;have Apz:=hC.cap1;have zI:=hC.cap2;go_enter Tryz.func157,Tryz.ntmps157
 go_upto_region 2 with fail
 obtain⟨W1,hW1,Cf,hs1,hb1,hb2,hb3,hb4⟩:=AcR w (.cells #[.pointer (some ⟨r,0,none⟩)] 128) (.cells #[.slice A C.length cap] 209) (.map #[] 0) (.cells #[.map (some (w.heap.size+1+1))] 131);rw [←hW1];clear hW1;obtain⟨bn,Ca⟩:=AqG w.heap.size;rw [←Ca]at hb1 hb2 hb3 hb4 ⊢;have hle:w.heap.size<=bn:=(by omega);have PK:D6 W1 (bn+1+1) (Dd (C.take 0)):=by rw [List.take_zero];exact hb3
 have wL:C.length<=100000:=by have h1:=Xv hG.ok.ne;rw [hG.ok.flat]at h1;have h2:=Kn hG.ok.nd hG.ok.sub;have:=hG.len;omega
 have hl0:(0:Int)<=(C.length:Int):=(by omega);have Cc:C.flatten.Nodup:=(by rw [hG.ok.flat];exact hG.ok.nd);have U9:=AqH Cc;have m2:=Ab (o:=0) hb2 rfl;clear Ca hb3 Cc
 go_upto_region 3 with fail
 go_loopw [16] (fun i wr=>∃k:Nat,i=.int .i64 (k:Nat)/\k<=C.length/\D6 wr (bn+1+1) (Dd (C.take k))/\Au (fun j=>j=bn+1+1) W1 wr) (fun i _=>C.length-(intOf i).toNat)
 case atStart=>exact⟨0,rfl,by omega,PK,Au.refl _ _⟩
 case round=>
  obtain⟨k,rfl,hk,hM,hB⟩:=hrel;have BL:Aa w wr:=hB.toExt Cf (fun j e=>by subst e;omega);by_cases hlt:k<C.length
  ·obtain⟨bA,oA,A',c',rfl,hcell,AN,hc1,hc2⟩:=hC.row k hlt;replace hcell:=BL.cellS hcell;have hk0:(0:Int)<=(k:Int):=(by omega);have BH:(k:Int)<(C.length:Int):=(by omega);obtain⟨c,hcc⟩:=AqG (C[k]);have hfr:=fun j (hj:j<C[k].length)=>Afq U9.out hlt hj;rw [←hcc]at hcell AN hc1 hfr
   have MK:Dd (C.take (k+1))=Dd (C.take k)++c.map (fun s=>(s,(k:Int))):=by rw [AqN hlt,rz,←hcc,List.length_take,Nat.min_eq_left (by omega)]
   have Rr:=AqH MK;have HFR:=AqH hfr;have Fe:D6 wr (bn+1+1) (Dd (C.take k)++(c.take 0).map (fun s=>(s,(k:Int)))):=(by rw [List.take_zero,List.map_nil,List.append_nil];exact hM);have hcl:(0:Int)<=(c.length:Int):=(by omega);clear hcc MK hfr hM
   go_upto_region 6 with fail
   go_loopw [23] (fun i wi=>∃j:Nat,i=.int .i64 (j:Nat)/\j<=c.length/\D6 wi (bn+1+1) (Dd (C.take k)++(c.take j).map (fun s=>(s,(k:Int))))/\Au (fun j=>j=bn+1+1) W1 wi) (fun i _=>c.length-(intOf i).toNat)
   case atStart=>exact⟨0,rfl,by omega,Fe,hB⟩
   case round=>
    obtain⟨j,rfl,hj,VK,Sx⟩:=hrel;have PT:Aa w wr:=Sx.toExt Cf (fun j e=>by subst e;omega);by_cases AV:j<c.length
    ·obtain⟨b',o',rfl,f1,f2,f3,f4⟩:=NC (AN.ext PT) AV;have hno:=HFR.out j AV
     have I8:Dd (C.take k)++(c.take (j+1)).map (fun s=>(s,(k:Int)))=(Dd (C.take k)++(c.take j).map (fun s=>(s,(k:Int)))) ++ [(c[j],(k:Int))]:=by rw [AqN AV,List.map_append,←List.append_assoc];rfl
     obtain⟨s,hs⟩:=AqG (c[j]);rw [←hs]at f1 f2 f3 f4 hno I8;have hj0:(0:Int)<=(j:Int):=(by omega);have Gh:(j:Int)<(c.length:Int):=(by omega);have AA:=AqJ wr (.cells #[S (R s.a.x),S (R s.a.y),S (R s.b.x),S (R s.b.y)] 155);have E4:=(Aa.refl wr).alloc (.cells #[S (R s.a.x),S (R s.a.y),S (R s.b.x),S (R s.b.y)] 155);have h4:=(E4.block _ (AqI (Sx.cells hb4 (by omega)))).trans (Sx.cells hb4 (by omega));obtain⟨Wp,hput,PM,Ls,-⟩:=mo (VK.ext E4) s hno (k:Int);rw [←I8]at PM;have bK:=(Sx.ext E4).grown Ls (fun q e=>by cases e;exact .inl rfl);have YR:=AqH PM;clear hno I8 hs VK Ls PM
     go_upto_region 8 with fail
     unfold S at AA h4 hput;unfold As S at hput;have z0:=Ab (o:=0) AA rfl;have z1:=Ab (o:=1) AA rfl;have z2:=Ab (o:=2) AA rfl;have z3:=Ab (o:=3) AA rfl;have z4:=Ab (o:=0) h4 rfl;generalize (wr.alloc (.cells #[.string ⟨(R s.a.x).toArray⟩,.string ⟨(R s.a.y).toArray⟩,.string ⟨(R s.b.x).toArray⟩,.string ⟨(R s.b.y).toArray⟩] 155))=W4 at *;clear f1 f2 f3 f4 AA h4;go_wp2;go_roundw
     case rel=>exact⟨j+1,by go_num,AV,YR.out,bK⟩
     case measure=>simp [intOf];omega
    ·have Kf:j=c.length:=(by omega);subst Kf;have fG:(c.length:Int)<=(c.length:Int):=(by omega);rw [List.take_length,←Rr.out]at VK;go_wp2;go_roundw
     case rel=>exact⟨k+1,by go_num,hlt,VK,Sx⟩
     case measure=>simp [intOf];omega
  ·have Bt:k=C.length:=(by omega);subst Bt;rw [List.take_length]at hM;have hmk:=oh C.length (by omega) (C.length:Int) rfl wr;have er:∀(fn:Fn) (first cap:Array Value) (w:World),(Instr.makeFunc fn first cap).run Tryz.prog w=.ok (.func fn first cap) w:=fun _ _ _ _=>rfl;have Wk:=hB.cells hb2 (by omega);have m2':=Ab (o:=0) Wk rfl;have own:=rk wr w.heap.size C.length (AqU Cf.size hB.size) (by omega);have hx0:(w.heap.size:Nat)<=wr.heap.size:=AqU Cf.size hB.size;have wQ:=(Aa.refl wr).alloc (.cells (madeCells #[.int .i64 0] C.length) 3);obtain⟨fv,Na⟩:=AqG (Value.func (.func 233) #[] #[.pointer (some ⟨bn+1,0,none⟩),.pointer (some ⟨bn,0,none⟩),.pointer (some ⟨wr.heap.size+1,0,none⟩),.pointer (some ⟨bn+1+1+1,0,none⟩)]);have bP:=(Aa.refl (wr.alloc (.cells (madeCells #[.int .i64 0] C.length) 3))).alloc (.cells #[fv] 253);have Oq:=AqJ (wr.alloc (.cells (madeCells #[.int .i64 0] C.length) 3)) (.cells #[fv] 253);rw [AqR]at Oq;have G1:=wQ.trans bP;have CH:=BL.trans G1;have Ub:=AC own bP;have Ix:=hM.ext G1;have n1:=(G1.block _ (AqI (hB.cells hb1 (by omega)))).trans (hB.cells hb1 (by omega));have n2:=(G1.block _ (AqI Wk)).trans Wk;have n4:=(G1.block _ (AqI (hB.cells hb4 (by omega)))).trans (hB.cells hb4 (by omega));have Gi:bn+1+1+1<wr.heap.size:=AqI (hB.cells hb4 (by omega));have L9:wr.heap.size+1<((wr.alloc (.cells (madeCells #[.int .i64 0] C.length) 3)).alloc (.cells #[fv] 253)).heap.size:=by simp
   go_upto_region 14 with fail
   rw [←Na];clear hmk er m2' own hM wQ bP G1 Wk;generalize (wr.alloc (.cells (madeCells #[.int .i64 0] C.length) 3)).alloc (.cells #[fv] 253)=V2 at *;obtain⟨bo,Lk⟩:=AqG wr.heap.size;rw [←Lk]at Ub Na Oq Gi L9 ⊢;have Aii:w.heap.size<=bo:=(by omega);clear Lk;have Ua:V2.ownsRow w.heap.size 3 1 (.slice (some ⟨bo,0,none⟩) C.length C.length) C.length (J1 W C 0):=(by rw [Amh];exact Ub);have m2:=Ab (o:=0) n2 rfl
   have Tg:∀i (hi:i<C.length),leftOf W (Cl.aOf C[i]).x<W.length+1:=fun i hi=>by have:leftOf W (Cl.aOf C[i]).x<=W.length:=List.countP_le_length;omega
   have HFV:=AqH Na;clear Ub Na
   go_upto_region 15 with fail
   clear m2
   go_loopw [38] (fun i w3=>∃k:Nat,i=.int .i64 (k:Nat)/\k<=C.length/\w3.ownsRow w.heap.size 3 1 (.slice (some ⟨bo,0,none⟩) C.length C.length) C.length (J1 W C k)/\Au (fun j=>j=bo) V2 w3) (fun i _=>C.length-(intOf i).toNat)
   case atStart=>exact⟨0,rfl,by omega,Ua,Au.refl _ _⟩
   case round=>
    obtain⟨k,rfl,hk3,DF,B5⟩:=hrel;have Di:Aa w wr:=B5.toExt CH (fun j e=>by subst e;exact Aii);by_cases hlt:k<C.length
    ·have hR:RA B wr r b1 b2 L E R0 (bn+1) bn (bo+1) (bn+1+1+1) (bn+1+1) A cap C:=⟨h.ext Di,hC.ext Di,Ab (B5.cells n2 (by omega)) rfl,Ab (B5.cells n1 (by omega)) rfl,by rw [←HFV.out];exact Ab (B5.cells Oq (by omega)) rfl,Ab (B5.cells n4 (by omega)) rfl,B5.cells Ix (by omega)⟩;have fc:=Afk hW hG (W.length+1) k hlt (Tg k hlt) wr (hw.ext Di) hR;have G6:wr.cell? ⟨bo+1,0,none⟩=some (.func (.func 233) #[] #[.pointer (some ⟨bn+1,0,none⟩),.pointer (some ⟨bn,0,none⟩),.pointer (some ⟨bo+1,0,none⟩),.pointer (some ⟨bn+1+1+1,0,none⟩)]):=hR.cf;obtain⟨z,hz⟩:=AqG (Cl W C (W.length+1) k);rw [←hz]at fc;have hk0:(0:Int)<=(k:Int):=(by omega);have BH:(k:Int)<(C.length:Int):=(by omega);have HZ:=AqH hz;clear hz hR;have Em:(J1 W C k)[k]?=some (.int .i64 0):=(by unfold J1;simp [hlt]);have Gn:=Amg W C hlt;rw [←HZ.out]at Gn;have HS:=AqH Gn;clear Gn;(go_wp2_with fail);(with_reducible refine fc.mono ?_);rintro e w4 ⟨rfl,Ai⟩;have Cd:=AC DF Ai;have hce:=(Cd.cellAt k (by omega)).trans Em;have Qc:=Cd.frozenAt k;have hst:=(Cd.stored k (.int .i64 z)).1;have hg4:=(Cd.stored k (.int .i64 z)).2;have Fb:=(B5.ext Ai).grown hg4 (fun q e=>by cases e;exact .inl rfl);rw [HS.out]at hst;clear hg4 B5 DF Cd fc G6;go_wp2;go_roundw
     case rel=>exact⟨k+1,by go_num,hlt,hst,Fb⟩
     case measure=>simp [intOf];omega
    ·have Bt:k=C.length:=(by omega);subst Bt;rw [Amf]at DF;obtain⟨A2,cap2,I3,Jq,-,-⟩:=Ad.of_own' (by omega) DF;simp only [Value.slice.injEq,true_and]at I3;obtain⟨rfl,-⟩:=I3;go_wp2;go_ret;exact⟨_,rfl,Jq,Di⟩
end Go.Proofs.YtjalkoacphhgdaaGreatDoor
namespace Go.Proofs.YtjalkoacphhgdaaGreatDoor
open Go.RowKit Kl
def Dp(P:List (List Pt×Bs))(i:Nat):List Pt:=(P.take i).flatMap (·.1)
def RX(P:List (List Pt×Bs)):List Pt:=Lib.compact (ES (Dp P P.length))
theorem tD{P:List (List Pt×Bs)}{i:Nat}(h:i<P.length):Dp P (i+1)=Dp P i++P[i].1:=by
 unfold Dp;rw [AqN h,List.flatMap_append];simp
theorem ZX{P:List (List Pt×Bs)}(hP:∀e∈P,e.1.length<=60):∀i,i<=P.length→(Dp P i).length<=i*60
 | 0,_=>by simp [Dp]
 | i+1,h=>by rw [tD (show i<P.length by omega),List.length_append];have h1:=ZX hP i (by omega);have h2:=hP _ (AqL (show i<P.length by omega));omega
theorem nj{P:List (List Pt×Bs)}{i:Nat}{q:Pt}(h:q∈Dp P i):∃e∈P,q∈e.1:=by
 unfold Dp at h;rw [List.mem_flatMap]at h;obtain⟨e,he,hq⟩:=h;exact⟨e,List.mem_of_mem_take he,hq⟩
theorem mem_compact{l:List Pt}{q:Pt}(h:q∈Lib.compact l):q∈l:=by
 unfold Lib.compact Lib.compactUpTo at h;rw [List.mem_map]at h;obtain⟨j,hj,rfl⟩:=h;have hj':j<l.length:=(by simpa using (List.mem_filter.1 hj).1);rw [getElem!_pos l.toArray j (by simpa using hj')];simp
theorem AdR(l:List Pt):(Lib.compact l).length<=l.length:=by
 unfold Lib.compact Lib.compactUpTo;rw [List.length_map];refine AqU (List.length_filter_le _ _) ?_;simp
section
variable {ops : Array Oper} {rest : List Oper} {o : Oper} {a : Act} {Q : Exit → Act → World → Prop}
theorem Acm(hgd:o.guard=none)(s x:Operand)(ho:o.op=.call {callee:=.builtin .append,args:=#[s,x],argTypes:=#[33,33]})
  (wN:World) (base:Nat) (v:Value) (n:Nat) (l:List Pt) (hs:a.eval s=v) (hown:wN.ownsRow base 92 2 v n (flat (Ao l))) (hn:n<200000) (m:List Pt) (A:Option Addr) (c:Nat) (hx:a.eval x=.slice A m.length c) (hr:Ad wN A (flat (Ao m))) (hm:0<m.length) (Fo:m.length<=1000) (hbase:base<=wN.heap.size)
  (h:∀v' w',w'.ownsRow base 92 2 v' (n+m.length) (flat (Ao (l++m)))→(∀w0,Aa w0 wN→w0.heap.size<=base→Aa w0 w')→wpList Tryz.prog ops Q rest (a.put o.dst v') w') :
  wpList Tryz.prog ops Q (o::rest) a wN:=by
 obtain⟨i0,hi,hz0,hz1,hz2⟩:=info_parts Tryz.infoPt;have Ox:(flat (Ao m)).length=m.length*2:=(by rw [flat_length];simp [Ao]);obtain⟨b,oo,rfl,hc⟩:=hr.ad (by omega);have SN:(n+m.length)*32<=140737488355328:=(by omega);have CJ:n+m.length<=maxLen:=(by unfold maxLen;omega);refine wpList_plain hgd fun K hK=>wp_append_own _ s x 33 ho base 92 i0 (.agg #[S [],S []]) 2 32 Tryz.underlying33 hi hz0 hz1 hz2 rfl (by omega) v n _ hs hown ⟨b,oo,none⟩ m.length c (flat (Ao m)) hx ?_ ?_ ?_ CJ SN hbase ?_
 ·exact Ox
 ·intro j u hu;obtain⟨hj,e⟩:=List.getElem?_eq_some_iff.1 hu;rw [Addr.add_lit,←e];exact hc j hj
 ·intro u hu;unfold flat at hu;simp only [List.mem_flatMap,List.mem_cons,AqV,or_false]at hu;obtain⟨p,_,rfl|rfl⟩:=hu<;>rfl
 ·intro v' w' h2 h3 _;refine hK _ _ (h v' w' ?_ (fun w0 he Br=>?_))
  ·have e:flat (Ao (l++m))=flat (Ao l)++flat (Ao m):=(by unfold flat Ao;simp);rw [e];exact h2
  ·exact he.grown h3 fun k hk=>by
    rcases hown.2 with⟨rfl,_⟩|⟨g,cap,cur,rfl,hb',_⟩
    ·cases hk
    ·simp only [Value.ownBlock,AqO]at hk;omega
end
section
open Go.ChangeMaps (setBlock)
theorem ma:JJ 252 92 3 (.int .i64 0) Ak Ap where
 map:=Tryz.underlying252
 st:=⟨_,Tryz.underlying92⟩
 zero:=fun W=>by simp [go_sem]
 eq:=uR
 chk:=rZ
 iff:=C0
 bits:=fun x=>by unfold Ak;simp [Instr.sameBits,beq_toListBytes]
def Mb(L:List (Pt×Int)):List (Pt×Value×Nat):=L.mapIdx fun i e=>(e.1,.int .i64 e.2,i)
theorem Anw(L:List (Pt×Int))(e:Pt×Int):Mb (L ++ [e])=Mb L ++ [(e.1,.int .i64 e.2,L.length)]:=by simp [Mb,List.mapIdx_append]
theorem Anv{L:List (Pt×Int)}{x:Pt×Value×Nat}(h:x∈Mb L):∃e∈L,x.1=e.1:=by
 unfold Mb at h;rw [List.mem_mapIdx]at h;obtain⟨i,hi,rfl⟩:=h;exact⟨L[i],AqL hi,rfl⟩
def GK(p:Pt)(L:List (Pt×Int)):Int:=match L.find? (fun e=>Ap p e.1)with|some e=>e.2|none=>0
theorem Aju(p:Pt)(L:List (Pt×Int)):Fu Ap (.int .i64 0) p (Mb L)=.int .i64 (GK p L):=by
 have h:∀(L:List (Pt×Int)) (n:Nat),Fu Ap (.int .i64 0) p (L.mapIdx fun i e=>(e.1,.int .i64 e.2,i+n))=.int .i64 (GK p L):=by
  intro L
  induction L with
  | nil=>intro n;simp [Fu,GK]
  | cons e L ih=>
   intro n;rw [List.mapIdx_cons];unfold Fu GK;rw [List.find?_cons,List.find?_cons];simp only
   cases hb:Ap p e.1
   ·simp only;have:=ih (n+1)
    have e1:(L.mapIdx fun i e=>(e.1,Value.int .i64 e.2,i+1+n))=L.mapIdx fun i e=>(e.1,Value.int .i64 e.2,i+(n+1)):=by congr 1;funext i e;rw [show i+1+n=i+(n+1)by omega]
    rw [e1];unfold Fu GK at this;exact this
   ·rfl
 exact h L 0
def Il(W:World)(b:Nat)(l:List (Pt×Int)):Prop:=W.heap[b]?=some (.map (AB Ak (Mb l)).toArray l.length)
theorem Il.ext{W W':World}{b:Nat}{l:List (Pt×Int)}(h:Il W b l)(hx:Aa W W'):Il W' b l:=(hx.block b (AqI h)).trans h
theorem Il.put{W:World}{b:Nat}{l:List (Pt×Int)}(h:Il W b l)(p:Pt)(hno:∀e∈l,Ap p e.1=false)(z:Int) :
  ∃W',(Instr.mapUpdate 252 (.map (some b)) (Ak p) (.int .i64 z)).run Tryz.prog W=.ok () W'/\Il W' b (l ++ [(p,z)])/\W.grownBy W' (some b)/\W'.heap.size=W.heap.size:=by
 refine⟨_,lV ma p (Mb l) (fun e he=>by obtain⟨e',h1,h2⟩:=Anv he;rw [h2];exact hno e' h1) (.int .i64 z) h,?_,Ld h,by simp [setBlock]⟩;unfold Il;rw [LX h,Anw,List.length_append]
 rfl
theorem Il.look{W:World}{b:Nat}{l:List (Pt×Int)}(h:Il W b l)(p:Pt):(Instr.lookup 252 (.map (some b)) (Ak p) false).run Tryz.prog W=.ok (.int .i64 (GK p l)) W:=by
 rw [QQ ma p (Mb l) h,Aju]
theorem ww(k:Int)(l:List (Int×Int)){b clock:Nat}{W:World}(hb:W.heap[b]?=some (.map (Lc l).toArray clock)) :
  (Instr.lookup 212 (.map (some b)) (.int .i64 k) false).run Tryz.prog W=.ok (.int .i64 ((C6 k l).getD 0)) W:=by
 obtain⟨x,h1,h2⟩:=aT k l W;have hz:(zeroValue 3).run Tryz.prog W=.ok (.int .i64 0) W:=(by simp [go_sem]);have hc:∀b,(Instr.checkKey b 10000 3 (.int .i64 k)).run Tryz.prog W=.ok () W:=fun b=>MapKept.run_checkKey (k:=.int .i64 k) Tryz.underlying3 (by simp [MapKept.IsKey]) b 9999;have hm:=run_underlying (w:=W) Tryz.underlying212
 cases h:C6 k l with
 | none=>
  rw [h]at h2;have hx:x=none:=(by simpa using h2);subst hx;simp [Instr.lookup,hm,MapKept.run_getObj_map hb,hc,h1,hz,Result.andThen]
 | some z=>rw [h]at h2;obtain⟨⟨i,v⟩,rfl,hv⟩:=Option.map_eq_some_iff.1 h2;simp only at hv;subst hv;simp [Instr.lookup,hm,MapKept.run_getObj_map hb,hc,h1,Result.andThen]
theorem Au.mono{K K':Nat→Prop}{w w':World}(h:Au K w w')(hk:∀k,K k→K' k):Au K' w w':=⟨h.os,h.tape,h.output,h.size,fun k h1 h2=>h.block k h1 (fun h3=>h2 (hk k h3))⟩
structure GW(wr:World)(B bx bn bm bu:Nat)(U:Option Addr)(cu:Nat)(units:List Bs)(P E F:Value)(nm:List (Int×Int))(An:List Bs):Prop where
 cN:wr.heap[bx]?=some (.cells #[.map (some bn)] 212)
 num:FX wr bn nm
 cM:wr.heap[bm]?=some (.cells #[P,E,F] 36)
 fac:wr.ownsRow B 9 1 F An.length (An.map S)
 cU:wr.heap[bu]?=some (.cells #[.slice U units.length cu] 23)
 uni:Ad wr U (units.map S)
 uB:∀x,U=some x→x.block<B
theorem GW.extn{w w':World}{B bx bn bm bu:Nat}{U:Option Addr}{cu:Nat}{units:List Bs}{P E F:Value}{nm:List (Int×Int)}{An:List Bs}(h:GW w B bx bn bm bu U cu units P E F nm An)(hx:Aa w w'):GW w' B bx bn bm bu U cu units P E F nm An:=
 ⟨(hx.block _ (AqI h.cN)).trans h.cN,(hx.block _ (AqI h.num)).trans h.num,(hx.block _ (AqI h.cM)).trans h.cM,AC h.fac hx,(hx.block _ (AqI h.cU)).trans h.cU,h.uni.ext hx,h.uB⟩
theorem GW.far{w w':World}{B bx bn bm bu:Nat}{U:Option Addr}{cu:Nat}{units:List Bs}{P E F:Value}{nm:List (Int×Int)}{An:List Bs}(h:GW w B bx bn bm bu U cu units P E F nm An){K:Nat→Prop}(hb:Au K w w')
  (k1:¬K bx) (k2:¬K bn) (k3:¬K bm) (k4:¬K bu) (k5:∀k,F.ownBlock=some k→¬K k) (k6:∀x,U=some x→0<units.length→¬K x.block):GW w' B bx bn bm bu U cu units P E F nm An:=by
 refine⟨(hb.block _ (AqI h.cN) k1).trans h.cN,(hb.block _ (AqI h.num) k2).trans h.num,(hb.block _ (AqI h.cM) k3).trans h.cM,CB h.fac hb k5,(hb.block _ (AqI h.cU) k4).trans h.cU,⟨fun h0=>?_⟩,h.uB⟩;obtain⟨b,o,e,hc⟩:=h.uni.ad h0;refine⟨b,o,e,fun j hj=>?_⟩;have h1:=hc j hj;exact(World.cell?_of_block (a:=⟨b,o+j,none⟩) (hb.block b (World.block_lt_of_cell? w _ h1) (k6 _ e (by simpa using h0)))).trans h1
def Pd(w:World)(B bx bn bm bu:Nat)(U:Option Addr)(cu:Nat)(units:List Bs)(P E F:Value)(z:Int)(FR:List (Int×Int))(Bp:List Bs)(e:Ending)(w':World):Prop:=
 ∃F',e=.returned (.int .i64 z)/\GW w' B bx bn bm bu U cu units P E F' FR Bp/\Au (fun k=>k=bn∨k=bm∨F.ownBlock=some k) w w'
theorem Afe{w:World}{B bx bn bm bu:Nat}{U:Option Addr}{cu:Nat}{units:List Bs}{P E F:Value}{nm:List (Int×Int)}{An:List Bs}(h:GW w B bx bn bm bu U cu units P E F nm An)(f z:Int)(hf:C6 f nm=some z) :
  Calls Tryz.prog 196 #[.int .i64 f,.pointer (some ⟨bx,0,none⟩),.pointer (some ⟨bm,0,none⟩),.pointer (some ⟨bu,0,none⟩)] w (Pd w B bx bn bm bu U cu units P E F z nm An):=by
 have k0:=Ab (o:=0) h.cN rfl;have lk:=lT f nm h.num;have OI:=ww f nm h.num;rw [hf]at lk OI;simp only [Option.getD_some,Option.isSome_some]at lk OI;go_enter Tryz.func196,Tryz.ntmps196;go_wp2;go_ret;exact⟨F,rfl,h,Au.refl _ _⟩
theorem Afd{w:World}{B bx bn bm bu:Nat}{U:Option Addr}{cu:Nat}{units:List Bs}{P E F:Value}{nm:List (Int×Int)}{An:List Bs}(h:GW w B bx bn bm bu U cu units P E F nm An)(hB:B<=w.heap.size)(hBn:B<=bn)(hBm:B<=bm)(m:Nat)(hf:C6 (m:Int) nm=none)(hm:m<units.length)(Kk:units.length<=100000)(Ox:An.length<=100000) :
  Calls Tryz.prog 196 #[.int .i64 (m:Nat),.pointer (some ⟨bx,0,none⟩),.pointer (some ⟨bm,0,none⟩),.pointer (some ⟨bu,0,none⟩)] w (Pd w B bx bn bm bu U cu units P E F (An.length:Nat) (nm ++ [((m:Int),(An.length:Int))]) (An ++ [units[m]])):=by
 have k0:=Ab (o:=0) h.cN rfl;have lk:=lT (m:Int) nm h.num;rw [hf]at lk;simp only [Option.getD_none,Option.isSome_none]at lk;obtain⟨W1,hput,Gd,hg1,hs1⟩:=h.num.put (m:Int) (An.length:Int) hf;have hb1:Au (fun k=>k=bn) w W1:=(Au.refl (fun k=>k=bn) w).grown hg1 (fun k e=>by cases e;exact .inl rfl)
 have nx:bx≠bn:=by
  intro e;have:=h.num;unfold FX at this;rw [←e,h.cN]at this
  cases this
 have oz:bm≠bn:=by
  intro e;have:=h.num;unfold FX at this;rw [←e,h.cM]at this
  cases this
 have nu:bu≠bn:=by
  intro e;have:=h.num;unfold FX at this;rw [←e,h.cU]at this
  cases this
 have nF:F.ownBlock≠some bn:=by
  intro e
  rcases h.fac.2 with⟨h',_⟩|⟨g,cap,cur,h',_,hgb,_⟩
  ·rw [h']at e;cases e
  ·rw [h']at e;simp only [Value.ownBlock,AqO]at e;subst e;have:=h.num;unfold FX at this;rw [hgb]at this
   cases this
 have c1:=(hb1.block _ (AqI h.cN) nx).trans h.cN;have c2:=(hb1.block _ (AqI h.cM) oz).trans h.cM;have c3:=(hb1.block _ (AqI h.cU) nu).trans h.cU;have c4:=CB h.fac hb1 (fun k hk e=>by subst e;exact nF hk)
 have c5:Ad W1 U (units.map S):=⟨fun h0=>by
  obtain⟨b,o,e,hc⟩:=h.uni.ad h0;refine⟨b,o,e,fun j hj=>?_⟩;have h1:=hc j hj
  exact(World.cell?_of_block (a:=⟨b,o+j,none⟩) (hb1.block b (World.block_lt_of_cell? w _ h1) (fun e'=>by have:=h.uB _ e;simp only at this;omega))).trans h1⟩
 have hB1:B<=W1.heap.size:=(by omega);obtain⟨ub,uo,rfl,hu⟩:=c5.ad (by simp;omega);have hum:=hu m (by simp;omega);have Aqo:ub<B:=h.uB _ rfl;obtain⟨s,hs⟩:=AqG (units[m]);rw [List.getElem_map,←hs]at hum;rw [←hs];obtain⟨oF,cF,rfl,-,-,-⟩:=Ad.of_own' (by omega) h.fac;have k1:w.cell? ⟨bm,2,none⟩=some (.slice oF An.length cF):=Ab h.cM rfl;have k2:W1.cell? ⟨bm,2,none⟩=some (.slice oF An.length cF):=Ab c2 rfl;have k3:=Ab (o:=0) c3 rfl;have hm0:(0:Int)<=(m:Int):=(by omega);have hm1:(m:Int)<(units.length:Int):=(by omega);have HN:=AqH Gd;have HB1:=AqH hb1;have HW:=AqH h;have HFO:=AqH hf;clear hu hs hf Gd hb1 hg1 hs1 h;go_enter Tryz.func196,Tryz.ntmps196
 go_upto_region 4 with fail
 have hFM:(Value.slice oF An.length cF).ownBlock≠some bm:=Bu c4 c2 (by decide);have hFN:(Value.slice oF An.length cF).ownBlock≠some bx:=Bu c4 c1 (by decide);have hFU:(Value.slice oF An.length cF).ownBlock≠some bu:=Bu c4 c3 (by decide);have Agi:=AqI c2;have AgU:An.length<200000:=by omega
 go_region_law (refine An1 rfl _ _ rfl _ B (.slice oF An.length cF) An.length An rfl (AC c4 (by first|exact(Aa.refl W1).alloc _|exact((Aa.refl W1).alloc _).drew)) AgU s W1.heap.size (AqJ W1 _) rfl (by simp;omega) ?_;intro v7 w7 L2 eG Qd;obtain⟨Q8,P3,rfl,-,-,-⟩:=Ad.of_own' (by omega) L2;have Ff:=(Qd.block bm (by simp;omega) (fun e=>hFM e.symm)).trans ((((Aa.refl W1).alloc _).block bm Agi).trans c2);have e1:w7.cell? ⟨bm,2,none⟩=some (.slice oF An.length cF):=Ab Ff rfl;have e2:=AK (o:=2) Ff)
 all_goals (
  have E4:Aa W1 ((W1.alloc (.cells #[S s] 9)).drew):=((Aa.refl W1).alloc _).drew;have WA:((W1.alloc (.cells #[S s] 9)).drew).grownBy w7 (Value.slice oF An.length cF).ownBlock:=Qd;have g7:∀{j:Nat} {o:Obj},W1.heap[j]?=some o→(Value.slice oF An.length cF).ownBlock≠some j→w7.heap[j]?=some o:=fun {j o} hj hn=>(WA.block j (AqT (AqI hj) E4.size) (fun e=>hn e.symm)).trans ((E4.block j (AqI hj)).trans hj);have VM:=g7 c1 hFN;have xQ:=g7 c3 hFU;have Ej:=g7 HN.out nF;have nxm:=Eg c1 c2 (by decide);have num:=Eg c3 c2 (by decide)
  have Fg:Au (fun k=>k=bn∨k=bm∨(Value.slice oF An.length cF).ownBlock=some k) w (w7.setCell ⟨bm,2,none⟩ (.slice Q8 (An.length+1) P3)):=
   (((HB1.out.mono (fun k e=>.inl e)).ext E4).grown WA (fun k e=>.inl (.inr (.inr e)))).setCell (p:=⟨bm,2,none⟩) (.inl (.inr (.inl rfl))) _
  have o8:=CB (K:=fun k=>k=bm) L2 ((Au.refl (fun k=>k=bm) w7).setCell (p:=⟨bm,2,none⟩) (.inl rfl) (.slice Q8 (An.length+1) P3)) (fun k hk e=>by subst e;exact Bu L2 Ff (by decide) hk)
  have N9:GW (w7.setCell ⟨bm,2,none⟩ (.slice Q8 (An.length+1) P3)) B bx bn bm bu (some ⟨ub,uo,none⟩) cu units P E (.slice Q8 (An.length+1) P3) (nm ++ [((m:Int),(An.length:Int))]) (An ++ [s]):=by
   refine⟨?_,?_,RI _ Ff,by rw [List.length_append];exact o8,?_,⟨fun h0=>?_⟩,HW.out.uB⟩
   ·rw [DX (by show bx≠bm;exact nxm)];exact VM
   ·unfold FX;rw [DX (by show bn≠bm;exact fun e=>oz e.symm)];exact Ej
   ·rw [DX (by show bu≠bm;exact num)];exact xQ
   ·obtain⟨b,o,e,hc⟩:=c5.ad h0;simp only [AqO,Addr.mk.injEq,and_true]at e;obtain⟨rfl,rfl⟩:=e;refine⟨ub,uo,rfl,fun j hj=>?_⟩;have h1:=hc j hj;have hlt:=World.block_lt_of_cell? W1 _ h1;have n1:ub≠bm:=(by omega);have n2:(Value.slice oF An.length cF).ownBlock≠some ub:=fun e=>(by have:=(c4.lt ub e).1;omega);refine(World.cell?_of_block (a:=⟨ub,uo+j,none⟩) (show (w7.setCell ⟨bm,2,none⟩ (.slice Q8 (An.length+1) P3)).heap[ub]?=W1.heap[ub]? from ?_)).trans h1;rw [DX (by show ub≠bm;exact n1)];exact(WA.block ub (AqT hlt E4.size) (fun e=>n2 e.symm)).trans (E4.block ub hlt)
  have v1:=Ab (o:=0) N9.cN rfl;have my:=ww (m:Int) (nm ++ [((m:Int),(An.length:Int))]) N9.num
  rw [show C6 (m:Int) (nm ++ [((m:Int),(An.length:Int))])=some (An.length:Int)by
   have eI:=HFO.out;unfold C6 at eI ⊢;rw [List.find?_append]
   cases hq:nm.find? (fun e=>(m:Int) == e.1)with
   | some e=>rw [hq]at eI;cases eI
   | none=>simp]at my
  simp only [Option.getD_some]at my;clear Ff e1 e2 Qd WA L2 eG g7 VM xQ Ej o8 E4;generalize (w7.setCell ⟨bm,2,none⟩ (.slice Q8 (An.length+1) P3))=W8 at *;have HN9:=AqH N9;have HB9:=AqH Fg;clear N9 Fg;go_wp2;go_ret
  exact⟨_,rfl,HN9.out,HB9.out⟩)
end
section
open Go.Shelf
section
variable {P : Program} {ops : Array Oper} {Q : Exit → Act → World → Prop}
theorem Ao5{β:Type}{id:Nat}(s m:Nat)(val:β→Nat→Value)(St:β→Array Bool→World→Prop)(b0:β){a0:Act}{w:World}(hm:P.follows .mixedOrders=true)(hb:okB s m ops=true)(hB:s+m<=a0.tmps.size)(h0:St b0 (Array.replicate ops.size false) w.drew)
  (hstep:∀b listed a w i o,Ce .any ops (val b) a0 listed a→St b listed w→ops[i]?=some o→listed.size=ops.size→listed.getD i false=false→(∀e∈o.after,Region.binds .any e=true→listed.getD e.on false=true)→
   o.wp P a w (fun a' w'=>∃b',a'=a.put o.dst (val b' i)/\(∀j,listed.getD j false=true→val b' j=val b j)/\St b' (listed.setIfInBounds i true) w') Q)
  (hend:∀b listed a w,Ce .any ops (val b) a0 listed a→a.defers=a0.defers→(∀i,i<ops.size→listed.getD i false=true)→St b listed w→Q .normal a w):(Code.region id ops true).wp P Q a0 w:=by
 refine Aan (fun listed a w'=>∃b,(Ce .any ops (val b) a0 listed a/\a.defers=a0.defers)/\St b listed w') hm (fun i o ho=>(IB hb i o ho).2.2) (fun i o ho=>(IB hb i o ho).2.1) ⟨b0,⟨Ce.start,rfl⟩,h0⟩ ?_ ?_
 ·rintro listed a w' i o ⟨b,⟨Aj,Gg⟩,hst⟩ hs Av ho hd;have hi:i<ops.size:=(Array.getElem?_eq_some_iff.1 ho).1;have hr:i∈Region.ready .any ops listed:=mem_ready.2 ⟨getD_in (by omega) Av,o,ho,hd⟩;refine Oper.wp_mono ?_ (hstep b listed a w' i o Aj hst ho hs Av hd);rintro a' w2 ⟨b',rfl,hv,AhR⟩;have fX:Ce .any ops (val b') a0 listed a:=⟨Aj.sz,Aj.lsz,fun j oj d hj hl eE=>by rw [hv j hl];exact Aj.done j oj d hj hl eE,Aj.rest,Aj.closed⟩;exact⟨b',⟨fX.step (fun i o ho=>(IB hb i o ho).1) hB ho hr,by rw [←Gg];cases o.dst<;>rfl⟩,AhR⟩
 ·rintro listed a w' ⟨b,⟨Aj,Gg⟩,hst⟩ hall;exact hend b listed a w' Aj Gg hall hst
end
theorem Ce.lit{md:Region.Mode}{ops:Array Oper}{val:Nat→Value}{a0 a:Act}{listed:Array Bool}{s m:Nat}(h:Ce md ops val a0 listed a)(hb:okB s m ops=true)(hm:m<=ops.size)(hs:s+m<=a0.tmps.size)(hall:∀i,i<ops.size→listed.getD i false=true)(hd:a.defers=a0.defers) :
  a=⟨(a0.tmps.toList.take s++((List.range m).map val++a0.tmps.toList.drop (s+m))).toArray,a0.defers⟩:=by
 refine Zz ?_ ?_ hd
 ·rw [h.sz];simp only [List.length_append,List.length_take,List.length_map,List.length_range,List.length_drop,Array.length_toList];omega
 ·intro d Ji;simp only [List.length_append,List.length_take,List.length_map,List.length_range,List.length_drop,Array.length_toList]at Ji
  have out:∀e,(e<s∨s+m<=e)→(he:e<a0.tmps.size)→a.eval (.tmp e)=a0.tmps.toList[e]'(by simpa using he):=fun e h1 he=>by refine h.out hb h1 ?_;simp [Act.eval,Array.getD_eq_getD_getElem?,Array.getElem?_eq_getElem he]
  by_cases h1:d<s
  ·rw [List.getElem_append_left (by simp;omega)];rw [List.getElem_take];exact out d (.inl h1) (by omega)
  ·rw [List.getElem_append_right (by simp;omega)];simp only [List.length_take,Array.length_toList,Nat.min_eq_left (show s<=a0.tmps.size by omega)];by_cases h2:d<s+m
   ·rw [List.getElem_append_left (by simp;omega)];simp only [List.getElem_map,List.getElem_range];exact h.val hb (d-s) (by omega) (by omega) (hall _ (by omega)) rfl
   ·rw [List.getElem_append_right (by simp;omega)];simp only [List.length_map,List.length_range,List.getElem_drop];have e3:s+m+(d-s-m)=d:=(by omega);have:=out d (.inr (by omega)) (by omega);rw [this]
    congr 1
    omega
theorem AcO{w:World}{b:Nat}{a0 a1 a2:Value}{t:TypeId}(v:Value)(h:w.heap[b]?=some (.cells #[a0,a1,a2] t)):(w.setCell ⟨b,1,none⟩ v).heap[b]?=some (.cells #[a0,v,a2] t):=by
 simp only [World.setCell,Array.getElem?_modify,h];simp
structure Cn where
 B:Nat
 bx:Nat
 bn:Nat
 bm:Nat
 bu:Nat
 bi:Nat
 r:Nat
 b1:Nat
 b2:Nat
 U:Option Addr
 cu:Nat
 units:List Bs
 P:Value
 idx:List (Pt×Int)
 L:List (Sg×Int)
structure Cn.Ok(c:Cn):Prop where
 r:c.r<c.B
 b1:c.b1<c.B
 bn:c.B<=c.bn
 bm:c.B<=c.bm
 ni:c.bi≠c.bn
def Cn.fn(c:Cn):Value:=.func (.func 196) #[] #[.pointer (some ⟨c.bx,0,none⟩),.pointer (some ⟨c.bm,0,none⟩),.pointer (some ⟨c.bu,0,none⟩)]
structure R9(c:Cn)(w:World):Prop where
 net:w.heap[c.r]?=some (.cells #[.map (some c.b1),.map (some c.b2)] 134)
 left:w.heap[c.b1]?=some (.map (AB As (stamp c.L)).toArray c.L.length)
 idx:Il w c.bi c.idx
structure Cs(c:Cn)(E F:Value)(nm:List (Int×Int))(An:List Bs)(eds:List Az)(w:World):Prop where
 fc:GW w c.B c.bx c.bn c.bm c.bu c.U c.cu c.units c.P E F nm An
 rd:R9 c w
 own:w.ownsRow c.B 126 4 E eds.length (B7 eds)
 size:c.B<=w.heap.size
def JQ(w:World)(b:Nat)(x:Sg):Prop:=w.heap[b]?=some (.cells #[S (R x.a.x),S (R x.a.y),S (R x.b.x),S (R x.b.y)] 155)
section
variable {c : Cn} {E F : Value} {nm : List (Int × Int)} {An : List Bs} {eds : List Az} {w w' : World}
theorem R9.but(h:R9 c w){K:Nat→Prop}(hb:Au K w w')(k1:¬K c.r)(k2:¬K c.b1)(k3:¬K c.bi):R9 c w':=
 ⟨(hb.block _ (AqI h.net) k1).trans h.net,(hb.block _ (AqI h.left) k2).trans h.left,(hb.block _ (AqI h.idx) k3).trans h.idx⟩
theorem Cs.ext(h:Cs c E F nm An eds w)(hx:Aa w w'):Cs c E F nm An eds w':=
 ⟨h.fc.extn hx,⟨(hx.block _ (AqI h.rd.net)).trans h.rd.net,(hx.block _ (AqI h.rd.left)).trans h.rd.left,(hx.block _ (AqI h.rd.idx)).trans h.rd.idx⟩,AC h.own hx,AqU h.size hx.size⟩
theorem XZ{B:Nat}{e:TypeId}{s n:Nat}{v:Value}{xs:List Value}(h:w.ownsRow B e s v n xs){j:Nat}{es:Array MapEntry}{k:Nat}(hj:w.heap[j]?=some (.map es k)):v.ownBlock≠some j:=by
 intro hk
 rcases h.2 with⟨h',_⟩|⟨g,cap,cur,h',_,hgb,_⟩
 ·rw [h']at hk;cases hk
 ·rw [h']at hk;simp only [Value.ownBlock,AqO]at hk;subst hk;rw [hgb]at hj
  cases hj
theorem M5{i j:Nat}{cs:Array Value}{t:TypeId}{f:Nat×Nat}{es:Array MapEntry}{k:Nat}(hi:w.heap[i]?=some (.cells cs t f))(hj:w.heap[j]?=some (.map es k)):i≠j:=by
 rintro rfl;rw [hi]at hj
 cases hj
theorem Cs.named(ok:c.Ok)(h:Cs c E F nm An eds w){F':Value}{FR:List (Int×Int)}{Bp:List Bs}(hf:GW w' c.B c.bx c.bn c.bm c.bu c.U c.cu c.units c.P E F' FR Bp)(hb:Au (fun k=>k=c.bn∨k=c.bm∨F.ownBlock=some k) w w'):Cs c E F' FR Bp eds w':=by
 have o1:=ok.r;have o2:=ok.b1;have o3:=ok.bn;have o4:=ok.bm;refine⟨hf,h.rd.but hb ?_ ?_ ?_,CB h.own hb ?_,AqU h.size hb.size⟩
 ·rintro(e|e|e)
  ·omega
  ·omega
  ·have:=(h.fc.fac.lt _ e).1;omega
 ·rintro(e|e|e)
  ·omega
  ·omega
  ·have:=(h.fc.fac.lt _ e).1;omega
 ·rintro(e|e|e)
  ·exact ok.ni e
  ·exact M5 h.fc.cM h.rd.idx e.symm
  ·exact XZ h.fc.fac h.rd.idx e
 ·rintro k hk (e|e|e)
  ·subst e;exact XZ h.own h.fc.num hk
  ·subst e;exact Bu h.own h.fc.cM (by decide) hk
  ·rcases h.fc.fac.2 with⟨h',_⟩|⟨g,cap,cur,h',_,hgb,_⟩
   ·rw [h']at e;cases e
   ·rw [h']at e;simp only [Value.ownBlock,AqO]at e;subst e;exact Bu h.own hgb (by decide) hk
theorem Cs.app(ok:c.Ok)(h:Cs c E F nm An eds w){d:Az}{v':Value}(hg:w.grownBy w' E.ownBlock)(ho:w'.ownsRow c.B 126 4 v' (eds.length+1) (B7 (eds ++ [d]))) :
  w'.heap[c.bm]?=some (.cells #[c.P,E,F] 36)/\Cs c v' F nm An (eds ++ [d]) (w'.setCell ⟨c.bm,1,none⟩ v'):=by
 have o1:=ok.r;have o2:=ok.b1;have o4:=ok.bm;have hb:Au (fun k=>E.ownBlock=some k) w w':=(Au.refl (fun k=>E.ownBlock=some k) w).grown hg (fun k e=>.inl e);have n1:=Bu h.own h.fc.cM (by decide);have n2:=Bu h.own h.fc.cN (by decide);have n3:=Bu h.own h.fc.cU (by decide);have n4:=XZ h.own h.fc.num;have n5:=XZ h.own h.rd.idx;have hM:=(hb.block _ (AqI h.fc.cM) n1).trans h.fc.cM
 have f1:GW w' c.B c.bx c.bn c.bm c.bu c.U c.cu c.units c.P E F nm An:=by
  refine h.fc.far hb n2 n4 n1 n3 ?_ ?_
  ·intro k hk e
   rcases h.own.2 with⟨h',_⟩|⟨g,cap,cur,h',_,hgb,_⟩
   ·rw [h']at e;cases e
   ·rw [h']at e;simp only [Value.ownBlock,AqO]at e;subst e;exact Bu h.fc.fac hgb (by decide) hk
  ·intro x hx _ e;have:=h.fc.uB x hx;have:=(h.own.lt _ e).1;omega
 have r1:R9 c w':=h.rd.but hb (fun e=>by have:=(h.own.lt _ e).1;omega) (fun e=>by have:=(h.own.lt _ e).1;omega) n5;have hb2:Au (fun k=>k=c.bm) w' (w'.setCell ⟨c.bm,1,none⟩ v'):=(Au.refl (fun k=>k=c.bm) w').setCell (p:=⟨c.bm,1,none⟩) (.inl rfl) v';refine⟨hM,⟨⟨?_,?_,AcO _ hM,CB f1.fac hb2 ?_,?_,⟨fun h0=>?_⟩,h.fc.uB⟩,r1.but hb2 (by omega) (by omega) ?_,by rw [List.length_append];exact CB ho hb2 (fun k hk e=>by subst e;exact Bu ho hM (by decide) hk),AqU h.size (AqU hb.size hb2.size)⟩⟩
 ·exact(hb2.block _ (AqI f1.cN) (Eg f1.cN hM (by decide))).trans f1.cN
 ·exact(hb2.block _ (AqI f1.num) (fun e=>M5 hM f1.num e.symm)).trans f1.num
 ·intro k hk e;subst e;exact Bu f1.fac hM (by decide) hk
 ·exact(hb2.block _ (AqI f1.cU) (Eg f1.cU hM (by decide))).trans f1.cU
 ·obtain⟨b,o,e,hc⟩:=f1.uni.ad h0;refine⟨b,o,e,fun j hj=>?_⟩;have h1:=hc j hj;exact(World.cell?_of_block (a:=⟨b,o+j,none⟩) (hb2.block b (World.block_lt_of_cell? w' _ h1) (fun e'=>by have:=h.fc.uB _ e;simp only at this;omega))).trans h1
 ·exact fun e=>M5 hM r1.idx e.symm
structure KB(B:Nat)(W w:World):Prop where
 kp:∀(k:Nat) (cs:Array Value) (t:TypeId) (f:Nat×Nat),t≠36→t≠9→t≠126→W.heap[k]?=some (.cells cs t f)→w.heap[k]?=some (.cells cs t f)
 bl:Below B W w
theorem KB.refl(B:Nat)(W:World):KB B W W:=⟨fun _ _ _ _ _ _ _ h=>h,Below.refl _ _⟩
theorem KB.trans{B:Nat}{a b d:World}(h:KB B a b)(k:KB B b d):KB B a d:=⟨fun i cs t f h1 h2 h3 h4=>k.kp i cs t f h1 h2 h3 (h.kp i cs t f h1 h2 h3 h4),h.bl.trans k.bl⟩
theorem KB.ext{B:Nat}{a b:World}(hx:Aa a b)(hB:B<=a.heap.size):KB B a b:=⟨fun _ _ _ _ _ _ _ h=>(hx.block _ (AqI h)).trans h,Below.mono hx hB⟩
theorem KB.named(ok:c.Ok)(h:Cs c E F nm An eds w)(hb:Au (fun k=>k=c.bn∨k=c.bm∨F.ownBlock=some k) w w'):KB c.B w w':=by
 have o3:=ok.bn;have o4:=ok.bm;refine⟨fun k cs t f h1 h2 h3 h4=>(hb.block _ (AqI h4) ?_).trans h4,⟨hb.os,hb.tape,hb.output,hb.size,fun k hk=>hb.block k (AqT hk h.size) ?_⟩⟩
 ·rintro(e|e|e)
  ·exact M5 h4 h.fc.num e
  ·exact Eg h4 h.fc.cM h1 e
  ·exact Bu h.fc.fac h4 (fun e'=>h2 e'.symm) e
 ·rintro(e|e|e)
  ·omega
  ·omega
  ·have:=(h.fc.fac.lt _ e).1;omega
theorem KB.app(h:Cs c E F nm An eds w)(hg:w.grownBy w' E.ownBlock):KB c.B w w':=
 ⟨fun _ _ _ _ _ _ h3 h4=>(hg.block _ (AqI h4) (fun e=>Bu h.own h4 (fun e'=>h3 e'.symm) e.symm)).trans h4,(Below.refl c.B w).grown hg h.size (fun k e=>(h.own.lt k e).1)⟩
theorem KB.set(ok:c.Ok){P' E' F':Value}(hM:w.heap[c.bm]?=some (.cells #[P',E',F'] 36))(v:Value):KB c.B w (w.setCell ⟨c.bm,1,none⟩ v):=
 ⟨fun _ _ _ _ h1 _ _ h4=>(DX (Eg h4 hM h1)).trans h4,(Below.refl _ _).setCell (p:=⟨c.bm,1,none⟩) ok.bm v⟩
end
end
end Go.Proofs.YtjalkoacphhgdaaGreatDoor
