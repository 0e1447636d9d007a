/- W31. -/
import Derived.Laws.EntriesVeiled
import Derived.Test.YtnfedbopbcegjaaGreatDoorW28
import Derived.Deep.CutBlock
set_option maxRecDepth 100000
set_option maxHeartbeats 16000000
namespace Go.Proofs.YtnfedbopbcegjaaGreatDoor
open Go.RowKit Kl
open Go.ChangeMaps (setBlock)
theorem AdJ{W:World}{b:Nat}{L:List (Sg×Int)}(h:W.heap[b]?=some (.map (Az Ax (stamp L)).toArray L.length))(s:Sg)(hno:∀e∈L,AK s e.1=false)(z:Int) :
  ∃W',(Instr.mapUpdate 160 (.map (some b)) (Ax s) (.int .i64 z)).run Tryz.prog W=.ok () W'/\W'.heap[b]?=some (.map (Az Ax (stamp (L ++ [(s,z)]))).toArray (L ++ [(s,z)]).length)/\W.grownBy W' (some b)/\W'.heap.size=W.heap.size:=by
 refine⟨_,aL Zu s (stamp L) ?_ (.int .i64 z) h,?_,J9 h,by simp [setBlock]⟩
 ·intro e he;obtain⟨x,hx,h1⟩:=zO he;rw [h1];exact hno x hx
 ·rw [Kr h,zP];simp
theorem Ag5{s t:Sg}(h:s≠t):AK s t=false:=by
 rw [Bool.eq_false_iff];exact fun k=>h (Hg.1 k)
theorem Aa2{C:List (List Sg)}(Ca:C.flatten.Nodup){k:Nat}(hk:k<C.length){j:Nat}(hj:j<C[k].length):∀e∈CO (C.take k)++(C[k].take j).map (fun s=>(s,(k:Int))),AK C[k][j] e.1=false:=by
 intro e he;refine Ag5 fun hh=>?_;have h1:C=C.take k++C[k]::C.drop (k+1):=(by rw [←List.drop_eq_getElem_cons hk,List.take_append_drop]);have h2:C[k]=C[k].take j++C[k][j]::C[k].drop (j+1):=by rw [←List.drop_eq_getElem_cons hj,List.take_append_drop]
 have h3:C.flatten=(C.take k).flatten++(C[k]++(C.drop (k+1)).flatten):=by
  have:=congrArg List.flatten h1
  rwa [List.flatten_append,List.flatten_cons]at this
 rw [h3,List.nodup_append]at Ca;obtain⟨-,CW,AbL⟩:=Ca;rw [List.nodup_append]at CW;obtain⟨H9,-,-⟩:=CW
 rcases List.mem_append.1 he with he|he
 ·have:e.1∈(CO (C.take k)).map (·.1):=List.mem_map_of_mem he;rw [vZ]at this;exact AbL _ this _ (List.mem_append_left _ (AjO hj)) hh.symm
 ·rw [List.mem_map]at he;obtain⟨s,hs,rfl⟩:=he;rw [h2,List.nodup_append]at H9;exact H9.2.2 _ hs _ List.mem_cons_self hh.symm
theorem Aen(n:Nat)(hn:n<=200000)(c:Int)(hc:c=(n:Int))(W:World) :
  (Instr.makeSlice 51 (.int .i64 c) (.int .i64 c)).run Tryz.prog W=.ok (.slice (some ⟨W.heap.size,0,none⟩) n n) (W.alloc (.cells (madeCells #[.int .i64 0] n) 3)):=Z6 n hn c hc W
def Iv(W:List Sg)(C:List (List Sg))(k:Nat):List Value:=(List.range C.length).map (fun j=>Value.int .i64 (if j<k then Ci W C (W.length+1) j else 0))
theorem Aga(W:List Sg)(C:List (List Sg)):Iv W C 0=zs (zn (List.replicate C.length 0)):=by
 unfold Iv zs zn;apply List.ext_getElem
 ·simp
 ·intro i h1 h2;simp
theorem AfY(W:List Sg)(C:List (List Sg)):Iv W C C.length=(LR W C).map (Value.int .i64):=by
 unfold Iv LR;apply List.ext_getElem
 ·simp
 ·intro i h1 h2;have:i<C.length:=(by simpa using h1);simp [this]
theorem AfZ(W:List Sg)(C:List (List Sg)){k:Nat}(_:k<C.length):(Iv W C k).set k (.int .i64 (Ci W C (W.length+1) k))=Iv W C (k+1):=by
 unfold Iv;apply List.ext_getElem
 ·simp
 ·intro i h1 h2;by_cases h:k=i
  ·subst h;simp
  ·rw [List.getElem_set_ne h];have:(i<k+1)↔i<k:=(by omega);simp [this]
theorem tq(w:World)(o1 o2 o3 o4:Obj):∃W,W=(((w.alloc o1).alloc o2).alloc o3).alloc o4/\Aa w W/\W.heap.size=w.heap.size+4/\W.heap[w.heap.size]?=some o1/\W.heap[w.heap.size+1]?=some o2/\W.heap[w.heap.size+1+1]?=some o3/\W.heap[w.heap.size+1+1+1]?=some o4:=by
 obtain⟨V,hV,hE,h1,h2,h3⟩:=IA w o1 o2 o3;have hs:V.heap.size=w.heap.size+1+1+1:=(by rw [hV];simp);have DK:=(Aa.refl V).alloc o4;refine⟨_,by rw [←hV],hE.alloc o4,by simp [hs],(DK.block _ (AjL h1)).trans h1,(DK.block _ (AjL h2)).trans h2,(DK.block _ (AjL h3)).trans h3,?_⟩;rw [←hs];exact AjM V o4
def Me(W:World)(b:Nat)(l:List (Sg×Int)):Prop:=W.heap[b]?=some (.map (Az Ax (stamp l)).toArray l.length)
theorem Me.ext{W W':World}{b:Nat}{l:List (Sg×Int)}(h:Me W b l)(hx:Aa W W'):Me W' b l:=(hx.block b (AjL h)).trans h
theorem Agd{B:Nat}{w:World}(hw:Ak w){r b1 b2:Nat}{L:List (Sg×Int)}{E:List (Pt×Value×Nat)}{R0:List (Pt×List Pt)}(h:Bn B w r b1 b2 L E R0){W U:List Sg}{C:List (List Sg)}(hW:W=L.map (·.1))(hG:OY W U C){A:Option Addr}{cap:Nat}(hC:K1 w A cap C) :
  Calls Tryz.prog 152 #[.pointer (some ⟨r,0,none⟩),.slice A C.length cap] w fun e w'=>∃A',e=.returned (.slice A' C.length C.length)/\Ad w' A' ((LR W C).map (Value.int .i64))/\Aa w w':=by
 have hmm:=@run_makeMap Tryz.prog;have Ai1:=hC.cap1;have Ai2:=hC.cap2;go_enter Tryz.func152,Tryz.ntmps152
 go_upto_region 2 with fail
 obtain⟨W1,hW1,BA,hs1,hb1,hb2,hb3,hb4⟩:=tq w (.cells #[.pointer (some ⟨r,0,none⟩)] 139) (.cells #[.slice A C.length cap] 234) (.map #[] 0) (.cells #[.map (some (w.heap.size+1+1))] 160);rw [←hW1];clear hW1;obtain⟨bn,BP⟩:=AjJ w.heap.size;rw [←BP]at hb1 hb2 hb3 hb4 ⊢;have hle:w.heap.size<=bn:=(by omega);have hM0:Me W1 (bn+1+1) (CO (C.take 0)):=by rw [List.take_zero];exact hb3
 have hCl:C.length<=100000:=by have h1:=U8 hG.ok.ne;rw [hG.ok.flat]at h1;have h2:=Je hG.ok.nd hG.ok.sub;have:=hG.len;omega
 have hl0:(0:Int)<=(C.length:Int):=(by omega);have Ca:C.flatten.Nodup:=(by rw [hG.ok.flat];exact hG.ok.nd);have V5:=AjK Ca;have m2:=Ab (o:=0) hb2 rfl;clear BP hb3 Ca
 go_upto_region 3 with fail
 go_loopw [16] (fun i wr=>∃k:Nat,i=.int .i64 (k:Nat)/\k<=C.length/\Me wr (bn+1+1) (CO (C.take k))/\Al (fun j=>j=bn+1+1) W1 wr) (fun i _=>C.length-(intOf i).toNat)
 case atStart=>exact⟨0,rfl,by omega,hM0,Al.refl _ _⟩
 case round=>
  obtain⟨k,rfl,hk,hM,hB⟩:=hrel;have BV:Aa w wr:=hB.toExt BA (fun j e=>by subst e;omega);by_cases hlt:k<C.length
  ·obtain⟨bA,oA,A',c',rfl,hcell,C5,hc1,hc2⟩:=hC.row k hlt;replace hcell:=BV.cellS hcell;have hk0:(0:Int)<=(k:Int):=(by omega);have El:(k:Int)<(C.length:Int):=(by omega);obtain⟨c,hcc⟩:=AjJ (C[k]);have hfr:=fun j (hj:j<C[k].length)=>Aa2 V5.out hlt hj;rw [←hcc]at hcell C5 hc1 hfr
   have kX:CO (C.take (k+1))=CO (C.take k)++c.map (fun s=>(s,(k:Int))):=by rw [AjQ hlt,wF,←hcc,List.length_take,Nat.min_eq_left (by omega)]
   have jh:=AjK kX;have Vt:=AjK hfr;have Bi:Me wr (bn+1+1) (CO (C.take k)++(c.take 0).map (fun s=>(s,(k:Int)))):=(by rw [List.take_zero,List.map_nil,List.append_nil];exact hM);have hcl:(0:Int)<=(c.length:Int):=(by omega);clear hcc kX hfr hM
   go_upto_region 6 with fail
   go_loopw [23] (fun i wi=>∃j:Nat,i=.int .i64 (j:Nat)/\j<=c.length/\Me wi (bn+1+1) (CO (C.take k)++(c.take j).map (fun s=>(s,(k:Int))))/\Al (fun j=>j=bn+1+1) W1 wi) (fun i _=>c.length-(intOf i).toNat)
   case atStart=>exact⟨0,rfl,by omega,Bi,hB⟩
   case round=>
    obtain⟨j,rfl,hj,Tm,PQ⟩:=hrel;have hXj:Aa w wr:=PQ.toExt BA (fun j e=>by subst e;omega);by_cases Ay:j<c.length
    ·obtain⟨b',o',rfl,f1,f2,f3,f4⟩:=MZ (C5.ext hXj) Ay;have hno:=Vt.out j Ay
     have Ja:CO (C.take k)++(c.take (j+1)).map (fun s=>(s,(k:Int)))=(CO (C.take k)++(c.take j).map (fun s=>(s,(k:Int)))) ++ [(c[j],(k:Int))]:=by rw [AjQ Ay,List.map_append,←List.append_assoc];rfl
     obtain⟨s,hs⟩:=AjJ (c[j]);rw [←hs]at f1 f2 f3 f4 hno Ja;have hj0:(0:Int)<=(j:Int):=(by omega);have FI:(j:Int)<(c.length:Int):=(by omega);have As:=AjM wr (.cells #[S (R s.a.x),S (R s.a.y),S (R s.b.x),S (R s.b.y)] 176);have E4:=(Aa.refl wr).alloc (.cells #[S (R s.a.x),S (R s.a.y),S (R s.b.x),S (R s.b.y)] 176);have h4:=(E4.block _ (AjL (PQ.cells hb4 (by omega)))).trans (PQ.cells hb4 (by omega));obtain⟨Wp,hput,NG,Yj,-⟩:=AdJ (Tm.ext E4) s hno (k:Int);rw [←Ja]at NG;have hBp:=(PQ.ext E4).grown Yj (fun q e=>by cases e;exact .inl rfl);have ji:=AjK NG;clear hno Ja hs Tm Yj NG
     go_upto_region 8 with fail
     unfold S at As h4 hput;unfold Ax S at hput;have z0:=Ab (o:=0) As rfl;have z1:=Ab (o:=1) As rfl;have z2:=Ab (o:=2) As rfl;have z3:=Ab (o:=3) As rfl;have z4:=Ab (o:=0) h4 rfl;generalize (wr.alloc (.cells #[.string ⟨(R s.a.x).toArray⟩,.string ⟨(R s.a.y).toArray⟩,.string ⟨(R s.b.x).toArray⟩,.string ⟨(R s.b.y).toArray⟩] 176))=W4 at *;clear f1 f2 f3 f4 As h4;go_wp2;go_roundw
     case rel=>exact⟨j+1,by go_num,Ay,ji.out,hBp⟩
     case measure=>simp [intOf];omega
    ·have Ek:j=c.length:=(by omega);subst Ek;have Uh:(c.length:Int)<=(c.length:Int):=(by omega);rw [List.take_length,←jh.out]at Tm;go_wp2;go_roundw
     case rel=>exact⟨k+1,by go_num,hlt,Tm,PQ⟩
     case measure=>simp [intOf];omega
  ·have C3:k=C.length:=(by omega);subst C3;rw [List.take_length]at hM;have hmk:=Aen C.length (by omega) (C.length:Int) rfl wr;have Om:∀(fn:Fn) (first cap:Array Value) (w:World),(Instr.makeFunc fn first cap).run Tryz.prog w=.ok (.func fn first cap) w:=fun _ _ _ _=>rfl;have TK:=hB.cells hb2 (by omega);have m2':=Ab (o:=0) TK rfl;have own:=ZU wr w.heap.size C.length (AjX BA.size hB.size) (by omega);have hx0:(w.heap.size:Nat)<=wr.heap.size:=AjX BA.size hB.size;have Gi:=(Aa.refl wr).alloc (.cells (madeCells #[.int .i64 0] C.length) 3);obtain⟨fv,TX⟩:=AjJ (Value.func (.func 211) #[] #[.pointer (some ⟨bn+1,0,none⟩),.pointer (some ⟨bn,0,none⟩),.pointer (some ⟨wr.heap.size+1,0,none⟩),.pointer (some ⟨bn+1+1+1,0,none⟩)]);have WR:=(Aa.refl (wr.alloc (.cells (madeCells #[.int .i64 0] C.length) 3))).alloc (.cells #[fv] 207);have Gk:=AjM (wr.alloc (.cells (madeCells #[.int .i64 0] C.length) 3)) (.cells #[fv] 207);rw [AjU]at Gk;have Le:=Gi.trans WR;have Bu:=BV.trans Le;have ZT:=Am own WR;have Dw:=hM.ext Le;have n1:=(Le.block _ (AjL (hB.cells hb1 (by omega)))).trans (hB.cells hb1 (by omega));have n2:=(Le.block _ (AjL TK)).trans TK;have n4:=(Le.block _ (AjL (hB.cells hb4 (by omega)))).trans (hB.cells hb4 (by omega));have hlm:bn+1+1+1<wr.heap.size:=AjL (hB.cells hb4 (by omega));have AcJ:wr.heap.size+1<((wr.alloc (.cells (madeCells #[.int .i64 0] C.length) 3)).alloc (.cells #[fv] 207)).heap.size:=by simp
   go_upto_region 14 with fail
   rw [←TX];clear hmk Om m2' own hM Gi WR Le TK;generalize (wr.alloc (.cells (madeCells #[.int .i64 0] C.length) 3)).alloc (.cells #[fv] 207)=V2 at *;obtain⟨bo,IS⟩:=AjJ wr.heap.size;rw [←IS]at ZT TX Gk hlm AcJ ⊢;have AcS:w.heap.size<=bo:=(by omega);clear IS;have AeZ:V2.ownsRow w.heap.size 3 1 (.slice (some ⟨bo,0,none⟩) C.length C.length) C.length (Iv W C 0):=(by rw [Aga];exact ZT);have m2:=Ab (o:=0) n2 rfl
   have Qy:∀i (hi:i<C.length),leftOf W (Ci.aOf C[i]).x<W.length+1:=fun i hi=>by have:leftOf W (Ci.aOf C[i]).x<=W.length:=List.countP_le_length;omega
   have ip:=AjK TX;clear ZT TX
   go_upto_region 15 with fail
   clear m2
   go_loopw [38] (fun i w3=>∃k:Nat,i=.int .i64 (k:Nat)/\k<=C.length/\w3.ownsRow w.heap.size 3 1 (.slice (some ⟨bo,0,none⟩) C.length C.length) C.length (Iv W C k)/\Al (fun j=>j=bo) V2 w3) (fun i _=>C.length-(intOf i).toNat)
   case atStart=>exact⟨0,rfl,by omega,AeZ,Al.refl _ _⟩
   case round=>
    obtain⟨k,rfl,hk3,FN,Cq⟩:=hrel;have Bd:Aa w wr:=Cq.toExt Bu (fun j e=>by subst e;exact AcS);by_cases hlt:k<C.length
    ·have hR:Pw B wr r b1 b2 L E R0 (bn+1) bn (bo+1) (bn+1+1+1) (bn+1+1) A cap C:=⟨h.ext Bd,hC.ext Bd,Ab (Cq.cells n2 (by omega)) rfl,Ab (Cq.cells n1 (by omega)) rfl,by rw [←ip.out];exact Ab (Cq.cells Gk (by omega)) rfl,Ab (Cq.cells n4 (by omega)) rfl,Cq.cells Dw (by omega)⟩;have fc:=Aay hW hG (W.length+1) k hlt (Qy k hlt) wr (hw.ext Bd) hR;have XS:wr.cell? ⟨bo+1,0,none⟩=some (.func (.func 211) #[] #[.pointer (some ⟨bn+1,0,none⟩),.pointer (some ⟨bn,0,none⟩),.pointer (some ⟨bo+1,0,none⟩),.pointer (some ⟨bn+1+1+1,0,none⟩)]):=hR.cf;obtain⟨z,hz⟩:=AjJ (Ci W C (W.length+1) k);rw [←hz]at fc;have hk0:(0:Int)<=(k:Int):=(by omega);have El:(k:Int)<(C.length:Int):=(by omega);have HZ:=AjK hz;clear hz hR;have DR:(Iv W C k)[k]?=some (.int .i64 0):=(by unfold Iv;simp [hlt]);have AZ:=AfZ W C hlt;rw [←HZ.out]at AZ;have HS:=AjK AZ;clear AZ;(go_wp2_with fail);(with_reducible refine fc.mono ?_);rintro e w4 ⟨rfl,Aj⟩;have Lz:=Am FN Aj;have hce:=(Lz.cellAt k (by omega)).trans DR;have Qo:=Lz.frozenAt k;have hst:=(Lz.stored k (.int .i64 z)).1;have hg4:=(Lz.stored k (.int .i64 z)).2;have Dv:=(Cq.ext Aj).grown hg4 (fun q e=>by cases e;exact .inl rfl);rw [HS.out]at hst;clear hg4 Cq FN Lz fc XS;go_wp2;go_roundw
     case rel=>exact⟨k+1,by go_num,hlt,hst,Dv⟩
     case measure=>simp [intOf];omega
    ·have C3:k=C.length:=(by omega);subst C3;rw [AfY]at FN;obtain⟨A2,cap2,Fi,Uw,-,-⟩:=Ad.of_own' (by omega) FN;simp only [Value.slice.injEq,true_and]at Fi;obtain⟨rfl,-⟩:=Fi;go_wp2;go_ret;exact⟨_,rfl,Uw,Bd⟩
theorem Tryz.infoBo:(Tryz.prog.info? 4).map (fun i=>(i.zero,i.size,i.bytes))=some (some (.bool false),1,1):=by kernel_rfl
theorem Aem(n:Nat)(hn:n<=200000)(c:Int)(hc:c=(n:Int))(W:World) :
  (Instr.makeSlice 237 (.int .i64 c) (.int .i64 c)).run Tryz.prog W=.ok (.slice (some ⟨W.heap.size,0,none⟩) n n) (W.alloc (.cells (madeCells #[.bool false] n) 4)):=by
 subst hc;obtain⟨i0,hi,hz0,hz1,hz2⟩:=info_parts Tryz.infoBo;have h:=run_make (P:=Tryz.prog) W 237 4 i0 (.bool false) Tryz.underlying237 hi hz0 .i64 .i64 n n (by omega) (by omega) (by rw [hz2];omega) (by omega);rw [hz1,Nat.mul_one]at h;simp only [Int.toNat_natCast]at h;exact h
theorem Afa(W:World)(base n:Nat)(hb:base<=W.heap.size)(hn:n<=200000) :
  (W.alloc (.cells (madeCells #[.bool false] n) 4)).ownsRow base 4 1 (.slice (some ⟨W.heap.size,0,none⟩) n n) n (Ge (List.replicate n false)):=by
 have h:=World.ownsRow_lit (w:=W) (base:=base) (e:=4) (size:=1) (madeCells #[.bool false] n) n hb (by unfold maxLen;omega) (by rw [size_madeCells];omega);rw [toList_madeCells_one]at h
 simpa [Ge]using h
theorem r6(l:List Bool)(k:Nat)(b:Bool):(Ge l).set k (.bool b)=Ge (l.set k b):=by simp [Ge]
theorem AfV{w:World}{A:Option Addr}{l:List Int}(hr:Ad w A (l.map (Value.int .i64))){j:Nat}(h:j<l.length):∃b o,A=some ⟨b,o,none⟩/\w.cell? ⟨b,o+j,none⟩=some (.int .i64 l[j]):=by
 obtain⟨b,o,e,hc⟩:=hr.ad (by simp;omega);refine⟨b,o,e,?_⟩;rw [hc j (by simpa using h)];simp
theorem Z1{s:Sg}{L:List (Sg×Int)}(h:s∈L.map (·.1)):∃e∈L,AI s L=e.2:=by
 unfold AI;rw [List.mem_map]at h;obtain⟨x,hx,rfl⟩:=h
 cases hf:L.find? (fun e=>AK x.1 e.1)with
 | none=>
  rw [List.find?_eq_none]at hf;exact absurd (Hg.2 rfl) (hf x hx)
 | some e=>exact⟨e,List.mem_of_find?_eq_some hf,rfl⟩
structure EU(V wr:World)(B bm bs nf:Nat)(st:D9):Prop where
 face:EW wr bm st.face
 seen:wr.ownsRow B 4 1 (.slice (some ⟨bs,0,none⟩) nf nf) nf (Ge st.seen)
 but:Al (fun j=>j=bm∨j=bs) V wr
theorem EU.ext{V wr w':World}{B bm bs nf:Nat}{st:D9}(h:EU V wr B bm bs nf st)(hx:Aa wr w'):EU V w' B bm bs nf st:=
 ⟨(hx.block _ (AjL h.face)).trans h.face,Am h.seen hx,h.but.ext hx⟩
theorem EU.put{V wr:World}{B bm bs nf:Nat}{st:D9}(h:EU V wr B bm bs nf st)(hne:bm≠bs)(r z:Int)(hno:C7 r st.face=none) :
  ∃W',(Instr.mapUpdate 206 (.map (some bm)) (.int .i64 r) (.int .i64 z)).run Tryz.prog wr=.ok () W'/\EU V W' B bm bs nf {st with face:=st.face ++ [(r,z)]}:=by
 obtain⟨W',h1,h2,h3,-⟩:=h.face.put r z hno;refine⟨W',h1,h2,vT h.seen h3 (by simp only [Value.ownBlock,ne_eq,AjR];exact fun e=>hne e.symm),h.but.grown h3 (fun k e=>by cases e;exact .inl (.inl rfl))⟩
theorem EU.set{V wr:World}{B bm bs nf:Nat}{st:D9}(h:EU V wr B bm bs nf st)(hne:bm≠bs)(k:Nat) :
  EU V (wr.setCell ⟨bs,k,none⟩ (.bool true)) B bm bs nf {st with seen:=st.seen.set k true}:=by
 have h1:=h.seen.stored k (.bool true);rw [r6]at h1;refine⟨?_,h1.1,h.but.grown h1.2 (fun q e=>by cases e;exact .inl (.inr rfl))⟩;exact(h1.2.block bm (AjL h.face) (by simp only [ne_eq,AjR];exact hne)).trans h.face
theorem o6{w0 w:World}(hw:Ak w0)(hx:Aa w0 w){r b1 b2:Nat}{L:List (Sg×Int)}{E:List (Pt×Value×Nat)}{R0:List (Pt×List Pt)}(h:Bn w0.heap.size w r b1 b2 L E R0){W:List Sg}(JK:W=L.map (·.1))(hN:Er W R0)(hW:P2 W)(hgr:∀s∈W,Gb s)
  (hlen:L.length<=100000) (hrl:∀e∈R0,e.2.length<100000) (nf:Nat) (Cb:nf<=100000) (MF:∀x∈L,-1<=x.2/\x.2<(nf:Int)) {R1:List (Pt×List Pt)} (hR1:R1=R0.map (fun e=>(e.1,Ec e.1 e.2))) {C:List (List Sg)} (hC:C=IF W R1) {rg:List Int} (hrg:rg=LR W C) :
  Calls Tryz.prog 86 #[.pointer (some ⟨r,0,none⟩),.int .i64 (nf:Nat)] w fun e w'=>e=.returned (.tuple #[.bool (KN L nf C rg),.bool (Mi L nf C rg).op])/\Aa w0 w'/\Bn w0.heap.size w' r b1 b2 L E R1:=by
 have hmm:=@run_makeMap Tryz.prog;have so:=sort_c hw hx h (Agn hW hN hrl);rw [←hR1]at so;have JF:Er W R1:=by rw [hR1];exact hN.sorted
 have rK:∀e∈R1,e.2.length<100000:=by intro e he;rw [hR1,List.mem_map]at he;obtain⟨x,hx,rfl⟩:=he;have:=hrl x hx;rw [show (Ec x.1 x.2).length=x.2.length from(Vb x.1 x.2).length_eq];exact this
 obtain⟨U,Ai,hall⟩:=xt JF;have hG:OY W U C:=⟨by rw [hC];exact Ai,hall,hW.x.good,hgr,by rw [JK];simpa using hlen⟩
 have hCl:C.length<=100000:=by have h1:=U8 hG.ok.ne;rw [hG.ok.flat]at h1;have h2:=Je hG.ok.nd hG.ok.sub;have:=hG.len;omega
 have rL:rg.length=C.length:=(by rw [hrg];simp [LR]);have cy:=fun (w1:World) (h1:Aa w0 w1) (k:Bn w0.heap.size w1 r b1 b2 L E R1)=>xw hw h1 k (by rw [←JK];exact JF) (by rw [←JK];exact hW) hlen rK;rw [←JK,←hC]at cy;have rc:=fun (w1:World) (hw1:Ak w1) (k:Bn w0.heap.size w1 r b1 b2 L E R1) (A:Option Addr) (cap:Nat) (hA:K1 w1 A cap C)=>Agd hw1 k JK hG hA;rw [←hrg]at rc
 have hcw:∀i (hi:i<C.length),∀s∈C[i],-1<=AI s L/\AI s L<(nf:Int):=by intro i hi s hs;have h1:s∈W:=hG.ok.sub s (by rw [←hG.ok.flat];exact List.mem_flatten.2 ⟨_,AjO hi,hs⟩);rw [JK]at h1;obtain⟨e,he,h2⟩:=Z1 h1;rw [h2];exact MF e he
 have RG:=AjK hcw;clear hcw MF hR1 hrl rK Ai hall hC hrg hN hW hgr JK hx h JF hG;have HA:=AjK (show KN L nf C rg=((Gd L (C.zip rg) (G9 nf)).ok && !((Gd L (C.zip rg) (G9 nf)).seen.contains false))from rfl);have HO:=AjK (show (Mi L nf C rg).op=(Gd L (C.zip rg) (G9 nf)).op from rfl);generalize KN L nf C rg=vA at *;generalize (Mi L nf C rg).op=vO at *;go_enter Tryz.func86,Tryz.ntmps86;(go_wp2_with fail);(with_reducible refine so.mono ?_);rintro e w1 ⟨rfl,hx1,-,MH⟩;(go_wp2_with fail);(with_reducible refine(cy _ hx1 MH).mono ?_);rintro e w2 ⟨A,cap,rfl,Hy,hx2⟩;have CW:=MH.ext hx2;have Ze:=hx1.trans hx2;(go_wp2_with fail);(with_reducible refine(rc _ (hw.ext Ze) CW A cap Hy).mono ?_);rintro e w3 ⟨A',rfl,C5,hx3⟩;have H9:=CW.ext hx3;have nY:=Hy.ext hx3;have sU:=Ze.trans hx3;clear so cy rc MH CW hx1 hx2 hx3 Hy Ze;have BW:=(Aa.refl w3).alloc (.map #[] 0);have PR:EW (w3.alloc (.map #[] 0)) w3.heap.size []:=AjM w3 (.map #[] 0);obtain⟨W4,hput,Dg,hg4,Uy⟩:=PR.put (-1) (-1) rfl;have hmk:=Aem nf (by omega) (nf:Int) rfl W4;have BB:Al (fun j=>j=w3.heap.size) w3 W4:=((Al.refl _ w3).ext BW).grown hg4 (fun k e=>by cases e;exact .inl rfl);have DK:Aa w3 W4:=BB.toExt (Aa.refl w3) (fun k e=>by subst e;exact AjN _);have Cr:=(Aa.refl W4).alloc (.cells (madeCells #[.bool false] nf) 4);have own:=Afa W4 w0.heap.size nf (AjX sU.size DK.size) (by omega);have kP:EW (W4.alloc (.cells (madeCells #[.bool false] nf) 4)) w3.heap.size [(-1,-1)]:=(Cr.block _ (AjL Dg)).trans Dg;have rM:W4.heap.size=w3.heap.size+1:=(by rw [Uy];simp);rw [rM]at own;have kK:=DK.trans Cr;have Mq:EU (W4.alloc (.cells (madeCells #[.bool false] nf) 4)) (W4.alloc (.cells (madeCells #[.bool false] nf) 4)) w0.heap.size w3.heap.size (w3.heap.size+1) nf (G9 nf):=⟨kP,own,Al.refl _ _⟩
 go_upto_region 6 with fail
 clear hmk own kP Dg hg4 hput PR BW BB Cr DK Uy rM hmm;generalize W4.alloc (.cells (madeCells #[.bool false] nf) 4)=V at *;obtain⟨bm,AX⟩:=AjJ w3.heap.size;rw [←AX]at Mq ⊢;have nD:w3.heap.size<=bm:=(by omega);clear AX W4;have hl0:(0:Int)<=(C.length:Int):=(by omega);have hne:bm≠bm+1:=(by omega);have Mc:=AjK rL;have G1:=AjK H9;have K3:=AjK nY;have kf:=AjK C5;clear rL H9 nY C5
 go_upto_region 8 with fail
 go_loopw [4,5,30] (fun o p i wr=>∃(k:Nat) (st:D9),i=.int .i64 (k:Nat)/\k<=C.length/\o=.bool st.ok/\p=.bool st.op/\st=Gd L ((C.zip rg).take k) (G9 nf)/\EU V wr w0.heap.size bm (bm+1) nf st) (fun _ _ i _=>C.length-(intOf i).toNat)
 case atStart=>exact⟨0,G9 nf,rfl,by omega,rfl,rfl,rfl,Mq⟩
 case round=>
  obtain⟨k,st,rfl,hk,rfl,rfl,hst,hA⟩:=hrel;have BV:Aa w3 wr:=hA.but.toExt kK (fun q e=>by rcases e with e|e<;>omega);have HST:=AjK hst;clear hst;by_cases hlt:k<C.length
  ·obtain⟨bA,oA,A2,c2,rfl,hcell,Uw,hc1,hc2⟩:=K3.out.row k hlt;replace hcell:=BV.cellS hcell;obtain⟨bB,oB,rfl,hrc⟩:=AfV (kf.out.ext BV) (show k<rg.length by rw [Mc.out];exact hlt);obtain⟨rr,FQ⟩:∃rr,rr=rg[k]'(by rw [Mc.out];exact hlt):=⟨_,rfl⟩;rw [←FQ]at hrc;have hk0:(0:Int)<=(k:Int):=(by omega);have El:(k:Int)<(C.length:Int):=(by omega);obtain⟨c,hcc⟩:=AjJ (C[k]);have hz:=RG.out k hlt
   have hstep:Gd L ((C.zip rg).take (k+1)) (G9 nf)=G8 L rr st c:=by rw [AjQ (show k<(C.zip rg).length by rw [List.length_zip,Mc.out];omega),ox,←HST.out,List.getElem_zip,←FQ,←hcc]
   rw [←hcc]at hcell Uw hc1 hz;have RR:=AjK hstep;have HZ:=AjK hz;have hcl:(0:Int)<=(c.length:Int):=(by omega);have hc0:G8 L rr st (c.take 0)=st:=rfl;have gw:=AjK hc0;have D4:st.seen.length=nf:=(by rw [HST.out,eU];simp [G9]);have Jv:=AjK D4;clear hcc FQ hstep hz hc0 D4
   go_upto_region 11 with fail
   go_loopw [4,5,40] (fun o p i wi=>∃(j:Nat) (sj:D9),i=.int .i64 (j:Nat)/\j<=c.length/\o=.bool sj.ok/\p=.bool sj.op/\sj=G8 L rr st (c.take j)/\EU V wi w0.heap.size bm (bm+1) nf sj) (fun _ _ i _=>c.length-(intOf i).toNat)
   case atStart=>exact⟨0,st,rfl,by omega,rfl,rfl,gw.out.symm,hA⟩
   case round=>
    obtain⟨j,sj,rfl,hj,rfl,rfl,hsj,Tc⟩:=hrel;have VB:=AjK hsj;clear hsj;by_cases Ay:j<c.length
    ·have T0:Aa w3 wr:=Tc.but.toExt kK (fun q e=>by rcases e with e|e<;>omega);obtain⟨b',o',rfl,f1,f2,f3,f4⟩:=MZ (Uw.ext T0) Ay;have hzs:=HZ.out c[j] (AjO Ay);have T8:G8 L rr st (c.take (j+1))=Db rr (AI c[j] L) sj:=(by rw [AjQ Ay,ow,←VB.out]);have D4:sj.seen.length=nf:=(by rw [VB.out,eT];exact Jv.out);obtain⟨s,hs⟩:=AjJ (c[j]);rw [←hs]at f1 f2 f3 f4 hzs T8;have hj0:(0:Int)<=(j:Int):=(by omega);have FI:(j:Int)<(c.length:Int):=(by omega);have As:=AjM wr (.cells #[S (R s.a.x),S (R s.a.y),S (R s.b.x),S (R s.b.y)] 176);have E6:=(Aa.refl wr).alloc (.cells #[S (R s.a.x),S (R s.a.y),S (R s.b.x),S (R s.b.y)] 176);have NC:=Tc.ext E6;have Ly:=G1.out.ext (T0.trans E6);clear hs Tc hA BV
     go_upto_region 13 with fail
     unfold S at As NC Ly;generalize (wr.alloc (.cells #[.string ⟨(R s.a.x).toArray⟩,.string ⟨(R s.a.y).toArray⟩,.string ⟨(R s.b.x).toArray⟩,.string ⟨(R s.b.y).toArray⟩] 176))=W6 at *;obtain⟨bx,Qg⟩:=AjJ wr.heap.size;rw [←Qg]at As ⊢;clear Qg f1 f2 f3 f4 E6;have q1:∀q:Ac W6,q.w.cell? ⟨r,0,none⟩=some (.map (some b1)):=Ac.cell (Ab Ly.cell rfl);have q2:∀q:Ac W6,q.w.cell? ⟨bx,0,none⟩=some (S (R s.a.x)):=Ac.cell (Ab As rfl);have q3:∀q:Ac W6,q.w.cell? ⟨bx,1,none⟩=some (S (R s.a.y)):=Ac.cell (Ab As rfl);have q4:∀q:Ac W6,q.w.cell? ⟨bx,2,none⟩=some (S (R s.b.x)):=Ac.cell (Ab As rfl);have q5:∀q:Ac W6,q.w.cell? ⟨bx,3,none⟩=some (S (R s.b.y)):=Ac.cell (Ab As rfl);have q6:=fun (q:Ac W6)=>Rq s L (Ly.ext q.h).left;obtain⟨z,hz⟩:=AjJ (AI s L);rw [←hz]at q6 hzs T8;unfold Ax at q6;have HN:=AjK T8;clear hz T8 As Ly;refine Bh (by kernel_rfl) (by kernel_rfl) ?_
     repeat (go_big_quiet_step (fail))
     refine wpQuiet_nil ?_;rintro W7 ⟨q,hq⟩;have AQ:Aa W6 W7:=hq▸q.h;clear hq q;have EO:=NC.ext AQ;have lk:=aJ rr sj.face EO.face;clear q1 q2 q3 q4 q5 q6 NC AQ
     cases hl:C7 rr sj.face with
     | some old=>
      rw [hl]at lk;simp only [Option.getD_some,Option.isSome_some]at lk;have he:Db rr z sj=⟨sj.ok&&decide (old=z),sj.op,sj.face,sj.seen⟩:=(by unfold Db;rw [hl]);have Ei:EU V W7 w0.heap.size bm (bm+1) nf (Db rr z sj):=(by rw [he];exact⟨EO.face,EO.seen,EO.but⟩);have HE:=AjK he;clear he EO
      cases Ai:sj.ok
      ·have Eg:=AjK Ai;go_wp2;go_roundw
       case rel=>exact⟨j+1,Db rr z sj,by go_num,Ay,by rw [HE.out,Eg.out];rfl,by rw [HE.out],HN.out.symm,Ei⟩
       case measure=>simp [intOf];omega
      ·have Eg:=AjK Ai;by_cases Us:old=z
       ·have HD:=AjK (decide_eq_true Us);subst Us;go_wp2;go_roundw
        case rel=>exact⟨j+1,Db rr old sj,by go_num,Ay,by rw [HE.out,Eg.out,HD.out];rfl,by rw [HE.out],HN.out.symm,Ei⟩
        case measure=>simp [intOf];omega
       ·have HD:=AjK (decide_eq_false Us);have hb:(old == z)=false:=beq_false_of_ne Us;go_wp2;go_roundw
        case rel=>exact⟨j+1,Db rr z sj,by go_num,Ay,by rw [HE.out,Eg.out,HD.out];rfl,by rw [HE.out],HN.out.symm,Ei⟩
        case measure=>simp [intOf];omega
     | none=>
      rw [hl]at lk;simp only [Option.getD_none,Option.isSome_none]at lk;by_cases hz0:z<0
      ·have he:Db rr z sj=⟨false,true,sj.face ++ [(rr,z)],sj.seen⟩:=(by unfold Db;rw [hl];simp only;rw [if_pos hz0]);obtain⟨W8,hput,Ei⟩:=EO.put hne rr z hl;have PP:EU V W8 w0.heap.size bm (bm+1) nf (Db rr z sj):=(by rw [he];exact⟨Ei.face,Ei.seen,Ei.but⟩);have HE:=AjK he;clear he EO Ei;go_wp2;go_roundw
       case rel=>exact⟨j+1,Db rr z sj,by go_num,Ay,by rw [HE.out],by rw [HE.out],HN.out.symm,PP⟩
       case measure=>simp [intOf];omega
      ·obtain⟨m,rfl⟩:∃m:Nat,z=(m:Int):=⟨z.toNat,by omega⟩;have hm:m<nf:=(by omega);obtain⟨sv,YW⟩:=AjJ (sj.seen.getD m false)
       have he:Db rr (m:Int) sj=⟨sj.ok && !sv,sj.op,sj.face ++ [(rr,(m:Int))],sj.seen.set m true⟩:=by unfold Db;rw [hl];simp only;rw [if_neg hz0,YW];rfl
       have hce:W7.cell? ⟨bm+1,m,none⟩=some (.bool sv):=by
        rw [EO.seen.cellAt m (by omega),YW];unfold Ge;rw [List.getElem?_map,List.getD_eq_getElem?_getD,AjS (by omega)]
        rfl
       have Qo:=EO.seen.frozenAt m;obtain⟨W8,hput,Ei⟩:=(EO.set hne m).put hne rr (m:Int) hl;have PP:EU V W8 w0.heap.size bm (bm+1) nf (Db rr (m:Int) sj):=(by rw [he];exact⟨Ei.face,Ei.seen,Ei.but⟩);have HE:=AjK he;have hm0:(0:Int)<=(m:Int):=(by omega);have hm1:(m:Int)<(nf:Int):=(by omega);clear he EO Ei YW
       cases Ai:sj.ok
       ·have Eg:=AjK Ai;go_wp2;go_roundw
        case rel=>exact⟨j+1,Db rr (m:Int) sj,by go_num,Ay,by rw [HE.out,Eg.out];rfl,by rw [HE.out],HN.out.symm,PP⟩
        case measure=>simp [intOf];omega
       ·have Eg:=AjK Ai
        cases sv
        ·go_wp2;go_roundw
         case rel=>exact⟨j+1,Db rr (m:Int) sj,by go_num,Ay,by rw [HE.out,Eg.out];rfl,by rw [HE.out],HN.out.symm,PP⟩
         case measure=>simp [intOf];omega
        ·go_wp2;go_roundw
         case rel=>exact⟨j+1,Db rr (m:Int) sj,by go_num,Ay,by rw [HE.out,Eg.out];rfl,by rw [HE.out],HN.out.symm,PP⟩
         case measure=>simp [intOf];omega
    ·have Ek:j=c.length:=(by omega);subst Ek;have AU:sj=Gd L ((C.zip rg).take (k+1)) (G9 nf):=(by rw [RR.out,VB.out,List.take_length]);have HF:=AjK AU;clear AU;have Uh:(c.length:Int)<=(c.length:Int):=(by omega);go_wp2;go_roundw
     case rel=>exact⟨k+1,sj,by go_num,hlt,rfl,rfl,HF.out,Tc⟩
     case measure=>simp [intOf];omega
  ·have C3:k=C.length:=(by omega);subst C3;have AU:st=Gd L (C.zip rg) (G9 nf):=(by rw [HST.out,AjV (by rw [List.length_zip];omega)]);have HF:=AjK AU;obtain⟨A3,Aia,IU,rI,h31,h32⟩:=Ad.of_own' (by omega) hA.seen;simp only [Value.slice.injEq,true_and]at IU;obtain⟨rfl,rfl⟩:=IU;have D4:st.seen.length=nf:=(by rw [HST.out,eU];simp [G9]);have cb:=ww st.seen false (some ⟨bm+1,0,none⟩) nf wr rI (by omega) h32;rw [D4]at cb;have hv:vA=(st.ok && !(st.seen.contains false)):=(by rw [HA.out,←HF.out]);have ho:vO=st.op:=(by rw [HO.out,←HF.out]);have HV:=AjK hv;subst ho;obtain⟨cv,hcv⟩:=AjJ (st.seen.contains false);rw [←hcv]at cb;have gy:=AjK hcv;have IP:=sU.trans BV;clear AU D4 hv hcv hA rI
   cases Ai:st.ok
   ·have Eg:=AjK Ai;obtain rfl:vA=false:=(by rw [HV.out,Eg.out];rfl);go_wp2;go_ret2;exact⟨rfl,IP,G1.out.ext BV⟩
   ·have Eg:=AjK Ai;obtain rfl:vA = !cv:=(by rw [HV.out,Eg.out,←gy.out];rfl);(go_wp2_with fail);(with_reducible refine cb.mono ?_);rintro e w9 ⟨rfl,hx9⟩;go_wp2;go_ret2;exact⟨rfl,IP.trans hx9,G1.out.ext (BV.trans hx9)⟩
theorem oz{w0 w:World}(hw:Ak w0)(hx:Aa w0 w){r b1 b2:Nat}{L:List (Sg×Int)}{E:List (Pt×Value×Nat)}{R0:List (Pt×List Pt)}(h:Bn w0.heap.size w r b1 b2 L E R0){W:List Sg}(JK:W=L.map (·.1))(hN:Er W R0)(hW:P2 W)(hgr:∀s∈W,Gb s)
  (hlen:L.length<=100000) (hrl:∀e∈R0,e.2.length<100000) (nf:Nat) (Cb:nf<=100000) (MF:∀x∈L,-1<=x.2/\x.2<(nf:Int)) {R1:List (Pt×List Pt)} (hR1:R1=R0.map (fun e=>(e.1,Ec e.1 e.2))) {C:List (List Sg)} (hC:C=IF W R1) {rg:List Int} (hrg:rg=LR W C) :
  Calls Tryz.prog 86 #[.pointer (some ⟨r,0,none⟩),.int .i64 (nf:Nat)] w fun e w'=>e=.returned (.tuple #[.bool (KN L nf C rg),.bool (Mi L nf C rg).op])/\Aa w0 w':=(o6 hw hx h JK hN hW hgr hlen hrl nf Cb MF hR1 hC hrg).mono fun _ _ k=>⟨k.1,k.2.1⟩
end Go.Proofs.YtnfedbopbcegjaaGreatDoor
namespace Go.Proofs.YtnfedbopbcegjaaGreatDoor
open Go.RowKit Kl
theorem Aa3(l:List (Bs×Bs))(i:Nat):flat (l.take i)=(flat l).take (i*2):=by
 induction l generalizing i with
 | nil=>simp [flat]
 | cons e l ih=>
  cases i with
  | zero=>simp [flat]
  | succ i=>have e0:∀l,flat (e::l)=S e.1::S e.2::flat l:=fun _=>rfl;rw [List.take_succ_cons,e0,e0,ih];have e1:(i+1)*2=i*2+1+1:=(by omega);rw [e1];simp
theorem Af7(l:List Pt)(i:Nat):Aq (l.take i)=(Aq l).take i:=by unfold Aq;rw [List.map_take]
theorem xg(l:List Pt)(i:Nat)(hi:i<=l.length)(p:Pt)(A:Option Addr)(c:Nat)(w:World)(hr:Ad w A (flat (Aq l)))(hc:l.length<=c)(hcm:c<=9223372036854775807) :
  Calls Tryz.prog 81 #[.slice A i c,Ag p] w (BE ((l.take i).any (Ah p)) w):=by
 have:=contains_c (l.take i) p A c w (by rw [Af7,Aa3];exact hr.take _) (by rw [List.length_take];omega) hcm;rw [List.length_take,Nat.min_eq_left hi]at this;exact this
def ZE(m:MapZ):List Sg:=(AN m.pts m.eds).map (·.1)
def ZD(m:MapZ):List (Pt×List Pt):=(Cw m.pts m.eds).map (fun e=>(e.1,Ec e.1 e.2))
def MV(m:MapZ):List (List Sg):=IF (ZE m) (ZD m)
def O0(m:MapZ):List Int:=LR (ZE m) (MV m)
def Wd(m:MapZ):Int:=if PK (Cw m.pts m.eds) m.pts=true then 25 else if KN (AN m.pts m.eds) m.nf (MV m) (O0 m)=true then 0 else 14
theorem Afl(m:MapZ)(hgr:∀p∈m.pts,Da p){k:Nat}(hk:0<k)(hk2:k<=1)(hz:∀p∈m.pts,A0 k p)(A B F:Option Addr)(c d g:Nat)(A7:Cf m c d g)(w:World)(hw:Ak w)(hA:Ad w A (flat (Aq m.pts)))(hB:Ad w B (AA m.eds))(r:Int)
  (h0:KT m=true→r=4) (h1:KT m=false→CS [] m.pts≠0→r=CS [] m.pts)
  (h2:KT m=false→CS [] m.pts=0→Dd m.pts.length m.nf [] m.eds≠0→r=Dd m.pts.length m.nf [] m.eds) (h3:KT m=false→CS [] m.pts=0→Dd m.pts.length m.nf [] m.eds=0→DF m.pts [] m.eds≠0→r=26)
  (h4:KT m=false→CS [] m.pts=0→Dd m.pts.length m.nf [] m.eds=0→DF m.pts [] m.eds=0→r=Wd m) :
  Calls Tryz.prog 44 #[AE A B F m c d g] w (AB r w):=by
 have HA:=AjK hA;have HB:=AjK hB;have HZ:=AjK hz;have H0:=AjK h0;have H1:=AjK h1;have H2:=AjK h2;have H3:=AjK h3;have H4:=AjK h4;have dB:=AjK hgr;have HC:=AjK A7;obtain⟨c1,c2,d1,d2,g1,g2⟩:=A7;have HL:=AjK (show KT m=(decide (400<m.pts.length)||(decide (1200<m.eds.length)||decide (800<m.nf)))from rfl);have hM:=AjM w (.cells #[.slice A m.pts.length c,.slice B m.eds.length d,.slice F m.nf g] 44);have hE:=(Aa.refl w).alloc (.cells #[.slice A m.pts.length c,.slice B m.eds.length d,.slice F m.nf g] 44);unfold AE;clear hA hB hz h0 h1 h2 h3 h4 hgr;go_enter Tryz.func44,Tryz.ntmps44
 go_upto_region 1 with fail
 generalize w.alloc (.cells #[.slice A m.pts.length c,.slice B m.eds.length d,.slice F m.nf g] 44)=V at *;obtain⟨bm,AX⟩:=AjJ w.heap.size;rw [←AX]at hM ⊢;have hle:w.heap.size<=bm:=(by omega);clear AX;have m1:=Ab (o:=0) hM rfl;have m2:=Ab (o:=1) hM rfl;have m3:=Ab (o:=2) hM rfl;by_cases n1:(400:Int)<(m.pts.length:Int)
 ·have dd:decide ((400:Int)<(m.pts.length:Int))=true:=decide_eq_true n1;have HH:=AjK (show r=4 from H0.out (by rw [HL.out,decide_eq_true (by omega)];rfl));go_wp2;go_ret;exact⟨by rw [HH.out];rfl,hE⟩
 have iS:decide ((400:Int)<(m.pts.length:Int))=false:=decide_eq_false n1;by_cases n2:(1200:Int)<(m.eds.length:Int)
 ·have dd:decide ((1200:Int)<(m.eds.length:Int))=true:=decide_eq_true n2;have HH:=AjK (show r=4 from H0.out (by rw [HL.out,decide_eq_true (p:=1200<m.eds.length) (by omega)];simp));clear n1;go_wp2;go_ret;exact⟨by rw [HH.out];rfl,hE⟩
 have Wn:decide ((1200:Int)<(m.eds.length:Int))=false:=decide_eq_false n2;by_cases n3:(800:Int)<(m.nf:Int)
 ·have dd:decide ((800:Int)<(m.nf:Int))=true:=decide_eq_true n3;have HH:=AjK (show r=4 from H0.out (by rw [HL.out,decide_eq_true (p:=800<m.nf) (by omega)];simp));clear n1 n2;go_wp2;go_ret;exact⟨by rw [HH.out];rfl,hE⟩
 have iT:decide ((800:Int)<(m.nf:Int))=false:=decide_eq_false n3;have HN:=AjK (show KT m=false by rw [HL.out,decide_eq_false (by omega),decide_eq_false (by omega),decide_eq_false (by omega)];rfl);have AiX:m.pts.length<=400:=(by omega);have AbO:m.eds.length<=1200:=(by omega);have Ai7:m.nf<=800:=(by omega);clear n1 n2 n3 HL H0
 go_upto_block 0 with fail
 clear iS Wn iT m1 m2 m3
 go_cut [] (fun wx=>CS [] m.pts=0/\Aa V wx)
 case first=>
  (go_wp2_with fail)
  go_loopw [33] (fun i wr=>∃j:Nat,i=.int .i64 (j:Nat)/\j<=m.pts.length/\CS (m.pts.take j) (m.pts.drop j)=CS [] m.pts/\Aa V wr) (fun i _=>m.pts.length-(intOf i).toNat)
  case atStart=>exact⟨0,rfl,by omega,by simp,Aa.refl _⟩
  case round=>
   obtain⟨j,rfl,hj,Ai,Ae⟩:=hrel;have HO:=AjK Ai;clear Ai;by_cases hlt:j<m.pts.length
   ·obtain⟨b,o,rfl,hg1,hg2⟩:=CX ((HA.out.ext hE).ext Ae) hlt;have hz:=HZ.out m.pts[j] (AjO hlt);obtain⟨p,hp⟩:=AjJ (m.pts[j]);have HP:=AjK hp;have HS:=AjK (vk hlt);rw [←hp]at hg1 hg2 hz;have hj0:(0:Int)<=(j:Int):=(by omega);have Ay:(j:Int)<(m.pts.length:Int):=(by omega);have hjc:(j:Int)<=(c:Int):=(by omega);have Aw:=AjM wr (.cells #[S (R p.x),S (R p.y)] 28);have hx1:=Ae.alloc (.cells #[S (R p.x),S (R p.y)] 28);have ck:=S2 (R p.x) (R p.y) true (by simp only [true_iff];exact⟨MW hz.x hk (by omega),MW hz.y hk (by omega)⟩) (Ve hz.x hk (by omega)) (Ve hz.y hk (by omega));rw [Gg]at ck;clear hp hz
    go_upto_region 6 with fail
    generalize wr.alloc (.cells #[S (R p.x),S (R p.y)] 28)=V1 at *;obtain⟨bp,Qd⟩:=AjJ wr.heap.size;rw [←Qd]at Aw ⊢;clear Qd hg1 hg2;have k1:=Ab (o:=0) Aw rfl;have k2:=Ab (o:=1) Aw rfl;(go_wp2_with fail);(with_reducible refine(ck _ (hw.ext (hE.trans hx1))).mono ?_);rintro e w2 ⟨rfl,hx2⟩;have Bv:=(hx2.block _ (AjL Aw)).trans Aw;replace hx2:=hx1.trans hx2;have hw2:=hw.ext (hE.trans hx2);have Dw:=(hx2.block _ (AjL hM)).trans hM;have f1:∀q:Ac w2,q.w.cell? ⟨bp,0,none⟩=some (S (R p.x)):=Ac.cell (Ab Bv rfl);have f2:∀q:Ac w2,q.w.cell? ⟨bp,1,none⟩=some (S (R p.y)):=Ac.cell (Ab Bv rfl);have f3:∀q:Ac w2,q.w.cell? ⟨bm,0,none⟩=some (.slice (some ⟨b,o,none⟩) m.pts.length c):=Ac.cell (Ab Dw rfl);have ct:=fun q:Ac w2=>xg m.pts j hj p (some ⟨b,o,none⟩) c q.w ((HA.out.ext (hE.trans hx2)).ext q.h) c1 c2;unfold Ag at ct;obtain⟨du,IT⟩:=AjJ ((m.pts.take j).any (Ah p));rw [←IT]at ct;have HD:=AjK IT;clear IT k1 k2 ck Aw Bv Dw hx1 Ae;(go_wp2_with fail);refine Bh (by kernel_rfl) (by kernel_rfl) ?_
    repeat (go_big_quiet_step (with_reducible refine SH (ct _)))
    refine wpQuiet_nil ?_;rintro _ ⟨q,rfl⟩;have hxq:=hx2.trans q.h;have HQ:=AjK hxq
    cases du
    ·have HH:=AjK (show CS (m.pts.take (j+1)) (m.pts.drop (j+1))=CS [] m.pts by
      rw [←HO.out,HS.out,←HP.out,←HD.out];rfl)
     go_wp2;go_roundw
     case rel=>exact⟨j+1,by go_num,hlt,HH.out,HQ.out⟩
     case measure=>simp [intOf];omega
    ·have HH:=AjK (show CS [] m.pts=9 by rw [←HO.out,HS.out,←HP.out,←HD.out];rfl);have HR:=AjK (show r=9 by rw [←HH.out];exact H1.out HN.out (by rw [HH.out];omega));go_wp2;go_ret;exact⟨by rw [HR.out];rfl,hE.trans HQ.out⟩
   ·have hle:(m.pts.length:Int)<=(j:Int):=(by omega);have HH:=AjK (show CS [] m.pts=0 by rw [←HO.out,List.drop_eq_nil_of_le (by omega)];unfold CS;rfl);go_wp2;go_meet;exact⟨HH.out,Ae⟩
 case rest=>
  obtain⟨hc1,hx1⟩:=hcut;have cK:=AjK (fun h=>H2.out HN.out hc1 h);have Vo:=AjK hc1;have dZ:=AjK hx1;have JE:=(hx1.block _ (AjL hM)).trans hM;have m1:=Ab (o:=1) JE rfl;clear hc1 H1 hx1
  go_upto_block 3 with fail
  clear m1
  go_cut [] (fun wx=>Dd m.pts.length m.nf [] m.eds=0/\Aa V wx)
  case first=>
   (go_wp2_with fail)
   go_loopw [53] (fun i wr=>∃j:Nat,i=.int .i64 (j:Nat)/\j<=m.eds.length/\Dd m.pts.length m.nf (m.eds.take j) (m.eds.drop j)=Dd m.pts.length m.nf [] m.eds/\Aa V wr) (fun i _=>m.eds.length-(intOf i).toNat)
   case atStart=>exact⟨0,rfl,by omega,by simp,dZ.out⟩
   case round=>
    obtain⟨j,rfl,hj,Ai,Ae⟩:=hrel;have HO:=AjK Ai;clear Ai;by_cases hlt:j<m.eds.length
    ·have hj0:(0:Int)<=(j:Int):=(by omega);have Ay:(j:Int)<(m.eds.length:Int):=(by omega);have HS:=AjK (vn (np:=m.pts.length) (nf:=m.nf) hlt);have ce:=uz m A B F c d g HC.out j hlt wr (HB.out.ext (hE.trans Ae));obtain⟨z,hz⟩:=AjJ (IE m.pts.length m.nf (m.eds.take j) m.eds[j]);rw [←hz]at ce;have eB:=AjK hz;unfold AE at ce;have FB:=(Ae.block _ (AjL hM)).trans hM;have m1:=Ab (o:=0) FB rfl;have m2:=Ab (o:=1) FB rfl;have m3:=Ab (o:=2) FB rfl;clear hz FB;(go_wp2_with fail);(with_reducible refine ce.mono ?_);rintro e w2 ⟨rfl,hx2⟩;have HX:=AjK (Ae.trans hx2);clear m1 m2 m3 hx2 ce;by_cases hz0:z=0
     ·have HH:=AjK (show Dd m.pts.length m.nf (m.eds.take (j+1)) (m.eds.drop (j+1))=Dd m.pts.length m.nf [] m.eds by
       rw [←HO.out,HS.out,←eB.out,if_neg (by omega)])
      subst hz0;go_wp2;go_roundw
      case rel=>exact⟨j+1,by go_num,hlt,HH.out,HX.out⟩
      case measure=>simp [intOf];omega
     ·have HH:=AjK (show Dd m.pts.length m.nf [] m.eds=z by rw [←HO.out,HS.out,←eB.out,if_pos (by omega)]);have HR:=AjK (show r=z by rw [←HH.out];exact cK.out (by rw [HH.out];exact hz0));have dd:(z == 0)=false:=(by rw [beq_eq_false_iff_ne];exact hz0);have Wn:(z != 0)=true:=(by rw [bne_iff_ne];exact hz0);clear hz0;go_wp2;go_ret;exact⟨by rw [HR.out];rfl,hE.trans HX.out⟩
    ·have hle:(m.eds.length:Int)<=(j:Int):=(by omega);have HH:=AjK (show Dd m.pts.length m.nf [] m.eds=0 by rw [←HO.out,List.drop_eq_nil_of_le (by omega)];unfold Dd;rfl);go_wp2;go_meet;exact⟨HH.out,Ae⟩
  case rest=>
   obtain⟨hc2,hx1⟩:=hcut;have cL:=AjK (fun h=>H3.out HN.out Vo.out hc2 h);have Pa:=AjK hc2;have lg:=AjK hx1;have JE:=(hx1.block _ (AjL hM)).trans hM;have m1:=Ab (o:=1) JE rfl;clear hc2 cK dZ hx1
   go_upto_region 18 with fail
   go_upto_block 5 with fail
   go_cut [] (fun wx=>DF m.pts [] m.eds=0/\Aa V wx)
   case first=>
    (go_wp2_with fail)
    go_loopw [66] (fun i wr=>∃j:Nat,i=.int .i64 (j:Nat)/\j<=m.eds.length/\DF m.pts (m.eds.take j) (m.eds.drop j)=DF m.pts [] m.eds/\Aa V wr) (fun i _=>m.eds.length-(intOf i).toNat)
    case atStart=>exact⟨0,rfl,by omega,by simp,lg.out⟩
    case round=>
     obtain⟨j,rfl,hj,Ai,Ae⟩:=hrel;have HO:=AjK Ai;clear Ai;by_cases hlt:j<m.eds.length
     ·have hj0:(0:Int)<=(j:Int):=(by omega);have Ay:(j:Int)<(m.eds.length:Int):=(by omega);have hjd:(j:Int)<=(d:Int):=(by omega);have HS:=AjK (vo (pts:=m.pts) hlt);obtain⟨b,o,rfl,hg1,hg2,hg3,hg4⟩:=OC ((HB.out.ext hE).ext Ae) hlt;have hck:=P8 (N1 (l:=m.eds) Pa.out j hlt);obtain⟨e,he⟩:=AjJ (m.eds[j]);rw [←he]at hg1 hg2 hg3 hg4 hck;have cY:=AjK he;obtain⟨ef,M9⟩:∃n:Nat,e.f=(n:Int):=⟨e.f.toNat,by omega⟩;obtain⟨et,MA⟩:∃n:Nat,e.t=(n:Int):=⟨e.t.toNat,by omega⟩;have NY:ef<m.pts.length:=(by omega);have NZ:et<m.pts.length:=(by omega);have cX:=AjK (And.intro M9 MA);rw [M9]at hg1;rw [MA]at hg2;obtain⟨ba,oa,rfl,ha1,ha2⟩:=CX ((HA.out.ext hE).ext Ae) NY;obtain⟨b2,o2,Fi,hb1,hb2⟩:=CX ((HA.out.ext hE).ext Ae) NZ;obtain⟨rfl,rfl⟩:ba=b2/\oa=o2:=(by simpa using Fi);have Zi:=HZ.out m.pts[ef] (AjO NY);have hzb:=HZ.out m.pts[et] (AjO NZ);obtain⟨pa,FO⟩:=AjJ (m.pts[ef]);obtain⟨pb,L6⟩:=AjJ (m.pts[et]);rw [←FO]at ha1 ha2 Zi;rw [←L6]at hb1 hb2 hzb;have dM:=AjK (And.intro FO L6);have f0:(0:Int)<=(ef:Int):=(by omega);have f1:(ef:Int)<(m.pts.length:Int):=(by omega);have f2:(0:Int)<=(et:Int):=(by omega);have f3:(et:Int)<(m.pts.length:Int):=(by omega);have FB:=(Ae.block _ (AjL hM)).trans hM;have m1:=Ab (o:=1) FB rfl;have Aw:=AjM wr (.cells #[.int .i64 (ef:Nat),.int .i64 (et:Nat),.int .i64 e.l,.int .i64 e.r] 119);have hx1:=Ae.alloc (.cells #[.int .i64 (ef:Nat),.int .i64 (et:Nat),.int .i64 e.l,.int .i64 e.r] 119);have hx0:=(Aa.refl wr).alloc (.cells #[.int .i64 (ef:Nat),.int .i64 (et:Nat),.int .i64 e.l,.int .i64 e.r] 119);replace ha1:=hx0.cellS ha1;replace ha2:=hx0.cellS ha2;replace hb1:=hx0.cellS hb1;replace hb2:=hx0.cellS hb2;clear hck he M9 MA Fi FO L6
      go_upto_region 21 with fail
      generalize wr.alloc (.cells #[.int .i64 (ef:Nat),.int .i64 (et:Nat),.int .i64 e.l,.int .i64 e.r] 119)=V1 at *;obtain⟨bp,Qd⟩:=AjJ wr.heap.size;rw [←Qd]at Aw ⊢;clear Qd hg1 hg2 hg3 hg4 Ae FB m1 hx0;have Bi:=(hx1.block _ (AjL hM)).trans hM;have m1:=Ab (o:=1) Bi rfl
      go_upto_region 22 with fail
      clear m1
      go_loopw [76] (fun i wr=>∃jj:Nat,i=.int .i64 (jj:Nat)/\jj<=j/\(∀f∈m.eds.take jj,N3 m.pts e f=false)/\Aa V1 wr) (fun i _=>j-(intOf i).toNat)
      case atStart=>exact⟨0,rfl,by omega,by simp,Aa.refl _⟩
      case round=>
       obtain⟨jj,rfl,Ek,Ai,Ae⟩:=hrel;have dL:=AjK Ai;clear Ai;by_cases hlt2:jj<j
       ·have jj0:(0:Int)<=(jj:Int):=(by omega);have jjl:(jj:Int)<(j:Int):=(by omega);have Uc:jj<m.eds.length:=(by omega);obtain⟨b',o',BH,hg1,hg2,hg3,hg4⟩:=OC (((HB.out.ext hE).ext hx1).ext Ae) Uc;obtain⟨rfl,rfl⟩:b=b'/\o=o':=(by simpa using BH);have hck:=P8 (N1 (l:=m.eds) Pa.out jj Uc);obtain⟨f,hf⟩:=AjJ (m.eds[jj]);rw [←hf]at hg1 hg2 hg3 hg4 hck;have dA:=AjK hf;obtain⟨ff,MB⟩:∃n:Nat,f.f=(n:Int):=⟨f.f.toNat,by omega⟩;obtain⟨ft,Yf⟩:∃n:Nat,f.t=(n:Int):=⟨f.t.toNat,by omega⟩;have Ya:ff<m.pts.length:=(by omega);have Yg:ft<m.pts.length:=(by omega);have cZ:=AjK (And.intro MB Yf);rw [MB]at hg1;rw [Yf]at hg2;obtain⟨b3,o3,IU,hc1,hc2⟩:=CX ((HA.out.ext hE).ext hx1) Ya;obtain⟨b4,o4,oC,XV,Ql⟩:=CX ((HA.out.ext hE).ext hx1) Yg;obtain⟨rfl,rfl⟩:ba=b3/\oa=o3:=(by simpa using IU);obtain⟨rfl,rfl⟩:ba=b4/\oa=o4:=(by simpa using oC);have QN:=HZ.out m.pts[ff] (AjO Ya);have hzd:=HZ.out m.pts[ft] (AjO Yg);obtain⟨pc,Ie⟩:=AjJ (m.pts[ff]);obtain⟨pd,YH⟩:=AjJ (m.pts[ft]);rw [←Ie]at hc1 hc2 QN;rw [←YH]at XV Ql hzd;have dN:=AjK (And.intro Ie YH);have f4:(0:Int)<=(ff:Int):=(by omega);have f5:(ff:Int)<(m.pts.length:Int):=(by omega);have f6:(0:Int)<=(ft:Int):=(by omega);have f7:(ft:Int)<(m.pts.length:Int):=(by omega);have Bv:=AjM wr (.cells #[.int .i64 (ff:Nat),.int .i64 (ft:Nat),.int .i64 f.l,.int .i64 f.r] 119);have hx2:=Ae.alloc (.cells #[.int .i64 (ff:Nat),.int .i64 (ft:Nat),.int .i64 f.l,.int .i64 f.r] 119);clear hck hf MB Yf IU oC Ie YH BH
        go_upto_region 24 with fail
        generalize wr.alloc (.cells #[.int .i64 (ff:Nat),.int .i64 (ft:Nat),.int .i64 f.l,.int .i64 f.r] 119)=V2 at *;obtain⟨bq,Qe⟩:=AjJ wr.heap.size;rw [←Qe]at Bv ⊢;have hx3:=hx1.trans hx2;have Dw:=(hx2.block _ (AjL Bi)).trans Bi;have XG:=(hx2.block _ (AjL Aw)).trans Aw;have hwV:=hw.ext (hE.trans hx3);have q1:∀q:Ac V2,q.w.cell? ⟨bm,0,none⟩=some (.slice (some ⟨ba,oa,none⟩) m.pts.length c):=Ac.cell (Ab Dw rfl);have q2:∀q:Ac V2,q.w.cell? ⟨bp,0,none⟩=some (.int .i64 (ef:Nat)):=Ac.cell (Ab XG rfl);have q3:∀q:Ac V2,q.w.cell? ⟨bp,1,none⟩=some (.int .i64 (et:Nat)):=Ac.cell (Ab XG rfl);have q4:∀q:Ac V2,q.w.cell? ⟨bq,0,none⟩=some (.int .i64 (ff:Nat)):=Ac.cell (Ab Bv rfl);have q5:∀q:Ac V2,q.w.cell? ⟨bq,1,none⟩=some (.int .i64 (ft:Nat)):=Ac.cell (Ab Bv rfl);have a1:∀q:Ac V2,q.w.cell? ⟨ba,oa+ef*2,none⟩=some (S (R pa.x)):=Ac.cell (hx2.cellS ha1);have a2:∀q:Ac V2,q.w.cell? ⟨ba,oa+ef*2+1,none⟩=some (S (R pa.y)):=Ac.cell (hx2.cellS ha2);have a3:∀q:Ac V2,q.w.cell? ⟨ba,oa+et*2,none⟩=some (S (R pb.x)):=Ac.cell (hx2.cellS hb1);have a4:∀q:Ac V2,q.w.cell? ⟨ba,oa+et*2+1,none⟩=some (S (R pb.y)):=Ac.cell (hx2.cellS hb2);have a5:∀q:Ac V2,q.w.cell? ⟨ba,oa+ff*2,none⟩=some (S (R pc.x)):=Ac.cell (hx2.cellS hc1);have a6:∀q:Ac V2,q.w.cell? ⟨ba,oa+ff*2+1,none⟩=some (S (R pc.y)):=Ac.cell (hx2.cellS hc2);have a7:∀q:Ac V2,q.w.cell? ⟨ba,oa+ft*2,none⟩=some (S (R pd.x)):=Ac.cell (hx2.cellS XV);have a8:∀q:Ac V2,q.w.cell? ⟨ba,oa+ft*2+1,none⟩=some (S (R pd.y)):=Ac.cell (hx2.cellS Ql);have cr:=fun q:Ac V2=>Afn pa pb pc pd Zi hzb QN hzd hk (by omega) q.w (hwV.ext q.h);obtain⟨cx,XU⟩:=AjJ (LL pa pb pc pd);rw [←XU]at cr
        have hce:N3 m.pts e f=cx:=by unfold N3 D8;rw [cX.out.1,cX.out.2,cZ.out.1,cZ.out.2,XU,dM.out.1,dM.out.2,dN.out.1,dN.out.2];simp [NY,NZ,Ya,Yg]
        have RF:=AjK hce;unfold Ag at cr;clear Qe Dw XG Bv ha1 ha2 hb1 hb2 hc1 hc2 XV Ql Zi hzb QN hzd XU hce hg1 hg2 hg3 hg4 Bi Aw;refine Bh (by kernel_rfl) (by kernel_rfl) ?_
        repeat (go_big_quiet_step (with_reducible refine SH (cr _)))
        refine wpQuiet_nil ?_;rintro _ ⟨q,rfl⟩;have li:=AjK (hx2.trans q.h);have ll:=AjK (hE.trans (hx3.trans q.h));clear q1 q2 q3 q4 q5 a1 a2 a3 a4 a5 a6 a7 a8 cr hx2 hx3
        cases cx
        ·go_wp2;go_roundw
         case rel=>
          refine⟨jj+1,by go_num,by omega,?_,li.out⟩;intro x hx;rw [AjQ Uc,←dA.out]at hx
          rcases List.mem_append.1 hx with h|h
          ·exact dL.out x h
          ·simp only [AjZ]at h;rw [h];exact RF.out
         case measure=>simp [intOf];omega
        ·have HH:=AjK (show DF m.pts [] m.eds=26 by
          rw [←HO.out,HS.out,if_pos];rw [←cY.out,List.any_eq_true]
          exact⟨f,by rw [dA.out,List.mem_take_iff_getElem];exact⟨jj,by omega,rfl⟩,RF.out⟩)
         have HR:=AjK (show r=26 from cL.out (by rw [HH.out];omega));go_wp2;go_ret;exact⟨by rw [HR.out];rfl,ll.out⟩
       ·have Uh:(j:Int)<=(jj:Int):=(by omega);obtain rfl:jj=j:=by omega
        have HH:=AjK (show DF m.pts (m.eds.take (jj+1)) (m.eds.drop (jj+1))=DF m.pts [] m.eds by
         rw [←HO.out,HS.out,if_neg];rw [←cY.out,Bool.not_eq_true,List.any_eq_false]
         intro x hx;rw [dL.out x hx];simp)
        have HX:=AjK (hx1.trans Ae);go_wp2;go_roundw
        case rel=>exact⟨jj+1,by go_num,hlt,HH.out,HX.out⟩
        case measure=>simp [intOf];omega
     ·have hle:(m.eds.length:Int)<=(j:Int):=(by omega);have HH:=AjK (show DF m.pts [] m.eds=0 by rw [←HO.out,List.drop_eq_nil_of_le (by omega)];unfold DF;rfl);go_wp2;go_meet;exact⟨HH.out,Ae⟩
   case rest=>
    obtain⟨hc3,hx1⟩:=hcut;obtain⟨wx,rfl⟩:=named hx1;have iu:=AjK (H4.out HN.out Vo.out Pa.out hc3);have Gm:=SC Vo.out Pa.out;have JE:=(hx1.block _ (AjL hM)).trans hM;have x0:=Ab (o:=0) JE rfl;have x1:=Ab (o:=1) JE rfl;have x2:=Ab (o:=2) JE rfl;have Dh:=hE.trans hx1;have A7:Cf m c d g:=HC.out;have oc:=UI m A B F c d g A7 Gm AbO wx (HA.out.ext Dh) (HB.out.ext Dh);have Acz:=hw.ext Dh;unfold AE at oc;have ag:=fun (w2:World) (h2:Aa wx w2) (rn b1 b2:Nat) (E:List (Pt×Value×Nat)) (hn:Bn wx.heap.size w2 rn b1 b2 (AN m.pts m.eds) E (Cw m.pts m.eds))=>oz Acz h2 hn rfl (Aex m.pts m.eds) (vH Gm dB.out hc3) (ZF Gm dB.out) (by rw [vG];omega) (fun e he=>by have:=vD m.pts m.eds e he;omega) m.nf (by omega) (Aey Pa.out) (R1:=ZD m) rfl (C:=MV m) rfl (rg:=O0 m) rfl;have Om:∀(fn:Fn) (first cap:Array Value) (w:World),(Instr.makeFunc fn first cap).run Tryz.prog w=.ok (.func fn first cap) w:=fun _ _ _ _=>rfl;have dH:=AjK JE;obtain⟨fw,hfw⟩:=AjJ (PK (Cw m.pts m.eds) m.pts);obtain⟨ab,hab⟩:=AjJ (KN (AN m.pts m.eds) m.nf (MV m) (O0 m))
    have hr:r=if fw=true then 25 else if ab=true then 0 else 14:=by rw [iu.out,hfw,hab];rfl
    have iq:=AjK hfw;have HR:=AjK hr;rw [←hab]at ag;generalize (Mi (AN m.pts m.eds) m.nf (MV m) (O0 m)).op=ao at *;clear JE hx1 Gm hc3 hfw hab hr H2 H3 cL
    go_upto_region 28 with fail
    (go_wp2_with fail);(with_reducible refine oc.mono ?_);rintro e w2 ⟨rn,b1,b2,E,rfl,hx2,CW⟩;have BW:=(Aa.refl w2).alloc (.cells #[.pointer (some ⟨rn,0,none⟩)] 139);have BP:=AjM w2 (.cells #[.pointer (some ⟨rn,0,none⟩)] 139);have H9:=CW.ext BW;have hx3:=hx2.trans BW;have CJ:=(hx3.block _ (AjL dH.out)).trans dH.out;have y0:=Ab (o:=0) CJ rfl;clear x0 x1 x2 oc CW
    go_upto_region 29 with fail
    generalize w2.alloc (.cells #[.pointer (some ⟨rn,0,none⟩)] 139)=w3 at *;obtain⟨bn,M5⟩:=AjJ w2.heap.size;rw [←M5]at BP ⊢;clear M5;have af:=pq H9 bn (Ab BP rfl) m.pts A c (HA.out.ext (Dh.trans hx3)) (by assumption) (by assumption);rw [←iq.out]at af;(go_wp2_with fail);(with_reducible refine af.mono ?_);rintro e w4 ⟨rfl,Aj⟩;have sW:=hx3.trans Aj;have kV:=(Aj.block _ (AjL CJ)).trans CJ;have nH:=(Aj.block _ (AjL BP)).trans BP;have z2:=Ab (o:=2) kV rfl;have z3:=Ab (o:=0) nH rfl;have oo:=ag w4 sW rn b1 b2 E (H9.ext Aj);clear ag af CJ BP kV nH y0 H9 hx2 hx3 BW Aj
    cases fw
    ·have Mb:=AjK (show r=if ab=true then 0 else 14 from HR.out);(go_wp2_with fail);(with_reducible refine oo.mono ?_);rintro e w5 ⟨rfl,An⟩
     cases ab
     ·obtain rfl:r=14:=Mb.out;go_wp2;go_ret;exact⟨rfl,Dh.trans An⟩
     ·obtain rfl:r=0:=Mb.out;go_wp2;go_ret;exact⟨rfl,Dh.trans An⟩
    ·obtain rfl:r=25:=HR.out;go_wp2;go_ret;exact⟨rfl,Dh.trans sW⟩
def GF(m:MapZ):Int:=
 if KT m=true then 4 else if CS [] m.pts≠0 then CS [] m.pts else if Dd m.pts.length m.nf [] m.eds≠0 then Dd m.pts.length m.nf [] m.eds else if DF m.pts [] m.eds≠0 then 26 else Wd m
theorem Rh(m:MapZ)(hgr:∀p∈m.pts,Da p)(A B F:Option Addr)(c d g:Nat)(A7:Cf m c d g)(w:World)(hw:Ak w)(hA:Ad w A (flat (Aq m.pts)))(hB:Ad w B (AA m.eds)) :
  Calls Tryz.prog 44 #[AE A B F m c d g] w (AB (GF m) w):=by
 refine Afl m hgr (k:=1) (by omega) (by omega) (fun p hp=>(hgr p hp).sz (by omega)) A B F c d g A7 w hw hA hB (GF m) ?_ ?_ ?_ ?_ ?_
 ·intro h;unfold GF;rw [if_pos h]
 ·intro h h1;unfold GF;rw [if_neg (by rw [h];simp),if_pos h1]
 ·intro h h1 h2;unfold GF;rw [if_neg (by rw [h];simp),if_neg (by omega),if_pos h2]
 ·intro h h1 h2 h3;unfold GF;rw [if_neg (by rw [h];simp),if_neg (by omega),if_neg (by omega),if_pos h3]
 ·intro h h1 h2 h3;unfold GF;rw [if_neg (by rw [h];simp),if_neg (by omega),if_neg (by omega),if_neg (by omega)]
end Go.Proofs.YtnfedbopbcegjaaGreatDoor
namespace Go.Proofs.YtnfedbopbcegjaaGreatDoor
section
open Go.RowKit Kl
def KL(ps:List Pt)(p:Pt):List Pt:=match ps.getLast? with|some y=>if Ah y p=true then ps else ps ++ [p]|none=>ps ++ [p]
def Iu(l:List Hf):List Pt:=l.foldl (fun ps h=>KL ps h.a) []
theorem Af5(l:List Hf)(h:Hf):Iu (l ++ [h])=KL (Iu l) h.a:=by simp [Iu]
end
section
open Go.RowKit Kl
section
variable {α : Type} {le : α → α → Prop}
def P1(le:α→α→Prop)(l0:List α)(j:Nat)(l:List α):Prop:=l.Perm l0/\(l.take j).Pairwise le
def KG(le:α→α→Prop)(l0:List α)(j k:Nat)(l:List α):Prop:=
 l.Perm l0/\∃pre x Ee tl,l=pre++x::(Ee++tl)/\pre.length=k/\pre.length+Ee.length=j/\(pre++Ee).Pairwise le/\∀y∈Ee,le x y
theorem P1.start{l0 l:List α}{j:Nat}(h:P1 le l0 j l)(hj:j<l.length):KG le l0 j j l:=by
 refine⟨h.1,l.take j,l[j],[],l.drop (j+1),?_,?_,?_,?_,by simp⟩
 ·rw [List.nil_append,←List.drop_eq_getElem_cons hj,List.take_append_drop]
 ·rw [List.length_take];omega
 ·rw [List.length_take,List.length_nil];omega
 ·rw [List.append_nil];exact h.2
theorem KG.swap{l0 l:List α}{j q:Nat}(h:KG le l0 j (q+1) l)(hq:q+1<l.length)(hle:le l[q+1] l[q]):KG le l0 j q ((l.set (q+1) l[q]).set q l[q+1]):=by
 obtain⟨hp,pre,x,Ee,tl,rfl,h1,h2,h3,h4⟩:=h
 obtain⟨pre,y,rfl⟩:∃p y,pre=p ++ [y]:=by refine⟨pre.dropLast,pre.getLast (by intro e;subst e;cases h1),(List.dropLast_concat_getLast _).symm⟩
 rw [List.length_append,List.length_singleton]at h1 h2;have hpl:pre.length=q:=(by omega);subst hpl;have e1:(pre ++ [y]++x::(Ee++tl))[pre.length+1]=x:=(by simp);have e2:(pre ++ [y]++x::(Ee++tl))[pre.length]=y:=(by simp);rw [e1,e2]at hle ⊢
 have e3:((pre ++ [y]++x::(Ee++tl)).set (pre.length+1) y).set pre.length x=pre++x::((y::Ee)++tl):=by simp
 rw [e3];refine⟨List.Perm.trans ?_ hp,pre,x,y::Ee,tl,rfl,rfl,?_,?_,?_⟩
 ·simp only [List.append_assoc,List.cons_append];exact List.Perm.append_left _ (List.Perm.swap _ _ _)
 ·rw [List.length_cons];omega
 ·simpa using h3
 ·intro z hz
  rcases List.mem_cons.1 hz with rfl|hz
  ·exact hle
  ·exact h4 z hz
theorem KG.stop{l0 l:List α}{j k:Nat}(tr:∀a b c,le a b→le b c→le a c)(h:KG le l0 j k l)(hk:∀q,q+1=k→∀h1:q+1<l.length,le l[q] l[q+1]):P1 le l0 (j+1) l:=by
 obtain⟨hp,pre,x,Ee,tl,rfl,h1,h2,h3,h4⟩:=h;refine⟨hp,?_⟩
 have e:(pre++x::(Ee++tl)).take (j+1)=pre++x::Ee:=by rw [show pre++x::(Ee++tl)=(pre++x::Ee)++tl by simp,List.take_left' (by simp;omega)]
 rw [e];rw [List.pairwise_append]at h3 ⊢;refine⟨h3.1,List.pairwise_cons.2 ⟨h4,h3.2.1⟩,?_⟩;intro a ha b hb
 have hax:le a x:=by
  obtain⟨pr,y,rfl⟩:∃p y,pre=p ++ [y]:=by refine⟨pre.dropLast,pre.getLast (by intro e;subst e;cases ha),(List.dropLast_concat_getLast _).symm⟩
  rw [List.length_append,List.length_singleton]at h1;have:=hk pr.length h1 (by simp);have e1:(pr ++ [y]++x::(Ee++tl))[pr.length+1]=x:=(by simp);have e2:(pr ++ [y]++x::(Ee++tl))[pr.length]=y:=(by simp);rw [e1,e2]at this;rw [List.mem_append,AjZ]at ha
  rcases ha with ha|rfl
  ·have h5:=h3.1;rw [List.pairwise_append]at h5;exact tr _ _ _ (h5.2.2 a ha y (by simp)) this
  ·exact this
 rcases List.mem_cons.1 hb with rfl|hb
 ·exact hax
 ·exact h3.2.2 a ha b hb
end
end
section
open Go.RowKit Kl
def GW(a b:Hf):Prop:=Ij b a=false
theorem uG(a b:Hf):Ij a b=true↔a.a.x<b.a.x∨(a.a.x=b.a.x/\(a.a.y<b.a.y∨(a.a.y=b.a.y/\(a.b.x<b.b.x∨(a.b.x=b.b.x/\a.b.y<b.b.y))))):=by
 unfold Ij;simp only [Bool.or_eq_true,Bool.and_eq_true,decide_eq_true_eq,MR,uH]
 grind
theorem uA(a b c:Hf)(h1:GW a b)(h2:GW b c):GW a c:=by
 unfold GW at *;rw [Bool.eq_false_iff,ne_eq,uG]at *
 grind
theorem AdG{a b:Hf}(h:Ij a b=true):GW a b:=by
 unfold GW;rw [Bool.eq_false_iff,ne_eq];intro h2;rw [uG]at h h2
 grind
end
end Go.Proofs.YtnfedbopbcegjaaGreatDoor
