/- I31: ShD4 ShD8 ShS8 ShGG8 ShGG9 ShGG10 ShGG11 ShGG12 ShGG13 ShGG14 ShGG15 ShGG16 ShGG17. -/
import Derived.Laws.EntriesVeiled
import Derived.Test.YtnddllipjippnaaGreatDoorI28
import Derived.Deep.CutBlock
set_option maxRecDepth 100000
set_option maxHeartbeats 16000000
namespace Go.Proofs.YtnddllipjippnaaGreatDoor
open Go.RowKit Kl
open Go.ChangeMaps (setBlock)
theorem yy{W:World}{b:Nat}{L:List (Sg×Int)}(h:W.heap[b]?=some (.map (AK A8 (stamp L)).toArray L.length))(s:Sg)(hno:∀e∈L,AU s e.1=false)(z:Int) :
  ∃W',(Instr.mapUpdate 95 (.map (some b)) (A8 s) (.int .i64 z)).run Tryz.prog W=.ok () W'/\W'.heap[b]?=some (.map (AK A8 (stamp (L ++ [(s,z)]))).toArray (L ++ [(s,z)]).length)/\W.grownBy W' (some b)/\W'.heap.size=W.heap.size:=by
 refine⟨_,pU Za s (stamp L) ?_ (.int .i64 z) h,?_,LQ h,by simp [setBlock]⟩
 ·intro e he;obtain⟨x,hx,h1⟩:=qK he;rw [h1];exact hno x hx
 ·rw [MI h,Ack];simp
theorem AbI{s t:Sg}(h:s≠t):AU s t=false:=by
 rw [Bool.eq_false_iff];exact fun k=>h (IG.1 k)
theorem AhC{C:List (List Sg)}(CN:C.flatten.Nodup){k:Nat}(hk:k<C.length){j:Nat}(hj:j<C[k].length):∀e∈D7 (C.take k)++(C[k].take j).map (fun s=>(s,(k:Int))),AU C[k][j] e.1=false:=by
 intro e he;refine AbI fun hh=>?_;have h1:C=C.take k++C[k]::C.drop (k+1):=(by rw [←List.drop_eq_getElem_cons hk,List.take_append_drop]);have h2:C[k]=C[k].take j++C[k][j]::C[k].drop (j+1):=by rw [←List.drop_eq_getElem_cons hj,List.take_append_drop]
 have h3:C.flatten=(C.take k).flatten++(C[k]++(C.drop (k+1)).flatten):=by
  have:=congrArg List.flatten h1
  rwa [List.flatten_append,List.flatten_cons]at this
 rw [h3,List.nodup_append]at CN;obtain⟨-,Ci,AiV⟩:=CN;rw [List.nodup_append]at Ci;obtain⟨I9,-,-⟩:=Ci
 rcases List.mem_append.1 he with he|he
 ·have:e.1∈(D7 (C.take k)).map (·.1):=List.mem_map_of_mem he;rw [AaM]at this;exact AiV _ this _ (List.mem_append_left _ (As1 hj)) hh.symm
 ·rw [List.mem_map]at he;obtain⟨s,hs,rfl⟩:=he;rw [h2,List.nodup_append]at I9;exact I9.2.2 _ hs _ List.mem_cons_self hh.symm
theorem Aal(n:Nat)(hn:n<=200000)(c:Int)(hc:c=(n:Int))(W:World) :
  (Instr.makeSlice 76 (.int .i64 c) (.int .i64 c)).run Tryz.prog W=.ok (.slice (some ⟨W.heap.size,0,none⟩) n n) (W.alloc (.cells (madeCells #[.int .i64 0] n) 3)):=nS n hn c hc W
def Kr(W:List Sg)(C:List (List Sg))(k:Nat):List Value:=(List.range C.length).map (fun j=>Value.int .i64 (if j<k then CC W C (W.length+1) j else 0))
theorem AnN(W:List Sg)(C:List (List Sg)):Kr W C 0=zs (zn (List.replicate C.length 0)):=by
 unfold Kr zs zn;apply List.ext_getElem
 ·simp
 ·intro i h1 h2;simp
theorem AnL(W:List Sg)(C:List (List Sg)):Kr W C C.length=(Lr W C).map (Value.int .i64):=by
 unfold Kr Lr;apply List.ext_getElem
 ·simp
 ·intro i h1 h2;have:i<C.length:=(by simpa using h1);simp [this]
theorem AnM(W:List Sg)(C:List (List Sg)){k:Nat}(_:k<C.length):(Kr W C k).set k (.int .i64 (CC W C (W.length+1) k))=Kr W C (k+1):=by
 unfold Kr;apply List.ext_getElem
 ·simp
 ·intro i h1 h2;by_cases h:k=i
  ·subst h;simp
  ·rw [List.getElem_set_ne h];have:(i<k+1)↔i<k:=(by omega);simp [this]
theorem AfM(w:World)(o1 o2 o3 o4:Obj):∃W,W=(((w.alloc o1).alloc o2).alloc o3).alloc o4/\Ab w W/\W.heap.size=w.heap.size+4/\W.heap[w.heap.size]?=some o1/\W.heap[w.heap.size+1]?=some o2/\W.heap[w.heap.size+1+1]?=some o3/\W.heap[w.heap.size+1+1+1]?=some o4:=by
 obtain⟨V,hV,hE,h1,h2,h3⟩:=J9 w o1 o2 o3;have hs:V.heap.size=w.heap.size+1+1+1:=(by rw [hV];simp);have KO:=(Ab.refl V).alloc o4;refine⟨_,by rw [←hV],hE.alloc o4,by simp [hs],(KO.block _ (Asy h1)).trans h1,(KO.block _ (Asy h2)).trans h2,(KO.block _ (Asy h3)).trans h3,?_⟩;rw [←hs];exact Asz V o4
def Fp(W:World)(b:Nat)(l:List (Sg×Int)):Prop:=W.heap[b]?=some (.map (AK A8 (stamp l)).toArray l.length)
theorem Fp.ext{W W':World}{b:Nat}{l:List (Sg×Int)}(h:Fp W b l)(hx:Ab W W'):Fp W' b l:=(hx.block b (Asy h)).trans h
theorem AnR{B:Nat}{w:World}(hw:Aj w){r b1 b2:Nat}{L:List (Sg×Int)}{E:List (Pt×Value×Nat)}{R0:List (Pt×List Pt)}(h:B7 B w r b1 b2 L E R0){W U:List Sg}{C:List (List Sg)}(hW:W=L.map (·.1))(hG:Qh W U C){A:Option Addr}{cap:Nat}(hC:MU w A cap C) :
  Calls Tryz.prog 106 #[.pointer (some ⟨r,0,none⟩),.slice A C.length cap] w fun e w'=>∃A',e=.returned (.slice A' C.length C.length)/\Ad w' A' ((Lr W C).map (Value.int .i64))/\Ab w w':=by
 have hmm:=@run_makeMap Tryz.prog;have Yl:=hC.cap1;have Ym:=hC.cap2;go_enter Tryz.func106,Tryz.ntmps106
 go_upto_region 2 with fail
 obtain⟨W1,hW1,Cb,hs1,hb1,hb2,hb3,hb4⟩:=AfM w (.cells #[.pointer (some ⟨r,0,none⟩)] 93) (.cells #[.slice A C.length cap] 168) (.map #[] 0) (.cells #[.map (some (w.heap.size+1+1))] 95);rw [←hW1];clear hW1;obtain⟨bn,Cv⟩:=Asw w.heap.size;rw [←Cv]at hb1 hb2 hb3 hb4 ⊢;have hle:w.heap.size<=bn:=(by omega);have fV:Fp W1 (bn+1+1) (D7 (C.take 0)):=by rw [List.take_zero];exact hb3
 have zY:C.length<=100000:=by have h1:=Zb hG.ok.ne;rw [hG.ok.flat]at h1;have h2:=Lg hG.ok.nd hG.ok.sub;have:=hG.len;omega
 have hl0:(0:Int)<=(C.length:Int):=(by omega);have CN:C.flatten.Nodup:=(by rw [hG.ok.flat];exact hG.ok.nd);have aZ:=Asx CN;have m2:=Aa (o:=0) hb2 rfl;clear Cv hb3 CN
 go_upto_region 3 with fail
 go_loopw [16] (fun i wr=>∃k:Nat,i=.int .i64 (k:Nat)/\k<=C.length/\Fp wr (bn+1+1) (D7 (C.take k))/\Ak (fun j=>j=bn+1+1) W1 wr) (fun i _=>C.length-(intOf i).toNat)
 case atStart=>exact⟨0,rfl,by omega,fV,Ak.refl _ _⟩
 case round=>
  obtain⟨k,rfl,hk,hM,hB⟩:=hrel;have BG:Ab w wr:=hB.toExt Cb (fun j e=>by subst e;omega);by_cases hlt:k<C.length
  ·obtain⟨bA,oA,A',c',rfl,hcell,Bi,hc1,hc2⟩:=hC.row k hlt;replace hcell:=BG.cellS hcell;have hk0:(0:Int)<=(k:Int):=(by omega);have D3:(k:Int)<(C.length:Int):=(by omega);obtain⟨c,hcc⟩:=Asw (C[k]);have hfr:=fun j (hj:j<C[k].length)=>AhC aZ.out hlt hj;rw [←hcc]at hcell Bi hc1 hfr
   have NA:D7 (C.take (k+1))=D7 (C.take k)++c.map (fun s=>(s,(k:Int))):=by rw [As3 hlt,AaN,←hcc,List.length_take,Nat.min_eq_left (by omega)]
   have aX:=Asx NA;have SD:=Asx hfr;have CE:Fp wr (bn+1+1) (D7 (C.take k)++(c.take 0).map (fun s=>(s,(k:Int)))):=(by rw [List.take_zero,List.map_nil,List.append_nil];exact hM);have hcl:(0:Int)<=(c.length:Int):=(by omega);clear hcc NA hfr hM
   go_upto_region 6 with fail
   go_loopw [23] (fun i wi=>∃j:Nat,i=.int .i64 (j:Nat)/\j<=c.length/\Fp wi (bn+1+1) (D7 (C.take k)++(c.take j).map (fun s=>(s,(k:Int))))/\Ak (fun j=>j=bn+1+1) W1 wi) (fun i _=>c.length-(intOf i).toNat)
   case atStart=>exact⟨0,rfl,by omega,CE,hB⟩
   case round=>
    obtain⟨j,rfl,hj,XL,TX⟩:=hrel;have QS:Ab w wr:=TX.toExt Cb (fun j e=>by subst e;omega);by_cases Ay:j<c.length
    ·obtain⟨b',o',rfl,f1,f2,f3,f4⟩:=Lq (Bi.ext QS) Ay;have hno:=SD.out j Ay
     have EY:D7 (C.take k)++(c.take (j+1)).map (fun s=>(s,(k:Int)))=(D7 (C.take k)++(c.take j).map (fun s=>(s,(k:Int)))) ++ [(c[j],(k:Int))]:=by rw [As3 Ay,List.map_append,←List.append_assoc];rfl
     obtain⟨s,hs⟩:=Asw (c[j]);rw [←hs]at f1 f2 f3 f4 hno EY;have hj0:(0:Int)<=(j:Int):=(by omega);have FS:(j:Int)<(c.length:Int):=(by omega);have Ax:=Asz wr (.cells #[S (R s.a.x),S (R s.a.y),S (R s.b.x),S (R s.b.y)] 140);have E4:=(Ab.refl wr).alloc (.cells #[S (R s.a.x),S (R s.a.y),S (R s.b.x),S (R s.b.y)] 140);have h4:=(E4.block _ (Asy (TX.cells hb4 (by omega)))).trans (TX.cells hb4 (by omega));obtain⟨Wp,hput,KT,NR,-⟩:=yy (XL.ext E4) s hno (k:Int);rw [←EY]at KT;have fH:=(TX.ext E4).grown NR (fun q e=>by cases e;exact .inl rfl);have SQ:=Asx KT;clear hno EY hs XL NR KT
     go_upto_region 8 with fail
     unfold S at Ax h4 hput;unfold A8 S at hput;have z0:=Aa (o:=0) Ax rfl;have z1:=Aa (o:=1) Ax rfl;have z2:=Aa (o:=2) Ax rfl;have z3:=Aa (o:=3) Ax rfl;have z4:=Aa (o:=0) h4 rfl;generalize (wr.alloc (.cells #[.string ⟨(R s.a.x).toArray⟩,.string ⟨(R s.a.y).toArray⟩,.string ⟨(R s.b.x).toArray⟩,.string ⟨(R s.b.y).toArray⟩] 140))=W4 at *;clear f1 f2 f3 f4 Ax h4;go_wp2;go_roundw
     case rel=>exact⟨j+1,by go_num,Ay,SQ.out,fH⟩
     case measure=>simp [intOf];omega
    ·have D2:j=c.length:=(by omega);subst D2;have YB:(c.length:Int)<=(c.length:Int):=(by omega);rw [List.take_length,←aX.out]at XL;go_wp2;go_roundw
     case rel=>exact⟨k+1,by go_num,hlt,XL,TX⟩
     case measure=>simp [intOf];omega
  ·have Ch:k=C.length:=(by omega);subst Ch;rw [List.take_length]at hM;have hmk:=Aal C.length (by omega) (C.length:Int) rfl wr;have Rt:∀(fn:Fn) (first cap:Array Value) (w:World),(Instr.makeFunc fn first cap).run Tryz.prog w=.ok (.func fn first cap) w:=fun _ _ _ _=>rfl;have Yj:=hB.cells hb2 (by omega);have m2':=Aa (o:=0) Yj rfl;have own:=Z4 wr w.heap.size C.length (AsA Cb.size hB.size) (by omega);have hx0:(w.heap.size:Nat)<=wr.heap.size:=AsA Cb.size hB.size;have I0:=(Ab.refl wr).alloc (.cells (madeCells #[.int .i64 0] C.length) 3);obtain⟨fv,NQ⟩:=Asw (Value.func (.func 154) #[] #[.pointer (some ⟨bn+1,0,none⟩),.pointer (some ⟨bn,0,none⟩),.pointer (some ⟨wr.heap.size+1,0,none⟩),.pointer (some ⟨bn+1+1+1,0,none⟩)]);have fN:=(Ab.refl (wr.alloc (.cells (madeCells #[.int .i64 0] C.length) 3))).alloc (.cells #[fv] 128);have I4:=Asz (wr.alloc (.cells (madeCells #[.int .i64 0] C.length) 3)) (.cells #[fv] 128);rw [As7]at I4;have Gr:=I0.trans fN;have BR:=BG.trans Gr;have oW:=An own fN;have EB:=hM.ext Gr;have n1:=(Gr.block _ (Asy (hB.cells hb1 (by omega)))).trans (hB.cells hb1 (by omega));have n2:=(Gr.block _ (Asy Yj)).trans Yj;have n4:=(Gr.block _ (Asy (hB.cells hb4 (by omega)))).trans (hB.cells hb4 (by omega));have Rq:bn+1+1+1<wr.heap.size:=Asy (hB.cells hb4 (by omega));have Vf:wr.heap.size+1<((wr.alloc (.cells (madeCells #[.int .i64 0] C.length) 3)).alloc (.cells #[fv] 128)).heap.size:=by simp
   go_upto_region 14 with fail
   rw [←NQ];clear hmk Rt m2' own hM I0 fN Gr Yj;generalize (wr.alloc (.cells (madeCells #[.int .i64 0] C.length) 3)).alloc (.cells #[fv] 128)=V2 at *;obtain⟨bo,DI⟩:=Asw wr.heap.size;rw [←DI]at oW NQ I4 Rq Vf ⊢;have Ako:w.heap.size<=bo:=(by omega);clear DI;have AmC:V2.ownsRow w.heap.size 3 1 (.slice (some ⟨bo,0,none⟩) C.length C.length) C.length (Kr W C 0):=(by rw [AnN];exact oW);have m2:=Aa (o:=0) n2 rfl
   have UL:∀i (hi:i<C.length),leftOf W (CC.aOf C[i]).x<W.length+1:=fun i hi=>by have:leftOf W (CC.aOf C[i]).x<=W.length:=List.countP_le_length;omega
   have HFV:=Asx NQ;clear oW NQ
   go_upto_region 15 with fail
   clear m2
   go_loopw [38] (fun i w3=>∃k:Nat,i=.int .i64 (k:Nat)/\k<=C.length/\w3.ownsRow w.heap.size 3 1 (.slice (some ⟨bo,0,none⟩) C.length C.length) C.length (Kr W C k)/\Ak (fun j=>j=bo) V2 w3) (fun i _=>C.length-(intOf i).toNat)
   case atStart=>exact⟨0,rfl,by omega,AmC,Ak.refl _ _⟩
   case round=>
    obtain⟨k,rfl,hk3,GN,Cy⟩:=hrel;have BL:Ab w wr:=Cy.toExt BR (fun j e=>by subst e;exact Ako);by_cases hlt:k<C.length
    ·have hR:Tm B wr r b1 b2 L E R0 (bn+1) bn (bo+1) (bn+1+1+1) (bn+1+1) A cap C:=⟨h.ext BL,hC.ext BL,Aa (Cy.cells n2 (by omega)) rfl,Aa (Cy.cells n1 (by omega)) rfl,by rw [←HFV.out];exact Aa (Cy.cells I4 (by omega)) rfl,Aa (Cy.cells n4 (by omega)) rfl,Cy.cells EB (by omega)⟩;have fc:=Ah8 hW hG (W.length+1) k hlt (UL k hlt) wr (hw.ext BL) hR;have Yo:wr.cell? ⟨bo+1,0,none⟩=some (.func (.func 154) #[] #[.pointer (some ⟨bn+1,0,none⟩),.pointer (some ⟨bn,0,none⟩),.pointer (some ⟨bo+1,0,none⟩),.pointer (some ⟨bn+1+1+1,0,none⟩)]):=hR.cf;obtain⟨z,hz⟩:=Asw (CC W C (W.length+1) k);rw [←hz]at fc;have hk0:(0:Int)<=(k:Int):=(by omega);have D3:(k:Int)<(C.length:Int):=(by omega);have HZ:=Asx hz;clear hz hR;have EU:(Kr W C k)[k]?=some (.int .i64 0):=(by unfold Kr;simp [hlt]);have AA:=AnM W C hlt;rw [←HZ.out]at AA;have HS:=Asx AA;clear AA;(go_wp2_with fail);(with_reducible refine fc.mono ?_);rintro e w4 ⟨rfl,Ao⟩;have Gw:=An GN Ao;have hce:=(Gw.cellAt k (by omega)).trans EU;have Gv:=Gw.frozenAt k;have hst:=(Gw.stored k (.int .i64 z)).1;have hg4:=(Gw.stored k (.int .i64 z)).2;have LS:=(Cy.ext Ao).grown hg4 (fun q e=>by cases e;exact .inl rfl);rw [HS.out]at hst;clear hg4 Cy GN Gw fc Yo;go_wp2;go_roundw
     case rel=>exact⟨k+1,by go_num,hlt,hst,LS⟩
     case measure=>simp [intOf];omega
    ·have Ch:k=C.length:=(by omega);subst Ch;rw [AnL]at GN;obtain⟨A2,cap2,ET,Kc,-,-⟩:=Ad.of_own' (by omega) GN;simp only [Value.slice.injEq,true_and]at ET;obtain⟨rfl,-⟩:=ET;go_wp2;go_ret;exact⟨_,rfl,Kc,BL⟩
theorem Tryz.infoBo:(Tryz.prog.info? 4).map (fun i=>(i.zero,i.size,i.bytes))=some (some (.bool false),1,1):=by kernel_rfl
theorem AlG(n:Nat)(hn:n<=200000)(c:Int)(hc:c=(n:Int))(W:World) :
  (Instr.makeSlice 171 (.int .i64 c) (.int .i64 c)).run Tryz.prog W=.ok (.slice (some ⟨W.heap.size,0,none⟩) n n) (W.alloc (.cells (madeCells #[.bool false] n) 4)):=by
 subst hc;obtain⟨i0,hi,hz0,hz1,hz2⟩:=info_parts Tryz.infoBo;have h:=run_make (P:=Tryz.prog) W 171 4 i0 (.bool false) Tryz.underlying171 hi hz0 .i64 .i64 n n (by omega) (by omega) (by rw [hz2];omega) (by omega);rw [hz1,Nat.mul_one]at h;simp only [Int.toNat_natCast]at h;exact h
theorem AmD(W:World)(base n:Nat)(hb:base<=W.heap.size)(hn:n<=200000) :
  (W.alloc (.cells (madeCells #[.bool false] n) 4)).ownsRow base 4 1 (.slice (some ⟨W.heap.size,0,none⟩) n n) n (Is (List.replicate n false)):=by
 have h:=World.ownsRow_lit (w:=W) (base:=base) (e:=4) (size:=1) (madeCells #[.bool false] n) n hb (by unfold maxLen;omega) (by rw [size_madeCells];omega);rw [toList_madeCells_one]at h
 simpa [Is]using h
theorem AfC(l:List Bool)(k:Nat)(b:Bool):(Is l).set k (.bool b)=Is (l.set k b):=by simp [Is]
theorem AnG{w:World}{A:Option Addr}{l:List Int}(hr:Ad w A (l.map (Value.int .i64))){j:Nat}(h:j<l.length):∃b o,A=some ⟨b,o,none⟩/\w.cell? ⟨b,o+j,none⟩=some (.int .i64 l[j]):=by
 obtain⟨b,o,e,hc⟩:=hr.ad (by simp;omega);refine⟨b,o,e,?_⟩;rw [hc j (by simpa using h)];simp
theorem Zf{s:Sg}{L:List (Sg×Int)}(h:s∈L.map (·.1)):∃e∈L,AM s L=e.2:=by
 unfold AM;rw [List.mem_map]at h;obtain⟨x,hx,rfl⟩:=h
 cases hf:L.find? (fun e=>AU x.1 e.1)with
 | none=>
  rw [List.find?_eq_none]at hf;exact absurd (IG.2 rfl) (hf x hx)
 | some e=>exact⟨e,List.mem_of_find?_eq_some hf,rfl⟩
structure G1(V wr:World)(B bm bs nf:Nat)(st:Et):Prop where
 face:Dj wr bm st.face
 seen:wr.ownsRow B 4 1 (.slice (some ⟨bs,0,none⟩) nf nf) nf (Is st.seen)
 but:Ak (fun j=>j=bm∨j=bs) V wr
theorem G1.ext{V wr w':World}{B bm bs nf:Nat}{st:Et}(h:G1 V wr B bm bs nf st)(hx:Ab wr w'):G1 V w' B bm bs nf st:=
 ⟨(hx.block _ (Asy h.face)).trans h.face,An h.seen hx,h.but.ext hx⟩
theorem G1.put{V wr:World}{B bm bs nf:Nat}{st:Et}(h:G1 V wr B bm bs nf st)(hne:bm≠bs)(r z:Int)(hno:Ct r st.face=none) :
  ∃W',(Instr.mapUpdate 130 (.map (some bm)) (.int .i64 r) (.int .i64 z)).run Tryz.prog wr=.ok () W'/\G1 V W' B bm bs nf {st with face:=st.face ++ [(r,z)]}:=by
 obtain⟨W',h1,h2,h3,-⟩:=h.face.put r z hno;refine⟨W',h1,h2,AaE h.seen h3 (by simp only [Value.ownBlock,ne_eq,As4];exact fun e=>hne e.symm),h.but.grown h3 (fun k e=>by cases e;exact .inl (.inl rfl))⟩
theorem G1.set{V wr:World}{B bm bs nf:Nat}{st:Et}(h:G1 V wr B bm bs nf st)(hne:bm≠bs)(k:Nat) :
  G1 V (wr.setCell ⟨bs,k,none⟩ (.bool true)) B bm bs nf {st with seen:=st.seen.set k true}:=by
 have h1:=h.seen.stored k (.bool true);rw [AfC]at h1;refine⟨?_,h1.1,h.but.grown h1.2 (fun q e=>by cases e;exact .inl (.inr rfl))⟩;exact(h1.2.block bm (Asy h.face) (by simp only [ne_eq,As4];exact hne)).trans h.face
theorem uL{w0 w:World}(hw:Aj w0)(hx:Ab w0 w){r b1 b2:Nat}{L:List (Sg×Int)}{E:List (Pt×Value×Nat)}{R0:List (Pt×List Pt)}(h:B7 w0.heap.size w r b1 b2 L E R0){W:List Sg}(Md:W=L.map (·.1))(hN:FN W R0)(hW:Qw W)(hgr:∀s∈W,G5 s)
  (hlen:L.length<=100000) (hrl:∀e∈R0,e.2.length<100000) (nf:Nat) (BS:nf<=100000) (Px:∀x∈L,-1<=x.2/\x.2<(nf:Int)) {R1:List (Pt×List Pt)} (hR1:R1=R0.map (fun e=>(e.1,Dt e.1 e.2))) {C:List (List Sg)} (hC:C=Ix W R1) {rg:List Int} (hrg:rg=Lr W C) :
  Calls Tryz.prog 53 #[.pointer (some ⟨r,0,none⟩),.int .i64 (nf:Nat)] w fun e w'=>e=.returned (.tuple #[.bool (Np L nf C rg),.bool (LG L nf C rg).op])/\Ab w0 w'/\B7 w0.heap.size w' r b1 b2 L E R1:=by
 have hmm:=@run_makeMap Tryz.prog;have so:=sort_c hw hx h (Ab4 hW hN hrl);rw [←hR1]at so;have Hn:FN W R1:=by rw [hR1];exact hN.sorted
 have UY:∀e∈R1,e.2.length<100000:=by intro e he;rw [hR1,List.mem_map]at he;obtain⟨x,hx,rfl⟩:=he;have:=hrl x hx;rw [show (Dt x.1 x.2).length=x.2.length from(VT x.1 x.2).length_eq];exact this
 obtain⟨U,Ai,hall⟩:=xT Hn;have hG:Qh W U C:=⟨by rw [hC];exact Ai,hall,hW.x.good,hgr,by rw [Md];simpa using hlen⟩
 have zY:C.length<=100000:=by have h1:=Zb hG.ok.ne;rw [hG.ok.flat]at h1;have h2:=Lg hG.ok.nd hG.ok.sub;have:=hG.len;omega
 have sw:rg.length=C.length:=(by rw [hrg];simp [Lr]);have cy:=fun (w1:World) (h1:Ab w0 w1) (k:B7 w0.heap.size w1 r b1 b2 L E R1)=>xU hw h1 k (by rw [←Md];exact Hn) (by rw [←Md];exact hW) hlen UY;rw [←Md,←hC]at cy;have rc:=fun (w1:World) (hw1:Aj w1) (k:B7 w0.heap.size w1 r b1 b2 L E R1) (A:Option Addr) (cap:Nat) (hA:MU w1 A cap C)=>AnR hw1 k Md hG hA;rw [←hrg]at rc
 have hcw:∀i (hi:i<C.length),∀s∈C[i],-1<=AM s L/\AM s L<(nf:Int):=by intro i hi s hs;have h1:s∈W:=hG.ok.sub s (by rw [←hG.ok.flat];exact List.mem_flatten.2 ⟨_,As1 hi,hs⟩);rw [Md]at h1;obtain⟨e,he,h2⟩:=Zf h1;rw [h2];exact Px e he
 have Wr:=Asx hcw;clear hcw Px hR1 hrl UY Ai hall hC hrg hN hW hgr Md hx h Hn hG;have HA:=Asx (show Np L nf C rg=((Iq L (C.zip rg) (IU nf)).ok && !((Iq L (C.zip rg) (IU nf)).seen.contains false))from rfl);have HO:=Asx (show (LG L nf C rg).op=(Iq L (C.zip rg) (IU nf)).op from rfl);generalize Np L nf C rg=vA at *;generalize (LG L nf C rg).op=vO at *;go_enter Tryz.func53,Tryz.ntmps53;(go_wp2_with fail);(with_reducible refine so.mono ?_);rintro e w1 ⟨rfl,hx1,-,Jl⟩;(go_wp2_with fail);(with_reducible refine(cy _ hx1 Jl).mono ?_);rintro e w2 ⟨A,cap,rfl,Gu,hx2⟩;have Ci:=Jl.ext hx2;have mR:=hx1.trans hx2;(go_wp2_with fail);(with_reducible refine(rc _ (hw.ext mR) Ci A cap Gu).mono ?_);rintro e w3 ⟨A',rfl,Bi,hx3⟩;have I9:=Ci.ext hx3;have kr:=Gu.ext hx3;have vz:=mR.trans hx3;clear so cy rc Jl Ci hx1 hx2 hx3 Gu mR;have Ck:=(Ab.refl w3).alloc (.map #[] 0);have Jd:Dj (w3.alloc (.map #[] 0)) w3.heap.size []:=Asz w3 (.map #[] 0);obtain⟨W4,hput,DW,hg4,UZ⟩:=Jd.put (-1) (-1) rfl;have hmk:=AlG nf (by omega) (nf:Int) rfl W4;have CJ:Ak (fun j=>j=w3.heap.size) w3 W4:=((Ak.refl _ w3).ext Ck).grown hg4 (fun k e=>by cases e;exact .inl rfl);have KO:Ab w3 W4:=CJ.toExt (Ab.refl w3) (fun k e=>by subst e;exact As0 _);have GG:=(Ab.refl W4).alloc (.cells (madeCells #[.bool false] nf) 4);have own:=AmD W4 w0.heap.size nf (AsA vz.size KO.size) (by omega);have au:Dj (W4.alloc (.cells (madeCells #[.bool false] nf) 4)) w3.heap.size [(-1,-1)]:=(GG.block _ (Asy DW)).trans DW;have s8:W4.heap.size=w3.heap.size+1:=(by rw [UZ];simp);rw [s8]at own;have ac:=KO.trans GG;have OU:G1 (W4.alloc (.cells (madeCells #[.bool false] nf) 4)) (W4.alloc (.cells (madeCells #[.bool false] nf) 4)) w0.heap.size w3.heap.size (w3.heap.size+1) nf (IU nf):=⟨au,own,Ak.refl _ _⟩
 go_upto_region 6 with fail
 clear hmk own au DW hg4 hput Jd Ck CJ GG KO UZ s8 hmm;generalize W4.alloc (.cells (madeCells #[.bool false] nf) 4)=V at *;obtain⟨bm,AB⟩:=Asw w3.heap.size;rw [←AB]at OU ⊢;have Yh:w3.heap.size<=bm:=(by omega);clear AB W4;have hl0:(0:Int)<=(C.length:Int):=(by omega);have hne:bm≠bm+1:=(by omega);have LA:=Asx sw;have IM:=Asx I9;have Ky:=Asx kr;have HRD:=Asx Bi;clear sw I9 kr Bi
 go_upto_region 8 with fail
 go_loopw [4,5,30] (fun o p i wr=>∃(k:Nat) (st:Et),i=.int .i64 (k:Nat)/\k<=C.length/\o=.bool st.ok/\p=.bool st.op/\st=Iq L ((C.zip rg).take k) (IU nf)/\G1 V wr w0.heap.size bm (bm+1) nf st) (fun _ _ i _=>C.length-(intOf i).toNat)
 case atStart=>exact⟨0,IU nf,rfl,by omega,rfl,rfl,rfl,OU⟩
 case round=>
  obtain⟨k,st,rfl,hk,rfl,rfl,hst,hA⟩:=hrel;have BG:Ab w3 wr:=hA.but.toExt ac (fun q e=>by rcases e with e|e<;>omega);have HST:=Asx hst;clear hst;by_cases hlt:k<C.length
  ·obtain⟨bA,oA,A2,c2,rfl,hcell,Kc,hc1,hc2⟩:=Ky.out.row k hlt;replace hcell:=BG.cellS hcell;obtain⟨bB,oB,rfl,hrc⟩:=AnG (HRD.out.ext BG) (show k<rg.length by rw [LA.out];exact hlt);obtain⟨rr,H9⟩:∃rr,rr=rg[k]'(by rw [LA.out];exact hlt):=⟨_,rfl⟩;rw [←H9]at hrc;have hk0:(0:Int)<=(k:Int):=(by omega);have D3:(k:Int)<(C.length:Int):=(by omega);obtain⟨c,hcc⟩:=Asw (C[k]);have hz:=Wr.out k hlt
   have hstep:Iq L ((C.zip rg).take (k+1)) (IU nf)=IT L rr st c:=by rw [As3 (show k<(C.zip rg).length by rw [List.length_zip,LA.out];omega),AeW,←HST.out,List.getElem_zip,←H9,←hcc]
   rw [←hcc]at hcell Kc hc1 hz;have WE:=Asx hstep;have HZ:=Asx hz;have hcl:(0:Int)<=(c.length:Int):=(by omega);have hc0:IT L rr st (c.take 0)=st:=rfl;have Wo:=Asx hc0;have CV:st.seen.length=nf:=(by rw [HST.out,uK];simp [IU]);have J3:=Asx CV;clear hcc H9 hstep hz hc0 CV
   go_upto_region 11 with fail
   go_loopw [4,5,40] (fun o p i wi=>∃(j:Nat) (sj:Et),i=.int .i64 (j:Nat)/\j<=c.length/\o=.bool sj.ok/\p=.bool sj.op/\sj=IT L rr st (c.take j)/\G1 V wi w0.heap.size bm (bm+1) nf sj) (fun _ _ i _=>c.length-(intOf i).toNat)
   case atStart=>exact⟨0,st,rfl,by omega,rfl,rfl,Wo.out.symm,hA⟩
   case round=>
    obtain⟨j,sj,rfl,hj,rfl,rfl,hsj,XC⟩:=hrel;have bK:=Asx hsj;clear hsj;by_cases Ay:j<c.length
    ·have Ya:Ab w3 wr:=XC.but.toExt ac (fun q e=>by rcases e with e|e<;>omega);obtain⟨b',o',rfl,f1,f2,f3,f4⟩:=Lq (Kc.ext Ya) Ay;have hzs:=HZ.out c[j] (As1 Ay);have Yb:IT L rr st (c.take (j+1))=DR rr (AM c[j] L) sj:=(by rw [As3 Ay,AeV,←bK.out]);have CV:sj.seen.length=nf:=(by rw [bK.out,uJ];exact J3.out);obtain⟨s,hs⟩:=Asw (c[j]);rw [←hs]at f1 f2 f3 f4 hzs Yb;have hj0:(0:Int)<=(j:Int):=(by omega);have FS:(j:Int)<(c.length:Int):=(by omega);have Ax:=Asz wr (.cells #[S (R s.a.x),S (R s.a.y),S (R s.b.x),S (R s.b.y)] 140);have E6:=(Ab.refl wr).alloc (.cells #[S (R s.a.x),S (R s.a.y),S (R s.b.x),S (R s.b.y)] 140);have eX:=XC.ext E6;have NX:=IM.out.ext (Ya.trans E6);clear hs XC hA BG
     go_upto_region 13 with fail
     unfold S at Ax eX NX;generalize (wr.alloc (.cells #[.string ⟨(R s.a.x).toArray⟩,.string ⟨(R s.a.y).toArray⟩,.string ⟨(R s.b.x).toArray⟩,.string ⟨(R s.b.y).toArray⟩] 140))=W6 at *;obtain⟨bx,JQ⟩:=Asw wr.heap.size;rw [←JQ]at Ax ⊢;clear JQ f1 f2 f3 f4 E6;have q1:∀q:Ac W6,q.w.cell? ⟨r,0,none⟩=some (.map (some b1)):=Ac.cell (Aa NX.cell rfl);have q2:∀q:Ac W6,q.w.cell? ⟨bx,0,none⟩=some (S (R s.a.x)):=Ac.cell (Aa Ax rfl);have q3:∀q:Ac W6,q.w.cell? ⟨bx,1,none⟩=some (S (R s.a.y)):=Ac.cell (Aa Ax rfl);have q4:∀q:Ac W6,q.w.cell? ⟨bx,2,none⟩=some (S (R s.b.x)):=Ac.cell (Aa Ax rfl);have q5:∀q:Ac W6,q.w.cell? ⟨bx,3,none⟩=some (S (R s.b.y)):=Ac.cell (Aa Ax rfl);have q6:=fun (q:Ac W6)=>O3 s L (NX.ext q.h).left;obtain⟨z,hz⟩:=Asw (AM s L);rw [←hz]at q6 hzs Yb;unfold A8 at q6;have HN:=Asx Yb;clear hz Yb Ax NX;refine Bh (by kernel_rfl) (by kernel_rfl) ?_
     repeat (go_big_quiet_step (fail))
     refine wpQuiet_nil ?_;rintro W7 ⟨q,hq⟩;have Az:Ab W6 W7:=hq▸q.h;clear hq q;have JG:=eX.ext Az;have lk:=VQ rr sj.face JG.face;clear q1 q2 q3 q4 q5 q6 eX Az
     cases hl:Ct rr sj.face with
     | some old=>
      rw [hl]at lk;simp only [Option.getD_some,Option.isSome_some]at lk;have he:DR rr z sj=⟨sj.ok&&decide (old=z),sj.op,sj.face,sj.seen⟩:=(by unfold DR;rw [hl]);have Iz:G1 V W7 w0.heap.size bm (bm+1) nf (DR rr z sj):=(by rw [he];exact⟨JG.face,JG.seen,JG.but⟩);have HE:=Asx he;clear he JG
      cases Ai:sj.ok
      ·have Fj:=Asx Ai;go_wp2;go_roundw
       case rel=>exact⟨j+1,DR rr z sj,by go_num,Ay,by rw [HE.out,Fj.out];rfl,by rw [HE.out],HN.out.symm,Iz⟩
       case measure=>simp [intOf];omega
      ·have Fj:=Asx Ai;by_cases YN:old=z
       ·have HD:=Asx (decide_eq_true YN);subst YN;go_wp2;go_roundw
        case rel=>exact⟨j+1,DR rr old sj,by go_num,Ay,by rw [HE.out,Fj.out,HD.out];rfl,by rw [HE.out],HN.out.symm,Iz⟩
        case measure=>simp [intOf];omega
       ·have HD:=Asx (decide_eq_false YN);have hb:(old == z)=false:=beq_false_of_ne YN;go_wp2;go_roundw
        case rel=>exact⟨j+1,DR rr z sj,by go_num,Ay,by rw [HE.out,Fj.out,HD.out];rfl,by rw [HE.out],HN.out.symm,Iz⟩
        case measure=>simp [intOf];omega
     | none=>
      rw [hl]at lk;simp only [Option.getD_none,Option.isSome_none]at lk;by_cases hz0:z<0
      ·have he:DR rr z sj=⟨false,true,sj.face ++ [(rr,z)],sj.seen⟩:=(by unfold DR;rw [hl];simp only;rw [if_pos hz0]);obtain⟨W8,hput,Iz⟩:=JG.put hne rr z hl;have TW:G1 V W8 w0.heap.size bm (bm+1) nf (DR rr z sj):=(by rw [he];exact⟨Iz.face,Iz.seen,Iz.but⟩);have HE:=Asx he;clear he JG Iz;go_wp2;go_roundw
       case rel=>exact⟨j+1,DR rr z sj,by go_num,Ay,by rw [HE.out],by rw [HE.out],HN.out.symm,TW⟩
       case measure=>simp [intOf];omega
      ·obtain⟨m,rfl⟩:∃m:Nat,z=(m:Int):=⟨z.toNat,by omega⟩;have hm:m<nf:=(by omega);obtain⟨sv,mD⟩:=Asw (sj.seen.getD m false)
       have he:DR rr (m:Int) sj=⟨sj.ok && !sv,sj.op,sj.face ++ [(rr,(m:Int))],sj.seen.set m true⟩:=by unfold DR;rw [hl];simp only;rw [if_neg hz0,mD];rfl
       have hce:W7.cell? ⟨bm+1,m,none⟩=some (.bool sv):=by
        rw [JG.seen.cellAt m (by omega),mD];unfold Is;rw [List.getElem?_map,List.getD_eq_getElem?_getD,As5 (by omega)]
        rfl
       have Gv:=JG.seen.frozenAt m;obtain⟨W8,hput,Iz⟩:=(JG.set hne m).put hne rr (m:Int) hl;have TW:G1 V W8 w0.heap.size bm (bm+1) nf (DR rr (m:Int) sj):=(by rw [he];exact⟨Iz.face,Iz.seen,Iz.but⟩);have HE:=Asx he;have hm0:(0:Int)<=(m:Int):=(by omega);have hm1:(m:Int)<(nf:Int):=(by omega);clear he JG Iz mD
       cases Ai:sj.ok
       ·have Fj:=Asx Ai;go_wp2;go_roundw
        case rel=>exact⟨j+1,DR rr (m:Int) sj,by go_num,Ay,by rw [HE.out,Fj.out];rfl,by rw [HE.out],HN.out.symm,TW⟩
        case measure=>simp [intOf];omega
       ·have Fj:=Asx Ai
        cases sv
        ·go_wp2;go_roundw
         case rel=>exact⟨j+1,DR rr (m:Int) sj,by go_num,Ay,by rw [HE.out,Fj.out];rfl,by rw [HE.out],HN.out.symm,TW⟩
         case measure=>simp [intOf];omega
        ·go_wp2;go_roundw
         case rel=>exact⟨j+1,DR rr (m:Int) sj,by go_num,Ay,by rw [HE.out,Fj.out];rfl,by rw [HE.out],HN.out.symm,TW⟩
         case measure=>simp [intOf];omega
    ·have D2:j=c.length:=(by omega);subst D2;have AQ:sj=Iq L ((C.zip rg).take (k+1)) (IU nf):=(by rw [WE.out,bK.out,List.take_length]);have HF:=Asx AQ;clear AQ;have YB:(c.length:Int)<=(c.length:Int):=(by omega);go_wp2;go_roundw
     case rel=>exact⟨k+1,sj,by go_num,hlt,rfl,rfl,HF.out,XC⟩
     case measure=>simp [intOf];omega
  ·have Ch:k=C.length:=(by omega);subst Ch;have AQ:st=Iq L (C.zip rg) (IU nf):=(by rw [HST.out,As8 (by rw [List.length_zip];omega)]);have HF:=Asx AQ;obtain⟨A3,ApZ,KY,sf,zN,zO⟩:=Ad.of_own' (by omega) hA.seen;simp only [Value.slice.injEq,true_and]at KY;obtain⟨rfl,rfl⟩:=KY;have CV:st.seen.length=nf:=(by rw [HST.out,uK];simp [IU]);have cb:=Agz st.seen false (some ⟨bm+1,0,none⟩) nf wr sf (by omega) zO;rw [CV]at cb;have hv:vA=(st.ok && !(st.seen.contains false)):=(by rw [HA.out,←HF.out]);have ho:vO=st.op:=(by rw [HO.out,←HF.out]);have HV:=Asx hv;subst ho;obtain⟨cv,hcv⟩:=Asw (st.seen.contains false);rw [←hcv]at cb;have HCV:=Asx hcv;have fg:=vz.trans BG;clear AQ CV hv hcv hA sf
   cases Ai:st.ok
   ·have Fj:=Asx Ai;obtain rfl:vA=false:=(by rw [HV.out,Fj.out];rfl);go_wp2;go_ret2;exact⟨rfl,fg,IM.out.ext BG⟩
   ·have Fj:=Asx Ai;obtain rfl:vA = !cv:=(by rw [HV.out,Fj.out,←HCV.out];rfl);(go_wp2_with fail);(with_reducible refine cb.mono ?_);rintro e w9 ⟨rfl,Df⟩;go_wp2;go_ret2;exact⟨rfl,fg.trans Df,IM.out.ext (BG.trans Df)⟩
theorem AeZ{w0 w:World}(hw:Aj w0)(hx:Ab w0 w){r b1 b2:Nat}{L:List (Sg×Int)}{E:List (Pt×Value×Nat)}{R0:List (Pt×List Pt)}(h:B7 w0.heap.size w r b1 b2 L E R0){W:List Sg}(Md:W=L.map (·.1))(hN:FN W R0)(hW:Qw W)(hgr:∀s∈W,G5 s)
  (hlen:L.length<=100000) (hrl:∀e∈R0,e.2.length<100000) (nf:Nat) (BS:nf<=100000) (Px:∀x∈L,-1<=x.2/\x.2<(nf:Int)) {R1:List (Pt×List Pt)} (hR1:R1=R0.map (fun e=>(e.1,Dt e.1 e.2))) {C:List (List Sg)} (hC:C=Ix W R1) {rg:List Int} (hrg:rg=Lr W C) :
  Calls Tryz.prog 53 #[.pointer (some ⟨r,0,none⟩),.int .i64 (nf:Nat)] w fun e w'=>e=.returned (.tuple #[.bool (Np L nf C rg),.bool (LG L nf C rg).op])/\Ab w0 w':=(uL hw hx h Md hN hW hgr hlen hrl nf BS Px hR1 hC hrg).mono fun _ _ k=>⟨k.1,k.2.1⟩
end Go.Proofs.YtnddllipjippnaaGreatDoor
namespace Go.Proofs.YtnddllipjippnaaGreatDoor
open Go.RowKit Kl
theorem zH(l:List (Bs×Bs))(i:Nat):flat (l.take i)=(flat l).take (i*2):=by
 induction l generalizing i with
 | nil=>simp [flat]
 | cons e l ih=>
  cases i with
  | zero=>simp [flat]
  | succ i=>have e0:∀l,flat (e::l)=S e.1::S e.2::flat l:=fun _=>rfl;rw [List.take_succ_cons,e0,e0,ih];have e1:(i+1)*2=i*2+1+1:=(by omega);rw [e1];simp
theorem Anp(l:List Pt)(i:Nat):Ag (l.take i)=(Ag l).take i:=by unfold Ag;rw [List.map_take]
theorem xE(l:List Pt)(i:Nat)(hi:i<=l.length)(p:Pt)(A:Option Addr)(c:Nat)(w:World)(hr:Ad w A (flat (Ag l)))(hc:l.length<=c)(hcm:c<=9223372036854775807) :
  Calls Tryz.prog 48 #[.slice A i c,Af p] w (BP ((l.take i).any (Aq p)) w):=by
 have:=contains_c (l.take i) p A c w (by rw [Anp,zH];exact hr.take _) (by rw [List.length_take];omega) hcm;rw [List.length_take,Nat.min_eq_left hi]at this;exact this
def oI(m:MapZ):List Sg:=(AD m.pts m.eds).map (·.1)
def oH(m:MapZ):List (Pt×List Pt):=(BM m.pts m.eds).map (fun e=>(e.1,Dt e.1 e.2))
def PP(m:MapZ):List (List Sg):=Ix (oI m) (oH m)
def RR(m:MapZ):List Int:=Lr (oI m) (PP m)
def dS(m:MapZ):Int:=if TO (BM m.pts m.eds) m.pts=true then 25 else if Np (AD m.pts m.eds) m.nf (PP m) (RR m)=true then 0 else 14
theorem AmR(m:MapZ)(hgr:∀p∈m.pts,Ce p){k:Nat}(hk:0<k)(hk2:k<=1)(hz:∀p∈m.pts,Aw k p)(A B F:Option Addr)(c d g:Nat)(AW:Db m c d g)(w:World)(hw:Aj w)(hA:Ad w A (flat (Ag m.pts)))(hB:Ad w B (Ar m.eds))(r:Int)
  (h0:Nt m=true→r=4) (h1:Nt m=false→Cr [] m.pts≠0→r=Cr [] m.pts)
  (h2:Nt m=false→Cr [] m.pts=0→DC m.pts.length m.nf [] m.eds≠0→r=DC m.pts.length m.nf [] m.eds) (h3:Nt m=false→Cr [] m.pts=0→DC m.pts.length m.nf [] m.eds=0→Ey m.pts [] m.eds≠0→r=26)
  (h4:Nt m=false→Cr [] m.pts=0→DC m.pts.length m.nf [] m.eds=0→Ey m.pts [] m.eds=0→r=dS m) :
  Calls Tryz.prog 19 #[AH A B F m c d g] w (AI r w):=by
 have HA:=Asx hA;have HB:=Asx hB;have HZ:=Asx hz;have H0:=Asx h0;have H1:=Asx h1;have H2:=Asx h2;have H3:=Asx h3;have H4:=Asx h4;have IL:=Asx hgr;have HC:=Asx AW;obtain⟨c1,c2,d1,d2,g1,g2⟩:=AW;have HL:=Asx (show Nt m=(decide (400<m.pts.length)||(decide (1200<m.eds.length)||decide (800<m.nf)))from rfl);have hM:=Asz w (.cells #[.slice A m.pts.length c,.slice B m.eds.length d,.slice F m.nf g] 35);have hE:=(Ab.refl w).alloc (.cells #[.slice A m.pts.length c,.slice B m.eds.length d,.slice F m.nf g] 35);unfold AH;clear hA hB hz h0 h1 h2 h3 h4 hgr;go_enter Tryz.func19,Tryz.ntmps19
 go_upto_region 1 with fail
 generalize w.alloc (.cells #[.slice A m.pts.length c,.slice B m.eds.length d,.slice F m.nf g] 35)=V at *;obtain⟨bm,AB⟩:=Asw w.heap.size;rw [←AB]at hM ⊢;have hle:w.heap.size<=bm:=(by omega);clear AB;have m1:=Aa (o:=0) hM rfl;have m2:=Aa (o:=1) hM rfl;have m3:=Aa (o:=2) hM rfl;by_cases n1:(400:Int)<(m.pts.length:Int)
 ·have dd:decide ((400:Int)<(m.pts.length:Int))=true:=decide_eq_true n1;have HH:=Asx (show r=4 from H0.out (by rw [HL.out,decide_eq_true (by omega)];rfl));go_wp2;go_ret;exact⟨by rw [HH.out];rfl,hE⟩
 have TF:decide ((400:Int)<(m.pts.length:Int))=false:=decide_eq_false n1;by_cases n2:(1200:Int)<(m.eds.length:Int)
 ·have dd:decide ((1200:Int)<(m.eds.length:Int))=true:=decide_eq_true n2;have HH:=Asx (show r=4 from H0.out (by rw [HL.out,decide_eq_true (p:=1200<m.eds.length) (by omega)];simp));clear n1;go_wp2;go_ret;exact⟨by rw [HH.out];rfl,hE⟩
 have Q8:decide ((1200:Int)<(m.eds.length:Int))=false:=decide_eq_false n2;by_cases n3:(800:Int)<(m.nf:Int)
 ·have dd:decide ((800:Int)<(m.nf:Int))=true:=decide_eq_true n3;have HH:=Asx (show r=4 from H0.out (by rw [HL.out,decide_eq_true (p:=800<m.nf) (by omega)];simp));clear n1 n2;go_wp2;go_ret;exact⟨by rw [HH.out];rfl,hE⟩
 have Xq:decide ((800:Int)<(m.nf:Int))=false:=decide_eq_false n3;have HN:=Asx (show Nt m=false by rw [HL.out,decide_eq_false (by omega),decide_eq_false (by omega),decide_eq_false (by omega)];rfl);have Arw:m.pts.length<=400:=(by omega);have AiX:m.eds.length<=1200:=(by omega);have AqP:m.nf<=800:=(by omega);clear n1 n2 n3 HL H0
 go_upto_block 0 with fail
 clear TF Q8 Xq m1 m2 m3
 go_cut [] (fun wx=>Cr [] m.pts=0/\Ab V wx)
 case first=>
  (go_wp2_with fail)
  go_loopw [33] (fun i wr=>∃j:Nat,i=.int .i64 (j:Nat)/\j<=m.pts.length/\Cr (m.pts.take j) (m.pts.drop j)=Cr [] m.pts/\Ab V wr) (fun i _=>m.pts.length-(intOf i).toNat)
  case atStart=>exact⟨0,rfl,by omega,by simp,Ab.refl _⟩
  case round=>
   obtain⟨j,rfl,hj,Ai,Ae⟩:=hrel;have HO:=Asx Ai;clear Ai;by_cases hlt:j<m.pts.length
   ·obtain⟨b,o,rfl,hg1,hg2⟩:=BN ((HA.out.ext hE).ext Ae) hlt;have hz:=HZ.out m.pts[j] (As1 hlt);obtain⟨p,hp⟩:=Asw (m.pts[j]);have HP:=Asx hp;have HS:=Asx (wO hlt);rw [←hp]at hg1 hg2 hz;have hj0:(0:Int)<=(j:Int):=(by omega);have Ay:(j:Int)<(m.pts.length:Int):=(by omega);have nw:(j:Int)<=(c:Int):=(by omega);have Ap:=Asz wr (.cells #[S (R p.x),S (R p.y)] 24);have hx1:=Ae.alloc (.cells #[S (R p.x),S (R p.y)] 24);have ck:=Ns (R p.x) (R p.y) true (by simp only [true_iff];exact⟨Kp hz.x hk (by omega),Kp hz.y hk (by omega)⟩) (MO hz.x hk (by omega)) (MO hz.y hk (by omega));rw [Iv]at ck;clear hp hz
    go_upto_region 6 with fail
    generalize wr.alloc (.cells #[S (R p.x),S (R p.y)] 24)=V1 at *;obtain⟨bp,JP⟩:=Asw wr.heap.size;rw [←JP]at Ap ⊢;clear JP hg1 hg2;have k1:=Aa (o:=0) Ap rfl;have k2:=Aa (o:=1) Ap rfl;(go_wp2_with fail);(with_reducible refine(ck _ (hw.ext (hE.trans hx1))).mono ?_);rintro e w2 ⟨rfl,hx2⟩;have BH:=(hx2.block _ (Asy Ap)).trans Ap;replace hx2:=hx1.trans hx2;have hw2:=hw.ext (hE.trans hx2);have EB:=(hx2.block _ (Asy hM)).trans hM;have f1:∀q:Ac w2,q.w.cell? ⟨bp,0,none⟩=some (S (R p.x)):=Ac.cell (Aa BH rfl);have f2:∀q:Ac w2,q.w.cell? ⟨bp,1,none⟩=some (S (R p.y)):=Ac.cell (Aa BH rfl);have f3:∀q:Ac w2,q.w.cell? ⟨bm,0,none⟩=some (.slice (some ⟨b,o,none⟩) m.pts.length c):=Ac.cell (Aa EB rfl);have ct:=fun q:Ac w2=>xE m.pts j hj p (some ⟨b,o,none⟩) c q.w ((HA.out.ext (hE.trans hx2)).ext q.h) c1 c2;unfold Af at ct;obtain⟨du,Hw⟩:=Asw ((m.pts.take j).any (Aq p));rw [←Hw]at ct;have HD:=Asx Hw;clear Hw k1 k2 ck Ap BH EB hx1 Ae;(go_wp2_with fail);refine Bh (by kernel_rfl) (by kernel_rfl) ?_
    repeat (go_big_quiet_step (with_reducible refine TL (ct _)))
    refine wpQuiet_nil ?_;rintro _ ⟨q,rfl⟩;have mV:=hx2.trans q.h;have HQ:=Asx mV
    cases du
    ·have HH:=Asx (show Cr (m.pts.take (j+1)) (m.pts.drop (j+1))=Cr [] m.pts by
      rw [←HO.out,HS.out,←HP.out,←HD.out];rfl)
     go_wp2;go_roundw
     case rel=>exact⟨j+1,by go_num,hlt,HH.out,HQ.out⟩
     case measure=>simp [intOf];omega
    ·have HH:=Asx (show Cr [] m.pts=9 by rw [←HO.out,HS.out,←HP.out,←HD.out];rfl);have HR:=Asx (show r=9 by rw [←HH.out];exact H1.out HN.out (by rw [HH.out];omega));go_wp2;go_ret;exact⟨by rw [HR.out];rfl,hE.trans HQ.out⟩
   ·have hle:(m.pts.length:Int)<=(j:Int):=(by omega);have HH:=Asx (show Cr [] m.pts=0 by rw [←HO.out,List.drop_eq_nil_of_le (by omega)];unfold Cr;rfl);go_wp2;go_meet;exact⟨HH.out,Ae⟩
 case rest=>
  obtain⟨hc1,hx1⟩:=hcut;have rL:=Asx (fun h=>H2.out HN.out hc1 h);have aF:=Asx hc1;have tI:=Asx hx1;have LY:=(hx1.block _ (Asy hM)).trans hM;have m1:=Aa (o:=1) LY rfl;clear hc1 H1 hx1
  go_upto_block 3 with fail
  clear m1
  go_cut [] (fun wx=>DC m.pts.length m.nf [] m.eds=0/\Ab V wx)
  case first=>
   (go_wp2_with fail)
   go_loopw [53] (fun i wr=>∃j:Nat,i=.int .i64 (j:Nat)/\j<=m.eds.length/\DC m.pts.length m.nf (m.eds.take j) (m.eds.drop j)=DC m.pts.length m.nf [] m.eds/\Ab V wr) (fun i _=>m.eds.length-(intOf i).toNat)
   case atStart=>exact⟨0,rfl,by omega,by simp,tI.out⟩
   case round=>
    obtain⟨j,rfl,hj,Ai,Ae⟩:=hrel;have HO:=Asx Ai;clear Ai;by_cases hlt:j<m.eds.length
    ·have hj0:(0:Int)<=(j:Int):=(by omega);have Ay:(j:Int)<(m.eds.length:Int):=(by omega);have HS:=Asx (Agi (np:=m.pts.length) (nf:=m.nf) hlt);have ce:=Agc m A B F c d g HC.out j hlt wr (HB.out.ext (hE.trans Ae));obtain⟨z,hz⟩:=Asw (KH m.pts.length m.nf (m.eds.take j) m.eds[j]);rw [←hz]at ce;have tK:=Asx hz;unfold AH at ce;have Fx:=(Ae.block _ (Asy hM)).trans hM;have m1:=Aa (o:=0) Fx rfl;have m2:=Aa (o:=1) Fx rfl;have m3:=Aa (o:=2) Fx rfl;clear hz Fx;(go_wp2_with fail);(with_reducible refine ce.mono ?_);rintro e w2 ⟨rfl,hx2⟩;have HX:=Asx (Ae.trans hx2);clear m1 m2 m3 hx2 ce;by_cases hz0:z=0
     ·have HH:=Asx (show DC m.pts.length m.nf (m.eds.take (j+1)) (m.eds.drop (j+1))=DC m.pts.length m.nf [] m.eds by
       rw [←HO.out,HS.out,←tK.out,if_neg (by omega)])
      subst hz0;go_wp2;go_roundw
      case rel=>exact⟨j+1,by go_num,hlt,HH.out,HX.out⟩
      case measure=>simp [intOf];omega
     ·have HH:=Asx (show DC m.pts.length m.nf [] m.eds=z by rw [←HO.out,HS.out,←tK.out,if_pos (by omega)]);have HR:=Asx (show r=z by rw [←HH.out];exact rL.out (by rw [HH.out];exact hz0));have dd:(z == 0)=false:=(by rw [beq_eq_false_iff_ne];exact hz0);have Q8:(z != 0)=true:=(by rw [bne_iff_ne];exact hz0);clear hz0;go_wp2;go_ret;exact⟨by rw [HR.out];rfl,hE.trans HX.out⟩
    ·have hle:(m.eds.length:Int)<=(j:Int):=(by omega);have HH:=Asx (show DC m.pts.length m.nf [] m.eds=0 by rw [←HO.out,List.drop_eq_nil_of_le (by omega)];unfold DC;rfl);go_wp2;go_meet;exact⟨HH.out,Ae⟩
  case rest=>
   obtain⟨hc2,hx1⟩:=hcut;have rM:=Asx (fun h=>H3.out HN.out aF.out hc2 h);have SB:=Asx hc2;have HX2:=Asx hx1;have LY:=(hx1.block _ (Asy hM)).trans hM;have m1:=Aa (o:=1) LY rfl;clear hc2 rL tI hx1
   go_upto_region 18 with fail
   go_upto_block 5 with fail
   go_cut [] (fun wx=>Ey m.pts [] m.eds=0/\Ab V wx)
   case first=>
    (go_wp2_with fail)
    go_loopw [66] (fun i wr=>∃j:Nat,i=.int .i64 (j:Nat)/\j<=m.eds.length/\Ey m.pts (m.eds.take j) (m.eds.drop j)=Ey m.pts [] m.eds/\Ab V wr) (fun i _=>m.eds.length-(intOf i).toNat)
    case atStart=>exact⟨0,rfl,by omega,by simp,HX2.out⟩
    case round=>
     obtain⟨j,rfl,hj,Ai,Ae⟩:=hrel;have HO:=Asx Ai;clear Ai;by_cases hlt:j<m.eds.length
     ·have hj0:(0:Int)<=(j:Int):=(by omega);have Ay:(j:Int)<(m.eds.length:Int):=(by omega);have hjd:(j:Int)<=(d:Int):=(by omega);have HS:=Asx (Agj (pts:=m.pts) hlt);obtain⟨b,o,rfl,hg1,hg2,hg3,hg4⟩:=MD ((HB.out.ext hE).ext Ae) hlt;have hck:=T8 (Q0 (l:=m.eds) SB.out j hlt);obtain⟨e,he⟩:=Asw (m.eds[j]);rw [←he]at hg1 hg2 hg3 hg4 hck;have rT:=Asx he;obtain⟨ef,KZ⟩:∃n:Nat,e.f=(n:Int):=⟨e.f.toNat,by omega⟩;obtain⟨et,Po⟩:∃n:Nat,e.t=(n:Int):=⟨e.t.toNat,by omega⟩;have Rf:ef<m.pts.length:=(by omega);have Rh:et<m.pts.length:=(by omega);have SC:=Asx (And.intro KZ Po);rw [KZ]at hg1;rw [Po]at hg2;obtain⟨ba,oa,rfl,ha1,ha2⟩:=BN ((HA.out.ext hE).ext Ae) Rf;obtain⟨b2,o2,ET,hb1,hb2⟩:=BN ((HA.out.ext hE).ext Ae) Rh;obtain⟨rfl,rfl⟩:ba=b2/\oa=o2:=(by simpa using ET);have RG:=HZ.out m.pts[ef] (As1 Rf);have hzb:=HZ.out m.pts[et] (As1 Rh);obtain⟨pa,FA⟩:=Asw (m.pts[ef]);obtain⟨pb,Oa⟩:=Asw (m.pts[et]);rw [←FA]at ha1 ha2 RG;rw [←Oa]at hb1 hb2 hzb;have Fo:=Asx (And.intro FA Oa);have f0:(0:Int)<=(ef:Int):=(by omega);have f1:(ef:Int)<(m.pts.length:Int):=(by omega);have f2:(0:Int)<=(et:Int):=(by omega);have f3:(et:Int)<(m.pts.length:Int):=(by omega);have Fx:=(Ae.block _ (Asy hM)).trans hM;have m1:=Aa (o:=1) Fx rfl;have Ap:=Asz wr (.cells #[.int .i64 (ef:Nat),.int .i64 (et:Nat),.int .i64 e.l,.int .i64 e.r] 51);have hx1:=Ae.alloc (.cells #[.int .i64 (ef:Nat),.int .i64 (et:Nat),.int .i64 e.l,.int .i64 e.r] 51);have hx0:=(Ab.refl wr).alloc (.cells #[.int .i64 (ef:Nat),.int .i64 (et:Nat),.int .i64 e.l,.int .i64 e.r] 51);replace ha1:=hx0.cellS ha1;replace ha2:=hx0.cellS ha2;replace hb1:=hx0.cellS hb1;replace hb2:=hx0.cellS hb2;clear hck he KZ Po ET FA Oa
      go_upto_region 21 with fail
      generalize wr.alloc (.cells #[.int .i64 (ef:Nat),.int .i64 (et:Nat),.int .i64 e.l,.int .i64 e.r] 51)=V1 at *;obtain⟨bp,JP⟩:=Asw wr.heap.size;rw [←JP]at Ap ⊢;clear JP hg1 hg2 hg3 hg4 Ae Fx m1 hx0;have CE:=(hx1.block _ (Asy hM)).trans hM;have m1:=Aa (o:=1) CE rfl
      go_upto_region 22 with fail
      clear m1
      go_loopw [76] (fun i wr=>∃jj:Nat,i=.int .i64 (jj:Nat)/\jj<=j/\(∀f∈m.eds.take jj,Q5 m.pts e f=false)/\Ab V1 wr) (fun i _=>j-(intOf i).toNat)
      case atStart=>exact⟨0,rfl,by omega,by simp,Ab.refl _⟩
      case round=>
       obtain⟨jj,rfl,D2,Ai,Ae⟩:=hrel;have Ww:=Asx Ai;clear Ai;by_cases hlt2:jj<j
       ·have jj0:(0:Int)<=(jj:Int):=(by omega);have jjl:(jj:Int)<(j:Int):=(by omega);have Pw:jj<m.eds.length:=(by omega);obtain⟨b',o',AZ,hg1,hg2,hg3,hg4⟩:=MD (((HB.out.ext hE).ext hx1).ext Ae) Pw;obtain⟨rfl,rfl⟩:b=b'/\o=o':=(by simpa using AZ);have hck:=T8 (Q0 (l:=m.eds) SB.out jj Pw);obtain⟨f,hf⟩:=Asw (m.eds[jj]);rw [←hf]at hg1 hg2 hg3 hg4 hck;have rV:=Asx hf;obtain⟨ff,JS⟩:∃n:Nat,f.f=(n:Int):=⟨f.f.toNat,by omega⟩;obtain⟨ft,kD⟩:∃n:Nat,f.t=(n:Int):=⟨f.t.toNat,by omega⟩;have kA:ff<m.pts.length:=(by omega);have kE:ft<m.pts.length:=(by omega);have rU:=Asx (And.intro JS kD);rw [JS]at hg1;rw [kD]at hg2;obtain⟨b3,o3,KY,hc1,hc2⟩:=BN ((HA.out.ext hE).ext hx1) kA;obtain⟨b4,o4,ll,jV,Hv⟩:=BN ((HA.out.ext hE).ext hx1) kE;obtain⟨rfl,rfl⟩:ba=b3/\oa=o3:=(by simpa using KY);obtain⟨rfl,rfl⟩:ba=b4/\oa=o4:=(by simpa using ll);have mZ:=HZ.out m.pts[ff] (As1 kA);have hzd:=HZ.out m.pts[ft] (As1 kE);obtain⟨pc,EX⟩:=Asw (m.pts[ff]);obtain⟨pd,lQ⟩:=Asw (m.pts[ft]);rw [←EX]at hc1 hc2 mZ;rw [←lQ]at jV Hv hzd;have sU:=Asx (And.intro EX lQ);have f4:(0:Int)<=(ff:Int):=(by omega);have f5:(ff:Int)<(m.pts.length:Int):=(by omega);have f6:(0:Int)<=(ft:Int):=(by omega);have f7:(ft:Int)<(m.pts.length:Int):=(by omega);have BH:=Asz wr (.cells #[.int .i64 (ff:Nat),.int .i64 (ft:Nat),.int .i64 f.l,.int .i64 f.r] 51);have hx2:=Ae.alloc (.cells #[.int .i64 (ff:Nat),.int .i64 (ft:Nat),.int .i64 f.l,.int .i64 f.r] 51);clear hck hf JS kD KY ll EX lQ AZ
        go_upto_region 24 with fail
        generalize wr.alloc (.cells #[.int .i64 (ff:Nat),.int .i64 (ft:Nat),.int .i64 f.l,.int .i64 f.r] 51)=V2 at *;obtain⟨bq,Uy⟩:=Asw wr.heap.size;rw [←Uy]at BH ⊢;have hx3:=hx1.trans hx2;have EB:=(hx2.block _ (Asy CE)).trans CE;have jG:=(hx2.block _ (Asy Ap)).trans Ap;have hwV:=hw.ext (hE.trans hx3);have q1:∀q:Ac V2,q.w.cell? ⟨bm,0,none⟩=some (.slice (some ⟨ba,oa,none⟩) m.pts.length c):=Ac.cell (Aa EB rfl);have q2:∀q:Ac V2,q.w.cell? ⟨bp,0,none⟩=some (.int .i64 (ef:Nat)):=Ac.cell (Aa jG rfl);have q3:∀q:Ac V2,q.w.cell? ⟨bp,1,none⟩=some (.int .i64 (et:Nat)):=Ac.cell (Aa jG rfl);have q4:∀q:Ac V2,q.w.cell? ⟨bq,0,none⟩=some (.int .i64 (ff:Nat)):=Ac.cell (Aa BH rfl);have q5:∀q:Ac V2,q.w.cell? ⟨bq,1,none⟩=some (.int .i64 (ft:Nat)):=Ac.cell (Aa BH rfl);have a1:∀q:Ac V2,q.w.cell? ⟨ba,oa+ef*2,none⟩=some (S (R pa.x)):=Ac.cell (hx2.cellS ha1);have a2:∀q:Ac V2,q.w.cell? ⟨ba,oa+ef*2+1,none⟩=some (S (R pa.y)):=Ac.cell (hx2.cellS ha2);have a3:∀q:Ac V2,q.w.cell? ⟨ba,oa+et*2,none⟩=some (S (R pb.x)):=Ac.cell (hx2.cellS hb1);have a4:∀q:Ac V2,q.w.cell? ⟨ba,oa+et*2+1,none⟩=some (S (R pb.y)):=Ac.cell (hx2.cellS hb2);have a5:∀q:Ac V2,q.w.cell? ⟨ba,oa+ff*2,none⟩=some (S (R pc.x)):=Ac.cell (hx2.cellS hc1);have a6:∀q:Ac V2,q.w.cell? ⟨ba,oa+ff*2+1,none⟩=some (S (R pc.y)):=Ac.cell (hx2.cellS hc2);have a7:∀q:Ac V2,q.w.cell? ⟨ba,oa+ft*2,none⟩=some (S (R pd.x)):=Ac.cell (hx2.cellS jV);have a8:∀q:Ac V2,q.w.cell? ⟨ba,oa+ft*2+1,none⟩=some (S (R pd.y)):=Ac.cell (hx2.cellS Hv);have cr:=fun q:Ac V2=>AmS pa pb pc pd RG hzb mZ hzd hk (by omega) q.w (hwV.ext q.h);obtain⟨cx,jU⟩:=Asw (Oy pa pb pc pd);rw [←jU]at cr
        have hce:Q5 m.pts e f=cx:=by unfold Q5 EJ;rw [SC.out.1,SC.out.2,rU.out.1,rU.out.2,jU,Fo.out.1,Fo.out.2,sU.out.1,sU.out.2];simp [Rf,Rh,kA,kE]
        have Wq:=Asx hce;unfold Af at cr;clear Uy EB jG BH ha1 ha2 hb1 hb2 hc1 hc2 jV Hv RG hzb mZ hzd jU hce hg1 hg2 hg3 hg4 CE Ap;refine Bh (by kernel_rfl) (by kernel_rfl) ?_
        repeat (go_big_quiet_step (with_reducible refine TL (cr _)))
        refine wpQuiet_nil ?_;rintro _ ⟨q,rfl⟩;have Nh:=Asx (hx2.trans q.h);have Td:=Asx (hE.trans (hx3.trans q.h));clear q1 q2 q3 q4 q5 a1 a2 a3 a4 a5 a6 a7 a8 cr hx2 hx3
        cases cx
        ·go_wp2;go_roundw
         case rel=>
          refine⟨jj+1,by go_num,by omega,?_,Nh.out⟩;intro x hx;rw [As3 Pw,←rV.out]at hx
          rcases List.mem_append.1 hx with h|h
          ·exact Ww.out x h
          ·simp only [AsC]at h;rw [h];exact Wq.out
         case measure=>simp [intOf];omega
        ·have HH:=Asx (show Ey m.pts [] m.eds=26 by
          rw [←HO.out,HS.out,if_pos];rw [←rT.out,List.any_eq_true]
          exact⟨f,by rw [rV.out,List.mem_take_iff_getElem];exact⟨jj,by omega,rfl⟩,Wq.out⟩)
         have HR:=Asx (show r=26 from rM.out (by rw [HH.out];omega));go_wp2;go_ret;exact⟨by rw [HR.out];rfl,Td.out⟩
       ·have YB:(j:Int)<=(jj:Int):=(by omega);obtain rfl:jj=j:=by omega
        have HH:=Asx (show Ey m.pts (m.eds.take (jj+1)) (m.eds.drop (jj+1))=Ey m.pts [] m.eds by
         rw [←HO.out,HS.out,if_neg];rw [←rT.out,Bool.not_eq_true,List.any_eq_false]
         intro x hx;rw [Ww.out x hx];simp)
        have HX:=Asx (hx1.trans Ae);go_wp2;go_roundw
        case rel=>exact⟨jj+1,by go_num,hlt,HH.out,HX.out⟩
        case measure=>simp [intOf];omega
     ·have hle:(m.eds.length:Int)<=(j:Int):=(by omega);have HH:=Asx (show Ey m.pts [] m.eds=0 by rw [←HO.out,List.drop_eq_nil_of_le (by omega)];unfold Ey;rfl);go_wp2;go_meet;exact⟨HH.out,Ae⟩
   case rest=>
    obtain⟨hc3,hx1⟩:=hcut;obtain⟨wx,rfl⟩:=named hx1;have HH4:=Asx (H4.out HN.out aF.out SB.out hc3);have F7:=TJ aF.out SB.out;have LY:=(hx1.block _ (Asy hM)).trans hM;have x0:=Aa (o:=0) LY rfl;have x1:=Aa (o:=1) LY rfl;have x2:=Aa (o:=2) LY rfl;have B8:=hE.trans hx1;have AW:Db m c d g:=HC.out;have oc:=Zv m A B F c d g AW F7 AiX wx (HA.out.ext B8) (HB.out.ext B8);have AjD:=hw.ext B8;unfold AH at oc;have ag:=fun (w2:World) (h2:Ab wx w2) (rn b1 b2:Nat) (E:List (Pt×Value×Nat)) (hn:B7 wx.heap.size w2 rn b1 b2 (AD m.pts m.eds) E (BM m.pts m.eds))=>AeZ AjD h2 hn rfl (oG m.pts m.eds) (Zo F7 IL.out hc3) (Vz F7 IL.out) (by rw [RU];omega) (fun e he=>by have:=RS m.pts m.eds e he;omega) m.nf (by omega) (Aas SB.out) (R1:=oH m) rfl (C:=PP m) rfl (rg:=RR m) rfl;have Rt:∀(fn:Fn) (first cap:Array Value) (w:World),(Instr.makeFunc fn first cap).run Tryz.prog w=.ok (.func fn first cap) w:=fun _ _ _ _=>rfl;have sM:=Asx LY;obtain⟨fw,hfw⟩:=Asw (TO (BM m.pts m.eds) m.pts);obtain⟨ab,hab⟩:=Asw (Np (AD m.pts m.eds) m.nf (PP m) (RR m))
    have hr:r=if fw=true then 25 else if ab=true then 0 else 14:=by rw [HH4.out,hfw,hab];rfl
    have HFW:=Asx hfw;have HR:=Asx hr;rw [←hab]at ag;generalize (LG (AD m.pts m.eds) m.nf (PP m) (RR m)).op=ao at *;clear LY hx1 F7 hc3 hfw hab hr H2 H3 rM
    go_upto_region 28 with fail
    (go_wp2_with fail);(with_reducible refine oc.mono ?_);rintro e w2 ⟨rn,b1,b2,E,rfl,hx2,Ci⟩;have Ck:=(Ab.refl w2).alloc (.cells #[.pointer (some ⟨rn,0,none⟩)] 93);have Cv:=Asz w2 (.cells #[.pointer (some ⟨rn,0,none⟩)] 93);have I9:=Ci.ext Ck;have hx3:=hx2.trans Ck;have CG:=(hx3.block _ (Asy sM.out)).trans sM.out;have y0:=Aa (o:=0) CG rfl;clear x0 x1 x2 oc Ci
    go_upto_region 29 with fail
    generalize w2.alloc (.cells #[.pointer (some ⟨rn,0,none⟩)] 93)=w3 at *;obtain⟨bn,NM⟩:=Asw w2.heap.size;rw [←NM]at Cv ⊢;clear NM;have af:=Afc I9 bn (Aa Cv rfl) m.pts A c (HA.out.ext (B8.trans hx3)) (by assumption) (by assumption);rw [←HFW.out]at af;(go_wp2_with fail);(with_reducible refine af.mono ?_);rintro e w4 ⟨rfl,Ao⟩;have wd:=hx3.trans Ao;have LX:=(Ao.block _ (Asy CG)).trans CG;have jo:=(Ao.block _ (Asy Cv)).trans Cv;have z2:=Aa (o:=2) LX rfl;have z3:=Aa (o:=0) jo rfl;have ag4:=ag w4 wd rn b1 b2 E (I9.ext Ao);clear ag af CG Cv LX jo y0 I9 hx2 hx3 Ck Ao
    cases fw
    ·have OG:=Asx (show r=if ab=true then 0 else 14 from HR.out);(go_wp2_with fail);(with_reducible refine ag4.mono ?_);rintro e w5 ⟨rfl,As⟩
     cases ab
     ·obtain rfl:r=14:=OG.out;go_wp2;go_ret;exact⟨rfl,B8.trans As⟩
     ·obtain rfl:r=0:=OG.out;go_wp2;go_ret;exact⟨rfl,B8.trans As⟩
    ·obtain rfl:r=25:=HR.out;go_wp2;go_ret;exact⟨rfl,B8.trans wd⟩
def Fq(m:MapZ):Int:=
 if Nt m=true then 4 else if Cr [] m.pts≠0 then Cr [] m.pts else if DC m.pts.length m.nf [] m.eds≠0 then DC m.pts.length m.nf [] m.eds else if Ey m.pts [] m.eds≠0 then 26 else dS m
theorem PR(m:MapZ)(hgr:∀p∈m.pts,Ce p)(A B F:Option Addr)(c d g:Nat)(AW:Db m c d g)(w:World)(hw:Aj w)(hA:Ad w A (flat (Ag m.pts)))(hB:Ad w B (Ar m.eds)) :
  Calls Tryz.prog 19 #[AH A B F m c d g] w (AI (Fq m) w):=by
 refine AmR m hgr (k:=1) (by omega) (by omega) (fun p hp=>(hgr p hp).sz (by omega)) A B F c d g AW w hw hA hB (Fq m) ?_ ?_ ?_ ?_ ?_
 ·intro h;unfold Fq;rw [if_pos h]
 ·intro h h1;unfold Fq;rw [if_neg (by rw [h];simp),if_pos h1]
 ·intro h h1 h2;unfold Fq;rw [if_neg (by rw [h];simp),if_neg (by omega),if_pos h2]
 ·intro h h1 h2 h3;unfold Fq;rw [if_neg (by rw [h];simp),if_neg (by omega),if_neg (by omega),if_pos h3]
 ·intro h h1 h2 h3;unfold Fq;rw [if_neg (by rw [h];simp),if_neg (by omega),if_neg (by omega),if_neg (by omega)]
end Go.Proofs.YtnddllipjippnaaGreatDoor
namespace Go.Proofs.YtnddllipjippnaaGreatDoor
section
open Go.RowKit Kl
def G8(ps:List Pt)(p:Pt):List Pt:=match ps.getLast? with|some y=>if Aq y p=true then ps else ps ++ [p]|none=>ps ++ [p]
def IE(l:List Hf):List Pt:=l.foldl (fun ps h=>G8 ps h.a) []
theorem Ann(l:List Hf)(h:Hf):IE (l ++ [h])=G8 (IE l) h.a:=by simp [IE]
end
section
open Go.RowKit Kl
section
variable {α : Type} {le : α → α → Prop}
def Tq(le:α→α→Prop)(l0:List α)(j:Nat)(l:List α):Prop:=l.Perm l0/\(l.take j).Pairwise le
def Nn(le:α→α→Prop)(l0:List α)(j k:Nat)(l:List α):Prop:=
 l.Perm l0/\∃pre x Fh tl,l=pre++x::(Fh++tl)/\pre.length=k/\pre.length+Fh.length=j/\(pre++Fh).Pairwise le/\∀y∈Fh,le x y
theorem Tq.start{l0 l:List α}{j:Nat}(h:Tq le l0 j l)(hj:j<l.length):Nn le l0 j j l:=by
 refine⟨h.1,l.take j,l[j],[],l.drop (j+1),?_,?_,?_,?_,by simp⟩
 ·rw [List.nil_append,←List.drop_eq_getElem_cons hj,List.take_append_drop]
 ·rw [List.length_take];omega
 ·rw [List.length_take,List.length_nil];omega
 ·rw [List.append_nil];exact h.2
theorem Nn.swap{l0 l:List α}{j q:Nat}(h:Nn le l0 j (q+1) l)(hq:q+1<l.length)(hle:le l[q+1] l[q]):Nn le l0 j q ((l.set (q+1) l[q]).set q l[q+1]):=by
 obtain⟨hp,pre,x,Fh,tl,rfl,h1,h2,h3,h4⟩:=h
 obtain⟨pre,y,rfl⟩:∃p y,pre=p ++ [y]:=by refine⟨pre.dropLast,pre.getLast (by intro e;subst e;cases h1),(List.dropLast_concat_getLast _).symm⟩
 rw [List.length_append,List.length_singleton]at h1 h2;have hpl:pre.length=q:=(by omega);subst hpl;have e1:(pre ++ [y]++x::(Fh++tl))[pre.length+1]=x:=(by simp);have e2:(pre ++ [y]++x::(Fh++tl))[pre.length]=y:=(by simp);rw [e1,e2]at hle ⊢
 have e3:((pre ++ [y]++x::(Fh++tl)).set (pre.length+1) y).set pre.length x=pre++x::((y::Fh)++tl):=by simp
 rw [e3];refine⟨List.Perm.trans ?_ hp,pre,x,y::Fh,tl,rfl,rfl,?_,?_,?_⟩
 ·simp only [List.append_assoc,List.cons_append];exact List.Perm.append_left _ (List.Perm.swap _ _ _)
 ·rw [List.length_cons];omega
 ·simpa using h3
 ·intro z hz
  rcases List.mem_cons.1 hz with rfl|hz
  ·exact hle
  ·exact h4 z hz
theorem Nn.stop{l0 l:List α}{j k:Nat}(tr:∀a b c,le a b→le b c→le a c)(h:Nn le l0 j k l)(hk:∀q,q+1=k→∀h1:q+1<l.length,le l[q] l[q+1]):Tq le l0 (j+1) l:=by
 obtain⟨hp,pre,x,Fh,tl,rfl,h1,h2,h3,h4⟩:=h;refine⟨hp,?_⟩
 have e:(pre++x::(Fh++tl)).take (j+1)=pre++x::Fh:=by rw [show pre++x::(Fh++tl)=(pre++x::Fh)++tl by simp,List.take_left' (by simp;omega)]
 rw [e];rw [List.pairwise_append]at h3 ⊢;refine⟨h3.1,List.pairwise_cons.2 ⟨h4,h3.2.1⟩,?_⟩;intro a ha b hb
 have hax:le a x:=by
  obtain⟨pr,y,rfl⟩:∃p y,pre=p ++ [y]:=by refine⟨pre.dropLast,pre.getLast (by intro e;subst e;cases ha),(List.dropLast_concat_getLast _).symm⟩
  rw [List.length_append,List.length_singleton]at h1;have:=hk pr.length h1 (by simp);have e1:(pr ++ [y]++x::(Fh++tl))[pr.length+1]=x:=(by simp);have e2:(pr ++ [y]++x::(Fh++tl))[pr.length]=y:=(by simp);rw [e1,e2]at this;rw [List.mem_append,AsC]at ha
  rcases ha with ha|rfl
  ·have h5:=h3.1;rw [List.pairwise_append]at h5;exact tr _ _ _ (h5.2.2 a ha y (by simp)) this
  ·exact this
 rcases List.mem_cons.1 hb with rfl|hb
 ·exact hax
 ·exact h3.2.2 a ha b hb
end
end
section
open Go.RowKit Kl
def Kh(a b:Hf):Prop:=Ol b a=false
theorem y8(a b:Hf):Ol a b=true↔a.a.x<b.a.x∨(a.a.x=b.a.x/\(a.a.y<b.a.y∨(a.a.y=b.a.y/\(a.b.x<b.b.x∨(a.b.x=b.b.x/\a.b.y<b.b.y))))):=by
 unfold Ol;simp only [Bool.or_eq_true,Bool.and_eq_true,decide_eq_true_eq,PN,y9]
 grind
theorem yo(a b c:Hf)(h1:Kh a b)(h2:Kh b c):Kh a c:=by
 unfold Kh at *;rw [Bool.eq_false_iff,ne_eq,y8]at *
 grind
theorem Alk{a b:Hf}(h:Ol a b=true):Kh a b:=by
 unfold Kh;rw [Bool.eq_false_iff,ne_eq];intro h2;rw [y8]at h h2
 grind
end
end Go.Proofs.YtnddllipjippnaaGreatDoor
