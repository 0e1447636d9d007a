/- J36: D4 D8 S8 GG8 GG9 GG10 GG11 GG12 GG13 GG14 GG15 GG16 GG17 QCX QC QGA. -/
import Derived.Laws.EntriesVeiled
import Derived.Test.YtnddllipjippnaaGreatDoorJ34
import Derived.Deep.CutBlock
import Derived.Test.YtnddllipjippnaaGreatDoorJ35
set_option maxRecDepth 100000
set_option maxHeartbeats 16000000
namespace Go.Proofs.YtnddllipjippnaaGreatDoor
open Go.RowKit Kl
open Go.ChangeMaps (setBlock)
theorem ko{W:World}{b:Nat}{L:List (Sg×Int)}(h:W.heap[b]?=some (.map (AN AC (stamp L)).toArray L.length))(s:Sg)(hno:∀e∈L,Be s e.1=false)(z:Int) :
  ∃W',(Instr.mapUpdate 95 (.map (some b)) (AC s) (.int .i64 z)).run Tryz.prog W=.ok () W'/\W'.heap[b]?=some (.map (AN AC (stamp (L ++ [(s,z)]))).toArray (L ++ [(s,z)]).length)/\W.grownBy W' (some b)/\W'.heap.size=W.heap.size:=by
 refine⟨_,lG XB s (stamp L) ?_ (.int .i64 z) h,?_,Ll h,by simp [setBlock]⟩
 ·intro e he;obtain⟨x,hx,h1⟩:=lV he;rw [h1];exact hno x hx
 ·rw [Mi h,uz];simp
theorem si{s t:Sg}(h:s≠t):Be s t=false:=by
 rw [Bool.eq_false_iff];exact fun k=>h (Ip.1 k)
theorem AdU{C:List (List Sg)}(C6:C.flatten.Nodup){k:Nat}(hk:k<C.length){j:Nat}(hj:j<C[k].length):∀e∈Dx (C.take k)++(C[k].take j).map (fun s=>(s,(k:Int))),Be C[k][j] e.1=false:=by
 intro e he;refine si fun hh=>?_;have h1:C=C.take k++C[k]::C.drop (k+1):=(by rw [←List.drop_eq_getElem_cons hk,List.take_append_drop]);have h2:C[k]=C[k].take j++C[k][j]::C[k].drop (j+1):=by rw [←List.drop_eq_getElem_cons hj,List.take_append_drop]
 have h3:C.flatten=(C.take k).flatten++(C[k]++(C.drop (k+1)).flatten):=by
  have:=congrArg List.flatten h1
  rwa [List.flatten_append,List.flatten_cons]at this
 rw [h3,List.nodup_append]at C6;obtain⟨-,Cf,Afk⟩:=C6;rw [List.nodup_append]at Cf;obtain⟨Ie,-,-⟩:=Cf
 rcases List.mem_append.1 he with he|he
 ·have:e.1∈(Dx (C.take k)).map (·.1):=List.mem_map_of_mem he;rw [ou]at this;exact Afk _ this _ (List.mem_append_left _ (Ao8 hj)) hh.symm
 ·rw [List.mem_map]at he;obtain⟨s,hs,rfl⟩:=he;rw [h2,List.nodup_append]at Ie;exact Ie.2.2 _ hs _ List.mem_cons_self hh.symm
theorem lw(n:Nat)(hn:n<=200000)(c:Int)(hc:c=(n:Int))(W:World) :
  (Instr.makeSlice 76 (.int .i64 c) (.int .i64 c)).run Tryz.prog W=.ok (.slice (some ⟨W.heap.size,0,none⟩) n n) (W.alloc (.cells (madeCells #[.int .i64 0] n) 3)):=AhW n hn c hc W
def JA(W:List Sg)(C:List (List Sg))(k:Nat):List Value:=(List.range C.length).map (fun j=>Value.int .i64 (if j<k then C4 W C (W.length+1) j else 0))
theorem AjO(W:List Sg)(C:List (List Sg)):JA W C 0=zs (zn (List.replicate C.length 0)):=by
 unfold JA zs zn;apply List.ext_getElem
 ·simp
 ·intro i h1 h2;simp
theorem AjM(W:List Sg)(C:List (List Sg)):JA W C C.length=(K8 W C).map (Value.int .i64):=by
 unfold JA K8;apply List.ext_getElem
 ·simp
 ·intro i h1 h2;have:i<C.length:=(by simpa using h1);simp [this]
theorem AjN(W:List Sg)(C:List (List Sg)){k:Nat}(_:k<C.length):(JA W C k).set k (.int .i64 (C4 W C (W.length+1) k))=JA W C (k+1):=by
 unfold JA;apply List.ext_getElem
 ·simp
 ·intro i h1 h2;by_cases h:k=i
  ·subst h;simp
  ·rw [List.getElem_set_ne h];have:(i<k+1)↔i<k:=(by omega);simp [this]
theorem Acl(w:World)(o1 o2 o3 o4:Obj):∃W,W=(((w.alloc o1).alloc o2).alloc o3).alloc o4/\Ab w W/\W.heap.size=w.heap.size+4/\W.heap[w.heap.size]?=some o1/\W.heap[w.heap.size+1]?=some o2/\W.heap[w.heap.size+1+1]?=some o3/\W.heap[w.heap.size+1+1+1]?=some o4:=by
 obtain⟨V,hV,hE,h1,h2,h3⟩:=Oe w o1 o2 o3;have hs:V.heap.size=w.heap.size+1+1+1:=(by rw [hV];simp);have EU:=(Ab.refl V).alloc o4;refine⟨_,by rw [←hV],hE.alloc o4,by simp [hs],(EU.block _ (Ao5 h1)).trans h1,(EU.block _ (Ao5 h2)).trans h2,(EU.block _ (Ao5 h3)).trans h3,?_⟩;rw [←hs];exact Ao6 V o4
def EO(W:World)(b:Nat)(l:List (Sg×Int)):Prop:=W.heap[b]?=some (.map (AN AC (stamp l)).toArray l.length)
theorem EO.ext{W W':World}{b:Nat}{l:List (Sg×Int)}(h:EO W b l)(hx:Ab W W'):EO W' b l:=(hx.block b (Ao5 h)).trans h
theorem AjR{B:Nat}{w:World}(hw:Am w){r b1 b2:Nat}{L:List (Sg×Int)}{E:List (Pt×Value×Nat)}{R0:List (Pt×List Pt)}(h:BD B w r b1 b2 L E R0){W U:List Sg}{C:List (List Sg)}(hW:W=L.map (·.1))(hG:Pm W U C){A:Option Addr}{cap:Nat}(hC:Ms w A cap C) :
  Calls Tryz.prog 106 #[.pointer (some ⟨r,0,none⟩),.slice A C.length cap] w fun e w'=>∃A',e=.returned (.slice A' C.length C.length)/\Af w' A' ((K8 W C).map (Value.int .i64))/\Ab w w':=by
 have hmm:=@run_makeMap Tryz.prog;have WJ:=hC.cap1;have Qh:=hC.cap2;go_enter Tryz.func106,Tryz.ntmps106
 go_upto_region 2 with fail
 obtain⟨W1,hW1,CB,hs1,hb1,hb2,hb3,hb4⟩:=Acl w (.cells #[.pointer (some ⟨r,0,none⟩)] 93) (.cells #[.slice A C.length cap] 168) (.map #[] 0) (.cells #[.map (some (w.heap.size+1+1))] 95);rw [←hW1];clear hW1;obtain⟨bn,Cx⟩:=Ao3 w.heap.size;rw [←Cx]at hb1 hb2 hb3 hb4 ⊢;have hle:w.heap.size<=bn:=(by omega);have PY:EO W1 (bn+1+1) (Dx (C.take 0)):=by rw [List.take_zero];exact hb3
 have uW:C.length<=100000:=by have h1:=XC hG.ok.ne;rw [hG.ok.flat]at h1;have h2:=Kt hG.ok.nd hG.ok.sub;have:=hG.len;omega
 have hl0:(0:Int)<=(C.length:Int):=(by omega);have C6:C.flatten.Nodup:=(by rw [hG.ok.flat];exact hG.ok.nd);have YV:=Ao4 C6;have m2:=Aa (o:=0) hb2 rfl;clear Cx hb3 C6
 go_upto_region 3 with fail
 go_loopw [16] (fun i wr=>∃k:Nat,i=.int .i64 (k:Nat)/\k<=C.length/\EO wr (bn+1+1) (Dx (C.take k))/\AD (fun j=>j=bn+1+1) W1 wr) (fun i _=>C.length-(intOf i).toNat)
 case atStart=>exact⟨0,rfl,by omega,PY,AD.refl _ _⟩
 case round=>
  obtain⟨k,rfl,hk,hM,hB⟩:=hrel;have Cd:Ab w wr:=hB.toExt CB (fun j e=>by subst e;omega);by_cases hlt:k<C.length
  ·obtain⟨bA,oA,A',c',rfl,hcell,Bf,hc1,hc2⟩:=hC.row k hlt;replace hcell:=Cd.cellS hcell;have hk0:(0:Int)<=(k:Int):=(by omega);have DX:(k:Int)<(C.length:Int):=(by omega);obtain⟨c,hcc⟩:=Ao3 (C[k]);have hfr:=fun j (hj:j<C[k].length)=>AdU YV.out hlt hj;rw [←hcc]at hcell Bf hc1 hfr
   have MW:Dx (C.take (k+1))=Dx (C.take k)++c.map (fun s=>(s,(k:Int))):=by rw [AoA hlt,ow,←hcc,List.length_take,Nat.min_eq_left (by omega)]
   have YS:=Ao4 MW;have YJ:=Ao4 hfr;have Cp:EO wr (bn+1+1) (Dx (C.take k)++(c.take 0).map (fun s=>(s,(k:Int)))):=(by rw [List.take_zero,List.map_nil,List.append_nil];exact hM);have hcl:(0:Int)<=(c.length:Int):=(by omega);clear hcc MW hfr hM
   go_upto_region 6 with fail
   go_loopw [23] (fun i wi=>∃j:Nat,i=.int .i64 (j:Nat)/\j<=c.length/\EO wi (bn+1+1) (Dx (C.take k)++(c.take j).map (fun s=>(s,(k:Int))))/\AD (fun j=>j=bn+1+1) W1 wi) (fun i _=>c.length-(intOf i).toNat)
   case atStart=>exact⟨0,rfl,by omega,Cp,hB⟩
   case round=>
    obtain⟨j,rfl,hj,Wi,SD⟩:=hrel;have Qe:Ab w wr:=SD.toExt CB (fun j e=>by subst e;omega);by_cases Bc:j<c.length
    ·obtain⟨b',o',rfl,f1,f2,f3,f4⟩:=K7 (Bf.ext Qe) Bc;have hno:=YJ.out j Bc
     have IF:Dx (C.take k)++(c.take (j+1)).map (fun s=>(s,(k:Int)))=(Dx (C.take k)++(c.take j).map (fun s=>(s,(k:Int)))) ++ [(c[j],(k:Int))]:=by rw [AoA Bc,List.map_append,←List.append_assoc];rfl
     obtain⟨s,hs⟩:=Ao3 (c[j]);rw [←hs]at f1 f2 f3 f4 hno IF;have hj0:(0:Int)<=(j:Int):=(by omega);have Nr:(j:Int)<(c.length:Int):=(by omega);have As:=Ao6 wr (.cells #[S (R s.a.x),S (R s.a.y),S (R s.b.x),S (R s.b.y)] 140);have E4:=(Ab.refl wr).alloc (.cells #[S (R s.a.x),S (R s.a.y),S (R s.b.x),S (R s.b.y)] 140);have h4:=(E4.block _ (Ao5 (SD.cells hb4 (by omega)))).trans (SD.cells hb4 (by omega));obtain⟨Wp,hput,Kb,Nm,-⟩:=ko (Wi.ext E4) s hno (k:Int);rw [←IF]at Kb;have aT:=(SD.ext E4).grown Nm (fun q e=>by cases e;exact .inl rfl);have R7:=Ao4 Kb;clear hno IF hs Wi Nm Kb
     go_upto_region 8 with fail
     unfold S at As h4 hput;unfold AC S at hput;have z0:=Aa (o:=0) As rfl;have z1:=Aa (o:=1) As rfl;have z2:=Aa (o:=2) As rfl;have z3:=Aa (o:=3) As rfl;have z4:=Aa (o:=0) h4 rfl;generalize (wr.alloc (.cells #[.string ⟨(R s.a.x).toArray⟩,.string ⟨(R s.a.y).toArray⟩,.string ⟨(R s.b.x).toArray⟩,.string ⟨(R s.b.y).toArray⟩] 140))=W4 at *;clear f1 f2 f3 f4 As h4;go_wp2;go_roundw
     case rel=>exact⟨j+1,by go_num,Bc,R7.out,aT⟩
     case measure=>simp [intOf];omega
    ·have Kj:j=c.length:=(by omega);subst Kj;have eV:(c.length:Int)<=(c.length:Int):=(by omega);rw [List.take_length,←YS.out]at Wi;go_wp2;go_roundw
     case rel=>exact⟨k+1,by go_num,hlt,Wi,SD⟩
     case measure=>simp [intOf];omega
  ·have CO:k=C.length:=(by omega);subst CO;rw [List.take_length]at hM;have hmk:=lw C.length (by omega) (C.length:Int) rfl wr;have Xh:∀(fn:Fn) (first cap:Array Value) (w:World),(Instr.makeFunc fn first cap).run Tryz.prog w=.ok (.func fn first cap) w:=fun _ _ _ _=>rfl;have WE:=hB.cells hb2 (by omega);have m2':=Aa (o:=0) WE rfl;have own:=od wr w.heap.size C.length (AoH CB.size hB.size) (by omega);have hx0:(w.heap.size:Nat)<=wr.heap.size:=AoH CB.size hB.size;have SI:=(Ab.refl wr).alloc (.cells (madeCells #[.int .i64 0] C.length) 3);obtain⟨fv,Nl⟩:=Ao3 (Value.func (.func 154) #[] #[.pointer (some ⟨bn+1,0,none⟩),.pointer (some ⟨bn,0,none⟩),.pointer (some ⟨wr.heap.size+1,0,none⟩),.pointer (some ⟨bn+1+1+1,0,none⟩)]);have aX:=(Ab.refl (wr.alloc (.cells (madeCells #[.int .i64 0] C.length) 3))).alloc (.cells #[fv] 128);have O9:=Ao6 (wr.alloc (.cells (madeCells #[.int .i64 0] C.length) 3)) (.cells #[fv] 128);rw [AoE]at O9;have GL:=SI.trans aX;have CW:=Cd.trans GL;have U0:=AL own aX;have F7:=hM.ext GL;have n1:=(GL.block _ (Ao5 (hB.cells hb1 (by omega)))).trans (hB.cells hb1 (by omega));have n2:=(GL.block _ (Ao5 WE)).trans WE;have n4:=(GL.block _ (Ao5 (hB.cells hb4 (by omega)))).trans (hB.cells hb4 (by omega));have LE:bn+1+1+1<wr.heap.size:=Ao5 (hB.cells hb4 (by omega));have OP:wr.heap.size+1<((wr.alloc (.cells (madeCells #[.int .i64 0] C.length) 3)).alloc (.cells #[fv] 128)).heap.size:=by simp
   go_upto_region 14 with fail
   rw [←Nl];clear hmk Xh m2' own hM SI aX GL WE;generalize (wr.alloc (.cells (madeCells #[.int .i64 0] C.length) 3)).alloc (.cells #[fv] 128)=V2 at *;obtain⟨bo,D4⟩:=Ao3 wr.heap.size;rw [←D4]at U0 Nl O9 LE OP ⊢;have Ag0:w.heap.size<=bo:=(by omega);clear D4;have Uz:V2.ownsRow w.heap.size 3 1 (.slice (some ⟨bo,0,none⟩) C.length C.length) C.length (JA W C 0):=(by rw [AjO];exact U0);have m2:=Aa (o:=0) n2 rfl
   have TE:∀i (hi:i<C.length),leftOf W (C4.aOf C[i]).x<W.length+1:=fun i hi=>by have:leftOf W (C4.aOf C[i]).x<=W.length:=List.countP_le_length;omega
   have zo:=Ao4 Nl;clear U0 Nl
   go_upto_region 15 with fail
   clear m2
   go_loopw [38] (fun i w3=>∃k:Nat,i=.int .i64 (k:Nat)/\k<=C.length/\w3.ownsRow w.heap.size 3 1 (.slice (some ⟨bo,0,none⟩) C.length C.length) C.length (JA W C k)/\AD (fun j=>j=bo) V2 w3) (fun i _=>C.length-(intOf i).toNat)
   case atStart=>exact⟨0,rfl,by omega,Uz,AD.refl _ _⟩
   case round=>
    obtain⟨k,rfl,hk3,Ig,CM⟩:=hrel;have C0:Ab w wr:=CM.toExt CW (fun j e=>by subst e;exact Ag0);by_cases hlt:k<C.length
    ·have hR:RN B wr r b1 b2 L E R0 (bn+1) bn (bo+1) (bn+1+1+1) (bn+1+1) A cap C:=⟨h.ext C0,hC.ext C0,Aa (CM.cells n2 (by omega)) rfl,Aa (CM.cells n1 (by omega)) rfl,by rw [←zo.out];exact Aa (CM.cells O9 (by omega)) rfl,Aa (CM.cells n4 (by omega)) rfl,CM.cells F7 (by omega)⟩;have fc:=AdR hW hG (W.length+1) k hlt (TE k hlt) wr (hw.ext C0) hR;have WL:wr.cell? ⟨bo+1,0,none⟩=some (.func (.func 154) #[] #[.pointer (some ⟨bn+1,0,none⟩),.pointer (some ⟨bn,0,none⟩),.pointer (some ⟨bo+1,0,none⟩),.pointer (some ⟨bn+1+1+1,0,none⟩)]):=hR.cf;obtain⟨z,hz⟩:=Ao3 (C4 W C (W.length+1) k);rw [←hz]at fc;have hk0:(0:Int)<=(k:Int):=(by omega);have DX:(k:Int)<(C.length:Int):=(by omega);have HZ:=Ao4 hz;clear hz hR;have EG:(JA W C k)[k]?=some (.int .i64 0):=(by unfold JA;simp [hlt]);have Bd:=AjN W C hlt;rw [←HZ.out]at Bd;have HS:=Ao4 Bd;clear Bd;(go_wp2_with fail);(with_reducible refine fc.mono ?_);rintro e w4 ⟨rfl,Ag⟩;have Du:=AL Ig Ag;have hce:=(Du.cellAt k (by omega)).trans EG;have Gx:=Du.frozenAt k;have hst:=(Du.stored k (.int .i64 z)).1;have hg4:=(Du.stored k (.int .i64 z)).2;have JX:=(CM.ext Ag).grown hg4 (fun q e=>by cases e;exact .inl rfl);rw [HS.out]at hst;clear hg4 CM Ig Du fc WL;go_wp2;go_roundw
     case rel=>exact⟨k+1,by go_num,hlt,hst,JX⟩
     case measure=>simp [intOf];omega
    ·have CO:k=C.length:=(by omega);subst CO;rw [AjM]at Ig;obtain⟨A2,cap2,IC,J3,-,-⟩:=Af.of_own' (by omega) Ig;simp only [Value.slice.injEq,true_and]at IC;obtain⟨rfl,-⟩:=IC;go_wp2;go_ret;exact⟨_,rfl,J3,C0⟩
theorem Tryz.infoBo:(Tryz.prog.info? 4).map (fun i=>(i.zero,i.size,i.bytes))=some (some (.bool false),1,1):=by kernel_rfl
theorem AhV(n:Nat)(hn:n<=200000)(c:Int)(hc:c=(n:Int))(W:World) :
  (Instr.makeSlice 171 (.int .i64 c) (.int .i64 c)).run Tryz.prog W=.ok (.slice (some ⟨W.heap.size,0,none⟩) n n) (W.alloc (.cells (madeCells #[.bool false] n) 4)):=by
 subst hc;obtain⟨i0,hi,hz0,hz1,hz2⟩:=info_parts Tryz.infoBo;have h:=run_make (P:=Tryz.prog) W 171 4 i0 (.bool false) Tryz.underlying171 hi hz0 .i64 .i64 n n (by omega) (by omega) (by rw [hz2];omega) (by omega);rw [hz1,Nat.mul_one]at h;simp only [Int.toNat_natCast]at h;exact h
theorem AiL(W:World)(base n:Nat)(hb:base<=W.heap.size)(hn:n<=200000) :
  (W.alloc (.cells (madeCells #[.bool false] n) 4)).ownsRow base 4 1 (.slice (some ⟨W.heap.size,0,none⟩) n n) n (Hv (List.replicate n false)):=by
 have h:=World.ownsRow_lit (w:=W) (base:=base) (e:=4) (size:=1) (madeCells #[.bool false] n) n hb (by unfold maxLen;omega) (by rw [size_madeCells];omega);rw [toList_madeCells_one]at h
 simpa [Hv]using h
theorem AbX(l:List Bool)(k:Nat)(b:Bool):(Hv l).set k (.bool b)=Hv (l.set k b):=by simp [Hv]
theorem AjH{w:World}{A:Option Addr}{l:List Int}(hr:Af w A (l.map (Value.int .i64))){j:Nat}(h:j<l.length):∃b o,A=some ⟨b,o,none⟩/\w.cell? ⟨b,o+j,none⟩=some (.int .i64 l[j]):=by
 obtain⟨b,o,e,hc⟩:=hr.ad (by simp;omega);refine⟨b,o,e,?_⟩;rw [hc j (by simpa using h)];simp
theorem XF{s:Sg}{L:List (Sg×Int)}(h:s∈L.map (·.1)):∃e∈L,AS s L=e.2:=by
 unfold AS;rw [List.mem_map]at h;obtain⟨x,hx,rfl⟩:=h
 cases hf:L.find? (fun e=>Be x.1 e.1)with
 | none=>
  rw [List.find?_eq_none]at hf;exact absurd (Ip.2 rfl) (hf x hx)
 | some e=>exact⟨e,List.mem_of_find?_eq_some hf,rfl⟩
structure Gi(V wr:World)(B bm bs nf:Nat)(st:Ec):Prop where
 face:CZ wr bm st.face
 seen:wr.ownsRow B 4 1 (.slice (some ⟨bs,0,none⟩) nf nf) nf (Hv st.seen)
 but:AD (fun j=>j=bm∨j=bs) V wr
theorem Gi.ext{V wr w':World}{B bm bs nf:Nat}{st:Ec}(h:Gi V wr B bm bs nf st)(hx:Ab wr w'):Gi V w' B bm bs nf st:=
 ⟨(hx.block _ (Ao5 h.face)).trans h.face,AL h.seen hx,h.but.ext hx⟩
theorem Gi.put{V wr:World}{B bm bs nf:Nat}{st:Ec}(h:Gi V wr B bm bs nf st)(hne:bm≠bs)(r z:Int)(hno:Cm r st.face=none) :
  ∃W',(Instr.mapUpdate 130 (.map (some bm)) (.int .i64 r) (.int .i64 z)).run Tryz.prog wr=.ok () W'/\Gi V W' B bm bs nf {st with face:=st.face ++ [(r,z)]}:=by
 obtain⟨W',h1,h2,h3,-⟩:=h.face.put r z hno;refine⟨W',h1,h2,nz h.seen h3 (by simp only [Value.ownBlock,ne_eq,AoB];exact fun e=>hne e.symm),h.but.grown h3 (fun k e=>by cases e;exact .inl (.inl rfl))⟩
theorem Gi.set{V wr:World}{B bm bs nf:Nat}{st:Ec}(h:Gi V wr B bm bs nf st)(hne:bm≠bs)(k:Nat) :
  Gi V (wr.setCell ⟨bs,k,none⟩ (.bool true)) B bm bs nf {st with seen:=st.seen.set k true}:=by
 have h1:=h.seen.stored k (.bool true);rw [AbX]at h1;refine⟨?_,h1.1,h.but.grown h1.2 (fun q e=>by cases e;exact .inl (.inr rfl))⟩;exact(h1.2.block bm (Ao5 h.face) (by simp only [ne_eq,AoB];exact hne)).trans h.face
theorem pE{w0 w:World}(hw:Am w0)(hx:Ab w0 w){r b1 b2:Nat}{L:List (Sg×Int)}{E:List (Pt×Value×Nat)}{R0:List (Pt×List Pt)}(h:BD w0.heap.size w r b1 b2 L E R0){W:List Sg}(Lq:W=L.map (·.1))(hN:Ft W R0)(hW:P9 W)(hgr:∀s∈W,IZ s)
  (hlen:L.length<=100000) (hrl:∀e∈R0,e.2.length<100000) (nf:Nat) (Cr:nf<=100000) (OJ:∀x∈L,-1<=x.2/\x.2<(nf:Int)) {R1:List (Pt×List Pt)} (hR1:R1=R0.map (fun e=>(e.1,Dh e.1 e.2))) {C:List (List Sg)} (hC:C=Hz W R1) {rg:List Int} (hrg:rg=K8 W C) :
  Calls Tryz.prog 53 #[.pointer (some ⟨r,0,none⟩),.int .i64 (nf:Nat)] w fun e w'=>e=.returned (.tuple #[.bool (MF L nf C rg),.bool (KX L nf C rg).op])/\Ab w0 w'/\BD w0.heap.size w' r b1 b2 L E R1:=by
 have hmm:=@run_makeMap Tryz.prog;have so:=sort_c hw hx h (rh hW hN hrl);rw [←hR1]at so;have GM:Ft W R1:=by rw [hR1];exact hN.sorted
 have TU:∀e∈R1,e.2.length<100000:=by intro e he;rw [hR1,List.mem_map]at he;obtain⟨x,hx,rfl⟩:=he;have:=hrl x hx;rw [show (Dh x.1 x.2).length=x.2.length from(UC x.1 x.2).length_eq];exact this
 obtain⟨U,Ai,hall⟩:=sE GM;have hG:Pm W U C:=⟨by rw [hC];exact Ai,hall,hW.x.good,hgr,by rw [Lq];simpa using hlen⟩
 have uW:C.length<=100000:=by have h1:=XC hG.ok.ne;rw [hG.ok.flat]at h1;have h2:=Kt hG.ok.nd hG.ok.sub;have:=hG.len;omega
 have fj:rg.length=C.length:=(by rw [hrg];simp [K8]);have cy:=fun (w1:World) (h1:Ab w0 w1) (k:BD w0.heap.size w1 r b1 b2 L E R1)=>sF hw h1 k (by rw [←Lq];exact GM) (by rw [←Lq];exact hW) hlen TU;rw [←Lq,←hC]at cy;have rc:=fun (w1:World) (hw1:Am w1) (k:BD w0.heap.size w1 r b1 b2 L E R1) (A:Option Addr) (cap:Nat) (hA:Ms w1 A cap C)=>AjR hw1 k Lq hG hA;rw [←hrg]at rc
 have hcw:∀i (hi:i<C.length),∀s∈C[i],-1<=AS s L/\AS s L<(nf:Int):=by intro i hi s hs;have h1:s∈W:=hG.ok.sub s (by rw [←hG.ok.flat];exact List.mem_flatten.2 ⟨_,Ao8 hi,hs⟩);rw [Lq]at h1;obtain⟨e,he,h2⟩:=XF h1;rw [h2];exact OJ e he
 have yw:=Ao4 hcw;clear hcw OJ hR1 hrl TU Ai hall hC hrg hN hW hgr Lq hx h GM hG;have HA:=Ao4 (show MF L nf C rg=((Ht L (C.zip rg) (Iy nf)).ok && !((Ht L (C.zip rg) (Iy nf)).seen.contains false))from rfl);have HO:=Ao4 (show (KX L nf C rg).op=(Ht L (C.zip rg) (Iy nf)).op from rfl);generalize MF L nf C rg=vA at *;generalize (KX L nf C rg).op=vO at *;go_enter Tryz.func53,Tryz.ntmps53;(go_wp2_with fail);(with_reducible refine so.mono ?_);rintro e w1 ⟨rfl,hx1,-,Jy⟩;(go_wp2_with fail);(with_reducible refine(cy _ hx1 Jy).mono ?_);rintro e w2 ⟨A,cap,rfl,CN,hx2⟩;have Cf:=Jy.ext hx2;have Q6:=hx1.trans hx2;(go_wp2_with fail);(with_reducible refine(rc _ (hw.ext Q6) Cf A cap CN).mono ?_);rintro e w3 ⟨A',rfl,Bf,hx3⟩;have Ie:=Cf.ext hx3;have yL:=CN.ext hx3;have io:=Q6.trans hx3;clear so cy rc Jy Cf hx1 hx2 hx3 CN Q6;have BV:=(Ab.refl w3).alloc (.map #[] 0);have I6:CZ (w3.alloc (.map #[] 0)) w3.heap.size []:=Ao6 w3 (.map #[] 0);obtain⟨W4,hput,DF,hg4,Kn⟩:=I6.put (-1) (-1) rfl;have hmk:=AhV nf (by omega) (nf:Int) rfl W4;have I7:AD (fun j=>j=w3.heap.size) w3 W4:=((AD.refl _ w3).ext BV).grown hg4 (fun k e=>by cases e;exact .inl rfl);have EU:Ab w3 W4:=I7.toExt (Ab.refl w3) (fun k e=>by subst e;exact Ao7 _);have PU:=(Ab.refl W4).alloc (.cells (madeCells #[.bool false] nf) 4);have own:=AiL W4 w0.heap.size nf (AoH io.size EU.size) (by omega);have vG:CZ (W4.alloc (.cells (madeCells #[.bool false] nf) 4)) w3.heap.size [(-1,-1)]:=(PU.block _ (Ao5 DF)).trans DF;have fp:W4.heap.size=w3.heap.size+1:=(by rw [Kn];simp);rw [fp]at own;have vB:=EU.trans PU;have SB:Gi (W4.alloc (.cells (madeCells #[.bool false] nf) 4)) (W4.alloc (.cells (madeCells #[.bool false] nf) 4)) w0.heap.size w3.heap.size (w3.heap.size+1) nf (Iy nf):=⟨vG,own,AD.refl _ _⟩
 go_upto_region 6 with fail
 clear hmk own vG DF hg4 hput I6 BV I7 PU EU Kn fp hmm;generalize W4.alloc (.cells (madeCells #[.bool false] nf) 4)=V at *;obtain⟨bm,AW⟩:=Ao3 w3.heap.size;rw [←AW]at SB ⊢;have WC:w3.heap.size<=bm:=(by omega);clear AW W4;have hl0:(0:Int)<=(C.length:Int):=(by omega);have hne:bm≠bm+1:=(by omega);have KO:=Ao4 fj;have Ir:=Ao4 Ie;have JI:=Ao4 yL;have HRD:=Ao4 Bf;clear fj Ie yL Bf
 go_upto_region 8 with fail
 go_loopw [4,5,30] (fun o p i wr=>∃(k:Nat) (st:Ec),i=.int .i64 (k:Nat)/\k<=C.length/\o=.bool st.ok/\p=.bool st.op/\st=Ht L ((C.zip rg).take k) (Iy nf)/\Gi V wr w0.heap.size bm (bm+1) nf st) (fun _ _ i _=>C.length-(intOf i).toNat)
 case atStart=>exact⟨0,Iy nf,rfl,by omega,rfl,rfl,rfl,SB⟩
 case round=>
  obtain⟨k,st,rfl,hk,rfl,rfl,hst,hA⟩:=hrel;have Cd:Ab w3 wr:=hA.but.toExt vB (fun q e=>by rcases e with e|e<;>omega);have HST:=Ao4 hst;clear hst;by_cases hlt:k<C.length
  ·obtain⟨bA,oA,A2,c2,rfl,hcell,J3,hc1,hc2⟩:=JI.out.row k hlt;replace hcell:=Cd.cellS hcell;obtain⟨bB,oB,rfl,hrc⟩:=AjH (HRD.out.ext Cd) (show k<rg.length by rw [KO.out];exact hlt);obtain⟨rr,DY⟩:∃rr,rr=rg[k]'(by rw [KO.out];exact hlt):=⟨_,rfl⟩;rw [←DY]at hrc;have hk0:(0:Int)<=(k:Int):=(by omega);have DX:(k:Int)<(C.length:Int):=(by omega);obtain⟨c,hcc⟩:=Ao3 (C[k]);have hz:=yw.out k hlt
   have hstep:Ht L ((C.zip rg).take (k+1)) (Iy nf)=Ix L rr st c:=by rw [AoA (show k<(C.zip rg).length by rw [List.length_zip,KO.out];omega),Abu,←HST.out,List.getElem_zip,←DY,←hcc]
   rw [←hcc]at hcell J3 hc1 hz;have Vg:=Ao4 hstep;have HZ:=Ao4 hz;have hcl:(0:Int)<=(c.length:Int):=(by omega);have hc0:Ix L rr st (c.take 0)=st:=rfl;have UV:=Ao4 hc0;have D8:st.seen.length=nf:=(by rw [HST.out,pD];simp [Iy]);have IY:=Ao4 D8;clear hcc DY hstep hz hc0 D8
   go_upto_region 11 with fail
   go_loopw [4,5,40] (fun o p i wi=>∃(j:Nat) (sj:Ec),i=.int .i64 (j:Nat)/\j<=c.length/\o=.bool sj.ok/\p=.bool sj.op/\sj=Ix L rr st (c.take j)/\Gi V wi w0.heap.size bm (bm+1) nf sj) (fun _ _ i _=>c.length-(intOf i).toNat)
   case atStart=>exact⟨0,st,rfl,by omega,rfl,rfl,UV.out.symm,hA⟩
   case round=>
    obtain⟨j,sj,rfl,hj,rfl,rfl,hsj,VV⟩:=hrel;have Zc:=Ao4 hsj;clear hsj;by_cases Bc:j<c.length
    ·have Ww:Ab w3 wr:=VV.but.toExt vB (fun q e=>by rcases e with e|e<;>omega);obtain⟨b',o',rfl,f1,f2,f3,f4⟩:=K7 (J3.ext Ww) Bc;have hzs:=HZ.out c[j] (Ao8 Bc);have Wy:Ix L rr st (c.take (j+1))=D9 rr (AS c[j] L) sj:=(by rw [AoA Bc,Abt,←Zc.out]);have D8:sj.seen.length=nf:=(by rw [Zc.out,pC];exact IY.out);obtain⟨s,hs⟩:=Ao3 (c[j]);rw [←hs]at f1 f2 f3 f4 hzs Wy;have hj0:(0:Int)<=(j:Int):=(by omega);have Nr:(j:Int)<(c.length:Int):=(by omega);have As:=Ao6 wr (.cells #[S (R s.a.x),S (R s.a.y),S (R s.b.x),S (R s.b.y)] 140);have E6:=(Ab.refl wr).alloc (.cells #[S (R s.a.x),S (R s.a.y),S (R s.b.x),S (R s.b.y)] 140);have aM:=VV.ext E6;have Nu:=Ir.out.ext (Ww.trans E6);clear hs VV hA Cd
     go_upto_region 13 with fail
     unfold S at As aM Nu;generalize (wr.alloc (.cells #[.string ⟨(R s.a.x).toArray⟩,.string ⟨(R s.a.y).toArray⟩,.string ⟨(R s.b.x).toArray⟩,.string ⟨(R s.b.y).toArray⟩] 140))=W6 at *;obtain⟨bx,Nk⟩:=Ao3 wr.heap.size;rw [←Nk]at As ⊢;clear Nk f1 f2 f3 f4 E6;have q1:∀q:Ad W6,q.w.cell? ⟨r,0,none⟩=some (.map (some b1)):=Ad.cell (Aa Nu.cell rfl);have q2:∀q:Ad W6,q.w.cell? ⟨bx,0,none⟩=some (S (R s.a.x)):=Ad.cell (Aa As rfl);have q3:∀q:Ad W6,q.w.cell? ⟨bx,1,none⟩=some (S (R s.a.y)):=Ad.cell (Aa As rfl);have q4:∀q:Ad W6,q.w.cell? ⟨bx,2,none⟩=some (S (R s.b.x)):=Ad.cell (Aa As rfl);have q5:∀q:Ad W6,q.w.cell? ⟨bx,3,none⟩=some (S (R s.b.y)):=Ad.cell (Aa As rfl);have q6:=fun (q:Ad W6)=>NJ s L (Nu.ext q.h).left;obtain⟨z,hz⟩:=Ao3 (AS s L);rw [←hz]at q6 hzs Wy;unfold AC at q6;have HN:=Ao4 Wy;clear hz Wy As Nu;refine Di (by kernel_rfl) (by kernel_rfl) ?_
     repeat (go_big_quiet_step (fail))
     refine wpQuiet_nil ?_;rintro W7 ⟨q,hq⟩;have Aw:Ab W6 W7:=hq▸q.h;clear hq q;have Jg:=aM.ext Aw;have lk:=U9 rr sj.face Jg.face;clear q1 q2 q3 q4 q5 q6 aM Aw
     cases hl:Cm rr sj.face with
     | some old=>
      rw [hl]at lk;simp only [Option.getD_some,Option.isSome_some]at lk;have he:D9 rr z sj=⟨sj.ok&&decide (old=z),sj.op,sj.face,sj.seen⟩:=(by unfold D9;rw [hl]);have H7:Gi V W7 w0.heap.size bm (bm+1) nf (D9 rr z sj):=(by rw [he];exact⟨Jg.face,Jg.seen,Jg.but⟩);have HE:=Ao4 he;clear he Jg
      cases Ai:sj.ok
      ·have Ho:=Ao4 Ai;go_wp2;go_roundw
       case rel=>exact⟨j+1,D9 rr z sj,by go_num,Bc,by rw [HE.out,Ho.out];rfl,by rw [HE.out],HN.out.symm,H7⟩
       case measure=>simp [intOf];omega
      ·have Ho:=Ao4 Ai;by_cases Xm:old=z
       ·have HD:=Ao4 (decide_eq_true Xm);subst Xm;go_wp2;go_roundw
        case rel=>exact⟨j+1,D9 rr old sj,by go_num,Bc,by rw [HE.out,Ho.out,HD.out];rfl,by rw [HE.out],HN.out.symm,H7⟩
        case measure=>simp [intOf];omega
       ·have HD:=Ao4 (decide_eq_false Xm);have hb:(old == z)=false:=beq_false_of_ne Xm;go_wp2;go_roundw
        case rel=>exact⟨j+1,D9 rr z sj,by go_num,Bc,by rw [HE.out,Ho.out,HD.out];rfl,by rw [HE.out],HN.out.symm,H7⟩
        case measure=>simp [intOf];omega
     | none=>
      rw [hl]at lk;simp only [Option.getD_none,Option.isSome_none]at lk;by_cases hz0:z<0
      ·have he:D9 rr z sj=⟨false,true,sj.face ++ [(rr,z)],sj.seen⟩:=(by unfold D9;rw [hl];simp only;rw [if_pos hz0]);obtain⟨W8,hput,H7⟩:=Jg.put hne rr z hl;have SC:Gi V W8 w0.heap.size bm (bm+1) nf (D9 rr z sj):=(by rw [he];exact⟨H7.face,H7.seen,H7.but⟩);have HE:=Ao4 he;clear he Jg H7;go_wp2;go_roundw
       case rel=>exact⟨j+1,D9 rr z sj,by go_num,Bc,by rw [HE.out],by rw [HE.out],HN.out.symm,SC⟩
       case measure=>simp [intOf];omega
      ·obtain⟨m,rfl⟩:∃m:Nat,z=(m:Int):=⟨z.toNat,by omega⟩;have hm:m<nf:=(by omega);obtain⟨sv,gJ⟩:=Ao3 (sj.seen.getD m false)
       have he:D9 rr (m:Int) sj=⟨sj.ok && !sv,sj.op,sj.face ++ [(rr,(m:Int))],sj.seen.set m true⟩:=by unfold D9;rw [hl];simp only;rw [if_neg hz0,gJ];rfl
       have hce:W7.cell? ⟨bm+1,m,none⟩=some (.bool sv):=by
        rw [Jg.seen.cellAt m (by omega),gJ];unfold Hv;rw [List.getElem?_map,List.getD_eq_getElem?_getD,AoC (by omega)]
        rfl
       have Gx:=Jg.seen.frozenAt m;obtain⟨W8,hput,H7⟩:=(Jg.set hne m).put hne rr (m:Int) hl;have SC:Gi V W8 w0.heap.size bm (bm+1) nf (D9 rr (m:Int) sj):=(by rw [he];exact⟨H7.face,H7.seen,H7.but⟩);have HE:=Ao4 he;have hm0:(0:Int)<=(m:Int):=(by omega);have hm1:(m:Int)<(nf:Int):=(by omega);clear he Jg H7 gJ
       cases Ai:sj.ok
       ·have Ho:=Ao4 Ai;go_wp2;go_roundw
        case rel=>exact⟨j+1,D9 rr (m:Int) sj,by go_num,Bc,by rw [HE.out,Ho.out];rfl,by rw [HE.out],HN.out.symm,SC⟩
        case measure=>simp [intOf];omega
       ·have Ho:=Ao4 Ai
        cases sv
        ·go_wp2;go_roundw
         case rel=>exact⟨j+1,D9 rr (m:Int) sj,by go_num,Bc,by rw [HE.out,Ho.out];rfl,by rw [HE.out],HN.out.symm,SC⟩
         case measure=>simp [intOf];omega
        ·go_wp2;go_roundw
         case rel=>exact⟨j+1,D9 rr (m:Int) sj,by go_num,Bc,by rw [HE.out,Ho.out];rfl,by rw [HE.out],HN.out.symm,SC⟩
         case measure=>simp [intOf];omega
    ·have Kj:j=c.length:=(by omega);subst Kj;have CC:sj=Ht L ((C.zip rg).take (k+1)) (Iy nf):=(by rw [Vg.out,Zc.out,List.take_length]);have HF:=Ao4 CC;clear CC;have eV:(c.length:Int)<=(c.length:Int):=(by omega);go_wp2;go_roundw
     case rel=>exact⟨k+1,sj,by go_num,hlt,rfl,rfl,HF.out,VV⟩
     case measure=>simp [intOf];omega
  ·have CO:k=C.length:=(by omega);subst CO;have CC:st=Ht L (C.zip rg) (Iy nf):=(by rw [HST.out,AoF (by rw [List.length_zip];omega)]);have HF:=Ao4 CC;obtain⟨A3,Amx,Ke,ey,uM,S9⟩:=Af.of_own' (by omega) hA.seen;simp only [Value.slice.injEq,true_and]at Ke;obtain⟨rfl,rfl⟩:=Ke;have D8:st.seen.length=nf:=(by rw [HST.out,pD];simp [Iy]);have cb:=AcO st.seen false (some ⟨bm+1,0,none⟩) nf wr ey (by omega) S9;rw [D8]at cb;have hv:vA=(st.ok && !(st.seen.contains false)):=(by rw [HA.out,←HF.out]);have ho:vO=st.op:=(by rw [HO.out,←HF.out]);have HV:=Ao4 hv;subst ho;obtain⟨cv,hcv⟩:=Ao3 (st.seen.contains false);rw [←hcv]at cb;have yv:=Ao4 hcv;have wL:=io.trans Cd;clear CC D8 hv hcv hA ey
   cases Ai:st.ok
   ·have Ho:=Ao4 Ai;obtain rfl:vA=false:=(by rw [HV.out,Ho.out];rfl);go_wp2;go_ret2;exact⟨rfl,wL,Ir.out.ext Cd⟩
   ·have Ho:=Ao4 Ai;obtain rfl:vA = !cv:=(by rw [HV.out,Ho.out,←yv.out];rfl);(go_wp2_with fail);(with_reducible refine cb.mono ?_);rintro e w9 ⟨rfl,Ah⟩;go_wp2;go_ret2;exact⟨rfl,wL.trans Ah,Ir.out.ext (Cd.trans Ah)⟩
theorem Abx{w0 w:World}(hw:Am w0)(hx:Ab w0 w){r b1 b2:Nat}{L:List (Sg×Int)}{E:List (Pt×Value×Nat)}{R0:List (Pt×List Pt)}(h:BD w0.heap.size w r b1 b2 L E R0){W:List Sg}(Lq:W=L.map (·.1))(hN:Ft W R0)(hW:P9 W)(hgr:∀s∈W,IZ s)
  (hlen:L.length<=100000) (hrl:∀e∈R0,e.2.length<100000) (nf:Nat) (Cr:nf<=100000) (OJ:∀x∈L,-1<=x.2/\x.2<(nf:Int)) {R1:List (Pt×List Pt)} (hR1:R1=R0.map (fun e=>(e.1,Dh e.1 e.2))) {C:List (List Sg)} (hC:C=Hz W R1) {rg:List Int} (hrg:rg=K8 W C) :
  Calls Tryz.prog 53 #[.pointer (some ⟨r,0,none⟩),.int .i64 (nf:Nat)] w fun e w'=>e=.returned (.tuple #[.bool (MF L nf C rg),.bool (KX L nf C rg).op])/\Ab w0 w':=(pE hw hx h Lq hN hW hgr hlen hrl nf Cr OJ hR1 hC hrg).mono fun _ _ k=>⟨k.1,k.2.1⟩
end Go.Proofs.YtnddllipjippnaaGreatDoor
namespace Go.Proofs.YtnddllipjippnaaGreatDoor
open Go.RowKit Kl
theorem AdV(l:List (Bs×Bs))(i:Nat):flat (l.take i)=(flat l).take (i*2):=by
 induction l generalizing i with
 | nil=>simp [flat]
 | cons e l ih=>
  cases i with
  | zero=>simp [flat]
  | succ i=>have e0:∀l,flat (e::l)=S e.1::S e.2::flat l:=fun _=>rfl;rw [List.take_succ_cons,e0,e0,ih];have e1:(i+1)*2=i*2+1+1:=(by omega);rw [e1];simp
theorem Ajt(l:List Pt)(i:Nat):Aq (l.take i)=(Aq l).take i:=by unfold Aq;rw [List.map_take]
theorem AcQ(l:List Pt)(i:Nat)(hi:i<=l.length)(p:Pt)(A:Option Addr)(c:Nat)(w:World)(hr:Af w A (flat (Aq l)))(hc:l.length<=c)(hcm:c<=9223372036854775807) :
  Calls Tryz.prog 48 #[.slice A i c,Ak p] w (BF ((l.take i).any (Ax p)) w):=by
 have:=contains_c (l.take i) p A c w (by rw [Ajt,AdV];exact hr.take _) (by rw [List.length_take];omega) hcm;rw [List.length_take,Nat.min_eq_left hi]at this;exact this
def jS(m:MapZ):List Sg:=(AH m.pts m.eds).map (·.1)
def jR(m:MapZ):List (Pt×List Pt):=(BN m.pts m.eds).map (fun e=>(e.1,Dh e.1 e.2))
def OW(m:MapZ):List (List Sg):=Hz (jS m) (jR m)
def QK(m:MapZ):List Int:=K8 (jS m) (OW m)
def ZE(m:MapZ):Int:=if S3 (BN m.pts m.eds) m.pts=true then 25 else if MF (AH m.pts m.eds) m.nf (OW m) (QK m)=true then 0 else 14
theorem AiY(m:MapZ)(hgr:∀p∈m.pts,Db p){k:Nat}(hk:0<k)(hk2:k<=200)(hz:∀p∈m.pts,Az k p)(A B F:Option Addr)(c d g:Nat)(AP:CY m c d g)(w:World)(hw:Am w)(hA:Af w A (flat (Aq m.pts)))(hB:Af w B (A9 m.eds))(r:Int)
  (h0:MJ m=true→r=4) (h1:MJ m=false→Dn [] m.pts≠0→r=Dn [] m.pts)
  (h2:MJ m=false→Dn [] m.pts=0→D2 m.pts.length m.nf [] m.eds≠0→r=D2 m.pts.length m.nf [] m.eds) (h3:MJ m=false→Dn [] m.pts=0→D2 m.pts.length m.nf [] m.eds=0→Ej m.pts [] m.eds≠0→r=26)
  (h4:MJ m=false→Dn [] m.pts=0→D2 m.pts.length m.nf [] m.eds=0→Ej m.pts [] m.eds=0→r=ZE m) :
  Calls Tryz.prog 19 #[AO A B F m c d g] w (AI r w):=by
 have HA:=Ao4 hA;have HB:=Ao4 hB;have HZ:=Ao4 hz;have H0:=Ao4 h0;have H1:=Ao4 h1;have H2:=Ao4 h2;have H3:=Ao4 h3;have H4:=Ao4 h4;have UZ:=Ao4 hgr;have HC:=Ao4 AP;obtain⟨c1,c2,d1,d2,g1,g2⟩:=AP;have HL:=Ao4 (show MJ m=(decide (400<m.pts.length)||(decide (1200<m.eds.length)||decide (800<m.nf)))from rfl);have hM:=Ao6 w (.cells #[.slice A m.pts.length c,.slice B m.eds.length d,.slice F m.nf g] 35);have hE:=(Ab.refl w).alloc (.cells #[.slice A m.pts.length c,.slice B m.eds.length d,.slice F m.nf g] 35);unfold AO;clear hA hB hz h0 h1 h2 h3 h4 hgr;go_enter Tryz.func19,Tryz.ntmps19
 go_upto_region 1 with fail
 generalize w.alloc (.cells #[.slice A m.pts.length c,.slice B m.eds.length d,.slice F m.nf g] 35)=V at *;obtain⟨bm,AW⟩:=Ao3 w.heap.size;rw [←AW]at hM ⊢;have hle:w.heap.size<=bm:=(by omega);clear AW;have m1:=Aa (o:=0) hM rfl;have m2:=Aa (o:=1) hM rfl;have m3:=Aa (o:=2) hM rfl;by_cases n1:(400:Int)<(m.pts.length:Int)
 ·have dd:decide ((400:Int)<(m.pts.length:Int))=true:=decide_eq_true n1;have HH:=Ao4 (show r=4 from H0.out (by rw [HL.out,decide_eq_true (by omega)];rfl));go_wp2;go_ret;exact⟨by rw [HH.out];rfl,hE⟩
 have sH:decide ((400:Int)<(m.pts.length:Int))=false:=decide_eq_false n1;by_cases n2:(1200:Int)<(m.eds.length:Int)
 ·have dd:decide ((1200:Int)<(m.eds.length:Int))=true:=decide_eq_true n2;have HH:=Ao4 (show r=4 from H0.out (by rw [HL.out,decide_eq_true (p:=1200<m.eds.length) (by omega)];simp));clear n1;go_wp2;go_ret;exact⟨by rw [HH.out];rfl,hE⟩
 have ZQ:decide ((1200:Int)<(m.eds.length:Int))=false:=decide_eq_false n2;by_cases n3:(800:Int)<(m.nf:Int)
 ·have dd:decide ((800:Int)<(m.nf:Int))=true:=decide_eq_true n3;have HH:=Ao4 (show r=4 from H0.out (by rw [HL.out,decide_eq_true (p:=800<m.nf) (by omega)];simp));clear n1 n2;go_wp2;go_ret;exact⟨by rw [HH.out];rfl,hE⟩
 have sJ:decide ((800:Int)<(m.nf:Int))=false:=decide_eq_false n3;have HN:=Ao4 (show MJ m=false by rw [HL.out,decide_eq_false (by omega),decide_eq_false (by omega),decide_eq_false (by omega)];rfl);have An9:m.pts.length<=400:=(by omega);have Afn:m.eds.length<=1200:=(by omega);have Anc:m.nf<=800:=(by omega);clear n1 n2 n3 HL H0
 go_upto_block 0 with fail
 clear sH ZQ sJ m1 m2 m3
 go_cut [] (fun wx=>Dn [] m.pts=0/\Ab V wx)
 case first=>
  (go_wp2_with fail)
  go_loopw [33] (fun i wr=>∃j:Nat,i=.int .i64 (j:Nat)/\j<=m.pts.length/\Dn (m.pts.take j) (m.pts.drop j)=Dn [] m.pts/\Ab V wr) (fun i _=>m.pts.length-(intOf i).toNat)
  case atStart=>exact⟨0,rfl,by omega,by simp,Ab.refl _⟩
  case round=>
   obtain⟨j,rfl,hj,Ai,Ac⟩:=hrel;have HO:=Ao4 Ai;clear Ai;by_cases hlt:j<m.pts.length
   ·obtain⟨b,o,rfl,hg1,hg2⟩:=Co ((HA.out.ext hE).ext Ac) hlt;have hz:=HZ.out m.pts[j] (Ao8 hlt);obtain⟨p,hp⟩:=Ao3 (m.pts[j]);have HP:=Ao4 hp;have HS:=Ao4 (Ac4 hlt);rw [←hp]at hg1 hg2 hz;have hj0:(0:Int)<=(j:Int):=(by omega);have Bc:(j:Int)<(m.pts.length:Int):=(by omega);have hjc:(j:Int)<=(c:Int):=(by omega);have Au:=Ao6 wr (.cells #[S (R p.x),S (R p.y)] 24);have hx1:=Ac.alloc (.cells #[S (R p.x),S (R p.y)] 24);have ck:=GF (R p.x) (R p.y) true (by simp only [true_iff];exact⟨LX hz.x hk hk2,LX hz.y hk hk2⟩) (Rj hz.x hk (by omega)) (Rj hz.y hk (by omega));rw [Ek]at ck;clear hp hz
    go_upto_region 6 with fail
    generalize wr.alloc (.cells #[S (R p.x),S (R p.y)] 24)=V1 at *;obtain⟨bp,Tl⟩:=Ao3 wr.heap.size;rw [←Tl]at Au ⊢;clear Tl hg1 hg2;have k1:=Aa (o:=0) Au rfl;have k2:=Aa (o:=1) Au rfl;(go_wp2_with fail);(with_reducible refine(ck _ (hw.ext (hE.trans hx1))).mono ?_);rintro e w2 ⟨rfl,hx2⟩;have D5:=(hx2.block _ (Ao5 Au)).trans Au;replace hx2:=hx1.trans hx2;have hw2:=hw.ext (hE.trans hx2);have F7:=(hx2.block _ (Ao5 hM)).trans hM;have f1:∀q:Ad w2,q.w.cell? ⟨bp,0,none⟩=some (S (R p.x)):=Ad.cell (Aa D5 rfl);have f2:∀q:Ad w2,q.w.cell? ⟨bp,1,none⟩=some (S (R p.y)):=Ad.cell (Aa D5 rfl);have f3:∀q:Ad w2,q.w.cell? ⟨bm,0,none⟩=some (.slice (some ⟨b,o,none⟩) m.pts.length c):=Ad.cell (Aa F7 rfl);have ct:=fun q:Ad w2=>AcQ m.pts j hj p (some ⟨b,o,none⟩) c q.w ((HA.out.ext (hE.trans hx2)).ext q.h) c1 c2;unfold Ak at ct;obtain⟨du,Kd⟩:=Ao3 ((m.pts.take j).any (Ax p));rw [←Kd]at ct;have HD:=Ao4 Kd;clear Kd k1 k2 ck Au D5 F7 hx1 Ac;(go_wp2_with fail);refine Di (by kernel_rfl) (by kernel_rfl) ?_
    repeat (go_big_quiet_step (with_reducible refine ZY (ct _)))
    refine wpQuiet_nil ?_;rintro _ ⟨q,rfl⟩;have hxq:=hx2.trans q.h;have HQ:=Ao4 hxq
    cases du
    ·have HH:=Ao4 (show Dn (m.pts.take (j+1)) (m.pts.drop (j+1))=Dn [] m.pts by
      rw [←HO.out,HS.out,←HP.out,←HD.out];rfl)
     go_wp2;go_roundw
     case rel=>exact⟨j+1,by go_num,hlt,HH.out,HQ.out⟩
     case measure=>simp [intOf];omega
    ·have HH:=Ao4 (show Dn [] m.pts=9 by rw [←HO.out,HS.out,←HP.out,←HD.out];rfl);have HR:=Ao4 (show r=9 by rw [←HH.out];exact H1.out HN.out (by rw [HH.out];omega));go_wp2;go_ret;exact⟨by rw [HR.out];rfl,hE.trans HQ.out⟩
   ·have hle:(m.pts.length:Int)<=(j:Int):=(by omega);have HH:=Ao4 (show Dn [] m.pts=0 by rw [←HO.out,List.drop_eq_nil_of_le (by omega)];unfold Dn;rfl);go_wp2;go_meet;exact⟨HH.out,Ac⟩
 case rest=>
  obtain⟨hc1,hx1⟩:=hcut;have mP:=Ao4 (fun h=>H2.out HN.out hc1 h);have YG:=Ao4 hc1;have nX:=Ao4 hx1;have Lp:=(hx1.block _ (Ao5 hM)).trans hM;have m1:=Aa (o:=1) Lp rfl;clear hc1 H1 hx1
  go_upto_block 3 with fail
  clear m1
  go_cut [] (fun wx=>D2 m.pts.length m.nf [] m.eds=0/\Ab V wx)
  case first=>
   (go_wp2_with fail)
   go_loopw [53] (fun i wr=>∃j:Nat,i=.int .i64 (j:Nat)/\j<=m.eds.length/\D2 m.pts.length m.nf (m.eds.take j) (m.eds.drop j)=D2 m.pts.length m.nf [] m.eds/\Ab V wr) (fun i _=>m.eds.length-(intOf i).toNat)
   case atStart=>exact⟨0,rfl,by omega,by simp,nX.out⟩
   case round=>
    obtain⟨j,rfl,hj,Ai,Ac⟩:=hrel;have HO:=Ao4 Ai;clear Ai;by_cases hlt:j<m.eds.length
    ·have hj0:(0:Int)<=(j:Int):=(by omega);have Bc:(j:Int)<(m.eds.length:Int):=(by omega);have HS:=Ao4 (Ac5 (np:=m.pts.length) (nf:=m.nf) hlt);have ce:=Acy m A B F c d g HC.out j hlt wr (HB.out.ext (hE.trans Ac));obtain⟨z,hz⟩:=Ao3 (JU m.pts.length m.nf (m.eds.take j) m.eds[j]);rw [←hz]at ce;have M9:=Ao4 hz;unfold AO at ce;have EX:=(Ac.block _ (Ao5 hM)).trans hM;have m1:=Aa (o:=0) EX rfl;have m2:=Aa (o:=1) EX rfl;have m3:=Aa (o:=2) EX rfl;clear hz EX;(go_wp2_with fail);(with_reducible refine ce.mono ?_);rintro e w2 ⟨rfl,hx2⟩;have HX:=Ao4 (Ac.trans hx2);clear m1 m2 m3 hx2 ce;by_cases hz0:z=0
     ·have HH:=Ao4 (show D2 m.pts.length m.nf (m.eds.take (j+1)) (m.eds.drop (j+1))=D2 m.pts.length m.nf [] m.eds by
       rw [←HO.out,HS.out,←M9.out,if_neg (by omega)])
      subst hz0;go_wp2;go_roundw
      case rel=>exact⟨j+1,by go_num,hlt,HH.out,HX.out⟩
      case measure=>simp [intOf];omega
     ·have HH:=Ao4 (show D2 m.pts.length m.nf [] m.eds=z by rw [←HO.out,HS.out,←M9.out,if_pos (by omega)]);have HR:=Ao4 (show r=z by rw [←HH.out];exact mP.out (by rw [HH.out];exact hz0));have dd:(z == 0)=false:=(by rw [beq_eq_false_iff_ne];exact hz0);have ZQ:(z != 0)=true:=(by rw [bne_iff_ne];exact hz0);clear hz0;go_wp2;go_ret;exact⟨by rw [HR.out];rfl,hE.trans HX.out⟩
    ·have hle:(m.eds.length:Int)<=(j:Int):=(by omega);have HH:=Ao4 (show D2 m.pts.length m.nf [] m.eds=0 by rw [←HO.out,List.drop_eq_nil_of_le (by omega)];unfold D2;rfl);go_wp2;go_meet;exact⟨HH.out,Ac⟩
  case rest=>
   obtain⟨hc2,hx1⟩:=hcut;have mQ:=Ao4 (fun h=>H3.out HN.out YG.out hc2 h);have Fp:=Ao4 hc2;have HX2:=Ao4 hx1;have Lp:=(hx1.block _ (Ao5 hM)).trans hM;have m1:=Aa (o:=1) Lp rfl;clear hc2 mP nX hx1
   go_upto_region 18 with fail
   go_upto_block 5 with fail
   go_cut [] (fun wx=>Ej m.pts [] m.eds=0/\Ab V wx)
   case first=>
    (go_wp2_with fail)
    go_loopw [66] (fun i wr=>∃j:Nat,i=.int .i64 (j:Nat)/\j<=m.eds.length/\Ej m.pts (m.eds.take j) (m.eds.drop j)=Ej m.pts [] m.eds/\Ab V wr) (fun i _=>m.eds.length-(intOf i).toNat)
    case atStart=>exact⟨0,rfl,by omega,by simp,HX2.out⟩
    case round=>
     obtain⟨j,rfl,hj,Ai,Ac⟩:=hrel;have HO:=Ao4 Ai;clear Ai;by_cases hlt:j<m.eds.length
     ·have hj0:(0:Int)<=(j:Int):=(by omega);have Bc:(j:Int)<(m.eds.length:Int):=(by omega);have hjd:(j:Int)<=(d:Int):=(by omega);have HS:=Ao4 (Ac6 (pts:=m.pts) hlt);obtain⟨b,o,rfl,hg1,hg2,hg3,hg4⟩:=Mf ((HB.out.ext hE).ext Ac) hlt;have hck:=Sj (PG (l:=m.eds) Fp.out j hlt);obtain⟨e,he⟩:=Ao3 (m.eds[j]);rw [←he]at hg1 hg2 hg3 hg4 hck;have mV:=Ao4 he;obtain⟨ef,OB⟩:∃n:Nat,e.f=(n:Int):=⟨e.f.toNat,by omega⟩;obtain⟨et,OC⟩:∃n:Nat,e.t=(n:Int):=⟨e.t.toNat,by omega⟩;have Qj:ef<m.pts.length:=(by omega);have Qk:et<m.pts.length:=(by omega);have mT:=Ao4 (And.intro OB OC);rw [OB]at hg1;rw [OC]at hg2;obtain⟨ba,oa,rfl,ha1,ha2⟩:=Co ((HA.out.ext hE).ext Ac) Qj;obtain⟨b2,o2,IC,hb1,hb2⟩:=Co ((HA.out.ext hE).ext Ac) Qk;obtain⟨rfl,rfl⟩:ba=b2/\oa=o2:=(by simpa using IC);have Q9:=HZ.out m.pts[ef] (Ao8 Qj);have hzb:=HZ.out m.pts[et] (Ao8 Qk);obtain⟨pa,Gd⟩:=Ao3 (m.pts[ef]);obtain⟨pb,Qu⟩:=Ao3 (m.pts[et]);rw [←Gd]at ha1 ha2 Q9;rw [←Qu]at hb1 hb2 hzb;have EM:=Ao4 (And.intro Gd Qu);have f0:(0:Int)<=(ef:Int):=(by omega);have f1:(ef:Int)<(m.pts.length:Int):=(by omega);have f2:(0:Int)<=(et:Int):=(by omega);have f3:(et:Int)<(m.pts.length:Int):=(by omega);have EX:=(Ac.block _ (Ao5 hM)).trans hM;have m1:=Aa (o:=1) EX rfl;have Au:=Ao6 wr (.cells #[.int .i64 (ef:Nat),.int .i64 (et:Nat),.int .i64 e.l,.int .i64 e.r] 51);have hx1:=Ac.alloc (.cells #[.int .i64 (ef:Nat),.int .i64 (et:Nat),.int .i64 e.l,.int .i64 e.r] 51);have hx0:=(Ab.refl wr).alloc (.cells #[.int .i64 (ef:Nat),.int .i64 (et:Nat),.int .i64 e.l,.int .i64 e.r] 51);replace ha1:=hx0.cellS ha1;replace ha2:=hx0.cellS ha2;replace hb1:=hx0.cellS hb1;replace hb2:=hx0.cellS hb2;clear hck he OB OC IC Gd Qu
      go_upto_region 21 with fail
      generalize wr.alloc (.cells #[.int .i64 (ef:Nat),.int .i64 (et:Nat),.int .i64 e.l,.int .i64 e.r] 51)=V1 at *;obtain⟨bp,Tl⟩:=Ao3 wr.heap.size;rw [←Tl]at Au ⊢;clear Tl hg1 hg2 hg3 hg4 Ac EX m1 hx0;have Cp:=(hx1.block _ (Ao5 hM)).trans hM;have m1:=Aa (o:=1) Cp rfl
      go_upto_region 22 with fail
      clear m1
      go_loopw [76] (fun i wr=>∃jj:Nat,i=.int .i64 (jj:Nat)/\jj<=j/\(∀f∈m.eds.take jj,PK m.pts e f=false)/\Ab V1 wr) (fun i _=>j-(intOf i).toNat)
      case atStart=>exact⟨0,rfl,by omega,by simp,Ab.refl _⟩
      case round=>
       obtain⟨jj,rfl,Kj,Ai,Ac⟩:=hrel;have Pv:=Ao4 Ai;clear Ai;by_cases hlt2:jj<j
       ·have jj0:(0:Int)<=(jj:Int):=(by omega);have jjl:(jj:Int)<(j:Int):=(by omega);have OG:jj<m.eds.length:=(by omega);obtain⟨b',o',Br,hg1,hg2,hg3,hg4⟩:=Mf (((HB.out.ext hE).ext hx1).ext Ac) OG;obtain⟨rfl,rfl⟩:b=b'/\o=o':=(by simpa using Br);have hck:=Sj (PG (l:=m.eds) Fp.out jj OG);obtain⟨f,hf⟩:=Ao3 (m.eds[jj]);rw [←hf]at hg1 hg2 hg3 hg4 hck;have mX:=Ao4 hf;obtain⟨ff,Js⟩:∃n:Nat,f.f=(n:Int):=⟨f.f.toNat,by omega⟩;obtain⟨ft,eG⟩:∃n:Nat,f.t=(n:Int):=⟨f.t.toNat,by omega⟩;have eB:ff<m.pts.length:=(by omega);have eH:ft<m.pts.length:=(by omega);have mW:=Ao4 (And.intro Js eG);rw [Js]at hg1;rw [eG]at hg2;obtain⟨b3,o3,Ke,hc1,hc2⟩:=Co ((HA.out.ext hE).ext hx1) eB;obtain⟨b4,o4,yR,WO,Fa⟩:=Co ((HA.out.ext hE).ext hx1) eH;obtain⟨rfl,rfl⟩:ba=b3/\oa=o3:=(by simpa using Ke);obtain⟨rfl,rfl⟩:ba=b4/\oa=o4:=(by simpa using yR);have iN:=HZ.out m.pts[ff] (Ao8 eB);have hzd:=HZ.out m.pts[ft] (Ao8 eH);obtain⟨pc,Qv⟩:=Ao3 (m.pts[ff]);obtain⟨pd,fR⟩:=Ao3 (m.pts[ft]);rw [←Qv]at hc1 hc2 iN;rw [←fR]at WO Fa hzd;have nQ:=Ao4 (And.intro Qv fR);have f4:(0:Int)<=(ff:Int):=(by omega);have f5:(ff:Int)<(m.pts.length:Int):=(by omega);have f6:(0:Int)<=(ft:Int):=(by omega);have f7:(ft:Int)<(m.pts.length:Int):=(by omega);have D5:=Ao6 wr (.cells #[.int .i64 (ff:Nat),.int .i64 (ft:Nat),.int .i64 f.l,.int .i64 f.r] 51);have hx2:=Ac.alloc (.cells #[.int .i64 (ff:Nat),.int .i64 (ft:Nat),.int .i64 f.l,.int .i64 f.r] 51);clear hck hf Js eG Ke yR Qv fR Br
        go_upto_region 24 with fail
        generalize wr.alloc (.cells #[.int .i64 (ff:Nat),.int .i64 (ft:Nat),.int .i64 f.l,.int .i64 f.r] 51)=V2 at *;obtain⟨bq,Tm⟩:=Ao3 wr.heap.size;rw [←Tm]at D5 ⊢;have hx3:=hx1.trans hx2;have F7:=(hx2.block _ (Ao5 Cp)).trans Cp;have dM:=(hx2.block _ (Ao5 Au)).trans Au;have hwV:=hw.ext (hE.trans hx3);have q1:∀q:Ad V2,q.w.cell? ⟨bm,0,none⟩=some (.slice (some ⟨ba,oa,none⟩) m.pts.length c):=Ad.cell (Aa F7 rfl);have q2:∀q:Ad V2,q.w.cell? ⟨bp,0,none⟩=some (.int .i64 (ef:Nat)):=Ad.cell (Aa dM rfl);have q3:∀q:Ad V2,q.w.cell? ⟨bp,1,none⟩=some (.int .i64 (et:Nat)):=Ad.cell (Aa dM rfl);have q4:∀q:Ad V2,q.w.cell? ⟨bq,0,none⟩=some (.int .i64 (ff:Nat)):=Ad.cell (Aa D5 rfl);have q5:∀q:Ad V2,q.w.cell? ⟨bq,1,none⟩=some (.int .i64 (ft:Nat)):=Ad.cell (Aa D5 rfl);have a1:∀q:Ad V2,q.w.cell? ⟨ba,oa+ef*2,none⟩=some (S (R pa.x)):=Ad.cell (hx2.cellS ha1);have a2:∀q:Ad V2,q.w.cell? ⟨ba,oa+ef*2+1,none⟩=some (S (R pa.y)):=Ad.cell (hx2.cellS ha2);have a3:∀q:Ad V2,q.w.cell? ⟨ba,oa+et*2,none⟩=some (S (R pb.x)):=Ad.cell (hx2.cellS hb1);have a4:∀q:Ad V2,q.w.cell? ⟨ba,oa+et*2+1,none⟩=some (S (R pb.y)):=Ad.cell (hx2.cellS hb2);have a5:∀q:Ad V2,q.w.cell? ⟨ba,oa+ff*2,none⟩=some (S (R pc.x)):=Ad.cell (hx2.cellS hc1);have a6:∀q:Ad V2,q.w.cell? ⟨ba,oa+ff*2+1,none⟩=some (S (R pc.y)):=Ad.cell (hx2.cellS hc2);have a7:∀q:Ad V2,q.w.cell? ⟨ba,oa+ft*2,none⟩=some (S (R pd.x)):=Ad.cell (hx2.cellS WO);have a8:∀q:Ad V2,q.w.cell? ⟨ba,oa+ft*2+1,none⟩=some (S (R pd.y)):=Ad.cell (hx2.cellS Fa);have cr:=fun q:Ad V2=>AiZ pa pb pc pd Q9 hzb iN hzd hk (by omega) q.w (hwV.ext q.h);obtain⟨cx,WM⟩:=Ao3 (NG pa pb pc pd);rw [←WM]at cr
        have hce:PK m.pts e f=cx:=by unfold PK Ev;rw [mT.out.1,mT.out.2,mW.out.1,mW.out.2,WM,EM.out.1,EM.out.2,nQ.out.1,nQ.out.2];simp [Qj,Qk,eB,eH]
        have UW:=Ao4 hce;unfold Ak at cr;clear Tm F7 dM D5 ha1 ha2 hb1 hb2 hc1 hc2 WO Fa Q9 hzb iN hzd WM hce hg1 hg2 hg3 hg4 Cp Au;refine Di (by kernel_rfl) (by kernel_rfl) ?_
        repeat (go_big_quiet_step (with_reducible refine ZY (cr _)))
        refine wpQuiet_nil ?_;rintro _ ⟨q,rfl⟩;have M8:=Ao4 (hx2.trans q.h);have RB:=Ao4 (hE.trans (hx3.trans q.h));clear q1 q2 q3 q4 q5 a1 a2 a3 a4 a5 a6 a7 a8 cr hx2 hx3
        cases cx
        ·go_wp2;go_roundw
         case rel=>
          refine⟨jj+1,by go_num,by omega,?_,M8.out⟩;intro x hx;rw [AoA OG,←mX.out]at hx
          rcases List.mem_append.1 hx with h|h
          ·exact Pv.out x h
          ·simp only [AoJ]at h;rw [h];exact UW.out
         case measure=>simp [intOf];omega
        ·have HH:=Ao4 (show Ej m.pts [] m.eds=26 by
          rw [←HO.out,HS.out,if_pos];rw [←mV.out,List.any_eq_true]
          exact⟨f,by rw [mX.out,List.mem_take_iff_getElem];exact⟨jj,by omega,rfl⟩,UW.out⟩)
         have HR:=Ao4 (show r=26 from mQ.out (by rw [HH.out];omega));go_wp2;go_ret;exact⟨by rw [HR.out];rfl,RB.out⟩
       ·have eV:(j:Int)<=(jj:Int):=(by omega);obtain rfl:jj=j:=by omega
        have HH:=Ao4 (show Ej m.pts (m.eds.take (jj+1)) (m.eds.drop (jj+1))=Ej m.pts [] m.eds by
         rw [←HO.out,HS.out,if_neg];rw [←mV.out,Bool.not_eq_true,List.any_eq_false]
         intro x hx;rw [Pv.out x hx];simp)
        have HX:=Ao4 (hx1.trans Ac);go_wp2;go_roundw
        case rel=>exact⟨jj+1,by go_num,hlt,HH.out,HX.out⟩
        case measure=>simp [intOf];omega
     ·have hle:(m.eds.length:Int)<=(j:Int):=(by omega);have HH:=Ao4 (show Ej m.pts [] m.eds=0 by rw [←HO.out,List.drop_eq_nil_of_le (by omega)];unfold Ej;rfl);go_wp2;go_meet;exact⟨HH.out,Ac⟩
   case rest=>
    obtain⟨hc3,hx1⟩:=hcut;obtain⟨wx,rfl⟩:=named hx1;have zw:=Ao4 (H4.out HN.out YG.out Fp.out hc3);have F8:=Sv YG.out Fp.out;have Lp:=(hx1.block _ (Ao5 hM)).trans hM;have x0:=Aa (o:=0) Lp rfl;have x1:=Aa (o:=1) Lp rfl;have x2:=Aa (o:=2) Lp rfl;have Cw:=hE.trans hx1;have AP:CY m c d g:=HC.out;have oc:=XW m A B F c d g AP F8 Afn wx (HA.out.ext Cw) (HB.out.ext Cw);have AfQ:=hw.ext Cw;unfold AO at oc;have ag:=fun (w2:World) (h2:Ab wx w2) (rn b1 b2:Nat) (E:List (Pt×Value×Nat)) (hn:BD wx.heap.size w2 rn b1 b2 (AH m.pts m.eds) E (BN m.pts m.eds))=>Abx AfQ h2 hn rfl (jQ m.pts m.eds) (XQ F8 UZ.out hc3) (XP F8 UZ.out) (by rw [QM];omega) (fun e he=>by have:=QL m.pts m.eds e he;omega) m.nf (by omega) (mh Fp.out) (R1:=jR m) rfl (C:=OW m) rfl (rg:=QK m) rfl;have Xh:∀(fn:Fn) (first cap:Array Value) (w:World),(Instr.makeFunc fn first cap).run Tryz.prog w=.ok (.func fn first cap) w:=fun _ _ _ _=>rfl;have nK:=Ao4 Lp;obtain⟨fw,hfw⟩:=Ao3 (S3 (BN m.pts m.eds) m.pts);obtain⟨ab,hab⟩:=Ao3 (MF (AH m.pts m.eds) m.nf (OW m) (QK m))
    have hr:r=if fw=true then 25 else if ab=true then 0 else 14:=by rw [zw.out,hfw,hab];rfl
    have zq:=Ao4 hfw;have HR:=Ao4 hr;rw [←hab]at ag;generalize (KX (AH m.pts m.eds) m.nf (OW m) (QK m)).op=ao at *;clear Lp hx1 F8 hc3 hfw hab hr H2 H3 mQ
    go_upto_region 28 with fail
    (go_wp2_with fail);(with_reducible refine oc.mono ?_);rintro e w2 ⟨rn,b1,b2,E,rfl,hx2,Cf⟩;have BV:=(Ab.refl w2).alloc (.cells #[.pointer (some ⟨rn,0,none⟩)] 93);have Cx:=Ao6 w2 (.cells #[.pointer (some ⟨rn,0,none⟩)] 93);have Ie:=Cf.ext BV;have hx3:=hx2.trans BV;have CV:=(hx3.block _ (Ao5 nK.out)).trans nK.out;have y0:=Aa (o:=0) CV rfl;clear x0 x1 x2 oc Cf
    go_upto_region 29 with fail
    generalize w2.alloc (.cells #[.pointer (some ⟨rn,0,none⟩)] 93)=w3 at *;obtain⟨bn,Tk⟩:=Ao3 w2.heap.size;rw [←Tk]at Cx ⊢;clear Tk;have af:=Ab2 Ie bn (Aa Cx rfl) m.pts A c (HA.out.ext (Cw.trans hx3)) (by assumption) (by assumption);rw [←zq.out]at af;(go_wp2_with fail);(with_reducible refine af.mono ?_);rintro e w4 ⟨rfl,Ag⟩;have ip:=hx3.trans Ag;have Lo:=(Ag.block _ (Ao5 CV)).trans CV;have xY:=(Ag.block _ (Ao5 Cx)).trans Cx;have z2:=Aa (o:=2) Lo rfl;have z3:=Aa (o:=0) xY rfl;have ag4:=ag w4 ip rn b1 b2 E (Ie.ext Ag);clear ag af CV Cx Lo xY y0 Ie hx2 hx3 BV Ag
    cases fw
    ·have NW:=Ao4 (show r=if ab=true then 0 else 14 from HR.out);(go_wp2_with fail);(with_reducible refine ag4.mono ?_);rintro e w5 ⟨rfl,Ae⟩
     cases ab
     ·obtain rfl:r=14:=NW.out;go_wp2;go_ret;exact⟨rfl,Cw.trans Ae⟩
     ·obtain rfl:r=0:=NW.out;go_wp2;go_ret;exact⟨rfl,Cw.trans Ae⟩
    ·obtain rfl:r=25:=HR.out;go_wp2;go_ret;exact⟨rfl,Cw.trans ip⟩
def Fx(m:MapZ):Int:=
 if MJ m=true then 4 else if Dn [] m.pts≠0 then Dn [] m.pts else if D2 m.pts.length m.nf [] m.eds≠0 then D2 m.pts.length m.nf [] m.eds else if Ej m.pts [] m.eds≠0 then 26 else ZE m
theorem Pa(m:MapZ)(hgr:∀p∈m.pts,Db p)(A B F:Option Addr)(c d g:Nat)(AP:CY m c d g)(w:World)(hw:Am w)(hA:Af w A (flat (Aq m.pts)))(hB:Af w B (A9 m.eds)) :
  Calls Tryz.prog 19 #[AO A B F m c d g] w (AI (Fx m) w):=by
 refine AiY m hgr (k:=200) (by omega) (by omega) (fun p hp=>(hgr p hp).sz (by omega)) A B F c d g AP w hw hA hB (Fx m) ?_ ?_ ?_ ?_ ?_
 ·intro h;unfold Fx;rw [if_pos h]
 ·intro h h1;unfold Fx;rw [if_neg (by rw [h];simp),if_pos h1]
 ·intro h h1 h2;unfold Fx;rw [if_neg (by rw [h];simp),if_neg (by omega),if_pos h2]
 ·intro h h1 h2 h3;unfold Fx;rw [if_neg (by rw [h];simp),if_neg (by omega),if_neg (by omega),if_pos h3]
 ·intro h h1 h2 h3;unfold Fx;rw [if_neg (by rw [h];simp),if_neg (by omega),if_neg (by omega),if_neg (by omega)]
end Go.Proofs.YtnddllipjippnaaGreatDoor
namespace Go.Proofs.YtnddllipjippnaaGreatDoor
section
open Go.RowKit Kl
theorem AhX(n:Nat)(hn:n<=200000)(c:Int)(hc:c=(n:Int))(W:World) :
  (Instr.makeSlice 33 (.int .i64 c) (.int .i64 c)).run Tryz.prog W=.ok (.slice (some ⟨W.heap.size,0,none⟩) n n) (W.alloc (.cells (madeCells #[S []] n) 9)):=by
 subst hc;obtain⟨i0,hi,hz0,hz1,hz2⟩:=info_parts Tryz.infoStr;have h:=run_make (P:=Tryz.prog) W 33 9 i0 (S []) Tryz.underlying33 hi hz0 .i64 .i64 n n (by omega) (by omega) (by rw [hz2];omega) (by omega);rw [hz1,Nat.mul_one]at h;simp only [Int.toNat_natCast]at h;exact h
theorem AiN(W:World)(base n:Nat)(hb:base<=W.heap.size)(hn:n<=200000) :
  (W.alloc (.cells (madeCells #[S []] n) 9)).ownsRow base 9 1 (.slice (some ⟨W.heap.size,0,none⟩) n n) n ((List.replicate n []).map S):=by
 have h:=World.ownsRow_lit (w:=W) (base:=base) (e:=9) (size:=1) (madeCells #[S []] n) n hb (by unfold maxLen;omega) (by rw [size_madeCells];omega);rw [toList_madeCells_one]at h
 simpa using h
end
end Go.Proofs.YtnddllipjippnaaGreatDoor
