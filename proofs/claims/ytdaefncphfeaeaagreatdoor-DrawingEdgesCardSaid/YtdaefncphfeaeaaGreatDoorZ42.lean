/- Z42: D4 D8 T4. -/
import Derived.Laws.EntriesVeiled
import Derived.Test.YtdaefncphfeaeaaGreatDoorZ40
set_option maxRecDepth 100000
set_option maxHeartbeats 16000000
namespace Go.Proofs.YtdaefncphfeaeaaGreatDoor
open Go.RowKit Kl
open Go.ChangeMaps (setBlock)
theorem Ak3{W:World}{b:Nat}{L:List (Sg×Int)}(h:W.heap[b]?=some (.map (AK Ax (stamp L)).toArray L.length))(s:Sg)(hno:∀e∈L,Bc s e.1=false)(z:Int) :
  ∃W',(Instr.mapUpdate 108 (.map (some b)) (Ax s) (.int .i64 z)).run Tryz.prog W=.ok () W'/\W'.heap[b]?=some (.map (AK Ax (stamp (L ++ [(s,z)]))).toArray (L ++ [(s,z)]).length)/\W.grownBy W' (some b)/\W'.heap.size=W.heap.size:=by
 refine⟨_,AaQ mJ s (stamp L) ?_ (.int .i64 z) h,?_,Nh h,by simp [setBlock]⟩
 ·intro e he;obtain⟨x,hx,h1⟩:=Abk he;rw [h1];exact hno x hx
 ·rw [On h,Abm];simp
theorem AnQ{s t:Sg}(h:s≠t):Bc s t=false:=by
 rw [Bool.eq_false_iff];exact fun k=>h (Ls.1 k)
theorem AgG{C:List (List Sg)}(IA:C.flatten.Nodup){k:Nat}(hk:k<C.length){j:Nat}(hj:j<C[k].length):∀e∈DI (C.take k)++(C[k].take j).map (fun s=>(s,(k:Int))),Bc C[k][j] e.1=false:=by
 intro e he;refine AnQ fun hh=>?_;have h1:C=C.take k++C[k]::C.drop (k+1):=(by rw [←List.drop_eq_getElem_cons hk,List.take_append_drop]);have h2:C[k]=C[k].take j++C[k][j]::C[k].drop (j+1):=by rw [←List.drop_eq_getElem_cons hj,List.take_append_drop]
 have h3:C.flatten=(C.take k).flatten++(C[k]++(C.drop (k+1)).flatten):=by
  have:=congrArg List.flatten h1
  rwa [List.flatten_append,List.flatten_cons]at this
 rw [h3,List.nodup_append]at IA;obtain⟨-,DZ,Aim⟩:=IA;rw [List.nodup_append]at DZ;obtain⟨Mf,-,-⟩:=DZ
 rcases List.mem_append.1 he with he|he
 ·have:e.1∈(DI (C.take k)).map (·.1):=List.mem_map_of_mem he;rw [zt]at this;exact Aim _ this _ (List.mem_append_left _ (Asg hj)) hh.symm
 ·rw [List.mem_map]at he;obtain⟨s,hs,rfl⟩:=he;rw [h2,List.nodup_append]at Mf;exact Mf.2.2 _ hs _ List.mem_cons_self hh.symm
theorem AkZ(n:Nat)(hn:n<=200000)(c:Int)(hc:c=(n:Int))(W:World) :
  (Instr.makeSlice 135 (.int .i64 c) (.int .i64 c)).run Tryz.prog W=.ok (.slice (some ⟨W.heap.size,0,none⟩) n n) (W.alloc (.cells (madeCells #[.int .i64 0] n) 3)):=UX n hn c hc W
def Km(W:List Sg)(C:List (List Sg))(k:Nat):List Value:=(List.range C.length).map (fun j=>Value.int .i64 (if j<k then CE W C (W.length+1) j else 0))
theorem Ant(W:List Sg)(C:List (List Sg)):Km W C 0=zs (zn (List.replicate C.length 0)):=by
 unfold Km zs zn;apply List.ext_getElem
 ·simp
 ·intro i h1 h2;simp
theorem Anr(W:List Sg)(C:List (List Sg)):Km W C C.length=(RP W C).map (Value.int .i64):=by
 unfold Km RP;apply List.ext_getElem
 ·simp
 ·intro i h1 h2;have:i<C.length:=(by simpa using h1);simp [this]
theorem Ans(W:List Sg)(C:List (List Sg)){k:Nat}(_:k<C.length):(Km W C k).set k (.int .i64 (CE W C (W.length+1) k))=Km W C (k+1):=by
 unfold Km;apply List.ext_getElem
 ·simp
 ·intro i h1 h2;by_cases h:k=i
  ·subst h;simp
  ·rw [List.getElem_set_ne h];have:(i<k+1)↔i<k:=(by omega);simp [this]
theorem AeQ(w:World)(o1 o2 o3 o4:Obj):∃W,W=(((w.alloc o1).alloc o2).alloc o3).alloc o4/\Aa w W/\W.heap.size=w.heap.size+4/\W.heap[w.heap.size]?=some o1/\W.heap[w.heap.size+1]?=some o2/\W.heap[w.heap.size+1+1]?=some o3/\W.heap[w.heap.size+1+1+1]?=some o4:=by
 obtain⟨V,hV,hE,h1,h2,h3⟩:=G9 w o1 o2 o3;have hs:V.heap.size=w.heap.size+1+1+1:=(by rw [hV];simp);have FD:=(Aa.refl V).alloc o4;refine⟨_,by rw [←hV],hE.alloc o4,by simp [hs],(FD.block _ (Asd h1)).trans h1,(FD.block _ (Asd h2)).trans h2,(FD.block _ (Asd h3)).trans h3,?_⟩;rw [←hs];exact Ase V o4
def Kw(W:World)(b:Nat)(l:List (Sg×Int)):Prop:=W.heap[b]?=some (.map (AK Ax (stamp l)).toArray l.length)
theorem Kw.far{W W':World}{b:Nat}{l:List (Sg×Int)}(h:Kw W b l){row:Option Nat}(hg:W.grownBy W' row)(hr:row≠some b):Kw W' b l:=(hg.block b (Asd h) (fun e=>hr e.symm)).trans h
theorem Kw.ext{W W':World}{b:Nat}{l:List (Sg×Int)}(h:Kw W b l)(hx:Aa W W'):Kw W' b l:=(hx.block b (Asd h)).trans h
theorem Anv{B:Nat}{w:World}(hw:Ai w){r b1 b2:Nat}{L:List (Sg×Int)}{E:List (Pt×Value×Nat)}{R0:List (Pt×List Pt)}(h:Cl B w r b1 b2 L E R0){W U:List Sg}{C:List (List Sg)}(hW:W=L.map (·.1))(hG:Sp W U C){A:Option Addr}{cap:Nat}(hC:MC w A cap C) :
  Calls Tryz.prog 125 #[.pointer (some ⟨r,0,none⟩),.slice A C.length cap] w fun e w'=>∃A',e=.returned (.slice A' C.length C.length)/\Am w' A' ((RP W C).map (Value.int .i64))/\Aa w w':=by
 have hmm:=@run_makeMap Tryz.prog;have Aqk:=hC.cap1;have df:=hC.cap2;go_enter Tryz.func125,Tryz.ntmps125
 go_upto_region 2 with fail
 obtain⟨W1,hW1,ER,hs1,hb1,hb2,hb3,hb4⟩:=AeQ w (.cells #[.pointer (some ⟨r,0,none⟩)] 105) (.cells #[.slice A C.length cap] 185) (.map #[] 0) (.cells #[.map (some (w.heap.size+1+1))] 108);rw [←hW1];clear hW1;obtain⟨bn,BJ⟩:=AcG w.heap.size;rw [←BJ]at hb1 hb2 hb3 hb4 ⊢;have hle:w.heap.size<=bn:=(by omega);have X3:Kw W1 (bn+1+1) (DI (C.take 0)):=by rw [List.take_zero];exact hb3
 have hCl:C.length<=100000:=by have h1:=Ze hG.ok.ne;rw [hG.ok.flat]at h1;have h2:=Ld hG.ok.nd hG.ok.sub;have:=hG.len;omega
 have hl0:(0:Int)<=(C.length:Int):=(by omega);have IA:C.flatten.Nodup:=(by rw [hG.ok.flat];exact hG.ok.nd);have HND:=Asb IA;have m2:=Ab (o:=0) hb2 rfl;clear BJ hb3 IA
 go_upto_region 3 with fail
 go_loopw [16] (fun i wr=>∃k:Nat,i=.int .i64 (k:Nat)/\k<=C.length/\Kw wr (bn+1+1) (DI (C.take k))/\AH (fun j=>j=bn+1+1) W1 wr) (fun i _=>C.length-(intOf i).toNat)
 case atStart=>exact⟨0,rfl,by omega,X3,AH.refl _ _⟩
 case round=>
  obtain⟨k,rfl,hk,hM,hB⟩:=hrel;have FG:Aa w wr:=hB.toExt ER (fun j e=>by subst e;omega);by_cases hlt:k<C.length
  ·obtain⟨bA,oA,A',c',rfl,hcell,AU,hc1,hc2⟩:=hC.row k hlt;replace hcell:=FG.cellS hcell;have hk0:(0:Int)<=(k:Int):=(by omega);have Bv:(k:Int)<(C.length:Int):=(by omega);obtain⟨c,hcc⟩:=AcG (C[k]);have hfr:=fun j (hj:j<C[k].length)=>AgG HND.out hlt hj;rw [←hcc]at hcell AU hc1 hfr
   have xZ:DI (C.take (k+1))=DI (C.take k)++c.map (fun s=>(s,(k:Int))):=by rw [Asi hlt,zv,←hcc,List.length_take,Nat.min_eq_left (by omega)]
   have HMK:=Asb xZ;have bE:=Asb hfr;have Gl:Kw wr (bn+1+1) (DI (C.take k)++(c.take 0).map (fun s=>(s,(k:Int)))):=(by rw [List.take_zero,List.map_nil,List.append_nil];exact hM);have hcl:(0:Int)<=(c.length:Int):=(by omega);clear hcc xZ hfr hM
   go_upto_region 6 with fail
   go_loopw [23] (fun i wi=>∃j:Nat,i=.int .i64 (j:Nat)/\j<=c.length/\Kw wi (bn+1+1) (DI (C.take k)++(c.take j).map (fun s=>(s,(k:Int))))/\AH (fun j=>j=bn+1+1) W1 wi) (fun i _=>c.length-(intOf i).toNat)
   case atStart=>exact⟨0,rfl,by omega,Gl,hB⟩
   case round=>
    obtain⟨j,rfl,hj,XC,Tl⟩:=hrel;have hXj:Aa w wr:=Tl.toExt ER (fun j e=>by subst e;omega);by_cases AG:j<c.length
    ·obtain⟨b',o',rfl,f1,f2,f3,f4⟩:=RH (AU.ext hXj) AG;have hno:=bE.out j AG
     have NN:DI (C.take k)++(c.take (j+1)).map (fun s=>(s,(k:Int)))=(DI (C.take k)++(c.take j).map (fun s=>(s,(k:Int)))) ++ [(c[j],(k:Int))]:=by rw [Asi AG,List.map_append,←List.append_assoc];rfl
     obtain⟨s,hs⟩:=AcG (c[j]);rw [←hs]at f1 f2 f3 f4 hno NN;have hj0:(0:Int)<=(j:Int):=(by omega);have DD:(j:Int)<(c.length:Int):=(by omega);have As:=Ase wr (.cells #[S (R s.a.x),S (R s.a.y),S (R s.b.x),S (R s.b.y)] 183);have E4:=(Aa.refl wr).alloc (.cells #[S (R s.a.x),S (R s.a.y),S (R s.b.x),S (R s.b.y)] 183);have h4:=(E4.block _ (Asd (Tl.cells hb4 (by omega)))).trans (Tl.cells hb4 (by omega));obtain⟨Wp,hput,fD,QM,-⟩:=Ak3 (XC.ext E4) s hno (k:Int);rw [←NN]at fD;have hBp:=(Tl.ext E4).grown QM (fun q e=>by cases e;exact .inl rfl);have HMP:=Asb fD;clear hno NN hs XC QM fD
     go_upto_region 8 with fail
     unfold S at As h4 hput;unfold Ax S at hput;have z0:=Ab (o:=0) As rfl;have z1:=Ab (o:=1) As rfl;have z2:=Ab (o:=2) As rfl;have z3:=Ab (o:=3) As rfl;have z4:=Ab (o:=0) h4 rfl;generalize (wr.alloc (.cells #[.string ⟨(R s.a.x).toArray⟩,.string ⟨(R s.a.y).toArray⟩,.string ⟨(R s.b.x).toArray⟩,.string ⟨(R s.b.y).toArray⟩] 183))=W4 at *;clear f1 f2 f3 f4 As h4;go_wp2;go_roundw
     case rel=>exact⟨j+1,by go_num,AG,HMP.out,hBp⟩
     case measure=>simp [intOf];omega
    ·have FO:j=c.length:=(by omega);subst FO;have Yr:(c.length:Int)<=(c.length:Int):=(by omega);rw [List.take_length,←HMK.out]at XC;go_wp2;go_roundw
     case rel=>exact⟨k+1,by go_num,hlt,XC,Tl⟩
     case measure=>simp [intOf];omega
  ·have Dd:k=C.length:=(by omega);subst Dd;rw [List.take_length]at hM;have hmk:=AkZ C.length (by omega) (C.length:Int) rfl wr;have Kc:∀(fn:Fn) (first cap:Array Value) (w:World),(Instr.makeFunc fn first cap).run Tryz.prog w=.ok (.func fn first cap) w:=fun _ _ _ _=>rfl;have XX:=hB.cells hb2 (by omega);have m2':=Ab (o:=0) XX rfl;have own:=Vo wr w.heap.size C.length (Asq ER.size hB.size) (by omega);have hx0:(w.heap.size:Nat)<=wr.heap.size:=Asq ER.size hB.size;have I5:=(Aa.refl wr).alloc (.cells (madeCells #[.int .i64 0] C.length) 3);obtain⟨fv,Yi⟩:=AcG (Value.func (.func 199) #[] #[.pointer (some ⟨bn+1,0,none⟩),.pointer (some ⟨bn,0,none⟩),.pointer (some ⟨wr.heap.size+1,0,none⟩),.pointer (some ⟨bn+1+1+1,0,none⟩)]);have eV:=(Aa.refl (wr.alloc (.cells (madeCells #[.int .i64 0] C.length) 3))).alloc (.cells #[fv] 216);have GG:=Ase (wr.alloc (.cells (madeCells #[.int .i64 0] C.length) 3)) (.cells #[fv] 216);rw [Asn]at GG;have Cm:=I5.trans eV;have Cs:=FG.trans Cm;have Vn:=Ap own eV;have Jj:=hM.ext Cm;have n1:=(Cm.block _ (Asd (hB.cells hb1 (by omega)))).trans (hB.cells hb1 (by omega));have n2:=(Cm.block _ (Asd XX)).trans XX;have n4:=(Cm.block _ (Asd (hB.cells hb4 (by omega)))).trans (hB.cells hb4 (by omega));have Yt:bn+1+1+1<wr.heap.size:=Asd (hB.cells hb4 (by omega));have U7:wr.heap.size+1<((wr.alloc (.cells (madeCells #[.int .i64 0] C.length) 3)).alloc (.cells #[fv] 216)).heap.size:=by simp
   go_upto_region 14 with fail
   rw [←Yi];clear hmk Kc m2' own hM I5 eV Cm XX;generalize (wr.alloc (.cells (madeCells #[.int .i64 0] C.length) 3)).alloc (.cells #[fv] 216)=V2 at *;obtain⟨bo,TI⟩:=AcG wr.heap.size;rw [←TI]at Vn Yi GG Yt U7 ⊢;have AjF:w.heap.size<=bo:=(by omega);clear TI;have Vm:V2.ownsRow w.heap.size 3 1 (.slice (some ⟨bo,0,none⟩) C.length C.length) C.length (Km W C 0):=(by rw [Ant];exact Vn);have m2:=Ab (o:=0) n2 rfl
   have kB:∀i (hi:i<C.length),leftOf W (CE.aOf C[i]).x<W.length+1:=fun i hi=>by have:leftOf W (CE.aOf C[i]).x<=W.length:=List.countP_le_length;omega
   have HFV:=Asb Yi;clear Vn Yi
   go_upto_region 15 with fail
   clear m2
   go_loopw [38] (fun i w3=>∃k:Nat,i=.int .i64 (k:Nat)/\k<=C.length/\w3.ownsRow w.heap.size 3 1 (.slice (some ⟨bo,0,none⟩) C.length C.length) C.length (Km W C k)/\AH (fun j=>j=bo) V2 w3) (fun i _=>C.length-(intOf i).toNat)
   case atStart=>exact⟨0,rfl,by omega,Vm,AH.refl _ _⟩
   case round=>
    obtain⟨k,rfl,hk3,Dl,BV⟩:=hrel;have Ek:Aa w wr:=BV.toExt Cs (fun j e=>by subst e;exact AjF);by_cases hlt:k<C.length
    ·have hR:S4 B wr r b1 b2 L E R0 (bn+1) bn (bo+1) (bn+1+1+1) (bn+1+1) A cap C:=⟨h.ext Ek,hC.ext Ek,Ab (BV.cells n2 (by omega)) rfl,Ab (BV.cells n1 (by omega)) rfl,by rw [←HFV.out];exact Ab (BV.cells GG (by omega)) rfl,Ab (BV.cells n4 (by omega)) rfl,BV.cells Jj (by omega)⟩;have fc:=AgC hW hG (W.length+1) k hlt (kB k hlt) wr (hw.ext Ek) hR;have hcf:wr.cell? ⟨bo+1,0,none⟩=some (.func (.func 199) #[] #[.pointer (some ⟨bn+1,0,none⟩),.pointer (some ⟨bn,0,none⟩),.pointer (some ⟨bo+1,0,none⟩),.pointer (some ⟨bn+1+1+1,0,none⟩)]):=hR.cf;obtain⟨z,hz⟩:=AcG (CE W C (W.length+1) k);rw [←hz]at fc;have hk0:(0:Int)<=(k:Int):=(by omega);have Bv:(k:Int)<(C.length:Int):=(by omega);have HZ:=Asb hz;clear hz hR;have Db:(Km W C k)[k]?=some (.int .i64 0):=(by unfold Km;simp [hlt]);have GM:=Ans W C hlt;rw [←HZ.out]at GM;have HS:=Asb GM;clear GM;(go_wp2_with fail);(with_reducible refine fc.mono ?_);rintro e w4 ⟨rfl,Af⟩;have Dw:=Ap Dl Af;have hce:=(Dw.cellAt k (by omega)).trans Db;have Jp:=Dw.frozenAt k;have hst:=(Dw.stored k (.int .i64 z)).1;have hg4:=(Dw.stored k (.int .i64 z)).2;have Jh:=(BV.ext Af).grown hg4 (fun q e=>by cases e;exact .inl rfl);rw [HS.out]at hst;clear hg4 BV Dl Dw fc hcf;go_wp2;go_roundw
     case rel=>exact⟨k+1,by go_num,hlt,hst,Jh⟩
     case measure=>simp [intOf];omega
    ·have Dd:k=C.length:=(by omega);subst Dd;rw [Anr]at Dl;obtain⟨A2,cap2,JX,YJ,-,-⟩:=Am.of_own' (by omega) Dl;simp only [Value.slice.injEq,true_and]at JX;obtain⟨rfl,-⟩:=JX;go_wp2;go_ret;exact⟨_,rfl,YJ,Ek⟩
theorem Tryz.infoBo:(Tryz.prog.info? 4).map (fun i=>(i.zero,i.size,i.bytes))=some (some (.bool false),1,1):=by kernel_rfl
theorem AkY(n:Nat)(hn:n<=200000)(c:Int)(hc:c=(n:Int))(W:World) :
  (Instr.makeSlice 189 (.int .i64 c) (.int .i64 c)).run Tryz.prog W=.ok (.slice (some ⟨W.heap.size,0,none⟩) n n) (W.alloc (.cells (madeCells #[.bool false] n) 4)):=by
 subst hc;obtain⟨i0,hi,hz0,hz1,hz2⟩:=info_parts Tryz.infoBo;have h:=run_make (P:=Tryz.prog) W 189 4 i0 (.bool false) Tryz.underlying189 hi hz0 .i64 .i64 n n (by omega) (by omega) (by rw [hz2];omega) (by omega);rw [hz1,Nat.mul_one]at h;simp only [Int.toNat_natCast]at h;exact h
theorem AlK(W:World)(base n:Nat)(hb:base<=W.heap.size)(hn:n<=200000) :
  (W.alloc (.cells (madeCells #[.bool false] n) 4)).ownsRow base 4 1 (.slice (some ⟨W.heap.size,0,none⟩) n n) n (I0 (List.replicate n false)):=by
 have h:=World.ownsRow_lit (w:=W) (base:=base) (e:=4) (size:=1) (madeCells #[.bool false] n) n hb (by unfold maxLen;omega) (by rw [size_madeCells];omega);rw [toList_madeCells_one]at h
 simpa [I0]using h
theorem AeC(l:List Bool)(k:Nat)(b:Bool):(I0 l).set k (.bool b)=I0 (l.set k b):=by simp [I0]
theorem AmK{w:World}{A:Option Addr}{l:List Int}(hr:Am w A (l.map (Value.int .i64))){j:Nat}(h:j<l.length):∃b o,A=some ⟨b,o,none⟩/\w.cell? ⟨b,o+j,none⟩=some (.int .i64 l[j]):=by
 obtain⟨b,o,e,hc⟩:=hr.ad (by simp;omega);refine⟨b,o,e,?_⟩;rw [hc j (by simpa using h)];simp
theorem AkH{s:Sg}{L:List (Sg×Int)}(h:s∈L.map (·.1)):∃e∈L,IH s L=e.2:=by
 unfold IH;rw [List.mem_map]at h;obtain⟨x,hx,rfl⟩:=h
 cases hf:L.find? (fun e=>Bc x.1 e.1)with
 | none=>
  rw [List.find?_eq_none]at hf;exact absurd (Ls.2 rfl) (hf x hx)
 | some e=>exact⟨e,List.mem_of_find?_eq_some hf,rfl⟩
structure GV(V wr:World)(B bm bs nf:Nat)(st:Fg):Prop where
 face:Oy wr bm st.face
 seen:wr.ownsRow B 4 1 (.slice (some ⟨bs,0,none⟩) nf nf) nf (I0 st.seen)
 but:AH (fun j=>j=bm∨j=bs) V wr
theorem GV.ext{V wr w':World}{B bm bs nf:Nat}{st:Fg}(h:GV V wr B bm bs nf st)(hx:Aa wr w'):GV V w' B bm bs nf st:=
 ⟨(hx.block _ (Asd h.face)).trans h.face,Ap h.seen hx,h.but.ext hx⟩
theorem GV.put{V wr:World}{B bm bs nf:Nat}{st:Fg}(h:GV V wr B bm bs nf st)(hne:bm≠bs)(r z:Int)(hno:II r st.face=none) :
  ∃W',(Instr.mapUpdate 188 (.map (some bm)) (.int .i64 r) (.int .i64 z)).run Tryz.prog wr=.ok () W'/\GV V W' B bm bs nf {st with face:=st.face ++ [(r,z)]}:=by
 obtain⟨W',h1,h2,h3,-⟩:=h.face.put r z hno;refine⟨W',h1,h2,yz h.seen h3 (by simp only [Value.ownBlock,ne_eq,Asj];exact fun e=>hne e.symm),h.but.grown h3 (fun k e=>by cases e;exact .inl (.inl rfl))⟩
theorem GV.set{V wr:World}{B bm bs nf:Nat}{st:Fg}(h:GV V wr B bm bs nf st)(hne:bm≠bs)(k:Nat) :
  GV V (wr.setCell ⟨bs,k,none⟩ (.bool true)) B bm bs nf {st with seen:=st.seen.set k true}:=by
 have h1:=h.seen.stored k (.bool true);rw [AeC]at h1;refine⟨?_,h1.1,h.but.grown h1.2 (fun q e=>by cases e;exact .inl (.inr rfl))⟩;exact(h1.2.block bm (Asd h.face) (by simp only [ne_eq,Asj];exact hne)).trans h.face
theorem Aeh{w0 w:World}(hw:Ai w0)(hx:Aa w0 w){r b1 b2:Nat}{L:List (Sg×Int)}{E:List (Pt×Value×Nat)}{R0:List (Pt×List Pt)}(h:Cl w0.heap.size w r b1 b2 L E R0){W:List Sg}(OU:W=L.map (·.1))(hN:G5 W R0)(hW:Wv W)(hgr:∀s∈W,MO s)
  (hlen:L.length<=100000) (hrl:∀e∈R0,e.2.length<100000) (nf:Nat) (Pk:nf<=100000) (jr:∀x∈L,-1<=x.2/\x.2<(nf:Int)) {R1:List (Pt×List Pt)} (hR1:R1=R0.map (fun e=>(e.1,GR e.1 e.2))) {C:List (List Sg)} (hC:C=OD W R1) {rg:List Int} (hrg:rg=RP W C) :
  Calls Tryz.prog 56 #[.pointer (some ⟨r,0,none⟩),.int .i64 (nf:Nat)] w fun e w'=>e=.returned (.tuple #[.bool (SD L nf C rg),.bool (Qj L nf C rg).op])/\Aa w0 w':=by
 have hmm:=@run_makeMap Tryz.prog;have so:=sort_c hw hx h (An3 hW hN hrl);rw [←hR1]at so;have LP:G5 W R1:=by rw [hR1];exact hN.sorted
 have ox:∀e∈R1,e.2.length<100000:=by intro e he;rw [hR1,List.mem_map]at he;obtain⟨x,hx,rfl⟩:=he;have:=hrl x hx;rw [show (GR x.1 x.2).length=x.2.length from(ZZ x.1 x.2).length_eq];exact this
 obtain⟨U,Au,hall⟩:=Af8 LP;have hG:Sp W U C:=⟨by rw [hC];exact Au,hall,hW.x.good,hgr,by rw [OU];simpa using hlen⟩
 have hCl:C.length<=100000:=by have h1:=Ze hG.ok.ne;rw [hG.ok.flat]at h1;have h2:=Ld hG.ok.nd hG.ok.sub;have:=hG.len;omega
 have oy:rg.length=C.length:=(by rw [hrg];simp [RP]);have cy:=fun (w1:World) (h1:Aa w0 w1) (k:Cl w0.heap.size w1 r b1 b2 L E R1)=>Af9 hw h1 k (by rw [←OU];exact LP) (by rw [←OU];exact hW) hlen ox;rw [←OU,←hC]at cy;have rc:=fun (w1:World) (hw1:Ai w1) (k:Cl w0.heap.size w1 r b1 b2 L E R1) (A:Option Addr) (cap:Nat) (hA:MC w1 A cap C)=>Anv hw1 k OU hG hA;rw [←hrg]at rc
 have hcw:∀i (hi:i<C.length),∀s∈C[i],-1<=IH s L/\IH s L<(nf:Int):=by intro i hi s hs;have h1:s∈W:=hG.ok.sub s (by rw [←hG.ok.flat];exact List.mem_flatten.2 ⟨_,Asg hi,hs⟩);rw [OU]at h1;obtain⟨e,he,h2⟩:=AkH h1;rw [h2];exact jr e he
 have VP:=Asb hcw;clear hcw jr hR1 hrl ox Au hall hC hrg hN hW hgr OU hx h LP hG;have HA:=Asb (show SD L nf C rg=((Iz L (C.zip rg) (Jb nf)).ok && !((Iz L (C.zip rg) (Jb nf)).seen.contains false))from rfl);have HO:=Asb (show (Qj L nf C rg).op=(Iz L (C.zip rg) (Jb nf)).op from rfl);generalize SD L nf C rg=vA at *;generalize (Qj L nf C rg).op=vO at *;go_enter Tryz.func56,Tryz.ntmps56;(go_wp2_with fail);(with_reducible refine so.mono ?_);rintro e w1 ⟨rfl,hx1,-,Df⟩;(go_wp2_with fail);(with_reducible refine(cy _ hx1 Df).mono ?_);rintro e w2 ⟨A,cap,rfl,En,hx2⟩;have DZ:=Df.ext hx2;have Rn:=hx1.trans hx2;(go_wp2_with fail);(with_reducible refine(rc _ (hw.ext Rn) DZ A cap En).mono ?_);rintro e w3 ⟨A',rfl,AU,hx3⟩;have Mf:=DZ.ext hx3;have ep:=En.ext hx3;have sf:=Rn.trans hx3;clear so cy rc Df DZ hx1 hx2 hx3 En Rn;have DU:=(Aa.refl w3).alloc (.map #[] 0);have Tr:Oy (w3.alloc (.map #[] 0)) w3.heap.size []:=Ase w3 (.map #[] 0);obtain⟨W4,hput,H5,hg4,Ke⟩:=Tr.put (-1) (-1) rfl;have hmk:=AkY nf (by omega) (nf:Int) rfl W4;have Dv:AH (fun j=>j=w3.heap.size) w3 W4:=((AH.refl _ w3).ext DU).grown hg4 (fun k e=>by cases e;exact .inl rfl);have FD:Aa w3 W4:=Dv.toExt (Aa.refl w3) (fun k e=>by subst e;exact Asf _);have C5:=(Aa.refl W4).alloc (.cells (madeCells #[.bool false] nf) 4);have own:=AlK W4 w0.heap.size nf (Asq sf.size FD.size) (by omega);have xR:Oy (W4.alloc (.cells (madeCells #[.bool false] nf) 4)) w3.heap.size [(-1,-1)]:=(C5.block _ (Asd H5)).trans H5;have pp:W4.heap.size=w3.heap.size+1:=(by rw [Ke];simp);rw [pp]at own;have xN:=FD.trans C5;have OL:GV (W4.alloc (.cells (madeCells #[.bool false] nf) 4)) (W4.alloc (.cells (madeCells #[.bool false] nf) 4)) w0.heap.size w3.heap.size (w3.heap.size+1) nf (Jb nf):=⟨xR,own,AH.refl _ _⟩
 go_upto_region 6 with fail
 clear hmk own xR H5 hg4 hput Tr DU Dv C5 FD Ke pp hmm;generalize W4.alloc (.cells (madeCells #[.bool false] nf) 4)=V at *;obtain⟨bm,Cj⟩:=AcG w3.heap.size;rw [←Cj]at OL ⊢;have Aqd:w3.heap.size<=bm:=(by omega);clear Cj W4;have hl0:(0:Int)<=(C.length:Int):=(by omega);have hne:bm≠bm+1:=(by omega);have Sw:=Asb oy;have VV:=Asb Mf;have MF:=Asb ep;have HRD:=Asb AU;clear oy Mf ep AU
 go_upto_region 8 with fail
 go_loopw [4,5,30] (fun o p i wr=>∃(k:Nat) (st:Fg),i=.int .i64 (k:Nat)/\k<=C.length/\o=.bool st.ok/\p=.bool st.op/\st=Iz L ((C.zip rg).take k) (Jb nf)/\GV V wr w0.heap.size bm (bm+1) nf st) (fun _ _ i _=>C.length-(intOf i).toNat)
 case atStart=>exact⟨0,Jb nf,rfl,by omega,rfl,rfl,rfl,OL⟩
 case round=>
  obtain⟨k,st,rfl,hk,rfl,rfl,hst,hA⟩:=hrel;have FG:Aa w3 wr:=hA.but.toExt xN (fun q e=>by rcases e with e|e<;>omega);have HST:=Asb hst;clear hst;by_cases hlt:k<C.length
  ·obtain⟨bA,oA,A2,c2,rfl,hcell,YJ,hc1,hc2⟩:=MF.out.row k hlt;replace hcell:=FG.cellS hcell;obtain⟨bB,oB,rfl,hrc⟩:=AmK (HRD.out.ext FG) (show k<rg.length by rw [Sw.out];exact hlt);obtain⟨rr,BY⟩:∃rr,rr=rg[k]'(by rw [Sw.out];exact hlt):=⟨_,rfl⟩;rw [←BY]at hrc;have hk0:(0:Int)<=(k:Int):=(by omega);have Bv:(k:Int)<(C.length:Int):=(by omega);obtain⟨c,hcc⟩:=AcG (C[k]);have hz:=VP.out k hlt
   have hstep:Iz L ((C.zip rg).take (k+1)) (Jb nf)=Ja L rr st c:=by rw [Asi (show k<(C.zip rg).length by rw [List.length_zip,Sw.out];omega),Aef,←HST.out,List.getElem_zip,←BY,←hcc]
   rw [←hcc]at hcell YJ hc1 hz;have Wh:=Asb hstep;have HZ:=Asb hz;have hcl:(0:Int)<=(c.length:Int):=(by omega);have hc0:Ja L rr st (c.take 0)=st:=rfl;have HC0:=Asb hc0;have Fw:st.seen.length=nf:=(by rw [HST.out,sM];simp [Jb]);have L6:=Asb Fw;clear hcc BY hstep hz hc0 Fw
   go_upto_region 11 with fail
   go_loopw [4,5,40] (fun o p i wi=>∃(j:Nat) (sj:Fg),i=.int .i64 (j:Nat)/\j<=c.length/\o=.bool sj.ok/\p=.bool sj.op/\sj=Ja L rr st (c.take j)/\GV V wi w0.heap.size bm (bm+1) nf sj) (fun _ _ i _=>c.length-(intOf i).toNat)
   case atStart=>exact⟨0,st,rfl,by omega,rfl,rfl,HC0.out.symm,hA⟩
   case round=>
    obtain⟨j,sj,rfl,hj,rfl,rfl,hsj,Xt⟩:=hrel;have bW:=Asb hsj;clear hsj;by_cases AG:j<c.length
    ·have XN:Aa w3 wr:=Xt.but.toExt xN (fun q e=>by rcases e with e|e<;>omega);obtain⟨b',o',rfl,f1,f2,f3,f4⟩:=RH (YJ.ext XN) AG;have hzs:=HZ.out c[j] (Asg AG);have XO:Ja L rr st (c.take (j+1))=Ee rr (IH c[j] L) sj:=(by rw [Asi AG,Aee,←bW.out]);have Fw:sj.seen.length=nf:=(by rw [bW.out,sL];exact L6.out);obtain⟨s,hs⟩:=AcG (c[j]);rw [←hs]at f1 f2 f3 f4 hzs XO;have hj0:(0:Int)<=(j:Int):=(by omega);have DD:(j:Int)<(c.length:Int):=(by omega);have As:=Ase wr (.cells #[S (R s.a.x),S (R s.a.y),S (R s.b.x),S (R s.b.y)] 183);have E6:=(Aa.refl wr).alloc (.cells #[S (R s.a.x),S (R s.a.y),S (R s.b.x),S (R s.b.y)] 183);have eP:=Xt.ext E6;have Pj:=VV.out.ext (XN.trans E6);clear hs Xt hA FG
     go_upto_region 13 with fail
     unfold S at As eP Pj;generalize (wr.alloc (.cells #[.string ⟨(R s.a.x).toArray⟩,.string ⟨(R s.a.y).toArray⟩,.string ⟨(R s.b.x).toArray⟩,.string ⟨(R s.b.y).toArray⟩] 183))=W6 at *;obtain⟨bx,JW⟩:=AcG wr.heap.size;rw [←JW]at As ⊢;clear JW f1 f2 f3 f4 E6;have q1:∀q:Ad W6,q.w.cell? ⟨r,0,none⟩=some (.map (some b1)):=Ad.cell (Ab Pj.cell rfl);have q2:∀q:Ad W6,q.w.cell? ⟨bx,0,none⟩=some (S (R s.a.x)):=Ad.cell (Ab As rfl);have q3:∀q:Ad W6,q.w.cell? ⟨bx,1,none⟩=some (S (R s.a.y)):=Ad.cell (Ab As rfl);have q4:∀q:Ad W6,q.w.cell? ⟨bx,2,none⟩=some (S (R s.b.x)):=Ad.cell (Ab As rfl);have q5:∀q:Ad W6,q.w.cell? ⟨bx,3,none⟩=some (S (R s.b.y)):=Ad.cell (Ab As rfl);have q6:=fun (q:Ad W6)=>AaP s L (Pj.ext q.h).left;obtain⟨z,hz⟩:=AcG (IH s L);rw [←hz]at q6 hzs XO;unfold Ax at q6;have HN:=Asb XO;clear hz XO As Pj;refine Bi (by kernel_rfl) (by kernel_rfl) ?_
     repeat (go_big_quiet_step (fail))
     refine wpQuiet_nil ?_;rintro W7 ⟨q,hq⟩;have Aj:Aa W6 W7:=hq▸q.h;clear hq q;have JL:=eP.ext Aj;have lk:=AnC rr sj.face JL.face;clear q1 q2 q3 q4 q5 q6 eP Aj
     cases hl:II rr sj.face with
     | some old=>
      rw [hl]at lk;simp only [Option.getD_some,Option.isSome_some]at lk;have he:Ee rr z sj=⟨sj.ok&&decide (old=z),sj.op,sj.face,sj.seen⟩:=(by unfold Ee;rw [hl]);have I3:GV V W7 w0.heap.size bm (bm+1) nf (Ee rr z sj):=(by rw [he];exact⟨JL.face,JL.seen,JL.but⟩);have HE:=Asb he;clear he JL
      cases Au:sj.ok
      ·have F5:=Asb Au;go_wp2;go_roundw
       case rel=>exact⟨j+1,Ee rr z sj,by go_num,AG,by rw [HE.out,F5.out];rfl,by rw [HE.out],HN.out.symm,I3⟩
       case measure=>simp [intOf];omega
      ·have F5:=Asb Au;by_cases QU:old=z
       ·have HD:=Asb (decide_eq_true QU);subst QU;go_wp2;go_roundw
        case rel=>exact⟨j+1,Ee rr old sj,by go_num,AG,by rw [HE.out,F5.out,HD.out];rfl,by rw [HE.out],HN.out.symm,I3⟩
        case measure=>simp [intOf];omega
       ·have HD:=Asb (decide_eq_false QU);have hb:(old == z)=false:=beq_false_of_ne QU;go_wp2;go_roundw
        case rel=>exact⟨j+1,Ee rr z sj,by go_num,AG,by rw [HE.out,F5.out,HD.out];rfl,by rw [HE.out],HN.out.symm,I3⟩
        case measure=>simp [intOf];omega
     | none=>
      rw [hl]at lk;simp only [Option.getD_none,Option.isSome_none]at lk;by_cases hz0:z<0
      ·have he:Ee rr z sj=⟨false,true,sj.face ++ [(rr,z)],sj.seen⟩:=(by unfold Ee;rw [hl];simp only;rw [if_pos hz0]);obtain⟨W8,hput,I3⟩:=JL.put hne rr z hl;have Tk:GV V W8 w0.heap.size bm (bm+1) nf (Ee rr z sj):=(by rw [he];exact⟨I3.face,I3.seen,I3.but⟩);have HE:=Asb he;clear he JL I3;go_wp2;go_roundw
       case rel=>exact⟨j+1,Ee rr z sj,by go_num,AG,by rw [HE.out],by rw [HE.out],HN.out.symm,Tk⟩
       case measure=>simp [intOf];omega
      ·obtain⟨m,rfl⟩:∃m:Nat,z=(m:Int):=⟨z.toNat,by omega⟩;have hm:m<nf:=(by omega);obtain⟨sv,Rb⟩:=AcG (sj.seen.getD m false)
       have he:Ee rr (m:Int) sj=⟨sj.ok && !sv,sj.op,sj.face ++ [(rr,(m:Int))],sj.seen.set m true⟩:=by unfold Ee;rw [hl];simp only;rw [if_neg hz0,Rb];rfl
       have hce:W7.cell? ⟨bm+1,m,none⟩=some (.bool sv):=by
        rw [JL.seen.cellAt m (by omega),Rb];unfold I0;rw [List.getElem?_map,List.getD_eq_getElem?_getD,Asl (by omega)]
        rfl
       have Jp:=JL.seen.frozenAt m;obtain⟨W8,hput,I3⟩:=(JL.set hne m).put hne rr (m:Int) hl;have Tk:GV V W8 w0.heap.size bm (bm+1) nf (Ee rr (m:Int) sj):=(by rw [he];exact⟨I3.face,I3.seen,I3.but⟩);have HE:=Asb he;have hm0:(0:Int)<=(m:Int):=(by omega);have hm1:(m:Int)<(nf:Int):=(by omega);clear he JL I3 Rb
       cases Au:sj.ok
       ·have F5:=Asb Au;go_wp2;go_roundw
        case rel=>exact⟨j+1,Ee rr (m:Int) sj,by go_num,AG,by rw [HE.out,F5.out];rfl,by rw [HE.out],HN.out.symm,Tk⟩
        case measure=>simp [intOf];omega
       ·have F5:=Asb Au
        cases sv
        ·go_wp2;go_roundw
         case rel=>exact⟨j+1,Ee rr (m:Int) sj,by go_num,AG,by rw [HE.out,F5.out];rfl,by rw [HE.out],HN.out.symm,Tk⟩
         case measure=>simp [intOf];omega
        ·go_wp2;go_roundw
         case rel=>exact⟨j+1,Ee rr (m:Int) sj,by go_num,AG,by rw [HE.out,F5.out];rfl,by rw [HE.out],HN.out.symm,Tk⟩
         case measure=>simp [intOf];omega
    ·have FO:j=c.length:=(by omega);subst FO;have AP:sj=Iz L ((C.zip rg).take (k+1)) (Jb nf):=(by rw [Wh.out,bW.out,List.take_length]);have HF:=Asb AP;clear AP;have Yr:(c.length:Int)<=(c.length:Int):=(by omega);go_wp2;go_roundw
     case rel=>exact⟨k+1,sj,by go_num,hlt,rfl,rfl,HF.out,Xt⟩
     case measure=>simp [intOf];omega
  ·have Dd:k=C.length:=(by omega);subst Dd;have AP:st=Iz L (C.zip rg) (Jb nf):=(by rw [HST.out,Aso (by rw [List.length_zip];omega)]);have HF:=Asb AP;obtain⟨A3,Ap7,FN,ow,h31,h32⟩:=Am.of_own' (by omega) hA.seen;simp only [Value.slice.injEq,true_and]at FN;obtain⟨rfl,rfl⟩:=FN;have Fw:st.seen.length=nf:=(by rw [HST.out,sM];simp [Jb]);have cb:=Afz st.seen false (some ⟨bm+1,0,none⟩) nf wr ow (by omega) h32;rw [Fw]at cb;have hv:vA=(st.ok && !(st.seen.contains false)):=(by rw [HA.out,←HF.out]);have ho:vO=st.op:=(by rw [HO.out,←HF.out]);have HV:=Asb hv;subst ho;obtain⟨cv,hcv⟩:=AcG (st.seen.contains false);rw [←hcv]at cb;have HCV:=Asb hcv;have yX:=sf.trans FG;clear AP Fw hv hcv hA ow
   cases Au:st.ok
   ·have F5:=Asb Au;obtain rfl:vA=false:=(by rw [HV.out,F5.out];rfl);go_wp2;go_ret2;exact⟨rfl,yX⟩
   ·have F5:=Asb Au;obtain rfl:vA = !cv:=(by rw [HV.out,F5.out,←HCV.out];rfl);(go_wp2_with fail);(with_reducible refine cb.mono ?_);rintro e w9 ⟨rfl,Az⟩;go_wp2;go_ret2;exact⟨rfl,yX.trans Az⟩
end Go.Proofs.YtdaefncphfeaeaaGreatDoor
namespace Go.Proofs.YtdaefncphfeaeaaGreatDoor
open Go.RowKit Kl
def MA(a b:Pt):Rat:=(b.y-a.y)/(b.x-a.x)
theorem Ab1{a b:Pt}(ha:Aq 20 a)(hb:Aq 20 b)(_:b.x-a.x≠0):Sz 82 (MA a b):=
 ((hb.y.sub ha.y).div (by omega) (hb.x.sub ha.x)).mono (by omega)
theorem Abd(a b:Pt)(ha:Aq 20 a)(hb:Aq 20 b)(hne:b.x-a.x≠0)(w:World)(hw:Ai w):Calls Tryz.prog 93 #[Ak a,Ak b] w (A0 (R (MA a b)) w):=by
 have s1:=BS b.y a.y (a:=20) (b:=20) ⟨hb.y,ha.y,by omega,by omega,by omega⟩;have s2:=BS b.x a.x (a:=20) (b:=20) ⟨hb.x,ha.x,by omega,by omega,by omega⟩;have dv:=PI (b.y-a.y) (b.x-a.x) hne (a:=41) (b:=41) ⟨hb.y.sub ha.y,hb.x.sub ha.x,by omega,by omega,by omega⟩;have hE:=((Aa.refl w).alloc (.cells #[S (R a.x),S (R a.y)] 35)).alloc (.cells #[S (R b.x),S (R b.y)] 35);obtain⟨z,hz⟩:=AcG (MA a b);have e:(b.y-a.y)/(b.x-a.x)=z:=(by rw [hz];rfl);rw [e]at dv;rw [←hz];unfold GQ at dv;obtain⟨W,hW,ER,hb1,hb2⟩:=LJ w (S (R a.x)) (S (R a.y)) (S (R b.x)) (S (R b.y)) 35 35;unfold Ak;clear ha hb hne hz e hE;generalize b.y-a.y=u at *;generalize b.x-a.x=v at *;go_enter Tryz.func93,Tryz.ntmps93
 go_upto_region 1 with fail
 rw [←hW];clear hW;have q0:∀q:Ad W,q.w.cell? ⟨w.heap.size,0,none⟩=some (S (R a.x)):=Ad.cell (Ab hb1 rfl);have q1:∀q:Ad W,q.w.cell? ⟨w.heap.size,1,none⟩=some (S (R a.y)):=Ad.cell (Ab hb1 rfl);have q2:∀q:Ad W,q.w.cell? ⟨w.heap.size+1,0,none⟩=some (S (R b.x)):=Ad.cell (Ab hb2 rfl);have q3:∀q:Ad W,q.w.cell? ⟨w.heap.size+1,1,none⟩=some (S (R b.y)):=Ad.cell (Ab hb2 rfl);have t1:=fun q:Ad W=>s1 q.w (hw.ext (ER.trans q.h));have t2:=fun q:Ad W=>s2 q.w (hw.ext (ER.trans q.h));have t3:=fun q:Ad W=>dv q.w (hw.ext (ER.trans q.h));clear hb1 hb2 s1 s2 dv;refine Bi (by kernel_rfl) (by kernel_rfl) ?_
 repeat (go_big_quiet_step (first|(with_reducible refine D8 (t1 _))|(with_reducible refine D8 (t2 _))|(with_reducible refine eG (t3 _))))
 refine wpQuiet_nil ?_;rintro W7 ⟨q,hq⟩;have hx:=ER.trans (hq▸q.h);clear hq q q0 q1 q2 q3 t1 t2 t3;go_wp2;go_ret;exact⟨rfl,hx⟩
theorem AnZ(m:B7)(hgr:∀p∈m.pts,Gg p)(A B F:Option Addr)(c d g:Nat)(BF:IW m c d g)(i:Nat)(hi:i<m.eds.length)(hr1:0<=m.eds[i].f)(hr2:m.eds[i].f<(m.pts.length:Int))(hr3:0<=m.eds[i].t)(hr4:m.eds[i].t<(m.pts.length:Int))
  (hne:(AA m.pts m.eds[i].t).x-(AA m.pts m.eds[i].f).x≠0) (w:World) (hw:Ai w) (hA:Am w A (flat (AI m.pts))) (hB:Am w B (Ce m.eds)) :
  Calls Tryz.prog 94 #[Dh A B F m c d g,.int .i64 (i:Nat)] w (A0 (R (MA (AA m.pts m.eds[i].f) (AA m.pts m.eds[i].t))) w):=by
 obtain⟨c1,c2,d1,d2,g1,g2⟩:=BF;have sa:=(hgr _ (Im hr1 hr2)).sz (K:=20) (by omega);have sb:=(hgr _ (Im hr3 hr4)).sz (K:=20) (by omega);have sl:=Abd _ _ sa sb hne;have hM:=Ase w (.cells #[.slice A m.pts.length c,.slice B m.eds.length d,.slice F m.nf g] 43);have hE:=(Aa.refl w).alloc (.cells #[.slice A m.pts.length c,.slice B m.eds.length d,.slice F m.nf g] 43);obtain⟨b,o,rfl,hg1,hg2,hg3,hg4⟩:=Lq (hB.ext hE) hi;obtain⟨e,he⟩:=AcG (m.eds[i]);rw [←he]at hg1 hg2 hg3 hg4 hr1 hr2 hr3 hr4 sl hne ⊢;clear he sa sb;obtain⟨ef,CZ⟩:∃n:Nat,e.f=(n:Int):=⟨e.f.toNat,by omega⟩;obtain⟨et,Da⟩:∃n:Nat,e.t=(n:Int):=⟨e.t.toNat,by omega⟩;have ED:ef<m.pts.length:=(by omega);have EE:et<m.pts.length:=(by omega);rw [CZ]at hg1;rw [Da]at hg2;obtain⟨ba,oa,rfl,ha1,ha2⟩:=BO (hA.ext hE) ED;obtain⟨b3,o3,FN,Ct,Cu⟩:=BO (hA.ext hE) EE;obtain⟨rfl,rfl⟩:ba=b3/\oa=o3:=(by simpa using FN);have e1:m.pts[ef]=AA m.pts e.f:=(by rw [CZ];unfold AA;simp [ED]);have e2:m.pts[et]=AA m.pts e.t:=(by rw [Da];unfold AA;simp [EE]);rw [e1]at ha1 ha2;rw [e2]at Ct Cu;generalize AA m.pts e.f=pa at *;generalize AA m.pts e.t=pb at *;obtain⟨z,hz⟩:=AcG (MA pa pb);rw [←hz]at sl ⊢;unfold Ak at sl;have f0:(0:Int)<=(ef:Int):=(by omega);have f1:(ef:Int)<(m.pts.length:Int):=(by omega);have f2:(0:Int)<=(et:Int):=(by omega);have f3:(et:Int)<(m.pts.length:Int):=(by omega);have i0:(0:Int)<=(i:Int):=(by omega);have i1:(i:Int)<(m.eds.length:Int):=(by omega);unfold Dh;clear CZ Da e1 e2 hz hne hA hB hgr hr1 hr2 hr3 hr4 hE;have hE:=(Aa.refl w).alloc (.cells #[.slice (some ⟨ba,oa,none⟩) m.pts.length c,.slice (some ⟨b,o,none⟩) m.eds.length d,.slice F m.nf g] 43);go_enter Tryz.func94,Tryz.ntmps94
 go_upto_region 1 with fail
 generalize w.alloc (.cells #[.slice (some ⟨ba,oa,none⟩) m.pts.length c,.slice (some ⟨b,o,none⟩) m.eds.length d,.slice F m.nf g] 43)=V at *;obtain⟨bm,Cj⟩:=AcG w.heap.size;rw [←Cj]at hM ⊢;clear Cj;have m0:=Ab (o:=0) hM rfl;have m1:=Ab (o:=1) hM rfl;have Bu:=Ase V (.cells #[.int .i64 (ef:Int),.int .i64 (et:Int),.int .i64 e.l,.int .i64 e.r] 59);have E2:=(Aa.refl V).alloc (.cells #[.int .i64 (ef:Int),.int .i64 (et:Int),.int .i64 e.l,.int .i64 e.r] 59);have n0:=E2.cellS m0;replace ha1:=E2.cellS ha1;replace ha2:=E2.cellS ha2;replace Ct:=E2.cellS Ct;replace Cu:=E2.cellS Cu;have Hd:=hE.trans E2
 go_upto_region 2 with fail
 generalize V.alloc (.cells #[.int .i64 (ef:Int),.int .i64 (et:Int),.int .i64 e.l,.int .i64 e.r] 59)=W at *;obtain⟨be,JR⟩:=AcG V.heap.size;rw [←JR]at Bu ⊢;clear JR m0 m1 hM E2;have q0:∀q:Ad W,q.w.cell? ⟨bm,0,none⟩=some (.slice (some ⟨ba,oa,none⟩) m.pts.length c):=Ad.cell n0;have q1:∀q:Ad W,q.w.cell? ⟨be,0,none⟩=some (.int .i64 (ef:Int)):=Ad.cell (Ab Bu rfl);have q2:∀q:Ad W,q.w.cell? ⟨be,1,none⟩=some (.int .i64 (et:Int)):=Ad.cell (Ab Bu rfl);have q3:=fun q:Ad W=>Ad.cell ha1 q;have q4:=fun q:Ad W=>Ad.cell ha2 q;have q5:=fun q:Ad W=>Ad.cell Ct q;have q6:=fun q:Ad W=>Ad.cell Cu q;have t1:=fun q:Ad W=>sl q.w (hw.ext (Hd.trans q.h));clear n0 Bu ha1 ha2 Ct Cu sl;refine Bi (by kernel_rfl) (by kernel_rfl) ?_
 repeat (go_big_quiet_step (first|(with_reducible refine D8 (t1 _))))
 refine wpQuiet_nil ?_;rintro W7 ⟨q,hq⟩;have hx:=Hd.trans (hq▸q.h);clear hq q q0 q1 q2 q3 q4 q5 q6 t1;go_wp2;go_ret;exact⟨rfl,hx⟩
end Go.Proofs.YtdaefncphfeaeaaGreatDoor
