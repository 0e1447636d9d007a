/- W47. -/
import Derived.Test.YtnfedbopbcegjaaGreatDoorW45
import Derived.Test.YtnfedbopbcegjaaGreatDoorW06
set_option maxRecDepth 100000
set_option maxHeartbeats 4000000
namespace Go.Proofs.YtnfedbopbcegjaaGreatDoor
open Go.RowKit Kl Go.Maps Go.Sort Go.Shelf
theorem AdD{β:Type}{enc:β→DataW Unit}{w:World}{Q:Value→Option (DataW Unit×List MemPlace)}{bm n:Nat}{D:DataW Unit}{f:Bs→Option β}(hown:w.ownsMap Tryz.prog 9 Q bm n D)(hf:CZ enc D f){ss:List Bs}(hp:ss.Perm (strKeys D)) :
  ss.length=Maps.size D/\∀l0:List Bs,l0.Nodup→(∀x,x∈l0↔(f x).isSome=true)→ss.mergeSort leB=l0.mergeSort leB:=by
 obtain⟨es,rfl,hpw,-⟩:=hown.entries (string_keyed Tryz.underlying9);obtain⟨es',e,hk⟩:=hown.keysOf
 injection e with e
 subst e;refine⟨by rw [hp.length_eq];simp [strKeys,Maps.size],fun l0 hn hm=>?_⟩
 have h0:l0.Perm (strKeys (.map es)):=perm_strKeys hpw (fun p hp=>by
  obtain⟨v,hv⟩:=hk p hp;obtain⟨x,-,e,-⟩:=Maps.keyOf_str Tryz.underlying9 hv
  exact⟨x,e⟩) hn (fun x=>by rw [hm x,(hf.2 x).1])
 exact mergeSort_of_perm (hp.trans h0.symm)
def Pp{β:Type}(f:Bs→Option β)(n:Nat)(w:World)(e:Ending)(w':World):Prop:=
 ∃v L,e=.returned v/\w'.ownsRow w.heap.size 9 1 v n (L.map S)/\L.length=n/\Aa w w'/\∀l0:List Bs,l0.Nodup→(∀x,x∈l0↔(f x).isSome=true)→L=l0.mergeSort leB
theorem Pp.of{β:Type}{enc:β→DataW Unit}{w w':World}{Q:Value→Option (DataW Unit×List MemPlace)}{bm k n:Nat}{D:DataW Unit}{f:Bs→Option β}(hown:w.ownsMap Tryz.prog 9 Q bm k D)(hf:CZ enc D f)(hn:Maps.size D=n){v:Value}{ss:List Bs}{o:Obj}(hp:ss.Perm (strKeys D))
  (hrow:w'.ownsRow (w.alloc o).heap.size 9 1 v ss.length ((ss.mergeSort (fun x y=>decide (x<=y))).map encStr)) (hb:Below (w.alloc o).heap.size (w.alloc o) w'):Pp f n w (.returned v) w':=by
 obtain⟨h1,h2⟩:=AdD hown hf hp;rw [h1,hn]at hrow;refine⟨v,ss.mergeSort leB,rfl,FV hrow (by simp),by rw [List.length_mergeSort,h1,hn],((Aa.refl w).alloc o).trans hb,h2⟩
theorem tz{base ba bm:Nat}{xs:List UInt8}{es:List (Int×Nat×UInt8)}{n:Nat}{f:Bs→Option Int}{w:World}(h:BR base ba bm xs es n f w)(hn:n<=1000) :
  Calls Tryz.prog 10 #[Ch ba] w (Pp f n w):=by
 obtain⟨mv,ev,D,Ms,Es,-,-,hA,-,-,hD,hf,hsz⟩:=h;have k2:w.cell? ⟨ba,2,none⟩=some (.map (some bm)):=Ab hA rfl;clear hA;refine(callsIn_wide (n:=6)).1 ?_;have hfK:Fence.wide.fn 28:=trivial;have hfS:Fence.wide.fn 27:=trivial;refine callsIn_of_wp Tryz.func10 rfl trivial ?_ rfl;simp only [Tryz.ntmps10,List.size_toArray,List.length_cons,List.length_nil,Nat.reduceAdd,Nat.reduceSub,Array.replicate_succ,Array.replicate_zero,List.push_toArray,List.append_toArray,List.nil_append,List.cons_append]
 gi_wp2_with (first
  | (gi_at_call 28;refine(Tryz.maps_Keys_28 _ _).mono ?_;rintro e w' ⟨rfl,rfl⟩)
  | (gi_at_call 27;refine(Tryz.slices_Sorted_keys_27_28 bm n D _ w hD (by unfold maxLen;omega) (by omega)).mono ?_;rintro e w' ⟨v,ss,rfl,hS,hrow,hnil,hb⟩))
 go_ret;exact Pp.of hD hf hsz hS hrow hb
end Go.Proofs.YtnfedbopbcegjaaGreatDoor
namespace Go.Proofs.YtnfedbopbcegjaaGreatDoor
open Go.RowKit Kl Go.Shelf
section
variable {P : Program} {md : Region.Mode} {ops : Array Oper} {Q : Exit → Act → World → Prop}
theorem AhI(J:Array Bool→Act→World→Prop)(hA:∀(i:Nat) (o:Oper),ops[i]?=some o→∀e∈o.after,Region.binds md e=true→e.on<i)(hg:∀(i:Nat) (o:Oper),ops[i]?=some o→o.guard=none)
  (hstep:∀listed a w i o,J listed a w→listed.size=ops.size→listed.getD i false=false→ops[i]?=some o→(∀e∈o.after,Region.binds md e=true→listed.getD e.on false=true)→o.wp P a w (fun a' w'=>J (listed.setIfInBounds i true) a' w') Q)
  (hend:∀listed a w,J listed a w→(∀i,i<ops.size→listed.getD i false=true)→Q .normal a w) :
  ∀fuel listed a w,J listed a w→listed.size=ops.size→left listed<=fuel→wpAny P md ops Q fuel listed a w:=by
 have hall:∀listed:Array Bool,listed.size=ops.size→Region.ready md ops listed = []→∀i,i<ops.size→listed.getD i false=true:=by
  intro listed hl hr i
  induction i using Nat.strongRecOn with
  | _ i ih=>
   intro hi;by_cases h:listed.getD i false=true
   ·exact h
   ·exfalso
    have:i∈Region.ready md ops listed:=mem_ready.2 ⟨getD_in (by omega) (by simpa using h),ops[i],by simp [hi],fun e he hb=>by
     have:=hA i ops[i] (by simp [hi]) e he hb
     exact ih e.on this (by omega)⟩
    rw [hr]at this
    cases this
 intro fuel
 induction fuel with
 | zero=>
  intro listed a w hJ hs hl;have h0:=fun (i:Nat) (hi:i<ops.size)=>uF (l:=listed) (by omega) i (by rw [hs];exact hi);refine⟨?_,hend _ _ _ hJ h0⟩;rw [List.eq_nil_iff_forall_not_mem];intro i hi;obtain⟨h1,o,ho,_⟩:=mem_ready.1 hi;have h2:=h0 i (Array.getElem?_eq_some_iff.1 ho).1;rw [getD_both h1]at h2
  cases h2
 | succ fuel ih=>intro listed a w hJ hs hl;refine⟨fun hr=>hend _ _ _ hJ (hall _ hs hr),fun i hi=>?_⟩;obtain⟨h1,o,ho,hd⟩:=mem_ready.1 hi;unfold wpOp;rw [ho];simp only;rw [if_pos (by simp [Region.wanted,hg i o ho])];refine Or.inl (Oper.wp_mono (fun a' w' h=>ih _ _ _ h (by rw [Array.size_setIfInBounds];exact hs) ?_) (hstep listed a w i o hJ hs (getD_both h1) ho hd));have:=uD h1;omega
theorem AhM{id:Nat}{a:Act}{w:World}(J:Array Bool→Act→World→Prop)(hm:P.follows .mixedOrders=true)(hA:∀(i:Nat) (o:Oper),ops[i]?=some o→∀e∈o.after,Region.binds .any e=true→e.on<i)(hg:∀(i:Nat) (o:Oper),ops[i]?=some o→o.guard=none)
  (h0:J (Array.replicate ops.size false) a w.drew)
  (hstep:∀listed a w i o,J listed a w→listed.size=ops.size→listed.getD i false=false→ops[i]?=some o→(∀e∈o.after,Region.binds .any e=true→listed.getD e.on false=true)→o.wp P a w (fun a' w'=>J (listed.setIfInBounds i true) a' w') Q)
  (hend:∀listed a w,J listed a w→(∀i,i<ops.size→listed.getD i false=true)→Q .normal a w):(Code.region id ops true).wp P Q a w:=
 wp_region_any hm (AhI J hA hg hstep hend _ _ _ _ h0 (by simp) (uE _))
end
def eN(ops:Array Oper):Bool:=(List.range ops.size).all fun i=>match ops[i]? with
 | some o=>o.guard.isNone && o.after.all (fun e=>!Region.binds .any e || decide (e.on < i))
 | none=>true
theorem eO{ops:Array Oper}(h:eN ops=true)(i:Nat)(o:Oper)(ho:ops[i]?=some o):o.guard=none/\∀e∈o.after,Region.binds .any e=true→e.on<i:=by
 have h1:=List.all_eq_true.1 h i (List.mem_range.2 (Array.getElem?_eq_some_iff.1 ho).1);rw [ho]at h1;simp only [Bool.and_eq_true,Option.isNone_iff_eq_none,Array.all_eq_true']at h1;refine⟨h1.1,fun e he hb=>?_⟩;have:=h1.2 e he;rw [hb]at this
 simpa using this
def ZP:List (Op×Option Nat):=[
 (.move (.tmp 3),some 34),(.load 28 (.tmp 5),some 35),(.buildSlice 33 2 #[(0,.const (S [100])),(1,.const (S [99]))],some 36),(.move (.tmp 7),some 37),
 (.binOp .rem 3 (.tmp 37) (.const (.int .i64 2)) 3,some 38),(.indexAddr 33 (.tmp 36) (.tmp 38),some 39),(.load 9 (.tmp 39),some 40),
 (.build 35 #[(0,.const (.int .i64 1)),(1,.tmp 35),(4,.tmp 40)],some 41),(.buildSlice 36 1 #[(0,.tmp 41)],some 42),(.makeSlice 37 (.const (.int .i64 200)) (.const (.int .i64 200)),some 43),
 (.convert 37 9 (.tmp 43),some 44),(.call {callee:=.value (.func 8),args:=#[.tmp 34,.const (S By),.tmp 42,.tmp 44],argTypes:=#[23,9,36,9]},some 45),
 (.move (.tmp 45),some 33),(.extract (.tmp 33) 0,some 46),(.extract (.tmp 33) 1,some 47),(.extract (.tmp 33) 2,some 48),(.assign (.tmp 46),some 8),(.assign (.tmp 47),some 9),(.assign (.tmp 48),some 10)]
def IH:List Nat:=[34,35,36,37,38,39,40,41,42,43,44,45,33,46,47,48,8,9,10]
def Ks(i:Nat):Nat:=IH.getD i 0
def SA:List (Nat×Nat):=[(4,3),(5,2),(5,4),(6,5),(7,1),(7,6),(8,7),(10,9),(11,0),(11,8),(11,10),(12,11),(13,12),(14,12),(15,12),(16,13),(17,14),(18,15)]
theorem aR:∀i,i<19→∀j,j<19→i≠j→Ks j≠Ks i:=by decide
theorem zB:∀i,i<19→Ks i∈IH:=by decide
theorem AgE:∀i,i<19→Ks i<=48:=by decide
structure FZ where
 ops:Array Oper
 a0:Act
 W:World
 ba:Nat
 bp:Nat
 j:Nat
 u:UInt8
 c0:Int
 c2:Int
 Post:World→Prop
def hfS:Bs:=[49,47,50]
def zsN:Bs:=List.replicate 200 0
def FZ.rv(c:FZ):Value:=.tuple #[.int .i64 c.c0,.int .i64 0,.int .i64 c.c2]
def I1(c:FZ)(i:Nat)(v:Value)(w:World):Prop:=match i with
 | 0=>v=Ch c.ba
 | 1=>v=.agg #[S hfS,S hfS]
 | 2=>∃g,v=.slice (some ⟨g,0,none⟩) 2 2/\w.heap[g]?=some (.cells #[S [100],S [99]] 9)
 | 3=>v=.int .i64 (c.j:Nat)
 | 4=>v=.int .i64 ((c.j % 2:Nat):Int)
 | 5=>∃g,v=.pointer (some ⟨g,c.j % 2,none⟩)/\w.heap[g]?=some (.cells #[S [100],S [99]] 9)
 | 6=>v=S [c.u]
 | 7=>v=.agg (CC hfS [c.u]).toArray
 | 8=>∃g,v=.slice (some ⟨g,0,none⟩) 1 1/\w.heap[g]?=some (.cells (CC hfS [c.u]).toArray 35)
 | 9=>∃g,v=.slice (some ⟨g,0,none⟩) 200 200/\∀k,k < 200→w.cell? ⟨g,k,none⟩=some (.int .u8 0)
 | _=>v=S zsN
theorem I1.ext{c:FZ}{i:Nat}{v:Value}{w w':World}(h:I1 c i v w)(hx:Aa w w'):I1 c i v w':=by
 unfold I1 at *
 split at h
 all_goals first
  | exact h
  | (obtain⟨g,h1,h2⟩:=h;exact⟨g,h1,(hx.block _ (AjL h2)).trans h2⟩)
  | (obtain⟨g,h1,h2⟩:=h;exact⟨g,h1,fun k hk=>hx.cellS (h2 k hk)⟩)
def cz(c:FZ)(i:Nat):Value:=match i with
 | 11=>c.rv
 | 12=>c.rv
 | 13=>.int .i64 c.c0
 | 14=>.int .i64 0
 | 15=>.int .i64 c.c2
 | 16=>.int .i64 c.c0
 | 17=>.int .i64 0
 | _=>.int .i64 c.c2
structure FZ.Ok(c:FZ):Prop where
 op:c.ops.toList.map (fun o=>(o.op,o.dst))=ZP
 acc:eN c.ops=true
 dep:Wo c.ops SA=true
 sz:48<c.a0.tmps.size
 e3:c.a0.eval (.tmp 3)=Ch c.ba
 e5:c.a0.eval (.tmp 5)=.pointer (some ⟨c.bp,0,none⟩)
 e7:c.a0.eval (.tmp 7)=.int .i64 (c.j:Nat)
 hb:c.W.heap[c.bp]?=some (.cells #[S hfS,S hfS] 28)
 hj:c.j<1000
 hu:c.u=if c.j%2=0 then 100 else 99
 cm:∀(w:World) (L:Option Addr),Aa c.W w→Ad w L (CC hfS [c.u])→BS w L 35→Calls Tryz.prog 8 #[Ch c.ba,S By,.slice L 1 1,S zsN] w (fun e w'=>e=.returned c.rv/\c.Post w')
structure EY(c:FZ)(l:Array Bool)(a:Act)(w:World):Prop where
 fr:DC (fun d=>d∈IH) c.a0 a
 cl:∀(i:Nat) (o:Oper),c.ops[i]?=some o→l.getD i false=true→∀e∈o.after,Region.binds .any e=true→l.getD e.on false=true
 ext:l.getD 11 false=false→Aa c.W w/\∀i,i<11→l.getD i false=true→I1 c i (a.eval (.tmp (Ks i))) w
 fin:l.getD 11 false=true→c.Post w
 val:∀i,11<=i→i<19→l.getD i false=true→a.eval (.tmp (Ks i))=cz c i
section
variable {c : FZ} {l : Array Bool} {a : Act} {w : World}
theorem EY.need(h:EY c l a w)(ok:c.Ok){i j:Nat}(hm:SA.contains (i,j)=true)(hi:l.getD i false=true):l.getD j false=true:=by
 have h1:=List.all_eq_true.1 ok.dep (i,j) (by simpa using hm)
 cases ho:c.ops[i]? with
 | none=>rw [ho]at h1;cases h1
 | some o=>rw [ho]at h1;exact OQ (h.cl i o ho hi) j h1
theorem EY.all(h:EY c l a w)(ok:c.Ok)(h11:l.getD 11 false=true):∀i,i<11→l.getD i false=true:=by
 have n:=fun (i j:Nat) (hm:SA.contains (i,j)=true)=>h.need ok (i:=i) (j:=j) hm;have h8:=n 11 8 (by decide) h11;have h10:=n 11 10 (by decide) h11;have h7:=n 8 7 (by decide) h8;have h6:=n 7 6 (by decide) h7;have h5:=n 6 5 (by decide) h6;have h4:=n 5 4 (by decide) h5;intro i hi
 match i,hi with
 | 0,_=>exact n 11 0 (by decide) h11
 | 1,_=>exact n 7 1 (by decide) h7
 | 2,_=>exact n 5 2 (by decide) h5
 | 3,_=>exact n 4 3 (by decide) h4
 | 4,_=>exact h4
 | 5,_=>exact h5
 | 6,_=>exact h6
 | 7,_=>exact h7
 | 8,_=>exact h8
 | 9,_=>exact n 10 9 (by decide) h10
 | 10,_=>exact h10
 | k+11,hk=>omega
theorem EY.no(h:EY c l a w)(ok:c.Ok){i:Nat}(hi:i<12)(hu:l.getD i false=false):l.getD 11 false=false:=by
 cases e:l.getD 11 false
 ·rfl
 ·rcases(show i<11∨i=11 by omega)with h'|rfl
  ·rw [h.all ok e i h']at hu;cases hu
  ·rw [e]at hu;cases hu
theorem EY.sz(h:EY c l a w)(ok:c.Ok){i:Nat}(hi:i<19):Ks i<a.tmps.size:=by
 rw [h.fr.size];have:=ok.sz;have:=AgE i hi;omega
theorem EY.pre(h:EY c l a w)(ok:c.Ok){i:Nat}(hi:i<11){o:Oper}(A8:l.getD i false=false)(ho:c.ops[i]?=some o)(hd:∀e∈o.after,Region.binds .any e=true→l.getD e.on false=true){v:Value}{w':World}(hF:I1 c i v w')(hx:Aa w w') :
  EY c (l.setIfInBounds i true) (a.put (some (Ks i)) v) w':=by
 have h11:=h.no ok (by omega) A8;refine⟨h.fr.put (zB i (by omega)) v,Ml h.cl ho hd,fun _=>⟨(h.ext h11).1.trans hx,fun j hj hl=>?_⟩,fun e=>?_,fun j h1 h2 hl=>?_⟩
 ·by_cases AL:i=j
  ·subst AL;rw [eval_put_same (h.sz ok (by omega))];exact hF
  ·rw [getD_set_ne false AL]at hl;rw [SG _ (aR i (by omega) j (by omega) AL)];exact((h.ext h11).2 j hj hl).ext hx
 ·rw [getD_set_ne false (by omega),h11]at e;cases e
 ·rw [getD_set_ne false (by omega)]at hl;rw [SG _ (aR i (by omega) j (by omega) (by omega))];exact h.val j h1 h2 hl
theorem EY.post(h:EY c l a w)(ok:c.Ok){i:Nat}(h1:11<=i)(h2:i<19){o:Oper}(hl:l.size=19)(ho:c.ops[i]?=some o)(hd:∀e∈o.after,Region.binds .any e=true→l.getD e.on false=true){v:Value}{w':World}(hv:v=cz c i)(hp:c.Post w')(h11:i=11∨l.getD 11 false=true) :
  EY c (l.setIfInBounds i true) (a.put (some (Ks i)) v) w':=by
 have AaO:(l.setIfInBounds i true).getD 11 false=true:=by
  rcases h11 with rfl|h11
  ·exact J8 (by omega)
  ·exact getD_set_true h11
 refine⟨h.fr.put (zB i (by omega)) v,Ml h.cl ho hd,fun e=>(by rw [AaO]at e;cases e),fun _=>hp,fun j k1 k2 hj=>?_⟩;by_cases AL:i=j
 ·subst AL;rw [eval_put_same (h.sz ok (by omega)),hv]
 ·rw [getD_set_ne false AL]at hj;rw [SG _ (aR i (by omega) j (by omega) AL)];exact h.val j k1 k2 hj
end
theorem Hh{a:Act}{t:Nat}{v:Value}(h:a.eval (.tmp t)=v):a.tmps[t]?.getD undef=v:=by
 rw [←h];simp [Act.eval]
theorem Tryz.infoB8:(Tryz.prog.info? 5).map (fun i=>(i.zero,i.size,i.bytes))=some (some (.int .u8 0),1,1):=by kernel_rfl
theorem Ael(W:World):(Instr.makeSlice 37 (.int .i64 200) (.int .i64 200)).run Tryz.prog W=.ok (.slice (some ⟨W.heap.size,0,none⟩) 200 200) (W.alloc (.cells (madeCells #[.int .u8 0] 200) 5)):=by
 obtain⟨i0,hi,hz0,hz1,hz2⟩:=info_parts Tryz.infoB8;have h:=run_make (P:=Tryz.prog) W 37 5 i0 (.int .u8 0) Tryz.underlying37 hi hz0 .i64 .i64 200 200 (by omega) (by omega) (by rw [hz2];omega) (by omega);rw [hz1]at h;exact h
theorem AhL{P:Program}{Q:Exit→Act→World→Prop}{o:Oper}{a:Act}{w:World}{K:Act→World→Prop}{f:FuncId}{x y z t:Operand}{ts:Array TypeId}(ho:o.op=.call {callee:=.value (.func f),args:=#[x,y,z,t],argTypes:=ts})(hen:Enters P f){u1 u2 u3 u4:Value}(hx:a.eval x=u1)(hy:a.eval y=u2)(hz:a.eval z=u3)(ht:a.eval t=u4)
  {R:Ending→World→Prop} (hc:Calls P f #[u1,u2,u3,u4] w R) (hR:∀e w'',R e w''→∃u,e=.returned u/\K (a.put o.dst u) w''):o.wp P a w K Q:=by
 subst hx;subst hy;subst hz;subst ht
 have h2:(execOp a.eval o).run P w=.ok (.enter f #[a.eval x,a.eval y,a.eval z,a.eval t]) w:=by unfold execOp;simp [ho,resolve,invoke,Act.eval,go_sem];exact hen _ w
 unfold Oper.wp;rw [h2,Oper.upon_enter];refine hc.mono fun e w'' h=>?_;obtain⟨u,rfl,hk⟩:=hR e w'' h;exact hk
theorem xT{c:FZ}(ok:c.Ok){id:Nat}{Q:Exit→Act→World→Prop}
  (hend:∀a w,DC (fun d=>d∈IH) c.a0 a→a.eval (.tmp 10)=.int .i64 c.c2→c.Post w→Q .normal a w) :
  (Code.region id c.ops true).wp Tryz.prog Q c.a0 c.W:=by
 have N6:Enters Tryz.prog 8:=enters_of Tryz.func8 (by kernel_rfl) rfl
 have hsz:c.ops.size=19:=by
  have:=congrArg List.length ok.op
  simpa [ZP]using this
 refine AhM (EY c) (by kernel_rfl) (fun i o ho=>(eO ok.acc i o ho).2) (fun i o ho=>(eO ok.acc i o ho).1) ?_ ?_ ?_
 ·refine⟨DC.refl _ _,fun i o _ e=>?_,fun _=>⟨(Aa.refl c.W).drew,fun i _ e=>?_⟩,fun e=>?_,fun i _ _ e=>?_⟩
  all_goals (rw [getD_replicate_false]at e;cases e)
 ·rintro l a w i o h qB A8 ho Ba;have hi:i<19:=(by have:=(Array.getElem?_eq_some_iff.1 ho).1;omega);have Ew:l.size=19:=(by omega);have hL:=ZO ok.op ho;have NX:=OQ Ba
  have dep:∀j k,SA.contains (j,k)=true→j=i→l.getD k false=true:=by rintro j k hjk rfl;have h1:=List.all_eq_true.1 ok.dep (j,k) (by simpa using hjk);rw [ho]at h1;exact NX k h1
  have v3:a.eval (.tmp 3)=Ch c.ba:=(h.fr.eval (by decide)).trans ok.e3;have v5:a.eval (.tmp 5)=.pointer (some ⟨c.bp,0,none⟩):=(h.fr.eval (by decide)).trans ok.e5;have v7:a.eval (.tmp 7)=.int .i64 (c.j:Nat):=(h.fr.eval (by decide)).trans ok.e7;have Gp:(0:Int)<=((c.j%2:Nat):Int)/\((c.j%2:Nat):Int)<2:=by omega
  rcases(by omega:i=0∨i=1∨i=2∨i=3∨i=4∨i=5∨i=6∨i=7∨i=8∨i=9∨i=10∨i=11∨i=12∨i=13∨i=14∨i=15∨i=16∨i=17∨i=18)with rfl|rfl|rfl|rfl|rfl|rfl|rfl|rfl|rfl|rfl|rfl|rfl|rfl|rfl|rfl|rfl|rfl|rfl|rfl
  all_goals
   simp only [ZP,List.getElem?_cons_zero,List.getElem?_cons_succ,AjR,Prod.mk.injEq]at hL;obtain⟨p,d⟩:=hL
  ·have h11:=h.no ok (show 0<12 by omega) A8;refine Iy (.tmp 3) p.symm ?_;rw [←d];exact h.pre ok (i:=0) (by omega) A8 ho Ba v3 (Aa.refl _)
  ·have h11:=h.no ok (show 1<12 by omega) A8;have hb:=((h.ext h11).1.block _ (AjL ok.hb)).trans ok.hb;refine Gy p d (by rw [v5];exact QT (Ab (o:=0) hb rfl) (Ab (o:=1) hb rfl)) ?_;exact h.pre ok (i:=1) (by omega) A8 ho Ba rfl (Aa.refl _)
  ·have h11:=h.no ok (show 2<12 by omega) A8;refine Gz (v:=.slice (some ⟨w.heap.size,0,none⟩) 2 2) (w':=w.alloc (.cells #[S [100],S [99]] 9)) (by unfold execOp;rw [←p];simp [go_sem]) ?_;rw [←d];exact h.pre ok (i:=2) (by omega) A8 ho Ba ⟨_,rfl,AjM _ _⟩ ((Aa.refl _).alloc _)
  ·have h11:=h.no ok (show 3<12 by omega) A8;refine Iy (.tmp 7) p.symm ?_;rw [←d];exact h.pre ok (i:=3) (by omega) A8 ho Ba v7 (Aa.refl _)
  ·have h11:=h.no ok (show 4<12 by omega) A8;have yu:a.eval (.tmp 37)=.int .i64 (c.j:Nat):=(h.ext h11).2 3 (by omega) (dep 4 3 (by decide) rfl);have t0:Int.tmod (c.j:Int) 2=((c.j%2:Nat):Int):=rfl;refine Gz (v:=.int .i64 ((c.j%2:Nat):Int)) (w':=w) (by unfold execOp;rw [←p];simp [go_sem,Hh yu];omega) ?_;rw [←d];exact h.pre ok (i:=4) (by omega) A8 ho Ba rfl (Aa.refl _)
  ·have h11:=h.no ok (show 5<12 by omega) A8;have e38:a.eval (.tmp 38)=.int .i64 ((c.j%2:Nat):Int):=(h.ext h11).2 4 (by omega) (dep 5 4 (by decide) rfl);obtain⟨g,yt,hg⟩:I1 c 2 (a.eval (.tmp 36)) w:=(h.ext h11).2 2 (by omega) (dep 5 2 (by decide) rfl);have f1:(0:Int)<=(c.j:Int)%2:=(by omega);have f2:(c.j:Int)%2<2:=(by omega);have f3:((c.j:Int)%2).toNat=c.j%2:=(by omega);refine Gz (v:=.pointer (some ⟨g,c.j%2,none⟩)) (w':=w) (by unfold execOp;rw [←p];simp [go_sem,Hh yt,Hh e38,f1,f2,f3]) ?_;rw [←d];exact h.pre ok (i:=5) (by omega) A8 ho Ba ⟨g,rfl,hg⟩ (Aa.refl _)
  ·have h11:=h.no ok (show 6<12 by omega) A8;obtain⟨g,e39,hg⟩:I1 c 5 (a.eval (.tmp 39)) w:=(h.ext h11).2 5 (by omega) (dep 6 5 (by decide) rfl)
   have hc:w.cell? ⟨g,c.j%2,none⟩=some (S [c.u]):=by
    rw [ok.hu]
    rcases(show c.j%2=0∨c.j%2=1 by omega)with e|e
    ·rw [e];exact Ab hg rfl
    ·rw [e];exact Ab hg rfl
   refine Gy p d (v:=S [c.u]) (w':=w) (by rw [e39];simp [go_sem,hc]) ?_;exact h.pre ok (i:=6) (by omega) A8 ho Ba rfl (Aa.refl _)
  ·have h11:=h.no ok (show 7<12 by omega) A8;have yr:a.eval (.tmp 35)=.agg #[S hfS,S hfS]:=(h.ext h11).2 1 (by omega) (dep 7 1 (by decide) rfl);have yv:a.eval (.tmp 40)=S [c.u]:=(h.ext h11).2 6 (by omega) (dep 7 6 (by decide) rfl);refine Gz (v:=.agg (CC hfS [c.u]).toArray) (w':=w) (by unfold execOp;rw [←p];simp [go_sem,Hh yr,Hh yv,CC]) ?_;rw [←d];exact h.pre ok (i:=7) (by omega) A8 ho Ba rfl (Aa.refl _)
  ·have h11:=h.no ok (show 8<12 by omega) A8;have yw:a.eval (.tmp 41)=.agg (CC hfS [c.u]).toArray:=(h.ext h11).2 7 (by omega) (dep 8 7 (by decide) rfl);refine Gz (v:=.slice (some ⟨w.heap.size,0,none⟩) 1 1) (w':=w.alloc (.cells (CC hfS [c.u]).toArray 35)) (by unfold execOp;rw [←p];simp [go_sem,Hh yw,CC]) ?_;rw [←d];exact h.pre ok (i:=8) (by omega) A8 ho Ba ⟨_,rfl,AjM _ _⟩ ((Aa.refl _).alloc _)
  ·have h11:=h.no ok (show 9<12 by omega) A8;refine K0 (Instr.makeSlice 37 (.int .i64 200) (.int .i64 200)) (by unfold execOp;rw [←p];rfl) (Ael w) ?_;rw [←d];refine h.pre ok (i:=9) (by omega) A8 ho Ba ⟨_,rfl,fun k hk=>Ab (AjM w _) ?_⟩ ((Aa.refl _).alloc _);unfold madeCells;rw [Array.getElem?_map,Array.getElem?_range,if_pos hk];simp [Nat.mod_one]
  ·have h11:=h.no ok (show 10<12 by omega) A8;obtain⟨g,yy,hg⟩:I1 c 9 (a.eval (.tmp 43)) w:=(h.ext h11).2 9 (by omega) (dep 10 9 (by decide) rfl)
   have hcv:=run_convert_bytes_back (P:=Tryz.prog) w 37 9 5 ⟨g,0,none⟩ 200 zsN Tryz.underlying37 Tryz.underlying5 Tryz.underlying9 (fun k hk=>by
    have Yr:k<200:=(by simpa [zsN]using hk);rw [Addr.add_lit,Nat.zero_add,hg k Yr];simp only [zsN,List.getElem_replicate]
    rfl)
   rw [show zsN.length=200 from List.length_replicate,←yy]at hcv;refine K0 (convert 37 9 (a.eval (.tmp 43))) (by unfold execOp;rw [←p]) hcv ?_;rw [←d];exact h.pre ok (i:=10) (by omega) A8 ho Ba rfl (Aa.refl _)
  ·have h11:=h.no ok (show 11<12 by omega) A8;have yq:a.eval (.tmp 34)=Ch c.ba:=(h.ext h11).2 0 (by omega) (dep 11 0 (by decide) rfl);have yz:a.eval (.tmp 44)=S zsN:=(h.ext h11).2 10 (by omega) (dep 11 10 (by decide) rfl);obtain⟨g,yx,hg⟩:I1 c 8 (a.eval (.tmp 42)) w:=(h.ext h11).2 8 (by omega) (dep 11 8 (by decide) rfl);refine AhL p.symm N6 yq rfl yx yz (ok.cm w (some ⟨g,0,none⟩) (h.ext h11).1 (Ad.blk hg) (fun x hx=>by obtain rfl:=Option.some.inj hx;exact⟨_,_,hg⟩)) ?_;rintro e w'' ⟨rfl,hP⟩;refine⟨_,rfl,?_⟩;rw [←d];exact h.post ok (i:=11) (by omega) (by omega) Ew ho Ba rfl hP (.inl rfl)
  ·have h11:=dep 12 11 (by decide) rfl;refine Iy (.tmp 45) p.symm ?_;rw [←d];exact h.post ok (i:=12) (by omega) (by omega) Ew ho Ba (h.val 11 (by omega) (by omega) h11) (h.fin h11) (.inr h11)
  ·have FA:=dep 13 12 (by decide) rfl;have h11:=h.need ok (i:=12) (j:=11) (by decide) FA;have PE:a.eval (.tmp 33)=c.rv:=h.val 12 (by omega) (by omega) FA;refine Gz (v:=.int .i64 c.c0) (w':=w) (by unfold execOp;rw [←p];simp [go_sem,Hh PE,FZ.rv]) ?_;rw [←d];exact h.post ok (i:=13) (by omega) (by omega) Ew ho Ba rfl (h.fin h11) (.inr h11)
  ·have FA:=dep 14 12 (by decide) rfl;have h11:=h.need ok (i:=12) (j:=11) (by decide) FA;have PE:a.eval (.tmp 33)=c.rv:=h.val 12 (by omega) (by omega) FA;refine Gz (v:=.int .i64 0) (w':=w) (by unfold execOp;rw [←p];simp [go_sem,Hh PE,FZ.rv]) ?_;rw [←d];exact h.post ok (i:=14) (by omega) (by omega) Ew ho Ba rfl (h.fin h11) (.inr h11)
  ·have FA:=dep 15 12 (by decide) rfl;have h11:=h.need ok (i:=12) (j:=11) (by decide) FA;have PE:a.eval (.tmp 33)=c.rv:=h.val 12 (by omega) (by omega) FA;refine Gz (v:=.int .i64 c.c2) (w':=w) (by unfold execOp;rw [←p];simp [go_sem,Hh PE,FZ.rv]) ?_;rw [←d];exact h.post ok (i:=15) (by omega) (by omega) Ew ho Ba rfl (h.fin h11) (.inr h11)
  ·have hk:=dep 16 13 (by decide) rfl;have h11:=h.need ok (i:=12) (j:=11) (by decide) (h.need ok (i:=13) (j:=12) (by decide) hk);have e1:a.eval (.tmp 46)=.int .i64 c.c0:=h.val 13 (by omega) (by omega) hk;refine Gz (v:=.int .i64 c.c0) (w':=w) (by unfold execOp;rw [←p];simp [go_sem,Hh e1]) ?_;rw [←d];exact h.post ok (i:=16) (by omega) (by omega) Ew ho Ba rfl (h.fin h11) (.inr h11)
  ·have hk:=dep 17 14 (by decide) rfl;have h11:=h.need ok (i:=12) (j:=11) (by decide) (h.need ok (i:=14) (j:=12) (by decide) hk);have e1:a.eval (.tmp 47)=.int .i64 0:=h.val 14 (by omega) (by omega) hk;refine Gz (v:=.int .i64 0) (w':=w) (by unfold execOp;rw [←p];simp [go_sem,Hh e1]) ?_;rw [←d];exact h.post ok (i:=17) (by omega) (by omega) Ew ho Ba rfl (h.fin h11) (.inr h11)
  ·have hk:=dep 18 15 (by decide) rfl;have h11:=h.need ok (i:=12) (j:=11) (by decide) (h.need ok (i:=15) (j:=12) (by decide) hk);have e1:a.eval (.tmp 48)=.int .i64 c.c2:=h.val 15 (by omega) (by omega) hk;refine Gz (v:=.int .i64 c.c2) (w':=w) (by unfold execOp;rw [←p];simp [go_sem,Hh e1]) ?_;rw [←d];exact h.post ok (i:=18) (by omega) (by omega) Ew ho Ba rfl (h.fin h11) (.inr h11)
 ·intro l a w h hall;exact hend a w h.fr (h.val 18 (by omega) (by omega) (hall 18 (by omega))) (h.fin (hall 11 (by omega)))
theorem DC.litsV:∀(ds:List Nat) {a0 a:Act},DC (fun d=>d∈ds) a0 a→(∀d∈ds,d<a0.tmps.size)→a=ds.foldl (fun x d=>x.put (some d) (a.eval (.tmp d))) a0:=by
 intro ds
 induction ds with
 | nil=>
  intro a0 a h _;obtain⟨t1,d1⟩:=a;obtain⟨t0,d0⟩:=a0;have e1:d1=d0:=h.defers;have e2:t1=t0:=Array.ext_getElem? fun i=>h.same i (by simp);rw [List.foldl_nil,e1,e2]
 | cons d ds ih=>
  intro a0 a h hs;rw [List.foldl_cons];refine ih ⟨?_,h.defers,fun e he=>?_⟩ (fun e he=>?_)
  ·simp only [Act.put,Array.size_setIfInBounds];exact h.size
  ·by_cases e1:d=e
   ·subst e1;have hd:=hs d (by simp);simp only [Act.put];rw [Array.getElem?_setIfInBounds_self_of_lt hd];have hlt:d<a.tmps.size:=(by rw [h.size];exact hd);simp only [Act.eval,Array.getD_eq_getD_getElem?,Array.getElem?_eq_getElem hlt,Option.getD_some]
   ·simp only [Act.put];rw [Array.getElem?_setIfInBounds_ne e1];exact h.same e (by simp [he];exact fun e'=>e1 e'.symm)
  ·simp only [Act.put,Array.size_setIfInBounds];exact hs e (List.mem_cons_of_mem _ he)
end Go.Proofs.YtnfedbopbcegjaaGreatDoor
