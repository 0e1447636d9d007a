/- I42: ShT8G ShKK4 ShKA2 ShKD. -/
import Derived.Test.YtnddllipjippnaaGreatDoorI36
import Derived.Test.YtnddllipjippnaaGreatDoorI40
import Derived.Test.YtnddllipjippnaaGreatDoorI41
set_option maxRecDepth 100000
set_option maxHeartbeats 8000000
namespace Go.Proofs.YtnddllipjippnaaGreatDoor
open Go.RowKit Kl
def Ae7(f:MapZ→Prop)(w:World)(e:Ending)(w':World):Prop:=
 ∃(n:Nat) (units:List Bs) (A B F:Option Addr) (c d g:Nat) (m:MapZ) (faces:List Bs),n<=18/\e=.returned (AH A B F m c d g)/\MapAt w' n units A B F c d g m faces/\Ab w w'/\OA w.heap.size A B F/\(∀u∈units,∃n:Nat,u=Bt n)/\f m
theorem AaX{p:Pl}(h:p.Ok):(O0 p).length=29:=by simp [O0,h.len]
section
variable {P : Program} {ops : Array Oper} {rest : List Oper} {o : Oper} {a : Act} {Q : Exit → Act → World → Prop}
theorem zk(hgd:o.guard=none)(ty:TypeId)(x:Operand)(ho:o.op=.load ty x)(w:World)
  (g:Nat) (hx:a.eval x=.pointer (some ⟨g,0,none⟩)) (t:TypeId) (cs:Array Value) (d:TypeDesc) (hg:w.heap[g]?=some (.cells cs t))
  (hu:P.underlying ty=some d) (hd:(match d with | .struct _ | .array _ _=>true|_=>false)=true) (hi:(P.info? ty).map (·.size)=some cs.size)
  (h:wpList P ops Q rest (a.put o.dst (.agg cs)) w):wpList P ops Q (o::rest) a w:=
 wpList_plain hgd fun _ hK=>wp_load_row ty x ho g hx t cs (0,0) d hg hu hd hi (hK _ _ h)
end
theorem AaY:(Tryz.prog.info? 46).map (·.size)=some 29:=by kernel_rfl
theorem AlF(f:MapZ→Prop)(p:Pl)(hp:p.Ok)(hf:∀(m:MapZ) (faces:List Bs),S9 (Se p) m faces→(Se p).length<=18→(∀e∈Se p,e.1.length<=4)→m.nf=faces.length→faces.length<=18→f m)(w:World)(hw:Aj w):Calls Tryz.prog 14 #[O1 p] w (Ae7 f w):=by
 have pc:=fun (w':World) (h:Aj w')=>AmY p hp w' h;obtain⟨cs,hcs⟩:=Asw ((O0 p).toArray);have hV:O1 p=.agg cs:=(by rw [hcs];rfl);have hsz:cs.size=29:=(by rw [hcs];exact AaX hp);have hin:(Tryz.prog.info? 46).map (·.size)=some cs.size:=(by rw [hsz];exact AaY);simp only [hV]at pc ⊢
 obtain⟨V,Hr,EV,QW,DX⟩:∃V,V=(w.alloc (.cells cs 46)).alloc (.cells #[.slice none 0 0,.slice none 0 0,.slice none 0 0] 35)/\Ab w V/\V.heap[w.heap.size]?=some (.cells cs 46)/\V.heap[w.heap.size+1]?=some (.cells #[.slice none 0 0,.slice none 0 0,.slice none 0 0] 35):=by
  refine⟨_,rfl,((Ab.refl _).alloc _).alloc _,(Below.heap_alloc _ _ _ (by simp)).trans (Asz w _),?_⟩;have h:=Asz (w.alloc (.cells cs 46)) (.cells #[.slice none 0 0,.slice none 0 0,.slice none 0 0] 35)
  rwa [As7]at h
 have HF:=Asx hf;clear hcs hV hp hsz hf;go_enter Tryz.func14,Tryz.ntmps14
 go_upto_region 1 with fail
 rw [←Hr];clear Hr;obtain⟨bP,ia⟩:=Asw w.heap.size;have AiF:w.heap.size<=bP:=(by omega);rw [←ia]at QW DX ⊢;clear ia
 go_wp2_with (first|(refine zk rfl 46 (.tmp 1) rfl V bP rfl 46 cs _ QW Tryz.underlying46 rfl hin ?_)|((with_reducible refine(pc _ (hw.ext EV)).mono ?_);rintro e w1 ⟨A,c,P,rfl,hP,hat,hx1,Ob⟩;have Nb:=Asx Ob;clear Ob))
 have gl:=AhT P hP A c w1 (hw.ext (EV.trans hx1)) hat;have gQ:=hP.len;have Fl:=Asx (fun e he=>(hP.pts e he).2)
 have Tc:=Asx (show ∀u∈P.map (·.2),∃n:Nat,u=Bt n from fun u hu=>by
  obtain⟨e,he,rfl⟩:=List.mem_map.1 hu
  exact hP.un e he)
 have Cb:=EV.trans hx1;have NH:=(hx1.block _ (Asy DX)).trans DX;clear pc hat hP DX QW;(go_wp2_with fail);(with_reducible refine gl.mono ?_);rintro e w2 ⟨A9,B9,F9,c9,d9,g9,m9,OR,rfl,DG,hx2,hfr,hgx⟩;have Yz:S9 (Se p) m9 OR:=(by rw [←Nb.out];exact hgx);have SA:=Asx (HF.out m9 OR Yz (by rw [←Nb.out];exact gQ) (by rw [←Nb.out];exact Fl.out) DG.nf (by have:=DG.le;omega));clear hgx Yz;unfold AH;have NI:=(hx2.block _ (Asy NH)).trans NH;have hst:=Aae DG (Cb.trans hx2) NI (by omega) (.slice A9 m9.pts.length c9) (.slice B9 m9.eds.length d9) (.slice F9 m9.nf g9);have hfr2:=hfr.mono Cb.size;have r0:w2.cell? ⟨bP+1,0,none⟩=some (.slice none 0 0):=Aa NI rfl;have r1:w2.cell? ⟨bP+1,1,none⟩=some (.slice none 0 0):=Aa NI rfl;have r2:w2.cell? ⟨bP+1,2,none⟩=some (.slice none 0 0):=Aa NI rfl;have r3:=Ah (o:=0) NI;have r4:=Ah (o:=1) NI;have r5:=Ah (o:=2) NI;have t1:=Aa (o:=0) hst.2.2 rfl;have t2:=Aa (o:=1) hst.2.2 rfl;have t3:=Aa (o:=2) hst.2.2 rfl;have HST:=Asx (And.intro hst (And.intro hfr2 gQ));clear hst NI DG hfr hfr2 gQ NH gl;go_wp2;refine bodyPost_ret (v:=.agg #[.slice A9 m9.pts.length c9,.slice B9 m9.eds.length d9,.slice F9 m9.nf g9]) (by simp [results,Tryz.results14,go_sem,t1,t2,t3]) rfl ?_;exact⟨P.length,P.map (·.2),A9,B9,F9,c9,d9,g9,m9,OR,HST.out.2.2,rfl,HST.out.1.1,HST.out.1.2.1,HST.out.2.1,Tc.out,SA.out⟩
theorem Aaf{ps:List Pt}{p q:Pt}(h:q∈ps∨q=p):q∈G8 ps p:=by
 unfold G8
 split
 ·rename_i y hy
  split
  ·rename_i hb
   rcases h with h|rfl
   ·exact h
   ·rw [←Ca.1 hb];exact List.mem_of_getLast? hy
  ·simpa using h
 ·simpa using h
theorem Aah:∀(l:List Hf) (ps:List Pt) (q:Pt),(q∈ps∨∃h∈l,q=h.a)→q∈l.foldl (fun ps h=>G8 ps h.a) ps
 | [],ps,q,h=>by simpa using h
 | x::l,ps,q,h=>by
  rw [List.foldl_cons];refine Aah l _ q ?_
  rcases h with h|⟨y,hy,e⟩
  ·exact .inl (Aaf (.inl h))
  ·rcases List.mem_cons.1 hy with rfl|hy
   ·exact .inl (Aaf (.inr e))
   ·exact .inr ⟨y,hy,e⟩
theorem yK{units:List Bs}{P:List Pt}{L:List Hf} : ∀(l:List Hf) (st:List Int×List Bs×List EdZ),(∀x∈l,x.a∈P)→(∀e∈st.2.2,0<=e.f/\e.f<(P.length:Int))→∀e∈(l.foldl (Hg units P L) st).2.2,0<=e.f/\e.f<(P.length:Int)
 | [],_,_,h=>h
 | x::l,st,hl,h=>by
  rw [List.foldl_cons];refine yK l _ (fun y hy=>hl y (List.mem_cons_of_mem _ hy)) ?_;unfold Hg
  split
  ·exact h
  ·intro e he
   rcases List.mem_append.1 he with he|he
   ·exact h e he
   ·rw [List.mem_singleton.1 he];obtain⟨j,hj,e1⟩:=xl (hl x List.mem_cons_self);simp only [e1];omega
theorem AlD{P:List (List Pt×Bs)}{m:MapZ}{faces:List Bs}(h:S9 P m faces):∀e∈m.eds,0<=e.f/\e.f<(m.pts.length:Int):=by
 obtain⟨fs,-,l0,l3,nums,-,-,-,hp,he⟩:=h;have h1:=yK (units:=P.map (·.2)) (P:=IE l3) (L:=l3) l3 (zn (List.replicate (P.map (·.2)).length 0),[],[]) (fun x hx=>by unfold IE;exact Aah l3 [] _ (.inr ⟨x,hx,rfl⟩)) (by simp);rw [←he]at h1;rw [hp];exact h1
theorem Xy{α β:Type}{f:α→List β}{c:Nat} : ∀{l:List α},(∀x∈l,(f x).length<=c)→(l.flatMap f).length<=c*l.length
 | [],_=>by simp
 | x::l,h=>by have h1:=Xy (l:=l) (fun y hy=>h y (List.mem_cons_of_mem _ hy));have h2:=h x List.mem_cons_self;rw [List.flatMap_cons,List.length_append,List.length_cons,Nat.mul_succ];omega
theorem xO(P:List (List Pt×Bs))(i:Int):∀(f:Nat) (a b:Pt),(JC P i f a b).length<=f
 | 0,_,_=>by unfold JC;simp
 | f+1,a,b=>by
  unfold JC
  split
  ·simp
  ·have:=xO P i f (Zs P a b) b;rw [List.length_cons];omega
theorem Ao6{P:List (List Pt×Bs)}(h1:P.length<=18)(h2:∀e∈P,e.1.length<=4):(MK P).length<=936:=by
 have hc:∀i∈List.range P.length,(JD P i).length<=52:=by
  intro i hi;have hi':=List.mem_range.1 hi
  have h4:(P.getD i ([],[])).1.length<=4:=by rw [List.getD_eq_getElem?_getD,As5 hi',Option.getD_some];exact h2 _ (As1 hi')
  have:=Xy (f:=LK P i (P.getD i ([],[])).1) (c:=13) (l:=List.range (P.getD i ([],[])).1.length) (fun k _=>xO P _ 13 _ _);rw [List.length_range]at this;unfold JD;omega
 have:=Xy (f:=JD P) (c:=52) (l:=List.range P.length) hc;rw [List.length_range]at this;unfold MK;omega
theorem AhR(l:List Hf)(fs:List Int)(x:Hf):(KJ l fs x).length<=2:=by
 unfold KJ
 split
 ·simp
 ·split<;>simp
theorem yL{units:List Bs}{P:List Pt}{L:List Hf} : ∀(l:List Hf) (st:List Int×List Bs×List EdZ),(l.foldl (Hg units P L) st).2.2.length<=st.2.2.length+l.length
 | [],_=>by simp
 | x::l,st=>by
  have h1:=yL (units:=units) (P:=P) (L:=L) l (Hg units P L st x)
  have h2:(Hg units P L st x).2.2.length<=st.2.2.length+1:=by
   unfold Hg
   split
   ·omega
   ·simp
  rw [List.foldl_cons,List.length_cons];omega
theorem AlE{P:List (List Pt×Bs)}{m:MapZ}{faces:List Bs}(h:S9 P m faces)(h1:P.length<=18)(h2:∀e∈P,e.1.length<=4):m.pts.length<=2000/\m.eds.length<=2000:=by
 obtain⟨fs,-,l0,l3,nums,hq,ra,-,hp,he⟩:=h;have e1:=hq.le;have e2:=Xy (f:=KJ (MK P) fs) (c:=2) (l:=MK P) (fun x _=>AhR _ _ x);have e3:=Ao6 h1 h2;have e4:=ra.length_eq;have e5:=Abl l3 [];have e6:=yL (units:=P.map (·.2)) (P:=IE l3) (L:=l3) l3 (zn (List.replicate (P.map (·.2)).length 0),[],[]);rw [←he]at e6;unfold IE at hp;rw [hp];simp only [List.length_nil,Nat.zero_add]at e5 e6;exact⟨by omega,by omega⟩
section
open Go.Sort Go.Shelf
theorem zE(l:List Pt):(flat (Ag l)).length=l.length*2:=by
 rw [flat_length];unfold Ag;rw [List.length_map]
theorem wT(l:List Pt)(A:Option Addr)(cc:Nat)(w:World)(hr:Ad w A (flat (Ag l)))(hlen:l.length<=100000) :
  Calls Tryz.prog 15 #[.slice A l.length cc] w (fun e w'=>∃v,e=.returned v/\w'.ownsRow w.heap.size 24 2 v l.length (flat (Ag l))/\Ab w w'):=by
 cases A with
 | none=>
  have h0:l = []:=by
   refine Classical.byContradiction fun h=>?_;obtain⟨b,o,e,_⟩:=hr.ad (by rw [zE];have:=List.length_pos_iff.2 h;omega)
   cases e
  subst h0;have hq:=fun W=>Lib.run_eql_slice_nil (P:=Tryz.prog) W 31 24 none 0 cc 0 0 Tryz.underlying31;clear hr;go_enter Tryz.func15,Tryz.ntmps15;go_wp2;go_ret;exact⟨_,rfl,⟨rfl,.inl ⟨rfl,rfl⟩⟩,Ab.refl _⟩
 | some a=>
  have hrow:=World.ownsRow_lit (base:=w.heap.size) (e:=24) (size:=2) w #[] 0 (As0 _) (by unfold maxLen;omega) rfl;have hE:=(Ab.refl w).alloc (.cells #[] 24)
  have hnews:∀j u,(flat (Ag l))[j]?=some u→(w.alloc (.cells #[] 24)).cell? (a.add j)=some u:=by
   intro j u hu;obtain⟨hj,Lf⟩:=List.getElem?_eq_some_iff.1 hu;obtain⟨b,o,e,hc⟩:=(hr.ext hE).ad (by omega)
   cases e;rw [Addr.add_lit,←Lf];exact hc j hj
  have h1c:∀u∈flat (Ag l),u.oneCell'=true:=by intro u hu;obtain⟨j,hj,rfl⟩:=List.getElem_of_mem hu;obtain⟨s,hs⟩:=OS hj;rw [hs];rfl
  obtain⟨i0,hi,hz0,hz1,hz2⟩:=info_parts Tryz.infoPt;have hq:=fun W=>Lib.run_eql_slice_nil (P:=Tryz.prog) W 31 24 (some a) l.length cc 0 0 Tryz.underlying31;clear hr;have HW:=Asx hrow;have HE:=Asx hE;have HN:=Asx hnews;clear hrow hE hnews;go_enter Tryz.func15,Tryz.ntmps15
  go_wp2_with (at_builtin;go_loud (refine wpList_append_own _ rfl _ _ 31 rfl w.heap.size 24 i0 (.agg #[S [],S []]) 2 32 Tryz.underlying31 hi hz0 hz1 hz2 rfl (by omega) (.slice (some ⟨w.heap.size,0,none⟩) 0 0) 0 [] rfl HW.out a l.length cc (flat (Ag l)) rfl (zE l) HN.out h1c (by unfold maxLen;omega) (by omega) HE.out.size ?_);intro v9 w9 Bo AP hnil9)
  go_ret;rw [Nat.zero_add,List.nil_append]at Bo;exact⟨_,rfl,Bo,HE.out.grown AP fun k hk=>by simp only [Value.ownBlock,As4]at hk;omega⟩
theorem dT(l:List EdZ)(A:Option Addr)(cc:Nat)(w:World)(hr:Ad w A (Ar l))(hlen:l.length<=100000) :
  Calls Tryz.prog 16 #[.slice A l.length cc] w (fun e w'=>∃v,e=.returned v/\w'.ownsRow w.heap.size 51 4 v l.length (Ar l)/\Ab w w'):=by
 cases A with
 | none=>
  have h0:l = []:=by
   refine Classical.byContradiction fun h=>?_;obtain⟨b,o,e,_⟩:=hr.ad (by rw [Ny];have:=List.length_pos_iff.2 h;omega)
   cases e
  subst h0;have hq:=fun W=>Lib.run_eql_slice_nil (P:=Tryz.prog) W 32 51 none 0 cc 0 0 Tryz.underlying32;clear hr;go_enter Tryz.func16,Tryz.ntmps16;go_wp2;go_ret;exact⟨_,rfl,⟨rfl,.inl ⟨rfl,rfl⟩⟩,Ab.refl _⟩
 | some a=>
  have hrow:=World.ownsRow_lit (base:=w.heap.size) (e:=51) (size:=4) w #[] 0 (As0 _) (by unfold maxLen;omega) rfl;have hE:=(Ab.refl w).alloc (.cells #[] 51)
  have hnews:∀j u,(Ar l)[j]?=some u→(w.alloc (.cells #[] 51)).cell? (a.add j)=some u:=by
   intro j u hu;obtain⟨hj,Lf⟩:=List.getElem?_eq_some_iff.1 hu;obtain⟨b,o,e,hc⟩:=(hr.ext hE).ad (by omega)
   cases e;rw [Addr.add_lit,←Lf];exact hc j hj
  have h1c:∀u∈Ar l,u.oneCell'=true:=by intro u hu;obtain⟨j,hj,rfl⟩:=List.getElem_of_mem hu;obtain⟨s,hs⟩:=Nx hj;rw [hs];rfl
  obtain⟨i0,hi,hz0,hz1,hz2⟩:=info_parts Tryz.infoEd;have hq:=fun W=>Lib.run_eql_slice_nil (P:=Tryz.prog) W 32 51 (some a) l.length cc 0 0 Tryz.underlying32;clear hr;have HW:=Asx hrow;have HE:=Asx hE;have HN:=Asx hnews;clear hrow hE hnews;go_enter Tryz.func16,Tryz.ntmps16
  go_wp2_with (at_builtin;go_loud (refine wpList_append_own _ rfl _ _ 32 rfl w.heap.size 51 i0 (.agg #[.int .i64 0,.int .i64 0,.int .i64 0,.int .i64 0]) 4 32 Tryz.underlying32 hi hz0 hz1 hz2 rfl (by omega) (.slice (some ⟨w.heap.size,0,none⟩) 0 0) 0 [] rfl HW.out a l.length cc (Ar l) rfl (Ny l) HN.out h1c (by unfold maxLen;omega) (by omega) HE.out.size ?_);intro v9 w9 Bo AP hnil9)
  go_ret;rw [Nat.zero_add,List.nil_append]at Bo;exact⟨_,rfl,Bo,HE.out.grown AP fun k hk=>by simp only [Value.ownBlock,As4]at hk;omega⟩
theorem dU(l:List Bs)(A:Option Addr)(cc:Nat)(w:World)(hr:Ad w A (l.map S))(hlen:l.length<=100000) :
  Calls Tryz.prog 17 #[.slice A l.length cc] w (fun e w'=>∃v,e=.returned v/\w'.ownsRow w.heap.size 9 1 v l.length (l.map S)/\Ab w w'):=by
 cases A with
 | none=>
  have h0:l = []:=by
   refine Classical.byContradiction fun h=>?_;obtain⟨b,o,e,_⟩:=hr.ad (by rw [List.length_map];have:=List.length_pos_iff.2 h;omega)
   cases e
  subst h0;have hq:=fun W=>Lib.run_eql_slice_nil (P:=Tryz.prog) W 33 9 none 0 cc 0 0 Tryz.underlying33;clear hr;go_enter Tryz.func17,Tryz.ntmps17;go_wp2;go_ret;exact⟨_,rfl,⟨rfl,.inl ⟨rfl,rfl⟩⟩,Ab.refl _⟩
 | some a=>
  have hrow:=World.ownsRow_lit (base:=w.heap.size) (e:=9) (size:=1) w #[] 0 (As0 _) (by unfold maxLen;omega) rfl;have hE:=(Ab.refl w).alloc (.cells #[] 9)
  have hnews:∀j u,(l.map S)[j]?=some u→(w.alloc (.cells #[] 9)).cell? (a.add j)=some u:=by
   intro j u hu;obtain⟨hj,Lf⟩:=List.getElem?_eq_some_iff.1 hu;obtain⟨b,o,e,hc⟩:=(hr.ext hE).ad (by omega)
   cases e;rw [Addr.add_lit,←Lf];exact hc j hj
  have h1c:∀u∈l.map S,u.oneCell'=true:=by
   intro u hu;obtain⟨s,-,rfl⟩:=List.mem_map.1 hu
   rfl
  obtain⟨i0,hi,hz0,hz1,hz2⟩:=info_parts Tryz.infoStr;have hq:=fun W=>Lib.run_eql_slice_nil (P:=Tryz.prog) W 33 9 (some a) l.length cc 0 0 Tryz.underlying33;clear hr;have HW:=Asx hrow;have HE:=Asx hE;have HN:=Asx hnews;clear hrow hE hnews;go_enter Tryz.func17,Tryz.ntmps17
  go_wp2_with (at_builtin;go_loud (refine wpList_append_own _ rfl _ _ 33 rfl w.heap.size 9 i0 (S []) 1 16 Tryz.underlying33 hi hz0 hz1 hz2 rfl (by omega) (.slice (some ⟨w.heap.size,0,none⟩) 0 0) 0 [] rfl HW.out a l.length cc (l.map S) rfl (by simp) HN.out h1c (by unfold maxLen;omega) (by omega) HE.out.size ?_);intro v9 w9 Bo AP hnil9)
  go_ret;rw [Nat.zero_add,List.nil_append]at Bo;exact⟨_,rfl,Bo,HE.out.grown AP fun k hk=>by simp only [Value.ownBlock,As4]at hk;omega⟩
end
structure Cx(B:Nat)(w:World)(A Bk F:Option Addr)(c d g:Nat)(m:MapZ)(fa:List Bs):Prop where
 pts:w.ownsRow B 24 2 (.slice A m.pts.length c) m.pts.length (flat (Ag m.pts))
 eds:w.ownsRow B 51 4 (.slice Bk m.eds.length d) m.eds.length (Ar m.eds)
 fac:w.ownsRow B 9 1 (.slice F m.nf g) m.nf (fa.map S)
 nf:m.nf=fa.length
theorem Cx.ext{B:Nat}{w w':World}{A Bk F:Option Addr}{c d g:Nat}{m:MapZ}{fa:List Bs}(h:Cx B w A Bk F c d g m fa)(hx:Ab w w'):Cx B w' A Bk F c d g m fa:=
 ⟨An h.pts hx,An h.eds hx,An h.fac hx,h.nf⟩
theorem Cx.low{B B':Nat}{w:World}{A Bk F:Option Addr}{c d g:Nat}{m:MapZ}{fa:List Bs}(h:Cx B w A Bk F c d g m fa)(hB:B'<=B):Cx B' w A Bk F c d g m fa:=
 ⟨Ef h.pts hB,Ef h.eds hB,Ef h.fac hB,h.nf⟩
theorem Cx.rd{B:Nat}{w:World}{A Bk F:Option Addr}{c d g:Nat}{m:MapZ}{fa:List Bs}(h:Cx B w A Bk F c d g m fa):Db m c d g/\Ad w A (flat (Ag m.pts))/\Ad w Bk (Ar m.eds)/\Ad w F (fa.map S)/\∀x,F=some x→x.block<w.heap.size:=by
 obtain⟨A1,c1,e1,r1,s1,t1⟩:=Ad.of_own' (by omega) h.pts;obtain⟨A2,c2,e2,r2,s2,t2⟩:=Ad.of_own' (by omega) h.eds;obtain⟨A3,c3,e3,r3,s3,t3⟩:=Ad.of_own' (by omega) h.fac;simp only [Value.slice.injEq,true_and]at e1 e2 e3;obtain⟨rfl,rfl⟩:=e1;obtain⟨rfl,rfl⟩:=e2;obtain⟨rfl,rfl⟩:=e3;exact⟨⟨s1,t1,s2,t2,s3,t3⟩,r1,r2,r3,fun x e=>by subst e;exact(h.fac.lt x.block rfl).2⟩
def AcR(w:World)(m:MapZ)(fa:List Bs)(e:Ending)(w':World):Prop:=
 ∃A B F c d g,e=.returned (AH A B F m c d g)/\Cx w.heap.size w' A B F c d g m fa/\Ab w w'
theorem DN{B:Nat}{e:TypeId}{s n:Nat}{v:Value}{xs:List Value}{w:World}(h:w.ownsRow B e s v n xs){bR:Nat}{cs:Array Value}{t:TypeId}(hb:w.heap[bR]?=some (.cells cs t))(hne:e≠t)(x y z:Value) :
  (((w.setCell ⟨bR,0,none⟩ x).setCell ⟨bR,1,none⟩ y).setCell ⟨bR,2,none⟩ z).ownsRow B e s v n xs:=
 AS h ((((Ak.refl (fun q=>q=bR) w).setCell (p:=⟨bR,0,none⟩) (.inl rfl) x).setCell (p:=⟨bR,1,none⟩) (.inl rfl) y).setCell (p:=⟨bR,2,none⟩) (.inl rfl) z) (fun q hq e0=>by subst e0;exact Av h hb hne hq)
theorem CQ{w0 w:World}(h:Ab w0 w){bR:Nat}(hb:w0.heap.size<=bR)(x y z:Value):Ab w0 (((w.setCell ⟨bR,0,none⟩ x).setCell ⟨bR,1,none⟩ y).setCell ⟨bR,2,none⟩ z):=
 ((h.setCell (p:=⟨bR,0,none⟩) hb x).setCell (p:=⟨bR,1,none⟩) hb y).setCell (p:=⟨bR,2,none⟩) hb z
theorem xF(m:MapZ)(fa:List Bs)(BS:m.nf=fa.length)(hpl:m.pts.length<=1000)(hel:m.eds.length<=1000)(C5:fa.length<=1000)(A B F:Option Addr)(c d g:Nat)(w:World)(hA:Ad w A (flat (Ag m.pts)))(hB:Ad w B (Ar m.eds))(hF:Ad w F (fa.map S)) :
  Calls Tryz.prog 42 #[AH A B F m c d g] w (AcR w m fa):=by
 have cp:=fun W (hx:Ab w W)=>wT m.pts A c W (hA.ext hx) (by omega);have ce:=fun W (hx:Ab w W)=>dT m.eds B d W (hB.ext hx) (by omega);have cs:=fun W (hx:Ab w W)=>dU fa F g W (hF.ext hx) (by omega);rw [←BS]at cs;have h1:=Asz w (.cells #[.slice A m.pts.length c,.slice B m.eds.length d,.slice F m.nf g] 35);have h2:=Asz (w.alloc (.cells #[.slice A m.pts.length c,.slice B m.eds.length d,.slice F m.nf g] 35)) (.cells #[.slice none 0 0,.slice none 0 0,.slice none 0 0] 35);rw [As7]at h2;have e2:=(Ab.refl (w.alloc (.cells #[.slice A m.pts.length c,.slice B m.eds.length d,.slice F m.nf g] 35))).alloc (.cells #[.slice none 0 0,.slice none 0 0,.slice none 0 0] 35);have hM:=(e2.block _ (Asy h1)).trans h1;have hE:=((Ab.refl w).alloc (.cells #[.slice A m.pts.length c,.slice B m.eds.length d,.slice F m.nf g] 35)).trans e2;have HN:=Asx BS;unfold AH;clear h1 e2 hA hB hF BS;go_enter Tryz.func42,Tryz.ntmps42
 go_upto_region 1 with fail
 generalize (w.alloc (.cells #[.slice A m.pts.length c,.slice B m.eds.length d,.slice F m.nf g] 35)).alloc (.cells #[.slice none 0 0,.slice none 0 0,.slice none 0 0] 35)=V at *;obtain⟨bm,AB⟩:=Asw w.heap.size;have Cp:w.heap.size<=bm+1:=(by omega);rw [←AB]at hM h2 ⊢;clear AB;have X:Ab V V:=Ab.refl V;have k1:V.cell? ⟨bm,0,none⟩=some (.slice A m.pts.length c):=Aa hM rfl;have k2:V.cell? ⟨bm,1,none⟩=some (.slice B m.eds.length d):=Aa hM rfl;have k3:V.cell? ⟨bm,2,none⟩=some (.slice F m.nf g):=Aa hM rfl;have SO:=fun (w':World) (h:Ab V w')=>(⟨h.cellS k1,h.cellS k2,h.cellS k3⟩:_/\_/\_)
 go_region_held3 (fun w'=>w'.cell? ⟨bm,0,none⟩=some (.slice A m.pts.length c)/\w'.cell? ⟨bm,1,none⟩=some (.slice B m.eds.length d)/\w'.cell? ⟨bm,2,none⟩=some (.slice F m.nf g))
  (first|exact SS|with_reducible exact SO _ X|with_reducible exact SO _ X.drew)
  (first
   | ((with_reducible refine(cp _ (hE.trans (by first | exact X | exact X.drew))).mono ?_);rintro e w3 ⟨v1,rfl,o1,xp⟩;obtain⟨A1,c1,rfl⟩:=Fb (by omega) o1;replace X:Ab V w3:=(by first | exact X.trans xp | exact X.drew.trans xp);first | (have SS:=(⟨(GF (show bm≠bm+1 by omega) (.slice A1 m.pts.length c1) (.slice A2 m.eds.length c2) (.slice A3 m.nf c3) 0).trans (X.cellS k1),(GF (show bm≠bm+1 by omega) (.slice A1 m.pts.length c1) (.slice A2 m.eds.length c2) (.slice A3 m.nf c3) 1).trans (X.cellS k2),(GF (show bm≠bm+1 by omega) (.slice A1 m.pts.length c1) (.slice A2 m.eds.length c2) (.slice A3 m.nf c3) 2).trans (X.cellS k3)⟩:_/\_/\_);have AE:=(X.block _ (Asy h2)).trans h2;have g0:=Aa (o:=0) AE rfl;have g1:=Aa (o:=1) AE rfl;have g2:=Aa (o:=2) AE rfl;have Jb:=Ah (o:=0) AE;have g4:=Ah (o:=1) AE;have g5:=Ah (o:=2) AE) | skip)
   | ((with_reducible refine(ce _ (hE.trans (by first | exact X | exact X.drew))).mono ?_);rintro e w4 ⟨v2,rfl,o2,xe⟩;obtain⟨A2,c2,rfl⟩:=Fb (by omega) o2;replace X:Ab V w4:=(by first | exact X.trans xe | exact X.drew.trans xe);first | (have SS:=(⟨(GF (show bm≠bm+1 by omega) (.slice A1 m.pts.length c1) (.slice A2 m.eds.length c2) (.slice A3 m.nf c3) 0).trans (X.cellS k1),(GF (show bm≠bm+1 by omega) (.slice A1 m.pts.length c1) (.slice A2 m.eds.length c2) (.slice A3 m.nf c3) 1).trans (X.cellS k2),(GF (show bm≠bm+1 by omega) (.slice A1 m.pts.length c1) (.slice A2 m.eds.length c2) (.slice A3 m.nf c3) 2).trans (X.cellS k3)⟩:_/\_/\_);have AE:=(X.block _ (Asy h2)).trans h2;have g0:=Aa (o:=0) AE rfl;have g1:=Aa (o:=1) AE rfl;have g2:=Aa (o:=2) AE rfl;have Jb:=Ah (o:=0) AE;have g4:=Ah (o:=1) AE;have g5:=Ah (o:=2) AE) | skip)
   | ((with_reducible refine(cs _ (hE.trans (by first | exact X | exact X.drew))).mono ?_);rintro e w5 ⟨v3,rfl,o3,xs⟩;obtain⟨A3,c3,rfl⟩:=Fb (by omega) o3;replace X:Ab V w5:=(by first | exact X.trans xs | exact X.drew.trans xs);first | (have SS:=(⟨(GF (show bm≠bm+1 by omega) (.slice A1 m.pts.length c1) (.slice A2 m.eds.length c2) (.slice A3 m.nf c3) 0).trans (X.cellS k1),(GF (show bm≠bm+1 by omega) (.slice A1 m.pts.length c1) (.slice A2 m.eds.length c2) (.slice A3 m.nf c3) 1).trans (X.cellS k2),(GF (show bm≠bm+1 by omega) (.slice A1 m.pts.length c1) (.slice A2 m.eds.length c2) (.slice A3 m.nf c3) 2).trans (X.cellS k3)⟩:_/\_/\_);have AE:=(X.block _ (Asy h2)).trans h2;have g0:=Aa (o:=0) AE rfl;have g1:=Aa (o:=1) AE rfl;have g2:=Aa (o:=2) AE rfl;have Jb:=Ah (o:=0) AE;have g4:=Ah (o:=1) AE;have g5:=Ah (o:=2) AE) | skip))
 have q1:=DN (Ef (An o1 (xe.trans xs)) (AsA hE.size (Ab.refl V).drew.size)) AE (by decide) (.slice A1 m.pts.length c1) (.slice A2 m.eds.length c2) (.slice A3 m.nf c3);have q2:=DN (Ef (An o2 xs) (AsA hE.size ((Ab.refl V).drew.trans xp).size)) AE (by decide) (.slice A1 m.pts.length c1) (.slice A2 m.eds.length c2) (.slice A3 m.nf c3);have q3:=DN (Ef o3 (AsA hE.size (((Ab.refl V).drew.trans xp).trans xe).size)) AE (by decide) (.slice A1 m.pts.length c1) (.slice A2 m.eds.length c2) (.slice A3 m.nf c3);have AA:=Dd (.slice A1 m.pts.length c1) (.slice A2 m.eds.length c2) (.slice A3 m.nf c3) AE;have t1:=Aa (o:=0) AA rfl;have t2:=Aa (o:=1) AA rfl;have t3:=Aa (o:=2) AA rfl;have Hu:=CQ (hE.trans X) Cp (.slice A1 m.pts.length c1) (.slice A2 m.eds.length c2) (.slice A3 m.nf c3);have Bf:=Asx (And.intro q1 (And.intro q2 (And.intro q3 Hu)));clear q1 q2 q3 Hu SS SO o1 o2 o3;go_wp2;refine bodyPost_ret (v:=.agg #[.slice A1 m.pts.length c1,.slice A2 m.eds.length c2,.slice A3 m.nf c3]) (by simp [results,Tryz.results42,go_sem,t1,t2,t3]) rfl ?_;exact⟨A1,A2,A3,c1,c2,c3,rfl,⟨Bf.out.1,Bf.out.2.1,Bf.out.2.2.1,HN.out⟩,Bf.out.2.2.2⟩
end Go.Proofs.YtnddllipjippnaaGreatDoor
