/- K37: ShKA2 ShKD. -/
import Derived.Test.YtgnejnampofhoaaGreatDoorK36
set_option maxRecDepth 100000
set_option maxHeartbeats 8000000
namespace Go.Proofs.YtgnejnampofhoaaGreatDoor
open Go.RowKit Kl Go.Sort Go.Shelf
theorem mH(l:List Pt):(flat (Ai l)).length=l.length*2:=by
 rw [flat_length];unfold Ai;rw [List.length_map]
theorem uq(l:List Pt)(A:Option Addr)(cc:Nat)(w:World)(hr:Ae w A (flat (Ai l)))(hlen:l.length<=100000) :
  Calls Tryz.prog 122 #[.slice A l.length cc] w (fun e w'=>∃v,e=.returned v/\w'.ownsRow w.heap.size 27 2 v l.length (flat (Ai l))/\Ac w w'):=by
 cases A with
 | none=>
  have h0:l = []:=by
   refine Classical.byContradiction fun h=>?_;obtain⟨b,o,e,_⟩:=hr.ad (by rw [mH];have:=List.length_pos_iff.2 h;omega)
   cases e
  subst h0;have hq:=fun W=>Lib.run_eql_slice_nil (P:=Tryz.prog) W 31 27 none 0 cc 0 0 Tryz.underlying31;clear hr;go_enter Tryz.func122,Tryz.ntmps122;go_wp2;go_ret;exact⟨_,rfl,⟨rfl,.inl ⟨rfl,rfl⟩⟩,Ac.refl _⟩
 | some a=>
  have hrow:=World.ownsRow_lit (base:=w.heap.size) (e:=27) (size:=2) w #[] 0 (Ajz _) (by unfold maxLen;omega) rfl;have hE:=(Ac.refl w).alloc (.cells #[] 27)
  have hnews:∀j u,(flat (Ai l))[j]?=some u→(w.alloc (.cells #[] 27)).cell? (a.add j)=some u:=by
   intro j u hu;obtain⟨hj,Ie⟩:=List.getElem?_eq_some_iff.1 hu;obtain⟨b,o,e,hc⟩:=(hr.ext hE).ad (by omega)
   cases e;rw [Addr.add_lit,←Ie];exact hc j hj
  have h1c:∀u∈flat (Ai l),u.oneCell'=true:=by intro u hu;obtain⟨j,hj,rfl⟩:=List.getElem_of_mem hu;obtain⟨s,hs⟩:=Ht hj;rw [hs];rfl
  obtain⟨i0,hi,hz0,hz1,hz2⟩:=info_parts Tryz.infoPt;have hq:=fun W=>Lib.run_eql_slice_nil (P:=Tryz.prog) W 31 27 (some a) l.length cc 0 0 Tryz.underlying31;clear hr;have HW:=Ajw hrow;have HE:=Ajw hE;have HN:=Ajw hnews;clear hrow hE hnews;go_enter Tryz.func122,Tryz.ntmps122
  go_wp2_with (at_builtin;go_loud (refine wpList_append_own _ rfl _ _ 31 rfl w.heap.size 27 i0 (.agg #[S [],S []]) 2 32 Tryz.underlying31 hi hz0 hz1 hz2 rfl (by omega) (.slice (some ⟨w.heap.size,0,none⟩) 0 0) 0 [] rfl HW.out a l.length cc (flat (Ai l)) rfl (mH l) HN.out h1c (by unfold maxLen;omega) (by omega) HE.out.size ?_);intro v9 w9 BS CO hnil9)
  go_ret;rw [Nat.zero_add,List.nil_append]at BS;exact⟨_,rfl,BS,HE.out.grown CO fun k hk=>by simp only [Value.ownBlock,Aj3]at hk;omega⟩
theorem kA(l:List EdZ)(A:Option Addr)(cc:Nat)(w:World)(hr:Ae w A (Au l))(hlen:l.length<=100000) :
  Calls Tryz.prog 123 #[.slice A l.length cc] w (fun e w'=>∃v,e=.returned v/\w'.ownsRow w.heap.size 118 4 v l.length (Au l)/\Ac w w'):=by
 cases A with
 | none=>
  have h0:l = []:=by
   refine Classical.byContradiction fun h=>?_;obtain⟨b,o,e,_⟩:=hr.ad (by rw [Qr];have:=List.length_pos_iff.2 h;omega)
   cases e
  subst h0;have hq:=fun W=>Lib.run_eql_slice_nil (P:=Tryz.prog) W 32 118 none 0 cc 0 0 Tryz.underlying32;clear hr;go_enter Tryz.func123,Tryz.ntmps123;go_wp2;go_ret;exact⟨_,rfl,⟨rfl,.inl ⟨rfl,rfl⟩⟩,Ac.refl _⟩
 | some a=>
  have hrow:=World.ownsRow_lit (base:=w.heap.size) (e:=118) (size:=4) w #[] 0 (Ajz _) (by unfold maxLen;omega) rfl;have hE:=(Ac.refl w).alloc (.cells #[] 118)
  have hnews:∀j u,(Au l)[j]?=some u→(w.alloc (.cells #[] 118)).cell? (a.add j)=some u:=by
   intro j u hu;obtain⟨hj,Ie⟩:=List.getElem?_eq_some_iff.1 hu;obtain⟨b,o,e,hc⟩:=(hr.ext hE).ad (by omega)
   cases e;rw [Addr.add_lit,←Ie];exact hc j hj
  have h1c:∀u∈Au l,u.oneCell'=true:=by intro u hu;obtain⟨j,hj,rfl⟩:=List.getElem_of_mem hu;obtain⟨s,hs⟩:=Hp hj;rw [hs];rfl
  obtain⟨i0,hi,hz0,hz1,hz2⟩:=info_parts Tryz.infoEd;have hq:=fun W=>Lib.run_eql_slice_nil (P:=Tryz.prog) W 32 118 (some a) l.length cc 0 0 Tryz.underlying32;clear hr;have HW:=Ajw hrow;have HE:=Ajw hE;have HN:=Ajw hnews;clear hrow hE hnews;go_enter Tryz.func123,Tryz.ntmps123
  go_wp2_with (at_builtin;go_loud (refine wpList_append_own _ rfl _ _ 32 rfl w.heap.size 118 i0 (.agg #[.int .i64 0,.int .i64 0,.int .i64 0,.int .i64 0]) 4 32 Tryz.underlying32 hi hz0 hz1 hz2 rfl (by omega) (.slice (some ⟨w.heap.size,0,none⟩) 0 0) 0 [] rfl HW.out a l.length cc (Au l) rfl (Qr l) HN.out h1c (by unfold maxLen;omega) (by omega) HE.out.size ?_);intro v9 w9 BS CO hnil9)
  go_ret;rw [Nat.zero_add,List.nil_append]at BS;exact⟨_,rfl,BS,HE.out.grown CO fun k hk=>by simp only [Value.ownBlock,Aj3]at hk;omega⟩
theorem kB(l:List Bs)(A:Option Addr)(cc:Nat)(w:World)(hr:Ae w A (l.map S))(hlen:l.length<=100000) :
  Calls Tryz.prog 23 #[.slice A l.length cc] w (fun e w'=>∃v,e=.returned v/\w'.ownsRow w.heap.size 9 1 v l.length (l.map S)/\Ac w w'):=by
 cases A with
 | none=>
  have h0:l = []:=by
   refine Classical.byContradiction fun h=>?_;obtain⟨b,o,e,_⟩:=hr.ad (by rw [List.length_map];have:=List.length_pos_iff.2 h;omega)
   cases e
  subst h0;have hq:=fun W=>Lib.run_eql_slice_nil (P:=Tryz.prog) W 33 9 none 0 cc 0 0 Tryz.underlying33;clear hr;go_enter Tryz.func23,Tryz.ntmps23;go_wp2;go_ret;exact⟨_,rfl,⟨rfl,.inl ⟨rfl,rfl⟩⟩,Ac.refl _⟩
 | some a=>
  have hrow:=World.ownsRow_lit (base:=w.heap.size) (e:=9) (size:=1) w #[] 0 (Ajz _) (by unfold maxLen;omega) rfl;have hE:=(Ac.refl w).alloc (.cells #[] 9)
  have hnews:∀j u,(l.map S)[j]?=some u→(w.alloc (.cells #[] 9)).cell? (a.add j)=some u:=by
   intro j u hu;obtain⟨hj,Ie⟩:=List.getElem?_eq_some_iff.1 hu;obtain⟨b,o,e,hc⟩:=(hr.ext hE).ad (by omega)
   cases e;rw [Addr.add_lit,←Ie];exact hc j hj
  have h1c:∀u∈l.map S,u.oneCell'=true:=by
   intro u hu;obtain⟨s,-,rfl⟩:=List.mem_map.1 hu
   rfl
  obtain⟨i0,hi,hz0,hz1,hz2⟩:=info_parts Tryz.infoStr;have hq:=fun W=>Lib.run_eql_slice_nil (P:=Tryz.prog) W 33 9 (some a) l.length cc 0 0 Tryz.underlying33;clear hr;have HW:=Ajw hrow;have HE:=Ajw hE;have HN:=Ajw hnews;clear hrow hE hnews;go_enter Tryz.func23,Tryz.ntmps23
  go_wp2_with (at_builtin;go_loud (refine wpList_append_own _ rfl _ _ 33 rfl w.heap.size 9 i0 (S []) 1 16 Tryz.underlying33 hi hz0 hz1 hz2 rfl (by omega) (.slice (some ⟨w.heap.size,0,none⟩) 0 0) 0 [] rfl HW.out a l.length cc (l.map S) rfl (by simp) HN.out h1c (by unfold maxLen;omega) (by omega) HE.out.size ?_);intro v9 w9 BS CO hnil9)
  go_ret;rw [Nat.zero_add,List.nil_append]at BS;exact⟨_,rfl,BS,HE.out.grown CO fun k hk=>by simp only [Value.ownBlock,Aj3]at hk;omega⟩
end Go.Proofs.YtgnejnampofhoaaGreatDoor
namespace Go.Proofs.YtgnejnampofhoaaGreatDoor
open Go.RowKit Kl
structure BY(B:Nat)(w:World)(A Bk F:Option Addr)(c d g:Nat)(m:MapZ)(fa:List Bs):Prop where
 pts:w.ownsRow B 27 2 (.slice A m.pts.length c) m.pts.length (flat (Ai m.pts))
 eds:w.ownsRow B 118 4 (.slice Bk m.eds.length d) m.eds.length (Au m.eds)
 fac:w.ownsRow B 9 1 (.slice F m.nf g) m.nf (fa.map S)
 nf:m.nf=fa.length
theorem BY.ext{B:Nat}{w w':World}{A Bk F:Option Addr}{c d g:Nat}{m:MapZ}{fa:List Bs}(h:BY B w A Bk F c d g m fa)(hx:Ac w w'):BY B w' A Bk F c d g m fa:=
 ⟨A9 h.pts hx,A9 h.eds hx,A9 h.fac hx,h.nf⟩
theorem BY.low{B B':Nat}{w:World}{A Bk F:Option Addr}{c d g:Nat}{m:MapZ}{fa:List Bs}(h:BY B w A Bk F c d g m fa)(hB:B'<=B):BY B' w A Bk F c d g m fa:=
 ⟨Ig h.pts hB,Ig h.eds hB,Ig h.fac hB,h.nf⟩
theorem BY.rd{B:Nat}{w:World}{A Bk F:Option Addr}{c d g:Nat}{m:MapZ}{fa:List Bs}(h:BY B w A Bk F c d g m fa):Bj m c d g/\Ae w A (flat (Ai m.pts))/\Ae w Bk (Au m.eds)/\Ae w F (fa.map S)/\∀x,F=some x→x.block<w.heap.size:=by
 obtain⟨A1,c1,e1,r1,s1,t1⟩:=Ae.of_own' (by omega) h.pts;obtain⟨A2,c2,e2,r2,s2,t2⟩:=Ae.of_own' (by omega) h.eds;obtain⟨A3,c3,e3,r3,s3,t3⟩:=Ae.of_own' (by omega) h.fac;simp only [Value.slice.injEq,true_and]at e1 e2 e3;obtain⟨rfl,rfl⟩:=e1;obtain⟨rfl,rfl⟩:=e2;obtain⟨rfl,rfl⟩:=e3;exact⟨⟨s1,t1,s2,t2,s3,t3⟩,r1,r2,r3,fun x e=>by subst e;exact(h.fac.lt x.block rfl).2⟩
def ep(w:World)(m:MapZ)(fa:List Bs)(e:Ending)(w':World):Prop:=
 ∃A B F c d g,e=.returned (As A B F m c d g)/\BY w.heap.size w' A B F c d g m fa/\Ac w w'
theorem Ds{B:Nat}{e:TypeId}{s n:Nat}{v:Value}{xs:List Value}{w:World}(h:w.ownsRow B e s v n xs){bR:Nat}{cs:Array Value}{t:TypeId}(hb:w.heap[bR]?=some (.cells cs t))(hne:e≠t)(x y z:Value) :
  (((w.setCell ⟨bR,0,none⟩ x).setCell ⟨bR,1,none⟩ y).setCell ⟨bR,2,none⟩ z).ownsRow B e s v n xs:=
 Bw h ((((Ax.refl (fun q=>q=bR) w).setCell (p:=⟨bR,0,none⟩) (.inl rfl) x).setCell (p:=⟨bR,1,none⟩) (.inl rfl) y).setCell (p:=⟨bR,2,none⟩) (.inl rfl) z) (fun q hq e0=>by subst e0;exact Bo h hb hne hq)
theorem BI{w0 w:World}(h:Ac w0 w){bR:Nat}(hb:w0.heap.size<=bR)(x y z:Value):Ac w0 (((w.setCell ⟨bR,0,none⟩ x).setCell ⟨bR,1,none⟩ y).setCell ⟨bR,2,none⟩ z):=
 ((h.setCell (p:=⟨bR,0,none⟩) hb x).setCell (p:=⟨bR,1,none⟩) hb y).setCell (p:=⟨bR,2,none⟩) hb z
theorem Xh(m:MapZ)(fa:List Bs)(Bn:m.nf=fa.length)(hpl:m.pts.length<=1000)(hel:m.eds.length<=1000)(CN:fa.length<=1000)(A B F:Option Addr)(c d g:Nat)(w:World)(hA:Ae w A (flat (Ai m.pts)))(hB:Ae w B (Au m.eds))(hF:Ae w F (fa.map S)) :
  Calls Tryz.prog 54 #[As A B F m c d g] w (ep w m fa):=by
 have cp:=fun W (hx:Ac w W)=>uq m.pts A c W (hA.ext hx) (by omega);have ce:=fun W (hx:Ac w W)=>kA m.eds B d W (hB.ext hx) (by omega);have cs:=fun W (hx:Ac w W)=>kB fa F g W (hF.ext hx) (by omega);rw [←Bn]at cs;have h1:=Ajy w (.cells #[.slice A m.pts.length c,.slice B m.eds.length d,.slice F m.nf g] 35);have h2:=Ajy (w.alloc (.cells #[.slice A m.pts.length c,.slice B m.eds.length d,.slice F m.nf g] 35)) (.cells #[.slice none 0 0,.slice none 0 0,.slice none 0 0] 35);rw [Aj6]at h2;have e2:=(Ac.refl (w.alloc (.cells #[.slice A m.pts.length c,.slice B m.eds.length d,.slice F m.nf g] 35))).alloc (.cells #[.slice none 0 0,.slice none 0 0,.slice none 0 0] 35);have hM:=(e2.block _ (Ajx h1)).trans h1;have hE:=((Ac.refl w).alloc (.cells #[.slice A m.pts.length c,.slice B m.eds.length d,.slice F m.nf g] 35)).trans e2;have HN:=Ajw Bn;unfold As;clear h1 e2 hA hB hF Bn;go_enter Tryz.func54,Tryz.ntmps54
 go_upto_region 1 with fail
 generalize (w.alloc (.cells #[.slice A m.pts.length c,.slice B m.eds.length d,.slice F m.nf g] 35)).alloc (.cells #[.slice none 0 0,.slice none 0 0,.slice none 0 0] 35)=V at *;obtain⟨bm,AD⟩:=Ajv w.heap.size;have CM:w.heap.size<=bm+1:=(by omega);rw [←AD]at hM h2 ⊢;clear AD;have X:Ac V V:=Ac.refl V;have k1:V.cell? ⟨bm,0,none⟩=some (.slice A m.pts.length c):=Aa hM rfl;have k2:V.cell? ⟨bm,1,none⟩=some (.slice B m.eds.length d):=Aa hM rfl;have k3:V.cell? ⟨bm,2,none⟩=some (.slice F m.nf g):=Aa hM rfl;have SO:=fun (w':World) (h:Ac V w')=>(⟨h.cellS k1,h.cellS k2,h.cellS k3⟩:_/\_/\_)
 go_region_held3 (fun w'=>w'.cell? ⟨bm,0,none⟩=some (.slice A m.pts.length c)/\w'.cell? ⟨bm,1,none⟩=some (.slice B m.eds.length d)/\w'.cell? ⟨bm,2,none⟩=some (.slice F m.nf g))
  (first|exact SS|with_reducible exact SO _ X|with_reducible exact SO _ X.drew)
  (first
   | ((with_reducible refine(cp _ (hE.trans (by first | exact X | exact X.drew))).mono ?_);rintro e w3 ⟨v1,rfl,o1,xp⟩;obtain⟨A1,c1,rfl⟩:=KQ (by omega) o1;replace X:Ac V w3:=(by first | exact X.trans xp | exact X.drew.trans xp);first | (have SS:=(⟨(FD (show bm≠bm+1 by omega) (.slice A1 m.pts.length c1) (.slice A2 m.eds.length c2) (.slice A3 m.nf c3) 0).trans (X.cellS k1),(FD (show bm≠bm+1 by omega) (.slice A1 m.pts.length c1) (.slice A2 m.eds.length c2) (.slice A3 m.nf c3) 1).trans (X.cellS k2),(FD (show bm≠bm+1 by omega) (.slice A1 m.pts.length c1) (.slice A2 m.eds.length c2) (.slice A3 m.nf c3) 2).trans (X.cellS k3)⟩:_/\_/\_);have AA:=(X.block _ (Ajx h2)).trans h2;have g0:=Aa (o:=0) AA rfl;have g1:=Aa (o:=1) AA rfl;have g2:=Aa (o:=2) AA rfl;have Gd:=Aj (o:=0) AA;have g4:=Aj (o:=1) AA;have g5:=Aj (o:=2) AA) | skip)
   | ((with_reducible refine(ce _ (hE.trans (by first | exact X | exact X.drew))).mono ?_);rintro e w4 ⟨v2,rfl,o2,xe⟩;obtain⟨A2,c2,rfl⟩:=KQ (by omega) o2;replace X:Ac V w4:=(by first | exact X.trans xe | exact X.drew.trans xe);first | (have SS:=(⟨(FD (show bm≠bm+1 by omega) (.slice A1 m.pts.length c1) (.slice A2 m.eds.length c2) (.slice A3 m.nf c3) 0).trans (X.cellS k1),(FD (show bm≠bm+1 by omega) (.slice A1 m.pts.length c1) (.slice A2 m.eds.length c2) (.slice A3 m.nf c3) 1).trans (X.cellS k2),(FD (show bm≠bm+1 by omega) (.slice A1 m.pts.length c1) (.slice A2 m.eds.length c2) (.slice A3 m.nf c3) 2).trans (X.cellS k3)⟩:_/\_/\_);have AA:=(X.block _ (Ajx h2)).trans h2;have g0:=Aa (o:=0) AA rfl;have g1:=Aa (o:=1) AA rfl;have g2:=Aa (o:=2) AA rfl;have Gd:=Aj (o:=0) AA;have g4:=Aj (o:=1) AA;have g5:=Aj (o:=2) AA) | skip)
   | ((with_reducible refine(cs _ (hE.trans (by first | exact X | exact X.drew))).mono ?_);rintro e w5 ⟨v3,rfl,o3,xs⟩;obtain⟨A3,c3,rfl⟩:=KQ (by omega) o3;replace X:Ac V w5:=(by first | exact X.trans xs | exact X.drew.trans xs);first | (have SS:=(⟨(FD (show bm≠bm+1 by omega) (.slice A1 m.pts.length c1) (.slice A2 m.eds.length c2) (.slice A3 m.nf c3) 0).trans (X.cellS k1),(FD (show bm≠bm+1 by omega) (.slice A1 m.pts.length c1) (.slice A2 m.eds.length c2) (.slice A3 m.nf c3) 1).trans (X.cellS k2),(FD (show bm≠bm+1 by omega) (.slice A1 m.pts.length c1) (.slice A2 m.eds.length c2) (.slice A3 m.nf c3) 2).trans (X.cellS k3)⟩:_/\_/\_);have AA:=(X.block _ (Ajx h2)).trans h2;have g0:=Aa (o:=0) AA rfl;have g1:=Aa (o:=1) AA rfl;have g2:=Aa (o:=2) AA rfl;have Gd:=Aj (o:=0) AA;have g4:=Aj (o:=1) AA;have g5:=Aj (o:=2) AA) | skip))
 have q1:=Ds (Ig (A9 o1 (xe.trans xs)) (Aj9 hE.size (Ac.refl V).drew.size)) AA (by decide) (.slice A1 m.pts.length c1) (.slice A2 m.eds.length c2) (.slice A3 m.nf c3);have q2:=Ds (Ig (A9 o2 xs) (Aj9 hE.size ((Ac.refl V).drew.trans xp).size)) AA (by decide) (.slice A1 m.pts.length c1) (.slice A2 m.eds.length c2) (.slice A3 m.nf c3);have q3:=Ds (Ig o3 (Aj9 hE.size (((Ac.refl V).drew.trans xp).trans xe).size)) AA (by decide) (.slice A1 m.pts.length c1) (.slice A2 m.eds.length c2) (.slice A3 m.nf c3);have A7:=Ck (.slice A1 m.pts.length c1) (.slice A2 m.eds.length c2) (.slice A3 m.nf c3) AA;have t1:=Aa (o:=0) A7 rfl;have t2:=Aa (o:=1) A7 rfl;have t3:=Aa (o:=2) A7 rfl;have Hx:=BI (hE.trans X) CM (.slice A1 m.pts.length c1) (.slice A2 m.eds.length c2) (.slice A3 m.nf c3);have BX:=Ajw (And.intro q1 (And.intro q2 (And.intro q3 Hx)));clear q1 q2 q3 Hx SS SO o1 o2 o3;go_wp2;refine bodyPost_ret (v:=.agg #[.slice A1 m.pts.length c1,.slice A2 m.eds.length c2,.slice A3 m.nf c3]) (by simp [results,Tryz.results54,go_sem,t1,t2,t3]) rfl ?_;exact⟨A1,A2,A3,c1,c2,c3,rfl,⟨BX.out.1,BX.out.2.1,BX.out.2.2.1,HN.out⟩,BX.out.2.2.2⟩
end Go.Proofs.YtgnejnampofhoaaGreatDoor
