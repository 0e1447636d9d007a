/- J43: KA2 KD. -/
import Derived.Test.YtnddllipjippnaaGreatDoorJ42
set_option maxRecDepth 100000
set_option maxHeartbeats 8000000
namespace Go.Proofs.YtnddllipjippnaaGreatDoor
open Go.RowKit Kl Go.Sort Go.Shelf
theorem uD(l:List Pt):(flat (Aq l)).length=l.length*2:=by
 rw [flat_length];unfold Aq;rw [List.length_map]
theorem AcD(l:List Pt)(A:Option Addr)(cc:Nat)(w:World)(hr:Af w A (flat (Aq l)))(hlen:l.length<=100000) :
  Calls Tryz.prog 15 #[.slice A l.length cc] w (fun e w'=>∃v,e=.returned v/\w'.ownsRow w.heap.size 24 2 v l.length (flat (Aq l))/\Ab w w'):=by
 cases A with
 | none=>
  have h0:l = []:=by
   refine Classical.byContradiction fun h=>?_;obtain⟨b,o,e,_⟩:=hr.ad (by rw [uD];have:=List.length_pos_iff.2 h;omega)
   cases e
  subst h0;have hq:=fun W=>Lib.run_eql_slice_nil (P:=Tryz.prog) W 31 24 none 0 cc 0 0 Tryz.underlying31;clear hr;go_enter Tryz.func15,Tryz.ntmps15;go_wp2;go_ret;exact⟨_,rfl,⟨rfl,.inl ⟨rfl,rfl⟩⟩,Ab.refl _⟩
 | some a=>
  have hrow:=World.ownsRow_lit (base:=w.heap.size) (e:=24) (size:=2) w #[] 0 (Ao7 _) (by unfold maxLen;omega) rfl;have hE:=(Ab.refl w).alloc (.cells #[] 24)
  have hnews:∀j u,(flat (Aq l))[j]?=some u→(w.alloc (.cells #[] 24)).cell? (a.add j)=some u:=by
   intro j u hu;obtain⟨hj,Kp⟩:=List.getElem?_eq_some_iff.1 hu;obtain⟨b,o,e,hc⟩:=(hr.ext hE).ad (by omega)
   cases e;rw [Addr.add_lit,←Kp];exact hc j hj
  have h1c:∀u∈flat (Aq l),u.oneCell'=true:=by intro u hu;obtain⟨j,hj,rfl⟩:=List.getElem_of_mem hu;obtain⟨s,hs⟩:=On hj;rw [hs];rfl
  obtain⟨i0,hi,hz0,hz1,hz2⟩:=info_parts Tryz.infoPt;have hq:=fun W=>Lib.run_eql_slice_nil (P:=Tryz.prog) W 31 24 (some a) l.length cc 0 0 Tryz.underlying31;clear hr;have HW:=Ao4 hrow;have HE:=Ao4 hE;have HN:=Ao4 hnews;clear hrow hE hnews;go_enter Tryz.func15,Tryz.ntmps15
  go_wp2_with (at_builtin;go_loud (refine wpList_append_own _ rfl _ _ 31 rfl w.heap.size 24 i0 (.agg #[S [],S []]) 2 32 Tryz.underlying31 hi hz0 hz1 hz2 rfl (by omega) (.slice (some ⟨w.heap.size,0,none⟩) 0 0) 0 [] rfl HW.out a l.length cc (flat (Aq l)) rfl (uD l) HN.out h1c (by unfold maxLen;omega) (by omega) HE.out.size ?_);intro v9 w9 CE DW hnil9)
  go_ret;rw [Nat.zero_add,List.nil_append]at CE;exact⟨_,rfl,CE,HE.out.grown DW fun k hk=>by simp only [Value.ownBlock,AoB]at hk;omega⟩
theorem rL(l:List EdZ)(A:Option Addr)(cc:Nat)(w:World)(hr:Af w A (A9 l))(hlen:l.length<=100000) :
  Calls Tryz.prog 16 #[.slice A l.length cc] w (fun e w'=>∃v,e=.returned v/\w'.ownsRow w.heap.size 51 4 v l.length (A9 l)/\Ab w w'):=by
 cases A with
 | none=>
  have h0:l = []:=by
   refine Classical.byContradiction fun h=>?_;obtain⟨b,o,e,_⟩:=hr.ad (by rw [Su];have:=List.length_pos_iff.2 h;omega)
   cases e
  subst h0;have hq:=fun W=>Lib.run_eql_slice_nil (P:=Tryz.prog) W 32 51 none 0 cc 0 0 Tryz.underlying32;clear hr;go_enter Tryz.func16,Tryz.ntmps16;go_wp2;go_ret;exact⟨_,rfl,⟨rfl,.inl ⟨rfl,rfl⟩⟩,Ab.refl _⟩
 | some a=>
  have hrow:=World.ownsRow_lit (base:=w.heap.size) (e:=51) (size:=4) w #[] 0 (Ao7 _) (by unfold maxLen;omega) rfl;have hE:=(Ab.refl w).alloc (.cells #[] 51)
  have hnews:∀j u,(A9 l)[j]?=some u→(w.alloc (.cells #[] 51)).cell? (a.add j)=some u:=by
   intro j u hu;obtain⟨hj,Kp⟩:=List.getElem?_eq_some_iff.1 hu;obtain⟨b,o,e,hc⟩:=(hr.ext hE).ad (by omega)
   cases e;rw [Addr.add_lit,←Kp];exact hc j hj
  have h1c:∀u∈A9 l,u.oneCell'=true:=by intro u hu;obtain⟨j,hj,rfl⟩:=List.getElem_of_mem hu;obtain⟨s,hs⟩:=Ol hj;rw [hs];rfl
  obtain⟨i0,hi,hz0,hz1,hz2⟩:=info_parts Tryz.infoEd;have hq:=fun W=>Lib.run_eql_slice_nil (P:=Tryz.prog) W 32 51 (some a) l.length cc 0 0 Tryz.underlying32;clear hr;have HW:=Ao4 hrow;have HE:=Ao4 hE;have HN:=Ao4 hnews;clear hrow hE hnews;go_enter Tryz.func16,Tryz.ntmps16
  go_wp2_with (at_builtin;go_loud (refine wpList_append_own _ rfl _ _ 32 rfl w.heap.size 51 i0 (.agg #[.int .i64 0,.int .i64 0,.int .i64 0,.int .i64 0]) 4 32 Tryz.underlying32 hi hz0 hz1 hz2 rfl (by omega) (.slice (some ⟨w.heap.size,0,none⟩) 0 0) 0 [] rfl HW.out a l.length cc (A9 l) rfl (Su l) HN.out h1c (by unfold maxLen;omega) (by omega) HE.out.size ?_);intro v9 w9 CE DW hnil9)
  go_ret;rw [Nat.zero_add,List.nil_append]at CE;exact⟨_,rfl,CE,HE.out.grown DW fun k hk=>by simp only [Value.ownBlock,AoB]at hk;omega⟩
theorem rM(l:List Bs)(A:Option Addr)(cc:Nat)(w:World)(hr:Af w A (l.map S))(hlen:l.length<=100000) :
  Calls Tryz.prog 17 #[.slice A l.length cc] w (fun e w'=>∃v,e=.returned v/\w'.ownsRow w.heap.size 9 1 v l.length (l.map S)/\Ab w w'):=by
 cases A with
 | none=>
  have h0:l = []:=by
   refine Classical.byContradiction fun h=>?_;obtain⟨b,o,e,_⟩:=hr.ad (by rw [List.length_map];have:=List.length_pos_iff.2 h;omega)
   cases e
  subst h0;have hq:=fun W=>Lib.run_eql_slice_nil (P:=Tryz.prog) W 33 9 none 0 cc 0 0 Tryz.underlying33;clear hr;go_enter Tryz.func17,Tryz.ntmps17;go_wp2;go_ret;exact⟨_,rfl,⟨rfl,.inl ⟨rfl,rfl⟩⟩,Ab.refl _⟩
 | some a=>
  have hrow:=World.ownsRow_lit (base:=w.heap.size) (e:=9) (size:=1) w #[] 0 (Ao7 _) (by unfold maxLen;omega) rfl;have hE:=(Ab.refl w).alloc (.cells #[] 9)
  have hnews:∀j u,(l.map S)[j]?=some u→(w.alloc (.cells #[] 9)).cell? (a.add j)=some u:=by
   intro j u hu;obtain⟨hj,Kp⟩:=List.getElem?_eq_some_iff.1 hu;obtain⟨b,o,e,hc⟩:=(hr.ext hE).ad (by omega)
   cases e;rw [Addr.add_lit,←Kp];exact hc j hj
  have h1c:∀u∈l.map S,u.oneCell'=true:=by
   intro u hu;obtain⟨s,-,rfl⟩:=List.mem_map.1 hu
   rfl
  obtain⟨i0,hi,hz0,hz1,hz2⟩:=info_parts Tryz.infoStr;have hq:=fun W=>Lib.run_eql_slice_nil (P:=Tryz.prog) W 33 9 (some a) l.length cc 0 0 Tryz.underlying33;clear hr;have HW:=Ao4 hrow;have HE:=Ao4 hE;have HN:=Ao4 hnews;clear hrow hE hnews;go_enter Tryz.func17,Tryz.ntmps17
  go_wp2_with (at_builtin;go_loud (refine wpList_append_own _ rfl _ _ 33 rfl w.heap.size 9 i0 (S []) 1 16 Tryz.underlying33 hi hz0 hz1 hz2 rfl (by omega) (.slice (some ⟨w.heap.size,0,none⟩) 0 0) 0 [] rfl HW.out a l.length cc (l.map S) rfl (by simp) HN.out h1c (by unfold maxLen;omega) (by omega) HE.out.size ?_);intro v9 w9 CE DW hnil9)
  go_ret;rw [Nat.zero_add,List.nil_append]at CE;exact⟨_,rfl,CE,HE.out.grown DW fun k hk=>by simp only [Value.ownBlock,AoB]at hk;omega⟩
end Go.Proofs.YtnddllipjippnaaGreatDoor
namespace Go.Proofs.YtnddllipjippnaaGreatDoor
open Go.RowKit Kl
structure C7(B:Nat)(w:World)(A Bk F:Option Addr)(c d g:Nat)(m:MapZ)(fa:List Bs):Prop where
 pts:w.ownsRow B 24 2 (.slice A m.pts.length c) m.pts.length (flat (Aq m.pts))
 eds:w.ownsRow B 51 4 (.slice Bk m.eds.length d) m.eds.length (A9 m.eds)
 fac:w.ownsRow B 9 1 (.slice F m.nf g) m.nf (fa.map S)
 nf:m.nf=fa.length
theorem C7.ext{B:Nat}{w w':World}{A Bk F:Option Addr}{c d g:Nat}{m:MapZ}{fa:List Bs}(h:C7 B w A Bk F c d g m fa)(hx:Ab w w'):C7 B w' A Bk F c d g m fa:=
 ⟨AL h.pts hx,AL h.eds hx,AL h.fac hx,h.nf⟩
theorem C7.low{B B':Nat}{w:World}{A Bk F:Option Addr}{c d g:Nat}{m:MapZ}{fa:List Bs}(h:C7 B w A Bk F c d g m fa)(hB:B'<=B):C7 B' w A Bk F c d g m fa:=
 ⟨IK h.pts hB,IK h.eds hB,IK h.fac hB,h.nf⟩
theorem C7.rd{B:Nat}{w:World}{A Bk F:Option Addr}{c d g:Nat}{m:MapZ}{fa:List Bs}(h:C7 B w A Bk F c d g m fa):CY m c d g/\Af w A (flat (Aq m.pts))/\Af w Bk (A9 m.eds)/\Af w F (fa.map S)/\∀x,F=some x→x.block<w.heap.size:=by
 obtain⟨A1,c1,e1,r1,s1,t1⟩:=Af.of_own' (by omega) h.pts;obtain⟨A2,c2,e2,r2,s2,t2⟩:=Af.of_own' (by omega) h.eds;obtain⟨A3,c3,e3,r3,s3,t3⟩:=Af.of_own' (by omega) h.fac;simp only [Value.slice.injEq,true_and]at e1 e2 e3;obtain⟨rfl,rfl⟩:=e1;obtain⟨rfl,rfl⟩:=e2;obtain⟨rfl,rfl⟩:=e3;exact⟨⟨s1,t1,s2,t2,s3,t3⟩,r1,r2,r3,fun x e=>by subst e;exact(h.fac.lt x.block rfl).2⟩
def xt(w:World)(m:MapZ)(fa:List Bs)(e:Ending)(w':World):Prop:=
 ∃A B F c d g,e=.returned (AO A B F m c d g)/\C7 w.heap.size w' A B F c d g m fa/\Ab w w'
theorem Eu{B:Nat}{e:TypeId}{s n:Nat}{v:Value}{xs:List Value}{w:World}(h:w.ownsRow B e s v n xs){bR:Nat}{cs:Array Value}{t:TypeId}(hb:w.heap[bR]?=some (.cells cs t))(hne:e≠t)(x y z:Value) :
  (((w.setCell ⟨bR,0,none⟩ x).setCell ⟨bR,1,none⟩ y).setCell ⟨bR,2,none⟩ z).ownsRow B e s v n xs:=
 Cg h ((((AD.refl (fun q=>q=bR) w).setCell (p:=⟨bR,0,none⟩) (.inl rfl) x).setCell (p:=⟨bR,1,none⟩) (.inl rfl) y).setCell (p:=⟨bR,2,none⟩) (.inl rfl) z) (fun q hq e0=>by subst e0;exact BQ h hb hne hq)
theorem CL{w0 w:World}(h:Ab w0 w){bR:Nat}(hb:w0.heap.size<=bR)(x y z:Value):Ab w0 (((w.setCell ⟨bR,0,none⟩ x).setCell ⟨bR,1,none⟩ y).setCell ⟨bR,2,none⟩ z):=
 ((h.setCell (p:=⟨bR,0,none⟩) hb x).setCell (p:=⟨bR,1,none⟩) hb y).setCell (p:=⟨bR,2,none⟩) hb z
theorem rQ(m:MapZ)(fa:List Bs)(Cr:m.nf=fa.length)(hpl:m.pts.length<=1000)(hel:m.eds.length<=1000)(D6:fa.length<=1000)(A B F:Option Addr)(c d g:Nat)(w:World)(hA:Af w A (flat (Aq m.pts)))(hB:Af w B (A9 m.eds))(hF:Af w F (fa.map S)) :
  Calls Tryz.prog 42 #[AO A B F m c d g] w (xt w m fa):=by
 have cp:=fun W (hx:Ab w W)=>AcD m.pts A c W (hA.ext hx) (by omega);have ce:=fun W (hx:Ab w W)=>rL m.eds B d W (hB.ext hx) (by omega);have cs:=fun W (hx:Ab w W)=>rM fa F g W (hF.ext hx) (by omega);rw [←Cr]at cs;have h1:=Ao6 w (.cells #[.slice A m.pts.length c,.slice B m.eds.length d,.slice F m.nf g] 35);have h2:=Ao6 (w.alloc (.cells #[.slice A m.pts.length c,.slice B m.eds.length d,.slice F m.nf g] 35)) (.cells #[.slice none 0 0,.slice none 0 0,.slice none 0 0] 35);rw [AoE]at h2;have e2:=(Ab.refl (w.alloc (.cells #[.slice A m.pts.length c,.slice B m.eds.length d,.slice F m.nf g] 35))).alloc (.cells #[.slice none 0 0,.slice none 0 0,.slice none 0 0] 35);have hM:=(e2.block _ (Ao5 h1)).trans h1;have hE:=((Ab.refl w).alloc (.cells #[.slice A m.pts.length c,.slice B m.eds.length d,.slice F m.nf g] 35)).trans e2;have HN:=Ao4 Cr;unfold AO;clear h1 e2 hA hB hF Cr;go_enter Tryz.func42,Tryz.ntmps42
 go_upto_region 1 with fail
 generalize (w.alloc (.cells #[.slice A m.pts.length c,.slice B m.eds.length d,.slice F m.nf g] 35)).alloc (.cells #[.slice none 0 0,.slice none 0 0,.slice none 0 0] 35)=V at *;obtain⟨bm,AW⟩:=Ao3 w.heap.size;have Dd:w.heap.size<=bm+1:=(by omega);rw [←AW]at hM h2 ⊢;clear AW;have X:Ab V V:=Ab.refl V;have k1:V.cell? ⟨bm,0,none⟩=some (.slice A m.pts.length c):=Aa hM rfl;have k2:V.cell? ⟨bm,1,none⟩=some (.slice B m.eds.length d):=Aa hM rfl;have k3:V.cell? ⟨bm,2,none⟩=some (.slice F m.nf g):=Aa hM rfl;have SO:=fun (w':World) (h:Ab V w')=>(⟨h.cellS k1,h.cellS k2,h.cellS k3⟩:_/\_/\_)
 go_region_held3 (fun w'=>w'.cell? ⟨bm,0,none⟩=some (.slice A m.pts.length c)/\w'.cell? ⟨bm,1,none⟩=some (.slice B m.eds.length d)/\w'.cell? ⟨bm,2,none⟩=some (.slice F m.nf g))
  (first|exact SS|with_reducible exact SO _ X|with_reducible exact SO _ X.drew)
  (first
   | ((with_reducible refine(cp _ (hE.trans (by first | exact X | exact X.drew))).mono ?_);rintro e w3 ⟨v1,rfl,o1,xp⟩;obtain⟨A1,c1,rfl⟩:=LY (by omega) o1;replace X:Ab V w3:=(by first | exact X.trans xp | exact X.drew.trans xp);first | (have SS:=(⟨(Gr (show bm≠bm+1 by omega) (.slice A1 m.pts.length c1) (.slice A2 m.eds.length c2) (.slice A3 m.nf c3) 0).trans (X.cellS k1),(Gr (show bm≠bm+1 by omega) (.slice A1 m.pts.length c1) (.slice A2 m.eds.length c2) (.slice A3 m.nf c3) 1).trans (X.cellS k2),(Gr (show bm≠bm+1 by omega) (.slice A1 m.pts.length c1) (.slice A2 m.eds.length c2) (.slice A3 m.nf c3) 2).trans (X.cellS k3)⟩:_/\_/\_);have AK:=(X.block _ (Ao5 h2)).trans h2;have g0:=Aa (o:=0) AK rfl;have g1:=Aa (o:=1) AK rfl;have g2:=Aa (o:=2) AK rfl;have I4:=Aj (o:=0) AK;have g4:=Aj (o:=1) AK;have g5:=Aj (o:=2) AK) | skip)
   | ((with_reducible refine(ce _ (hE.trans (by first | exact X | exact X.drew))).mono ?_);rintro e w4 ⟨v2,rfl,o2,xe⟩;obtain⟨A2,c2,rfl⟩:=LY (by omega) o2;replace X:Ab V w4:=(by first | exact X.trans xe | exact X.drew.trans xe);first | (have SS:=(⟨(Gr (show bm≠bm+1 by omega) (.slice A1 m.pts.length c1) (.slice A2 m.eds.length c2) (.slice A3 m.nf c3) 0).trans (X.cellS k1),(Gr (show bm≠bm+1 by omega) (.slice A1 m.pts.length c1) (.slice A2 m.eds.length c2) (.slice A3 m.nf c3) 1).trans (X.cellS k2),(Gr (show bm≠bm+1 by omega) (.slice A1 m.pts.length c1) (.slice A2 m.eds.length c2) (.slice A3 m.nf c3) 2).trans (X.cellS k3)⟩:_/\_/\_);have AK:=(X.block _ (Ao5 h2)).trans h2;have g0:=Aa (o:=0) AK rfl;have g1:=Aa (o:=1) AK rfl;have g2:=Aa (o:=2) AK rfl;have I4:=Aj (o:=0) AK;have g4:=Aj (o:=1) AK;have g5:=Aj (o:=2) AK) | skip)
   | ((with_reducible refine(cs _ (hE.trans (by first | exact X | exact X.drew))).mono ?_);rintro e w5 ⟨v3,rfl,o3,xs⟩;obtain⟨A3,c3,rfl⟩:=LY (by omega) o3;replace X:Ab V w5:=(by first | exact X.trans xs | exact X.drew.trans xs);first | (have SS:=(⟨(Gr (show bm≠bm+1 by omega) (.slice A1 m.pts.length c1) (.slice A2 m.eds.length c2) (.slice A3 m.nf c3) 0).trans (X.cellS k1),(Gr (show bm≠bm+1 by omega) (.slice A1 m.pts.length c1) (.slice A2 m.eds.length c2) (.slice A3 m.nf c3) 1).trans (X.cellS k2),(Gr (show bm≠bm+1 by omega) (.slice A1 m.pts.length c1) (.slice A2 m.eds.length c2) (.slice A3 m.nf c3) 2).trans (X.cellS k3)⟩:_/\_/\_);have AK:=(X.block _ (Ao5 h2)).trans h2;have g0:=Aa (o:=0) AK rfl;have g1:=Aa (o:=1) AK rfl;have g2:=Aa (o:=2) AK rfl;have I4:=Aj (o:=0) AK;have g4:=Aj (o:=1) AK;have g5:=Aj (o:=2) AK) | skip))
 have q1:=Eu (IK (AL o1 (xe.trans xs)) (AoH hE.size (Ab.refl V).drew.size)) AK (by decide) (.slice A1 m.pts.length c1) (.slice A2 m.eds.length c2) (.slice A3 m.nf c3);have q2:=Eu (IK (AL o2 xs) (AoH hE.size ((Ab.refl V).drew.trans xp).size)) AK (by decide) (.slice A1 m.pts.length c1) (.slice A2 m.eds.length c2) (.slice A3 m.nf c3);have q3:=Eu (IK o3 (AoH hE.size (((Ab.refl V).drew.trans xp).trans xe).size)) AK (by decide) (.slice A1 m.pts.length c1) (.slice A2 m.eds.length c2) (.slice A3 m.nf c3);have Bd:=DT (.slice A1 m.pts.length c1) (.slice A2 m.eds.length c2) (.slice A3 m.nf c3) AK;have t1:=Aa (o:=0) Bd rfl;have t2:=Aa (o:=1) Bd rfl;have t3:=Aa (o:=2) Bd rfl;have Jn:=CL (hE.trans X) Dd (.slice A1 m.pts.length c1) (.slice A2 m.eds.length c2) (.slice A3 m.nf c3);have CH:=Ao4 (And.intro q1 (And.intro q2 (And.intro q3 Jn)));clear q1 q2 q3 Jn SS SO o1 o2 o3;go_wp2;refine bodyPost_ret (v:=.agg #[.slice A1 m.pts.length c1,.slice A2 m.eds.length c2,.slice A3 m.nf c3]) (by simp [results,Tryz.results42,go_sem,t1,t2,t3]) rfl ?_;exact⟨A1,A2,A3,c1,c2,c3,rfl,⟨CH.out.1,CH.out.2.1,CH.out.2.2.1,HN.out⟩,CH.out.2.2.2⟩
end Go.Proofs.YtnddllipjippnaaGreatDoor
