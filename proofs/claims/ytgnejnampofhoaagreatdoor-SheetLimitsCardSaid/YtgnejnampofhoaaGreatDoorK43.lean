/- K43: ShKI5. -/
import Derived.Test.YtgnejnampofhoaaGreatDoorK40
import Derived.Test.YtgnejnampofhoaaGreatDoorK41
import Derived.Test.YtgnejnampofhoaaGreatDoorK42
set_option maxRecDepth 100000
set_option maxHeartbeats 16000000
namespace Go.Proofs.YtgnejnampofhoaaGreatDoor
open Go.RowKit Kl
theorem Sb{q:Rat}(h1:(D q.num.natAbs).length<=200)(h2:(D q.den).length<=200):CH (R q):=⟨q,rfl,h1,h2⟩
theorem AfW(w:World)(hw:Ao w):Calls Tryz.prog 91 #[Fc 2 ⟨0,0⟩ ⟨4,4⟩ [98]] w (AK 0 w):=by
 have o0:CH (R 0):=Sb (by decide +kernel) (by decide +kernel);have o4:CH (R 4):=Sb (by decide +kernel) (by decide +kernel);have h:=AfZ (R 0,R 0) (R 4,R 4) ([],[]) [98] ⟨by decide +kernel,by decide +kernel,by decide +kernel,by decide +kernel,by decide +kernel,by decide +kernel,by decide +kernel⟩ w hw
 have e:JQ 2 (R 0,R 0) (R 4,R 4) ([],[]) [98]=0:=by rw [jY];have p0:Cp (R 0,R 0)=true:=(Mx _).2 ⟨o0,o0⟩;have p4:Cp (R 4,R 4)=true:=(Mx _).2 ⟨o4,o4⟩;have hn:nameB [98]=true:=(by decide);simp [p0,p4,hn,Dm]
 rw [e]at h;exact h
theorem AfU(w:World)(hw:Ao w):Calls Tryz.prog 91 #[Fc 3 ⟨3,1⟩ ⟨1,3⟩ []] w (AK 0 w):=by
 have o1:CH (R 1):=Sb (by decide +kernel) (by decide +kernel);have o3:CH (R 3):=Sb (by decide +kernel) (by decide +kernel);have h:=Aga (R 3,R 1) (R 1,R 3) ([],[]) [] ⟨by decide +kernel,by decide +kernel,by decide +kernel,by decide +kernel,by decide +kernel,by decide +kernel,by decide +kernel⟩ w hw
 have e:JQ 3 (R 3,R 1) (R 1,R 3) ([],[]) []=0:=by rw [jZ];have p0:Cp (R 3,R 1)=true:=(Mx _).2 ⟨o3,o1⟩;have p4:Cp (R 1,R 3)=true:=(Mx _).2 ⟨o1,o3⟩;simp [p0,p4,Dm]
 rw [e]at h;exact h
theorem bH:∀p∈Ah.pts,Cz p:=(JP Od).2
theorem Aer:∀p∈c46.pts,Cz p:=(JP jI).2
theorem Xc:El Ah=0:=(JP Od).1
theorem uh:El c46=0:=(JP jI).1
theorem om(A B F:Option Addr)(c d g:Nat)(w:World)(hw:Ao w)(An:Bj Ah c d g)(hA:Ae w A (flat (Ai Ah.pts)))(hB:Ae w B (Au Ah.eds))(hF:Ae w F ([[97]].map S)) :
  Calls Tryz.prog 44 #[As A B F Ah c d g,Fc 2 ⟨0,0⟩ ⟨4,4⟩ [98]] w (JF w c46 [[98],[97]]):=by
 have h:=pq Ah KX [[97]] [[97],[98]] rfl bH Xc (by decide) (by decide) (by decide) jJ rfl (by decide) ⟨0,0⟩ ⟨4,4⟩ [98] w hw (fun W hx=>AfW W (hw.ext hx))
  (fun V W A B F c d g hx hx2 ho=>split_c [98] A B F c d g (hw.ext hx) hx2 (Ajz _) hx2.size ho) A B F c d g An hA hB hF
 rw [jK.1,jK.2]at h;exact h
theorem nz(A B F:Option Addr)(c d g:Nat)(w:World)(hw:Ao w)(An:Bj c46 c d g)(hA:Ae w A (flat (Ai c46.pts)))(hB:Ae w B (Au c46.eds))(hF:Ae w F ([[98],[97]].map S)) :
  Calls Tryz.prog 44 #[As A B F c46 c d g,Fc 3 ⟨3,1⟩ ⟨1,3⟩ []] w (JF w Ah [[97]]):=by
 have h:=pu c46 Ah [[98],[97]] [[97]] rfl Aer uh (by decide) (by decide) (by decide) Od rfl (by decide) ⟨3,1⟩ ⟨1,3⟩ [] w hw (fun W hx=>AfU W (hw.ext hx))
  (fun V W A B F c d g hx hx2 ho=>(AcO [98] [97] A B F c d g ((hw.ext hx).ext hx2) (Ac.refl W) hx2.size ho).mono fun e w' ⟨A',B',F',c',d',g',h1,h2,h3⟩=>⟨A',B',F',c',d',g',h1,h2,hx2.trans h3,fun j cs hj=>(h3.block _ (Ajx hj)).trans hj⟩) A B F c d g An hA hB hF
 rw [Oe.1,Oe.2]at h;exact h
theorem Qf(x y:Int)(hx:x.natAbs<10000000)(hy:y.natAbs<10000000)(p q:Rat)(e1:(x:Rat)=p)(e2:(y:Rat)=q)(w:World)(hw:Ao w):Calls Tryz.prog 9 #[.int .i64 x,.int .i64 y] w (Bp (.agg #[S (R p),S (R q)]) w):=by
 have h1:=Qe x y hx hy w hw;unfold Ak at h1;rw [e1,e2]at h1;exact h1
def VD(W0:World)(v7:Value)(m:MapZ)(fa:List Bs)(wx:World):Prop:=
 ∃(b:Nat) (A B F:Option Addr) (c d g:Nat),v7=.pointer (some ⟨b,0,none⟩)/\wx.heap[b]?=some (.cells #[.slice A m.pts.length c,.slice B m.eds.length d,.slice F m.nf g] 35)/\Bj m c d g/\Ae wx A (flat (Ai m.pts))/\Ae wx B (Au m.eds)/\Ae wx F (fa.map S)/\Ac W0 wx
theorem qp{W0 w:World}{b:Nat}{m:MapZ}{fa:List Bs}{A B F:Option Addr}{c d g:Nat}(hb:w.heap[b]?=some (.cells #[.slice none 0 0,.slice none 0 0,.slice none 0 0] 35))(h0:W0.heap.size<=b)(hc:Bj m c d g)(t1:Ae w A (flat (Ai m.pts)))(t2:Ae w B (Au m.eds))(t3:Ae w F (fa.map S))(X:Ac W0 w) :
  VD W0 (.pointer (some ⟨b,0,none⟩)) m fa (((w.setCell ⟨b,0,none⟩ (.slice A m.pts.length c)).setCell ⟨b,1,none⟩ (.slice B m.eds.length d)).setCell ⟨b,2,none⟩ (.slice F m.nf g)):=by
 have Bg:=(((Ax.refl (fun q=>q=b) w).setCell (p:=⟨b,0,none⟩) (.inl rfl) (.slice A m.pts.length c)).setCell (p:=⟨b,1,none⟩) (.inl rfl) (.slice B m.eds.length d)).setCell (p:=⟨b,2,none⟩) (.inl rfl) (.slice F m.nf g);exact⟨b,A,B,F,c,d,g,rfl,Ck _ _ _ hb,hc,BV t1 Bg hb (fun j hj=>by obtain⟨s,h⟩:=Ht hj;rw [h];simp),BV t2 Bg hb (fun j hj=>by obtain⟨s,h⟩:=Hp hj;rw [h];simp),BV t3 Bg hb (fun j hj=>by rw [List.getElem_map];simp),BI X h0 _ _ _⟩
theorem qo{W0 w:World}{m:MapZ}{fa:List Bs}{A B F:Option Addr}{c d g:Nat}(hc:Bj m c d g)(t1:Ae w A (flat (Ai m.pts)))(t2:Ae w B (Au m.eds))(t3:Ae w F (fa.map S))(X:Ac W0 w) :
  VD W0 (.pointer (some ⟨w.heap.size,0,none⟩)) m fa (w.alloc (.cells #[.slice A m.pts.length c,.slice B m.eds.length d,.slice F m.nf g] 35)):=
 ⟨_,A,B,F,c,d,g,rfl,Ajy w _,hc,t1.ext ((Ac.refl w).alloc _),t2.ext ((Ac.refl w).alloc _),t3.ext ((Ac.refl w).alloc _),X.alloc _⟩
theorem Adc(w:World)(hw:Ao w):Calls Tryz.prog 7 #[] w (By true w):=by
 have gI:=fun W h=>Qf 0 0 (by decide) (by decide) 0 0 rfl rfl W h;have a44:=fun W h=>Qf 4 4 (by decide) (by decide) 4 4 rfl rfl W h;have Tm:=fun W h=>Qf 1 3 (by decide) (by decide) 1 3 rfl rfl W h;have WC:=fun W h=>Qf 3 1 (by decide) (by decide) 3 1 rfl rfl W h;go_enter Tryz.func7,Tryz.ntmps7;(go_wp2_with fail);(with_reducible refine(NG w hw).mono ?_);rintro e w1 ⟨A,Bk,F,c,d,g,rfl,An,r1,r2,r3,hx1⟩;have hw1:=hw.ext hx1;unfold As;(go_wp2_with fail);(with_reducible refine(gI w1 hw1).mono ?_);rintro e w2 ⟨rfl,hx2⟩;(go_wp2_with fail);(with_reducible refine(a44 w2 (hw1.ext hx2)).mono ?_);rintro e w3 ⟨rfl,hx3⟩;have OR:=hx2.trans hx3;have ap:=om A Bk F c d g w3 (hw1.ext OR) An (r1.ext OR) (r2.ext OR) (r3.ext OR);have fO:=Ajw (hx1.trans OR);unfold As Fc at ap;clear An r1 r2 r3 hx1 hx2 hx3 OR;(go_wp2_with fail);refine ap.mono ?_;rintro e w4 ⟨A1,B1,F1,c1,d1,g1,rfl,Jj,s1,s2,s3,-,Aq⟩;have Lt:=Ajw (fO.out.trans Aq);clear ap Aq fO gI a44 hw1;unfold As;have hM:=Ajy w4 (.cells #[.slice A1 c46.pts.length c1,.slice B1 c46.eds.length d1,.slice F1 c46.nf g1] 35);have AE:=(Ac.refl w4).alloc (.cells #[.slice A1 c46.pts.length c1,.slice B1 c46.eds.length d1,.slice F1 c46.nf g1] 35)
 go_upto_region 2 with fail
 generalize w4.alloc (.cells #[.slice A1 c46.pts.length c1,.slice B1 c46.eds.length d1,.slice F1 c46.nf g1] 35)=W5 at *;obtain⟨bM,pM⟩:=Ajv w4.heap.size;rw [←pM]at hM ⊢;have Gm:=Lt.out.trans AE;have q1:=s1.ext AE;have q2:=s2.ext AE;have q3:=s3.ext AE;clear pM s1 s2 s3 AE Lt;have f0:∀q:Af W5,q.w.cell? ⟨bM,0,none⟩=some (.slice A1 c46.pts.length c1):=Af.cell (Aa hM rfl);have f1:∀q:Af W5,q.w.cell? ⟨bM,1,none⟩=some (.slice B1 c46.eds.length d1):=Af.cell (Aa hM rfl);have f2:∀q:Af W5,q.w.cell? ⟨bM,2,none⟩=some (.slice F1 c46.nf g1):=Af.cell (Aa hM rfl);have iP:=fun q:Af W5=>Tm q.w ((hw.ext Gm).ext q.h);have un:=fun q:Af W5=>AgV c46 [[98],[97]] rfl ⟨1,3⟩ 0 (by decide) vD A1 B1 F1 c1 d1 g1 Jj q.w ((hw.ext Gm).ext q.h) (q1.ext q.h) (q2.ext q.h) (q3.ext q.h);unfold As Ak at un;refine CW (by kernel_rfl) (by kernel_rfl) ?_
 repeat (go_big_quiet_step (first|(with_reducible refine lV (iP _))|(with_reducible refine lV (un _))))
 refine wpQuiet_nil ?_;rintro _ ⟨q,rfl⟩;obtain⟨W6,Yz⟩:=Ajv q.w;rw [←Yz];have AU:Ac W5 W6:=(by rw [Yz];exact q.h);have Fg:=(AU.block _ (Ajx hM)).trans hM;have OQ:=(hw.ext Gm).ext AU;have fM:=Ajw (Gm.trans AU);have k0:W6.cell? ⟨bM,0,none⟩=some (.slice A1 c46.pts.length c1):=Aa Fg rfl;have k1:W6.cell? ⟨bM,1,none⟩=some (.slice B1 c46.eds.length d1):=Aa Fg rfl;have k2:W6.cell? ⟨bM,2,none⟩=some (.slice F1 c46.nf g1):=Aa Fg rfl
 have aj:=fun (W:World) (hx:Ac W6 W)=>(by
  have h:=nz A1 B1 F1 c1 d1 g1 W (OQ.ext hx) Jj ((q1.ext AU).ext hx) ((q2.ext AU).ext hx) ((q3.ext AU).ext hx);unfold As Fc at h
  exact h:Calls Tryz.prog 44 #[.agg #[.slice A1 c46.pts.length c1,.slice B1 c46.eds.length d1,.slice F1 c46.nf g1],.agg #[.int .i64 3,S (R 3),S (R 1),S (R 1),S (R 3),S [],S [],S []]] W (JF W Ah [[97]]))
 clear Yz f0 f1 f2 iP un q1 q2 q3 hM AU Gm Jj;have SO:=fun (w':World) (h:Ac W6 w')=>(⟨h.cellS k0,h.cellS k1,h.cellS k2⟩:_/\_/\_)
 go_upto_region 3 with fail
 have X:=(Ac.refl W6).drew
 go_cut [6,7] (fun v6 v7 wx=>v7=.int .i64 0/\VD W6 v6 Ah [[97]] wx)
 case first=>
  go_region_held3 (fun w'=>w'.cell? ⟨bM,0,none⟩=some (.slice A1 c46.pts.length c1)/\w'.cell? ⟨bM,1,none⟩=some (.slice B1 c46.eds.length d1)/\w'.cell? ⟨bM,2,none⟩=some (.slice F1 c46.nf g1))
   (first|exact SS|with_reducible exact SO _ X|with_reducible exact SO _ (X.alloc _)|with_reducible exact SO _ ((Ac.refl W6).alloc _).drew)
   (first
    | ((with_reducible refine(aj _ X).mono ?_);rintro e w7 ⟨A2,B2,F2,c2,d2,g2,rfl,O9,t1,t2,t3,-,x7⟩;(first | (replace hO:=(x7.block _ (Ajx hO)).trans hO) | skip);replace X:Ac W6 w7:=X.trans x7;unfold As;first | (have xz:=Aa (o:=0) hO rfl;have Iw:=Aa (o:=1) hO rfl;have MR:=Aa (o:=2) hO rfl;have MS:=Aj (o:=0) hO;have ya:=Aj (o:=1) hO;have yb:=Aj (o:=2) hO;have SS:=SO _ (BI X B8 (.slice A2 Ah.pts.length c2) (.slice B2 Ah.eds.length d2) (.slice F2 Ah.nf g2))) | skip)
    | ((with_reducible refine(aj _ (X.alloc (.cells #[.slice none 0 0,.slice none 0 0,.slice none 0 0] 35))).mono ?_);rintro e w7 ⟨A2,B2,F2,c2,d2,g2,rfl,O9,t1,t2,t3,-,x7⟩;have B8:=X.size;have hO:=(x7.block _ (Ajx (Ajy _ (.cells #[.slice none 0 0,.slice none 0 0,.slice none 0 0] 35)))).trans (Ajy _ (.cells #[.slice none 0 0,.slice none 0 0,.slice none 0 0] 35));replace X:Ac W6 w7:=(X.alloc (.cells #[.slice none 0 0,.slice none 0 0,.slice none 0 0] 35)).trans x7;unfold As;first | (have xz:=Aa (o:=0) hO rfl;have Iw:=Aa (o:=1) hO rfl;have MR:=Aa (o:=2) hO rfl;have MS:=Aj (o:=0) hO;have ya:=Aj (o:=1) hO;have yb:=Aj (o:=2) hO;have SS:=SO _ (BI X B8 (.slice A2 Ah.pts.length c2) (.slice B2 Ah.eds.length d2) (.slice F2 Ah.nf g2))) | skip)
    | ((with_reducible refine(WC _ (OQ.ext X)).mono ?_);rintro e w7 ⟨rfl,x7⟩;(first | (replace hO:=(x7.block _ (Ajx hO)).trans hO) | skip);replace X:Ac W6 w7:=X.trans x7)
    | ((with_reducible refine(Tm _ (OQ.ext X)).mono ?_);rintro e w7 ⟨rfl,x7⟩;(first | (replace hO:=(x7.block _ (Ajx hO)).trans hO) | skip);replace X:Ac W6 w7:=X.trans x7)
    | ((with_reducible refine(WC _ (OQ.ext ((Ac.refl W6).alloc (.cells #[.slice none 0 0,.slice none 0 0,.slice none 0 0] 35)).drew)).mono ?_);rintro e w7 ⟨rfl,x7⟩;have B8:=Ajz W6.heap.size;have hO:=(x7.block _ (Ajx (Ajy W6 (.cells #[.slice none 0 0,.slice none 0 0,.slice none 0 0] 35)))).trans (Ajy W6 (.cells #[.slice none 0 0,.slice none 0 0,.slice none 0 0] 35));replace X:Ac W6 w7:=((Ac.refl W6).alloc (.cells #[.slice none 0 0,.slice none 0 0,.slice none 0 0] 35)).drew.trans x7)
    | ((with_reducible refine(Tm _ (OQ.ext (X.alloc (.cells #[.slice none 0 0,.slice none 0 0,.slice none 0 0] 35)))).mono ?_);rintro e w7 ⟨rfl,x7⟩;have B8:=X.size;have hO:=(x7.block _ (Ajx (Ajy _ (.cells #[.slice none 0 0,.slice none 0 0,.slice none 0 0] 35)))).trans (Ajy _ (.cells #[.slice none 0 0,.slice none 0 0,.slice none 0 0] 35));replace X:Ac W6 w7:=(X.alloc (.cells #[.slice none 0 0,.slice none 0 0,.slice none 0 0] 35)).trans x7))
  all_goals go_wp2
  all_goals go_meet
  all_goals first
   | exact⟨rfl,qp hO B8 O9 t1 t2 t3 X⟩
   | exact⟨rfl,qo O9 t1 t2 t3 X⟩
 case rest=>
  obtain⟨rfl,b6,A2,B2,F2,c2,d2,g2,rfl,AW,-,t1,t2,t3,AL⟩:=hcut;have hx:=fM.out.trans AL;have CL:=(AL.block _ (Ajx Fg)).trans Fg;have tO:=hw.ext hx;have HX:=Ajw hx;have k2':wc.cell? ⟨bM,2,none⟩=some (.slice F1 c46.nf g1):=Aa CL rfl;have l0:wc.cell? ⟨b6,0,none⟩=some (.slice A2 Ah.pts.length c2):=Aa AW rfl;have l1:wc.cell? ⟨b6,1,none⟩=some (.slice B2 Ah.eds.length d2):=Aa AW rfl;have l2:wc.cell? ⟨b6,2,none⟩=some (.slice F2 Ah.nf g2):=Aa AW rfl;have eq:=fun (W:World) (hx:Ac wc W) A3 B3 F3 c3 d3 g3 (y1:Ae W A3 (flat (Ai Ah.pts))) (y2:Ae W B3 (Au Ah.eds)) (y3:Ae W F3 ([[97]].map S))=>lT Ah [[97]] rfl A2 B2 F2 A3 B3 F3 c2 d2 g2 c3 d3 g3 W (t1.ext hx) (t2.ext hx) (t3.ext hx) y1 y2 y3 (by decide) (by decide) (by decide);have sq:=fun (W:World) (hx:Ac wc W)=>NG W (tO.ext hx);unfold As at eq;clear SO k0 k1 k2 aj Fg AL X AW CL hx Tm WC fM OQ tO;have SO:=fun (w':World) (h:Ac wc w')=>(⟨h.cellS k2',h.cellS l0,h.cellS l1,h.cellS l2⟩:_/\_/\_/\_);have X:=(Ac.refl wc).drew
  go_upto_region 4 with fail
  go_region_held3 (fun w'=>w'.cell? ⟨bM,2,none⟩=some (.slice F1 c46.nf g1)/\w'.cell? ⟨b6,0,none⟩=some (.slice A2 Ah.pts.length c2)/\w'.cell? ⟨b6,1,none⟩=some (.slice B2 Ah.eds.length d2)/\w'.cell? ⟨b6,2,none⟩=some (.slice F2 Ah.nf g2))
   (with_reducible exact SO _ X)
   (first
    | ((with_reducible refine(sq _ X).mono ?_);rintro e w8 ⟨A3,B3,F3,c3,d3,g3,rfl,-,y1,y2,y3,x8⟩;replace X:Ac wc w8:=X.trans x8;unfold As)
    | ((with_reducible refine(eq _ X _ _ _ _ _ _ y1 y2 y3).mono ?_);rintro e w9 ⟨rfl,x9⟩;replace X:Ac wc w9:=X.trans x9))
  all_goals go_wp2
  all_goals go_ret
  all_goals exact⟨rfl,HX.out.trans X⟩
end Go.Proofs.YtgnejnampofhoaaGreatDoor
