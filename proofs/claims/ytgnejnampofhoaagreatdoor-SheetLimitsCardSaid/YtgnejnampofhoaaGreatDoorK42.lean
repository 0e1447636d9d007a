/- K42: ShKH4 ShKI4. -/
import Derived.Test.YtgnejnampofhoaaGreatDoorK39
set_option maxRecDepth 100000
set_option maxHeartbeats 16000000
namespace Go.Proofs.YtgnejnampofhoaaGreatDoor
open Go.RowKit Kl
theorem yu:∀args w,(callFunc 169 args).run Tryz.prog w=.ok (.enter 169 args) w:=enters_of Tryz.func169 (by kernel_rfl) rfl
structure Hi(w0:World)(B:Nat)(wr:World)(bm bx bR:Nat)(A Bk F:Option Addr)(c d g:Nat)(x0 x1:Bs):Prop where
 cM:wr.heap[bm]?=some (.cells #[.slice A 4 c,.slice Bk 5 d,.slice F 2 g] 35)
 cX:wr.heap[bx]?=some (.cells #[.int .i64 3,S (R 3),S (R 1),S (R 1),S (R 3),S [],S [],S []] 29)
 cR:wr.heap[bR]?=some (.cells #[.slice none 0 0,.slice none 0 0,.slice none 0 0] 35)
 own:BY B wr A Bk F c d g c46 [x0,x1]
 ext:Ac w0 wr
 szb:w0.heap.size<=bm/\w0.heap.size<=bR/\bm≠bR/\B<=wr.heap.size
section
variable {w0 : World} {B : Nat} {wr w' : World} {bm bx bR : Nat} {A Bk F : Option Addr} {c d g : Nat} {x0 x1 : Bs}
theorem Hi.grow(h:Hi w0 B wr bm bx bR A Bk F c d g x0 x1)(hx:Ac wr w'):Hi w0 B w' bm bx bR A Bk F c d g x0 x1:=
 ⟨(hx.block _ (Ajx h.cM)).trans h.cM,(hx.block _ (Ajx h.cX)).trans h.cX,(hx.block _ (Ajx h.cR)).trans h.cR,h.own.ext hx,h.ext.trans hx,h.szb.1,h.szb.2.1,h.szb.2.2.1,Aj9 h.szb.2.2.2 hx.size⟩
theorem Hi.loc1(h:Hi w0 B wr bm bx bR A Bk F c d g x0 x1)(hw:Ao w0):Calls Tryz.prog 97 #[.agg #[.slice A 4 c,.slice Bk 5 d,.slice F 2 g],.agg #[S (R 3),S (R 1)]] wr (Bp (.tuple #[.int .i64 1,.bool true,.int .i64 0]) wr):=
 RS c46 ⟨3,1⟩ 1 Adr A Bk F c d g h.own.rd.1 wr (hw.ext h.ext) h.own.rd.2.1 h.own.rd.2.2.1
theorem Hi.loc0(h:Hi w0 B wr bm bx bR A Bk F c d g x0 x1)(hw:Ao w0):Calls Tryz.prog 97 #[.agg #[.slice A 4 c,.slice Bk 5 d,.slice F 2 g],.agg #[S (R 1),S (R 3)]] wr (Bp (.tuple #[.int .i64 0,.bool true,.int .i64 0]) wr):=
 RS c46 ⟨1,3⟩ 0 vD A Bk F c d g h.own.rd.1 wr (hw.ext h.ext) h.own.rd.2.1 h.own.rd.2.2.1
theorem Hi.end(h:Hi w0 B wr bm bx bR A Bk F c d g x0 x1){be k:Nat}{cs:Array Value}(hb:wr.heap[be]?=some (.cells cs 228))(h0:w0.heap.size<=be)(z:Value):Hi w0 B (wr.setCell ⟨be,k,none⟩ z) bm bx bR A Bk F c d g x0 x1:=by
 have bb:=(Ax.refl (fun q=>q=be) wr).setCell (p:=⟨be,k,none⟩) (.inl rfl) z
 have far:∀{j:Nat} {cs:Array Value} {t:TypeId},wr.heap[j]?=some (.cells cs t)→t≠228→(wr.setCell ⟨be,k,none⟩ z).heap[j]?=some (.cells cs t):=fun hj hne=>by rw [B7 (by exact Ct hj hb hne)];exact hj
 have kp:∀{e:TypeId} {s m:Nat} {v:Value} {xs:List Value} {B':Nat},wr.ownsRow B' e s v m xs→e≠228→(wr.setCell ⟨be,k,none⟩ z).ownsRow B' e s v m xs:=fun hv hne=>Bw hv bb (fun q hq e=>by subst e;exact Bo hv hb hne hq);exact⟨far h.cM (by decide),far h.cX (by decide),far h.cR (by decide),⟨kp h.own.pts (by decide),kp h.own.eds (by decide),kp h.own.fac (by decide),h.own.nf⟩,h.ext.setCell (p:=⟨be,k,none⟩) h0 _,h.szb.1,h.szb.2.1,h.szb.2.2.1,Aj9 h.szb.2.2.2 bb.size⟩
end
def BE:List EdZ:=[⟨0,1,-1,0⟩,⟨0,2,1,-1⟩,⟨1,3,-1,0⟩,⟨2,3,1,-1⟩]
theorem vw:Fp (Qo 1 0) c46.eds=BE:=by decide +kernel
def BC:Nat→List (Int×Int)×List Pt×List EdZ
 | 0=>([],[],[])
 | j+1=>((D8 c46.pts (BE.getD j ⟨0,0,0,0⟩).t (D8 c46.pts (BE.getD j ⟨0,0,0,0⟩).f (BC j).1 (BC j).2.1).2.1 (D8 c46.pts (BE.getD j ⟨0,0,0,0⟩).f (BC j).1 (BC j).2.1).2.2).2.1,
  (D8 c46.pts (BE.getD j ⟨0,0,0,0⟩).t (D8 c46.pts (BE.getD j ⟨0,0,0,0⟩).f (BC j).1 (BC j).2.1).2.1 (D8 c46.pts (BE.getD j ⟨0,0,0,0⟩).f (BC j).1 (BC j).2.1).2.2).2.2,
  (BC j).2.2 ++ [⟨(D8 c46.pts (BE.getD j ⟨0,0,0,0⟩).f (BC j).1 (BC j).2.1).1,(D8 c46.pts (BE.getD j ⟨0,0,0,0⟩).t (D8 c46.pts (BE.getD j ⟨0,0,0,0⟩).f (BC j).1 (BC j).2.1).2.1 (D8 c46.pts (BE.getD j ⟨0,0,0,0⟩).f (BC j).1 (BC j).2.1).2.2).1,J8 1 0 (BE.getD j ⟨0,0,0,0⟩).l,J8 1 0 (BE.getD j ⟨0,0,0,0⟩).r⟩])
theorem Aaf(j:Nat)(e:EdZ)(he:BE.getD j ⟨0,0,0,0⟩=e):∃z1 Jw ND z2 UY Vk,D8 c46.pts e.f (BC j).1 (BC j).2.1=(z1,Jw,ND)/\D8 c46.pts e.t Jw ND=(z2,UY,Vk)/\BC (j+1)=(UY,Vk,(BC j).2.2 ++ [⟨z1,z2,J8 1 0 e.l,J8 1 0 e.r⟩])/\ND.length<=(BC j).2.1.length+1:=by
 subst he;exact⟨(D8 c46.pts (BE.getD j ⟨0,0,0,0⟩).f (BC j).1 (BC j).2.1).1,(D8 c46.pts (BE.getD j ⟨0,0,0,0⟩).f (BC j).1 (BC j).2.1).2.1,(D8 c46.pts (BE.getD j ⟨0,0,0,0⟩).f (BC j).1 (BC j).2.1).2.2,_,_,_,rfl,rfl,rfl,AdU _ _ _ _⟩
theorem Aae:(BC 4).2.1=Ah.pts/\(BC 4).2.2=Ah.eds:=by decide +kernel
theorem Aag:∀j,j<4→(BC j).2.1.length<=1000/\(BC j).2.2.length<=1000:=by
 have h:∀j:Fin 4,(BC j).2.1.length<=1000/\(BC j).2.2.length<=1000:=(by decide +kernel);exact fun j hj=>h ⟨j,hj⟩
theorem xx:∀j,(h:j<BE.length)→0<=BE[j].f/\BE[j].f<4/\0<=BE[j].t/\BE[j].t<4/\-1<=BE[j].l/\BE[j].l<=100000/\-1<=BE[j].r/\BE[j].r<=100000:=by
 have h:∀j:Fin 4,0<=BE[j].f/\BE[j].f<4/\0<=BE[j].t/\BE[j].t<4/\-1<=BE[j].l/\BE[j].l<=100000/\-1<=BE[j].r/\BE[j].r<=100000:=(by decide +kernel);exact fun j hj=>h ⟨j,hj⟩
theorem AcO(x0 x1:Bs)(A Bk F:Option Addr)(c d g:Nat){B:Nat}{w0 w:World}(hw:Ao w0)(hx:Ac w0 w)(Ke:B<=w.heap.size)(hm:BY B w A Bk F c d g c46 [x0,x1]) :
  Calls Tryz.prog 94 #[As A Bk F c46 c d g,Fc 3 ⟨3,1⟩ ⟨1,3⟩ []] w
   (fun e w'=>∃A' B' F' c' d' g',e=.returned (.tuple #[As A' B' F' Ah c' d' g',.int .i64 0])/\BY B w' A' B' F' c' d' g' Ah [x1]/\Ac w0 w'):=by
 obtain⟨hM,hE,hR,hX⟩:=M8 w (.cells #[.slice A 4 c,.slice Bk 5 d,.slice F 2 g] 35) (.cells #[.int .i64 3,S (R 3),S (R 1),S (R 1),S (R 3),S [],S [],S []] 29) (.cells #[.slice none 0 0,.slice none 0 0,.slice none 0 0] 35)
 have Gj:Hi w0 B (((w.alloc (.cells #[.slice A 4 c,.slice Bk 5 d,.slice F 2 g] 35)).alloc (.cells #[.int .i64 3,S (R 3),S (R 1),S (R 1),S (R 3),S [],S [],S []] 29)).alloc (.cells #[.slice none 0 0,.slice none 0 0,.slice none 0 0] 35)) w.heap.size (w.heap.size+1) (w.heap.size+1+1) A Bk F c d g x0 x1:=
  ⟨hM,hE,hR,hm.ext hX,hx.trans hX,by have:=hx.size;omega,by have:=hx.size;omega,by omega,Aj9 Ke hX.size⟩
 show Calls Tryz.prog 94 #[.agg #[.slice A 4 c,.slice Bk 5 d,.slice F 2 g],.agg #[.int .i64 3,S (R 3),S (R 1),S (R 1),S (R 3),S [],S [],S []]] w _;clear hm hM hE hR hX;go_enter Tryz.func94,Tryz.ntmps94
 go_upto_region 1 with fail
 generalize ((w.alloc (.cells #[.slice A 4 c,.slice Bk 5 d,.slice F 2 g] 35)).alloc (.cells #[.int .i64 3,S (R 3),S (R 1),S (R 1),S (R 3),S [],S [],S []] 29)).alloc (.cells #[.slice none 0 0,.slice none 0 0,.slice none 0 0] 35)=w3 at *;obtain⟨bm,AD⟩:=Ajv w.heap.size;rw [←AD]at Gj ⊢;clear AD Ke;have EP:=Ajw Gj;clear Gj
 go_upto_region 2 with fail
 obtain⟨V4,C6⟩:=Ajv (w3.alloc (.cells #[.int .i64 0,.int .i64 0] 228));have he:=Ajy w3 (.cells #[.int .i64 0,.int .i64 0] 228);have Aq:=(Ac.refl w3).alloc (.cells #[.int .i64 0,.int .i64 0] 228);have Nl:=EP.out.ext.size;rw [←C6]at he Aq ⊢;have GA:=Ajw (EP.out.grow Aq);obtain⟨be,AB⟩:=Ajv w3.heap.size;rw [←AB]at he Nl ⊢;clear C6 Aq AB EP;have x1':V4.cell? ⟨bm+1,1,none⟩=some (S (R 3)):=Aa GA.out.cX rfl;have x2':V4.cell? ⟨bm+1,2,none⟩=some (S (R 1)):=Aa GA.out.cX rfl;have x3':V4.cell? ⟨bm+1,3,none⟩=some (S (R 1)):=Aa GA.out.cX rfl;have x4':V4.cell? ⟨bm+1,4,none⟩=some (S (R 3)):=Aa GA.out.cX rfl
 go_upto_region 3 with fail
 obtain⟨V5,QM⟩:=Ajv (V4.alloc (.cells #[S (R 3),S (R 1),S (R 1),S (R 3)] 27));have hp:=Ajy V4 (.cells #[S (R 3),S (R 1),S (R 1),S (R 3)] 27);have AE:=(Ac.refl V4).alloc (.cells #[S (R 3),S (R 1),S (R 1),S (R 3)] 27);rw [←QM]at hp AE ⊢;have NU:=Ajw (GA.out.grow AE);replace he:=(AE.block _ (Ajx he)).trans he;obtain⟨bp,Aw⟩:=Ajv V4.heap.size;rw [←Aw]at hp ⊢;clear QM AE Aw GA x1' x2' x3' x4'
 go_loopw [27] (fun iv wr=>∃i:Nat,iv=.int .i64 (i:Nat)/\i<=2/\Hi w0 B wr bm (bm+1) (bm+1+1) A Bk F c d g x0 x1/\wr.heap[be]?=some (.cells #[.int .i64 (if i=0 then 0 else 1),.int .i64 0] 228)/\wr.heap[bp]?=some (.cells #[S (R 3),S (R 1),S (R 1),S (R 3)] 27)) (fun iv _=>2-(intOf iv).toNat)
 case atStart=>exact⟨0,rfl,by omega,NU.out,he,hp⟩
 case round=>
  obtain⟨i,rfl,hi,hP,AB,Aw⟩:=hrel;have HP:=Ajw hP;clear hP;obtain rfl|rfl|rfl:i=0∨i=1∨i=2:=by omega
  ·have p0:wr.cell? ⟨bp,0,none⟩=some (S (R 3)):=Aa Aw rfl;have p1:wr.cell? ⟨bp,1,none⟩=some (S (R 1)):=Aa Aw rfl
   go_upto_region 5 with fail
   obtain⟨V7,I1⟩:=Ajv (wr.alloc (.cells #[S (R 3),S (R 1)] 27));have hz:=Ajy wr (.cells #[S (R 3),S (R 1)] 27);have AL:=(Ac.refl wr).alloc (.cells #[S (R 3),S (R 1)] 27);rw [←I1]at hz AL ⊢;have Cy:=Ajw (HP.out.grow AL);replace AB:=(AL.block _ (Ajx AB)).trans AB;replace Aw:=(AL.block _ (Ajx Aw)).trans Aw;obtain⟨bs,B8⟩:=Ajv wr.heap.size;rw [←B8]at hz ⊢;clear I1 AL B8 HP p0 p1;have m0:V7.cell? ⟨bm,0,none⟩=some (.slice A 4 c):=Aa Cy.out.cM rfl;have m1:V7.cell? ⟨bm,1,none⟩=some (.slice Bk 5 d):=Aa Cy.out.cM rfl;have m2:V7.cell? ⟨bm,2,none⟩=some (.slice F 2 g):=Aa Cy.out.cM rfl;have z0:V7.cell? ⟨bs,0,none⟩=some (S (R 3)):=Aa hz rfl;have z1:V7.cell? ⟨bs,1,none⟩=some (S (R 1)):=Aa hz rfl;have lc:=Cy.out.loc1 hw;clear hz;(go_wp2_with fail);(with_reducible refine lc.mono ?_);rintro e w8 ⟨rfl,AX⟩;have Di:=Ajw (Cy.out.grow AX);replace AB:=(AX.block _ (Ajx AB)).trans AB;replace Aw:=(AX.block _ (Ajx Aw)).trans Aw;clear lc AX Cy m0 m1 m2 z0 z1;have e0:=Aa (o:=0) AB rfl;have fe:=Aj (o:=0) AB;have HF:=Ajw (And.intro (Di.out.end (k:=0) AB Nl (.int .i64 1)) (And.intro (au (.int .i64 1) AB) ((B7 (p:=⟨be,0,none⟩) (v:=.int .i64 1) (by exact Ct Aw AB (by decide))).trans Aw)));clear AB Aw;go_wp2;go_roundw
   case rel=>exact⟨1,rfl,by omega,HF.out⟩
   case measure=>simp [intOf]
  ·have p0:wr.cell? ⟨bp,2,none⟩=some (S (R 1)):=Aa Aw rfl;have p1:wr.cell? ⟨bp,3,none⟩=some (S (R 3)):=Aa Aw rfl
   go_upto_region 5 with fail
   obtain⟨V7,I1⟩:=Ajv (wr.alloc (.cells #[S (R 1),S (R 3)] 27));have hz:=Ajy wr (.cells #[S (R 1),S (R 3)] 27);have AL:=(Ac.refl wr).alloc (.cells #[S (R 1),S (R 3)] 27);rw [←I1]at hz AL ⊢;have Cy:=Ajw (HP.out.grow AL);replace AB:=(AL.block _ (Ajx AB)).trans AB;replace Aw:=(AL.block _ (Ajx Aw)).trans Aw;obtain⟨bs,B8⟩:=Ajv wr.heap.size;rw [←B8]at hz ⊢;clear I1 AL B8 HP p0 p1;have m0:V7.cell? ⟨bm,0,none⟩=some (.slice A 4 c):=Aa Cy.out.cM rfl;have m1:V7.cell? ⟨bm,1,none⟩=some (.slice Bk 5 d):=Aa Cy.out.cM rfl;have m2:V7.cell? ⟨bm,2,none⟩=some (.slice F 2 g):=Aa Cy.out.cM rfl;have z0:V7.cell? ⟨bs,0,none⟩=some (S (R 1)):=Aa hz rfl;have z1:V7.cell? ⟨bs,1,none⟩=some (S (R 3)):=Aa hz rfl;have lc:=Cy.out.loc0 hw;clear hz;(go_wp2_with fail);(with_reducible refine lc.mono ?_);rintro e w8 ⟨rfl,AX⟩;have Di:=Ajw (Cy.out.grow AX);replace AB:=(AX.block _ (Ajx AB)).trans AB;replace Aw:=(AX.block _ (Ajx Aw)).trans Aw;clear lc AX Cy m0 m1 m2 z0 z1;have e0:=Aa (o:=1) AB rfl;have fe:=Aj (o:=1) AB;have HF:=Ajw (And.intro (Di.out.end (k:=1) AB Nl (.int .i64 0)) (And.intro (av (.int .i64 0) AB) ((B7 (p:=⟨be,1,none⟩) (v:=.int .i64 0) (by exact Ct Aw AB (by decide))).trans Aw)));clear AB Aw;go_wp2;go_roundw
   case rel=>exact⟨2,rfl,by omega,HF.out⟩
   case measure=>simp [intOf]
  ·replace AB:wr.heap[be]?=some (.cells #[.int .i64 1,.int .i64 0] 228):=AB;clear Aw;have e0:wr.cell? ⟨be,0,none⟩=some (.int .i64 1):=Aa AB rfl;have e1:wr.cell? ⟨be,1,none⟩=some (.int .i64 0):=Aa AB rfl;have hl0:(0:Int)<2:=by omega
   go_upto_region 12 with fail
   have X:=Ac.refl wr;have SO:=fun (w':World) (h:Ac wr w')=>(⟨h.cellS e0,h.cellS e1⟩:_/\_);clear AB
   go_cut [12,13] (fun v12 v13 wx=>∃ba bb,v12=.pointer (some ⟨ba,0,none⟩)/\v13=.pointer (some ⟨bb,0,none⟩)/\wx.heap[ba]?=some (.cells #[.int .i64 1] 3)/\wx.heap[bb]?=some (.cells #[.int .i64 0] 3)/\Ac wr wx)
   case first=>
    go_region_held3 (fun w'=>w'.cell? ⟨be,0,none⟩=some (.int .i64 1)/\w'.cell? ⟨be,1,none⟩=some (.int .i64 0))
     ((refine SO _ ?_;repeat (first|exact X|(with_reducible refine Ac.drew ?_)|(with_reducible refine Ac.alloc ?_ _)|(with_reducible refine Ac.setCell ?_ (by simp) _))))
     (fail)
    all_goals go_wp2
    all_goals go_meet
    all_goals
     first
      | (have tn:=V9 wr (.cells #[.int .i64 1] 3) (.cells #[.int .i64 0] 3);exact⟨_,_,rfl,rfl,tn.1,tn.2.1,tn.2.2⟩)
      | (have tn:=V9 wr (.cells #[.int .i64 0] 3) (.cells #[.int .i64 1] 3);exact⟨_,_,rfl,rfl,tn.2.1,tn.1,tn.2.2⟩)
   case rest=>
    obtain⟨ba,bb,rfl,rfl,Av,Bf,AE⟩:=hcut;have DC:=Ajw (HP.out.grow AE);clear SO X e0 e1 AE HP;have j0:wc.cell? ⟨ba,0,none⟩=some (.int .i64 1):=Aa Av rfl;have j1:wc.cell? ⟨bb,0,none⟩=some (.int .i64 0):=Aa Bf rfl;have j2:wc.cell? ⟨bm,1,none⟩=some (.slice Bk 5 d):=Aa DC.out.cM rfl;have ce:Calls Tryz.prog 123 #[.slice Bk 5 d] wc (fun e w'=>∃v,e=.returned v/\w'.ownsRow wc.heap.size 118 4 v 5 (Au c46.eds)/\Ac wc w'):=kA c46.eds Bk d wc DC.out.own.rd.2.2.1 (by decide);(go_wp2_with fail);(with_reducible refine ce.mono ?_);rintro e w10 ⟨v,rfl,ho10,hx10⟩;obtain⟨A1,c1,rfl⟩:=KQ (by omega) ho10
    have de:Calls Tryz.prog 168 #[.slice A1 5 c1,.func (.func 169) #[] #[.pointer (some ⟨ba,0,none⟩),.pointer (some ⟨bb,0,none⟩)]] w10 (SA (Qo 1 0) wc.heap.size c46.eds w10):=
     wq (cb:=#[.pointer (some ⟨ba,0,none⟩),.pointer (some ⟨bb,0,none⟩)]) yu (Qo 1 0) wc.heap.size c46.eds A1 c1 w10 ho10 (by decide) (fun e _ W hk=>AcL e 1 0 (((hk wc hx10 (Ajz _)).block _ (Ajx Av)).trans Av) (((hk wc hx10 (Ajz _)).block _ (Ajx Bf)).trans Bf))
    clear ce;(go_wp2_with fail);(with_reducible refine de.mono ?_);rintro e w11 ⟨⟨A2,c2,rfl,hr2,hc2,hcm2⟩,hk⟩;have DR:Ac wc w11:=hk wc hx10 (Ajz _);rw [vw]at hr2 hc2 ⊢;replace hc2:4<=c2:=hc2;rw [show BE.length=4 from rfl];have G9:=Ajw (DC.out.grow DR);replace Av:=(DR.block _ (Ajx Av)).trans Av;replace Bf:=(DR.block _ (Ajx Bf)).trans Bf;clear de hk ho10 hx10 j0 j1 j2 DR DC;have j2:w11.cell? ⟨bm,1,none⟩=some (.slice Bk 5 d):=Aa G9.out.cM rfl
    go_upto_region 19 with fail
    clear j2;have y0:w11.cell? ⟨bm,2,none⟩=some (.slice F 2 g):=Aa G9.out.cM rfl;have y1:w11.cell? ⟨bb,0,none⟩=some (.int .i64 0):=Aa Bf rfl;have SO:=fun (w':World) (h:Ac w11 w')=>(⟨h.cellS y0,h.cellS y1⟩:_/\_);have cs:∀W,Ac w11 W→Calls Tryz.prog 23 #[.slice F 2 g] W (fun e w'=>∃v,e=.returned v/\w'.ownsRow W.heap.size 9 1 v 2 ([x0,x1].map S)/\Ac W w'):=fun W h=>kB [x0,x1] F g W (G9.out.own.rd.2.2.2.1.ext h) (by simp)
    have ds:∀(g3 c3:Nat) (W:World) (bs:Nat),W.ownsRow bs 9 1 (.slice (some ⟨g3,0,none⟩) 2 c3) 2 ([x0,x1].map S)→Calls Tryz.prog 171 #[.slice (some ⟨g3,0,none⟩) 2 c3,.int .i64 0,.int .i64 1] W (fun e w'=>e=.returned (.slice (some ⟨g3,0,none⟩) 1 c3)/\w'.ownsRow bs 9 1 (.slice (some ⟨g3,0,none⟩) 1 c3) 1 ([x1].map S)/\FX bs W w'/\Ax (fun q=>q=g3) W w'):=
     fun g3 c3 W bs h=>wu bs [x0,x1] g3 c3 0 1 W h (by decide) (by simp)
    have X:=Ac.refl w11;have iw:IntKind.wrap .i64 1=1:=(by decide);have hO:=Ajy w11 (.cells #[.slice none 0 0,.slice none 0 0,.slice none 0 0] 35);have hbl:bm<w11.heap.size:=Ajx G9.out.cM
    go_cut [16] (fun v16 wx=>∃bo g3 c3,v16=.pointer (some ⟨bo,0,none⟩)/\wx.heap[bo]?=some (.cells #[.slice none 0 0,.slice none 0 0,.slice (some ⟨g3,0,none⟩) 1 c3] 35)/\wx.ownsRow w11.heap.size 9 1 (.slice (some ⟨g3,0,none⟩) 1 c3) 1 ([x1].map S)/\w11.heap.size<=bo/\Ac w11 wx)
    case first=>
     go_region_held3 (fun w'=>w'.cell? ⟨bm,2,none⟩=some (.slice F 2 g)/\w'.cell? ⟨bb,0,none⟩=some (.int .i64 0))
      (first|exact SS|with_reducible exact SO _ X|with_reducible exact SO _ X.drew|with_reducible exact SO _ (X.alloc _)|with_reducible exact SO _ (X.drew.alloc _)|with_reducible exact SO _ (X.alloc _).drew)
      (first
       | ((with_reducible refine(ds g3 c3 DW w11.heap.size ho).mono ?_);rintro e Lf ⟨rfl,Kz,hk3,hb3⟩;replace X:Ac w11 Lf:=hk3 _ X (Ajz _);first | (have ED:=(hb3.block _ (Ajx Ki) (fun e0=>Bo ho Ki (by decide) (by rw [e0];rfl))).trans Ki;have g0:=Aa (o:=0) ED rfl;have g1:=Aa (o:=1) ED rfl;have g2:=Aa (o:=2) ED rfl;have Gd:=Aj (o:=0) ED;have g4:=Aj (o:=1) ED;have g5:=Aj (o:=2) ED;have SS:=SO _ (BI X (show w11.heap.size<=w11.heap.size from Ajz _) (.slice none 0 0) (.slice none 0 0) (.slice (some ⟨g3,0,none⟩) 1 c3))) | skip)
       | ((with_reducible refine(ds g3 c3 _ w11.heap.size (A9 ho ((Ac.refl DW).alloc (.cells #[.slice none 0 0,.slice none 0 0,.slice none 0 0] 35)))).mono ?_);rintro e Lf ⟨rfl,Kz,hk3,hb3⟩;have X0:=X;replace X:Ac w11 Lf:=hk3 _ (X.alloc _) (Ajz _);have ED:=(hb3.block _ (Ajx (Ajy DW (.cells #[.slice none 0 0,.slice none 0 0,.slice none 0 0] 35))) (fun e0=>Bo (A9 ho ((Ac.refl DW).alloc _)) (Ajy DW (.cells #[.slice none 0 0,.slice none 0 0,.slice none 0 0] 35)) (by decide) (by rw [e0];rfl))).trans (Ajy DW (.cells #[.slice none 0 0,.slice none 0 0,.slice none 0 0] 35));have g0:=Aa (o:=0) ED rfl;have g1:=Aa (o:=1) ED rfl;have g2:=Aa (o:=2) ED rfl;have Gd:=Aj (o:=0) ED;have g4:=Aj (o:=1) ED;have g5:=Aj (o:=2) ED;have SS:=SO _ (BI X (show w11.heap.size<=DW.heap.size from X0.size) (.slice none 0 0) (.slice none 0 0) (.slice (some ⟨g3,0,none⟩) 1 c3)))
       | ((with_reducible refine(cs _ X.drew).mono ?_);rintro e DW ⟨v,rfl,ho,x12⟩;obtain⟨A3,c3,rfl⟩:=KQ (by omega) ho;obtain⟨g3,rfl⟩:=Vj ho;replace ho:=Ig ho X.drew.size;replace X:Ac w11 DW:=X.drew.trans x12)
       | ((with_reducible refine(cs _ (X.alloc (.cells #[.slice none 0 0,.slice none 0 0,.slice none 0 0] 35)).drew).mono ?_);rintro e DW ⟨v,rfl,ho,x12⟩;obtain⟨A3,c3,rfl⟩:=KQ (by omega) ho;obtain⟨g3,rfl⟩:=Vj ho;have Ki:=(x12.block _ (Ajx hO)).trans hO;replace ho:=Ig ho (X.alloc (.cells #[.slice none 0 0,.slice none 0 0,.slice none 0 0] 35)).drew.size;replace X:Ac w11 DW:=(X.alloc _).drew.trans x12))
     all_goals go_wp2
     all_goals go_meet
     all_goals
      first
       | exact⟨w11.heap.size,g3,c3,rfl,Ck _ _ _ ED,Ds Kz ED (by decide) _ _ _,Ajz _,BI X (Ajz _) _ _ _⟩
       | exact⟨DW.heap.size,g3,c3,rfl,Ck _ _ _ ED,Ds Kz ED (by decide) _ _ _,X0.size,BI X X0.size _ _ _⟩
       | exact⟨Lf.heap.size,g3,c3,rfl,Ajy Lf _,A9 Kz ((Ac.refl Lf).alloc _),X.size,X.alloc _⟩
    case rest=>
     obtain⟨bo,g3,c3,rfl,Cw,H6,qA,ZU⟩:=hcut;clear X SO y0 y1 hO cs ds hbl;have hmm:=@run_makeMap Tryz.prog;have GV:=Ajy wc (.map #[] 0);have BM:=Ajy (wc.alloc (.map #[] 0)) (.cells #[.map (some wc.heap.size)] 237);have E1:=(Ac.refl wc).alloc (.map #[] 0);have E2:=(Ac.refl (wc.alloc (.map #[] 0))).alloc (.cells #[.map (some wc.heap.size)] 237);rw [Aj6]at BM
     have XQ:D3 w11 ((wc.alloc (.map #[] 0)).alloc (.cells #[.map (some wc.heap.size)] 237)) bo (wc.heap.size+1) wc.heap.size (.slice none 0 0) (.slice none 0 0) (.slice (some ⟨g3,0,none⟩) 1 c3) [x1] [] [] []:=
      ⟨ZU.trans (E1.trans E2),((E1.trans E2).block _ (Ajx Cw)).trans Cw,⟨rfl,.inl ⟨rfl,rfl⟩⟩,⟨rfl,.inl ⟨rfl,rfl⟩⟩,A9 H6 (E1.trans E2),BM,(E2.block _ (Ajx GV)).trans GV,⟨qA,ZU.size⟩⟩
     go_upto_region 21 with fail
     generalize (wc.alloc (.map #[] 0)).alloc (.cells #[.map (some wc.heap.size)] 237)=V6 at *;obtain⟨bh,pS⟩:=Ajv wc.heap.size;rw [←pS]at XQ ⊢;clear hmm GV BM E1 E2 Cw H6 qA ZU pS;have iy:=Ajw XQ;clear XQ;have NP:=Ajw Av;have SD:=Ajw Bf;clear Av Bf
     go_upto_region 23 with fail
     go_loopw [83] (fun iv wr=>∃(j:Nat) (P E:Value),iv=.int .i64 (j:Nat)/\j<=4/\D3 w11 wr bo (bh+1) bh P E (.slice (some ⟨g3,0,none⟩) 1 c3) [x1] (BC j).1 (BC j).2.1 (BC j).2.2) (fun iv _=>4-(intOf iv).toNat)
     case atStart=>exact⟨0,_,_,rfl,by omega,iy.out⟩
     case round=>
      obtain⟨j,P,E,rfl,hj,hJ⟩:=hrel;have HJ:=Ajw hJ;clear hJ;by_cases hlt:j<4
      ·have DK:j<BE.length:=hlt;obtain⟨b,o,rfl,hg1,hg2,hg3,hg4⟩:=KV (hr2.ext HJ.out.ext) DK;have hin:=xx j DK;obtain⟨ye,N6⟩:=Ajv (BE[j]);have hgd:BE.getD j ⟨0,0,0,0⟩=ye:=(by rw [N6,List.getD_eq_getElem?_getD,Aj4 DK];rfl);rw [←N6]at hg1 hg2 hg3 hg4 hin;obtain⟨hs1,hs2⟩:=Aag j hlt;clear N6 DK;obtain⟨yf,yt,yl,yr⟩:=ye
       dsimp only at hg1 hg2 hg3 hg4 hin
       obtain⟨z1,Jw,ND,z2,UY,Vk,hz1,hz2,H6,AbD⟩:=Aaf j _ hgd
       dsimp only at hz1 hz2 H6
       obtain⟨i1,i2,i3,i4,i5,i6,i7,i8⟩:=hin;have AbF:ND.length<=100000:=(by omega);clear hgd AbD;have Lm:=Ajw H6;clear H6;obtain⟨nm0,Zv⟩:=Ajv ((BC j).1);obtain⟨ps0,U8⟩:=Ajv ((BC j).2.1);obtain⟨LD,Uq⟩:=Ajv ((BC j).2.2);have ia:=Ajw Uq;have hJ:=HJ.out;rw [←Zv,←U8,←Uq]at hJ;rw [←Zv,←U8]at hz1;rw [←U8]at hs1;rw [←Uq]at hs2;clear Zv U8 Uq HJ;obtain⟨n,hn⟩:=Ajv LD.length;obtain⟨oE,cE,rfl,-,-,-⟩:=Ae.of_own' (by omega) hJ.eds;rw [←hn]at hJ hs2;have HN:=Ajw hn;clear hn;have HJ:=Ajw hJ;clear hJ;have hj0:(0:Int)<=(j:Int):=(by omega);have hj4:(j:Int)<4:=(by omega);have BM:n<200000:=by omega
       have cA:∀{W:World} {P:Value},D3 w11 W bo (bh+1) bh P (.slice oE n cE) (.slice (some ⟨g3,0,none⟩) 1 c3) [x1] nm0 ps0 LD→Calls Tryz.prog 172 #[.int .i64 yf,.pointer (some ⟨bh+1,0,none⟩),.pointer (some ⟨bo,0,none⟩),.pointer (some ⟨bm,0,none⟩)] W (PU w11 W bo (bh+1) bh (.slice oE n cE) (.slice (some ⟨g3,0,none⟩) 1 c3) [x1] LD z1 Jw ND):=fun h=>by have:=uM h c46.pts G9.out.cM G9.out.own.rd.2.1 yf i1 i2 (by omega);rw [hz1]at this;exact this
       have cB:∀{W:World} {P:Value},D3 w11 W bo (bh+1) bh P (.slice oE n cE) (.slice (some ⟨g3,0,none⟩) 1 c3) [x1] Jw ND LD→Calls Tryz.prog 172 #[.int .i64 yt,.pointer (some ⟨bh+1,0,none⟩),.pointer (some ⟨bo,0,none⟩),.pointer (some ⟨bm,0,none⟩)] W (PU w11 W bo (bh+1) bh (.slice oE n cE) (.slice (some ⟨g3,0,none⟩) 1 c3) [x1] LD z2 UY Vk):=fun h=>by have:=uM h c46.pts G9.out.cM G9.out.own.rd.2.1 yt i3 i4 AbF;rw [hz2]at this;exact this
       have cC:∀{W:World},Ac w11 W→Calls Tryz.prog 170 #[.int .i64 yl,.pointer (some ⟨bb,0,none⟩),.pointer (some ⟨ba,0,none⟩)] W (AK (J8 1 0 yl) W):=fun h=>uL yl 1 0 ⟨i5,i6⟩ (by omega) ((h.block _ (Ajx NP.out)).trans NP.out) ((h.block _ (Ajx SD.out)).trans SD.out)
       have cD:∀{W:World},Ac w11 W→Calls Tryz.prog 170 #[.int .i64 yr,.pointer (some ⟨bb,0,none⟩),.pointer (some ⟨ba,0,none⟩)] W (AK (J8 1 0 yr) W):=fun h=>uL yr 1 0 ⟨i7,i8⟩ (by omega) ((h.block _ (Ajx NP.out)).trans NP.out) ((h.block _ (Ajx SD.out)).trans SD.out)
       obtain⟨sl,Dp⟩:=Ajv (J8 1 0 yl);obtain⟨sr,OO⟩:=Ajv (J8 1 0 yr);have H6:=Lm.out;rw [←Dp,←OO,←ia.out]at H6;rw [←Dp]at cC;rw [←OO]at cD;clear Dp OO Lm hz1 hz2;have Lm:=Ajw H6;clear H6
       go_upto_region 25 with fail
       have ve:=Ajy wr (.cells #[.int .i64 yf,.int .i64 yt,.int .i64 yl,.int .i64 yr] 118);have OS:=(Ac.refl wr).alloc (.cells #[.int .i64 yf,.int .i64 yt,.int .i64 yl,.int .i64 yr] 118);have nG:∀k,(Value.slice oE n cE).ownBlock=some k→k<wr.heap.size:=fun k hk=>(HJ.out.eds.lt k hk).2;have eT:=Ajw (HJ.out.grow OS);clear OS hg1 hg2 hg3 hg4 i1 i2 i3 i4 i5 i6 i7 i8;generalize wr.alloc (.cells #[.int .i64 yf,.int .i64 yt,.int .i64 yl,.int .i64 yr] 118)=V7 at *;obtain⟨bE,pL⟩:=Ajv wr.heap.size;rw [←pL]at ve nG ⊢;clear pL;have q0:V7.cell? ⟨bE,0,none⟩=some (.int .i64 yf):=Aa ve rfl;have q1:V7.cell? ⟨bE,1,none⟩=some (.int .i64 yt):=Aa ve rfl;have q2:V7.cell? ⟨bE,2,none⟩=some (.int .i64 yl):=Aa ve rfl;have q3:V7.cell? ⟨bE,3,none⟩=some (.int .i64 yr):=Aa ve rfl;have o0:V7.cell? ⟨bo,1,none⟩=some (.slice oE n cE):=Aa eT.out.cO rfl;have hnE:(Value.slice oE n cE).ownBlock≠some bE:=fun h=>Nat.lt_irrefl _ (nG _ h);have SO:=fun (w':World) (h:w'.heap[bE]?=some (.cells #[.int .i64 yf,.int .i64 yt,.int .i64 yl,.int .i64 yr] 118)) (h2:w'.cell? ⟨bo,1,none⟩=some (.slice oE n cE))=>(⟨Aa h rfl,Aa h rfl,Aa h rfl,Aa h rfl,h2⟩:w'.cell? ⟨bE,0,none⟩=some (.int .i64 yf)/\w'.cell? ⟨bE,1,none⟩=some (.int .i64 yt)/\w'.cell? ⟨bE,2,none⟩=some (.int .i64 yl)/\w'.cell? ⟨bE,3,none⟩=some (.int .i64 yr)/\w'.cell? ⟨bo,1,none⟩=some (.slice oE n cE));have X:Ac V7 V7.drew:=(Ac.refl V7).drew;refine Ahs (T:=[22]) (S:=fun w'=>w'.cell? ⟨bE,0,none⟩=some (.int .i64 yf)/\w'.cell? ⟨bE,1,none⟩=some (.int .i64 yt)/\w'.cell? ⟨bE,2,none⟩=some (.int .i64 yl)/\w'.cell? ⟨bE,3,none⟩=some (.int .i64 yr)/\w'.cell? ⟨bo,1,none⟩=some (.slice oE n cE)) (by kernel_rfl) (SO _ ve o0) (fun hHeld=>?_);refine Cq (i:=0) (v:=?_) rfl (by kernel_rfl) (fun _ _ _ h=>h) hHeld (by rfl) ?_ ?_
       rotate_left
       ·(intro w hSw;(try dsimp only at hSw);go_simp;try (with_reducible rfl))
       try simp only [Act.put,List.setIfInBounds_toArray,List.set_cons_zero,List.set_cons_succ]
       refine Cq (i:=1) (v:=?_) rfl (by kernel_rfl) (fun _ _ _ h=>h) hHeld (by rfl) ?_ ?_
       rotate_left
       ·(intro w hSw;(try dsimp only at hSw);go_simp;try (with_reducible rfl))
       try simp only [Act.put,List.setIfInBounds_toArray,List.set_cons_zero,List.set_cons_succ]
       refine Cq (i:=2) (v:=?_) rfl (by kernel_rfl) (fun _ _ _ h=>h) hHeld (by rfl) ?_ ?_
       rotate_left
       ·(intro w hSw;(try dsimp only at hSw);go_simp;try (with_reducible rfl))
       try simp only [Act.put,List.setIfInBounds_toArray,List.set_cons_zero,List.set_cons_succ]
       refine Cq (i:=3) (v:=?_) rfl (by kernel_rfl) (fun _ _ _ h=>h) hHeld (by rfl) ?_ ?_
       rotate_left
       ·(intro w hSw;(try dsimp only at hSw);go_simp;try (with_reducible rfl))
       try simp only [Act.put,List.setIfInBounds_toArray,List.set_cons_zero,List.set_cons_succ]
       refine Cq (i:=4) (v:=?_) rfl (by kernel_rfl) (fun _ _ _ h=>h) hHeld (by rfl) ?_ ?_
       rotate_left
       ·(intro w hSw;(try dsimp only at hSw);go_simp;try (with_reducible rfl))
       try simp only [Act.put,List.setIfInBounds_toArray,List.set_cons_zero,List.set_cons_succ]
       refine Cq (i:=6) (v:=?_) rfl (by kernel_rfl) (fun _ _ _ h=>h) hHeld (by rfl) ?_ ?_
       rotate_left
       ·(intro w hSw;(try dsimp only at hSw);go_simp;try (with_reducible rfl))
       try simp only [Act.put,List.setIfInBounds_toArray,List.set_cons_zero,List.set_cons_succ]
       refine Cq (i:=7) (v:=?_) rfl (by kernel_rfl) (fun _ _ _ h=>h) hHeld (by rfl) ?_ ?_
       rotate_left
       ·(intro w hSw;(try dsimp only at hSw);go_simp;try (with_reducible rfl))
       try simp only [Act.put,List.setIfInBounds_toArray,List.set_cons_zero,List.set_cons_succ]
       refine Cq (i:=8) (v:=?_) rfl (by kernel_rfl) (fun _ _ _ h=>h) hHeld (by rfl) ?_ ?_
       rotate_left
       ·(intro w hSw;(try dsimp only at hSw);go_simp;try (with_reducible rfl))
       try simp only [Act.put,List.setIfInBounds_toArray,List.set_cons_zero,List.set_cons_succ]
       refine Cq (i:=10) (v:=?_) rfl (by kernel_rfl) (fun _ _ _ h=>h) hHeld (by rfl) ?_ ?_
       rotate_left
       ·(intro w hSw;(try dsimp only at hSw);go_simp;try (with_reducible rfl))
       try simp only [Act.put,List.setIfInBounds_toArray,List.set_cons_zero,List.set_cons_succ]
       refine Cq (i:=11) (v:=?_) rfl (by kernel_rfl) (fun _ _ _ h=>h) hHeld (by rfl) ?_ ?_
       rotate_left
       ·(intro w hSw;(try dsimp only at hSw);go_simp;try (with_reducible rfl))
       try simp only [Act.put,List.setIfInBounds_toArray,List.set_cons_zero,List.set_cons_succ]
       refine Cq (i:=12) (v:=?_) rfl (by kernel_rfl) (fun _ _ _ h=>h) hHeld (by rfl) ?_ ?_
       rotate_left
       ·(intro w hSw;(try dsimp only at hSw);go_simp;try (with_reducible rfl))
       try simp only [Act.put,List.setIfInBounds_toArray,List.set_cons_zero,List.set_cons_succ]
       refine Cq (i:=14) (v:=?_) rfl (by kernel_rfl) (fun _ _ _ h=>h) hHeld (by rfl) ?_ ?_
       rotate_left
       ·(intro w hSw;(try dsimp only at hSw);go_simp;try (with_reducible rfl))
       try simp only [Act.put,List.setIfInBounds_toArray,List.set_cons_zero,List.set_cons_succ]
       refine Cq (i:=15) (v:=?_) rfl (by kernel_rfl) (fun _ _ _ h=>h) hHeld (by rfl) ?_ ?_
       rotate_left
       ·(intro w hSw;(try dsimp only at hSw);go_simp;try (with_reducible rfl))
       try simp only [Act.put,List.setIfInBounds_toArray,List.set_cons_zero,List.set_cons_succ]
       refine Cq (i:=16) (v:=?_) rfl (by kernel_rfl) (fun _ _ _ h=>h) hHeld (by rfl) ?_ ?_
       rotate_left
       ·(intro w hSw;(try dsimp only at hSw);go_simp;try (with_reducible rfl))
       try simp only [Act.put,List.setIfInBounds_toArray,List.set_cons_zero,List.set_cons_succ]
       refine Ft (i:=5) rfl (by kernel_rfl) (fun K hK=>?_)
       go_simp
       (with_reducible refine(cA (eT.out.grow X)).mono ?_);rintro e w5 ⟨P5,rfl,hJ5,hk5⟩;have iz:=Ajw hJ5;have dh:=hk5 bE _ ve;have o5:w5.cell? ⟨bo,1,none⟩=some (.slice oE n cE):=Aa hJ5.cO rfl;clear hJ5 hk5;refine hK.out _ _ (fun _=>SO _ dh o5) (fun hH=>?_);have hHeld:=hH rfl;clear hK K hH
       try simp only [Act.put,List.setIfInBounds_toArray,List.set_cons_zero,List.set_cons_succ]
       refine Ft (i:=9) rfl (by kernel_rfl) (fun K hK=>?_)
       go_simp
       (with_reducible refine(cB iz.out).mono ?_);rintro e w6 ⟨P6,rfl,hJ6,Zh⟩;have eU:=Ajw hJ6;have dS:=Zh bE _ dh;have o6:w6.cell? ⟨bo,1,none⟩=some (.slice oE n cE):=Aa hJ6.cO rfl;clear hJ6 Zh;refine hK.out _ _ (fun _=>SO _ dS o6) (fun hH=>?_);have hHeld:=hH rfl;clear hK K hH
       try simp only [Act.put,List.setIfInBounds_toArray,List.set_cons_zero,List.set_cons_succ]
       refine Ft (i:=13) rfl (by kernel_rfl) (fun K hK=>?_)
       go_simp
       (with_reducible refine(cC eU.out.ext).mono ?_);rintro e w7 ⟨rfl,x7⟩;have VS:=Ajw (eU.out.grow x7);have dT:=(x7.block _ (Ajx dS)).trans dS;have o7:w7.cell? ⟨bo,1,none⟩=some (.slice oE n cE):=Aa VS.out.cO rfl;refine hK.out _ _ (fun _=>SO _ dT o7) (fun hH=>?_);have hHeld:=hH rfl;clear hK K hH
       try simp only [Act.put,List.setIfInBounds_toArray,List.set_cons_zero,List.set_cons_succ]
       refine Ft (i:=17) rfl (by kernel_rfl) (fun K hK=>?_)
       go_simp
       (with_reducible refine(cD VS.out.ext).mono ?_);rintro e w8 ⟨rfl,x8⟩;have PL:=Ajw (VS.out.grow x8);have P4:=(x8.block _ (Ajx dT)).trans dT;have o8:w8.cell? ⟨bo,1,none⟩=some (.slice oE n cE):=Aa PL.out.cO rfl;have o9:(w8.alloc (.cells #[.int .i64 z1,.int .i64 z2,.int .i64 sl,.int .i64 sr] 118)).cell? ⟨bo,1,none⟩=some (.slice oE n cE):=Aa (PL.out.grow ((Ac.refl w8).alloc _)).cO rfl;have jr:=Ajw (show w8.ownsRow w11.heap.size 118 4 (.slice oE n cE) n (Au LD)by have:=PL.out.eds;rw [←HN.out]at this;exact this);refine hK.out _ _ (fun _=>SO _ P4 o8) (fun hH=>?_);have hHeld:=hH rfl;clear hK K hH
       try simp only [Act.put,List.setIfInBounds_toArray,List.set_cons_zero,List.set_cons_succ]
       refine Cq (i:=18) (v:=?_) rfl (by kernel_rfl) (fun _ _ _ h=>h) hHeld (by rfl) ?_ ?_
       rotate_left
       ·(intro w hSw;(try dsimp only at hSw);go_simp;try (with_reducible rfl))
       try simp only [Act.put,List.setIfInBounds_toArray,List.set_cons_zero,List.set_cons_succ]
       refine Ft (i:=19) rfl (by kernel_rfl) (fun K hK=>?_)
       go_simp
       refine hK.out _ _ (fun _=>SO _ ((((Ac.refl w8).alloc (.cells #[.int .i64 z1,.int .i64 z2,.int .i64 sl,.int .i64 sr] 118)).block _ (Ajx P4)).trans P4) o9) (fun hH=>?_);have hHeld:=hH rfl;clear hK K hH
       try simp only [Act.put,List.setIfInBounds_toArray,List.set_cons_zero,List.set_cons_succ]
       refine Ft (i:=20) rfl (by kernel_rfl) (fun K hK=>?_);refine AgD rfl _ _ rfl _ w11.heap.size (.slice oE n cE) n LD rfl (A9 jr.out ((Ac.refl w8).alloc _)) BM ⟨z1,z2,sl,sr⟩ w8.heap.size (Ajy w8 _) rfl (Aj9 PL.out.ext.size ((Ac.refl w8).alloc _).size) ?_;intro v9 w9 BS CO;obtain⟨wB,jF,rfl,-,-,-⟩:=Ae.of_own' (by omega) BS;obtain⟨FH,QC⟩:=(PL.out.grow ((Ac.refl w8).alloc _)).ed CO (es':=LD ++ [⟨z1,z2,sl,sr⟩]) (by rw [List.length_append,←HN.out];exact BS);have ve9:=(CO.block bE (Aj8 (Ajx P4) ((Ac.refl w8).alloc _).size) (fun e=>hnE e.symm)).trans ((((Ac.refl w8).alloc _).block _ (Ajx P4)).trans P4);have j0:w9.cell? ⟨bo,1,none⟩=some (.slice oE n cE):=Aa FH rfl;have j1:=Aj (o:=1) FH;have ja:=Ajw QC;clear QC CO BS;refine hK.out _ _ (fun _=>SO _ ve9 j0) (fun hH=>?_);have hHeld:=hH rfl;clear hK K hH
       try simp only [Act.put,List.setIfInBounds_toArray,List.set_cons_zero,List.set_cons_succ]
       refine Cq (i:=21) (v:=?_) rfl (by kernel_rfl) (fun _ _ _ h=>h) hHeld (by rfl) ?_ ?_
       rotate_left
       ·(intro w hSw;(try dsimp only at hSw);go_simp;try (with_reducible rfl))
       try simp only [Act.put,List.setIfInBounds_toArray,List.set_cons_zero,List.set_cons_succ]
       refine Ft (i:=22) rfl (by kernel_rfl) (fun K hK=>?_)
       go_simp
       refine hK.out _ _ (fun h=>by simp at h) (fun _=>?_);clear hK K hHeld
       try simp only [Act.put,List.setIfInBounds_toArray,List.set_cons_zero,List.set_cons_succ]
       refine lG (by kernel_rfl) ?_ _
       all_goals (
        clear j0 j1;generalize w9.setCell ⟨bo,1,none⟩ (.slice wB (n+1) jF)=Ly at *;go_wp2;go_roundw
        case rel=>exact⟨j+1,P6,.slice wB (n+1) jF,by go_num,by omega,by rw [Lm.out];exact ja.out⟩
        case measure=>simp [intOf];omega)
      ·obtain rfl:j=4:=(by omega);obtain⟨f1,f2⟩:=Aae;have hJ:=HJ.out;rw [f1,f2]at hJ;obtain⟨oP,cP,rfl,-,-,-⟩:=Ae.of_own' (by omega) hJ.pts;obtain⟨oE,cE,rfl,-,-,-⟩:=Ae.of_own' (by omega) hJ.eds;replace hJ:D3 w11 wr bo (bh+1) bh (.slice oP 4 cP) (.slice oE 4 cE) (.slice (some ⟨g3,0,none⟩) 1 c3) [x1] (BC 4).1 Ah.pts Ah.eds:=hJ;have k0:wr.cell? ⟨bo,0,none⟩=some (.slice oP 4 cP):=Aa hJ.cO rfl;have k1:wr.cell? ⟨bo,1,none⟩=some (.slice oE 4 cE):=Aa hJ.cO rfl;have k2:wr.cell? ⟨bo,2,none⟩=some (.slice (some ⟨g3,0,none⟩) 1 c3):=Aa hJ.cO rfl;have AA:=(hJ.ext.block _ (Ajx G9.out.cR)).trans G9.out.cR;have g0:=Aa (o:=0) AA rfl;have g1:=Aa (o:=1) AA rfl;have g2:=Aa (o:=2) AA rfl;have Gd:=Aj (o:=0) AA;have g4:=Aj (o:=1) AA;have g5:=Aj (o:=2) AA;have A7:=Ck (.slice oP 4 cP) (.slice oE 4 cE) (.slice (some ⟨g3,0,none⟩) 1 c3) AA;have t1:=Aa (o:=0) A7 rfl;have t2:=Aa (o:=1) A7 rfl;have t3:=Aa (o:=2) A7 rfl;have hB:B<=w11.heap.size:=G9.out.szb.2.2.2;have BX:=Ajw (show BY B (((wr.setCell ⟨bm+1+1,0,none⟩ (.slice oP 4 cP)).setCell ⟨bm+1+1,1,none⟩ (.slice oE 4 cE)).setCell ⟨bm+1+1,2,none⟩ (.slice (some ⟨g3,0,none⟩) 1 c3)) oP oE (some ⟨g3,0,none⟩) cP cE c3 Ah [x1] from⟨Ds (Ig hJ.pts hB) AA (by decide) _ _ _,Ds (Ig hJ.eds hB) AA (by decide) _ _ _,Ds (Ig hJ.fac hB) AA (by decide) _ _ _,rfl⟩);have VO:=Ajw (BI (G9.out.ext.trans hJ.ext) G9.out.szb.2.1 (.slice oP 4 cP) (.slice oE 4 cE) (.slice (some ⟨g3,0,none⟩) 1 c3));clear hJ HJ AA A7 f1 f2 hB;go_wp2;refine bodyPost_ret (v:=.tuple #[.agg #[.slice oP 4 cP,.slice oE 4 cE,(.slice (some ⟨g3,0,none⟩) 1 c3)],.int .i64 0]) (by simp [results,Tryz.results94,go_sem,t1,t2,t3]) rfl ?_;exact⟨oP,oE,some ⟨g3,0,none⟩,cP,cE,c3,rfl,BX.out,VO.out⟩
theorem pu(m m':MapZ)(fa fa':List Bs)(Bn:m.nf=fa.length)(hgr:∀p∈m.pts,Cz p)(hck:El m=0)(hpl:m.pts.length<=1000)(hel:m.eds.length<=1000)(CN:fa.length<=1000)(LW:EZ m'=true)(Ib:m'.nf=fa'.length)(Kr:fa'.length<=1000)(a b:Pt)(u:Bs)(w:World)(hw:Ao w)
  (hsc:∀W,Ac w W→Calls Tryz.prog 91 #[Fc 3 a b u] W (AK 0 W))
  (Gs:∀(V W:World) (A B F:Option Addr) (c d g:Nat),Ac w V→Ac V W→BY V.heap.size W A B F c d g m fa→Calls Tryz.prog 94 #[As A B F m c d g,Fc 3 a b u] W (SZ V.heap.size V W m' fa'))
  (A B F:Option Addr) (c d g:Nat) (An:Bj m c d g) (hA:Ae w A (flat (Ai m.pts))) (hB:Ae w B (Au m.eds)) (hF:Ae w F (fa.map S)) :
  Calls Tryz.prog 44 #[As A B F m c d g,Fc 3 a b u] w (fun e w'=>JF w (Iu m' fa') (Cv m' fa').fa e w'):=by
 obtain⟨hM,hE,hR,hX⟩:=M8 w (.cells #[.slice A m.pts.length c,.slice B m.eds.length d,.slice F m.nf g] 35) (.cells #[.int .i64 3,S (R a.x),S (R a.y),S (R b.x),S (R b.y),S [],S [],S u] 29) (.cells #[.slice none 0 0,.slice none 0 0,.slice none 0 0] 35);have pc:=fun W (hx:Ac w W)=>M4 m hgr A B F c d g An W (hw.ext hx) (hA.ext hx) (hB.ext hx);rw [hck]at pc;have cp:=fun W (hx:Ac w W)=>Xh m fa Bn hpl hel CN A B F c d g W (hA.ext hx) (hB.ext hx) (hF.ext hx);have HM:=Ajw (And.intro LW (And.intro Ib (And.intro Kr Bn)));clear LW Ib Kr Bn An hA hB hF hgr hck;unfold As at pc cp ⊢;unfold Fc at hsc Gs ⊢;unfold As at Gs;go_enter Tryz.func44,Tryz.ntmps44
 go_upto_region 1 with fail
 generalize ((w.alloc (.cells #[.slice A m.pts.length c,.slice B m.eds.length d,.slice F m.nf g] 35)).alloc (.cells #[.int .i64 3,S (R a.x),S (R a.y),S (R b.x),S (R b.y),S [],S [],S u] 29)).alloc (.cells #[.slice none 0 0,.slice none 0 0,.slice none 0 0] 35)=V at *;obtain⟨bm,AD⟩:=Ajv w.heap.size;have O7:=AD;rw [←AD]at hM hE hR ⊢;have k0:V.cell? ⟨bm,0,none⟩=some (.slice A m.pts.length c):=Aa hM rfl;have k1:V.cell? ⟨bm,1,none⟩=some (.slice B m.eds.length d):=Aa hM rfl;have k2:V.cell? ⟨bm,2,none⟩=some (.slice F m.nf g):=Aa hM rfl;have PI:=Ajw AD;clear AD O7;have p1:=pc V hX;(go_wp2_with fail);(with_reducible refine p1.mono ?_);rintro e w1 ⟨rfl,hx1⟩;have Gn:=hX.trans hx1;have x0:w1.cell? ⟨bm+1,0,none⟩=some (.int .i64 3):=Aa ((hx1.block _ (Ajx hE)).trans hE) rfl;have x1:w1.cell? ⟨bm+1,1,none⟩=some (S (R a.x)):=Aa ((hx1.block _ (Ajx hE)).trans hE) rfl;have x2:w1.cell? ⟨bm+1,2,none⟩=some (S (R a.y)):=Aa ((hx1.block _ (Ajx hE)).trans hE) rfl;have x3:w1.cell? ⟨bm+1,3,none⟩=some (S (R b.x)):=Aa ((hx1.block _ (Ajx hE)).trans hE) rfl;have x4:w1.cell? ⟨bm+1,4,none⟩=some (S (R b.y)):=Aa ((hx1.block _ (Ajx hE)).trans hE) rfl;have x5:w1.cell? ⟨bm+1,5,none⟩=some (S []):=Aa ((hx1.block _ (Ajx hE)).trans hE) rfl;have x6:w1.cell? ⟨bm+1,6,none⟩=some (S []):=Aa ((hx1.block _ (Ajx hE)).trans hE) rfl;have x7:w1.cell? ⟨bm+1,7,none⟩=some (S u):=Aa ((hx1.block _ (Ajx hE)).trans hE) rfl;have s1:=hsc w1 Gn;clear p1 pc k0 k1 k2;(go_wp2_with fail);(with_reducible refine s1.mono ?_);rintro e w2 ⟨rfl,hx2⟩;have Ce:=Gn.trans hx2;have hV2:=hx1.trans hx2;replace x0:=hx2.cellS x0;clear s1 hsc x1 x2 x3 x4 x5 x6 x7;have al:∀O,(w2.alloc O).cell? ⟨bm+1,0,none⟩=some (.int .i64 3):=fun O=>((Ac.refl w2).alloc O).cellS x0
 go_upto_region 8 with fail
 clear al;have hx3:=fun O=>(Ac.refl w2).alloc O;generalize hW3:w2.alloc _=W3;have BL:Ac w2 W3:=hW3▸hx3 _;have Cd:=((hV2.trans BL).block _ (Ajx hM)).trans hM;have Bh:=((hV2.trans BL).block _ (Ajx hE)).trans hE;have AA:=((hV2.trans BL).block _ (Ajx hR)).trans hR;have hW:=Ce.trans BL;clear hW3 hx3 BL x0 hM hE hR;have k0:W3.cell? ⟨bm,0,none⟩=some (.slice A m.pts.length c):=Aa Cd rfl;have k1:W3.cell? ⟨bm,1,none⟩=some (.slice B m.eds.length d):=Aa Cd rfl;have k2:W3.cell? ⟨bm,2,none⟩=some (.slice F m.nf g):=Aa Cd rfl;have y0:W3.cell? ⟨bm+1,0,none⟩=some (.int .i64 3):=Aa Bh rfl;have y1:W3.cell? ⟨bm+1,1,none⟩=some (S (R a.x)):=Aa Bh rfl;have y2:W3.cell? ⟨bm+1,2,none⟩=some (S (R a.y)):=Aa Bh rfl;have y3:W3.cell? ⟨bm+1,3,none⟩=some (S (R b.x)):=Aa Bh rfl;have y4:W3.cell? ⟨bm+1,4,none⟩=some (S (R b.y)):=Aa Bh rfl;have y5:W3.cell? ⟨bm+1,5,none⟩=some (S []):=Aa Bh rfl;have y6:W3.cell? ⟨bm+1,6,none⟩=some (S []):=Aa Bh rfl;have y7:W3.cell? ⟨bm+1,7,none⟩=some (S u):=Aa Bh rfl;have SO:=fun (w':World) (h:Ac W3 w')=>(⟨h.cellS k0,h.cellS k1,h.cellS k2,h.cellS y0,h.cellS y1,h.cellS y2,h.cellS y3,h.cellS y4,h.cellS y5,h.cellS y6,h.cellS y7⟩:_/\_/\_/\_/\_/\_/\_/\_/\_/\_/\_);have X:=Ac.refl W3;have hO:=Ajy W3 (.cells #[.slice none 0 0,.slice none 0 0,.slice none 0 0] 35)
 go_cut [9,10] (fun v9 v10 wx=>∃bo A' B' F' c' d' g',v9=.pointer (some ⟨bo,0,none⟩)/\v10=.int .i64 0/\wx.heap[bo]?=some (.cells #[.slice A' m'.pts.length c',.slice B' m'.eds.length d',.slice F' m'.nf g'] 35)/\BY w.heap.size wx A' B' F' c' d' g' m' fa'/\Ac W3 wx)
 case first=>
  go_region_held3 (fun w'=>w'.cell? ⟨bm,0,none⟩=some (.slice A m.pts.length c)/\w'.cell? ⟨bm,1,none⟩=some (.slice B m.eds.length d)/\w'.cell? ⟨bm,2,none⟩=some (.slice F m.nf g)/\w'.cell? ⟨bm+1,0,none⟩=some (.int .i64 3)/\w'.cell? ⟨bm+1,1,none⟩=some (S (R a.x))/\w'.cell? ⟨bm+1,2,none⟩=some (S (R a.y))/\w'.cell? ⟨bm+1,3,none⟩=some (S (R b.x))/\w'.cell? ⟨bm+1,4,none⟩=some (S (R b.y))/\w'.cell? ⟨bm+1,5,none⟩=some (S [])/\w'.cell? ⟨bm+1,6,none⟩=some (S [])/\w'.cell? ⟨bm+1,7,none⟩=some (S u))
   (first|exact SS|with_reducible exact SO _ X|with_reducible exact SO _ X.drew|with_reducible exact SO _ (X.alloc _)|with_reducible exact SO _ (X.alloc _).drew)
   (first
    | ((with_reducible refine(Gs V4 w4 A4 B4 F4 c4 d4 g4 C6 x4 o4).mono ?_);rintro e w5 ⟨A5,B5,F5,c5,d5,g6,rfl,o5,x5,FQ⟩;replace X:Ac W3 w5:=BJ.trans x5;unfold As;first | (have AZ:=FQ _ _ Ki;have g0:=Aa (o:=0) AZ rfl;have g1:=Aa (o:=1) AZ rfl;have g2:=Aa (o:=2) AZ rfl;have Gd:=Aj (o:=0) AZ;have g4:=Aj (o:=1) AZ;have g5:=Aj (o:=2) AZ;have SS:=SO _ (BI X (Ajz _) (.slice A5 m'.pts.length c5) (.slice B5 m'.eds.length d5) (.slice F5 m'.nf g6))) | skip)
    | ((with_reducible refine(Gs V4 _ A4 B4 F4 c4 d4 g4 C6 (x4.alloc (.cells #[.slice none 0 0,.slice none 0 0,.slice none 0 0] 35)) (o4.ext ((Ac.refl w4).alloc (.cells #[.slice none 0 0,.slice none 0 0,.slice none 0 0] 35)))).mono ?_);rintro e w5 ⟨A5,B5,F5,c5,d5,g6,rfl,o5,x5,FQ⟩;have X0:=X;replace X:Ac W3 w5:=BJ.trans x5;unfold As;have AZ:=FQ _ _ (Ajy w4 (.cells #[.slice none 0 0,.slice none 0 0,.slice none 0 0] 35));have g0:=Aa (o:=0) AZ rfl;have g1:=Aa (o:=1) AZ rfl;have g2:=Aa (o:=2) AZ rfl;have Gd:=Aj (o:=0) AZ;have g4:=Aj (o:=1) AZ;have g5:=Aj (o:=2) AZ;have SS:=SO _ (BI X X0.size (.slice A5 m'.pts.length c5) (.slice B5 m'.eds.length d5) (.slice F5 m'.nf g6)))
    | ((with_reducible refine(cp _ (hW.trans X.drew)).mono ?_);rintro e w4 ⟨A4,B4,F4,c4,d4,g4,rfl,o4,x4⟩;obtain⟨V4,EE⟩:=Ajv W3.drew;rw [←EE]at o4 x4;have BJ:Ac W3 V4:=EE▸X.drew;have C6:=hW.trans BJ;replace X:Ac W3 w4:=BJ.trans x4;unfold As)
    | ((with_reducible refine(cp _ (hW.trans (X.alloc (.cells #[.slice none 0 0,.slice none 0 0,.slice none 0 0] 35)).drew)).mono ?_);rintro e w4 ⟨A4,B4,F4,c4,d4,g4,rfl,o4,x4⟩;have Ki:=(x4.block _ (Ajx hO)).trans hO;obtain⟨V4,EE⟩:=Ajv ((W3.alloc (.cells #[.slice none 0 0,.slice none 0 0,.slice none 0 0] 35)).drew);rw [←EE]at o4 x4;have BJ:Ac W3 V4:=EE▸(X.alloc _).drew;have C6:=hW.trans BJ;replace X:Ac W3 w4:=BJ.trans x4;unfold As))
  all_goals go_wp2
  all_goals go_meet
  all_goals
   first
    | exact⟨W3.heap.size,A5,B5,F5,c5,d5,g6,rfl,rfl,Ck _ _ _ AZ,(o5.low C6.size).set3 AZ _ _ _,BI X (Ajz _) _ _ _⟩
    | exact⟨w4.heap.size,A5,B5,F5,c5,d5,g6,rfl,rfl,Ck _ _ _ AZ,(o5.low C6.size).set3 AZ _ _ _,BI X X0.size _ _ _⟩
    | exact⟨w5.heap.size,A5,B5,F5,c5,d5,g6,rfl,rfl,Ajy w5 _,(o5.low C6.size).ext ((Ac.refl w5).alloc _),X.alloc _⟩
 case rest=>obtain⟨bo,A5,B5,F5,c5,d5,g5,rfl,rfl,Cw,o5,AE⟩:=hcut;have hb5:=(AE.block _ (Ajx AA)).trans AA;obtain⟨hc5,r1,r2,r3,r4⟩:=o5.rd;have cn:=xJ m' fa' HM.out.2.1 HM.out.1 A5 B5 F5 c5 d5 g5 hc5 wc (hw.ext (hW.trans AE)) r1 r2 r3 r4 (by have h1:=HM.out.2.1;have h2:=HM.out.2.2.1;omega);have Gm:=hW.trans AE;clear SO X hO k0 k1 k2 y0 y1 y2 y3 y4 y5 y6 y7 o5 r1 r2 r3 r4 hc5 Cd Bh AA;unfold As at cn;have j0:wc.cell? ⟨bo,0,none⟩=some (.slice A5 m'.pts.length c5):=Aa Cw rfl;have j1:wc.cell? ⟨bo,1,none⟩=some (.slice B5 m'.eds.length d5):=Aa Cw rfl;have j2:wc.cell? ⟨bo,2,none⟩=some (.slice F5 m'.nf g5):=Aa Cw rfl;obtain⟨mm,hmm⟩:=Ajv (Iu m' fa');obtain⟨ff,FO⟩:=Ajv ((Cv m' fa').fa);rw [←hmm,←FO]at cn;have Lo:=Ajw (And.intro hmm FO);clear hmm FO;(go_wp2_with fail);(with_reducible refine cn.mono ?_);rintro e w6 ⟨A6,B6,F6,c6,d6,g6,rfl,An,r1,r2,r3,hnf6,AU⟩;have AW:=(AU.block _ (Ajx hb5)).trans hb5;have Iz:=Gm.trans AU;have g0:=Aa (o:=0) AW rfl;have g1:=Aa (o:=1) AW rfl;have g2:=Aa (o:=2) AW rfl;have g3:=Aj (o:=0) AW;have g4:=Aj (o:=1) AW;have mK:=Aj (o:=2) AW;have A7:=Ck (.slice A6 mm.pts.length c6) (.slice B6 mm.eds.length d6) (.slice F6 mm.nf g6) AW;have t1:=Aa (o:=0) A7 rfl;have t2:=Aa (o:=1) A7 rfl;have t3:=Aa (o:=2) A7 rfl;have Bg:=(((Ax.refl (fun q=>q=bm+1+1) w6).setCell (p:=⟨bm+1+1,0,none⟩) (.inl rfl) (.slice A6 mm.pts.length c6)).setCell (p:=⟨bm+1+1,1,none⟩) (.inl rfl) (.slice B6 mm.eds.length d6)).setCell (p:=⟨bm+1+1,2,none⟩) (.inl rfl) (.slice F6 mm.nf g6);have z1:=BV r1 Bg AW (fun j hj=>by obtain⟨s,h⟩:=Ht hj;rw [h];simp);have z2:=BV r2 Bg AW (fun j hj=>by obtain⟨s,h⟩:=Hp hj;rw [h];simp);have z3:=BV r3 Bg AW (fun j hj=>by rw [List.getElem_map];simp);have HF:=Ajw (And.intro An (And.intro z1 (And.intro z2 (And.intro z3 (And.intro hnf6 (BI Iz (show w.heap.size<=bm+1+1 by rw [←PI.out];omega) (.slice A6 mm.pts.length c6) (.slice B6 mm.eds.length d6) (.slice F6 mm.nf g6)))))));clear z1 z2 z3 Bg A7 Iz AW An r1 r2 r3 hnf6 cn Cw AE Gm AU;unfold As;go_wp2;refine bodyPost_ret (v:=.tuple #[.agg #[.slice A6 mm.pts.length c6,.slice B6 mm.eds.length d6,.slice F6 mm.nf g6],.int .i64 0]) (by simp [results,Tryz.results44,go_sem,t1,t2,t3]) rfl ?_;rw [←Lo.out.1,←Lo.out.2];exact⟨A6,B6,F6,c6,d6,g6,rfl,HF.out.1,HF.out.2.1,HF.out.2.2.1,HF.out.2.2.2.1,HF.out.2.2.2.2.1,HF.out.2.2.2.2.2⟩
end Go.Proofs.YtgnejnampofhoaaGreatDoor
