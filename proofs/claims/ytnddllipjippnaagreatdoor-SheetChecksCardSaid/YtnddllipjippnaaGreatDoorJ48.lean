/- J48: KH4 KI4 KI5. -/
import Derived.Test.YtnddllipjippnaaGreatDoorJ45
import Derived.Test.YtnddllipjippnaaGreatDoorJ46
import Derived.Test.YtnddllipjippnaaGreatDoorJ47
set_option maxRecDepth 100000
set_option maxHeartbeats 16000000
namespace Go.Proofs.YtnddllipjippnaaGreatDoor
open Go.RowKit Kl
theorem Ad7:∀args w,(callFunc 71 args).run Tryz.prog w=.ok (.enter 71 args) w:=enters_of Tryz.func71 (by kernel_rfl) rfl
structure Iu(w0:World)(B:Nat)(wr:World)(bm bx bR:Nat)(A Bk F:Option Addr)(c d g:Nat)(x0 x1:Bs):Prop where
 cM:wr.heap[bm]?=some (.cells #[.slice A 4 c,.slice Bk 5 d,.slice F 2 g] 35)
 cX:wr.heap[bx]?=some (.cells #[.int .i64 3,S (R 3),S (R 1),S (R 1),S (R 3),S [],S [],S []] 26)
 cR:wr.heap[bR]?=some (.cells #[.slice none 0 0,.slice none 0 0,.slice none 0 0] 35)
 own:C7 B wr A Bk F c d g c46 [x0,x1]
 ext:Ab w0 wr
 szb:w0.heap.size<=bm/\w0.heap.size<=bR/\bm≠bR/\B<=wr.heap.size
section
variable {w0 : World} {B : Nat} {wr w' : World} {bm bx bR : Nat} {A Bk F : Option Addr} {c d g : Nat} {x0 x1 : Bs}
theorem Iu.grow(h:Iu w0 B wr bm bx bR A Bk F c d g x0 x1)(hx:Ab wr w'):Iu w0 B w' bm bx bR A Bk F c d g x0 x1:=
 ⟨(hx.block _ (Ao5 h.cM)).trans h.cM,(hx.block _ (Ao5 h.cX)).trans h.cX,(hx.block _ (Ao5 h.cR)).trans h.cR,h.own.ext hx,h.ext.trans hx,h.szb.1,h.szb.2.1,h.szb.2.2.1,AoH h.szb.2.2.2 hx.size⟩
theorem Iu.loc1(h:Iu w0 B wr bm bx bR A Bk F c d g x0 x1)(hw:Am w0):Calls Tryz.prog 60 #[.agg #[.slice A 4 c,.slice Bk 5 d,.slice F 2 g],.agg #[S (R 3),S (R 1)]] wr (BG (.tuple #[.int .i64 1,.bool true,.int .i64 0]) wr):=
 XD c46 ⟨3,1⟩ 1 AhE A Bk F c d g h.own.rd.1 wr (hw.ext h.ext) h.own.rd.2.1 h.own.rd.2.2.1
theorem Iu.loc0(h:Iu w0 B wr bm bx bR A Bk F c d g x0 x1)(hw:Am w0):Calls Tryz.prog 60 #[.agg #[.slice A 4 c,.slice Bk 5 d,.slice F 2 g],.agg #[S (R 1),S (R 3)]] wr (BG (.tuple #[.int .i64 0,.bool true,.int .i64 0]) wr):=
 XD c46 ⟨1,3⟩ 0 ku A Bk F c d g h.own.rd.1 wr (hw.ext h.ext) h.own.rd.2.1 h.own.rd.2.2.1
theorem Iu.end(h:Iu w0 B wr bm bx bR A Bk F c d g x0 x1){be k:Nat}{cs:Array Value}(hb:wr.heap[be]?=some (.cells cs 120))(h0:w0.heap.size<=be)(z:Value):Iu w0 B (wr.setCell ⟨be,k,none⟩ z) bm bx bR A Bk F c d g x0 x1:=by
 have bb:=(AD.refl (fun q=>q=be) wr).setCell (p:=⟨be,k,none⟩) (.inl rfl) z
 have far:∀{j:Nat} {cs:Array Value} {t:TypeId},wr.heap[j]?=some (.cells cs t)→t≠120→(wr.setCell ⟨be,k,none⟩ z).heap[j]?=some (.cells cs t):=fun hj hne=>by rw [Cj (by exact CU hj hb hne)];exact hj
 have kp:∀{e:TypeId} {s m:Nat} {v:Value} {xs:List Value} {B':Nat},wr.ownsRow B' e s v m xs→e≠120→(wr.setCell ⟨be,k,none⟩ z).ownsRow B' e s v m xs:=fun hv hne=>Cg hv bb (fun q hq e=>by subst e;exact BQ hv hb hne hq);exact⟨far h.cM (by decide),far h.cX (by decide),far h.cR (by decide),⟨kp h.own.pts (by decide),kp h.own.eds (by decide),kp h.own.fac (by decide),h.own.nf⟩,h.ext.setCell (p:=⟨be,k,none⟩) h0 _,h.szb.1,h.szb.2.1,h.szb.2.2.1,AoH h.szb.2.2.2 bb.size⟩
end
def BP:List EdZ:=[⟨0,1,-1,0⟩,⟨0,2,1,-1⟩,⟨1,3,-1,0⟩,⟨2,3,1,-1⟩]
theorem AcW:Gf (So 1 0) c46.eds=BP:=by decide +kernel
def BL:Nat→List (Int×Int)×List Pt×List EdZ
 | 0=>([],[],[])
 | j+1=>((Eb c46.pts (BP.getD j ⟨0,0,0,0⟩).t (Eb c46.pts (BP.getD j ⟨0,0,0,0⟩).f (BL j).1 (BL j).2.1).2.1 (Eb c46.pts (BP.getD j ⟨0,0,0,0⟩).f (BL j).1 (BL j).2.1).2.2).2.1,
  (Eb c46.pts (BP.getD j ⟨0,0,0,0⟩).t (Eb c46.pts (BP.getD j ⟨0,0,0,0⟩).f (BL j).1 (BL j).2.1).2.1 (Eb c46.pts (BP.getD j ⟨0,0,0,0⟩).f (BL j).1 (BL j).2.1).2.2).2.2,
  (BL j).2.2 ++ [⟨(Eb c46.pts (BP.getD j ⟨0,0,0,0⟩).f (BL j).1 (BL j).2.1).1,(Eb c46.pts (BP.getD j ⟨0,0,0,0⟩).t (Eb c46.pts (BP.getD j ⟨0,0,0,0⟩).f (BL j).1 (BL j).2.1).2.1 (Eb c46.pts (BP.getD j ⟨0,0,0,0⟩).f (BL j).1 (BL j).2.1).2.2).1,KD 1 0 (BP.getD j ⟨0,0,0,0⟩).l,KD 1 0 (BP.getD j ⟨0,0,0,0⟩).r⟩])
theorem Aea(j:Nat)(e:EdZ)(he:BP.getD j ⟨0,0,0,0⟩=e):∃z1 Kv Pb z2 XS Yi,Eb c46.pts e.f (BL j).1 (BL j).2.1=(z1,Kv,Pb)/\Eb c46.pts e.t Kv Pb=(z2,XS,Yi)/\BL (j+1)=(XS,Yi,(BL j).2.2 ++ [⟨z1,z2,KD 1 0 e.l,KD 1 0 e.r⟩])/\Pb.length<=(BL j).2.1.length+1:=by
 subst he;exact⟨(Eb c46.pts (BP.getD j ⟨0,0,0,0⟩).f (BL j).1 (BL j).2.1).1,(Eb c46.pts (BP.getD j ⟨0,0,0,0⟩).f (BL j).1 (BL j).2.1).2.1,(Eb c46.pts (BP.getD j ⟨0,0,0,0⟩).f (BL j).1 (BL j).2.1).2.2,_,_,_,rfl,rfl,rfl,Air _ _ _ _⟩
theorem AdZ:(BL 4).2.1=AA.pts/\(BL 4).2.2=AA.eds:=by decide +kernel
theorem Aeb:∀j,j<4→(BL j).2.1.length<=1000/\(BL j).2.2.length<=1000:=by
 have h:∀j:Fin 4,(BL j).2.1.length<=1000/\(BL j).2.2.length<=1000:=(by decide +kernel);exact fun j hj=>h ⟨j,hj⟩
theorem Adu:∀j,(h:j<BP.length)→0<=BP[j].f/\BP[j].f<4/\0<=BP[j].t/\BP[j].t<4/\-1<=BP[j].l/\BP[j].l<=100000/\-1<=BP[j].r/\BP[j].r<=100000:=by
 have h:∀j:Fin 4,0<=BP[j].f/\BP[j].f<4/\0<=BP[j].t/\BP[j].t<4/\-1<=BP[j].l/\BP[j].l<=100000/\-1<=BP[j].r/\BP[j].r<=100000:=(by decide +kernel);exact fun j hj=>h ⟨j,hj⟩
theorem Ahk(x0 x1:Bs)(A Bk F:Option Addr)(c d g:Nat){B:Nat}{w0 w:World}(hw:Am w0)(hx:Ab w0 w)(I5:B<=w.heap.size)(hm:C7 B w A Bk F c d g c46 [x0,x1]) :
  Calls Tryz.prog 39 #[AO A Bk F c46 c d g,Ga 3 ⟨3,1⟩ ⟨1,3⟩ []] w
   (fun e w'=>∃A' B' F' c' d' g',e=.returned (.tuple #[AO A' B' F' AA c' d' g',.int .i64 0])/\C7 B w' A' B' F' c' d' g' AA [x1]/\Ab w0 w'):=by
 obtain⟨hM,hE,hR,hX⟩:=Pg w (.cells #[.slice A 4 c,.slice Bk 5 d,.slice F 2 g] 35) (.cells #[.int .i64 3,S (R 3),S (R 1),S (R 1),S (R 3),S [],S [],S []] 26) (.cells #[.slice none 0 0,.slice none 0 0,.slice none 0 0] 35)
 have GP:Iu w0 B (((w.alloc (.cells #[.slice A 4 c,.slice Bk 5 d,.slice F 2 g] 35)).alloc (.cells #[.int .i64 3,S (R 3),S (R 1),S (R 1),S (R 3),S [],S [],S []] 26)).alloc (.cells #[.slice none 0 0,.slice none 0 0,.slice none 0 0] 35)) w.heap.size (w.heap.size+1) (w.heap.size+1+1) A Bk F c d g x0 x1:=
  ⟨hM,hE,hR,hm.ext hX,hx.trans hX,by have:=hx.size;omega,by have:=hx.size;omega,by omega,AoH I5 hX.size⟩
 show Calls Tryz.prog 39 #[.agg #[.slice A 4 c,.slice Bk 5 d,.slice F 2 g],.agg #[.int .i64 3,S (R 3),S (R 1),S (R 1),S (R 3),S [],S [],S []]] w _;clear hm hM hE hR hX;go_enter Tryz.func39,Tryz.ntmps39
 go_upto_region 1 with fail
 generalize ((w.alloc (.cells #[.slice A 4 c,.slice Bk 5 d,.slice F 2 g] 35)).alloc (.cells #[.int .i64 3,S (R 3),S (R 1),S (R 1),S (R 3),S [],S [],S []] 26)).alloc (.cells #[.slice none 0 0,.slice none 0 0,.slice none 0 0] 35)=w3 at *;obtain⟨bm,AW⟩:=Ao3 w.heap.size;rw [←AW]at GP ⊢;clear AW I5;have FR:=Ao4 GP;clear GP
 go_upto_region 2 with fail
 obtain⟨V4,EE⟩:=Ao3 (w3.alloc (.cells #[.int .i64 0,.int .i64 0] 120));have he:=Ao6 w3 (.cells #[.int .i64 0,.int .i64 0] 120);have Ag:=(Ab.refl w3).alloc (.cells #[.int .i64 0,.int .i64 0] 120);have O8:=FR.out.ext.size;rw [←EE]at he Ag ⊢;have Hr:=Ao4 (FR.out.grow Ag);obtain⟨be,AB⟩:=Ao3 w3.heap.size;rw [←AB]at he O8 ⊢;clear EE Ag AB FR;have x1':V4.cell? ⟨bm+1,1,none⟩=some (S (R 3)):=Aa Hr.out.cX rfl;have x2':V4.cell? ⟨bm+1,2,none⟩=some (S (R 1)):=Aa Hr.out.cX rfl;have x3':V4.cell? ⟨bm+1,3,none⟩=some (S (R 1)):=Aa Hr.out.cX rfl;have x4':V4.cell? ⟨bm+1,4,none⟩=some (S (R 3)):=Aa Hr.out.cX rfl
 go_upto_region 3 with fail
 obtain⟨V5,Ta⟩:=Ao3 (V4.alloc (.cells #[S (R 3),S (R 1),S (R 1),S (R 3)] 24));have hp:=Ao6 V4 (.cells #[S (R 3),S (R 1),S (R 1),S (R 3)] 24);have Ae:=(Ab.refl V4).alloc (.cells #[S (R 3),S (R 1),S (R 1),S (R 3)] 24);rw [←Ta]at hp Ae ⊢;have Px:=Ao4 (Hr.out.grow Ae);replace he:=(Ae.block _ (Ao5 he)).trans he;obtain⟨bp,Au⟩:=Ao3 V4.heap.size;rw [←Au]at hp ⊢;clear Ta Ae Au Hr x1' x2' x3' x4'
 go_loopw [27] (fun iv wr=>∃i:Nat,iv=.int .i64 (i:Nat)/\i<=2/\Iu w0 B wr bm (bm+1) (bm+1+1) A Bk F c d g x0 x1/\wr.heap[be]?=some (.cells #[.int .i64 (if i=0 then 0 else 1),.int .i64 0] 120)/\wr.heap[bp]?=some (.cells #[S (R 3),S (R 1),S (R 1),S (R 3)] 24)) (fun iv _=>2-(intOf iv).toNat)
 case atStart=>exact⟨0,rfl,by omega,Px.out,he,hp⟩
 case round=>
  obtain⟨i,rfl,hi,hP,AB,Au⟩:=hrel;have HP:=Ao4 hP;clear hP;obtain rfl|rfl|rfl:i=0∨i=1∨i=2:=by omega
  ·have p0:wr.cell? ⟨bp,0,none⟩=some (S (R 3)):=Aa Au rfl;have p1:wr.cell? ⟨bp,1,none⟩=some (S (R 1)):=Aa Au rfl
   go_upto_region 5 with fail
   obtain⟨V7,Jk⟩:=Ao3 (wr.alloc (.cells #[S (R 3),S (R 1)] 24));have hz:=Ao6 wr (.cells #[S (R 3),S (R 1)] 24);have Aw:=(Ab.refl wr).alloc (.cells #[S (R 3),S (R 1)] 24);rw [←Jk]at hz Aw ⊢;have CJ:=Ao4 (HP.out.grow Aw);replace AB:=(Aw.block _ (Ao5 AB)).trans AB;replace Au:=(Aw.block _ (Ao5 Au)).trans Au;obtain⟨bs,B7⟩:=Ao3 wr.heap.size;rw [←B7]at hz ⊢;clear Jk Aw B7 HP p0 p1;have m0:V7.cell? ⟨bm,0,none⟩=some (.slice A 4 c):=Aa CJ.out.cM rfl;have m1:V7.cell? ⟨bm,1,none⟩=some (.slice Bk 5 d):=Aa CJ.out.cM rfl;have m2:V7.cell? ⟨bm,2,none⟩=some (.slice F 2 g):=Aa CJ.out.cM rfl;have z0:V7.cell? ⟨bs,0,none⟩=some (S (R 3)):=Aa hz rfl;have z1:V7.cell? ⟨bs,1,none⟩=some (S (R 1)):=Aa hz rfl;have lc:=CJ.out.loc1 hw;clear hz;(go_wp2_with fail);(with_reducible refine lc.mono ?_);rintro e w8 ⟨rfl,AX⟩;have Dy:=Ao4 (CJ.out.grow AX);replace AB:=(AX.block _ (Ao5 AB)).trans AB;replace Au:=(AX.block _ (Ao5 Au)).trans Au;clear lc AX CJ m0 m1 m2 z0 z1;have e0:=Aa (o:=0) AB rfl;have fe:=Aj (o:=0) AB;have HF:=Ao4 (And.intro (Dy.out.end (k:=0) AB O8 (.int .i64 1)) (And.intro (vv (.int .i64 1) AB) ((Cj (p:=⟨be,0,none⟩) (v:=.int .i64 1) (by exact CU Au AB (by decide))).trans Au)));clear AB Au;go_wp2;go_roundw
   case rel=>exact⟨1,rfl,by omega,HF.out⟩
   case measure=>simp [intOf]
  ·have p0:wr.cell? ⟨bp,2,none⟩=some (S (R 1)):=Aa Au rfl;have p1:wr.cell? ⟨bp,3,none⟩=some (S (R 3)):=Aa Au rfl
   go_upto_region 5 with fail
   obtain⟨V7,Jk⟩:=Ao3 (wr.alloc (.cells #[S (R 1),S (R 3)] 24));have hz:=Ao6 wr (.cells #[S (R 1),S (R 3)] 24);have Aw:=(Ab.refl wr).alloc (.cells #[S (R 1),S (R 3)] 24);rw [←Jk]at hz Aw ⊢;have CJ:=Ao4 (HP.out.grow Aw);replace AB:=(Aw.block _ (Ao5 AB)).trans AB;replace Au:=(Aw.block _ (Ao5 Au)).trans Au;obtain⟨bs,B7⟩:=Ao3 wr.heap.size;rw [←B7]at hz ⊢;clear Jk Aw B7 HP p0 p1;have m0:V7.cell? ⟨bm,0,none⟩=some (.slice A 4 c):=Aa CJ.out.cM rfl;have m1:V7.cell? ⟨bm,1,none⟩=some (.slice Bk 5 d):=Aa CJ.out.cM rfl;have m2:V7.cell? ⟨bm,2,none⟩=some (.slice F 2 g):=Aa CJ.out.cM rfl;have z0:V7.cell? ⟨bs,0,none⟩=some (S (R 1)):=Aa hz rfl;have z1:V7.cell? ⟨bs,1,none⟩=some (S (R 3)):=Aa hz rfl;have lc:=CJ.out.loc0 hw;clear hz;(go_wp2_with fail);(with_reducible refine lc.mono ?_);rintro e w8 ⟨rfl,AX⟩;have Dy:=Ao4 (CJ.out.grow AX);replace AB:=(AX.block _ (Ao5 AB)).trans AB;replace Au:=(AX.block _ (Ao5 Au)).trans Au;clear lc AX CJ m0 m1 m2 z0 z1;have e0:=Aa (o:=1) AB rfl;have fe:=Aj (o:=1) AB;have HF:=Ao4 (And.intro (Dy.out.end (k:=1) AB O8 (.int .i64 0)) (And.intro (vw (.int .i64 0) AB) ((Cj (p:=⟨be,1,none⟩) (v:=.int .i64 0) (by exact CU Au AB (by decide))).trans Au)));clear AB Au;go_wp2;go_roundw
   case rel=>exact⟨2,rfl,by omega,HF.out⟩
   case measure=>simp [intOf]
  ·replace AB:wr.heap[be]?=some (.cells #[.int .i64 1,.int .i64 0] 120):=AB;clear Au;have e0:wr.cell? ⟨be,0,none⟩=some (.int .i64 1):=Aa AB rfl;have e1:wr.cell? ⟨be,1,none⟩=some (.int .i64 0):=Aa AB rfl;have hl0:(0:Int)<2:=by omega
   go_upto_region 12 with fail
   have X:=Ab.refl wr;have SO:=fun (w':World) (h:Ab wr w')=>(⟨h.cellS e0,h.cellS e1⟩:_/\_);clear AB
   go_cut [12,13] (fun v12 v13 wx=>∃ba bb,v12=.pointer (some ⟨ba,0,none⟩)/\v13=.pointer (some ⟨bb,0,none⟩)/\wx.heap[ba]?=some (.cells #[.int .i64 1] 3)/\wx.heap[bb]?=some (.cells #[.int .i64 0] 3)/\Ab wr wx)
   case first=>
    go_region_held3 (fun w'=>w'.cell? ⟨be,0,none⟩=some (.int .i64 1)/\w'.cell? ⟨be,1,none⟩=some (.int .i64 0))
     ((refine SO _ ?_;repeat (first|exact X|(with_reducible refine Ab.drew ?_)|(with_reducible refine Ab.alloc ?_ _)|(with_reducible refine Ab.setCell ?_ (by simp) _))))
     (fail)
    all_goals go_wp2
    all_goals go_meet
    all_goals
     first
      | (have tn:=Y2 wr (.cells #[.int .i64 1] 3) (.cells #[.int .i64 0] 3);exact⟨_,_,rfl,rfl,tn.1,tn.2.1,tn.2.2⟩)
      | (have tn:=Y2 wr (.cells #[.int .i64 0] 3) (.cells #[.int .i64 1] 3);exact⟨_,_,rfl,rfl,tn.2.1,tn.1,tn.2.2⟩)
   case rest=>
    obtain⟨ba,bb,rfl,rfl,Av,Br,Ae⟩:=hcut;have Ee:=Ao4 (HP.out.grow Ae);clear SO X e0 e1 Ae HP;have j0:wc.cell? ⟨ba,0,none⟩=some (.int .i64 1):=Aa Av rfl;have j1:wc.cell? ⟨bb,0,none⟩=some (.int .i64 0):=Aa Br rfl;have j2:wc.cell? ⟨bm,1,none⟩=some (.slice Bk 5 d):=Aa Ee.out.cM rfl;have ce:Calls Tryz.prog 16 #[.slice Bk 5 d] wc (fun e w'=>∃v,e=.returned v/\w'.ownsRow wc.heap.size 51 4 v 5 (A9 c46.eds)/\Ab wc w'):=rL c46.eds Bk d wc Ee.out.own.rd.2.2.1 (by decide);(go_wp2_with fail);(with_reducible refine ce.mono ?_);rintro e w10 ⟨v,rfl,ho10,hx10⟩;obtain⟨A1,c1,rfl⟩:=LY (by omega) ho10
    have de:Calls Tryz.prog 70 #[.slice A1 5 c1,.func (.func 71) #[] #[.pointer (some ⟨ba,0,none⟩),.pointer (some ⟨bb,0,none⟩)]] w10 (UP (So 1 0) wc.heap.size c46.eds w10):=
     Adc (cb:=#[.pointer (some ⟨ba,0,none⟩),.pointer (some ⟨bb,0,none⟩)]) Ad7 (So 1 0) wc.heap.size c46.eds A1 c1 w10 ho10 (by decide) (fun e _ W hk=>Ahh e 1 0 (((hk wc hx10 (Ao7 _)).block _ (Ao5 Av)).trans Av) (((hk wc hx10 (Ao7 _)).block _ (Ao5 Br)).trans Br))
    clear ce;(go_wp2_with fail);(with_reducible refine de.mono ?_);rintro e w11 ⟨⟨A2,c2,rfl,hr2,hc2,hcm2⟩,hk⟩;have Es:Ab wc w11:=hk wc hx10 (Ao7 _);rw [AcW]at hr2 hc2 ⊢;replace hc2:4<=c2:=hc2;rw [show BP.length=4 from rfl];have Hq:=Ao4 (Ee.out.grow Es);replace Av:=(Es.block _ (Ao5 Av)).trans Av;replace Br:=(Es.block _ (Ao5 Br)).trans Br;clear de hk ho10 hx10 j0 j1 j2 Es Ee;have j2:w11.cell? ⟨bm,1,none⟩=some (.slice Bk 5 d):=Aa Hq.out.cM rfl
    go_upto_region 19 with fail
    clear j2;have y0:w11.cell? ⟨bm,2,none⟩=some (.slice F 2 g):=Aa Hq.out.cM rfl;have y1:w11.cell? ⟨bb,0,none⟩=some (.int .i64 0):=Aa Br rfl;have SO:=fun (w':World) (h:Ab w11 w')=>(⟨h.cellS y0,h.cellS y1⟩:_/\_);have cs:∀W,Ab w11 W→Calls Tryz.prog 17 #[.slice F 2 g] W (fun e w'=>∃v,e=.returned v/\w'.ownsRow W.heap.size 9 1 v 2 ([x0,x1].map S)/\Ab W w'):=fun W h=>rM [x0,x1] F g W (Hq.out.own.rd.2.2.2.1.ext h) (by simp)
    have ds:∀(g3 c3:Nat) (W:World) (bs:Nat),W.ownsRow bs 9 1 (.slice (some ⟨g3,0,none⟩) 2 c3) 2 ([x0,x1].map S)→Calls Tryz.prog 73 #[.slice (some ⟨g3,0,none⟩) 2 c3,.int .i64 0,.int .i64 1] W (fun e w'=>e=.returned (.slice (some ⟨g3,0,none⟩) 1 c3)/\w'.ownsRow bs 9 1 (.slice (some ⟨g3,0,none⟩) 1 c3) 1 ([x1].map S)/\GB bs W w'/\AD (fun q=>q=g3) W w'):=
     fun g3 c3 W bs h=>Ade bs [x0,x1] g3 c3 0 1 W h (by decide) (by simp)
    have X:=Ab.refl w11;have iw:IntKind.wrap .i64 1=1:=(by decide);have hO:=Ao6 w11 (.cells #[.slice none 0 0,.slice none 0 0,.slice none 0 0] 35);have hbl:bm<w11.heap.size:=Ao5 Hq.out.cM
    go_cut [16] (fun v16 wx=>∃bo g3 c3,v16=.pointer (some ⟨bo,0,none⟩)/\wx.heap[bo]?=some (.cells #[.slice none 0 0,.slice none 0 0,.slice (some ⟨g3,0,none⟩) 1 c3] 35)/\wx.ownsRow w11.heap.size 9 1 (.slice (some ⟨g3,0,none⟩) 1 c3) 1 ([x1].map S)/\w11.heap.size<=bo/\Ab w11 wx)
    case first=>
     go_region_held3 (fun w'=>w'.cell? ⟨bm,2,none⟩=some (.slice F 2 g)/\w'.cell? ⟨bb,0,none⟩=some (.int .i64 0))
      (first|exact SS|with_reducible exact SO _ X|with_reducible exact SO _ X.drew|with_reducible exact SO _ (X.alloc _)|with_reducible exact SO _ (X.drew.alloc _)|with_reducible exact SO _ (X.alloc _).drew)
      (first
       | ((with_reducible refine(ds g3 c3 Ex w11.heap.size ho).mono ?_);rintro e Mq ⟨rfl,Ig,hk3,hb3⟩;replace X:Ab w11 Mq:=hk3 _ X (Ao7 _);first | (have DG:=(hb3.block _ (Ao5 O3) (fun e0=>BQ ho O3 (by decide) (by rw [e0];rfl))).trans O3;have g0:=Aa (o:=0) DG rfl;have g1:=Aa (o:=1) DG rfl;have g2:=Aa (o:=2) DG rfl;have I4:=Aj (o:=0) DG;have g4:=Aj (o:=1) DG;have g5:=Aj (o:=2) DG;have SS:=SO _ (CL X (show w11.heap.size<=w11.heap.size from Ao7 _) (.slice none 0 0) (.slice none 0 0) (.slice (some ⟨g3,0,none⟩) 1 c3))) | skip)
       | ((with_reducible refine(ds g3 c3 _ w11.heap.size (AL ho ((Ab.refl Ex).alloc (.cells #[.slice none 0 0,.slice none 0 0,.slice none 0 0] 35)))).mono ?_);rintro e Mq ⟨rfl,Ig,hk3,hb3⟩;have X0:=X;replace X:Ab w11 Mq:=hk3 _ (X.alloc _) (Ao7 _);have DG:=(hb3.block _ (Ao5 (Ao6 Ex (.cells #[.slice none 0 0,.slice none 0 0,.slice none 0 0] 35))) (fun e0=>BQ (AL ho ((Ab.refl Ex).alloc _)) (Ao6 Ex (.cells #[.slice none 0 0,.slice none 0 0,.slice none 0 0] 35)) (by decide) (by rw [e0];rfl))).trans (Ao6 Ex (.cells #[.slice none 0 0,.slice none 0 0,.slice none 0 0] 35));have g0:=Aa (o:=0) DG rfl;have g1:=Aa (o:=1) DG rfl;have g2:=Aa (o:=2) DG rfl;have I4:=Aj (o:=0) DG;have g4:=Aj (o:=1) DG;have g5:=Aj (o:=2) DG;have SS:=SO _ (CL X (show w11.heap.size<=Ex.heap.size from X0.size) (.slice none 0 0) (.slice none 0 0) (.slice (some ⟨g3,0,none⟩) 1 c3)))
       | ((with_reducible refine(cs _ X.drew).mono ?_);rintro e Ex ⟨v,rfl,ho,x12⟩;obtain⟨A3,c3,rfl⟩:=LY (by omega) ho;obtain⟨g3,rfl⟩:=Yh ho;replace ho:=IK ho X.drew.size;replace X:Ab w11 Ex:=X.drew.trans x12)
       | ((with_reducible refine(cs _ (X.alloc (.cells #[.slice none 0 0,.slice none 0 0,.slice none 0 0] 35)).drew).mono ?_);rintro e Ex ⟨v,rfl,ho,x12⟩;obtain⟨A3,c3,rfl⟩:=LY (by omega) ho;obtain⟨g3,rfl⟩:=Yh ho;have O3:=(x12.block _ (Ao5 hO)).trans hO;replace ho:=IK ho (X.alloc (.cells #[.slice none 0 0,.slice none 0 0,.slice none 0 0] 35)).drew.size;replace X:Ab w11 Ex:=(X.alloc _).drew.trans x12))
     all_goals go_wp2
     all_goals go_meet
     all_goals
      first
       | exact⟨w11.heap.size,g3,c3,rfl,DT _ _ _ DG,Eu Ig DG (by decide) _ _ _,Ao7 _,CL X (Ao7 _) _ _ _⟩
       | exact⟨Ex.heap.size,g3,c3,rfl,DT _ _ _ DG,Eu Ig DG (by decide) _ _ _,X0.size,CL X X0.size _ _ _⟩
       | exact⟨Mq.heap.size,g3,c3,rfl,Ao6 Mq _,AL Ig ((Ab.refl Mq).alloc _),X.size,X.alloc _⟩
    case rest=>
     obtain⟨bo,g3,c3,rfl,D4,Gx,xZ,Uh⟩:=hcut;clear X SO y0 y1 hO cs ds hbl;have hmm:=@run_makeMap Tryz.prog;have Jy:=Ao6 wc (.map #[] 0);have Cf:=Ao6 (wc.alloc (.map #[] 0)) (.cells #[.map (some wc.heap.size)] 130);have E1:=(Ab.refl wc).alloc (.map #[] 0);have E2:=(Ab.refl (wc.alloc (.map #[] 0))).alloc (.cells #[.map (some wc.heap.size)] 130);rw [AoE]at Cf
     have bC:DN w11 ((wc.alloc (.map #[] 0)).alloc (.cells #[.map (some wc.heap.size)] 130)) bo (wc.heap.size+1) wc.heap.size (.slice none 0 0) (.slice none 0 0) (.slice (some ⟨g3,0,none⟩) 1 c3) [x1] [] [] []:=
      ⟨Uh.trans (E1.trans E2),((E1.trans E2).block _ (Ao5 D4)).trans D4,⟨rfl,.inl ⟨rfl,rfl⟩⟩,⟨rfl,.inl ⟨rfl,rfl⟩⟩,AL Gx (E1.trans E2),Cf,(E2.block _ (Ao5 Jy)).trans Jy,⟨xZ,Uh.size⟩⟩
     go_upto_region 21 with fail
     generalize (wc.alloc (.map #[] 0)).alloc (.cells #[.map (some wc.heap.size)] 130)=V6 at *;obtain⟨bh,xN⟩:=Ao3 wc.heap.size;rw [←xN]at bC ⊢;clear hmm Jy Cf E1 E2 D4 Gx xZ Uh xN;have HJ0:=Ao4 bC;clear bC;have Pn:=Ao4 Av;have UT:=Ao4 Br;clear Av Br
     go_upto_region 23 with fail
     go_loopw [83] (fun iv wr=>∃(j:Nat) (P E:Value),iv=.int .i64 (j:Nat)/\j<=4/\DN w11 wr bo (bh+1) bh P E (.slice (some ⟨g3,0,none⟩) 1 c3) [x1] (BL j).1 (BL j).2.1 (BL j).2.2) (fun iv _=>4-(intOf iv).toNat)
     case atStart=>exact⟨0,_,_,rfl,by omega,HJ0.out⟩
     case round=>
      obtain⟨j,P,E,rfl,hj,hJ⟩:=hrel;have HJ:=Ao4 hJ;clear hJ;by_cases hlt:j<4
      ·have Eo:j<BP.length:=hlt;obtain⟨b,o,rfl,hg1,hg2,hg3,hg4⟩:=Mf (hr2.ext HJ.out.ext) Eo;have hin:=Adu j Eo;obtain⟨ye,OU⟩:=Ao3 (BP[j]);have hgd:BP.getD j ⟨0,0,0,0⟩=ye:=(by rw [OU,List.getD_eq_getElem?_getD,AoC Eo];rfl);rw [←OU]at hg1 hg2 hg3 hg4 hin;obtain⟨hs1,hs2⟩:=Aeb j hlt;clear OU Eo;obtain⟨yf,yt,yl,yr⟩:=ye
       dsimp only at hg1 hg2 hg3 hg4 hin
       obtain⟨z1,Kv,Pb,z2,XS,Yi,hz1,hz2,Gx,AfT⟩:=Aea j _ hgd
       dsimp only at hz1 hz2 Gx
       obtain⟨i1,i2,i3,i4,i5,i6,i7,i8⟩:=hin;have AfV:Pb.length<=100000:=(by omega);clear hgd AfT;have My:=Ao4 Gx;clear Gx;obtain⟨nm0,fJ⟩:=Ao3 ((BL j).1);obtain⟨ps0,Xn⟩:=Ao3 ((BL j).2.1);obtain⟨MO,WS⟩:=Ao3 ((BL j).2.2);have ze:=Ao4 WS;have hJ:=HJ.out;rw [←fJ,←Xn,←WS]at hJ;rw [←fJ,←Xn]at hz1;rw [←Xn]at hs1;rw [←WS]at hs2;clear fJ Xn WS HJ;obtain⟨n,hn⟩:=Ao3 MO.length;obtain⟨oE,cE,rfl,-,-,-⟩:=Af.of_own' (by omega) hJ.eds;rw [←hn]at hJ hs2;have HN:=Ao4 hn;clear hn;have HJ:=Ao4 hJ;clear hJ;have hj0:(0:Int)<=(j:Int):=(by omega);have hj4:(j:Int)<4:=(by omega);have Cf:n<200000:=by omega
       have cA:∀{W:World} {P:Value},DN w11 W bo (bh+1) bh P (.slice oE n cE) (.slice (some ⟨g3,0,none⟩) 1 c3) [x1] nm0 ps0 MO→Calls Tryz.prog 74 #[.int .i64 yf,.pointer (some ⟨bh+1,0,none⟩),.pointer (some ⟨bo,0,none⟩),.pointer (some ⟨bm,0,none⟩)] W (RH w11 W bo (bh+1) bh (.slice oE n cE) (.slice (some ⟨g3,0,none⟩) 1 c3) [x1] MO z1 Kv Pb):=fun h=>by have:=jy h c46.pts Hq.out.cM Hq.out.own.rd.2.1 yf i1 i2 (by omega);rw [hz1]at this;exact this
       have cB:∀{W:World} {P:Value},DN w11 W bo (bh+1) bh P (.slice oE n cE) (.slice (some ⟨g3,0,none⟩) 1 c3) [x1] Kv Pb MO→Calls Tryz.prog 74 #[.int .i64 yt,.pointer (some ⟨bh+1,0,none⟩),.pointer (some ⟨bo,0,none⟩),.pointer (some ⟨bm,0,none⟩)] W (RH w11 W bo (bh+1) bh (.slice oE n cE) (.slice (some ⟨g3,0,none⟩) 1 c3) [x1] MO z2 XS Yi):=fun h=>by have:=jy h c46.pts Hq.out.cM Hq.out.own.rd.2.1 yt i3 i4 AfV;rw [hz2]at this;exact this
       have cC:∀{W:World},Ab w11 W→Calls Tryz.prog 72 #[.int .i64 yl,.pointer (some ⟨bb,0,none⟩),.pointer (some ⟨ba,0,none⟩)] W (AI (KD 1 0 yl) W):=fun h=>jx yl 1 0 ⟨i5,i6⟩ (by omega) ((h.block _ (Ao5 Pn.out)).trans Pn.out) ((h.block _ (Ao5 UT.out)).trans UT.out)
       have cD:∀{W:World},Ab w11 W→Calls Tryz.prog 72 #[.int .i64 yr,.pointer (some ⟨bb,0,none⟩),.pointer (some ⟨ba,0,none⟩)] W (AI (KD 1 0 yr) W):=fun h=>jx yr 1 0 ⟨i7,i8⟩ (by omega) ((h.block _ (Ao5 Pn.out)).trans Pn.out) ((h.block _ (Ao5 UT.out)).trans UT.out)
       obtain⟨sl,D8⟩:=Ao3 (KD 1 0 yl);obtain⟨sr,Qz⟩:=Ao3 (KD 1 0 yr);have Gx:=My.out;rw [←D8,←Qz,←ze.out]at Gx;rw [←D8]at cC;rw [←Qz]at cD;clear D8 Qz My hz1 hz2;have My:=Ao4 Gx;clear Gx
       go_upto_region 25 with fail
       have ve:=Ao6 wr (.cells #[.int .i64 yf,.int .i64 yt,.int .i64 yl,.int .i64 yr] 51);have Q8:=(Ab.refl wr).alloc (.cells #[.int .i64 yf,.int .i64 yt,.int .i64 yl,.int .i64 yr] 51);have vC:∀k,(Value.slice oE n cE).ownBlock=some k→k<wr.heap.size:=fun k hk=>(HJ.out.eds.lt k hk).2;have nD:=Ao4 (HJ.out.grow Q8);clear Q8 hg1 hg2 hg3 hg4 i1 i2 i3 i4 i5 i6 i7 i8;generalize wr.alloc (.cells #[.int .i64 yf,.int .i64 yt,.int .i64 yl,.int .i64 yr] 51)=V7 at *;obtain⟨bE,xF⟩:=Ao3 wr.heap.size;rw [←xF]at ve vC ⊢;clear xF;have q0:V7.cell? ⟨bE,0,none⟩=some (.int .i64 yf):=Aa ve rfl;have q1:V7.cell? ⟨bE,1,none⟩=some (.int .i64 yt):=Aa ve rfl;have q2:V7.cell? ⟨bE,2,none⟩=some (.int .i64 yl):=Aa ve rfl;have q3:V7.cell? ⟨bE,3,none⟩=some (.int .i64 yr):=Aa ve rfl;have o0:V7.cell? ⟨bo,1,none⟩=some (.slice oE n cE):=Aa nD.out.cO rfl;have hnE:(Value.slice oE n cE).ownBlock≠some bE:=fun h=>Nat.lt_irrefl _ (vC _ h);have SO:=fun (w':World) (h:w'.heap[bE]?=some (.cells #[.int .i64 yf,.int .i64 yt,.int .i64 yl,.int .i64 yr] 51)) (h2:w'.cell? ⟨bo,1,none⟩=some (.slice oE n cE))=>(⟨Aa h rfl,Aa h rfl,Aa h rfl,Aa h rfl,h2⟩:w'.cell? ⟨bE,0,none⟩=some (.int .i64 yf)/\w'.cell? ⟨bE,1,none⟩=some (.int .i64 yt)/\w'.cell? ⟨bE,2,none⟩=some (.int .i64 yl)/\w'.cell? ⟨bE,3,none⟩=some (.int .i64 yr)/\w'.cell? ⟨bo,1,none⟩=some (.slice oE n cE));have X:Ab V7 V7.drew:=(Ab.refl V7).drew;refine AlZ (T:=[22]) (S:=fun w'=>w'.cell? ⟨bE,0,none⟩=some (.int .i64 yf)/\w'.cell? ⟨bE,1,none⟩=some (.int .i64 yt)/\w'.cell? ⟨bE,2,none⟩=some (.int .i64 yl)/\w'.cell? ⟨bE,3,none⟩=some (.int .i64 yr)/\w'.cell? ⟨bo,1,none⟩=some (.slice oE n cE)) (by kernel_rfl) (SO _ ve o0) (fun hHeld=>?_);refine Gh (i:=0) (v:=?_) rfl (by kernel_rfl) (fun _ _ _ h=>h) hHeld (by rfl) ?_ ?_
       rotate_left
       ·(intro w hSw;(try dsimp only at hSw);go_simp;try (with_reducible rfl))
       try simp only [Act.put,List.setIfInBounds_toArray,List.set_cons_zero,List.set_cons_succ]
       refine Gh (i:=1) (v:=?_) rfl (by kernel_rfl) (fun _ _ _ h=>h) hHeld (by rfl) ?_ ?_
       rotate_left
       ·(intro w hSw;(try dsimp only at hSw);go_simp;try (with_reducible rfl))
       try simp only [Act.put,List.setIfInBounds_toArray,List.set_cons_zero,List.set_cons_succ]
       refine Gh (i:=2) (v:=?_) rfl (by kernel_rfl) (fun _ _ _ h=>h) hHeld (by rfl) ?_ ?_
       rotate_left
       ·(intro w hSw;(try dsimp only at hSw);go_simp;try (with_reducible rfl))
       try simp only [Act.put,List.setIfInBounds_toArray,List.set_cons_zero,List.set_cons_succ]
       refine Gh (i:=3) (v:=?_) rfl (by kernel_rfl) (fun _ _ _ h=>h) hHeld (by rfl) ?_ ?_
       rotate_left
       ·(intro w hSw;(try dsimp only at hSw);go_simp;try (with_reducible rfl))
       try simp only [Act.put,List.setIfInBounds_toArray,List.set_cons_zero,List.set_cons_succ]
       refine Gh (i:=4) (v:=?_) rfl (by kernel_rfl) (fun _ _ _ h=>h) hHeld (by rfl) ?_ ?_
       rotate_left
       ·(intro w hSw;(try dsimp only at hSw);go_simp;try (with_reducible rfl))
       try simp only [Act.put,List.setIfInBounds_toArray,List.set_cons_zero,List.set_cons_succ]
       refine Gh (i:=6) (v:=?_) rfl (by kernel_rfl) (fun _ _ _ h=>h) hHeld (by rfl) ?_ ?_
       rotate_left
       ·(intro w hSw;(try dsimp only at hSw);go_simp;try (with_reducible rfl))
       try simp only [Act.put,List.setIfInBounds_toArray,List.set_cons_zero,List.set_cons_succ]
       refine Gh (i:=7) (v:=?_) rfl (by kernel_rfl) (fun _ _ _ h=>h) hHeld (by rfl) ?_ ?_
       rotate_left
       ·(intro w hSw;(try dsimp only at hSw);go_simp;try (with_reducible rfl))
       try simp only [Act.put,List.setIfInBounds_toArray,List.set_cons_zero,List.set_cons_succ]
       refine Gh (i:=8) (v:=?_) rfl (by kernel_rfl) (fun _ _ _ h=>h) hHeld (by rfl) ?_ ?_
       rotate_left
       ·(intro w hSw;(try dsimp only at hSw);go_simp;try (with_reducible rfl))
       try simp only [Act.put,List.setIfInBounds_toArray,List.set_cons_zero,List.set_cons_succ]
       refine Gh (i:=10) (v:=?_) rfl (by kernel_rfl) (fun _ _ _ h=>h) hHeld (by rfl) ?_ ?_
       rotate_left
       ·(intro w hSw;(try dsimp only at hSw);go_simp;try (with_reducible rfl))
       try simp only [Act.put,List.setIfInBounds_toArray,List.set_cons_zero,List.set_cons_succ]
       refine Gh (i:=11) (v:=?_) rfl (by kernel_rfl) (fun _ _ _ h=>h) hHeld (by rfl) ?_ ?_
       rotate_left
       ·(intro w hSw;(try dsimp only at hSw);go_simp;try (with_reducible rfl))
       try simp only [Act.put,List.setIfInBounds_toArray,List.set_cons_zero,List.set_cons_succ]
       refine Gh (i:=12) (v:=?_) rfl (by kernel_rfl) (fun _ _ _ h=>h) hHeld (by rfl) ?_ ?_
       rotate_left
       ·(intro w hSw;(try dsimp only at hSw);go_simp;try (with_reducible rfl))
       try simp only [Act.put,List.setIfInBounds_toArray,List.set_cons_zero,List.set_cons_succ]
       refine Gh (i:=14) (v:=?_) rfl (by kernel_rfl) (fun _ _ _ h=>h) hHeld (by rfl) ?_ ?_
       rotate_left
       ·(intro w hSw;(try dsimp only at hSw);go_simp;try (with_reducible rfl))
       try simp only [Act.put,List.setIfInBounds_toArray,List.set_cons_zero,List.set_cons_succ]
       refine Gh (i:=15) (v:=?_) rfl (by kernel_rfl) (fun _ _ _ h=>h) hHeld (by rfl) ?_ ?_
       rotate_left
       ·(intro w hSw;(try dsimp only at hSw);go_simp;try (with_reducible rfl))
       try simp only [Act.put,List.setIfInBounds_toArray,List.set_cons_zero,List.set_cons_succ]
       refine Gh (i:=16) (v:=?_) rfl (by kernel_rfl) (fun _ _ _ h=>h) hHeld (by rfl) ?_ ?_
       rotate_left
       ·(intro w hSw;(try dsimp only at hSw);go_simp;try (with_reducible rfl))
       try simp only [Act.put,List.setIfInBounds_toArray,List.set_cons_zero,List.set_cons_succ]
       refine OY (i:=5) rfl (by kernel_rfl) (fun K hK=>?_)
       go_simp
       (with_reducible refine(cA (nD.out.grow X)).mono ?_);rintro e w5 ⟨P5,rfl,hJ5,hk5⟩;have HJ5:=Ao4 hJ5;have wu:=hk5 bE _ ve;have o5:w5.cell? ⟨bo,1,none⟩=some (.slice oE n cE):=Aa hJ5.cO rfl;clear hJ5 hk5;refine hK.out _ _ (fun _=>SO _ wu o5) (fun hH=>?_);have hHeld:=hH rfl;clear hK K hH
       try simp only [Act.put,List.setIfInBounds_toArray,List.set_cons_zero,List.set_cons_succ]
       refine OY (i:=9) rfl (by kernel_rfl) (fun K hK=>?_)
       go_simp
       (with_reducible refine(cB HJ5.out).mono ?_);rintro e w6 ⟨P6,rfl,hJ6,hk6⟩;have nE:=Ao4 hJ6;have mE:=hk6 bE _ wu;have o6:w6.cell? ⟨bo,1,none⟩=some (.slice oE n cE):=Aa hJ6.cO rfl;clear hJ6 hk6;refine hK.out _ _ (fun _=>SO _ mE o6) (fun hH=>?_);have hHeld:=hH rfl;clear hK K hH
       try simp only [Act.put,List.setIfInBounds_toArray,List.set_cons_zero,List.set_cons_succ]
       refine OY (i:=13) rfl (by kernel_rfl) (fun K hK=>?_)
       go_simp
       (with_reducible refine(cC nE.out.ext).mono ?_);rintro e w7 ⟨rfl,x7⟩;have YO:=Ao4 (nE.out.grow x7);have mF:=(x7.block _ (Ao5 mE)).trans mE;have o7:w7.cell? ⟨bo,1,none⟩=some (.slice oE n cE):=Aa YO.out.cO rfl;refine hK.out _ _ (fun _=>SO _ mF o7) (fun hH=>?_);have hHeld:=hH rfl;clear hK K hH
       try simp only [Act.put,List.setIfInBounds_toArray,List.set_cons_zero,List.set_cons_succ]
       refine OY (i:=17) rfl (by kernel_rfl) (fun K hK=>?_)
       go_simp
       (with_reducible refine(cD YO.out.ext).mono ?_);rintro e w8 ⟨rfl,x8⟩;have Ry:=Ao4 (YO.out.grow x8);have Rp:=(x8.block _ (Ao5 mF)).trans mF;have o8:w8.cell? ⟨bo,1,none⟩=some (.slice oE n cE):=Aa Ry.out.cO rfl;have o9:(w8.alloc (.cells #[.int .i64 z1,.int .i64 z2,.int .i64 sl,.int .i64 sr] 51)).cell? ⟨bo,1,none⟩=some (.slice oE n cE):=Aa (Ry.out.grow ((Ab.refl w8).alloc _)).cO rfl;have HO8:=Ao4 (show w8.ownsRow w11.heap.size 51 4 (.slice oE n cE) n (A9 MO)by have:=Ry.out.eds;rw [←HN.out]at this;exact this);refine hK.out _ _ (fun _=>SO _ Rp o8) (fun hH=>?_);have hHeld:=hH rfl;clear hK K hH
       try simp only [Act.put,List.setIfInBounds_toArray,List.set_cons_zero,List.set_cons_succ]
       refine Gh (i:=18) (v:=?_) rfl (by kernel_rfl) (fun _ _ _ h=>h) hHeld (by rfl) ?_ ?_
       rotate_left
       ·(intro w hSw;(try dsimp only at hSw);go_simp;try (with_reducible rfl))
       try simp only [Act.put,List.setIfInBounds_toArray,List.set_cons_zero,List.set_cons_succ]
       refine OY (i:=19) rfl (by kernel_rfl) (fun K hK=>?_)
       go_simp
       refine hK.out _ _ (fun _=>SO _ ((((Ab.refl w8).alloc (.cells #[.int .i64 z1,.int .i64 z2,.int .i64 sl,.int .i64 sr] 51)).block _ (Ao5 Rp)).trans Rp) o9) (fun hH=>?_);have hHeld:=hH rfl;clear hK K hH
       try simp only [Act.put,List.setIfInBounds_toArray,List.set_cons_zero,List.set_cons_succ]
       refine OY (i:=20) rfl (by kernel_rfl) (fun K hK=>?_);refine Alj rfl _ _ rfl _ w11.heap.size (.slice oE n cE) n MO rfl (AL HO8.out ((Ab.refl w8).alloc _)) Cf ⟨z1,z2,sl,sr⟩ w8.heap.size (Ao6 w8 _) rfl (AoH Ry.out.ext.size ((Ab.refl w8).alloc _).size) ?_;intro v9 w9 CE DW;obtain⟨mr,qO,rfl,-,-,-⟩:=Af.of_own' (by omega) CE;obtain⟨Gs,SN⟩:=(Ry.out.grow ((Ab.refl w8).alloc _)).ed DW (es':=MO ++ [⟨z1,z2,sl,sr⟩]) (by rw [List.length_append,←HN.out];exact CE);have ve9:=(DW.block bE (AoG (Ao5 Rp) ((Ab.refl w8).alloc _).size) (fun e=>hnE e.symm)).trans ((((Ab.refl w8).alloc _).block _ (Ao5 Rp)).trans Rp);have j0:w9.cell? ⟨bo,1,none⟩=some (.slice oE n cE):=Aa Gs rfl;have j1:=Aj (o:=1) Gs;have HJ9:=Ao4 SN;clear SN DW CE;refine hK.out _ _ (fun _=>SO _ ve9 j0) (fun hH=>?_);have hHeld:=hH rfl;clear hK K hH
       try simp only [Act.put,List.setIfInBounds_toArray,List.set_cons_zero,List.set_cons_succ]
       refine Gh (i:=21) (v:=?_) rfl (by kernel_rfl) (fun _ _ _ h=>h) hHeld (by rfl) ?_ ?_
       rotate_left
       ·(intro w hSw;(try dsimp only at hSw);go_simp;try (with_reducible rfl))
       try simp only [Act.put,List.setIfInBounds_toArray,List.set_cons_zero,List.set_cons_succ]
       refine OY (i:=22) rfl (by kernel_rfl) (fun K hK=>?_)
       go_simp
       refine hK.out _ _ (fun h=>by simp at h) (fun _=>?_);clear hK K hHeld
       try simp only [Act.put,List.setIfInBounds_toArray,List.set_cons_zero,List.set_cons_succ]
       refine Ads (by kernel_rfl) ?_ _
       all_goals (
        clear j0 j1;generalize w9.setCell ⟨bo,1,none⟩ (.slice mr (n+1) qO)=MD at *;go_wp2;go_roundw
        case rel=>exact⟨j+1,P6,.slice mr (n+1) qO,by go_num,by omega,by rw [My.out];exact HJ9.out⟩
        case measure=>simp [intOf];omega)
      ·obtain rfl:j=4:=(by omega);obtain⟨f1,f2⟩:=AdZ;have hJ:=HJ.out;rw [f1,f2]at hJ;obtain⟨oP,cP,rfl,-,-,-⟩:=Af.of_own' (by omega) hJ.pts;obtain⟨oE,cE,rfl,-,-,-⟩:=Af.of_own' (by omega) hJ.eds;replace hJ:DN w11 wr bo (bh+1) bh (.slice oP 4 cP) (.slice oE 4 cE) (.slice (some ⟨g3,0,none⟩) 1 c3) [x1] (BL 4).1 AA.pts AA.eds:=hJ;have k0:wr.cell? ⟨bo,0,none⟩=some (.slice oP 4 cP):=Aa hJ.cO rfl;have k1:wr.cell? ⟨bo,1,none⟩=some (.slice oE 4 cE):=Aa hJ.cO rfl;have k2:wr.cell? ⟨bo,2,none⟩=some (.slice (some ⟨g3,0,none⟩) 1 c3):=Aa hJ.cO rfl;have AK:=(hJ.ext.block _ (Ao5 Hq.out.cR)).trans Hq.out.cR;have g0:=Aa (o:=0) AK rfl;have g1:=Aa (o:=1) AK rfl;have g2:=Aa (o:=2) AK rfl;have I4:=Aj (o:=0) AK;have g4:=Aj (o:=1) AK;have g5:=Aj (o:=2) AK;have Bd:=DT (.slice oP 4 cP) (.slice oE 4 cE) (.slice (some ⟨g3,0,none⟩) 1 c3) AK;have t1:=Aa (o:=0) Bd rfl;have t2:=Aa (o:=1) Bd rfl;have t3:=Aa (o:=2) Bd rfl;have hB:B<=w11.heap.size:=Hq.out.szb.2.2.2;have CH:=Ao4 (show C7 B (((wr.setCell ⟨bm+1+1,0,none⟩ (.slice oP 4 cP)).setCell ⟨bm+1+1,1,none⟩ (.slice oE 4 cE)).setCell ⟨bm+1+1,2,none⟩ (.slice (some ⟨g3,0,none⟩) 1 c3)) oP oE (some ⟨g3,0,none⟩) cP cE c3 AA [x1] from⟨Eu (IK hJ.pts hB) AK (by decide) _ _ _,Eu (IK hJ.eds hB) AK (by decide) _ _ _,Eu (IK hJ.fac hB) AK (by decide) _ _ _,rfl⟩);have YK:=Ao4 (CL (Hq.out.ext.trans hJ.ext) Hq.out.szb.2.1 (.slice oP 4 cP) (.slice oE 4 cE) (.slice (some ⟨g3,0,none⟩) 1 c3));clear hJ HJ AK Bd f1 f2 hB;go_wp2;refine bodyPost_ret (v:=.tuple #[.agg #[.slice oP 4 cP,.slice oE 4 cE,(.slice (some ⟨g3,0,none⟩) 1 c3)],.int .i64 0]) (by simp [results,Tryz.results39,go_sem,t1,t2,t3]) rfl ?_;exact⟨oP,oE,some ⟨g3,0,none⟩,cP,cE,c3,rfl,CH.out,YK.out⟩
theorem AbG(m m':MapZ)(fa fa':List Bs)(Cr:m.nf=fa.length)(hgr:∀p∈m.pts,Db p)(hck:Fx m=0)(hpl:m.pts.length<=1000)(hel:m.eds.length<=1000)(D6:fa.length<=1000)(Tq:Hx m'=true)(LI:m'.nf=fa'.length)(Qn:fa'.length<=1000)(a b:Pt)(u:Bs)(w:World)(hw:Am w)
  (hsc:∀W,Ab w W→Calls Tryz.prog 9 #[Ga 3 a b u] W (AI 0 W))
  (L6:∀(V W:World) (A B F:Option Addr) (c d g:Nat),Ab w V→Ab V W→C7 V.heap.size W A B F c d g m fa→Calls Tryz.prog 39 #[AO A B F m c d g,Ga 3 a b u] W (nZ V.heap.size V W m' fa'))
  (A B F:Option Addr) (c d g:Nat) (AP:CY m c d g) (hA:Af w A (flat (Aq m.pts))) (hB:Af w B (A9 m.eds)) (hF:Af w F (fa.map S)) :
  Calls Tryz.prog 10 #[AO A B F m c d g,Ga 3 a b u] w (fun e w'=>Mr w (Og m' fa') (Dm m' fa').fa e w'):=by
 obtain⟨hM,hE,hR,hX⟩:=Pg w (.cells #[.slice A m.pts.length c,.slice B m.eds.length d,.slice F m.nf g] 35) (.cells #[.int .i64 3,S (R a.x),S (R a.y),S (R b.x),S (R b.y),S [],S [],S u] 26) (.cells #[.slice none 0 0,.slice none 0 0,.slice none 0 0] 35);have pc:=fun W (hx:Ab w W)=>Pa m hgr A B F c d g AP W (hw.ext hx) (hA.ext hx) (hB.ext hx);rw [hck]at pc;have cp:=fun W (hx:Ab w W)=>rQ m fa Cr hpl hel D6 A B F c d g W (hA.ext hx) (hB.ext hx) (hF.ext hx);have HM:=Ao4 (And.intro Tq (And.intro LI (And.intro Qn Cr)));clear Tq LI Qn Cr AP hA hB hF hgr hck;unfold AO at pc cp ⊢;unfold Ga at hsc L6 ⊢;unfold AO at L6;go_enter Tryz.func10,Tryz.ntmps10
 go_upto_region 1 with fail
 generalize ((w.alloc (.cells #[.slice A m.pts.length c,.slice B m.eds.length d,.slice F m.nf g] 35)).alloc (.cells #[.int .i64 3,S (R a.x),S (R a.y),S (R b.x),S (R b.y),S [],S [],S u] 26)).alloc (.cells #[.slice none 0 0,.slice none 0 0,.slice none 0 0] 35)=V at *;obtain⟨bm,AW⟩:=Ao3 w.heap.size;have WC:=AW;rw [←AW]at hM hE hR ⊢;have k0:V.cell? ⟨bm,0,none⟩=some (.slice A m.pts.length c):=Aa hM rfl;have k1:V.cell? ⟨bm,1,none⟩=some (.slice B m.eds.length d):=Aa hM rfl;have k2:V.cell? ⟨bm,2,none⟩=some (.slice F m.nf g):=Aa hM rfl;have YF:=Ao4 AW;clear AW WC;have p1:=pc V hX;(go_wp2_with fail);(with_reducible refine p1.mono ?_);rintro e w1 ⟨rfl,hx1⟩;have O4:=hX.trans hx1;have x0:w1.cell? ⟨bm+1,0,none⟩=some (.int .i64 3):=Aa ((hx1.block _ (Ao5 hE)).trans hE) rfl;have x1:w1.cell? ⟨bm+1,1,none⟩=some (S (R a.x)):=Aa ((hx1.block _ (Ao5 hE)).trans hE) rfl;have x2:w1.cell? ⟨bm+1,2,none⟩=some (S (R a.y)):=Aa ((hx1.block _ (Ao5 hE)).trans hE) rfl;have x3:w1.cell? ⟨bm+1,3,none⟩=some (S (R b.x)):=Aa ((hx1.block _ (Ao5 hE)).trans hE) rfl;have x4:w1.cell? ⟨bm+1,4,none⟩=some (S (R b.y)):=Aa ((hx1.block _ (Ao5 hE)).trans hE) rfl;have x5:w1.cell? ⟨bm+1,5,none⟩=some (S []):=Aa ((hx1.block _ (Ao5 hE)).trans hE) rfl;have x6:w1.cell? ⟨bm+1,6,none⟩=some (S []):=Aa ((hx1.block _ (Ao5 hE)).trans hE) rfl;have x7:w1.cell? ⟨bm+1,7,none⟩=some (S u):=Aa ((hx1.block _ (Ao5 hE)).trans hE) rfl;have s1:=hsc w1 O4;clear p1 pc k0 k1 k2;(go_wp2_with fail);(with_reducible refine s1.mono ?_);rintro e w2 ⟨rfl,hx2⟩;have CW:=O4.trans hx2;have hV2:=hx1.trans hx2;replace x0:=hx2.cellS x0;clear s1 hsc x1 x2 x3 x4 x5 x6 x7;have al:∀O,(w2.alloc O).cell? ⟨bm+1,0,none⟩=some (.int .i64 3):=fun O=>((Ab.refl w2).alloc O).cellS x0
 go_upto_region 8 with fail
 clear al;have hx3:=fun O=>(Ab.refl w2).alloc O;generalize hW3:w2.alloc _=W3;have C0:Ab w2 W3:=hW3▸hx3 _;have CV:=((hV2.trans C0).block _ (Ao5 hM)).trans hM;have BV:=((hV2.trans C0).block _ (Ao5 hE)).trans hE;have AK:=((hV2.trans C0).block _ (Ao5 hR)).trans hR;have hW:=CW.trans C0;clear hW3 hx3 C0 x0 hM hE hR;have k0:W3.cell? ⟨bm,0,none⟩=some (.slice A m.pts.length c):=Aa CV rfl;have k1:W3.cell? ⟨bm,1,none⟩=some (.slice B m.eds.length d):=Aa CV rfl;have k2:W3.cell? ⟨bm,2,none⟩=some (.slice F m.nf g):=Aa CV rfl;have y0:W3.cell? ⟨bm+1,0,none⟩=some (.int .i64 3):=Aa BV rfl;have y1:W3.cell? ⟨bm+1,1,none⟩=some (S (R a.x)):=Aa BV rfl;have y2:W3.cell? ⟨bm+1,2,none⟩=some (S (R a.y)):=Aa BV rfl;have y3:W3.cell? ⟨bm+1,3,none⟩=some (S (R b.x)):=Aa BV rfl;have y4:W3.cell? ⟨bm+1,4,none⟩=some (S (R b.y)):=Aa BV rfl;have y5:W3.cell? ⟨bm+1,5,none⟩=some (S []):=Aa BV rfl;have y6:W3.cell? ⟨bm+1,6,none⟩=some (S []):=Aa BV rfl;have y7:W3.cell? ⟨bm+1,7,none⟩=some (S u):=Aa BV rfl;have SO:=fun (w':World) (h:Ab W3 w')=>(⟨h.cellS k0,h.cellS k1,h.cellS k2,h.cellS y0,h.cellS y1,h.cellS y2,h.cellS y3,h.cellS y4,h.cellS y5,h.cellS y6,h.cellS y7⟩:_/\_/\_/\_/\_/\_/\_/\_/\_/\_/\_);have X:=Ab.refl W3;have hO:=Ao6 W3 (.cells #[.slice none 0 0,.slice none 0 0,.slice none 0 0] 35)
 go_cut [9,10] (fun v9 v10 wx=>∃bo A' B' F' c' d' g',v9=.pointer (some ⟨bo,0,none⟩)/\v10=.int .i64 0/\wx.heap[bo]?=some (.cells #[.slice A' m'.pts.length c',.slice B' m'.eds.length d',.slice F' m'.nf g'] 35)/\C7 w.heap.size wx A' B' F' c' d' g' m' fa'/\Ab W3 wx)
 case first=>
  go_region_held3 (fun w'=>w'.cell? ⟨bm,0,none⟩=some (.slice A m.pts.length c)/\w'.cell? ⟨bm,1,none⟩=some (.slice B m.eds.length d)/\w'.cell? ⟨bm,2,none⟩=some (.slice F m.nf g)/\w'.cell? ⟨bm+1,0,none⟩=some (.int .i64 3)/\w'.cell? ⟨bm+1,1,none⟩=some (S (R a.x))/\w'.cell? ⟨bm+1,2,none⟩=some (S (R a.y))/\w'.cell? ⟨bm+1,3,none⟩=some (S (R b.x))/\w'.cell? ⟨bm+1,4,none⟩=some (S (R b.y))/\w'.cell? ⟨bm+1,5,none⟩=some (S [])/\w'.cell? ⟨bm+1,6,none⟩=some (S [])/\w'.cell? ⟨bm+1,7,none⟩=some (S u))
   (first|exact SS|with_reducible exact SO _ X|with_reducible exact SO _ X.drew|with_reducible exact SO _ (X.alloc _)|with_reducible exact SO _ (X.alloc _).drew)
   (first
    | ((with_reducible refine(L6 V4 w4 A4 B4 F4 c4 d4 g4 EE x4 o4).mono ?_);rintro e w5 ⟨A5,B5,F5,c5,d5,g6,rfl,o5,x5,Jw⟩;replace X:Ab W3 w5:=C5.trans x5;unfold AO;first | (have Cc:=Jw _ _ O3;have g0:=Aa (o:=0) Cc rfl;have g1:=Aa (o:=1) Cc rfl;have g2:=Aa (o:=2) Cc rfl;have I4:=Aj (o:=0) Cc;have g4:=Aj (o:=1) Cc;have g5:=Aj (o:=2) Cc;have SS:=SO _ (CL X (Ao7 _) (.slice A5 m'.pts.length c5) (.slice B5 m'.eds.length d5) (.slice F5 m'.nf g6))) | skip)
    | ((with_reducible refine(L6 V4 _ A4 B4 F4 c4 d4 g4 EE (x4.alloc (.cells #[.slice none 0 0,.slice none 0 0,.slice none 0 0] 35)) (o4.ext ((Ab.refl w4).alloc (.cells #[.slice none 0 0,.slice none 0 0,.slice none 0 0] 35)))).mono ?_);rintro e w5 ⟨A5,B5,F5,c5,d5,g6,rfl,o5,x5,Jw⟩;have X0:=X;replace X:Ab W3 w5:=C5.trans x5;unfold AO;have Cc:=Jw _ _ (Ao6 w4 (.cells #[.slice none 0 0,.slice none 0 0,.slice none 0 0] 35));have g0:=Aa (o:=0) Cc rfl;have g1:=Aa (o:=1) Cc rfl;have g2:=Aa (o:=2) Cc rfl;have I4:=Aj (o:=0) Cc;have g4:=Aj (o:=1) Cc;have g5:=Aj (o:=2) Cc;have SS:=SO _ (CL X X0.size (.slice A5 m'.pts.length c5) (.slice B5 m'.eds.length d5) (.slice F5 m'.nf g6)))
    | ((with_reducible refine(cp _ (hW.trans X.drew)).mono ?_);rintro e w4 ⟨A4,B4,F4,c4,d4,g4,rfl,o4,x4⟩;obtain⟨V4,Jl⟩:=Ao3 W3.drew;rw [←Jl]at o4 x4;have C5:Ab W3 V4:=Jl▸X.drew;have EE:=hW.trans C5;replace X:Ab W3 w4:=C5.trans x4;unfold AO)
    | ((with_reducible refine(cp _ (hW.trans (X.alloc (.cells #[.slice none 0 0,.slice none 0 0,.slice none 0 0] 35)).drew)).mono ?_);rintro e w4 ⟨A4,B4,F4,c4,d4,g4,rfl,o4,x4⟩;have O3:=(x4.block _ (Ao5 hO)).trans hO;obtain⟨V4,Jl⟩:=Ao3 ((W3.alloc (.cells #[.slice none 0 0,.slice none 0 0,.slice none 0 0] 35)).drew);rw [←Jl]at o4 x4;have C5:Ab W3 V4:=Jl▸(X.alloc _).drew;have EE:=hW.trans C5;replace X:Ab W3 w4:=C5.trans x4;unfold AO))
  all_goals go_wp2
  all_goals go_meet
  all_goals
   first
    | exact⟨W3.heap.size,A5,B5,F5,c5,d5,g6,rfl,rfl,DT _ _ _ Cc,(o5.low EE.size).set3 Cc _ _ _,CL X (Ao7 _) _ _ _⟩
    | exact⟨w4.heap.size,A5,B5,F5,c5,d5,g6,rfl,rfl,DT _ _ _ Cc,(o5.low EE.size).set3 Cc _ _ _,CL X X0.size _ _ _⟩
    | exact⟨w5.heap.size,A5,B5,F5,c5,d5,g6,rfl,rfl,Ao6 w5 _,(o5.low EE.size).ext ((Ab.refl w5).alloc _),X.alloc _⟩
 case rest=>obtain⟨bo,A5,B5,F5,c5,d5,g5,rfl,rfl,D4,o5,Ae⟩:=hcut;have hb5:=(Ae.block _ (Ao5 AK)).trans AK;obtain⟨hc5,r1,r2,r3,r4⟩:=o5.rd;have cn:=pw m' fa' HM.out.2.1 HM.out.1 A5 B5 F5 c5 d5 g5 hc5 wc (hw.ext (hW.trans Ae)) r1 r2 r3 r4 (by have h1:=HM.out.2.1;have h2:=HM.out.2.2.1;omega);have Jm:=hW.trans Ae;clear SO X hO k0 k1 k2 y0 y1 y2 y3 y4 y5 y6 y7 o5 r1 r2 r3 r4 hc5 CV BV AK;unfold AO at cn;have j0:wc.cell? ⟨bo,0,none⟩=some (.slice A5 m'.pts.length c5):=Aa D4 rfl;have j1:wc.cell? ⟨bo,1,none⟩=some (.slice B5 m'.eds.length d5):=Aa D4 rfl;have j2:wc.cell? ⟨bo,2,none⟩=some (.slice F5 m'.nf g5):=Aa D4 rfl;obtain⟨mm,hmm⟩:=Ao3 (Og m' fa');obtain⟨ff,Js⟩:=Ao3 ((Dm m' fa').fa);rw [←hmm,←Js]at cn;have R2:=Ao4 (And.intro hmm Js);clear hmm Js;(go_wp2_with fail);(with_reducible refine cn.mono ?_);rintro e w6 ⟨A6,B6,F6,c6,d6,g6,rfl,AP,r1,r2,r3,hnf6,AG⟩;have Bj:=(AG.block _ (Ao5 hb5)).trans hb5;have JY:=Jm.trans AG;have g0:=Aa (o:=0) Bj rfl;have g1:=Aa (o:=1) Bj rfl;have g2:=Aa (o:=2) Bj rfl;have g3:=Aj (o:=0) Bj;have g4:=Aj (o:=1) Bj;have g5':=Aj (o:=2) Bj;have Bd:=DT (.slice A6 mm.pts.length c6) (.slice B6 mm.eds.length d6) (.slice F6 mm.nf g6) Bj;have t1:=Aa (o:=0) Bd rfl;have t2:=Aa (o:=1) Bd rfl;have t3:=Aa (o:=2) Bd rfl;have EZ:=(((AD.refl (fun q=>q=bm+1+1) w6).setCell (p:=⟨bm+1+1,0,none⟩) (.inl rfl) (.slice A6 mm.pts.length c6)).setCell (p:=⟨bm+1+1,1,none⟩) (.inl rfl) (.slice B6 mm.eds.length d6)).setCell (p:=⟨bm+1+1,2,none⟩) (.inl rfl) (.slice F6 mm.nf g6);have z1:=Fl r1 EZ Bj (fun j hj=>by obtain⟨s,h⟩:=On hj;rw [h];simp);have z2:=Fl r2 EZ Bj (fun j hj=>by obtain⟨s,h⟩:=Ol hj;rw [h];simp);have z3:=Fl r3 EZ Bj (fun j hj=>by rw [List.getElem_map];simp);have HF:=Ao4 (And.intro AP (And.intro z1 (And.intro z2 (And.intro z3 (And.intro hnf6 (CL JY (show w.heap.size<=bm+1+1 by rw [←YF.out];omega) (.slice A6 mm.pts.length c6) (.slice B6 mm.eds.length d6) (.slice F6 mm.nf g6)))))));clear z1 z2 z3 EZ Bd JY Bj AP r1 r2 r3 hnf6 cn D4 Ae Jm AG;unfold AO;go_wp2;refine bodyPost_ret (v:=.tuple #[.agg #[.slice A6 mm.pts.length c6,.slice B6 mm.eds.length d6,.slice F6 mm.nf g6],.int .i64 0]) (by simp [results,Tryz.results10,go_sem,t1,t2,t3]) rfl ?_;rw [←R2.out.1,←R2.out.2];exact⟨A6,B6,F6,c6,d6,g6,rfl,HF.out.1,HF.out.2.1,HF.out.2.2.1,HF.out.2.2.2.1,HF.out.2.2.2.2.1,HF.out.2.2.2.2.2⟩
theorem Ya{q:Rat}(h1:(D q.num.natAbs).length<=200)(h2:(D q.den).length<=200):Dj (R q):=⟨q,rfl,h1,h2⟩
theorem Akt(w:World)(hw:Am w):Calls Tryz.prog 9 #[Ga 2 ⟨0,0⟩ ⟨4,4⟩ [98]] w (AI 0 w):=by
 have o0:Dj (R 0):=Ya (by decide +kernel) (by decide +kernel);have o4:Dj (R 4):=Ya (by decide +kernel) (by decide +kernel);have h:=lM 2 (R 0,R 0) (R 4,R 4) ([],[]) [98] ⟨by decide +kernel,by decide +kernel,by decide +kernel,by decide +kernel,by decide +kernel,by decide +kernel,by decide +kernel⟩ w hw
 have e:Do 2 (R 0,R 0) (R 4,R 4) ([],[]) [98]=0:=by rw [ZF];have p0:AU (R 0,R 0)=true:=(Hh _).2 ⟨o0,o0⟩;have p4:AU (R 4,R 4)=true:=(Hh _).2 ⟨o4,o4⟩;have hn:nameB [98]=true:=(by decide);simp [p0,p4,hn,Bi]
 rw [e]at h;exact h
theorem Aks(w:World)(hw:Am w):Calls Tryz.prog 9 #[Ga 3 ⟨3,1⟩ ⟨1,3⟩ []] w (AI 0 w):=by
 have o1:Dj (R 1):=Ya (by decide +kernel) (by decide +kernel);have o3:Dj (R 3):=Ya (by decide +kernel) (by decide +kernel);have h:=lM 3 (R 3,R 1) (R 1,R 3) ([],[]) [] ⟨by decide +kernel,by decide +kernel,by decide +kernel,by decide +kernel,by decide +kernel,by decide +kernel,by decide +kernel⟩ w hw
 have e:Do 3 (R 3,R 1) (R 1,R 3) ([],[]) []=0:=by rw [ZG];have p0:AU (R 3,R 1)=true:=(Hh _).2 ⟨o3,o1⟩;have p4:AU (R 1,R 3)=true:=(Hh _).2 ⟨o1,o3⟩;simp [p0,p4,Bi]
 rw [e]at h;exact h
theorem nt:∀p∈AA.pts,Db p:=(La VF).2
theorem AiE:∀p∈c46.pts,Db p:=(La qQ).2
theorem rF:Fx AA=0:=(La VF).1
theorem Ac7:Fx c46=0:=(La qQ).1
theorem Ab4(A B F:Option Addr)(c d g:Nat)(w:World)(hw:Am w)(AP:CY AA c d g)(hA:Af w A (flat (Aq AA.pts)))(hB:Af w B (A9 AA.eds))(hF:Af w F ([[97]].map S)) :
  Calls Tryz.prog 10 #[AO A B F AA c d g,Ga 2 ⟨0,0⟩ ⟨4,4⟩ [98]] w (Mr w c46 [[98],[97]]):=by
 have h:=AbF AA Mh [[97]] [[97],[98]] rfl nt rF (by decide) (by decide) (by decide) qR rfl (by decide) ⟨0,0⟩ ⟨4,4⟩ [98] w hw (fun W hx=>Akt W (hw.ext hx))
  (fun V W A B F c d g hx hx2 ho=>split_c [98] A B F c d g (hw.ext hx) hx2 (Ao7 _) hx2.size ho) A B F c d g AP hA hB hF
 rw [qT.1,qT.2]at h;exact h
theorem Ab3(A B F:Option Addr)(c d g:Nat)(w:World)(hw:Am w)(AP:CY c46 c d g)(hA:Af w A (flat (Aq c46.pts)))(hB:Af w B (A9 c46.eds))(hF:Af w F ([[98],[97]].map S)) :
  Calls Tryz.prog 10 #[AO A B F c46 c d g,Ga 3 ⟨3,1⟩ ⟨1,3⟩ []] w (Mr w AA [[97]]):=by
 have h:=AbG c46 AA [[98],[97]] [[97]] rfl AiE Ac7 (by decide) (by decide) (by decide) VF rfl (by decide) ⟨3,1⟩ ⟨1,3⟩ [] w hw (fun W hx=>Aks W (hw.ext hx))
  (fun V W A B F c d g hx hx2 ho=>(Ahk [98] [97] A B F c d g ((hw.ext hx).ext hx2) (Ab.refl W) hx2.size ho).mono fun e w' ⟨A',B',F',c',d',g',h1,h2,h3⟩=>⟨A',B',F',c',d',g',h1,h2,hx2.trans h3,fun j cs hj=>(h3.block _ (Ao5 hj)).trans hj⟩) A B F c d g AP hA hB hF
 rw [qS.1,qS.2]at h;exact h
theorem Vy(x y:Int)(hx:x.natAbs<10000000)(hy:y.natAbs<10000000)(p q:Rat)(e1:(x:Rat)=p)(e2:(y:Rat)=q)(w:World)(hw:Am w):Calls Tryz.prog 20 #[.int .i64 x,.int .i64 y] w (BG (.agg #[S (R p),S (R q)]) w):=by
 have h1:=RX x y hx hy w hw;unfold Ak at h1;rw [e1,e2]at h1;exact h1
def Y8(W0:World)(v7:Value)(m:MapZ)(fa:List Bs)(wx:World):Prop:=
 ∃(b:Nat) (A B F:Option Addr) (c d g:Nat),v7=.pointer (some ⟨b,0,none⟩)/\wx.heap[b]?=some (.cells #[.slice A m.pts.length c,.slice B m.eds.length d,.slice F m.nf g] 35)/\CY m c d g/\Af wx A (flat (Aq m.pts))/\Af wx B (A9 m.eds)/\Af wx F (fa.map S)/\Ab W0 wx
theorem AbP{W0 w:World}{b:Nat}{m:MapZ}{fa:List Bs}{A B F:Option Addr}{c d g:Nat}(hb:w.heap[b]?=some (.cells #[.slice none 0 0,.slice none 0 0,.slice none 0 0] 35))(h0:W0.heap.size<=b)(hc:CY m c d g)(t1:Af w A (flat (Aq m.pts)))(t2:Af w B (A9 m.eds))(t3:Af w F (fa.map S))(X:Ab W0 w) :
  Y8 W0 (.pointer (some ⟨b,0,none⟩)) m fa (((w.setCell ⟨b,0,none⟩ (.slice A m.pts.length c)).setCell ⟨b,1,none⟩ (.slice B m.eds.length d)).setCell ⟨b,2,none⟩ (.slice F m.nf g)):=by
 have EZ:=(((AD.refl (fun q=>q=b) w).setCell (p:=⟨b,0,none⟩) (.inl rfl) (.slice A m.pts.length c)).setCell (p:=⟨b,1,none⟩) (.inl rfl) (.slice B m.eds.length d)).setCell (p:=⟨b,2,none⟩) (.inl rfl) (.slice F m.nf g);exact⟨b,A,B,F,c,d,g,rfl,DT _ _ _ hb,hc,Fl t1 EZ hb (fun j hj=>by obtain⟨s,h⟩:=On hj;rw [h];simp),Fl t2 EZ hb (fun j hj=>by obtain⟨s,h⟩:=Ol hj;rw [h];simp),Fl t3 EZ hb (fun j hj=>by rw [List.getElem_map];simp),CL X h0 _ _ _⟩
theorem AbO{W0 w:World}{m:MapZ}{fa:List Bs}{A B F:Option Addr}{c d g:Nat}(hc:CY m c d g)(t1:Af w A (flat (Aq m.pts)))(t2:Af w B (A9 m.eds))(t3:Af w F (fa.map S))(X:Ab W0 w) :
  Y8 W0 (.pointer (some ⟨w.heap.size,0,none⟩)) m fa (w.alloc (.cells #[.slice A m.pts.length c,.slice B m.eds.length d,.slice F m.nf g] 35)):=
 ⟨_,A,B,F,c,d,g,rfl,Ao6 w _,hc,t1.ext ((Ab.refl w).alloc _),t2.ext ((Ab.refl w).alloc _),t3.ext ((Ab.refl w).alloc _),X.alloc _⟩
theorem Ahz(w:World)(hw:Am w):Calls Tryz.prog 6 #[] w (BF true w):=by
 have oN:=fun W h=>Vy 0 0 (by decide) (by decide) 0 0 rfl rfl W h;have a44:=fun W h=>Vy 4 4 (by decide) (by decide) 4 4 rfl rfl W h;have Vt:=fun W h=>Vy 1 3 (by decide) (by decide) 1 3 rfl rfl W h;have Zr:=fun W h=>Vy 3 1 (by decide) (by decide) 3 1 rfl rfl W h;go_enter Tryz.func6,Tryz.ntmps6;(go_wp2_with fail);(with_reducible refine(lS w hw).mono ?_);rintro e w1 ⟨A,Bk,F,c,d,g,rfl,AP,r1,r2,r3,hx1⟩;have hw1:=hw.ext hx1;unfold AO;(go_wp2_with fail);(with_reducible refine(oN w1 hw1).mono ?_);rintro e w2 ⟨rfl,hx2⟩;(go_wp2_with fail);(with_reducible refine(a44 w2 (hw1.ext hx2)).mono ?_);rintro e w3 ⟨rfl,hx3⟩;have Q7:=hx2.trans hx3;have ap:=Ab4 A Bk F c d g w3 (hw1.ext Q7) AP (r1.ext Q7) (r2.ext Q7) (r3.ext Q7);have nY:=Ao4 (hx1.trans Q7);unfold AO Ga at ap;clear AP r1 r2 r3 hx1 hx2 hx3 Q7;(go_wp2_with fail);refine ap.mono ?_;rintro e w4 ⟨A1,B1,F1,c1,d1,g1,rfl,WJ,s1,s2,s3,-,Ag⟩;have M8:=Ao4 (nY.out.trans Ag);clear ap Ag nY oN a44 hw1;unfold AO;have hM:=Ao6 w4 (.cells #[.slice A1 c46.pts.length c1,.slice B1 c46.eds.length d1,.slice F1 c46.nf g1] 35);have Ae:=(Ab.refl w4).alloc (.cells #[.slice A1 c46.pts.length c1,.slice B1 c46.eds.length d1,.slice F1 c46.nf g1] 35)
 go_upto_region 2 with fail
 generalize w4.alloc (.cells #[.slice A1 c46.pts.length c1,.slice B1 c46.eds.length d1,.slice F1 c46.nf g1] 35)=W5 at *;obtain⟨bM,xG⟩:=Ao3 w4.heap.size;rw [←xG]at hM ⊢;have Jm:=M8.out.trans Ae;have q1:=s1.ext Ae;have q2:=s2.ext Ae;have q3:=s3.ext Ae;clear xG s1 s2 s3 Ae M8;have f0:∀q:Ad W5,q.w.cell? ⟨bM,0,none⟩=some (.slice A1 c46.pts.length c1):=Ad.cell (Aa hM rfl);have f1:∀q:Ad W5,q.w.cell? ⟨bM,1,none⟩=some (.slice B1 c46.eds.length d1):=Ad.cell (Aa hM rfl);have f2:∀q:Ad W5,q.w.cell? ⟨bM,2,none⟩=some (.slice F1 c46.nf g1):=Ad.cell (Aa hM rfl);have pT:=fun q:Ad W5=>Vt q.w ((hw.ext Jm).ext q.h);have un:=fun q:Ad W5=>Al4 c46 [[98],[97]] rfl ⟨1,3⟩ 0 (by decide) ku A1 B1 F1 c1 d1 g1 WJ q.w ((hw.ext Jm).ext q.h) (q1.ext q.h) (q2.ext q.h) (q3.ext q.h);unfold AO Ak at un;refine Di (by kernel_rfl) (by kernel_rfl) ?_
 repeat (go_big_quiet_step (first|(with_reducible refine tI (pT _))|(with_reducible refine tI (un _))))
 refine wpQuiet_nil ?_;rintro _ ⟨q,rfl⟩;obtain⟨W6,cZ⟩:=Ao3 q.w;rw [←cZ];have AG:Ab W5 W6:=(by rw [cZ];exact q.h);have Gb:=(AG.block _ (Ao5 hM)).trans hM;have Q5:=(hw.ext Jm).ext AG;have nW:=Ao4 (Jm.trans AG);have k0:W6.cell? ⟨bM,0,none⟩=some (.slice A1 c46.pts.length c1):=Aa Gb rfl;have k1:W6.cell? ⟨bM,1,none⟩=some (.slice B1 c46.eds.length d1):=Aa Gb rfl;have k2:W6.cell? ⟨bM,2,none⟩=some (.slice F1 c46.nf g1):=Aa Gb rfl
 have aj:=fun (W:World) (hx:Ab W6 W)=>(by
  have h:=Ab3 A1 B1 F1 c1 d1 g1 W (Q5.ext hx) WJ ((q1.ext AG).ext hx) ((q2.ext AG).ext hx) ((q3.ext AG).ext hx);unfold AO Ga at h
  exact h:Calls Tryz.prog 10 #[.agg #[.slice A1 c46.pts.length c1,.slice B1 c46.eds.length d1,.slice F1 c46.nf g1],.agg #[.int .i64 3,S (R 3),S (R 1),S (R 1),S (R 3),S [],S [],S []]] W (Mr W AA [[97]]))
 clear cZ f0 f1 f2 pT un q1 q2 q3 hM AG Jm WJ;have SO:=fun (w':World) (h:Ab W6 w')=>(⟨h.cellS k0,h.cellS k1,h.cellS k2⟩:_/\_/\_)
 go_upto_region 3 with fail
 have X:=(Ab.refl W6).drew
 go_cut [6,7] (fun v6 v7 wx=>v7=.int .i64 0/\Y8 W6 v6 AA [[97]] wx)
 case first=>
  go_region_held3 (fun w'=>w'.cell? ⟨bM,0,none⟩=some (.slice A1 c46.pts.length c1)/\w'.cell? ⟨bM,1,none⟩=some (.slice B1 c46.eds.length d1)/\w'.cell? ⟨bM,2,none⟩=some (.slice F1 c46.nf g1))
   (first|exact SS|with_reducible exact SO _ X|with_reducible exact SO _ (X.alloc _)|with_reducible exact SO _ ((Ab.refl W6).alloc _).drew)
   (first
    | ((with_reducible refine(aj _ X).mono ?_);rintro e w7 ⟨A2,B2,F2,c2,d2,g2,rfl,Qh,t1,t2,t3,-,x7⟩;(first | (replace hO:=(x7.block _ (Ao5 hO)).trans hO) | skip);replace X:Ab W6 w7:=X.trans x7;unfold AO;first | (have Sw:=Aa (o:=0) hO rfl;have Gp:=Aa (o:=1) hO rfl;have Jf:=Aa (o:=2) hO rfl;have Le:=Aj (o:=0) hO;have ZU:=Aj (o:=1) hO;have ZV:=Aj (o:=2) hO;have SS:=SO _ (CL X B7 (.slice A2 AA.pts.length c2) (.slice B2 AA.eds.length d2) (.slice F2 AA.nf g2))) | skip)
    | ((with_reducible refine(aj _ (X.alloc (.cells #[.slice none 0 0,.slice none 0 0,.slice none 0 0] 35))).mono ?_);rintro e w7 ⟨A2,B2,F2,c2,d2,g2,rfl,Qh,t1,t2,t3,-,x7⟩;have B7:=X.size;have hO:=(x7.block _ (Ao5 (Ao6 _ (.cells #[.slice none 0 0,.slice none 0 0,.slice none 0 0] 35)))).trans (Ao6 _ (.cells #[.slice none 0 0,.slice none 0 0,.slice none 0 0] 35));replace X:Ab W6 w7:=(X.alloc (.cells #[.slice none 0 0,.slice none 0 0,.slice none 0 0] 35)).trans x7;unfold AO;first | (have Sw:=Aa (o:=0) hO rfl;have Gp:=Aa (o:=1) hO rfl;have Jf:=Aa (o:=2) hO rfl;have Le:=Aj (o:=0) hO;have ZU:=Aj (o:=1) hO;have ZV:=Aj (o:=2) hO;have SS:=SO _ (CL X B7 (.slice A2 AA.pts.length c2) (.slice B2 AA.eds.length d2) (.slice F2 AA.nf g2))) | skip)
    | ((with_reducible refine(Zr _ (Q5.ext X)).mono ?_);rintro e w7 ⟨rfl,x7⟩;(first | (replace hO:=(x7.block _ (Ao5 hO)).trans hO) | skip);replace X:Ab W6 w7:=X.trans x7)
    | ((with_reducible refine(Vt _ (Q5.ext X)).mono ?_);rintro e w7 ⟨rfl,x7⟩;(first | (replace hO:=(x7.block _ (Ao5 hO)).trans hO) | skip);replace X:Ab W6 w7:=X.trans x7)
    | ((with_reducible refine(Zr _ (Q5.ext ((Ab.refl W6).alloc (.cells #[.slice none 0 0,.slice none 0 0,.slice none 0 0] 35)).drew)).mono ?_);rintro e w7 ⟨rfl,x7⟩;have B7:=Ao7 W6.heap.size;have hO:=(x7.block _ (Ao5 (Ao6 W6 (.cells #[.slice none 0 0,.slice none 0 0,.slice none 0 0] 35)))).trans (Ao6 W6 (.cells #[.slice none 0 0,.slice none 0 0,.slice none 0 0] 35));replace X:Ab W6 w7:=((Ab.refl W6).alloc (.cells #[.slice none 0 0,.slice none 0 0,.slice none 0 0] 35)).drew.trans x7)
    | ((with_reducible refine(Vt _ (Q5.ext (X.alloc (.cells #[.slice none 0 0,.slice none 0 0,.slice none 0 0] 35)))).mono ?_);rintro e w7 ⟨rfl,x7⟩;have B7:=X.size;have hO:=(x7.block _ (Ao5 (Ao6 _ (.cells #[.slice none 0 0,.slice none 0 0,.slice none 0 0] 35)))).trans (Ao6 _ (.cells #[.slice none 0 0,.slice none 0 0,.slice none 0 0] 35));replace X:Ab W6 w7:=(X.alloc (.cells #[.slice none 0 0,.slice none 0 0,.slice none 0 0] 35)).trans x7))
  all_goals go_wp2
  all_goals go_meet
  all_goals first
   | exact⟨rfl,AbP hO B7 Qh t1 t2 t3 X⟩
   | exact⟨rfl,AbO Qh t1 t2 t3 X⟩
 case rest=>
  obtain⟨rfl,b6,A2,B2,F2,c2,d2,g2,rfl,Bj,-,t1,t2,t3,Aw⟩:=hcut;have hx:=nW.out.trans Aw;have DV:=(Aw.block _ (Ao5 Gb)).trans Gb;have ij:=hw.ext hx;have HX:=Ao4 hx;have k2':wc.cell? ⟨bM,2,none⟩=some (.slice F1 c46.nf g1):=Aa DV rfl;have l0:wc.cell? ⟨b6,0,none⟩=some (.slice A2 AA.pts.length c2):=Aa Bj rfl;have l1:wc.cell? ⟨b6,1,none⟩=some (.slice B2 AA.eds.length d2):=Aa Bj rfl;have l2:wc.cell? ⟨b6,2,none⟩=some (.slice F2 AA.nf g2):=Aa Bj rfl;have eq:=fun (W:World) (hx:Ab wc W) A3 B3 F3 c3 d3 g3 (y1:Af W A3 (flat (Aq AA.pts))) (y2:Af W B3 (A9 AA.eds)) (y3:Af W F3 ([[97]].map S))=>AdB AA [[97]] rfl A2 B2 F2 A3 B3 F3 c2 d2 g2 c3 d3 g3 W (t1.ext hx) (t2.ext hx) (t3.ext hx) y1 y2 y3 (by decide) (by decide) (by decide);have sq:=fun (W:World) (hx:Ab wc W)=>lS W (ij.ext hx);unfold AO at eq;clear SO k0 k1 k2 aj Gb Aw X Bj DV hx Vt Zr nW Q5 ij;have SO:=fun (w':World) (h:Ab wc w')=>(⟨h.cellS k2',h.cellS l0,h.cellS l1,h.cellS l2⟩:_/\_/\_/\_);have X:=(Ab.refl wc).drew
  go_upto_region 4 with fail
  go_region_held3 (fun w'=>w'.cell? ⟨bM,2,none⟩=some (.slice F1 c46.nf g1)/\w'.cell? ⟨b6,0,none⟩=some (.slice A2 AA.pts.length c2)/\w'.cell? ⟨b6,1,none⟩=some (.slice B2 AA.eds.length d2)/\w'.cell? ⟨b6,2,none⟩=some (.slice F2 AA.nf g2))
   (with_reducible exact SO _ X)
   (first
    | ((with_reducible refine(sq _ X).mono ?_);rintro e w8 ⟨A3,B3,F3,c3,d3,g3,rfl,-,y1,y2,y3,x8⟩;replace X:Ab wc w8:=X.trans x8;unfold AO)
    | ((with_reducible refine(eq _ X _ _ _ _ _ _ y1 y2 y3).mono ?_);rintro e w9 ⟨rfl,x9⟩;replace X:Ab wc w9:=X.trans x9))
  all_goals go_wp2
  all_goals go_ret
  all_goals exact⟨rfl,HX.out.trans X⟩
end Go.Proofs.YtnddllipjippnaaGreatDoor
