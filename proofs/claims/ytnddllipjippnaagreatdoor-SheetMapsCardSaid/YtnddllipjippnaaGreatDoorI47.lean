/- I47: ShKH4 ShKI4 ShKI5. -/
import Derived.Test.YtnddllipjippnaaGreatDoorI45
import Derived.Test.YtnddllipjippnaaGreatDoorI46
set_option maxRecDepth 100000
set_option maxHeartbeats 16000000
namespace Go.Proofs.YtnddllipjippnaaGreatDoor
open Go.RowKit Kl
theorem Ahj:∀args w,(callFunc 71 args).run Tryz.prog w=.ok (.enter 71 args) w:=enters_of Tryz.func71 (by kernel_rfl) rfl
structure IQ(w0:World)(B:Nat)(wr:World)(bm bx bR:Nat)(A Bk F:Option Addr)(c d g:Nat)(x0 x1:Bs):Prop where
 cM:wr.heap[bm]?=some (.cells #[.slice A 4 c,.slice Bk 5 d,.slice F 2 g] 35)
 cX:wr.heap[bx]?=some (.cells #[.int .i64 3,S (R 3),S (R 1),S (R 1),S (R 3),S [],S [],S []] 26)
 cR:wr.heap[bR]?=some (.cells #[.slice none 0 0,.slice none 0 0,.slice none 0 0] 35)
 own:Cx B wr A Bk F c d g c46 [x0,x1]
 ext:Ab w0 wr
 szb:w0.heap.size<=bm/\w0.heap.size<=bR/\bm≠bR/\B<=wr.heap.size
section
variable {w0 : World} {B : Nat} {wr w' : World} {bm bx bR : Nat} {A Bk F : Option Addr} {c d g : Nat} {x0 x1 : Bs}
theorem IQ.grow(h:IQ w0 B wr bm bx bR A Bk F c d g x0 x1)(hx:Ab wr w'):IQ w0 B w' bm bx bR A Bk F c d g x0 x1:=
 ⟨(hx.block _ (Asy h.cM)).trans h.cM,(hx.block _ (Asy h.cX)).trans h.cX,(hx.block _ (Asy h.cR)).trans h.cR,h.own.ext hx,h.ext.trans hx,h.szb.1,h.szb.2.1,h.szb.2.2.1,AsA h.szb.2.2.2 hx.size⟩
theorem IQ.loc1(h:IQ w0 B wr bm bx bR A Bk F c d g x0 x1)(hw:Aj w0):Calls Tryz.prog 60 #[.agg #[.slice A 4 c,.slice Bk 5 d,.slice F 2 g],.agg #[S (R 3),S (R 1)]] wr (BA (.tuple #[.int .i64 1,.bool true,.int .i64 0]) wr):=
 Zd c46 ⟨3,1⟩ 1 Alz A Bk F c d g h.own.rd.1 wr (hw.ext h.ext) h.own.rd.2.1 h.own.rd.2.2.1
theorem IQ.loc0(h:IQ w0 B wr bm bx bR A Bk F c d g x0 x1)(hw:Aj w0):Calls Tryz.prog 60 #[.agg #[.slice A 4 c,.slice Bk 5 d,.slice F 2 g],.agg #[S (R 1),S (R 3)]] wr (BA (.tuple #[.int .i64 0,.bool true,.int .i64 0]) wr):=
 Zd c46 ⟨1,3⟩ 0 zo A Bk F c d g h.own.rd.1 wr (hw.ext h.ext) h.own.rd.2.1 h.own.rd.2.2.1
theorem IQ.end(h:IQ w0 B wr bm bx bR A Bk F c d g x0 x1){be k:Nat}{cs:Array Value}(hb:wr.heap[be]?=some (.cells cs 120))(h0:w0.heap.size<=be)(z:Value):IQ w0 B (wr.setCell ⟨be,k,none⟩ z) bm bx bR A Bk F c d g x0 x1:=by
 have bb:=(Ak.refl (fun q=>q=be) wr).setCell (p:=⟨be,k,none⟩) (.inl rfl) z
 have far:∀{j:Nat} {cs:Array Value} {t:TypeId},wr.heap[j]?=some (.cells cs t)→t≠120→(wr.setCell ⟨be,k,none⟩ z).heap[j]?=some (.cells cs t):=fun hj hne=>by rw [Bu (by exact BF hj hb hne)];exact hj
 have kp:∀{e:TypeId} {s m:Nat} {v:Value} {xs:List Value} {B':Nat},wr.ownsRow B' e s v m xs→e≠120→(wr.setCell ⟨be,k,none⟩ z).ownsRow B' e s v m xs:=fun hv hne=>AS hv bb (fun q hq e=>by subst e;exact Av hv hb hne hq);exact⟨far h.cM (by decide),far h.cX (by decide),far h.cR (by decide),⟨kp h.own.pts (by decide),kp h.own.eds (by decide),kp h.own.fac (by decide),h.own.nf⟩,h.ext.setCell (p:=⟨be,k,none⟩) h0 _,h.szb.1,h.szb.2.1,h.szb.2.2.1,AsA h.szb.2.2.2 bb.size⟩
end
def BQ:List EdZ:=[⟨0,1,-1,0⟩,⟨0,2,1,-1⟩,⟨1,3,-1,0⟩,⟨2,3,1,-1⟩]
theorem Ag8:Gy (TE 1 0) c46.eds=BQ:=by decide +kernel
def BJ:Nat→List (Int×Int)×List Pt×List EdZ
 | 0=>([],[],[])
 | j+1=>((Es c46.pts (BQ.getD j ⟨0,0,0,0⟩).t (Es c46.pts (BQ.getD j ⟨0,0,0,0⟩).f (BJ j).1 (BJ j).2.1).2.1 (Es c46.pts (BQ.getD j ⟨0,0,0,0⟩).f (BJ j).1 (BJ j).2.1).2.2).2.1,
  (Es c46.pts (BQ.getD j ⟨0,0,0,0⟩).t (Es c46.pts (BQ.getD j ⟨0,0,0,0⟩).f (BJ j).1 (BJ j).2.1).2.1 (Es c46.pts (BQ.getD j ⟨0,0,0,0⟩).f (BJ j).1 (BJ j).2.1).2.2).2.2,
  (BJ j).2.2 ++ [⟨(Es c46.pts (BQ.getD j ⟨0,0,0,0⟩).f (BJ j).1 (BJ j).2.1).1,(Es c46.pts (BQ.getD j ⟨0,0,0,0⟩).t (Es c46.pts (BQ.getD j ⟨0,0,0,0⟩).f (BJ j).1 (BJ j).2.1).2.1 (Es c46.pts (BQ.getD j ⟨0,0,0,0⟩).f (BJ j).1 (BJ j).2.1).2.2).1,Lt 1 0 (BQ.getD j ⟨0,0,0,0⟩).l,Lt 1 0 (BQ.getD j ⟨0,0,0,0⟩).r⟩])
theorem AhJ(j:Nat)(e:EdZ)(he:BQ.getD j ⟨0,0,0,0⟩=e):∃z1 Lj PS z2 Zp Z8,Es c46.pts e.f (BJ j).1 (BJ j).2.1=(z1,Lj,PS)/\Es c46.pts e.t Lj PS=(z2,Zp,Z8)/\BJ (j+1)=(Zp,Z8,(BJ j).2.2 ++ [⟨z1,z2,Lt 1 0 e.l,Lt 1 0 e.r⟩])/\PS.length<=(BJ j).2.1.length+1:=by
 subst he;exact⟨(Es c46.pts (BQ.getD j ⟨0,0,0,0⟩).f (BJ j).1 (BJ j).2.1).1,(Es c46.pts (BQ.getD j ⟨0,0,0,0⟩).f (BJ j).1 (BJ j).2.1).2.1,(Es c46.pts (BQ.getD j ⟨0,0,0,0⟩).f (BJ j).1 (BJ j).2.1).2.2,_,_,_,rfl,rfl,rfl,Amb _ _ _ _⟩
theorem AhI:(BJ 4).2.1=AL.pts/\(BJ 4).2.2=AL.eds:=by decide +kernel
theorem AhK:∀j,j<4→(BJ j).2.1.length<=1000/\(BJ j).2.2.length<=1000:=by
 have h:∀j:Fin 4,(BJ j).2.1.length<=1000/\(BJ j).2.2.length<=1000:=(by decide +kernel);exact fun j hj=>h ⟨j,hj⟩
theorem AgU:∀j,(h:j<BQ.length)→0<=BQ[j].f/\BQ[j].f<4/\0<=BQ[j].t/\BQ[j].t<4/\-1<=BQ[j].l/\BQ[j].l<=100000/\-1<=BQ[j].r/\BQ[j].r<=100000:=by
 have h:∀j:Fin 4,0<=BQ[j].f/\BQ[j].f<4/\0<=BQ[j].t/\BQ[j].t<4/\-1<=BQ[j].l/\BQ[j].l<=100000/\-1<=BQ[j].r/\BQ[j].r<=100000:=(by decide +kernel);exact fun j hj=>h ⟨j,hj⟩
theorem AkT(x0 x1:Bs)(A Bk F:Option Addr)(c d g:Nat){B:Nat}{w0 w:World}(hw:Aj w0)(hx:Ab w0 w)(N4:B<=w.heap.size)(hm:Cx B w A Bk F c d g c46 [x0,x1]) :
  Calls Tryz.prog 39 #[AH A Bk F c46 c d g,Gl 3 ⟨3,1⟩ ⟨1,3⟩ []] w
   (fun e w'=>∃A' B' F' c' d' g',e=.returned (.tuple #[AH A' B' F' AL c' d' g',.int .i64 0])/\Cx B w' A' B' F' c' d' g' AL [x1]/\Ab w0 w'):=by
 obtain⟨hM,hE,hR,hX⟩:=PZ w (.cells #[.slice A 4 c,.slice Bk 5 d,.slice F 2 g] 35) (.cells #[.int .i64 3,S (R 3),S (R 1),S (R 1),S (R 3),S [],S [],S []] 26) (.cells #[.slice none 0 0,.slice none 0 0,.slice none 0 0] 35)
 have Hq:IQ w0 B (((w.alloc (.cells #[.slice A 4 c,.slice Bk 5 d,.slice F 2 g] 35)).alloc (.cells #[.int .i64 3,S (R 3),S (R 1),S (R 1),S (R 3),S [],S [],S []] 26)).alloc (.cells #[.slice none 0 0,.slice none 0 0,.slice none 0 0] 35)) w.heap.size (w.heap.size+1) (w.heap.size+1+1) A Bk F c d g x0 x1:=
  ⟨hM,hE,hR,hm.ext hX,hx.trans hX,by have:=hx.size;omega,by have:=hx.size;omega,by omega,AsA N4 hX.size⟩
 show Calls Tryz.prog 39 #[.agg #[.slice A 4 c,.slice Bk 5 d,.slice F 2 g],.agg #[.int .i64 3,S (R 3),S (R 1),S (R 1),S (R 3),S [],S [],S []]] w _;clear hm hM hE hR hX;go_enter Tryz.func39,Tryz.ntmps39
 go_upto_region 1 with fail
 generalize ((w.alloc (.cells #[.slice A 4 c,.slice Bk 5 d,.slice F 2 g] 35)).alloc (.cells #[.int .i64 3,S (R 3),S (R 1),S (R 1),S (R 3),S [],S [],S []] 26)).alloc (.cells #[.slice none 0 0,.slice none 0 0,.slice none 0 0] 35)=w3 at *;obtain⟨bm,AB⟩:=Asw w.heap.size;rw [←AB]at Hq ⊢;clear AB N4;have Fl:=Asx Hq;clear Hq
 go_upto_region 2 with fail
 obtain⟨V4,EP⟩:=Asw (w3.alloc (.cells #[.int .i64 0,.int .i64 0] 120));have he:=Asz w3 (.cells #[.int .i64 0,.int .i64 0] 120);have Ao:=(Ab.refl w3).alloc (.cells #[.int .i64 0,.int .i64 0] 120);have Pi:=Fl.out.ext.size;rw [←EP]at he Ao ⊢;have Io:=Asx (Fl.out.grow Ao);obtain⟨be,A7⟩:=Asw w3.heap.size;rw [←A7]at he Pi ⊢;clear EP Ao A7 Fl;have x1':V4.cell? ⟨bm+1,1,none⟩=some (S (R 3)):=Aa Io.out.cX rfl;have x2':V4.cell? ⟨bm+1,2,none⟩=some (S (R 1)):=Aa Io.out.cX rfl;have x3':V4.cell? ⟨bm+1,3,none⟩=some (S (R 1)):=Aa Io.out.cX rfl;have x4':V4.cell? ⟨bm+1,4,none⟩=some (S (R 3)):=Aa Io.out.cX rfl
 go_upto_region 3 with fail
 obtain⟨V5,KV⟩:=Asw (V4.alloc (.cells #[S (R 3),S (R 1),S (R 1),S (R 3)] 24));have hp:=Asz V4 (.cells #[S (R 3),S (R 1),S (R 1),S (R 3)] 24);have As:=(Ab.refl V4).alloc (.cells #[S (R 3),S (R 1),S (R 1),S (R 3)] 24);rw [←KV]at hp As ⊢;have Qn:=Asx (Io.out.grow As);replace he:=(As.block _ (Asy he)).trans he;obtain⟨bp,Ap⟩:=Asw V4.heap.size;rw [←Ap]at hp ⊢;clear KV As Ap Io x1' x2' x3' x4'
 go_loopw [27] (fun iv wr=>∃i:Nat,iv=.int .i64 (i:Nat)/\i<=2/\IQ w0 B wr bm (bm+1) (bm+1+1) A Bk F c d g x0 x1/\wr.heap[be]?=some (.cells #[.int .i64 (if i=0 then 0 else 1),.int .i64 0] 120)/\wr.heap[bp]?=some (.cells #[S (R 3),S (R 1),S (R 1),S (R 3)] 24)) (fun iv _=>2-(intOf iv).toNat)
 case atStart=>exact⟨0,rfl,by omega,Qn.out,he,hp⟩
 case round=>
  obtain⟨i,rfl,hi,hP,A7,Ap⟩:=hrel;have HP:=Asx hP;clear hP;obtain rfl|rfl|rfl:i=0∨i=1∨i=2:=by omega
  ·have p0:wr.cell? ⟨bp,0,none⟩=some (S (R 3)):=Aa Ap rfl;have p1:wr.cell? ⟨bp,1,none⟩=some (S (R 1)):=Aa Ap rfl
   go_upto_region 5 with fail
   obtain⟨V7,JL⟩:=Asw (wr.alloc (.cells #[S (R 3),S (R 1)] 24));have hz:=Asz wr (.cells #[S (R 3),S (R 1)] 24);have Az:=(Ab.refl wr).alloc (.cells #[S (R 3),S (R 1)] 24);rw [←JL]at hz Az ⊢;have C9:=Asx (HP.out.grow Az);replace A7:=(Az.block _ (Asy A7)).trans A7;replace Ap:=(Az.block _ (Asy Ap)).trans Ap;obtain⟨bs,Bz⟩:=Asw wr.heap.size;rw [←Bz]at hz ⊢;clear JL Az Bz HP p0 p1;have m0:V7.cell? ⟨bm,0,none⟩=some (.slice A 4 c):=Aa C9.out.cM rfl;have m1:V7.cell? ⟨bm,1,none⟩=some (.slice Bk 5 d):=Aa C9.out.cM rfl;have m2:V7.cell? ⟨bm,2,none⟩=some (.slice F 2 g):=Aa C9.out.cM rfl;have z0:V7.cell? ⟨bs,0,none⟩=some (S (R 3)):=Aa hz rfl;have z1:V7.cell? ⟨bs,1,none⟩=some (S (R 1)):=Aa hz rfl;have lc:=C9.out.loc1 hw;clear hz;(go_wp2_with fail);(with_reducible refine lc.mono ?_);rintro e w8 ⟨rfl,Be⟩;have D8:=Asx (C9.out.grow Be);replace A7:=(Be.block _ (Asy A7)).trans A7;replace Ap:=(Be.block _ (Asy Ap)).trans Ap;clear lc Be C9 m0 m1 m2 z0 z1;have e0:=Aa (o:=0) A7 rfl;have fe:=Ah (o:=0) A7;have HF:=Asx (And.intro (D8.out.end (k:=0) A7 Pi (.int .i64 1)) (And.intro (Ac2 (.int .i64 1) A7) ((Bu (p:=⟨be,0,none⟩) (v:=.int .i64 1) (by exact BF Ap A7 (by decide))).trans Ap)));clear A7 Ap;go_wp2;go_roundw
   case rel=>exact⟨1,rfl,by omega,HF.out⟩
   case measure=>simp [intOf]
  ·have p0:wr.cell? ⟨bp,2,none⟩=some (S (R 1)):=Aa Ap rfl;have p1:wr.cell? ⟨bp,3,none⟩=some (S (R 3)):=Aa Ap rfl
   go_upto_region 5 with fail
   obtain⟨V7,JL⟩:=Asw (wr.alloc (.cells #[S (R 1),S (R 3)] 24));have hz:=Asz wr (.cells #[S (R 1),S (R 3)] 24);have Az:=(Ab.refl wr).alloc (.cells #[S (R 1),S (R 3)] 24);rw [←JL]at hz Az ⊢;have C9:=Asx (HP.out.grow Az);replace A7:=(Az.block _ (Asy A7)).trans A7;replace Ap:=(Az.block _ (Asy Ap)).trans Ap;obtain⟨bs,Bz⟩:=Asw wr.heap.size;rw [←Bz]at hz ⊢;clear JL Az Bz HP p0 p1;have m0:V7.cell? ⟨bm,0,none⟩=some (.slice A 4 c):=Aa C9.out.cM rfl;have m1:V7.cell? ⟨bm,1,none⟩=some (.slice Bk 5 d):=Aa C9.out.cM rfl;have m2:V7.cell? ⟨bm,2,none⟩=some (.slice F 2 g):=Aa C9.out.cM rfl;have z0:V7.cell? ⟨bs,0,none⟩=some (S (R 1)):=Aa hz rfl;have z1:V7.cell? ⟨bs,1,none⟩=some (S (R 3)):=Aa hz rfl;have lc:=C9.out.loc0 hw;clear hz;(go_wp2_with fail);(with_reducible refine lc.mono ?_);rintro e w8 ⟨rfl,Be⟩;have D8:=Asx (C9.out.grow Be);replace A7:=(Be.block _ (Asy A7)).trans A7;replace Ap:=(Be.block _ (Asy Ap)).trans Ap;clear lc Be C9 m0 m1 m2 z0 z1;have e0:=Aa (o:=1) A7 rfl;have fe:=Ah (o:=1) A7;have HF:=Asx (And.intro (D8.out.end (k:=1) A7 Pi (.int .i64 0)) (And.intro (Ac3 (.int .i64 0) A7) ((Bu (p:=⟨be,1,none⟩) (v:=.int .i64 0) (by exact BF Ap A7 (by decide))).trans Ap)));clear A7 Ap;go_wp2;go_roundw
   case rel=>exact⟨2,rfl,by omega,HF.out⟩
   case measure=>simp [intOf]
  ·replace A7:wr.heap[be]?=some (.cells #[.int .i64 1,.int .i64 0] 120):=A7;clear Ap;have e0:wr.cell? ⟨be,0,none⟩=some (.int .i64 1):=Aa A7 rfl;have e1:wr.cell? ⟨be,1,none⟩=some (.int .i64 0):=Aa A7 rfl;have hl0:(0:Int)<2:=by omega
   go_upto_region 12 with fail
   have X:=Ab.refl wr;have SO:=fun (w':World) (h:Ab wr w')=>(⟨h.cellS e0,h.cellS e1⟩:_/\_);clear A7
   go_cut [12,13] (fun v12 v13 wx=>∃ba bb,v12=.pointer (some ⟨ba,0,none⟩)/\v13=.pointer (some ⟨bb,0,none⟩)/\wx.heap[ba]?=some (.cells #[.int .i64 1] 3)/\wx.heap[bb]?=some (.cells #[.int .i64 0] 3)/\Ab wr wx)
   case first=>
    go_region_held3 (fun w'=>w'.cell? ⟨be,0,none⟩=some (.int .i64 1)/\w'.cell? ⟨be,1,none⟩=some (.int .i64 0))
     ((refine SO _ ?_;repeat (first|exact X|(with_reducible refine Ab.drew ?_)|(with_reducible refine Ab.alloc ?_ _)|(with_reducible refine Ab.setCell ?_ (by simp) _))))
     (fail)
    all_goals go_wp2
    all_goals go_meet
    all_goals
     first
      | (have tn:=ZT wr (.cells #[.int .i64 1] 3) (.cells #[.int .i64 0] 3);exact⟨_,_,rfl,rfl,tn.1,tn.2.1,tn.2.2⟩)
      | (have tn:=ZT wr (.cells #[.int .i64 0] 3) (.cells #[.int .i64 1] 3);exact⟨_,_,rfl,rfl,tn.2.1,tn.1,tn.2.2⟩)
   case rest=>
    obtain⟨ba,bb,rfl,rfl,Au,AZ,As⟩:=hcut;have Eu:=Asx (HP.out.grow As);clear SO X e0 e1 As HP;have j0:wc.cell? ⟨ba,0,none⟩=some (.int .i64 1):=Aa Au rfl;have j1:wc.cell? ⟨bb,0,none⟩=some (.int .i64 0):=Aa AZ rfl;have j2:wc.cell? ⟨bm,1,none⟩=some (.slice Bk 5 d):=Aa Eu.out.cM rfl;have ce:Calls Tryz.prog 16 #[.slice Bk 5 d] wc (fun e w'=>∃v,e=.returned v/\w'.ownsRow wc.heap.size 51 4 v 5 (Ar c46.eds)/\Ab wc w'):=dT c46.eds Bk d wc Eu.out.own.rd.2.2.1 (by decide);(go_wp2_with fail);(with_reducible refine ce.mono ?_);rintro e w10 ⟨v,rfl,ho10,hx10⟩;obtain⟨A1,c1,rfl⟩:=Fb (by omega) ho10
    have de:Calls Tryz.prog 70 #[.slice A1 5 c1,.func (.func 71) #[] #[.pointer (some ⟨ba,0,none⟩),.pointer (some ⟨bb,0,none⟩)]] w10 (Wh (TE 1 0) wc.heap.size c46.eds w10):=
     AgH (cb:=#[.pointer (some ⟨ba,0,none⟩),.pointer (some ⟨bb,0,none⟩)]) Ahj (TE 1 0) wc.heap.size c46.eds A1 c1 w10 ho10 (by decide) (fun e _ W hk=>AkN e 1 0 (((hk wc hx10 (As0 _)).block _ (Asy Au)).trans Au) (((hk wc hx10 (As0 _)).block _ (Asy AZ)).trans AZ))
    clear ce;(go_wp2_with fail);(with_reducible refine de.mono ?_);rintro e w11 ⟨⟨A2,c2,rfl,hr2,hc2,kh⟩,hk⟩;have EF:Ab wc w11:=hk wc hx10 (As0 _);rw [Ag8]at hr2 hc2 ⊢;replace hc2:4<=c2:=hc2;rw [show BQ.length=4 from rfl];have Im:=Asx (Eu.out.grow EF);replace Au:=(EF.block _ (Asy Au)).trans Au;replace AZ:=(EF.block _ (Asy AZ)).trans AZ;clear de hk ho10 hx10 j0 j1 j2 EF Eu;have j2:w11.cell? ⟨bm,1,none⟩=some (.slice Bk 5 d):=Aa Im.out.cM rfl
    go_upto_region 19 with fail
    clear j2;have y0:w11.cell? ⟨bm,2,none⟩=some (.slice F 2 g):=Aa Im.out.cM rfl;have y1:w11.cell? ⟨bb,0,none⟩=some (.int .i64 0):=Aa AZ rfl;have SO:=fun (w':World) (h:Ab w11 w')=>(⟨h.cellS y0,h.cellS y1⟩:_/\_);have cs:∀W,Ab w11 W→Calls Tryz.prog 17 #[.slice F 2 g] W (fun e w'=>∃v,e=.returned v/\w'.ownsRow W.heap.size 9 1 v 2 ([x0,x1].map S)/\Ab W w'):=fun W h=>dU [x0,x1] F g W (Im.out.own.rd.2.2.2.1.ext h) (by simp)
    have ds:∀(g3 c3:Nat) (W:World) (bs:Nat),W.ownsRow bs 9 1 (.slice (some ⟨g3,0,none⟩) 2 c3) 2 ([x0,x1].map S)→Calls Tryz.prog 73 #[.slice (some ⟨g3,0,none⟩) 2 c3,.int .i64 0,.int .i64 1] W (fun e w'=>e=.returned (.slice (some ⟨g3,0,none⟩) 1 c3)/\w'.ownsRow bs 9 1 (.slice (some ⟨g3,0,none⟩) 1 c3) 1 ([x1].map S)/\Ha bs W w'/\Ak (fun q=>q=g3) W w'):=
     fun g3 c3 W bs h=>AgI bs [x0,x1] g3 c3 0 1 W h (by decide) (by simp)
    have X:=Ab.refl w11;have iw:IntKind.wrap .i64 1=1:=(by decide);have hO:=Asz w11 (.cells #[.slice none 0 0,.slice none 0 0,.slice none 0 0] 35);have hbl:bm<w11.heap.size:=Asy Im.out.cM
    go_cut [16] (fun v16 wx=>∃bo g3 c3,v16=.pointer (some ⟨bo,0,none⟩)/\wx.heap[bo]?=some (.cells #[.slice none 0 0,.slice none 0 0,.slice (some ⟨g3,0,none⟩) 1 c3] 35)/\wx.ownsRow w11.heap.size 9 1 (.slice (some ⟨g3,0,none⟩) 1 c3) 1 ([x1].map S)/\w11.heap.size<=bo/\Ab w11 wx)
    case first=>
     go_region_held3 (fun w'=>w'.cell? ⟨bm,2,none⟩=some (.slice F 2 g)/\w'.cell? ⟨bb,0,none⟩=some (.int .i64 0))
      (first|exact SS|with_reducible exact SO _ X|with_reducible exact SO _ X.drew|with_reducible exact SO _ (X.alloc _)|with_reducible exact SO _ (X.drew.alloc _)|with_reducible exact SO _ (X.alloc _).drew)
      (first
       | ((with_reducible refine(ds g3 c3 Cu w11.heap.size ho).mono ?_);rintro e Ii ⟨rfl,GN,hk3,hb3⟩;replace X:Ab w11 Ii:=hk3 _ X (As0 _);first | (have FQ:=(hb3.block _ (Asy Pd) (fun e0=>Av ho Pd (by decide) (by rw [e0];rfl))).trans Pd;have g0:=Aa (o:=0) FQ rfl;have g1:=Aa (o:=1) FQ rfl;have g2:=Aa (o:=2) FQ rfl;have Jb:=Ah (o:=0) FQ;have g4:=Ah (o:=1) FQ;have g5:=Ah (o:=2) FQ;have SS:=SO _ (CQ X (show w11.heap.size<=w11.heap.size from As0 _) (.slice none 0 0) (.slice none 0 0) (.slice (some ⟨g3,0,none⟩) 1 c3))) | skip)
       | ((with_reducible refine(ds g3 c3 _ w11.heap.size (An ho ((Ab.refl Cu).alloc (.cells #[.slice none 0 0,.slice none 0 0,.slice none 0 0] 35)))).mono ?_);rintro e Ii ⟨rfl,GN,hk3,hb3⟩;have X0:=X;replace X:Ab w11 Ii:=hk3 _ (X.alloc _) (As0 _);have FQ:=(hb3.block _ (Asy (Asz Cu (.cells #[.slice none 0 0,.slice none 0 0,.slice none 0 0] 35))) (fun e0=>Av (An ho ((Ab.refl Cu).alloc _)) (Asz Cu (.cells #[.slice none 0 0,.slice none 0 0,.slice none 0 0] 35)) (by decide) (by rw [e0];rfl))).trans (Asz Cu (.cells #[.slice none 0 0,.slice none 0 0,.slice none 0 0] 35));have g0:=Aa (o:=0) FQ rfl;have g1:=Aa (o:=1) FQ rfl;have g2:=Aa (o:=2) FQ rfl;have Jb:=Ah (o:=0) FQ;have g4:=Ah (o:=1) FQ;have g5:=Ah (o:=2) FQ;have SS:=SO _ (CQ X (show w11.heap.size<=Cu.heap.size from X0.size) (.slice none 0 0) (.slice none 0 0) (.slice (some ⟨g3,0,none⟩) 1 c3)))
       | ((with_reducible refine(cs _ X.drew).mono ?_);rintro e Cu ⟨v,rfl,ho,x12⟩;obtain⟨A3,c3,rfl⟩:=Fb (by omega) ho;obtain⟨g3,rfl⟩:=Z7 ho;replace ho:=Ef ho X.drew.size;replace X:Ab w11 Cu:=X.drew.trans x12)
       | ((with_reducible refine(cs _ (X.alloc (.cells #[.slice none 0 0,.slice none 0 0,.slice none 0 0] 35)).drew).mono ?_);rintro e Cu ⟨v,rfl,ho,x12⟩;obtain⟨A3,c3,rfl⟩:=Fb (by omega) ho;obtain⟨g3,rfl⟩:=Z7 ho;have Pd:=(x12.block _ (Asy hO)).trans hO;replace ho:=Ef ho (X.alloc (.cells #[.slice none 0 0,.slice none 0 0,.slice none 0 0] 35)).drew.size;replace X:Ab w11 Cu:=(X.alloc _).drew.trans x12))
     all_goals go_wp2
     all_goals go_meet
     all_goals
      first
       | exact⟨w11.heap.size,g3,c3,rfl,Dd _ _ _ FQ,DN GN FQ (by decide) _ _ _,As0 _,CQ X (As0 _) _ _ _⟩
       | exact⟨Cu.heap.size,g3,c3,rfl,Dd _ _ _ FQ,DN GN FQ (by decide) _ _ _,X0.size,CQ X X0.size _ _ _⟩
       | exact⟨Ii.heap.size,g3,c3,rfl,Asz Ii _,An GN ((Ab.refl Ii).alloc _),X.size,X.alloc _⟩
    case rest=>
     obtain⟨bo,g3,c3,rfl,DI,Gv,jp,Ke⟩:=hcut;clear X SO y0 y1 hO cs ds hbl;have hmm:=@run_makeMap Tryz.prog;have Jl:=Asz wc (.map #[] 0);have Ci:=Asz (wc.alloc (.map #[] 0)) (.cells #[.map (some wc.heap.size)] 130);have E1:=(Ab.refl wc).alloc (.map #[] 0);have E2:=(Ab.refl (wc.alloc (.map #[] 0))).alloc (.cells #[.map (some wc.heap.size)] 130);rw [As7]at Ci
     have fQ:Ek w11 ((wc.alloc (.map #[] 0)).alloc (.cells #[.map (some wc.heap.size)] 130)) bo (wc.heap.size+1) wc.heap.size (.slice none 0 0) (.slice none 0 0) (.slice (some ⟨g3,0,none⟩) 1 c3) [x1] [] [] []:=
      ⟨Ke.trans (E1.trans E2),((E1.trans E2).block _ (Asy DI)).trans DI,⟨rfl,.inl ⟨rfl,rfl⟩⟩,⟨rfl,.inl ⟨rfl,rfl⟩⟩,An Gv (E1.trans E2),Ci,(E2.block _ (Asy Jl)).trans Jl,⟨jp,Ke.size⟩⟩
     go_upto_region 21 with fail
     generalize (wc.alloc (.map #[] 0)).alloc (.cells #[.map (some wc.heap.size)] 130)=V6 at *;obtain⟨bh,Do⟩:=Asw wc.heap.size;rw [←Do]at fQ ⊢;clear hmm Jl Ci E1 E2 DI Gv jp Ke Do;have HJ0:=Asx fQ;clear fQ;have Qi:=Asx Au;have Wl:=Asx AZ;clear Au AZ
     go_upto_region 23 with fail
     go_loopw [83] (fun iv wr=>∃(j:Nat) (P E:Value),iv=.int .i64 (j:Nat)/\j<=4/\Ek w11 wr bo (bh+1) bh P E (.slice (some ⟨g3,0,none⟩) 1 c3) [x1] (BJ j).1 (BJ j).2.1 (BJ j).2.2) (fun iv _=>4-(intOf iv).toNat)
     case atStart=>exact⟨0,_,_,rfl,by omega,HJ0.out⟩
     case round=>
      obtain⟨j,P,E,rfl,hj,hJ⟩:=hrel;have HJ:=Asx hJ;clear hJ;by_cases hlt:j<4
      ·have CM:j<BQ.length:=hlt;obtain⟨b,o,rfl,hg1,hg2,hg3,hg4⟩:=MD (hr2.ext HJ.out.ext) CM;have hin:=AgU j CM;obtain⟨ye,PK⟩:=Asw (BQ[j]);have hgd:BQ.getD j ⟨0,0,0,0⟩=ye:=(by rw [PK,List.getD_eq_getElem?_getD,As5 CM];rfl);rw [←PK]at hg1 hg2 hg3 hg4 hin;obtain⟨hs1,hs2⟩:=AhK j hlt;clear PK CM;obtain⟨yf,yt,yl,yr⟩:=ye
       dsimp only at hg1 hg2 hg3 hg4 hin
       obtain⟨z1,Lj,PS,z2,Zp,Z8,hz1,hz2,Gv,AjG⟩:=AhJ j _ hgd
       dsimp only at hz1 hz2 Gv
       obtain⟨i1,i2,i3,i4,i5,i6,i7,i8⟩:=hin;have AjJ:PS.length<=100000:=(by omega);clear hgd AjG;have IK:=Asx Gv;clear Gv;obtain⟨nm0,lF⟩:=Asw ((BJ j).1);obtain⟨ps0,YO⟩:=Asw ((BJ j).2.1);obtain⟨N1,Yu⟩:=Asw ((BJ j).2.2);have Adr:=Asx Yu;have hJ:=HJ.out;rw [←lF,←YO,←Yu]at hJ;rw [←lF,←YO]at hz1;rw [←YO]at hs1;rw [←Yu]at hs2;clear lF YO Yu HJ;obtain⟨n,hn⟩:=Asw N1.length;obtain⟨oE,cE,rfl,-,-,-⟩:=Ad.of_own' (by omega) hJ.eds;rw [←hn]at hJ hs2;have HN:=Asx hn;clear hn;have HJ:=Asx hJ;clear hJ;have hj0:(0:Int)<=(j:Int):=(by omega);have hj4:(j:Int)<4:=(by omega);have Ci:n<200000:=by omega
       have cA:∀{W:World} {P:Value},Ek w11 W bo (bh+1) bh P (.slice oE n cE) (.slice (some ⟨g3,0,none⟩) 1 c3) [x1] nm0 ps0 N1→Calls Tryz.prog 74 #[.int .i64 yf,.pointer (some ⟨bh+1,0,none⟩),.pointer (some ⟨bo,0,none⟩),.pointer (some ⟨bm,0,none⟩)] W (Tg w11 W bo (bh+1) bh (.slice oE n cE) (.slice (some ⟨g3,0,none⟩) 1 c3) [x1] N1 z1 Lj PS):=fun h=>by have:=ya h c46.pts Im.out.cM Im.out.own.rd.2.1 yf i1 i2 (by omega);rw [hz1]at this;exact this
       have cB:∀{W:World} {P:Value},Ek w11 W bo (bh+1) bh P (.slice oE n cE) (.slice (some ⟨g3,0,none⟩) 1 c3) [x1] Lj PS N1→Calls Tryz.prog 74 #[.int .i64 yt,.pointer (some ⟨bh+1,0,none⟩),.pointer (some ⟨bo,0,none⟩),.pointer (some ⟨bm,0,none⟩)] W (Tg w11 W bo (bh+1) bh (.slice oE n cE) (.slice (some ⟨g3,0,none⟩) 1 c3) [x1] N1 z2 Zp Z8):=fun h=>by have:=ya h c46.pts Im.out.cM Im.out.own.rd.2.1 yt i3 i4 AjJ;rw [hz2]at this;exact this
       have cC:∀{W:World},Ab w11 W→Calls Tryz.prog 72 #[.int .i64 yl,.pointer (some ⟨bb,0,none⟩),.pointer (some ⟨ba,0,none⟩)] W (AI (Lt 1 0 yl) W):=fun h=>xz yl 1 0 ⟨i5,i6⟩ (by omega) ((h.block _ (Asy Qi.out)).trans Qi.out) ((h.block _ (Asy Wl.out)).trans Wl.out)
       have cD:∀{W:World},Ab w11 W→Calls Tryz.prog 72 #[.int .i64 yr,.pointer (some ⟨bb,0,none⟩),.pointer (some ⟨ba,0,none⟩)] W (AI (Lt 1 0 yr) W):=fun h=>xz yr 1 0 ⟨i7,i8⟩ (by omega) ((h.block _ (Asy Qi.out)).trans Qi.out) ((h.block _ (Asy Wl.out)).trans Wl.out)
       obtain⟨sl,CV⟩:=Asw (Lt 1 0 yl);obtain⟨sr,R9⟩:=Asw (Lt 1 0 yr);have Gv:=IK.out;rw [←CV,←R9,←Adr.out]at Gv;rw [←CV]at cC;rw [←R9]at cD;clear CV R9 IK hz1 hz2;have IK:=Asx Gv;clear Gv
       go_upto_region 25 with fail
       have ve:=Asz wr (.cells #[.int .i64 yf,.int .i64 yt,.int .i64 yl,.int .i64 yr] 51);have RF:=(Ab.refl wr).alloc (.cells #[.int .i64 yf,.int .i64 yt,.int .i64 yl,.int .i64 yr] 51);have ae:∀k,(Value.slice oE n cE).ownBlock=some k→k<wr.heap.size:=fun k hk=>(HJ.out.eds.lt k hk).2;have sE:=Asx (HJ.out.grow RF);clear RF hg1 hg2 hg3 hg4 i1 i2 i3 i4 i5 i6 i7 i8;generalize wr.alloc (.cells #[.int .i64 yf,.int .i64 yt,.int .i64 yl,.int .i64 yr] 51)=V7 at *;obtain⟨bE,Uu⟩:=Asw wr.heap.size;rw [←Uu]at ve ae ⊢;clear Uu;have q0:V7.cell? ⟨bE,0,none⟩=some (.int .i64 yf):=Aa ve rfl;have q1:V7.cell? ⟨bE,1,none⟩=some (.int .i64 yt):=Aa ve rfl;have q2:V7.cell? ⟨bE,2,none⟩=some (.int .i64 yl):=Aa ve rfl;have q3:V7.cell? ⟨bE,3,none⟩=some (.int .i64 yr):=Aa ve rfl;have o0:V7.cell? ⟨bo,1,none⟩=some (.slice oE n cE):=Aa sE.out.cO rfl;have hnE:(Value.slice oE n cE).ownBlock≠some bE:=fun h=>Nat.lt_irrefl _ (ae _ h);have SO:=fun (w':World) (h:w'.heap[bE]?=some (.cells #[.int .i64 yf,.int .i64 yt,.int .i64 yl,.int .i64 yr] 51)) (h2:w'.cell? ⟨bo,1,none⟩=some (.slice oE n cE))=>(⟨Aa h rfl,Aa h rfl,Aa h rfl,Aa h rfl,h2⟩:w'.cell? ⟨bE,0,none⟩=some (.int .i64 yf)/\w'.cell? ⟨bE,1,none⟩=some (.int .i64 yt)/\w'.cell? ⟨bE,2,none⟩=some (.int .i64 yl)/\w'.cell? ⟨bE,3,none⟩=some (.int .i64 yr)/\w'.cell? ⟨bo,1,none⟩=some (.slice oE n cE));have X:Ab V7 V7.drew:=(Ab.refl V7).drew;refine AcP (T:=[22]) (S:=fun w'=>w'.cell? ⟨bE,0,none⟩=some (.int .i64 yf)/\w'.cell? ⟨bE,1,none⟩=some (.int .i64 yt)/\w'.cell? ⟨bE,2,none⟩=some (.int .i64 yl)/\w'.cell? ⟨bE,3,none⟩=some (.int .i64 yr)/\w'.cell? ⟨bo,1,none⟩=some (.slice oE n cE)) (by kernel_rfl) (SO _ ve o0) (fun hHeld=>?_);refine DO (i:=0) (v:=?_) rfl (by kernel_rfl) (fun _ _ _ h=>h) hHeld (by rfl) ?_ ?_
       rotate_left
       ·(intro w hSw;(try dsimp only at hSw);go_simp;try (with_reducible rfl))
       try simp only [Act.put,List.setIfInBounds_toArray,List.set_cons_zero,List.set_cons_succ]
       refine DO (i:=1) (v:=?_) rfl (by kernel_rfl) (fun _ _ _ h=>h) hHeld (by rfl) ?_ ?_
       rotate_left
       ·(intro w hSw;(try dsimp only at hSw);go_simp;try (with_reducible rfl))
       try simp only [Act.put,List.setIfInBounds_toArray,List.set_cons_zero,List.set_cons_succ]
       refine DO (i:=2) (v:=?_) rfl (by kernel_rfl) (fun _ _ _ h=>h) hHeld (by rfl) ?_ ?_
       rotate_left
       ·(intro w hSw;(try dsimp only at hSw);go_simp;try (with_reducible rfl))
       try simp only [Act.put,List.setIfInBounds_toArray,List.set_cons_zero,List.set_cons_succ]
       refine DO (i:=3) (v:=?_) rfl (by kernel_rfl) (fun _ _ _ h=>h) hHeld (by rfl) ?_ ?_
       rotate_left
       ·(intro w hSw;(try dsimp only at hSw);go_simp;try (with_reducible rfl))
       try simp only [Act.put,List.setIfInBounds_toArray,List.set_cons_zero,List.set_cons_succ]
       refine DO (i:=4) (v:=?_) rfl (by kernel_rfl) (fun _ _ _ h=>h) hHeld (by rfl) ?_ ?_
       rotate_left
       ·(intro w hSw;(try dsimp only at hSw);go_simp;try (with_reducible rfl))
       try simp only [Act.put,List.setIfInBounds_toArray,List.set_cons_zero,List.set_cons_succ]
       refine DO (i:=6) (v:=?_) rfl (by kernel_rfl) (fun _ _ _ h=>h) hHeld (by rfl) ?_ ?_
       rotate_left
       ·(intro w hSw;(try dsimp only at hSw);go_simp;try (with_reducible rfl))
       try simp only [Act.put,List.setIfInBounds_toArray,List.set_cons_zero,List.set_cons_succ]
       refine DO (i:=7) (v:=?_) rfl (by kernel_rfl) (fun _ _ _ h=>h) hHeld (by rfl) ?_ ?_
       rotate_left
       ·(intro w hSw;(try dsimp only at hSw);go_simp;try (with_reducible rfl))
       try simp only [Act.put,List.setIfInBounds_toArray,List.set_cons_zero,List.set_cons_succ]
       refine DO (i:=8) (v:=?_) rfl (by kernel_rfl) (fun _ _ _ h=>h) hHeld (by rfl) ?_ ?_
       rotate_left
       ·(intro w hSw;(try dsimp only at hSw);go_simp;try (with_reducible rfl))
       try simp only [Act.put,List.setIfInBounds_toArray,List.set_cons_zero,List.set_cons_succ]
       refine DO (i:=10) (v:=?_) rfl (by kernel_rfl) (fun _ _ _ h=>h) hHeld (by rfl) ?_ ?_
       rotate_left
       ·(intro w hSw;(try dsimp only at hSw);go_simp;try (with_reducible rfl))
       try simp only [Act.put,List.setIfInBounds_toArray,List.set_cons_zero,List.set_cons_succ]
       refine DO (i:=11) (v:=?_) rfl (by kernel_rfl) (fun _ _ _ h=>h) hHeld (by rfl) ?_ ?_
       rotate_left
       ·(intro w hSw;(try dsimp only at hSw);go_simp;try (with_reducible rfl))
       try simp only [Act.put,List.setIfInBounds_toArray,List.set_cons_zero,List.set_cons_succ]
       refine DO (i:=12) (v:=?_) rfl (by kernel_rfl) (fun _ _ _ h=>h) hHeld (by rfl) ?_ ?_
       rotate_left
       ·(intro w hSw;(try dsimp only at hSw);go_simp;try (with_reducible rfl))
       try simp only [Act.put,List.setIfInBounds_toArray,List.set_cons_zero,List.set_cons_succ]
       refine DO (i:=14) (v:=?_) rfl (by kernel_rfl) (fun _ _ _ h=>h) hHeld (by rfl) ?_ ?_
       rotate_left
       ·(intro w hSw;(try dsimp only at hSw);go_simp;try (with_reducible rfl))
       try simp only [Act.put,List.setIfInBounds_toArray,List.set_cons_zero,List.set_cons_succ]
       refine DO (i:=15) (v:=?_) rfl (by kernel_rfl) (fun _ _ _ h=>h) hHeld (by rfl) ?_ ?_
       rotate_left
       ·(intro w hSw;(try dsimp only at hSw);go_simp;try (with_reducible rfl))
       try simp only [Act.put,List.setIfInBounds_toArray,List.set_cons_zero,List.set_cons_succ]
       refine DO (i:=16) (v:=?_) rfl (by kernel_rfl) (fun _ _ _ h=>h) hHeld (by rfl) ?_ ?_
       rotate_left
       ·(intro w hSw;(try dsimp only at hSw);go_simp;try (with_reducible rfl))
       try simp only [Act.put,List.setIfInBounds_toArray,List.set_cons_zero,List.set_cons_succ]
       refine GU (i:=5) rfl (by kernel_rfl) (fun K hK=>?_)
       go_simp
       (with_reducible refine(cA (sE.out.grow X)).mono ?_);rintro e w5 ⟨P5,rfl,hJ5,hk5⟩;have HJ5:=Asx hJ5;have ve5:=hk5 bE _ ve;have o5:w5.cell? ⟨bo,1,none⟩=some (.slice oE n cE):=Aa hJ5.cO rfl;clear hJ5 hk5;refine hK.out _ _ (fun _=>SO _ ve5 o5) (fun hH=>?_);have hHeld:=hH rfl;clear hK K hH
       try simp only [Act.put,List.setIfInBounds_toArray,List.set_cons_zero,List.set_cons_succ]
       refine GU (i:=9) rfl (by kernel_rfl) (fun K hK=>?_)
       go_simp
       (with_reducible refine(cB HJ5.out).mono ?_);rintro e w6 ⟨P6,rfl,hJ6,hk6⟩;have sF:=Asx hJ6;have qV:=hk6 bE _ ve5;have o6:w6.cell? ⟨bo,1,none⟩=some (.slice oE n cE):=Aa hJ6.cO rfl;clear hJ6 hk6;refine hK.out _ _ (fun _=>SO _ qV o6) (fun hH=>?_);have hHeld:=hH rfl;clear hK K hH
       try simp only [Act.put,List.setIfInBounds_toArray,List.set_cons_zero,List.set_cons_succ]
       refine GU (i:=13) rfl (by kernel_rfl) (fun K hK=>?_)
       go_simp
       (with_reducible refine(cC sF.out.ext).mono ?_);rintro e w7 ⟨rfl,x7⟩;have aS:=Asx (sF.out.grow x7);have qW:=(x7.block _ (Asy qV)).trans qV;have o7:w7.cell? ⟨bo,1,none⟩=some (.slice oE n cE):=Aa aS.out.cO rfl;refine hK.out _ _ (fun _=>SO _ qW o7) (fun hH=>?_);have hHeld:=hH rfl;clear hK K hH
       try simp only [Act.put,List.setIfInBounds_toArray,List.set_cons_zero,List.set_cons_succ]
       refine GU (i:=17) rfl (by kernel_rfl) (fun K hK=>?_)
       go_simp
       (with_reducible refine(cD aS.out.ext).mono ?_);rintro e w8 ⟨rfl,x8⟩;have SJ:=Asx (aS.out.grow x8);have Sx:=(x8.block _ (Asy qW)).trans qW;have o8:w8.cell? ⟨bo,1,none⟩=some (.slice oE n cE):=Aa SJ.out.cO rfl;have o9:(w8.alloc (.cells #[.int .i64 z1,.int .i64 z2,.int .i64 sl,.int .i64 sr] 51)).cell? ⟨bo,1,none⟩=some (.slice oE n cE):=Aa (SJ.out.grow ((Ab.refl w8).alloc _)).cO rfl;have HO8:=Asx (show w8.ownsRow w11.heap.size 51 4 (.slice oE n cE) n (Ar N1)by have:=SJ.out.eds;rw [←HN.out]at this;exact this);refine hK.out _ _ (fun _=>SO _ Sx o8) (fun hH=>?_);have hHeld:=hH rfl;clear hK K hH
       try simp only [Act.put,List.setIfInBounds_toArray,List.set_cons_zero,List.set_cons_succ]
       refine DO (i:=18) (v:=?_) rfl (by kernel_rfl) (fun _ _ _ h=>h) hHeld (by rfl) ?_ ?_
       rotate_left
       ·(intro w hSw;(try dsimp only at hSw);go_simp;try (with_reducible rfl))
       try simp only [Act.put,List.setIfInBounds_toArray,List.set_cons_zero,List.set_cons_succ]
       refine GU (i:=19) rfl (by kernel_rfl) (fun K hK=>?_)
       go_simp
       refine hK.out _ _ (fun _=>SO _ ((((Ab.refl w8).alloc (.cells #[.int .i64 z1,.int .i64 z2,.int .i64 sl,.int .i64 sr] 51)).block _ (Asy Sx)).trans Sx) o9) (fun hH=>?_);have hHeld:=hH rfl;clear hK K hH
       try simp only [Act.put,List.setIfInBounds_toArray,List.set_cons_zero,List.set_cons_succ]
       refine GU (i:=20) rfl (by kernel_rfl) (fun K hK=>?_);refine Apd rfl _ _ rfl _ w11.heap.size (.slice oE n cE) n N1 rfl (An HO8.out ((Ab.refl w8).alloc _)) Ci ⟨z1,z2,sl,sr⟩ w8.heap.size (Asz w8 _) rfl (AsA SJ.out.ext.size ((Ab.refl w8).alloc _).size) ?_;intro v9 w9 Bo AP;obtain⟨oE9,vT,rfl,-,-,-⟩:=Ad.of_own' (by omega) Bo;obtain⟨DG,Uc⟩:=(SJ.out.grow ((Ab.refl w8).alloc _)).ed AP (es':=N1 ++ [⟨z1,z2,sl,sr⟩]) (by rw [List.length_append,←HN.out];exact Bo);have ve9:=(AP.block bE (As9 (Asy Sx) ((Ab.refl w8).alloc _).size) (fun e=>hnE e.symm)).trans ((((Ab.refl w8).alloc _).block _ (Asy Sx)).trans Sx);have j0:w9.cell? ⟨bo,1,none⟩=some (.slice oE n cE):=Aa DG rfl;have j1:=Ah (o:=1) DG;have HJ9:=Asx Uc;clear Uc AP Bo;refine hK.out _ _ (fun _=>SO _ ve9 j0) (fun hH=>?_);have hHeld:=hH rfl;clear hK K hH
       try simp only [Act.put,List.setIfInBounds_toArray,List.set_cons_zero,List.set_cons_succ]
       refine DO (i:=21) (v:=?_) rfl (by kernel_rfl) (fun _ _ _ h=>h) hHeld (by rfl) ?_ ?_
       rotate_left
       ·(intro w hSw;(try dsimp only at hSw);go_simp;try (with_reducible rfl))
       try simp only [Act.put,List.setIfInBounds_toArray,List.set_cons_zero,List.set_cons_succ]
       refine GU (i:=22) rfl (by kernel_rfl) (fun K hK=>?_)
       go_simp
       refine hK.out _ _ (fun h=>by simp at h) (fun _=>?_);clear hK K hHeld
       try simp only [Act.put,List.setIfInBounds_toArray,List.set_cons_zero,List.set_cons_succ]
       refine yC (by kernel_rfl) ?_ _
       all_goals (
        clear j0 j1;generalize w9.setCell ⟨bo,1,none⟩ (.slice oE9 (n+1) vT)=LF at *;go_wp2;go_roundw
        case rel=>exact⟨j+1,P6,.slice oE9 (n+1) vT,by go_num,by omega,by rw [IK.out];exact HJ9.out⟩
        case measure=>simp [intOf];omega)
      ·obtain rfl:j=4:=(by omega);obtain⟨f1,f2⟩:=AhI;have hJ:=HJ.out;rw [f1,f2]at hJ;obtain⟨oP,cP,rfl,-,-,-⟩:=Ad.of_own' (by omega) hJ.pts;obtain⟨oE,cE,rfl,-,-,-⟩:=Ad.of_own' (by omega) hJ.eds;replace hJ:Ek w11 wr bo (bh+1) bh (.slice oP 4 cP) (.slice oE 4 cE) (.slice (some ⟨g3,0,none⟩) 1 c3) [x1] (BJ 4).1 AL.pts AL.eds:=hJ;have k0:wr.cell? ⟨bo,0,none⟩=some (.slice oP 4 cP):=Aa hJ.cO rfl;have k1:wr.cell? ⟨bo,1,none⟩=some (.slice oE 4 cE):=Aa hJ.cO rfl;have k2:wr.cell? ⟨bo,2,none⟩=some (.slice (some ⟨g3,0,none⟩) 1 c3):=Aa hJ.cO rfl;have AE:=(hJ.ext.block _ (Asy Im.out.cR)).trans Im.out.cR;have g0:=Aa (o:=0) AE rfl;have g1:=Aa (o:=1) AE rfl;have g2:=Aa (o:=2) AE rfl;have Jb:=Ah (o:=0) AE;have g4:=Ah (o:=1) AE;have g5:=Ah (o:=2) AE;have AA:=Dd (.slice oP 4 cP) (.slice oE 4 cE) (.slice (some ⟨g3,0,none⟩) 1 c3) AE;have t1:=Aa (o:=0) AA rfl;have t2:=Aa (o:=1) AA rfl;have t3:=Aa (o:=2) AA rfl;have hB:B<=w11.heap.size:=Im.out.szb.2.2.2;have Bf:=Asx (show Cx B (((wr.setCell ⟨bm+1+1,0,none⟩ (.slice oP 4 cP)).setCell ⟨bm+1+1,1,none⟩ (.slice oE 4 cE)).setCell ⟨bm+1+1,2,none⟩ (.slice (some ⟨g3,0,none⟩) 1 c3)) oP oE (some ⟨g3,0,none⟩) cP cE c3 AL [x1] from⟨DN (Ef hJ.pts hB) AE (by decide) _ _ _,DN (Ef hJ.eds hB) AE (by decide) _ _ _,DN (Ef hJ.fac hB) AE (by decide) _ _ _,rfl⟩);have aL:=Asx (CQ (Im.out.ext.trans hJ.ext) Im.out.szb.2.1 (.slice oP 4 cP) (.slice oE 4 cE) (.slice (some ⟨g3,0,none⟩) 1 c3));clear hJ HJ AE AA f1 f2 hB;go_wp2;refine bodyPost_ret (v:=.tuple #[.agg #[.slice oP 4 cP,.slice oE 4 cE,(.slice (some ⟨g3,0,none⟩) 1 c3)],.int .i64 0]) (by simp [results,Tryz.results39,go_sem,t1,t2,t3]) rfl ?_;exact⟨oP,oE,some ⟨g3,0,none⟩,cP,cE,c3,rfl,Bf.out,aL.out⟩
theorem Afs(m m':MapZ)(fa fa':List Bs)(BS:m.nf=fa.length)(hgr:∀p∈m.pts,Ce p)(hck:Fq m=0)(hpl:m.pts.length<=1000)(hel:m.eds.length<=1000)(C5:fa.length<=1000)(U3:Iu m'=true)(Mt:m'.nf=fa'.length)(Rj:fa'.length<=1000)(a b:Pt)(u:Bs)(w:World)(hw:Aj w)
  (hsc:∀W,Ab w W→Calls Tryz.prog 9 #[Gl 3 a b u] W (AI 0 W))
  (Mm:∀(V W:World) (A B F:Option Addr) (c d g:Nat),Ab w V→Ab V W→Cx V.heap.size W A B F c d g m fa→Calls Tryz.prog 39 #[AH A B F m c d g,Gl 3 a b u] W (tM V.heap.size V W m' fa'))
  (A B F:Option Addr) (c d g:Nat) (AW:Db m c d g) (hA:Ad w A (flat (Ag m.pts))) (hB:Ad w B (Ar m.eds)) (hF:Ad w F (fa.map S)) :
  Calls Tryz.prog 10 #[AH A B F m c d g,Gl 3 a b u] w (fun e w'=>MS w (OL m' fa') (Dx m' fa').fa e w'):=by
 obtain⟨hM,hE,hR,hX⟩:=PZ w (.cells #[.slice A m.pts.length c,.slice B m.eds.length d,.slice F m.nf g] 35) (.cells #[.int .i64 3,S (R a.x),S (R a.y),S (R b.x),S (R b.y),S [],S [],S u] 26) (.cells #[.slice none 0 0,.slice none 0 0,.slice none 0 0] 35);have pc:=fun W (hx:Ab w W)=>PR m hgr A B F c d g AW W (hw.ext hx) (hA.ext hx) (hB.ext hx);rw [hck]at pc;have cp:=fun W (hx:Ab w W)=>xF m fa BS hpl hel C5 A B F c d g W (hA.ext hx) (hB.ext hx) (hF.ext hx);have HM:=Asx (And.intro U3 (And.intro Mt (And.intro Rj BS)));clear U3 Mt Rj BS AW hA hB hF hgr hck;unfold AH at pc cp ⊢;unfold Gl at hsc Mm ⊢;unfold AH at Mm;go_enter Tryz.func10,Tryz.ntmps10
 go_upto_region 1 with fail
 generalize ((w.alloc (.cells #[.slice A m.pts.length c,.slice B m.eds.length d,.slice F m.nf g] 35)).alloc (.cells #[.int .i64 3,S (R a.x),S (R a.y),S (R b.x),S (R b.y),S [],S [],S u] 26)).alloc (.cells #[.slice none 0 0,.slice none 0 0,.slice none 0 0] 35)=V at *;obtain⟨bm,AB⟩:=Asw w.heap.size;have Yh:=AB;rw [←AB]at hM hE hR ⊢;have k0:V.cell? ⟨bm,0,none⟩=some (.slice A m.pts.length c):=Aa hM rfl;have k1:V.cell? ⟨bm,1,none⟩=some (.slice B m.eds.length d):=Aa hM rfl;have k2:V.cell? ⟨bm,2,none⟩=some (.slice F m.nf g):=Aa hM rfl;have aE:=Asx AB;clear AB Yh;have p1:=pc V hX;(go_wp2_with fail);(with_reducible refine p1.mono ?_);rintro e w1 ⟨rfl,hx1⟩;have Dz:=hX.trans hx1;have x0:w1.cell? ⟨bm+1,0,none⟩=some (.int .i64 3):=Aa ((hx1.block _ (Asy hE)).trans hE) rfl;have x1:w1.cell? ⟨bm+1,1,none⟩=some (S (R a.x)):=Aa ((hx1.block _ (Asy hE)).trans hE) rfl;have x2:w1.cell? ⟨bm+1,2,none⟩=some (S (R a.y)):=Aa ((hx1.block _ (Asy hE)).trans hE) rfl;have x3:w1.cell? ⟨bm+1,3,none⟩=some (S (R b.x)):=Aa ((hx1.block _ (Asy hE)).trans hE) rfl;have x4:w1.cell? ⟨bm+1,4,none⟩=some (S (R b.y)):=Aa ((hx1.block _ (Asy hE)).trans hE) rfl;have x5:w1.cell? ⟨bm+1,5,none⟩=some (S []):=Aa ((hx1.block _ (Asy hE)).trans hE) rfl;have x6:w1.cell? ⟨bm+1,6,none⟩=some (S []):=Aa ((hx1.block _ (Asy hE)).trans hE) rfl;have x7:w1.cell? ⟨bm+1,7,none⟩=some (S u):=Aa ((hx1.block _ (Asy hE)).trans hE) rfl;have s1:=hsc w1 Dz;clear p1 pc k0 k1 k2;(go_wp2_with fail);(with_reducible refine s1.mono ?_);rintro e w2 ⟨rfl,hx2⟩;have BR:=Dz.trans hx2;have hV2:=hx1.trans hx2;replace x0:=hx2.cellS x0;clear s1 hsc x1 x2 x3 x4 x5 x6 x7;have al:∀O,(w2.alloc O).cell? ⟨bm+1,0,none⟩=some (.int .i64 3):=fun O=>((Ab.refl w2).alloc O).cellS x0
 go_upto_region 8 with fail
 clear al;have hx3:=fun O=>(Ab.refl w2).alloc O;generalize hW3:w2.alloc _=W3;have BL:Ab w2 W3:=hW3▸hx3 _;have CG:=((hV2.trans BL).block _ (Asy hM)).trans hM;have Ck:=((hV2.trans BL).block _ (Asy hE)).trans hE;have AE:=((hV2.trans BL).block _ (Asy hR)).trans hR;have hW:=BR.trans BL;clear hW3 hx3 BL x0 hM hE hR;have k0:W3.cell? ⟨bm,0,none⟩=some (.slice A m.pts.length c):=Aa CG rfl;have k1:W3.cell? ⟨bm,1,none⟩=some (.slice B m.eds.length d):=Aa CG rfl;have k2:W3.cell? ⟨bm,2,none⟩=some (.slice F m.nf g):=Aa CG rfl;have y0:W3.cell? ⟨bm+1,0,none⟩=some (.int .i64 3):=Aa Ck rfl;have y1:W3.cell? ⟨bm+1,1,none⟩=some (S (R a.x)):=Aa Ck rfl;have y2:W3.cell? ⟨bm+1,2,none⟩=some (S (R a.y)):=Aa Ck rfl;have y3:W3.cell? ⟨bm+1,3,none⟩=some (S (R b.x)):=Aa Ck rfl;have y4:W3.cell? ⟨bm+1,4,none⟩=some (S (R b.y)):=Aa Ck rfl;have y5:W3.cell? ⟨bm+1,5,none⟩=some (S []):=Aa Ck rfl;have y6:W3.cell? ⟨bm+1,6,none⟩=some (S []):=Aa Ck rfl;have y7:W3.cell? ⟨bm+1,7,none⟩=some (S u):=Aa Ck rfl;have SO:=fun (w':World) (h:Ab W3 w')=>(⟨h.cellS k0,h.cellS k1,h.cellS k2,h.cellS y0,h.cellS y1,h.cellS y2,h.cellS y3,h.cellS y4,h.cellS y5,h.cellS y6,h.cellS y7⟩:_/\_/\_/\_/\_/\_/\_/\_/\_/\_/\_);have X:=Ab.refl W3;have hO:=Asz W3 (.cells #[.slice none 0 0,.slice none 0 0,.slice none 0 0] 35)
 go_cut [9,10] (fun v9 v10 wx=>∃bo A' B' F' c' d' g',v9=.pointer (some ⟨bo,0,none⟩)/\v10=.int .i64 0/\wx.heap[bo]?=some (.cells #[.slice A' m'.pts.length c',.slice B' m'.eds.length d',.slice F' m'.nf g'] 35)/\Cx w.heap.size wx A' B' F' c' d' g' m' fa'/\Ab W3 wx)
 case first=>
  go_region_held3 (fun w'=>w'.cell? ⟨bm,0,none⟩=some (.slice A m.pts.length c)/\w'.cell? ⟨bm,1,none⟩=some (.slice B m.eds.length d)/\w'.cell? ⟨bm,2,none⟩=some (.slice F m.nf g)/\w'.cell? ⟨bm+1,0,none⟩=some (.int .i64 3)/\w'.cell? ⟨bm+1,1,none⟩=some (S (R a.x))/\w'.cell? ⟨bm+1,2,none⟩=some (S (R a.y))/\w'.cell? ⟨bm+1,3,none⟩=some (S (R b.x))/\w'.cell? ⟨bm+1,4,none⟩=some (S (R b.y))/\w'.cell? ⟨bm+1,5,none⟩=some (S [])/\w'.cell? ⟨bm+1,6,none⟩=some (S [])/\w'.cell? ⟨bm+1,7,none⟩=some (S u))
   (first|exact SS|with_reducible exact SO _ X|with_reducible exact SO _ X.drew|with_reducible exact SO _ (X.alloc _)|with_reducible exact SO _ (X.alloc _).drew)
   (first
    | ((with_reducible refine(Mm V4 w4 A4 B4 F4 c4 d4 g4 EP x4 o4).mono ?_);rintro e w5 ⟨A5,B5,F5,c5,d5,g6,rfl,o5,x5,JZ⟩;replace X:Ab W3 w5:=CL.trans x5;unfold AH;first | (have Cg:=JZ _ _ Pd;have g0:=Aa (o:=0) Cg rfl;have g1:=Aa (o:=1) Cg rfl;have g2:=Aa (o:=2) Cg rfl;have Jb:=Ah (o:=0) Cg;have g4:=Ah (o:=1) Cg;have g5:=Ah (o:=2) Cg;have SS:=SO _ (CQ X (As0 _) (.slice A5 m'.pts.length c5) (.slice B5 m'.eds.length d5) (.slice F5 m'.nf g6))) | skip)
    | ((with_reducible refine(Mm V4 _ A4 B4 F4 c4 d4 g4 EP (x4.alloc (.cells #[.slice none 0 0,.slice none 0 0,.slice none 0 0] 35)) (o4.ext ((Ab.refl w4).alloc (.cells #[.slice none 0 0,.slice none 0 0,.slice none 0 0] 35)))).mono ?_);rintro e w5 ⟨A5,B5,F5,c5,d5,g6,rfl,o5,x5,JZ⟩;have X0:=X;replace X:Ab W3 w5:=CL.trans x5;unfold AH;have Cg:=JZ _ _ (Asz w4 (.cells #[.slice none 0 0,.slice none 0 0,.slice none 0 0] 35));have g0:=Aa (o:=0) Cg rfl;have g1:=Aa (o:=1) Cg rfl;have g2:=Aa (o:=2) Cg rfl;have Jb:=Ah (o:=0) Cg;have g4:=Ah (o:=1) Cg;have g5:=Ah (o:=2) Cg;have SS:=SO _ (CQ X X0.size (.slice A5 m'.pts.length c5) (.slice B5 m'.eds.length d5) (.slice F5 m'.nf g6)))
    | ((with_reducible refine(cp _ (hW.trans X.drew)).mono ?_);rintro e w4 ⟨A4,B4,F4,c4,d4,g4,rfl,o4,x4⟩;obtain⟨V4,Hr⟩:=Asw W3.drew;rw [←Hr]at o4 x4;have CL:Ab W3 V4:=Hr▸X.drew;have EP:=hW.trans CL;replace X:Ab W3 w4:=CL.trans x4;unfold AH)
    | ((with_reducible refine(cp _ (hW.trans (X.alloc (.cells #[.slice none 0 0,.slice none 0 0,.slice none 0 0] 35)).drew)).mono ?_);rintro e w4 ⟨A4,B4,F4,c4,d4,g4,rfl,o4,x4⟩;have Pd:=(x4.block _ (Asy hO)).trans hO;obtain⟨V4,Hr⟩:=Asw ((W3.alloc (.cells #[.slice none 0 0,.slice none 0 0,.slice none 0 0] 35)).drew);rw [←Hr]at o4 x4;have CL:Ab W3 V4:=Hr▸(X.alloc _).drew;have EP:=hW.trans CL;replace X:Ab W3 w4:=CL.trans x4;unfold AH))
  all_goals go_wp2
  all_goals go_meet
  all_goals
   first
    | exact⟨W3.heap.size,A5,B5,F5,c5,d5,g6,rfl,rfl,Dd _ _ _ Cg,(o5.low EP.size).set3 Cg _ _ _,CQ X (As0 _) _ _ _⟩
    | exact⟨w4.heap.size,A5,B5,F5,c5,d5,g6,rfl,rfl,Dd _ _ _ Cg,(o5.low EP.size).set3 Cg _ _ _,CQ X X0.size _ _ _⟩
    | exact⟨w5.heap.size,A5,B5,F5,c5,d5,g6,rfl,rfl,Asz w5 _,(o5.low EP.size).ext ((Ab.refl w5).alloc _),X.alloc _⟩
 case rest=>obtain⟨bo,A5,B5,F5,c5,d5,g5,rfl,rfl,DI,o5,As⟩:=hcut;have hb5:=(As.block _ (Asy AE)).trans AE;obtain⟨hc5,r1,r2,r3,r4⟩:=o5.rd;have cn:=AaV m' fa' HM.out.2.1 HM.out.1 A5 B5 F5 c5 d5 g5 hc5 wc (hw.ext (hW.trans As)) r1 r2 r3 r4 (by have h1:=HM.out.2.1;have h2:=HM.out.2.2.1;omega);have Ht:=hW.trans As;clear SO X hO k0 k1 k2 y0 y1 y2 y3 y4 y5 y6 y7 o5 r1 r2 r3 r4 hc5 CG Ck AE;unfold AH at cn;have j0:wc.cell? ⟨bo,0,none⟩=some (.slice A5 m'.pts.length c5):=Aa DI rfl;have j1:wc.cell? ⟨bo,1,none⟩=some (.slice B5 m'.eds.length d5):=Aa DI rfl;have j2:wc.cell? ⟨bo,2,none⟩=some (.slice F5 m'.nf g5):=Aa DI rfl;obtain⟨mm,hmm⟩:=Asw (OL m' fa');obtain⟨ff,JS⟩:=Asw ((Dx m' fa').fa);rw [←hmm,←JS]at cn;have SN:=Asx (And.intro hmm JS);clear hmm JS;(go_wp2_with fail);(with_reducible refine cn.mono ?_);rintro e w6 ⟨A6,B6,F6,c6,d6,g6,rfl,AW,r1,r2,r3,hnf6,AX⟩;have By:=(AX.block _ (Asy hb5)).trans hb5;have LV:=Ht.trans AX;have g0:=Aa (o:=0) By rfl;have g1:=Aa (o:=1) By rfl;have g2:=Aa (o:=2) By rfl;have g3:=Ah (o:=0) By;have g4:=Ah (o:=1) By;have g5':=Ah (o:=2) By;have AA:=Dd (.slice A6 mm.pts.length c6) (.slice B6 mm.eds.length d6) (.slice F6 mm.nf g6) By;have t1:=Aa (o:=0) AA rfl;have t2:=Aa (o:=1) AA rfl;have t3:=Aa (o:=2) AA rfl;have Co:=(((Ak.refl (fun q=>q=bm+1+1) w6).setCell (p:=⟨bm+1+1,0,none⟩) (.inl rfl) (.slice A6 mm.pts.length c6)).setCell (p:=⟨bm+1+1,1,none⟩) (.inl rfl) (.slice B6 mm.eds.length d6)).setCell (p:=⟨bm+1+1,2,none⟩) (.inl rfl) (.slice F6 mm.nf g6);have z1:=FI r1 Co By (fun j hj=>by obtain⟨s,h⟩:=OS hj;rw [h];simp);have z2:=FI r2 Co By (fun j hj=>by obtain⟨s,h⟩:=Nx hj;rw [h];simp);have z3:=FI r3 Co By (fun j hj=>by rw [List.getElem_map];simp);have HF:=Asx (And.intro AW (And.intro z1 (And.intro z2 (And.intro z3 (And.intro hnf6 (CQ LV (show w.heap.size<=bm+1+1 by rw [←aE.out];omega) (.slice A6 mm.pts.length c6) (.slice B6 mm.eds.length d6) (.slice F6 mm.nf g6)))))));clear z1 z2 z3 Co AA LV By AW r1 r2 r3 hnf6 cn DI As Ht AX;unfold AH;go_wp2;refine bodyPost_ret (v:=.tuple #[.agg #[.slice A6 mm.pts.length c6,.slice B6 mm.eds.length d6,.slice F6 mm.nf g6],.int .i64 0]) (by simp [results,Tryz.results10,go_sem,t1,t2,t3]) rfl ?_;rw [←SN.out.1,←SN.out.2];exact⟨A6,B6,F6,c6,d6,g6,rfl,HF.out.1,HF.out.2.1,HF.out.2.2.1,HF.out.2.2.2.1,HF.out.2.2.2.2.1,HF.out.2.2.2.2.2⟩
theorem Zz{q:Rat}(h1:(D q.num.natAbs).length<=200)(h2:(D q.den).length<=200):Du (R q):=⟨q,rfl,h1,h2⟩
theorem Aoo(w:World)(hw:Aj w):Calls Tryz.prog 9 #[Gl 2 ⟨0,0⟩ ⟨4,4⟩ [98]] w (AI 0 w):=by
 have o0:Du (R 0):=Zz (by decide +kernel) (by decide +kernel);have o4:Du (R 4):=Zz (by decide +kernel) (by decide +kernel);have h:=Aoq (R 0,R 0) (R 4,R 4) ([],[]) [98] ⟨by decide +kernel,by decide +kernel,by decide +kernel,by decide +kernel,by decide +kernel,by decide +kernel,by decide +kernel⟩ w hw
 have e:Q4 2 (R 0,R 0) (R 4,R 4) ([],[]) [98]=0:=by rw [wR];have p0:D6 (R 0,R 0)=true:=(Ot _).2 ⟨o0,o0⟩;have p4:D6 (R 4,R 4)=true:=(Ot _).2 ⟨o4,o4⟩;have hn:nameB [98]=true:=(by decide);simp [p0,p4,hn,Gn]
 rw [e]at h;exact h
theorem Aon(w:World)(hw:Aj w):Calls Tryz.prog 9 #[Gl 3 ⟨3,1⟩ ⟨1,3⟩ []] w (AI 0 w):=by
 have o1:Du (R 1):=Zz (by decide +kernel) (by decide +kernel);have o3:Du (R 3):=Zz (by decide +kernel) (by decide +kernel);have h:=Aor (R 3,R 1) (R 1,R 3) ([],[]) [] ⟨by decide +kernel,by decide +kernel,by decide +kernel,by decide +kernel,by decide +kernel,by decide +kernel,by decide +kernel⟩ w hw
 have e:Q4 3 (R 3,R 1) (R 1,R 3) ([],[]) []=0:=by rw [wS];have p0:D6 (R 3,R 1)=true:=(Ot _).2 ⟨o3,o1⟩;have p4:D6 (R 1,R 3)=true:=(Ot _).2 ⟨o1,o3⟩;simp [p0,p4,Gn]
 rw [e]at h;exact h
theorem Am5:∀p∈AL.pts,Ce p:=(LI Xj).2
theorem Am6:∀p∈c46.pts,Ce p:=(LI vW).2
theorem Agl:Fq AL=0:=(LI Xj).1
theorem Agk:Fq c46=0:=(LI vW).1
theorem Afe(A B F:Option Addr)(c d g:Nat)(w:World)(hw:Aj w)(AW:Db AL c d g)(hA:Ad w A (flat (Ag AL.pts)))(hB:Ad w B (Ar AL.eds))(hF:Ad w F ([[97]].map S)) :
  Calls Tryz.prog 10 #[AH A B F AL c d g,Gl 2 ⟨0,0⟩ ⟨4,4⟩ [98]] w (MS w c46 [[98],[97]]):=by
 have h:=Afr AL MH [[97]] [[97],[98]] rfl Am5 Agl (by decide) (by decide) (by decide) vX rfl (by decide) ⟨0,0⟩ ⟨4,4⟩ [98] w hw (fun W hx=>Aoo W (hw.ext hx))
  (fun V W A B F c d g hx hx2 ho=>split_c [98] A B F c d g (hw.ext hx) hx2 (As0 _) hx2.size ho) A B F c d g AW hA hB hF
 rw [vZ.1,vZ.2]at h;exact h
theorem Afd(A B F:Option Addr)(c d g:Nat)(w:World)(hw:Aj w)(AW:Db c46 c d g)(hA:Ad w A (flat (Ag c46.pts)))(hB:Ad w B (Ar c46.eds))(hF:Ad w F ([[98],[97]].map S)) :
  Calls Tryz.prog 10 #[AH A B F c46 c d g,Gl 3 ⟨3,1⟩ ⟨1,3⟩ []] w (MS w AL [[97]]):=by
 have h:=Afs c46 AL [[98],[97]] [[97]] rfl Am6 Agk (by decide) (by decide) (by decide) Xj rfl (by decide) ⟨3,1⟩ ⟨1,3⟩ [] w hw (fun W hx=>Aon W (hw.ext hx))
  (fun V W A B F c d g hx hx2 ho=>(AkT [98] [97] A B F c d g ((hw.ext hx).ext hx2) (Ab.refl W) hx2.size ho).mono fun e w' ⟨A',B',F',c',d',g',h1,h2,h3⟩=>⟨A',B',F',c',d',g',h1,h2,hx2.trans h3,fun j cs hj=>(h3.block _ (Asy hj)).trans hj⟩) A B F c d g AW hA hB hF
 rw [vY.1,vY.2]at h;exact h
theorem Tu(x y:Int)(hx:x.natAbs<10000000)(hy:y.natAbs<10000000)(p q:Rat)(e1:(x:Rat)=p)(e2:(y:Rat)=q)(w:World)(hw:Aj w):Calls Tryz.prog 20 #[.int .i64 x,.int .i64 y] w (BA (.agg #[S (R p),S (R q)]) w):=by
 have h1:=Tt x y hx hy w hw;unfold Af at h1;rw [e1,e2]at h1;exact h1
def ZX(W0:World)(v7:Value)(m:MapZ)(fa:List Bs)(wx:World):Prop:=
 ∃(b:Nat) (A B F:Option Addr) (c d g:Nat),v7=.pointer (some ⟨b,0,none⟩)/\wx.heap[b]?=some (.cells #[.slice A m.pts.length c,.slice B m.eds.length d,.slice F m.nf g] 35)/\Db m c d g/\Ad wx A (flat (Ag m.pts))/\Ad wx B (Ar m.eds)/\Ad wx F (fa.map S)/\Ab W0 wx
theorem Af2{W0 w:World}{b:Nat}{m:MapZ}{fa:List Bs}{A B F:Option Addr}{c d g:Nat}(hb:w.heap[b]?=some (.cells #[.slice none 0 0,.slice none 0 0,.slice none 0 0] 35))(h0:W0.heap.size<=b)(hc:Db m c d g)(t1:Ad w A (flat (Ag m.pts)))(t2:Ad w B (Ar m.eds))(t3:Ad w F (fa.map S))(X:Ab W0 w) :
  ZX W0 (.pointer (some ⟨b,0,none⟩)) m fa (((w.setCell ⟨b,0,none⟩ (.slice A m.pts.length c)).setCell ⟨b,1,none⟩ (.slice B m.eds.length d)).setCell ⟨b,2,none⟩ (.slice F m.nf g)):=by
 have Co:=(((Ak.refl (fun q=>q=b) w).setCell (p:=⟨b,0,none⟩) (.inl rfl) (.slice A m.pts.length c)).setCell (p:=⟨b,1,none⟩) (.inl rfl) (.slice B m.eds.length d)).setCell (p:=⟨b,2,none⟩) (.inl rfl) (.slice F m.nf g);exact⟨b,A,B,F,c,d,g,rfl,Dd _ _ _ hb,hc,FI t1 Co hb (fun j hj=>by obtain⟨s,h⟩:=OS hj;rw [h];simp),FI t2 Co hb (fun j hj=>by obtain⟨s,h⟩:=Nx hj;rw [h];simp),FI t3 Co hb (fun j hj=>by rw [List.getElem_map];simp),CQ X h0 _ _ _⟩
theorem Af1{W0 w:World}{m:MapZ}{fa:List Bs}{A B F:Option Addr}{c d g:Nat}(hc:Db m c d g)(t1:Ad w A (flat (Ag m.pts)))(t2:Ad w B (Ar m.eds))(t3:Ad w F (fa.map S))(X:Ab W0 w) :
  ZX W0 (.pointer (some ⟨w.heap.size,0,none⟩)) m fa (w.alloc (.cells #[.slice A m.pts.length c,.slice B m.eds.length d,.slice F m.nf g] 35)):=
 ⟨_,A,B,F,c,d,g,rfl,Asz w _,hc,t1.ext ((Ab.refl w).alloc _),t2.ext ((Ab.refl w).alloc _),t3.ext ((Ab.refl w).alloc _),X.alloc _⟩
theorem Ali(w:World)(hw:Aj w):Calls Tryz.prog 6 #[] w (BP true w):=by
 have Tr:=fun W h=>Tu 0 0 (by decide) (by decide) 0 0 rfl rfl W h;have a44:=fun W h=>Tu 4 4 (by decide) (by decide) 4 4 rfl rfl W h;have WV:=fun W h=>Tu 1 3 (by decide) (by decide) 1 3 rfl rfl W h;have cK:=fun W h=>Tu 3 1 (by decide) (by decide) 3 1 rfl rfl W h;go_enter Tryz.func6,Tryz.ntmps6;(go_wp2_with fail);(with_reducible refine(Aci w hw).mono ?_);rintro e w1 ⟨A,Bk,F,c,d,g,rfl,AW,r1,r2,r3,hx1⟩;have hw1:=hw.ext hx1;unfold AH;(go_wp2_with fail);(with_reducible refine(Tr w1 hw1).mono ?_);rintro e w2 ⟨rfl,hx2⟩;(go_wp2_with fail);(with_reducible refine(a44 w2 (hw1.ext hx2)).mono ?_);rintro e w3 ⟨rfl,hx3⟩;have RE:=hx2.trans hx3;have ap:=Afe A Bk F c d g w3 (hw1.ext RE) AW (r1.ext RE) (r2.ext RE) (r3.ext RE);have tJ:=Asx (hx1.trans RE);unfold AH Gl at ap;clear AW r1 r2 r3 hx1 hx2 hx3 RE;(go_wp2_with fail);refine ap.mono ?_;rintro e w4 ⟨A1,B1,F1,c1,d1,g1,rfl,Yl,s1,s2,s3,-,Ao⟩;have Nh:=Asx (tJ.out.trans Ao);clear ap Ao tJ Tr a44 hw1;unfold AH;have hM:=Asz w4 (.cells #[.slice A1 c46.pts.length c1,.slice B1 c46.eds.length d1,.slice F1 c46.nf g1] 35);have As:=(Ab.refl w4).alloc (.cells #[.slice A1 c46.pts.length c1,.slice B1 c46.eds.length d1,.slice F1 c46.nf g1] 35)
 go_upto_region 2 with fail
 generalize w4.alloc (.cells #[.slice A1 c46.pts.length c1,.slice B1 c46.eds.length d1,.slice F1 c46.nf g1] 35)=W5 at *;obtain⟨bM,Uv⟩:=Asw w4.heap.size;rw [←Uv]at hM ⊢;have Ht:=Nh.out.trans As;have q1:=s1.ext As;have q2:=s2.ext As;have q3:=s3.ext As;clear Uv s1 s2 s3 As Nh;have f0:∀q:Ac W5,q.w.cell? ⟨bM,0,none⟩=some (.slice A1 c46.pts.length c1):=Ac.cell (Aa hM rfl);have f1:∀q:Ac W5,q.w.cell? ⟨bM,1,none⟩=some (.slice B1 c46.eds.length d1):=Ac.cell (Aa hM rfl);have f2:∀q:Ac W5,q.w.cell? ⟨bM,2,none⟩=some (.slice F1 c46.nf g1):=Ac.cell (Aa hM rfl);have uZ:=fun q:Ac W5=>WV q.w ((hw.ext Ht).ext q.h);have un:=fun q:Ac W5=>Apt c46 [[98],[97]] rfl ⟨1,3⟩ 0 (by decide) zo A1 B1 F1 c1 d1 g1 Yl q.w ((hw.ext Ht).ext q.h) (q1.ext q.h) (q2.ext q.h) (q3.ext q.h);unfold AH Af at un;refine Bh (by kernel_rfl) (by kernel_rfl) ?_
 repeat (go_big_quiet_step (first|(with_reducible refine eN (uZ _))|(with_reducible refine eN (un _))))
 refine wpQuiet_nil ?_;rintro _ ⟨q,rfl⟩;obtain⟨W6,iL⟩:=Asw q.w;rw [←iL];have AX:Ab W5 W6:=(by rw [iL];exact q.h);have Gs:=(AX.block _ (Asy hM)).trans hM;have RD:=(hw.ext Ht).ext AX;have tH:=Asx (Ht.trans AX);have k0:W6.cell? ⟨bM,0,none⟩=some (.slice A1 c46.pts.length c1):=Aa Gs rfl;have k1:W6.cell? ⟨bM,1,none⟩=some (.slice B1 c46.eds.length d1):=Aa Gs rfl;have k2:W6.cell? ⟨bM,2,none⟩=some (.slice F1 c46.nf g1):=Aa Gs rfl
 have aj:=fun (W:World) (hx:Ab W6 W)=>(by
  have h:=Afd A1 B1 F1 c1 d1 g1 W (RD.ext hx) Yl ((q1.ext AX).ext hx) ((q2.ext AX).ext hx) ((q3.ext AX).ext hx);unfold AH Gl at h
  exact h:Calls Tryz.prog 10 #[.agg #[.slice A1 c46.pts.length c1,.slice B1 c46.eds.length d1,.slice F1 c46.nf g1],.agg #[.int .i64 3,S (R 3),S (R 1),S (R 1),S (R 3),S [],S [],S []]] W (MS W AL [[97]]))
 clear iL f0 f1 f2 uZ un q1 q2 q3 hM AX Ht Yl;have SO:=fun (w':World) (h:Ab W6 w')=>(⟨h.cellS k0,h.cellS k1,h.cellS k2⟩:_/\_/\_)
 go_upto_region 3 with fail
 have X:=(Ab.refl W6).drew
 go_cut [6,7] (fun v6 v7 wx=>v7=.int .i64 0/\ZX W6 v6 AL [[97]] wx)
 case first=>
  go_region_held3 (fun w'=>w'.cell? ⟨bM,0,none⟩=some (.slice A1 c46.pts.length c1)/\w'.cell? ⟨bM,1,none⟩=some (.slice B1 c46.eds.length d1)/\w'.cell? ⟨bM,2,none⟩=some (.slice F1 c46.nf g1))
   (first|exact SS|with_reducible exact SO _ X|with_reducible exact SO _ (X.alloc _)|with_reducible exact SO _ ((Ab.refl W6).alloc _).drew)
   (first
    | ((with_reducible refine(aj _ X).mono ?_);rintro e w7 ⟨A2,B2,F2,c2,d2,g2,rfl,Ym,t1,t2,t3,-,x7⟩;(first | (replace hO:=(x7.block _ (Asy hO)).trans hO) | skip);replace X:Ab W6 w7:=X.trans x7;unfold AH;first | (have ee0:=Aa (o:=0) hO rfl;have JF:=Aa (o:=1) hO rfl;have OO:=Aa (o:=2) hO rfl;have OP:=Ah (o:=0) hO;have ee4:=Ah (o:=1) hO;have ee5:=Ah (o:=2) hO;have SS:=SO _ (CQ X Bz (.slice A2 AL.pts.length c2) (.slice B2 AL.eds.length d2) (.slice F2 AL.nf g2))) | skip)
    | ((with_reducible refine(aj _ (X.alloc (.cells #[.slice none 0 0,.slice none 0 0,.slice none 0 0] 35))).mono ?_);rintro e w7 ⟨A2,B2,F2,c2,d2,g2,rfl,Ym,t1,t2,t3,-,x7⟩;have Bz:=X.size;have hO:=(x7.block _ (Asy (Asz _ (.cells #[.slice none 0 0,.slice none 0 0,.slice none 0 0] 35)))).trans (Asz _ (.cells #[.slice none 0 0,.slice none 0 0,.slice none 0 0] 35));replace X:Ab W6 w7:=(X.alloc (.cells #[.slice none 0 0,.slice none 0 0,.slice none 0 0] 35)).trans x7;unfold AH;first | (have ee0:=Aa (o:=0) hO rfl;have JF:=Aa (o:=1) hO rfl;have OO:=Aa (o:=2) hO rfl;have OP:=Ah (o:=0) hO;have ee4:=Ah (o:=1) hO;have ee5:=Ah (o:=2) hO;have SS:=SO _ (CQ X Bz (.slice A2 AL.pts.length c2) (.slice B2 AL.eds.length d2) (.slice F2 AL.nf g2))) | skip)
    | ((with_reducible refine(cK _ (RD.ext X)).mono ?_);rintro e w7 ⟨rfl,x7⟩;(first | (replace hO:=(x7.block _ (Asy hO)).trans hO) | skip);replace X:Ab W6 w7:=X.trans x7)
    | ((with_reducible refine(WV _ (RD.ext X)).mono ?_);rintro e w7 ⟨rfl,x7⟩;(first | (replace hO:=(x7.block _ (Asy hO)).trans hO) | skip);replace X:Ab W6 w7:=X.trans x7)
    | ((with_reducible refine(cK _ (RD.ext ((Ab.refl W6).alloc (.cells #[.slice none 0 0,.slice none 0 0,.slice none 0 0] 35)).drew)).mono ?_);rintro e w7 ⟨rfl,x7⟩;have Bz:=As0 W6.heap.size;have hO:=(x7.block _ (Asy (Asz W6 (.cells #[.slice none 0 0,.slice none 0 0,.slice none 0 0] 35)))).trans (Asz W6 (.cells #[.slice none 0 0,.slice none 0 0,.slice none 0 0] 35));replace X:Ab W6 w7:=((Ab.refl W6).alloc (.cells #[.slice none 0 0,.slice none 0 0,.slice none 0 0] 35)).drew.trans x7)
    | ((with_reducible refine(WV _ (RD.ext (X.alloc (.cells #[.slice none 0 0,.slice none 0 0,.slice none 0 0] 35)))).mono ?_);rintro e w7 ⟨rfl,x7⟩;have Bz:=X.size;have hO:=(x7.block _ (Asy (Asz _ (.cells #[.slice none 0 0,.slice none 0 0,.slice none 0 0] 35)))).trans (Asz _ (.cells #[.slice none 0 0,.slice none 0 0,.slice none 0 0] 35));replace X:Ab W6 w7:=(X.alloc (.cells #[.slice none 0 0,.slice none 0 0,.slice none 0 0] 35)).trans x7))
  all_goals go_wp2
  all_goals go_meet
  all_goals first
   | exact⟨rfl,Af2 hO Bz Ym t1 t2 t3 X⟩
   | exact⟨rfl,Af1 Ym t1 t2 t3 X⟩
 case rest=>
  obtain⟨rfl,b6,A2,B2,F2,c2,d2,g2,rfl,By,-,t1,t2,t3,Az⟩:=hcut;have hx:=tH.out.trans Az;have CH:=(Az.block _ (Asy Gs)).trans Gs;have vt:=hw.ext hx;have HX:=Asx hx;have k2':wc.cell? ⟨bM,2,none⟩=some (.slice F1 c46.nf g1):=Aa CH rfl;have l0:wc.cell? ⟨b6,0,none⟩=some (.slice A2 AL.pts.length c2):=Aa By rfl;have l1:wc.cell? ⟨b6,1,none⟩=some (.slice B2 AL.eds.length d2):=Aa By rfl;have l2:wc.cell? ⟨b6,2,none⟩=some (.slice F2 AL.nf g2):=Aa By rfl;have eq:=fun (W:World) (hx:Ab wc W) A3 B3 F3 c3 d3 g3 (y1:Ad W A3 (flat (Ag AL.pts))) (y2:Ad W B3 (Ar AL.eds)) (y3:Ad W F3 ([[97]].map S))=>Aho AL [[97]] rfl A2 B2 F2 A3 B3 F3 c2 d2 g2 c3 d3 g3 W (t1.ext hx) (t2.ext hx) (t3.ext hx) y1 y2 y3 (by decide) (by decide) (by decide);have sq:=fun (W:World) (hx:Ab wc W)=>Aci W (vt.ext hx);unfold AH at eq;clear SO k0 k1 k2 aj Gs Az X By CH hx WV cK tH RD vt;have SO:=fun (w':World) (h:Ab wc w')=>(⟨h.cellS k2',h.cellS l0,h.cellS l1,h.cellS l2⟩:_/\_/\_/\_);have X:=(Ab.refl wc).drew
  go_upto_region 4 with fail
  go_region_held3 (fun w'=>w'.cell? ⟨bM,2,none⟩=some (.slice F1 c46.nf g1)/\w'.cell? ⟨b6,0,none⟩=some (.slice A2 AL.pts.length c2)/\w'.cell? ⟨b6,1,none⟩=some (.slice B2 AL.eds.length d2)/\w'.cell? ⟨b6,2,none⟩=some (.slice F2 AL.nf g2))
   (with_reducible exact SO _ X)
   (first
    | ((with_reducible refine(sq _ X).mono ?_);rintro e w8 ⟨A3,B3,F3,c3,d3,g3,rfl,-,y1,y2,y3,x8⟩;replace X:Ab wc w8:=X.trans x8;unfold AH)
    | ((with_reducible refine(eq _ X _ _ _ _ _ _ y1 y2 y3).mono ?_);rintro e w9 ⟨rfl,x9⟩;replace X:Ab wc w9:=X.trans x9))
  all_goals go_wp2
  all_goals go_ret
  all_goals exact⟨rfl,HX.out.trans X⟩
end Go.Proofs.YtnddllipjippnaaGreatDoor
