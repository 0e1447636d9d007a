/- I45: ShKI6 ShKK3 ShKI1. -/
import Derived.Test.YtnddllipjippnaaGreatDoorI43
set_option maxRecDepth 100000
set_option maxHeartbeats 4000000
namespace Go.Proofs.YtnddllipjippnaaGreatDoor
open Go.RowKit Kl
def J0:Value:=.agg #[.slice none 0 0,.slice none 0 0,.slice none 0 0]
def zeroE:Value:=.agg #[.int .i64 0,S [],S [],S [],S [],S [],S [],S []]
theorem Afu(A B F:Option Addr)(n1 c n2 d n3 g:Nat)(k:Int)(a b p:Bs×Bs)(u:Bs)(z:Int)(hz:(z != 0)=true)(w:World)
  (EX:∀W,Ab w W→Calls Tryz.prog 19 #[.agg #[.slice A n1 c,.slice B n2 d,.slice F n3 g]] W (AI z W)) :
  Calls Tryz.prog 10 #[.agg #[.slice A n1 c,.slice B n2 d,.slice F n3 g],JE k a b p u] w (BA (.tuple #[J0,.int .i64 z]) w):=by
 obtain⟨hM,hE,hR,hX⟩:=PZ w (.cells #[.slice A n1 c,.slice B n2 d,.slice F n3 g] 35) (.cells #[.int .i64 k,S a.1,S a.2,S b.1,S b.2,S p.1,S p.2,S u] 26) (.cells #[.slice none 0 0,.slice none 0 0,.slice none 0 0] 35);unfold JE J0;go_enter Tryz.func10,Tryz.ntmps10
 go_upto_region 1 with fail
 generalize ((w.alloc (.cells #[.slice A n1 c,.slice B n2 d,.slice F n3 g] 35)).alloc (.cells #[.int .i64 k,S a.1,S a.2,S b.1,S b.2,S p.1,S p.2,S u] 26)).alloc (.cells #[.slice none 0 0,.slice none 0 0,.slice none 0 0] 35)=V at *;obtain⟨bm,AB⟩:=Asw w.heap.size;have hB2:w.heap.size<=bm+1+1:=(by omega);rw [←AB]at hM hE hR ⊢;clear AB;have k0:V.cell? ⟨bm,0,none⟩=some (.slice A n1 c):=Aa hM rfl;have k1:V.cell? ⟨bm,1,none⟩=some (.slice B n2 d):=Aa hM rfl;have k2:V.cell? ⟨bm,2,none⟩=some (.slice F n3 g):=Aa hM rfl;have p1:=EX V hX;(go_wp2_with fail);(with_reducible refine p1.mono ?_);rintro e w1 ⟨rfl,hx1⟩;have Cb:=hX.trans hx1;replace hR:=(hx1.block _ (Asy hR)).trans hR;clear p1 EX k0 k1 k2 hM hE hX hx1;have g0:=Aa (o:=0) hR rfl;have g1:=Aa (o:=1) hR rfl;have g2:=Aa (o:=2) hR rfl;have g3:=Ah (o:=0) hR;have g4:=Ah (o:=1) hR;have g5:=Ah (o:=2) hR;have AA:=Dd (.slice none 0 0) (.slice none 0 0) (.slice none 0 0) hR;have t1:=Aa (o:=0) AA rfl;have t2:=Aa (o:=1) AA rfl;have t3:=Aa (o:=2) AA rfl;have HX:=Asx (CQ Cb hB2 (.slice none 0 0) (.slice none 0 0) (.slice none 0 0));clear AA hR Cb hB2;go_wp2;refine bodyPost_ret (v:=.tuple #[.agg #[.slice none 0 0,.slice none 0 0,.slice none 0 0],.int .i64 z]) (by simp [results,Tryz.results10,go_sem,t1,t2,t3]) rfl ?_;exact⟨rfl,HX.out⟩
theorem AfN{w:World}{b:Nat}{a0 a1 a2 a3 a4 a5 a6 a7:Value}{t:TypeId}(v0 v1 v2 v3 v4 v5 v6 v7:Value)(h:w.heap[b]?=some (.cells #[a0,a1,a2,a3,a4,a5,a6,a7] t)) :
  ((((((((w.setCell ⟨b,0,none⟩ v0).setCell ⟨b,1,none⟩ v1).setCell ⟨b,2,none⟩ v2).setCell ⟨b,3,none⟩ v3).setCell ⟨b,4,none⟩ v4).setCell ⟨b,5,none⟩ v5).setCell ⟨b,6,none⟩ v6).setCell ⟨b,7,none⟩ v7).heap[b]?=some (.cells #[v0,v1,v2,v3,v4,v5,v6,v7] t):=by
 simp only [World.setCell,Array.getElem?_modify,h];simp
theorem Ahw{w0 w:World}(h:Ab w0 w){b:Nat}(hb:w0.heap.size<=b)(v0 v1 v2 v3 v4 v5 v6 v7:Value) :
  Ab w0 ((((((((w.setCell ⟨b,0,none⟩ v0).setCell ⟨b,1,none⟩ v1).setCell ⟨b,2,none⟩ v2).setCell ⟨b,3,none⟩ v3).setCell ⟨b,4,none⟩ v4).setCell ⟨b,5,none⟩ v5).setCell ⟨b,6,none⟩ v6).setCell ⟨b,7,none⟩ v7):=
 (((((((h.setCell (p:=⟨b,0,none⟩) hb v0).setCell (p:=⟨b,1,none⟩) hb v1).setCell (p:=⟨b,2,none⟩) hb v2).setCell (p:=⟨b,3,none⟩) hb v3).setCell (p:=⟨b,4,none⟩) hb v4).setCell (p:=⟨b,5,none⟩) hb v5).setCell (p:=⟨b,6,none⟩) hb v6).setCell (p:=⟨b,7,none⟩) hb v7
theorem AfB(A B F:Option Addr)(n1 c n2 d n3 g:Nat)(k:Int)(a b p:Bs×Bs)(u:Bs)(z:Int)(hz:(z != 0)=true)(w:World)
  (hap:∀W,Ab w W→Calls Tryz.prog 10 #[.agg #[.slice A n1 c,.slice B n2 d,.slice F n3 g],JE k a b p u] W (BA (.tuple #[J0,.int .i64 z]) W)) :
  Calls Tryz.prog 12 #[.agg #[.slice A n1 c,.slice B n2 d,.slice F n3 g],JE k a b p u] w (BA (.tuple #[zeroE,.bool false,.int .i64 z]) w):=by
 obtain⟨hM,hE,hR,hX⟩:=PZ w (.cells #[.slice A n1 c,.slice B n2 d,.slice F n3 g] 35) (.cells #[.int .i64 k,S a.1,S a.2,S b.1,S b.2,S p.1,S p.2,S u] 26) (.cells #[.int .i64 0,S [],S [],S [],S [],S [],S [],S []] 26);unfold JE J0 at hap;unfold JE zeroE;go_enter Tryz.func12,Tryz.ntmps12
 go_upto_region 1 with fail
 generalize ((w.alloc (.cells #[.slice A n1 c,.slice B n2 d,.slice F n3 g] 35)).alloc (.cells #[.int .i64 k,S a.1,S a.2,S b.1,S b.2,S p.1,S p.2,S u] 26)).alloc (.cells #[.int .i64 0,S [],S [],S [],S [],S [],S [],S []] 26)=V at *;obtain⟨bm,AB⟩:=Asw w.heap.size;have hB2:w.heap.size<=bm+1+1:=(by omega);rw [←AB]at hM hE hR ⊢;clear AB;have k0:V.cell? ⟨bm,0,none⟩=some (.slice A n1 c):=Aa hM rfl;have k1:V.cell? ⟨bm,1,none⟩=some (.slice B n2 d):=Aa hM rfl;have k2:V.cell? ⟨bm,2,none⟩=some (.slice F n3 g):=Aa hM rfl;have x0:V.cell? ⟨bm+1,0,none⟩=some (.int .i64 k):=Aa hE rfl;have x1:V.cell? ⟨bm+1,1,none⟩=some (S a.1):=Aa hE rfl;have x2:V.cell? ⟨bm+1,2,none⟩=some (S a.2):=Aa hE rfl;have x3:V.cell? ⟨bm+1,3,none⟩=some (S b.1):=Aa hE rfl;have x4:V.cell? ⟨bm+1,4,none⟩=some (S b.2):=Aa hE rfl;have x5:V.cell? ⟨bm+1,5,none⟩=some (S p.1):=Aa hE rfl;have x6:V.cell? ⟨bm+1,6,none⟩=some (S p.2):=Aa hE rfl;have x7:V.cell? ⟨bm+1,7,none⟩=some (S u):=Aa hE rfl;have p1:=hap V hX;(go_wp2_with fail);(with_reducible refine p1.mono ?_);rintro e w1 ⟨rfl,hx1⟩;have Cb:=hX.trans hx1;replace hR:=(hx1.block _ (Asy hR)).trans hR;clear p1 hap k0 k1 k2 hM hX hx1 x0 x1 x2 x3 x4 x5 x6 x7 hE;have hx2:=(Ab.refl w1).alloc (.cells #[.slice none 0 0,.slice none 0 0,.slice none 0 0] 35)
 go_upto_region 2 with fail
 generalize w1.alloc (.cells #[.slice none 0 0,.slice none 0 0,.slice none 0 0] 35)=w2 at *;replace Cb:=Cb.trans hx2;replace hR:=(hx2.block _ (Asy hR)).trans hR;have g0:=Aa (o:=0) hR rfl;have g1:=Aa (o:=1) hR rfl;have g2:=Aa (o:=2) hR rfl;have g3:=Aa (o:=3) hR rfl;have g4:=Aa (o:=4) hR rfl;have g5:=Aa (o:=5) hR rfl;have g6:=Aa (o:=6) hR rfl;have g7:=Aa (o:=7) hR rfl;have f0:=Ah (o:=0) hR;have f1:=Ah (o:=1) hR;have f2:=Ah (o:=2) hR;have f3:=Ah (o:=3) hR;have f4:=Ah (o:=4) hR;have f5:=Ah (o:=5) hR;have f6:=Ah (o:=6) hR;have f7:=Ah (o:=7) hR;have AA:=AfN (.int .i64 0) (S []) (S []) (S []) (S []) (S []) (S []) (S []) hR;have t0:=Aa (o:=0) AA rfl;have t1:=Aa (o:=1) AA rfl;have t2:=Aa (o:=2) AA rfl;have t3:=Aa (o:=3) AA rfl;have t4:=Aa (o:=4) AA rfl;have t5:=Aa (o:=5) AA rfl;have t6:=Aa (o:=6) AA rfl;have t7:=Aa (o:=7) AA rfl;have HX:=Asx (Ahw Cb hB2 (.int .i64 0) (S []) (S []) (S []) (S []) (S []) (S []) (S []));clear AA hR Cb hB2;go_wp2;refine bodyPost_ret (v:=.tuple #[.agg #[.int .i64 0,S [],S [],S [],S [],S [],S [],S []],.bool false,.int .i64 z]) (by simp [results,Tryz.results12,go_sem,t0,t1,t2,t3,t4,t5,t6,t7]) rfl ?_;exact⟨rfl,HX.out⟩
theorem Ahc(w:World):Calls Tryz.prog 13 #[J0] w (BP true w):=by
 have hE:=(Ab.refl w).alloc (.cells #[.slice none 0 0,.slice none 0 0,.slice none 0 0] 35);have hq:=Asz w (.cells #[.slice none 0 0,.slice none 0 0,.slice none 0 0] 35);unfold J0;go_enter Tryz.func13,Tryz.ntmps13
 go_upto_region 1 with fail
 have q0:=Aa (o:=0) hq rfl;have q1:=Aa (o:=1) hq rfl;have q2:=Aa (o:=2) hq rfl;go_wp2;go_ret;exact⟨rfl,hE⟩
theorem Ac4(w:World)(o1 o2:Obj):((w.alloc o1).alloc o2).heap[w.heap.size]?=some o1/\((w.alloc o1).alloc o2).heap[w.heap.size+1]?=some o2/\Ab w ((w.alloc o1).alloc o2):=by
 have e1:=(Ab.refl w).alloc o1;have e2:=(Ab.refl (w.alloc o1)).alloc o2;have h1:=Asz w o1;have h2:=Asz (w.alloc o1) o2;rw [As7]at h2;exact⟨(e2.block _ (Asy h1)).trans h1,h2,e1.trans e2⟩
theorem AfW(A B F:Option Addr)(n1 c n2 d n3 g:Nat)(z:Int)(hz:(z != 0)=true)(w:World)
  (EX:∀W,Ab w W→Calls Tryz.prog 19 #[.agg #[.slice A n1 c,.slice B n2 d,.slice F n3 g]] W (AI z W)) :
  Calls Tryz.prog 43 #[.agg #[.slice A n1 c,.slice B n2 d,.slice F n3 g]] w (BA (.tuple #[J0,.int .i64 z]) w):=by
 obtain⟨hM,hR,hX⟩:=Ac4 w (.cells #[.slice A n1 c,.slice B n2 d,.slice F n3 g] 35) (.cells #[.slice none 0 0,.slice none 0 0,.slice none 0 0] 35);unfold J0;go_enter Tryz.func43,Tryz.ntmps43
 go_upto_region 1 with fail
 generalize (w.alloc (.cells #[.slice A n1 c,.slice B n2 d,.slice F n3 g] 35)).alloc (.cells #[.slice none 0 0,.slice none 0 0,.slice none 0 0] 35)=V at *;obtain⟨bm,AB⟩:=Asw w.heap.size;have hB2:w.heap.size<=bm+1:=(by omega);rw [←AB]at hM hR ⊢;clear AB;have k0:V.cell? ⟨bm,0,none⟩=some (.slice A n1 c):=Aa hM rfl;have k1:V.cell? ⟨bm,1,none⟩=some (.slice B n2 d):=Aa hM rfl;have k2:V.cell? ⟨bm,2,none⟩=some (.slice F n3 g):=Aa hM rfl;have p1:=EX V hX;(go_wp2_with fail);(with_reducible refine p1.mono ?_);rintro e w1 ⟨rfl,hx1⟩;have Cb:=hX.trans hx1;replace hR:=(hx1.block _ (Asy hR)).trans hR;clear p1 EX k0 k1 k2 hM hX hx1;have g0:=Aa (o:=0) hR rfl;have g1:=Aa (o:=1) hR rfl;have g2:=Aa (o:=2) hR rfl;have g3:=Ah (o:=0) hR;have g4:=Ah (o:=1) hR;have g5:=Ah (o:=2) hR;have AA:=Dd (.slice none 0 0) (.slice none 0 0) (.slice none 0 0) hR;have t1:=Aa (o:=0) AA rfl;have t2:=Aa (o:=1) AA rfl;have t3:=Aa (o:=2) AA rfl;have HX:=Asx (CQ Cb hB2 (.slice none 0 0) (.slice none 0 0) (.slice none 0 0));clear AA hR Cb hB2;go_wp2;refine bodyPost_ret (v:=.tuple #[.agg #[.slice none 0 0,.slice none 0 0,.slice none 0 0],.int .i64 z]) (by simp [results,Tryz.results43,go_sem,t1,t2,t3]) rfl ?_;exact⟨rfl,HX.out⟩
theorem Aft(A B F:Option Addr)(n1 c n2 d n3 g:Nat)(z:Int)(hz:(z != 0)=true)(w:World)
  (EX:∀W,Ab w W→Calls Tryz.prog 19 #[.agg #[.slice A n1 c,.slice B n2 d,.slice F n3 g]] W (AI z W)) :
  Calls Tryz.prog 21 #[.agg #[.slice A n1 c,.slice B n2 d,.slice F n3 g],.slice none 0 0] w (BA (.tuple #[J0,.int .i64 0,.int .i64 z]) w):=by
 obtain⟨hM,hR,hX⟩:=Ac4 w (.cells #[.slice A n1 c,.slice B n2 d,.slice F n3 g] 35) (.cells #[.slice none 0 0,.slice none 0 0,.slice none 0 0] 35);unfold J0;go_enter Tryz.func21,Tryz.ntmps21
 go_upto_region 1 with fail
 generalize (w.alloc (.cells #[.slice A n1 c,.slice B n2 d,.slice F n3 g] 35)).alloc (.cells #[.slice none 0 0,.slice none 0 0,.slice none 0 0] 35)=V at *;obtain⟨bm,AB⟩:=Asw w.heap.size;have hB2:w.heap.size<=bm+1:=(by omega);rw [←AB]at hM hR ⊢;clear AB;have k0:V.cell? ⟨bm,0,none⟩=some (.slice A n1 c):=Aa hM rfl;have k1:V.cell? ⟨bm,1,none⟩=some (.slice B n2 d):=Aa hM rfl;have k2:V.cell? ⟨bm,2,none⟩=some (.slice F n3 g):=Aa hM rfl;have p1:=EX V hX;(go_wp2_with fail);(with_reducible refine p1.mono ?_);rintro e w1 ⟨rfl,hx1⟩;have Cb:=hX.trans hx1;replace hR:=(hx1.block _ (Asy hR)).trans hR;clear p1 EX k0 k1 k2 hM hX hx1;have g0:=Aa (o:=0) hR rfl;have g1:=Aa (o:=1) hR rfl;have g2:=Aa (o:=2) hR rfl;have g3:=Ah (o:=0) hR;have g4:=Ah (o:=1) hR;have g5:=Ah (o:=2) hR;have AA:=Dd (.slice none 0 0) (.slice none 0 0) (.slice none 0 0) hR;have t1:=Aa (o:=0) AA rfl;have t2:=Aa (o:=1) AA rfl;have t3:=Aa (o:=2) AA rfl;have HX:=Asx (CQ Cb hB2 (.slice none 0 0) (.slice none 0 0) (.slice none 0 0));clear AA hR Cb hB2;go_wp2;refine bodyPost_ret (v:=.tuple #[.agg #[.slice none 0 0,.slice none 0 0,.slice none 0 0],.int .i64 0,.int .i64 z]) (by simp [results,Tryz.results21,go_sem,t1,t2,t3]) rfl ?_;exact⟨rfl,HX.out⟩
theorem Am7(A B F:Option Addr)(n1 c n2 d n3 g:Nat)(z:Int)(hz:(z != 0)=true)(w:World)
  (EX:∀W,Ab w W→Calls Tryz.prog 19 #[.agg #[.slice A n1 c,.slice B n2 d,.slice F n3 g]] W (AI z W)) :
  Calls Tryz.prog 22 #[.agg #[.slice A n1 c,.slice B n2 d,.slice F n3 g]] w (BA (.tuple #[.pointer none,.int .i64 z]) w):=by
 have hM:=Asz w (.cells #[.slice A n1 c,.slice B n2 d,.slice F n3 g] 35);have hX:=(Ab.refl w).alloc (.cells #[.slice A n1 c,.slice B n2 d,.slice F n3 g] 35);have cn:=fun W (h:Ab w W)=>AfW A B F n1 c n2 d n3 g z hz W (fun W' h'=>EX W' (h.trans h'));unfold J0 at cn;clear EX;go_enter Tryz.func22,Tryz.ntmps22
 go_upto_region 1 with fail
 have k0:=Aa (o:=0) hM rfl;have k1:=Aa (o:=1) hM rfl;have k2:=Aa (o:=2) hM rfl;have p1:=cn _ hX;(go_wp2_with fail);(with_reducible refine p1.mono ?_);rintro e w1 ⟨rfl,hx1⟩;have Cb:=hX.trans hx1;have hx2:=(Ab.refl w1).alloc (.cells #[.slice none 0 0,.slice none 0 0,.slice none 0 0] 35);clear p1 cn k0 k1 k2 hM hX hx1;go_wp2;go_ret2;exact⟨rfl,Cb.trans hx2⟩
theorem Aol(l:List Pt)(A A':Option Addr)(c c':Nat)(w:World)(hr:Ad w A (flat (Ag l)))(hr':Ad w A' (flat (Ag l)))(hl:l.length<=100000) :
  Calls Tryz.prog 57 #[.slice A l.length c,.slice A' l.length c'] w (BP true w):=by
 obtain⟨n,hn⟩:=Asw l.length;rw [←hn]at hl ⊢;have HN:=Asx hn;clear hn;go_enter Tryz.func57,Tryz.ntmps57
 go_upto_region 4 with fail
 go_loopw [5] (fun iv wr=>∃j:Nat,iv=.int .i64 (j:Nat)/\j<=n/\Ab w wr) (fun iv _=>n-(intOf iv).toNat)
 case atStart=>exact⟨0,rfl,by omega,Ab.refl _⟩
 case round=>
  obtain⟨j,rfl,hj,hx⟩:=hrel;by_cases hlt:j<n
  ·have Ay:j<l.length:=(by rw [←HN.out];exact hlt);obtain⟨b,o,rfl,h1,h2⟩:=BN (hr.ext hx) Ay;obtain⟨b',o',rfl,h3,h4⟩:=BN (hr'.ext hx) Ay;generalize l[j]=p at *;have hj0:(0:Int)<=(j:Int):=(by omega);have hjn:(j:Int)<(n:Int):=(by omega);have f1:∀z:Ac wr,z.w.cell? ⟨b,o+j*2,none⟩=some (S (R p.x)):=Ac.cell h1;have f2:∀z:Ac wr,z.w.cell? ⟨b,o+j*2+1,none⟩=some (S (R p.y)):=Ac.cell h2;have f3:∀z:Ac wr,z.w.cell? ⟨b',o'+j*2,none⟩=some (S (R p.x)):=Ac.cell h3;have f4:∀z:Ac wr,z.w.cell? ⟨b',o'+j*2+1,none⟩=some (S (R p.y)):=Ac.cell h4;clear h1 h2 h3 h4 Ay
   go_upto_region 6 with fail
   refine Bh (by kernel_rfl) (by kernel_rfl) ?_
   repeat (go_big_quiet_step (fail))
   refine wpQuiet_nil ?_;rintro W4 ⟨z,hz⟩;have Ao:Ab wr W4:=hz▸z.h;have HX:=Asx (hx.trans Ao);clear hz z f1 f2 f3 f4 Ao;go_wp2;go_roundw
   case rel=>exact⟨j+1,by go_num,by omega,HX.out⟩
   case measure=>simp [intOf];omega
  ·obtain rfl:j=n:=(by omega);have HX:=Asx hx;go_wp2;go_ret;exact⟨rfl,HX.out⟩
theorem Aho(m:MapZ)(fa:List Bs)(BS:m.nf=fa.length)(A B F A' B' F':Option Addr)(c d g c' d' g':Nat)(w:World)(hA:Ad w A (flat (Ag m.pts)))(hB:Ad w B (Ar m.eds))(hF:Ad w F (fa.map S))(hA':Ad w A' (flat (Ag m.pts)))(zQ:Ad w B' (Ar m.eds))(hF':Ad w F' (fa.map S))
  (hpl:m.pts.length<=100000) (hel:m.eds.length<=100000) (C5:m.nf<=100000) :
  Calls Tryz.prog 25 #[AH A B F m c d g,AH A' B' F' m c' d' g'] w (BP true w):=by
 have h1:=Asz w (.cells #[.slice A m.pts.length c,.slice B m.eds.length d,.slice F m.nf g] 35);have h2:=Asz (w.alloc (.cells #[.slice A m.pts.length c,.slice B m.eds.length d,.slice F m.nf g] 35)) (.cells #[.slice A' m.pts.length c',.slice B' m.eds.length d',.slice F' m.nf g'] 35);rw [As7]at h2;have e1:=(Ab.refl w).alloc (.cells #[.slice A m.pts.length c,.slice B m.eds.length d,.slice F m.nf g] 35);have e2:=(Ab.refl (w.alloc (.cells #[.slice A m.pts.length c,.slice B m.eds.length d,.slice F m.nf g] 35))).alloc (.cells #[.slice A' m.pts.length c',.slice B' m.eds.length d',.slice F' m.nf g'] 35);have hM:=(e2.block _ (Asy h1)).trans h1;have hE:=e1.trans e2;have sm:=Aol m.pts A A' c c' ((w.alloc (.cells #[.slice A m.pts.length c,.slice B m.eds.length d,.slice F m.nf g] 35)).alloc (.cells #[.slice A' m.pts.length c',.slice B' m.eds.length d',.slice F' m.nf g'] 35)) (hA.ext hE) (hA'.ext hE) hpl;unfold AH;obtain⟨np,Ka⟩:=Asw m.pts.length;obtain⟨ne,hne⟩:=Asw m.eds.length;obtain⟨nf,Mt⟩:=Asw m.nf;simp only [←Ka,←hne,←Mt]at sm hM h2 hE ⊢;have AqN:ne<=100000:=(by omega);have Rj:nf<=100000:=(by omega);clear hpl hel C5;have HB:=Asx (And.intro hB (And.intro zQ hne));have HF:=Asx (And.intro hF (And.intro hF' (Mt.trans BS)));have HEE:=Asx hE;clear hA hA' hB zQ hF hF' Ka hne Mt BS h1 e1 e2 hE;go_enter Tryz.func25,Tryz.ntmps25
 go_upto_region 1 with fail
 generalize (w.alloc (.cells #[.slice A np c,.slice B ne d,.slice F nf g] 35)).alloc (.cells #[.slice A' np c',.slice B' ne d',.slice F' nf g'] 35)=V at *;obtain⟨bm,AB⟩:=Asw w.heap.size;rw [←AB]at hM h2 ⊢;clear AB;have k0:V.cell? ⟨bm,0,none⟩=some (.slice A np c):=Aa hM rfl;have k1:V.cell? ⟨bm+1,0,none⟩=some (.slice A' np c'):=Aa h2 rfl;(go_wp2_with fail);(with_reducible refine sm.mono ?_);rintro e w1 ⟨rfl,hx1⟩;have CE:=(hx1.block _ (Asy hM)).trans hM;have Jc:=(hx1.block _ (Asy h2)).trans h2;have m1:w1.cell? ⟨bm,1,none⟩=some (.slice B ne d):=Aa CE rfl;have m2:w1.cell? ⟨bm,2,none⟩=some (.slice F nf g):=Aa CE rfl;have n1:w1.cell? ⟨bm+1,1,none⟩=some (.slice B' ne d'):=Aa Jc rfl;have n2:w1.cell? ⟨bm+1,2,none⟩=some (.slice F' nf g'):=Aa Jc rfl;have HX:=Asx (HEE.out.trans hx1);clear sm k0 k1 hM h2 hx1
 go_upto_region 4 with fail
 go_loopw [5] (fun iv wr=>∃j:Nat,iv=.int .i64 (j:Nat)/\j<=ne/\Ab w1 wr) (fun iv _=>ne-(intOf iv).toNat)
 case atStart=>exact⟨0,rfl,by omega,Ab.refl _⟩
 case round=>
  obtain⟨j,rfl,hj,hx⟩:=hrel;have a1:=hx.cellS m1;have a2:=hx.cellS n1;by_cases hlt:j<ne
  ·have Ay:j<m.eds.length:=(by rw [←HB.out.2.2];exact hlt);obtain⟨b,o,hb,g1,g2,g3,g4⟩:=MD (HB.out.1.ext (HX.out.trans hx)) Ay;obtain⟨b',o',hb',g5,g6,g7,g8⟩:=MD (HB.out.2.1.ext (HX.out.trans hx)) Ay;subst hb hb';generalize m.eds[j]=p at *;have hj0:(0:Int)<=(j:Int):=(by omega);have hjn:(j:Int)<(ne:Int):=by omega
   go_upto_region 6 with fail
   have f1:∀z:Ac wr,z.w.cell? ⟨b,o+j*4,none⟩=some (.int .i64 p.f):=Ac.cell g1;have f2:∀z:Ac wr,z.w.cell? ⟨b,o+j*4+1,none⟩=some (.int .i64 p.t):=Ac.cell g2;have f3:∀z:Ac wr,z.w.cell? ⟨b,o+j*4+2,none⟩=some (.int .i64 p.l):=Ac.cell g3;have f4:∀z:Ac wr,z.w.cell? ⟨b,o+j*4+3,none⟩=some (.int .i64 p.r):=Ac.cell g4;have f5:∀z:Ac wr,z.w.cell? ⟨b',o'+j*4,none⟩=some (.int .i64 p.f):=Ac.cell g5;have f6:∀z:Ac wr,z.w.cell? ⟨b',o'+j*4+1,none⟩=some (.int .i64 p.t):=Ac.cell g6;have f7:∀z:Ac wr,z.w.cell? ⟨b',o'+j*4+2,none⟩=some (.int .i64 p.l):=Ac.cell g7;have f8:∀z:Ac wr,z.w.cell? ⟨b',o'+j*4+3,none⟩=some (.int .i64 p.r):=Ac.cell g8;have f9:∀z:Ac wr,z.w.cell? ⟨bm,1,none⟩=_:=Ac.cell a1;have f10:∀z:Ac wr,z.w.cell? ⟨bm+1,1,none⟩=_:=Ac.cell a2;clear g1 g2 g3 g4 g5 g6 g7 g8 Ay a1 a2 m1 n1;refine Bh (by kernel_rfl) (by kernel_rfl) ?_
   repeat (go_big_quiet_step (fail))
   refine wpQuiet_nil ?_;rintro W4 ⟨z,hz⟩;have Ao:Ab wr W4:=hz▸z.h;have Nh:=Asx (hx.trans Ao);clear hz z f1 f2 f3 f4 f5 f6 f7 f8 f9 f10 Ao;go_wp2;go_roundw
   case rel=>exact⟨j+1,by go_num,by omega,Nh.out⟩
   case measure=>simp [intOf];omega
  ·obtain rfl:j=ne:=(by omega);replace m2:=hx.cellS m2;replace n2:=hx.cellS n2;obtain⟨w6,vp⟩:=Asw wr;rw [←vp]at m2 n2 hx ⊢;have Td:=Asx (HX.out.trans hx);clear m1 n1
   go_upto_region 9 with fail
   go_loopw [6] (fun iv wr=>∃k:Nat,iv=.int .i64 (k:Nat)/\k<=nf/\Ab w6 wr) (fun iv _=>nf-(intOf iv).toNat)
   case atStart=>exact⟨0,rfl,by omega,by rw [vp];exact Ab.refl _⟩
   case round=>
    obtain⟨k,rfl,hk,hy⟩:=hrel;have b1:=hy.cellS m2;have b2:=hy.cellS n2;by_cases hlt:k<nf
    ·have C6:k<(fa.map S).length:=(by rw [List.length_map,←HF.out.2.2];exact hlt);obtain⟨b,o,hb,g1⟩:=(HF.out.1.ext (Td.out.trans hy)).ad (by omega);obtain⟨b',o',hb',g2⟩:=(HF.out.2.1.ext (Td.out.trans hy)).ad (by omega);subst hb hb';have g3:=g1 k C6;have g4:=g2 k C6;rw [List.getElem_map]at g3 g4;generalize fa[k]'(by simpa using C6)=s at *;have hk0:(0:Int)<=(k:Int):=(by omega);have hkn:(k:Int)<(nf:Int):=by omega
     go_upto_region 11 with fail
     have f1:∀z:Ac wr,z.w.cell? ⟨b,o+k,none⟩=some (S s):=Ac.cell g3;have f2:∀z:Ac wr,z.w.cell? ⟨b',o'+k,none⟩=some (S s):=Ac.cell g4;have f3:∀z:Ac wr,z.w.cell? ⟨bm,2,none⟩=_:=Ac.cell b1;have f4:∀z:Ac wr,z.w.cell? ⟨bm+1,2,none⟩=_:=Ac.cell b2;clear g1 g2 g3 g4 C6 b1 b2 m2 n2;refine Bh (by kernel_rfl) (by kernel_rfl) ?_
     repeat (go_big_quiet_step (fail))
     refine wpQuiet_nil ?_;rintro W4 ⟨z,hz⟩;have Ao:Ab wr W4:=hz▸z.h;have Nh:=Asx (hy.trans Ao);clear hz z f1 f2 f3 f4 Ao;go_wp2;go_roundw
     case rel=>exact⟨k+1,by go_num,by omega,Nh.out⟩
     case measure=>simp [intOf];omega
    ·obtain rfl:k=nf:=(by omega);have HX6:=Asx (Td.out.trans hy);go_wp2;go_ret;exact⟨rfl,HX6.out⟩
end Go.Proofs.YtnddllipjippnaaGreatDoor
