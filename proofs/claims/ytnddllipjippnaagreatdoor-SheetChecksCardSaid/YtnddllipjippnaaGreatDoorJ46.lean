/- J46: KI6 KJ4 KI1. -/
import Derived.Test.YtnddllipjippnaaGreatDoorJ44
import Derived.Test.YtnddllipjippnaaGreatDoorJ27
set_option maxRecDepth 100000
set_option maxHeartbeats 4000000
namespace Go.Proofs.YtnddllipjippnaaGreatDoor
open Go.RowKit Kl
def NM:Value:=.agg #[.slice none 0 0,.slice none 0 0,.slice none 0 0]
def zeroE:Value:=.agg #[.int .i64 0,S [],S [],S [],S [],S [],S [],S []]
theorem AbH(A B F:Option Addr)(n1 c n2 d n3 g:Nat)(k:Int)(a b p:Bs×Bs)(u:Bs)(z:Int)(hz:(z != 0)=true)(w:World)
  (Qv:∀W,Ab w W→Calls Tryz.prog 19 #[.agg #[.slice A n1 c,.slice B n2 d,.slice F n3 g]] W (AI 0 W))
  (hsc:∀W,Ab w W→Calls Tryz.prog 9 #[Bz k a b p u] W (AI z W)) :
  Calls Tryz.prog 10 #[.agg #[.slice A n1 c,.slice B n2 d,.slice F n3 g],Bz k a b p u] w (BG (.tuple #[NM,.int .i64 z]) w):=by
 obtain⟨hM,hE,hR,hX⟩:=Pg w (.cells #[.slice A n1 c,.slice B n2 d,.slice F n3 g] 35) (.cells #[.int .i64 k,S a.1,S a.2,S b.1,S b.2,S p.1,S p.2,S u] 26) (.cells #[.slice none 0 0,.slice none 0 0,.slice none 0 0] 35);unfold Bz at hsc ⊢;unfold NM;go_enter Tryz.func10,Tryz.ntmps10
 go_upto_region 1 with fail
 generalize ((w.alloc (.cells #[.slice A n1 c,.slice B n2 d,.slice F n3 g] 35)).alloc (.cells #[.int .i64 k,S a.1,S a.2,S b.1,S b.2,S p.1,S p.2,S u] 26)).alloc (.cells #[.slice none 0 0,.slice none 0 0,.slice none 0 0] 35)=V at *;obtain⟨bm,AW⟩:=Ao3 w.heap.size;have hB2:w.heap.size<=bm+1+1:=(by omega);rw [←AW]at hM hE hR ⊢;clear AW;have k0:V.cell? ⟨bm,0,none⟩=some (.slice A n1 c):=Aa hM rfl;have k1:V.cell? ⟨bm,1,none⟩=some (.slice B n2 d):=Aa hM rfl;have k2:V.cell? ⟨bm,2,none⟩=some (.slice F n3 g):=Aa hM rfl;have p1:=Qv V hX;(go_wp2_with fail);(with_reducible refine p1.mono ?_);rintro e w1 ⟨rfl,hx1⟩;have CB:=hX.trans hx1;replace hR:=(hx1.block _ (Ao5 hR)).trans hR;replace hE:=(hx1.block _ (Ao5 hE)).trans hE;clear p1 Qv k0 k1 k2 hM hX hx1;have x0:w1.cell? ⟨bm+1,0,none⟩=some (.int .i64 k):=Aa hE rfl;have x1:w1.cell? ⟨bm+1,1,none⟩=some (S a.1):=Aa hE rfl;have x2:w1.cell? ⟨bm+1,2,none⟩=some (S a.2):=Aa hE rfl;have x3:w1.cell? ⟨bm+1,3,none⟩=some (S b.1):=Aa hE rfl;have x4:w1.cell? ⟨bm+1,4,none⟩=some (S b.2):=Aa hE rfl;have x5:w1.cell? ⟨bm+1,5,none⟩=some (S p.1):=Aa hE rfl;have x6:w1.cell? ⟨bm+1,6,none⟩=some (S p.2):=Aa hE rfl;have x7:w1.cell? ⟨bm+1,7,none⟩=some (S u):=Aa hE rfl;have s1:=hsc w1 CB;(go_wp2_with fail);(with_reducible refine s1.mono ?_);rintro e w2 ⟨rfl,hx2⟩;replace CB:=CB.trans hx2;replace hR:=(hx2.block _ (Ao5 hR)).trans hR;clear s1 hsc x0 x1 x2 x3 x4 x5 x6 x7 hE hx2;have g0:=Aa (o:=0) hR rfl;have g1:=Aa (o:=1) hR rfl;have g2:=Aa (o:=2) hR rfl;have g3:=Aj (o:=0) hR;have g4:=Aj (o:=1) hR;have g5:=Aj (o:=2) hR;have Bd:=DT (.slice none 0 0) (.slice none 0 0) (.slice none 0 0) hR;have t1:=Aa (o:=0) Bd rfl;have t2:=Aa (o:=1) Bd rfl;have t3:=Aa (o:=2) Bd rfl;have HX:=Ao4 (CL CB hB2 (.slice none 0 0) (.slice none 0 0) (.slice none 0 0));clear Bd hR CB hB2;go_wp2;refine bodyPost_ret (v:=.tuple #[.agg #[.slice none 0 0,.slice none 0 0,.slice none 0 0],.int .i64 z]) (by simp [results,Tryz.results10,go_sem,t1,t2,t3]) rfl ?_;exact⟨rfl,HX.out⟩
theorem qJ{w:World}{b:Nat}{a0 a1 a2 a3 a4 a5 a6 a7:Value}{t:TypeId}(v0 v1 v2 v3 v4 v5 v6 v7:Value)(h:w.heap[b]?=some (.cells #[a0,a1,a2,a3,a4,a5,a6,a7] t)) :
  ((((((((w.setCell ⟨b,0,none⟩ v0).setCell ⟨b,1,none⟩ v1).setCell ⟨b,2,none⟩ v2).setCell ⟨b,3,none⟩ v3).setCell ⟨b,4,none⟩ v4).setCell ⟨b,5,none⟩ v5).setCell ⟨b,6,none⟩ v6).setCell ⟨b,7,none⟩ v7).heap[b]?=some (.cells #[v0,v1,v2,v3,v4,v5,v6,v7] t):=by
 simp only [World.setCell,Array.getElem?_modify,h];simp
theorem ZZ{w0 w:World}(h:Ab w0 w){b:Nat}(hb:w0.heap.size<=b)(v0 v1 v2 v3 v4 v5 v6 v7:Value) :
  Ab w0 ((((((((w.setCell ⟨b,0,none⟩ v0).setCell ⟨b,1,none⟩ v1).setCell ⟨b,2,none⟩ v2).setCell ⟨b,3,none⟩ v3).setCell ⟨b,4,none⟩ v4).setCell ⟨b,5,none⟩ v5).setCell ⟨b,6,none⟩ v6).setCell ⟨b,7,none⟩ v7):=
 (((((((h.setCell (p:=⟨b,0,none⟩) hb v0).setCell (p:=⟨b,1,none⟩) hb v1).setCell (p:=⟨b,2,none⟩) hb v2).setCell (p:=⟨b,3,none⟩) hb v3).setCell (p:=⟨b,4,none⟩) hb v4).setCell (p:=⟨b,5,none⟩) hb v5).setCell (p:=⟨b,6,none⟩) hb v6).setCell (p:=⟨b,7,none⟩) hb v7
theorem AbW(A B F:Option Addr)(n1 c n2 d n3 g:Nat)(k:Int)(a b p:Bs×Bs)(u:Bs)(z:Int)(hz:(z != 0)=true)(w:World)
  (hap:∀W,Ab w W→Calls Tryz.prog 10 #[.agg #[.slice A n1 c,.slice B n2 d,.slice F n3 g],Bz k a b p u] W (BG (.tuple #[NM,.int .i64 z]) W)) :
  Calls Tryz.prog 12 #[.agg #[.slice A n1 c,.slice B n2 d,.slice F n3 g],Bz k a b p u] w (BG (.tuple #[zeroE,.bool false,.int .i64 z]) w):=by
 obtain⟨hM,hE,hR,hX⟩:=Pg w (.cells #[.slice A n1 c,.slice B n2 d,.slice F n3 g] 35) (.cells #[.int .i64 k,S a.1,S a.2,S b.1,S b.2,S p.1,S p.2,S u] 26) (.cells #[.int .i64 0,S [],S [],S [],S [],S [],S [],S []] 26);unfold Bz NM at hap;unfold Bz zeroE;go_enter Tryz.func12,Tryz.ntmps12
 go_upto_region 1 with fail
 generalize ((w.alloc (.cells #[.slice A n1 c,.slice B n2 d,.slice F n3 g] 35)).alloc (.cells #[.int .i64 k,S a.1,S a.2,S b.1,S b.2,S p.1,S p.2,S u] 26)).alloc (.cells #[.int .i64 0,S [],S [],S [],S [],S [],S [],S []] 26)=V at *;obtain⟨bm,AW⟩:=Ao3 w.heap.size;have hB2:w.heap.size<=bm+1+1:=(by omega);rw [←AW]at hM hE hR ⊢;clear AW;have k0:V.cell? ⟨bm,0,none⟩=some (.slice A n1 c):=Aa hM rfl;have k1:V.cell? ⟨bm,1,none⟩=some (.slice B n2 d):=Aa hM rfl;have k2:V.cell? ⟨bm,2,none⟩=some (.slice F n3 g):=Aa hM rfl;have x0:V.cell? ⟨bm+1,0,none⟩=some (.int .i64 k):=Aa hE rfl;have x1:V.cell? ⟨bm+1,1,none⟩=some (S a.1):=Aa hE rfl;have x2:V.cell? ⟨bm+1,2,none⟩=some (S a.2):=Aa hE rfl;have x3:V.cell? ⟨bm+1,3,none⟩=some (S b.1):=Aa hE rfl;have x4:V.cell? ⟨bm+1,4,none⟩=some (S b.2):=Aa hE rfl;have x5:V.cell? ⟨bm+1,5,none⟩=some (S p.1):=Aa hE rfl;have x6:V.cell? ⟨bm+1,6,none⟩=some (S p.2):=Aa hE rfl;have x7:V.cell? ⟨bm+1,7,none⟩=some (S u):=Aa hE rfl;have p1:=hap V hX;(go_wp2_with fail);(with_reducible refine p1.mono ?_);rintro e w1 ⟨rfl,hx1⟩;have CB:=hX.trans hx1;replace hR:=(hx1.block _ (Ao5 hR)).trans hR;clear p1 hap k0 k1 k2 hM hX hx1 x0 x1 x2 x3 x4 x5 x6 x7 hE;have hx2:=(Ab.refl w1).alloc (.cells #[.slice none 0 0,.slice none 0 0,.slice none 0 0] 35)
 go_upto_region 2 with fail
 generalize w1.alloc (.cells #[.slice none 0 0,.slice none 0 0,.slice none 0 0] 35)=w2 at *;replace CB:=CB.trans hx2;replace hR:=(hx2.block _ (Ao5 hR)).trans hR;have g0:=Aa (o:=0) hR rfl;have g1:=Aa (o:=1) hR rfl;have g2:=Aa (o:=2) hR rfl;have g3:=Aa (o:=3) hR rfl;have g4:=Aa (o:=4) hR rfl;have g5:=Aa (o:=5) hR rfl;have g6:=Aa (o:=6) hR rfl;have g7:=Aa (o:=7) hR rfl;have f0:=Aj (o:=0) hR;have f1:=Aj (o:=1) hR;have f2:=Aj (o:=2) hR;have f3:=Aj (o:=3) hR;have f4:=Aj (o:=4) hR;have f5:=Aj (o:=5) hR;have f6:=Aj (o:=6) hR;have f7:=Aj (o:=7) hR;have Bd:=qJ (.int .i64 0) (S []) (S []) (S []) (S []) (S []) (S []) (S []) hR;have t0:=Aa (o:=0) Bd rfl;have t1:=Aa (o:=1) Bd rfl;have t2:=Aa (o:=2) Bd rfl;have t3:=Aa (o:=3) Bd rfl;have t4:=Aa (o:=4) Bd rfl;have t5:=Aa (o:=5) Bd rfl;have t6:=Aa (o:=6) Bd rfl;have t7:=Aa (o:=7) Bd rfl;have HX:=Ao4 (ZZ CB hB2 (.int .i64 0) (S []) (S []) (S []) (S []) (S []) (S []) (S []));clear Bd hR CB hB2;go_wp2;refine bodyPost_ret (v:=.tuple #[.agg #[.int .i64 0,S [],S [],S [],S [],S [],S [],S []],.bool false,.int .i64 z]) (by simp [results,Tryz.results12,go_sem,t0,t1,t2,t3,t4,t5,t6,t7]) rfl ?_;exact⟨rfl,HX.out⟩
theorem Akj{P:Program}{w:World}(ts:Array TypeId)(t:TypeId)(k:IntKind)(a b c d e f g:Int):(Builtin.max_ ts t #[.int k a,.int k b,.int k c,.int k d,.int k e,.int k f,.int k g]).run P w=.ok (.int k (max (max (max (max (max (max a b) c) d) e) f) g)) w:=by
 have m:∀x y:Int,(if y>x then y else x)=max x y:=(by intro x y;split<;>omega);simp only [Builtin.max_,List.foldlM_cons,List.foldlM_nil,Builtin.max2];simp [m]
theorem AkN(k:Int)(a b p:Bs×Bs)(u:Bs)(r:Bool)(hr:r=true↔FV a b p u)(w:World):Calls Tryz.prog 7 #[Bz k a b p u] w (BF r w):=by
 have HR:=Ao4 hr;clear hr;have hE:=(Ab.refl w).alloc (.cells #[.int .i64 k,S a.1,S a.2,S b.1,S b.2,S p.1,S p.2,S u] 26);have hq:=Ao6 w (.cells #[.int .i64 k,S a.1,S a.2,S b.1,S b.2,S p.1,S p.2,S u] 26);unfold Bz;go_enter Tryz.func7,Tryz.ntmps7
 go_upto_region 1 with fail
 generalize w.alloc (.cells #[.int .i64 k,S a.1,S a.2,S b.1,S b.2,S p.1,S p.2,S u] 26)=V at *;obtain⟨bx,As⟩:=Ao3 w.heap.size;rw [←As]at hq ⊢;clear As;have q1:V.cell? ⟨bx,1,none⟩=some (S a.1):=Aa hq rfl;have q2:V.cell? ⟨bx,2,none⟩=some (S a.2):=Aa hq rfl;have q3:V.cell? ⟨bx,3,none⟩=some (S b.1):=Aa hq rfl;have q4:V.cell? ⟨bx,4,none⟩=some (S b.2):=Aa hq rfl;have q5:V.cell? ⟨bx,5,none⟩=some (S p.1):=Aa hq rfl;have q6:V.cell? ⟨bx,6,none⟩=some (S p.2):=Aa hq rfl;have q7:V.cell? ⟨bx,7,none⟩=some (S u):=Aa hq rfl;obtain⟨z,hz⟩:=Ao3 (max (max (max (max (max (max (a.1.length:Int) a.2.length) b.1.length) b.2.length) p.1.length) p.2.length) (u.length:Int))
 have mx:∀ts t W,(Builtin.max_ ts t #[.int .i64 (a.1.length:Nat),.int .i64 (a.2.length:Nat),.int .i64 (b.1.length:Nat),.int .i64 (b.2.length:Nat),.int .i64 (p.1.length:Nat),.int .i64 (p.2.length:Nat),.int .i64 (u.length:Nat)]).run Tryz.prog W=.ok (.int .i64 z) W:=fun ts t W=>by rw [hz];exact Akj ts t .i64 _ _ _ _ _ _ _
 have jd:decide (z<=40)=r:=by
  rw [Bool.eq_iff_iff,decide_eq_true_iff,HR.out];constructor
  ·intro h;exact⟨by omega,by omega,by omega,by omega,by omega,by omega,by omega⟩
  ·rintro⟨h1,h2,h3,h4,h5,h6,h7⟩;omega
 have HZR:=Ao4 jd;clear hz HR jd;go_wp2;go_ret;exact⟨by rw [←HZR.out];rfl,hE⟩
theorem Ad0(w:World):Calls Tryz.prog 13 #[NM] w (BF true w):=by
 have hE:=(Ab.refl w).alloc (.cells #[.slice none 0 0,.slice none 0 0,.slice none 0 0] 35);have hq:=Ao6 w (.cells #[.slice none 0 0,.slice none 0 0,.slice none 0 0] 35);unfold NM;go_enter Tryz.func13,Tryz.ntmps13
 go_upto_region 1 with fail
 have q0:=Aa (o:=0) hq rfl;have q1:=Aa (o:=1) hq rfl;have q2:=Aa (o:=2) hq rfl;go_wp2;go_ret;exact⟨rfl,hE⟩
theorem Akq(l:List Pt)(A A':Option Addr)(c c':Nat)(w:World)(hr:Af w A (flat (Aq l)))(hr':Af w A' (flat (Aq l)))(hl:l.length<=100000) :
  Calls Tryz.prog 57 #[.slice A l.length c,.slice A' l.length c'] w (BF true w):=by
 obtain⟨n,hn⟩:=Ao3 l.length;rw [←hn]at hl ⊢;have HN:=Ao4 hn;clear hn;go_enter Tryz.func57,Tryz.ntmps57
 go_upto_region 4 with fail
 go_loopw [5] (fun iv wr=>∃j:Nat,iv=.int .i64 (j:Nat)/\j<=n/\Ab w wr) (fun iv _=>n-(intOf iv).toNat)
 case atStart=>exact⟨0,rfl,by omega,Ab.refl _⟩
 case round=>
  obtain⟨j,rfl,hj,hx⟩:=hrel;by_cases hlt:j<n
  ·have Bc:j<l.length:=(by rw [←HN.out];exact hlt);obtain⟨b,o,rfl,h1,h2⟩:=Co (hr.ext hx) Bc;obtain⟨b',o',rfl,h3,h4⟩:=Co (hr'.ext hx) Bc;generalize l[j]=p at *;have hj0:(0:Int)<=(j:Int):=(by omega);have hjn:(j:Int)<(n:Int):=(by omega);have f1:∀z:Ad wr,z.w.cell? ⟨b,o+j*2,none⟩=some (S (R p.x)):=Ad.cell h1;have f2:∀z:Ad wr,z.w.cell? ⟨b,o+j*2+1,none⟩=some (S (R p.y)):=Ad.cell h2;have f3:∀z:Ad wr,z.w.cell? ⟨b',o'+j*2,none⟩=some (S (R p.x)):=Ad.cell h3;have f4:∀z:Ad wr,z.w.cell? ⟨b',o'+j*2+1,none⟩=some (S (R p.y)):=Ad.cell h4;clear h1 h2 h3 h4 Bc
   go_upto_region 6 with fail
   refine Di (by kernel_rfl) (by kernel_rfl) ?_
   repeat (go_big_quiet_step (fail))
   refine wpQuiet_nil ?_;rintro W4 ⟨z,hz⟩;have Ag:Ab wr W4:=hz▸z.h;have HX:=Ao4 (hx.trans Ag);clear hz z f1 f2 f3 f4 Ag;go_wp2;go_roundw
   case rel=>exact⟨j+1,by go_num,by omega,HX.out⟩
   case measure=>simp [intOf];omega
  ·obtain rfl:j=n:=(by omega);have HX:=Ao4 hx;go_wp2;go_ret;exact⟨rfl,HX.out⟩
theorem AdB(m:MapZ)(fa:List Bs)(Cr:m.nf=fa.length)(A B F A' B' F':Option Addr)(c d g c' d' g':Nat)(w:World)(hA:Af w A (flat (Aq m.pts)))(hB:Af w B (A9 m.eds))(hF:Af w F (fa.map S))(hA':Af w A' (flat (Aq m.pts)))(uP:Af w B' (A9 m.eds))(hF':Af w F' (fa.map S))
  (hpl:m.pts.length<=100000) (hel:m.eds.length<=100000) (D6:m.nf<=100000) :
  Calls Tryz.prog 25 #[AO A B F m c d g,AO A' B' F' m c' d' g'] w (BF true w):=by
 have h1:=Ao6 w (.cells #[.slice A m.pts.length c,.slice B m.eds.length d,.slice F m.nf g] 35);have h2:=Ao6 (w.alloc (.cells #[.slice A m.pts.length c,.slice B m.eds.length d,.slice F m.nf g] 35)) (.cells #[.slice A' m.pts.length c',.slice B' m.eds.length d',.slice F' m.nf g'] 35);rw [AoE]at h2;have e1:=(Ab.refl w).alloc (.cells #[.slice A m.pts.length c,.slice B m.eds.length d,.slice F m.nf g] 35);have e2:=(Ab.refl (w.alloc (.cells #[.slice A m.pts.length c,.slice B m.eds.length d,.slice F m.nf g] 35))).alloc (.cells #[.slice A' m.pts.length c',.slice B' m.eds.length d',.slice F' m.nf g'] 35);have hM:=(e2.block _ (Ao5 h1)).trans h1;have hE:=e1.trans e2;have sm:=Akq m.pts A A' c c' ((w.alloc (.cells #[.slice A m.pts.length c,.slice B m.eds.length d,.slice F m.nf g] 35)).alloc (.cells #[.slice A' m.pts.length c',.slice B' m.eds.length d',.slice F' m.nf g'] 35)) (hA.ext hE) (hA'.ext hE) hpl;unfold AO;obtain⟨np,Nw⟩:=Ao3 m.pts.length;obtain⟨ne,hne⟩:=Ao3 m.eds.length;obtain⟨nf,LI⟩:=Ao3 m.nf;simp only [←Nw,←hne,←LI]at sm hM h2 hE ⊢;have Anb:ne<=100000:=(by omega);have Qn:nf<=100000:=(by omega);clear hpl hel D6;have HB:=Ao4 (And.intro hB (And.intro uP hne));have HF:=Ao4 (And.intro hF (And.intro hF' (LI.trans Cr)));have y8:=Ao4 hE;clear hA hA' hB uP hF hF' Nw hne LI Cr h1 e1 e2 hE;go_enter Tryz.func25,Tryz.ntmps25
 go_upto_region 1 with fail
 generalize (w.alloc (.cells #[.slice A np c,.slice B ne d,.slice F nf g] 35)).alloc (.cells #[.slice A' np c',.slice B' ne d',.slice F' nf g'] 35)=V at *;obtain⟨bm,AW⟩:=Ao3 w.heap.size;rw [←AW]at hM h2 ⊢;clear AW;have k0:V.cell? ⟨bm,0,none⟩=some (.slice A np c):=Aa hM rfl;have k1:V.cell? ⟨bm+1,0,none⟩=some (.slice A' np c'):=Aa h2 rfl;(go_wp2_with fail);(with_reducible refine sm.mono ?_);rintro e w1 ⟨rfl,hx1⟩;have Cp:=(hx1.block _ (Ao5 hM)).trans hM;have Ot:=(hx1.block _ (Ao5 h2)).trans h2;have m1:w1.cell? ⟨bm,1,none⟩=some (.slice B ne d):=Aa Cp rfl;have m2:w1.cell? ⟨bm,2,none⟩=some (.slice F nf g):=Aa Cp rfl;have n1:w1.cell? ⟨bm+1,1,none⟩=some (.slice B' ne d'):=Aa Ot rfl;have n2:w1.cell? ⟨bm+1,2,none⟩=some (.slice F' nf g'):=Aa Ot rfl;have HX:=Ao4 (y8.out.trans hx1);clear sm k0 k1 hM h2 hx1
 go_upto_region 4 with fail
 go_loopw [5] (fun iv wr=>∃j:Nat,iv=.int .i64 (j:Nat)/\j<=ne/\Ab w1 wr) (fun iv _=>ne-(intOf iv).toNat)
 case atStart=>exact⟨0,rfl,by omega,Ab.refl _⟩
 case round=>
  obtain⟨j,rfl,hj,hx⟩:=hrel;have a1:=hx.cellS m1;have a2:=hx.cellS n1;by_cases hlt:j<ne
  ·have Bc:j<m.eds.length:=(by rw [←HB.out.2.2];exact hlt);obtain⟨b,o,hb,g1,g2,g3,g4⟩:=Mf (HB.out.1.ext (HX.out.trans hx)) Bc;obtain⟨b',o',hb',g5,g6,g7,g8⟩:=Mf (HB.out.2.1.ext (HX.out.trans hx)) Bc;subst hb hb';generalize m.eds[j]=p at *;have hj0:(0:Int)<=(j:Int):=(by omega);have hjn:(j:Int)<(ne:Int):=by omega
   go_upto_region 6 with fail
   have f1:∀z:Ad wr,z.w.cell? ⟨b,o+j*4,none⟩=some (.int .i64 p.f):=Ad.cell g1;have f2:∀z:Ad wr,z.w.cell? ⟨b,o+j*4+1,none⟩=some (.int .i64 p.t):=Ad.cell g2;have f3:∀z:Ad wr,z.w.cell? ⟨b,o+j*4+2,none⟩=some (.int .i64 p.l):=Ad.cell g3;have f4:∀z:Ad wr,z.w.cell? ⟨b,o+j*4+3,none⟩=some (.int .i64 p.r):=Ad.cell g4;have f5:∀z:Ad wr,z.w.cell? ⟨b',o'+j*4,none⟩=some (.int .i64 p.f):=Ad.cell g5;have f6:∀z:Ad wr,z.w.cell? ⟨b',o'+j*4+1,none⟩=some (.int .i64 p.t):=Ad.cell g6;have f7:∀z:Ad wr,z.w.cell? ⟨b',o'+j*4+2,none⟩=some (.int .i64 p.l):=Ad.cell g7;have f8:∀z:Ad wr,z.w.cell? ⟨b',o'+j*4+3,none⟩=some (.int .i64 p.r):=Ad.cell g8;have f9:∀z:Ad wr,z.w.cell? ⟨bm,1,none⟩=_:=Ad.cell a1;have f10:∀z:Ad wr,z.w.cell? ⟨bm+1,1,none⟩=_:=Ad.cell a2;clear g1 g2 g3 g4 g5 g6 g7 g8 Bc a1 a2 m1 n1;refine Di (by kernel_rfl) (by kernel_rfl) ?_
   repeat (go_big_quiet_step (fail))
   refine wpQuiet_nil ?_;rintro W4 ⟨z,hz⟩;have Ag:Ab wr W4:=hz▸z.h;have M8:=Ao4 (hx.trans Ag);clear hz z f1 f2 f3 f4 f5 f6 f7 f8 f9 f10 Ag;go_wp2;go_roundw
   case rel=>exact⟨j+1,by go_num,by omega,M8.out⟩
   case measure=>simp [intOf];omega
  ·obtain rfl:j=ne:=(by omega);replace m2:=hx.cellS m2;replace n2:=hx.cellS n2;obtain⟨w6,ig⟩:=Ao3 wr;rw [←ig]at m2 n2 hx ⊢;have RB:=Ao4 (HX.out.trans hx);clear m1 n1
   go_upto_region 9 with fail
   go_loopw [6] (fun iv wr=>∃k:Nat,iv=.int .i64 (k:Nat)/\k<=nf/\Ab w6 wr) (fun iv _=>nf-(intOf iv).toNat)
   case atStart=>exact⟨0,rfl,by omega,by rw [ig];exact Ab.refl _⟩
   case round=>
    obtain⟨k,rfl,hk,hy⟩:=hrel;have b1:=hy.cellS m2;have b2:=hy.cellS n2;by_cases hlt:k<nf
    ·have Ce:k<(fa.map S).length:=(by rw [List.length_map,←HF.out.2.2];exact hlt);obtain⟨b,o,hb,g1⟩:=(HF.out.1.ext (RB.out.trans hy)).ad (by omega);obtain⟨b',o',hb',g2⟩:=(HF.out.2.1.ext (RB.out.trans hy)).ad (by omega);subst hb hb';have g3:=g1 k Ce;have g4:=g2 k Ce;rw [List.getElem_map]at g3 g4;generalize fa[k]'(by simpa using Ce)=s at *;have hk0:(0:Int)<=(k:Int):=(by omega);have hkn:(k:Int)<(nf:Int):=by omega
     go_upto_region 11 with fail
     have f1:∀z:Ad wr,z.w.cell? ⟨b,o+k,none⟩=some (S s):=Ad.cell g3;have f2:∀z:Ad wr,z.w.cell? ⟨b',o'+k,none⟩=some (S s):=Ad.cell g4;have f3:∀z:Ad wr,z.w.cell? ⟨bm,2,none⟩=_:=Ad.cell b1;have f4:∀z:Ad wr,z.w.cell? ⟨bm+1,2,none⟩=_:=Ad.cell b2;clear g1 g2 g3 g4 Ce b1 b2 m2 n2;refine Di (by kernel_rfl) (by kernel_rfl) ?_
     repeat (go_big_quiet_step (fail))
     refine wpQuiet_nil ?_;rintro W4 ⟨z,hz⟩;have Ag:Ab wr W4:=hz▸z.h;have M8:=Ao4 (hy.trans Ag);clear hz z f1 f2 f3 f4 Ag;go_wp2;go_roundw
     case rel=>exact⟨k+1,by go_num,by omega,M8.out⟩
     case measure=>simp [intOf];omega
    ·obtain rfl:k=nf:=(by omega);have HX6:=Ao4 (RB.out.trans hy);go_wp2;go_ret;exact⟨rfl,HX6.out⟩
end Go.Proofs.YtnddllipjippnaaGreatDoor
