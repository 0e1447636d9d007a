/- K40: ShKI6 ShKK3 ShKI1 ShSL1. -/
import Derived.Test.YtgnejnampofhoaaGreatDoorK39
set_option maxRecDepth 100000
set_option maxHeartbeats 8000000
namespace Go.Proofs.YtgnejnampofhoaaGreatDoor
open Go.RowKit Kl
def G5:Value:=.agg #[.slice none 0 0,.slice none 0 0,.slice none 0 0]
theorem yh(w:World):Calls Tryz.prog 18 #[G5] w (By true w):=by
 have hE:=(Ac.refl w).alloc (.cells #[.slice none 0 0,.slice none 0 0,.slice none 0 0] 35);have hq:=Ajy w (.cells #[.slice none 0 0,.slice none 0 0,.slice none 0 0] 35);unfold G5;go_enter Tryz.func18,Tryz.ntmps18
 go_upto_region 1 with fail
 have q0:=Aa (o:=0) hq rfl;have q1:=Aa (o:=1) hq rfl;have q2:=Aa (o:=2) hq rfl;go_wp2;go_ret;exact⟨rfl,hE⟩
theorem dO(w:World)(o1 o2:Obj):((w.alloc o1).alloc o2).heap[w.heap.size]?=some o1/\((w.alloc o1).alloc o2).heap[w.heap.size+1]?=some o2/\Ac w ((w.alloc o1).alloc o2):=by
 have e1:=(Ac.refl w).alloc o1;have e2:=(Ac.refl (w.alloc o1)).alloc o2;have h1:=Ajy w o1;have h2:=Ajy (w.alloc o1) o2;rw [Aj6]at h2;exact⟨(e2.block _ (Ajx h1)).trans h1,h2,e1.trans e2⟩
theorem AfR(l:List Pt)(A A':Option Addr)(c c':Nat)(w:World)(hr:Ae w A (flat (Ai l)))(hr':Ae w A' (flat (Ai l)))(hl:l.length<=100000) :
  Calls Tryz.prog 52 #[.slice A l.length c,.slice A' l.length c'] w (By true w):=by
 obtain⟨n,hn⟩:=Ajv l.length;rw [←hn]at hl ⊢;have HN:=Ajw hn;clear hn;go_enter Tryz.func52,Tryz.ntmps52
 go_upto_region 4 with fail
 go_loopw [5] (fun iv wr=>∃j:Nat,iv=.int .i64 (j:Nat)/\j<=n/\Ac w wr) (fun iv _=>n-(intOf iv).toNat)
 case atStart=>exact⟨0,rfl,by omega,Ac.refl _⟩
 case round=>
  obtain⟨j,rfl,hj,hx⟩:=hrel;by_cases hlt:j<n
  ·have AP:j<l.length:=(by rw [←HN.out];exact hlt);obtain⟨b,o,rfl,h1,h2⟩:=BW (hr.ext hx) AP;obtain⟨b',o',rfl,h3,h4⟩:=BW (hr'.ext hx) AP;generalize l[j]=p at *;have hj0:(0:Int)<=(j:Int):=(by omega);have hjn:(j:Int)<(n:Int):=(by omega);have f1:∀z:Af wr,z.w.cell? ⟨b,o+j*2,none⟩=some (S (R p.x)):=Af.cell h1;have f2:∀z:Af wr,z.w.cell? ⟨b,o+j*2+1,none⟩=some (S (R p.y)):=Af.cell h2;have f3:∀z:Af wr,z.w.cell? ⟨b',o'+j*2,none⟩=some (S (R p.x)):=Af.cell h3;have f4:∀z:Af wr,z.w.cell? ⟨b',o'+j*2+1,none⟩=some (S (R p.y)):=Af.cell h4;clear h1 h2 h3 h4 AP
   go_upto_region 6 with fail
   refine CW (by kernel_rfl) (by kernel_rfl) ?_
   repeat (go_big_quiet_step (fail))
   refine wpQuiet_nil ?_;rintro W4 ⟨z,hz⟩;have Aq:Ac wr W4:=hz▸z.h;have HX:=Ajw (hx.trans Aq);clear hz z f1 f2 f3 f4 Aq;go_wp2;go_roundw
   case rel=>exact⟨j+1,by go_num,by omega,HX.out⟩
   case measure=>simp [intOf];omega
  ·obtain rfl:j=n:=(by omega);have HX:=Ajw hx;go_wp2;go_ret;exact⟨rfl,HX.out⟩
theorem lT(m:MapZ)(fa:List Bs)(Bn:m.nf=fa.length)(A B F A' B' F':Option Addr)(c d g c' d' g':Nat)(w:World)(hA:Ae w A (flat (Ai m.pts)))(hB:Ae w B (Au m.eds))(hF:Ae w F (fa.map S))(hA':Ae w A' (flat (Ai m.pts)))(mR:Ae w B' (Au m.eds))(hF':Ae w F' (fa.map S))
  (hpl:m.pts.length<=100000) (hel:m.eds.length<=100000) (CN:m.nf<=100000) :
  Calls Tryz.prog 14 #[As A B F m c d g,As A' B' F' m c' d' g'] w (By true w):=by
 have h1:=Ajy w (.cells #[.slice A m.pts.length c,.slice B m.eds.length d,.slice F m.nf g] 35);have h2:=Ajy (w.alloc (.cells #[.slice A m.pts.length c,.slice B m.eds.length d,.slice F m.nf g] 35)) (.cells #[.slice A' m.pts.length c',.slice B' m.eds.length d',.slice F' m.nf g'] 35);rw [Aj6]at h2;have e1:=(Ac.refl w).alloc (.cells #[.slice A m.pts.length c,.slice B m.eds.length d,.slice F m.nf g] 35);have e2:=(Ac.refl (w.alloc (.cells #[.slice A m.pts.length c,.slice B m.eds.length d,.slice F m.nf g] 35))).alloc (.cells #[.slice A' m.pts.length c',.slice B' m.eds.length d',.slice F' m.nf g'] 35);have hM:=(e2.block _ (Ajx h1)).trans h1;have hE:=e1.trans e2;have sm:=AfR m.pts A A' c c' ((w.alloc (.cells #[.slice A m.pts.length c,.slice B m.eds.length d,.slice F m.nf g] 35)).alloc (.cells #[.slice A' m.pts.length c',.slice B' m.eds.length d',.slice F' m.nf g'] 35)) (hA.ext hE) (hA'.ext hE) hpl;unfold As;obtain⟨np,Ml⟩:=Ajv m.pts.length;obtain⟨ne,hne⟩:=Ajv m.eds.length;obtain⟨nf,Ib⟩:=Ajv m.nf;simp only [←Ml,←hne,←Ib]at sm hM h2 hE ⊢;have Aim:ne<=100000:=(by omega);have Kr:nf<=100000:=(by omega);clear hpl hel CN;have HB:=Ajw (And.intro hB (And.intro mR hne));have HF:=Ajw (And.intro hF (And.intro hF' (Ib.trans Bn)));have gu:=Ajw hE;clear hA hA' hB mR hF hF' Ml hne Ib Bn h1 e1 e2 hE;go_enter Tryz.func14,Tryz.ntmps14
 go_upto_region 1 with fail
 generalize (w.alloc (.cells #[.slice A np c,.slice B ne d,.slice F nf g] 35)).alloc (.cells #[.slice A' np c',.slice B' ne d',.slice F' nf g'] 35)=V at *;obtain⟨bm,AD⟩:=Ajv w.heap.size;rw [←AD]at hM h2 ⊢;clear AD;have k0:V.cell? ⟨bm,0,none⟩=some (.slice A np c):=Aa hM rfl;have k1:V.cell? ⟨bm+1,0,none⟩=some (.slice A' np c'):=Aa h2 rfl;(go_wp2_with fail);(with_reducible refine sm.mono ?_);rintro e w1 ⟨rfl,hx1⟩;have Bt:=(hx1.block _ (Ajx hM)).trans hM;have MW:=(hx1.block _ (Ajx h2)).trans h2;have m1:w1.cell? ⟨bm,1,none⟩=some (.slice B ne d):=Aa Bt rfl;have m2:w1.cell? ⟨bm,2,none⟩=some (.slice F nf g):=Aa Bt rfl;have n1:w1.cell? ⟨bm+1,1,none⟩=some (.slice B' ne d'):=Aa MW rfl;have n2:w1.cell? ⟨bm+1,2,none⟩=some (.slice F' nf g'):=Aa MW rfl;have HX:=Ajw (gu.out.trans hx1);clear sm k0 k1 hM h2 hx1
 go_upto_region 4 with fail
 go_loopw [5] (fun iv wr=>∃j:Nat,iv=.int .i64 (j:Nat)/\j<=ne/\Ac w1 wr) (fun iv _=>ne-(intOf iv).toNat)
 case atStart=>exact⟨0,rfl,by omega,Ac.refl _⟩
 case round=>
  obtain⟨j,rfl,hj,hx⟩:=hrel;have a1:=hx.cellS m1;have a2:=hx.cellS n1;by_cases hlt:j<ne
  ·have AP:j<m.eds.length:=(by rw [←HB.out.2.2];exact hlt);obtain⟨b,o,hb,g1,g2,g3,g4⟩:=KV (HB.out.1.ext (HX.out.trans hx)) AP;obtain⟨b',o',hb',g5,g6,g7,g8⟩:=KV (HB.out.2.1.ext (HX.out.trans hx)) AP;subst hb hb';generalize m.eds[j]=p at *;have hj0:(0:Int)<=(j:Int):=(by omega);have hjn:(j:Int)<(ne:Int):=by omega
   go_upto_region 6 with fail
   have f1:∀z:Af wr,z.w.cell? ⟨b,o+j*4,none⟩=some (.int .i64 p.f):=Af.cell g1;have f2:∀z:Af wr,z.w.cell? ⟨b,o+j*4+1,none⟩=some (.int .i64 p.t):=Af.cell g2;have f3:∀z:Af wr,z.w.cell? ⟨b,o+j*4+2,none⟩=some (.int .i64 p.l):=Af.cell g3;have f4:∀z:Af wr,z.w.cell? ⟨b,o+j*4+3,none⟩=some (.int .i64 p.r):=Af.cell g4;have f5:∀z:Af wr,z.w.cell? ⟨b',o'+j*4,none⟩=some (.int .i64 p.f):=Af.cell g5;have f6:∀z:Af wr,z.w.cell? ⟨b',o'+j*4+1,none⟩=some (.int .i64 p.t):=Af.cell g6;have f7:∀z:Af wr,z.w.cell? ⟨b',o'+j*4+2,none⟩=some (.int .i64 p.l):=Af.cell g7;have f8:∀z:Af wr,z.w.cell? ⟨b',o'+j*4+3,none⟩=some (.int .i64 p.r):=Af.cell g8;have f9:∀z:Af wr,z.w.cell? ⟨bm,1,none⟩=_:=Af.cell a1;have f10:∀z:Af wr,z.w.cell? ⟨bm+1,1,none⟩=_:=Af.cell a2;clear g1 g2 g3 g4 g5 g6 g7 g8 AP a1 a2 m1 n1;refine CW (by kernel_rfl) (by kernel_rfl) ?_
   repeat (go_big_quiet_step (fail))
   refine wpQuiet_nil ?_;rintro W4 ⟨z,hz⟩;have Aq:Ac wr W4:=hz▸z.h;have Lt:=Ajw (hx.trans Aq);clear hz z f1 f2 f3 f4 f5 f6 f7 f8 f9 f10 Aq;go_wp2;go_roundw
   case rel=>exact⟨j+1,by go_num,by omega,Lt.out⟩
   case measure=>simp [intOf];omega
  ·obtain rfl:j=ne:=(by omega);replace m2:=hx.cellS m2;replace n2:=hx.cellS n2;obtain⟨w6,tM⟩:=Ajv wr;rw [←tM]at m2 n2 hx ⊢;have PS:=Ajw (HX.out.trans hx);clear m1 n1
   go_upto_region 9 with fail
   go_loopw [6] (fun iv wr=>∃k:Nat,iv=.int .i64 (k:Nat)/\k<=nf/\Ac w6 wr) (fun iv _=>nf-(intOf iv).toNat)
   case atStart=>exact⟨0,rfl,by omega,by rw [tM];exact Ac.refl _⟩
   case round=>
    obtain⟨k,rfl,hk,hy⟩:=hrel;have b1:=hy.cellS m2;have b2:=hy.cellS n2;by_cases hlt:k<nf
    ·have CB:k<(fa.map S).length:=(by rw [List.length_map,←HF.out.2.2];exact hlt);obtain⟨b,o,hb,g1⟩:=(HF.out.1.ext (PS.out.trans hy)).ad (by omega);obtain⟨b',o',hb',g2⟩:=(HF.out.2.1.ext (PS.out.trans hy)).ad (by omega);subst hb hb';have g3:=g1 k CB;have g4:=g2 k CB;rw [List.getElem_map]at g3 g4;generalize fa[k]'(by simpa using CB)=s at *;have hk0:(0:Int)<=(k:Int):=(by omega);have hkn:(k:Int)<(nf:Int):=by omega
     go_upto_region 11 with fail
     have f1:∀z:Af wr,z.w.cell? ⟨b,o+k,none⟩=some (S s):=Af.cell g3;have f2:∀z:Af wr,z.w.cell? ⟨b',o'+k,none⟩=some (S s):=Af.cell g4;have f3:∀z:Af wr,z.w.cell? ⟨bm,2,none⟩=_:=Af.cell b1;have f4:∀z:Af wr,z.w.cell? ⟨bm+1,2,none⟩=_:=Af.cell b2;clear g1 g2 g3 g4 CB b1 b2 m2 n2;refine CW (by kernel_rfl) (by kernel_rfl) ?_
     repeat (go_big_quiet_step (fail))
     refine wpQuiet_nil ?_;rintro W4 ⟨z,hz⟩;have Aq:Ac wr W4:=hz▸z.h;have Lt:=Ajw (hy.trans Aq);clear hz z f1 f2 f3 f4 Aq;go_wp2;go_roundw
     case rel=>exact⟨k+1,by go_num,by omega,Lt.out⟩
     case measure=>simp [intOf];omega
    ·obtain rfl:k=nf:=(by omega);have ky:=Ajw (PS.out.trans hy);go_wp2;go_ret;exact⟨rfl,ky.out⟩
theorem Ado:N8 Ah ⟨1,1⟩ 0=true:=by decide +kernel
theorem dB{w:World}{g b:Nat}{v:Value}{cs cs':Array Value}{t:TypeId}(hg:w.heap[g]?=some (.cells cs t))(hb:w.heap[b]?=some (.cells cs' 35))(ht:t≠35):(w.setCell ⟨g,0,none⟩ v).heap[b]?=some (.cells cs' 35):=
 (B7 (p:=⟨g,0,none⟩) (v:=v) (by exact Ct hb hg (fun e=>ht e.symm))).trans hb
theorem Afz(A Bk F:Option Addr)(c d g:Nat){B:Nat}{V w:World}(hw:Ao w)(hV:Ac V w)(_:B<=w.heap.size)(XE:V.heap.size<=B)(hm:BY B w A Bk F c d g Ah [[97]]) :
  Calls Tryz.prog 92 #[As A Bk F Ah c d g,FB 1 (R 1,R 1) ([],[]) ([],[]) [97]] w (SZ B V w Ah [[97]]):=by
 obtain⟨gF,rfl,TR⟩:∃gF,F=some ⟨gF,0,none⟩/\∃cur,w.heap[gF]?=some (.cells cur 9):=by
  rcases hm.fac.2 with⟨h',_⟩|⟨g',cap,cur,hv,_,hgb,_⟩
  ·simp only [Value.slice.injEq]at h';exact absurd h'.2.1 (by decide)
  ·simp only [Value.slice.injEq]at hv;obtain⟨rfl,-,-⟩:=hv;exact⟨g',rfl,cur,hgb⟩
 obtain⟨cur,TR⟩:=TR;obtain⟨hM,hE,hR,hX⟩:=M8 w (.cells #[.slice A 4 c,.slice Bk 4 d,.slice (some ⟨gF,0,none⟩) 1 g] 35) (.cells #[.int .i64 1,S (R 1),S (R 1),S [],S [],S [],S [],S [97]] 29) (.cells #[.slice none 0 0,.slice none 0 0,.slice none 0 0] 35);obtain⟨h1,h2,h3,h4,-⟩:=hm.rd;have lc:=fun W (hx:Ac w W)=>(by exact RS Ah ⟨1,1⟩ 0 Ado A Bk (some ⟨gF,0,none⟩) c d g h1 W (hw.ext hx) (h2.ext hx) (h3.ext hx):Calls Tryz.prog 97 #[.agg #[.slice A 4 c,.slice Bk 4 d,.slice (some ⟨gF,0,none⟩) 1 g],.agg #[S (R 1),S (R 1)]] W (Bp (.tuple #[.int .i64 0,.bool true,.int .i64 0]) W));have HM:=Ajw hm;show Calls Tryz.prog 92 #[.agg #[.slice A 4 c,.slice Bk 4 d,.slice (some ⟨gF,0,none⟩) 1 g],.agg #[.int .i64 1,S (R 1),S (R 1),S [],S [],S [],S [],S [97]]] w _;clear hm h1 h2 h3 h4;go_enter Tryz.func92,Tryz.ntmps92
 go_upto_region 1 with fail
 generalize ((w.alloc (.cells #[.slice A 4 c,.slice Bk 4 d,.slice (some ⟨gF,0,none⟩) 1 g] 35)).alloc (.cells #[.int .i64 1,S (R 1),S (R 1),S [],S [],S [],S [],S [97]] 29)).alloc (.cells #[.slice none 0 0,.slice none 0 0,.slice none 0 0] 35)=w3 at *;obtain⟨bm,AD⟩:=Ajv w.heap.size;have hlo:w.heap.size<=bm+1+1:=(by omega);rw [←AD]at hM hE hR ⊢;clear AD;have k0:w3.cell? ⟨bm,0,none⟩=some (.slice A 4 c):=Aa hM rfl;have k1:w3.cell? ⟨bm,1,none⟩=some (.slice Bk 4 d):=Aa hM rfl;have k2:w3.cell? ⟨bm,2,none⟩=some (.slice (some ⟨gF,0,none⟩) 1 g):=Aa hM rfl;have x1:w3.cell? ⟨bm+1,1,none⟩=some (S (R 1)):=Aa hE rfl;have x2:w3.cell? ⟨bm+1,2,none⟩=some (S (R 1)):=Aa hE rfl;have l1:=lc w3 hX;(go_wp2_with fail);(with_reducible refine l1.mono ?_);rintro e w4 ⟨rfl,Aq⟩;replace hX:=hX.trans Aq;replace hM:=(Aq.block _ (Ajx hM)).trans hM;replace hE:=(Aq.block _ (Ajx hE)).trans hE;replace hR:=(Aq.block _ (Ajx hR)).trans hR;have Kf:=(hX.block _ (Ajx TR)).trans TR;have Rw:=A9 HM.out.fac hX;have p0:w4.cell? ⟨gF,0,none⟩=some (S [97]):=(Rw.cellAt 0 (by decide)).trans rfl;have p1:=Rw.frozenAt 0;clear k0 k1 k2 x1 x2 l1 lc Aq;have k2:w4.cell? ⟨bm,2,none⟩=some (.slice (some ⟨gF,0,none⟩) 1 g):=Aa hM rfl;have x7:w4.cell? ⟨bm+1,7,none⟩=some (S [97]):=Aa hE rfl
 go_upto_region 7 with fail
 have rY:=(Rw.stored 0 (S [97])).1;have Jg:=dB (v:=S [97]) Kf hM (by decide);have Gk:=dB (v:=S [97]) Kf hR (by decide);have sH:(w4.setCell ⟨gF,0,none⟩ (S [97])).ownsRow B 27 2 (.slice A 4 c) 4 (flat (Ai Ah.pts)):=Bw (A9 HM.out.pts hX) ((Ax.refl (fun q=>q=gF) w4).setCell (p:=⟨gF,0,none⟩) (.inl rfl) _) (fun k hk e=>Bo (A9 HM.out.pts hX) Kf (by decide) (by rw [←e];exact hk));have rX:(w4.setCell ⟨gF,0,none⟩ (S [97])).ownsRow B 118 4 (.slice Bk 4 d) 4 (Au Ah.eds):=Bw (A9 HM.out.eds hX) ((Ax.refl (fun q=>q=gF) w4).setCell (p:=⟨gF,0,none⟩) (.inl rfl) _) (fun k hk e=>Bo (A9 HM.out.eds hX) Kf (by decide) (by rw [←e];exact hk));have Rp:∀(j:Nat) (cs:Array Value),w.heap[j]?=some (.cells cs 35)→(w4.setCell ⟨gF,0,none⟩ (S [97])).heap[j]?=some (.cells cs 35):=fun j cs hj=>dB (v:=S [97]) Kf ((hX.block _ (Ajx hj)).trans hj) (by decide);have tU:Ac V (w4.setCell ⟨gF,0,none⟩ (S [97])):=(hV.trans hX).setCell (p:=⟨gF,0,none⟩) (Aj9 XE (Rw.lt gF rfl).1) _;generalize w4.setCell ⟨gF,0,none⟩ (S [97])=w5 at *;have k0:w5.cell? ⟨bm,0,none⟩=some (.slice A 4 c):=Aa Jg rfl;have k1:w5.cell? ⟨bm,1,none⟩=some (.slice Bk 4 d):=Aa Jg rfl;have k2:w5.cell? ⟨bm,2,none⟩=some (.slice (some ⟨gF,0,none⟩) 1 g):=Aa Jg rfl;have g0:=Aa (o:=0) Gk rfl;have g1:=Aa (o:=1) Gk rfl;have g2:=Aa (o:=2) Gk rfl;have f0:=Aj (o:=0) Gk;have f1:=Aj (o:=1) Gk;have f2:=Aj (o:=2) Gk;have A7:=Ck (.slice A 4 c) (.slice Bk 4 d) (.slice (some ⟨gF,0,none⟩) 1 g) Gk;have t1:=Aa (o:=0) A7 rfl;have t2:=Aa (o:=1) A7 rfl;have t3:=Aa (o:=2) A7 rfl;have HO:=Ajw (show BY B (((w5.setCell ⟨bm+1+1,0,none⟩ (.slice A 4 c)).setCell ⟨bm+1+1,1,none⟩ (.slice Bk 4 d)).setCell ⟨bm+1+1,2,none⟩ (.slice (some ⟨gF,0,none⟩) 1 g)) A Bk (some ⟨gF,0,none⟩) c d g Ah [[97]] from⟨Ds sH Gk (by decide) _ _ _,Ds rX Gk (by decide) _ _ _,Ds rY Gk (by decide) _ _ _,rfl⟩);have HX:=Ajw (And.intro (BI tU (Aj9 hV.size hlo) (.slice A 4 c) (.slice Bk 4 d) (.slice (some ⟨gF,0,none⟩) 1 g)) Rp);have HS:=Ajw hlo;clear A7 Jg Gk sH rX rY Rp tU hM hE hR hX hlo Rw Kf;go_wp2;refine bodyPost_ret (v:=.tuple #[.agg #[.slice A 4 c,.slice Bk 4 d,.slice (some ⟨gF,0,none⟩) 1 g],.int .i64 0]) (by simp [results,Tryz.results92,go_sem,t1,t2,t3]) rfl ?_;refine⟨A,Bk,some ⟨gF,0,none⟩,c,d,g,rfl,HO.out,HX.out.1,fun j cs hj=>?_⟩;have hlt:=Ajx hj;have hlo:=HS.out;rw [B7 (by show j≠bm+1+1;omega),B7 (by show j≠bm+1+1;omega),B7 (by show j≠bm+1+1;omega)];exact HX.out.2 j cs hj
end Go.Proofs.YtgnejnampofhoaaGreatDoor
