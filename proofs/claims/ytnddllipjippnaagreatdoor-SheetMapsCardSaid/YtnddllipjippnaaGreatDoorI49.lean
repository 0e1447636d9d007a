/- I49: ShKK5. -/
import Derived.Test.YtnddllipjippnaaGreatDoorI48
set_option maxRecDepth 100000
set_option maxHeartbeats 16000000
namespace Go.Proofs.YtnddllipjippnaaGreatDoor
open Go.RowKit Kl
theorem Aoz(p:Pl)(hp:p.Ok)(h:Nat)(hh:h<256)(k:Nat)(hk:k<256)(w:World)(hw:Aj w) :
  Calls Tryz.prog 4 #[O1 p,.int .u8 (h:Nat),.int .u8 (k:Nat)] w (BP true w):=by
 have kn:=fun W (hx:Ab w W)=>Ali W (hw.ext hx);have pc:=fun W (hx:Ab w W)=>AlF (fun m=>(∀e∈m.eds,0<=e.f/\e.f<(m.pts.length:Int))/\m.pts.length<=2000/\m.eds.length<=2000) p hp (fun _ _ h h1 h2 _ _=>⟨AlD h,AlE h h1 h2⟩) W (hw.ext hx);obtain⟨cs,hcs⟩:=Asw ((O0 p).toArray);have hV:O1 p=.agg cs:=(by rw [hcs];rfl);have hsz:cs.size=29:=(by rw [hcs];exact AaX hp);have hin:(Tryz.prog.info? 46).map (·.size)=some cs.size:=(by rw [hsz];exact AaY);simp only [hV]at pc ⊢;have fL:=(Ab.refl w).alloc (.cells cs 46);have hB0:=Asz w (.cells cs 46);have ym:=kn _ fL;clear hcs hV hp hsz kn;go_enter Tryz.func4,Tryz.ntmps4;(go_wp2_with fail);(with_reducible refine ym.mono ?_);rintro e w1 ⟨rfl,hx1⟩;have X1:=fL.trans hx1;have Ap:=(hx1.block _ (Asy hB0)).trans hB0;obtain⟨bp,JP⟩:=Asw w.heap.size;rw [←JP]at Ap ⊢;clear JP hx1 ym hB0 fL;have pc1:=pc w1 X1;clear pc
 go_wp2_with (first|(refine zk rfl 46 (.tmp 3) rfl w1 bp rfl 46 cs _ Ap Tryz.underlying46 rfl hin ?_)|((with_reducible refine pc1.mono ?_);rintro e w2 ⟨n,units,A,B,F,c,d,g,m,fa,Aj4,rfl,hM,hx2,-,-,KZ,hpl,hel⟩;unfold AH))
 have X2:=X1.trans hx2;have SC:=Asx KZ;have HM:=Asx hM;have C5:fa.length<=18:=AsA hM.le Aj4;have IL:=Asx (fun p hp=>(hM.sheet p hp).on:∀p∈m.pts,Ce p)
 go_upto_region 4 with fail
 have hb3:=Asz w2 (.cells #[.slice A m.pts.length c,.slice B m.eds.length d,.slice F m.nf g] 35);have hx3:=(Ab.refl w2).alloc (.cells #[.slice A m.pts.length c,.slice B m.eds.length d,.slice F m.nf g] 35);generalize w2.alloc (.cells #[.slice A m.pts.length c,.slice B m.eds.length d,.slice F m.nf g] 35)=W3 at *;obtain⟨b7,Dm⟩:=Asw w2.heap.size;have hlo:w.heap.size<=b7:=(by rw [Dm];exact X2.size);rw [←Dm]at hb3 ⊢;have BL:=X2.trans hx3;have cp:=fun (W:World) (hx:Ab W3 W)=>wT m.pts A c W ((HM.out.pts.ext hx3).ext hx) (by omega);have ce:=fun (W:World) (hx:Ab W3 W)=>dT m.eds B d W ((HM.out.eds.ext hx3).ext hx) (by omega)
 have cf:=fun (W:World) (hx:Ab W3 W)=>(by
  have h1:=dU fa F g W ((HM.out.fac.ext hx3).ext hx) (by omega);rw [←HM.out.nf]at h1
  exact h1:Calls Tryz.prog 17 #[.slice F m.nf g] W (fun e w'=>∃v,e=.returned v/\w'.ownsRow W.heap.size 9 1 v m.nf (fa.map S)/\Ab W w'))
 clear Dm hM KZ hx2 hx3 pc1 Ap hin X1 X2
 go_cut [] (fun wx=>∃A B F c d g,S2 b7 w wx A B F c d g m fa)
 case first=>
  have g0:W3.cell? ⟨b7,0,none⟩=some (.slice A m.pts.length c):=Aa hb3 rfl;have g1:W3.cell? ⟨b7,1,none⟩=some (.slice B m.eds.length d):=Aa hb3 rfl;have g2:W3.cell? ⟨b7,2,none⟩=some (.slice F m.nf g):=Aa hb3 rfl;have SO:=fun (w':World) (h:Ab W3 w')=>(⟨h.cellS g0,h.cellS g1,h.cellS g2⟩:_/\_/\_);have X:Ab W3 W3.drew:=(Ab.refl W3).drew;refine AcP (T:=[10,11,12,13,14]) (S:=fun w'=>w'.cell? ⟨b7,0,none⟩=some (.slice A m.pts.length c)/\w'.cell? ⟨b7,1,none⟩=some (.slice B m.eds.length d)/\w'.cell? ⟨b7,2,none⟩=some (.slice F m.nf g)) (by kernel_rfl) (SO _ X) (fun hHeld=>?_);refine DO (i:=0) (v:=?_) rfl (by kernel_rfl) (fun _ _ _ h=>h) hHeld (by rfl) ?_ ?_
  rotate_left
  ·(intro w hSw;(try dsimp only at hSw);go_simp;try (with_reducible rfl))
  try simp only [Act.put,List.setIfInBounds_toArray,List.set_cons_zero,List.set_cons_succ]
  refine DO (i:=1) (v:=?_) rfl (by kernel_rfl) (fun _ _ _ h=>h) hHeld (by rfl) ?_ ?_
  rotate_left
  ·(intro w hSw;(try dsimp only at hSw);go_simp;try (with_reducible rfl))
  try simp only [Act.put,List.setIfInBounds_toArray,List.set_cons_zero,List.set_cons_succ]
  refine DO (i:=3) (v:=?_) rfl (by kernel_rfl) (fun _ _ _ h=>h) hHeld (by rfl) ?_ ?_
  rotate_left
  ·(intro w hSw;(try dsimp only at hSw);go_simp;try (with_reducible rfl))
  try simp only [Act.put,List.setIfInBounds_toArray,List.set_cons_zero,List.set_cons_succ]
  refine DO (i:=4) (v:=?_) rfl (by kernel_rfl) (fun _ _ _ h=>h) hHeld (by rfl) ?_ ?_
  rotate_left
  ·(intro w hSw;(try dsimp only at hSw);go_simp;try (with_reducible rfl))
  try simp only [Act.put,List.setIfInBounds_toArray,List.set_cons_zero,List.set_cons_succ]
  refine DO (i:=6) (v:=?_) rfl (by kernel_rfl) (fun _ _ _ h=>h) hHeld (by rfl) ?_ ?_
  rotate_left
  ·(intro w hSw;(try dsimp only at hSw);go_simp;try (with_reducible rfl))
  try simp only [Act.put,List.setIfInBounds_toArray,List.set_cons_zero,List.set_cons_succ]
  refine DO (i:=7) (v:=?_) rfl (by kernel_rfl) (fun _ _ _ h=>h) hHeld (by rfl) ?_ ?_
  rotate_left
  ·(intro w hSw;(try dsimp only at hSw);go_simp;try (with_reducible rfl))
  try simp only [Act.put,List.setIfInBounds_toArray,List.set_cons_zero,List.set_cons_succ]
  refine GU (i:=2) rfl (by kernel_rfl) (fun K hK=>?_)
  go_simp
  (with_reducible refine(cp _ X).mono ?_);rintro e w4 ⟨v1,rfl,o1,x4⟩;replace X:Ab W3 w4:=X.trans x4;refine hK.out _ _ (fun _=>SO _ X) (fun hH=>?_);have hHeld:=hH rfl;clear hK K hH
  try simp only [Act.put,List.setIfInBounds_toArray,List.set_cons_zero,List.set_cons_succ]
  refine DO (i:=9) (v:=?_) rfl (by kernel_rfl) (fun _ _ _ h=>h) hHeld (by rfl) ?_ ?_
  rotate_left
  ·(intro w hSw;(try dsimp only at hSw);go_simp;try (with_reducible rfl))
  try simp only [Act.put,List.setIfInBounds_toArray,List.set_cons_zero,List.set_cons_succ]
  refine GU (i:=5) rfl (by kernel_rfl) (fun K hK=>?_)
  go_simp
  (with_reducible refine(ce _ X).mono ?_);rintro e w5 ⟨v2,rfl,o2,x5⟩;have hs5:=X.size;replace X:Ab W3 w5:=X.trans x5;refine hK.out _ _ (fun _=>SO _ X) (fun hH=>?_);have hHeld:=hH rfl;clear hK K hH
  try simp only [Act.put,List.setIfInBounds_toArray,List.set_cons_zero,List.set_cons_succ]
  refine GU (i:=8) rfl (by kernel_rfl) (fun K hK=>?_)
  go_simp
  (with_reducible refine(cf _ X).mono ?_);rintro e w6 ⟨v3,rfl,o3,x6⟩;have YR:=X.size;replace X:Ab W3 w6:=X.trans x6;refine hK.out _ _ (fun _=>SO _ X) (fun hH=>?_);have hHeld:=hH rfl;clear hK K hH
  try simp only [Act.put,List.setIfInBounds_toArray,List.set_cons_zero,List.set_cons_succ]
  have Cz:=(X.block _ (Asy hb3)).trans hb3;have g0:=Aa (o:=0) Cz rfl;have g1:=Aa (o:=1) Cz rfl;have g2:=Aa (o:=2) Cz rfl;have f0:=Ah (o:=0) Cz;have f1:=Ah (o:=1) Cz;have f2:=Ah (o:=2) Cz;obtain⟨A4,c4,rfl⟩:=Fb (by omega) o1;obtain⟨B4,d4,rfl⟩:=Fb (by omega) o2;obtain⟨F4,g4,rfl⟩:=Fb (by omega) o3;refine GU (i:=10) rfl (by kernel_rfl) (fun K hK=>?_)
  go_simp
  refine hK.out _ _ (fun h=>by simp at h) (fun _=>?_);clear hK K
  try simp only [Act.put,List.setIfInBounds_toArray,List.set_cons_zero,List.set_cons_succ]
  refine GU (i:=11) rfl (by kernel_rfl) (fun K hK=>?_)
  go_simp
  refine hK.out _ _ (fun h=>by simp at h) (fun _=>?_);clear hK K
  try simp only [Act.put,List.setIfInBounds_toArray,List.set_cons_zero,List.set_cons_succ]
  refine GU (i:=12) rfl (by kernel_rfl) (fun K hK=>?_)
  go_simp
  refine hK.out _ _ (fun h=>by simp at h) (fun _=>?_);clear hK K
  try simp only [Act.put,List.setIfInBounds_toArray,List.set_cons_zero,List.set_cons_succ]
  refine GU (i:=13) rfl (by kernel_rfl) (fun K hK=>?_)
  go_simp
  refine hK.out _ _ (fun h=>by simp at h) (fun _=>?_);clear hK K
  try simp only [Act.put,List.setIfInBounds_toArray,List.set_cons_zero,List.set_cons_succ]
  refine GU (i:=14) rfl (by kernel_rfl) (fun K hK=>?_)
  go_simp
  refine hK.out _ _ (fun h=>by simp at h) (fun _=>?_);clear hK K
  try simp only [Act.put,List.setIfInBounds_toArray,List.set_cons_zero,List.set_cons_succ]
  refine yC (by kernel_rfl) ?_ _;go_wp2;go_meet;have l3:w.heap.size<=W3.heap.size:=BL.size;exact⟨A4,B4,F4,c4,d4,g4,⟨Dd _ _ _ Cz,⟨DN (Ef (An o1 (x5.trans x6)) l3) Cz (by decide) _ _ _,DN (Ef (An o2 x6) (AsA l3 hs5)) Cz (by decide) _ _ _,DN (Ef o3 (AsA l3 YR)) Cz (by decide) _ _ _,HM.out.nf⟩,CQ (BL.trans X) hlo _ _ _,hlo⟩⟩
 case rest=>
  obtain⟨A4,B4,F4,c4,d4,g4,hB⟩:=hcut;obtain⟨W4,QR⟩:=Asw wc;rw [←QR]at hB ⊢;clear QR cp ce cf hb3 BL;have HB:=Asx hB;have g1:W4.cell? ⟨b7,1,none⟩=some (.slice B4 m.eds.length d4):=Aa hB.blk rfl;obtain⟨n,hn⟩:=Asw m.eds.length;have HN:=Asx hn;rw [←hn]at g1;clear hB hn;by_cases h0:n=0
  ·subst h0;go_wp2;go_ret;exact⟨rfl,HB.out.ext⟩
  ·have DL:((n:Int) == 0)=false:=(by rw [beq_eq_false_iff_ne];omega);obtain⟨i,hi⟩:=Asw (k%n);have hin:i<n:=(by rw [hi];exact Nat.mod_lt _ (by omega));have r1:((k:Int)).tmod (n:Int)=(i:Int):=(by rw [Int.tmod_eq_emod_of_nonneg (by omega),hi];exact(Int.natCast_emod k n).symm);obtain⟨q,hq⟩:=Asw (h%4);have Oc:q<4:=(by omega);have r2:((h:Int)).tmod 4=(q:Int):=(by rw [Int.tmod_eq_emod_of_nonneg (by omega)];omega);have u2:IntKind.u8.wrap (q:Int)=(q:Int):=IntWalk.u8_in _ (by omega);clear hi hq
   go_upto_block 0 with fail
   clear r1 r2 u2 g1
   go_cut [] (fun wx=>Qv b7 w wx)
   case first=>
    obtain rfl|rfl|rfl|rfl:q=0∨q=1∨q=2∨q=3:=by omega
    ·have g1:W4.cell? ⟨b7,1,none⟩=some (.slice B4 m.eds.length d4):=Aa HB.out.blk rfl;rw [←HN.out]at g1;have CM:i<m.eds.length:=by rw [←HN.out];exact hin
     obtain⟨gE,rfl⟩:∃gE,B4=some ⟨gE,0,none⟩:=by
      rcases HB.out.own.eds.2 with⟨h',_⟩|⟨g,cap,cur,hv,_⟩
      ·simp only [Value.slice.injEq]at h';omega
      ·cases hv;exact⟨g,rfl⟩
     have ho:=HB.out.own.eds;obtain⟨Hi,Iy,Hj,Hk⟩:=Nw m.eds i CM;have e2:=(ho.cellAt (i*4+2) (by omega)).trans Hj;have e3:=(ho.cellAt (i*4+3) (by omega)).trans Hk;have f2:=ho.frozenAt (i*4+2);have f3:=ho.frozenAt (i*4+3);have hne:b7≠gE:=fun e=>Av ho HB.out.blk (by decide) (by rw [e];rfl);have YH:gE≠b7:=fun e=>hne e.symm;have EW:(0:Int)<=(i:Int):=(by omega);have Lc:(i:Int)<(n:Int):=(by omega);obtain⟨y,hy⟩:=Asw (m.eds[i]);rw [←hy]at e2 e3;have HY:=Asx hy;clear Hi Iy Hj Hk hy ho
     go_upto_region 10 with fail
     go_region
     all_goals go_wp2
     all_goals go_meet
     have hst:=AoW HB.out CM IL.out hw;rw [←HY.out]at hst;exact hst
    ·have g0:W4.cell? ⟨b7,0,none⟩=some (.slice A4 m.pts.length c4):=Aa HB.out.blk rfl;have g1:W4.cell? ⟨b7,1,none⟩=some (.slice B4 m.eds.length d4):=Aa HB.out.blk rfl;rw [←HN.out]at g1;have CM:i<m.eds.length:=by rw [←HN.out];exact hin
     obtain⟨gE,rfl⟩:∃gE,B4=some ⟨gE,0,none⟩:=by
      rcases HB.out.own.eds.2 with⟨h',_⟩|⟨g,cap,cur,hv,_⟩
      ·simp only [Value.slice.injEq]at h';omega
      ·cases hv;exact⟨g,rfl⟩
     have ho:=HB.out.own.eds;obtain⟨Hi,Iy,Hj,Hk⟩:=Nw m.eds i CM;have e0:=(ho.cellAt (i*4) (by omega)).trans Hi;obtain⟨hf0,I6⟩:=SC.out _ (As1 CM);obtain⟨j,hj⟩:∃j:Nat,m.eds[i].f=(j:Int):=⟨m.eds[i].f.toNat,by omega⟩;rw [hj]at e0 hf0 I6;have ny:j<m.pts.length:=by omega
     obtain⟨gP,rfl⟩:∃gP,A4=some ⟨gP,0,none⟩:=by
      rcases HB.out.own.pts.2 with⟨h',_⟩|⟨g,cap,cur,hv,_⟩
      ·simp only [Value.slice.injEq]at h';omega
      ·cases hv;exact⟨g,rfl⟩
     have hop:=HB.out.own.pts;obtain⟨f1,f2⟩:=flat_get (Ag m.pts) j (by unfold Ag;rw [List.length_map];exact ny);have p0:=(hop.cellAt (j*2) (by omega)).trans f1;have q0:=hop.frozenAt (j*2);have EW:(0:Int)<=(i:Int):=(by omega);have Lc:(i:Int)<(n:Int):=(by omega);obtain⟨np,Ka⟩:=Asw m.pts.length;rw [←Ka]at g0 I6;clear Hi Iy Hj Hk ho hop f1 f2 hj Ka
     go_upto_region 12 with fail
     go_region
     all_goals go_wp2
     all_goals go_meet
     exact AoU HB.out ny IL.out hw
    ·have g1:W4.cell? ⟨b7,1,none⟩=some (.slice B4 m.eds.length d4):=Aa HB.out.blk rfl;have CM:i<m.eds.length:=by rw [←HN.out];exact hin
     obtain⟨gE,rfl⟩:∃gE,B4=some ⟨gE,0,none⟩:=by
      rcases HB.out.own.eds.2 with⟨h',_⟩|⟨g,cap,cur,hv,_⟩
      ·simp only [Value.slice.injEq]at h';omega
      ·cases hv;exact⟨g,rfl⟩
     have de:=AgG w.heap.size m.eds gE d4 i W4 HB.out.own.eds CM (by omega);have hw1:IntKind.i64.wrap ((i:Int)+1)=(i:Int)+1:=As6 _ (by omega)
     go_upto_region 14 with fail
     (go_wp2_with fail);(with_reducible refine de.mono ?_);rintro e w5 ⟨rfl,h5,Co⟩;obtain⟨hb5,hst⟩:=AoV HB.out CM IL.out hw h5 Co;have y1:=Aa (o:=1) hb5 rfl;have y2:=Ah (o:=1) hb5;clear de g1 h5 Co;go_wp2;go_meet;exact hst
    ·have g1:W4.cell? ⟨b7,2,none⟩=some (.slice F4 m.nf g4):=Aa HB.out.blk rfl;have BS:m.nf<200000:=(by have:=HM.out.nf;omega);have Bz:=HB.out.ext.size
     go_upto_region 16 with fail
     go_wp2_with (at_builtin;go_loud (refine Afn rfl _ _ rfl _ w.heap.size (.slice F4 m.nf g4) m.nf fa rfl (An HB.out.own.fac ((Ab.refl W4).alloc _)) BS [122] W4.heap.size (Asz _ _) rfl (AsA Bz ((Ab.refl W4).alloc _).size) ?_);intro v9 w9 h9 Df AP;obtain⟨F9,g9,rfl,Dn,hst⟩:=AoT HB.out ((Ab.refl W4).alloc _) IL.out hw h9 Df AP;have y5:=Ah (o:=2) Dn;have y6:=Aa (o:=2) Dn rfl)
     go_meet;exact hst
   case rest=>
    obtain⟨A5,B5,F5,n1,c5,n2,d5,n3,g5,z,hb5,pk,As⟩:=hcut;obtain⟨W5,Ht⟩:=Asw wc;rw [←Ht]at hb5 pk As ⊢;clear Ht HB HN HM IL SC;have g0:W5.cell? ⟨b7,0,none⟩=some (.slice A5 n1 c5):=Aa hb5 rfl;have g1:W5.cell? ⟨b7,1,none⟩=some (.slice B5 n2 d5):=Aa hb5 rfl;have g2:W5.cell? ⟨b7,2,none⟩=some (.slice F5 n3 g5):=Aa hb5 rfl;have p1:=pk W5 (Ab.refl W5);(go_wp2_with fail);(with_reducible refine p1.mono ?_);rintro e w6 ⟨rfl,AX⟩;replace hb5:=(AX.block _ (Asy hb5)).trans hb5;have hx:=As.trans AX;replace pk:=fun W (h:Ab w6 W)=>pk W (AX.trans h);clear p1 g0 g1 g2 AX As
    cases hz:(z != 0)
    ·have hz0:(z == 0)=true:=(by simpa using hz);clear hz pk;go_wp2;go_ret;exact⟨rfl,hx⟩
    ·have hz0:(z == 0)=false:=(by simpa using hz);have hzz:(z == z)=true:=(by simp);have Qx:=fun (W:World) (hW:Ab w6 W)=>Afu A5 B5 F5 n1 c5 n2 d5 n3 g5 1 (R 0,R 0) ([],[]) ([],[]) [] z hz W (fun W' h'=>pk W' (hW.trans h'));have Tw:=fun (W:World) (hW:Ab w6 W)=>AfB A5 B5 F5 n1 c5 n2 d5 n3 g5 1 (R 0,R 0) ([],[]) ([],[]) [] z hz W (fun W' h'=>Qx W' (hW.trans h'));have cL:=fun (W:World) (hW:Ab w6 W)=>Aft A5 B5 F5 n1 c5 n2 d5 n3 g5 z hz W (fun W' h'=>pk W' (hW.trans h'));have opm:=fun (W:World) (hW:Ab w6 W)=>Am7 A5 B5 F5 n1 c5 n2 d5 n3 g5 z hz W (fun W' h'=>pk W' (hW.trans h'));have em:=fun W=>Ahc W;unfold J0 at Qx cL em;unfold zeroE at Tw;unfold JE at Qx Tw
     dsimp only at Qx Tw
     have Tr:=Tu 0 0 (by decide) (by decide) 0 0 rfl rfl w6 (hw.ext hx);clear hz pk;(go_wp2_with fail);(with_reducible refine Tr.mono ?_);rintro e w7 ⟨rfl,x7⟩;have hE:=Asz w7 (.cells #[.int .i64 1,S (R 0),S (R 0),S [],S [],S [],S [],S []] 26);have x8:=(Ab.refl w7).alloc (.cells #[.int .i64 1,S (R 0),S (R 0),S [],S [],S [],S [],S []] 26)
     go_upto_region 21 with fail
     generalize w7.alloc (.cells #[.int .i64 1,S (R 0),S (R 0),S [],S [],S [],S [],S []] 26)=w8 at *;obtain⟨bE,Uu⟩:=Asw w7.heap.size;rw [←Uu]at hE ⊢;have X:=x7.trans x8;replace hb5:=(X.block _ (Asy hb5)).trans hb5;clear Uu x7 x8 Tr;have m0:w8.cell? ⟨b7,0,none⟩=some (.slice A5 n1 c5):=Aa hb5 rfl;have m1:w8.cell? ⟨b7,1,none⟩=some (.slice B5 n2 d5):=Aa hb5 rfl;have m2:w8.cell? ⟨b7,2,none⟩=some (.slice F5 n3 g5):=Aa hb5 rfl;have q0:w8.cell? ⟨bE,0,none⟩=some (.int .i64 1):=Aa hE rfl;have q1:w8.cell? ⟨bE,1,none⟩=some (S (R 0)):=Aa hE rfl;have q2:w8.cell? ⟨bE,2,none⟩=some (S (R 0)):=Aa hE rfl;have q3:w8.cell? ⟨bE,3,none⟩=some (S []):=Aa hE rfl;have q4:w8.cell? ⟨bE,4,none⟩=some (S []):=Aa hE rfl;have q5:w8.cell? ⟨bE,5,none⟩=some (S []):=Aa hE rfl;have q6:w8.cell? ⟨bE,6,none⟩=some (S []):=Aa hE rfl;have q7:w8.cell? ⟨bE,7,none⟩=some (S []):=Aa hE rfl;have c1:=Qx w8 X;(go_wp2_with fail);(with_reducible refine c1.mono ?_);rintro e w9 ⟨rfl,x1⟩;have hA:=Asz w9 (.cells #[.slice none 0 0,.slice none 0 0,.slice none 0 0] 35);have x2:=(Ab.refl w9).alloc (.cells #[.slice none 0 0,.slice none 0 0,.slice none 0 0] 35)
     go_upto_region 22 with fail
     generalize w9.alloc (.cells #[.slice none 0 0,.slice none 0 0,.slice none 0 0] 35)=w10 at *;obtain⟨bhA,iz⟩:=Asw w9.heap.size;rw [←iz]at hA ⊢;have xx:=x1.trans x2;clear iz x1 x2;clear m0 m1 m2 q0 q1 q2 q3 q4 q5 q6 q7;replace X:=X.trans xx;replace hb5:=(xx.block _ (Asy hb5)).trans hb5;replace hE:=(xx.block _ (Asy hE)).trans hE;clear xx c1;have m0:w10.cell? ⟨b7,0,none⟩=some (.slice A5 n1 c5):=Aa hb5 rfl;have m1:w10.cell? ⟨b7,1,none⟩=some (.slice B5 n2 d5):=Aa hb5 rfl;have m2:w10.cell? ⟨b7,2,none⟩=some (.slice F5 n3 g5):=Aa hb5 rfl;have c1:=cL w10 X;(go_wp2_with fail);(with_reducible refine c1.mono ?_);rintro e w11 ⟨rfl,x1⟩;have hL:=Asz w11 (.cells #[.slice none 0 0,.slice none 0 0,.slice none 0 0] 35);have x2:=(Ab.refl w11).alloc (.cells #[.slice none 0 0,.slice none 0 0,.slice none 0 0] 35)
     go_upto_region 23 with fail
     generalize w11.alloc (.cells #[.slice none 0 0,.slice none 0 0,.slice none 0 0] 35)=Cu at *;obtain⟨bhL,jb⟩:=Asw w11.heap.size;rw [←jb]at hL ⊢;have xx:=x1.trans x2;clear jb x1 x2;clear m0 m1 m2;replace X:=X.trans xx;replace hb5:=(xx.block _ (Asy hb5)).trans hb5;replace hE:=(xx.block _ (Asy hE)).trans hE;replace hA:=(xx.block _ (Asy hA)).trans hA;clear xx c1;have m0:Cu.cell? ⟨b7,0,none⟩=some (.slice A5 n1 c5):=Aa hb5 rfl;have m1:Cu.cell? ⟨b7,1,none⟩=some (.slice B5 n2 d5):=Aa hb5 rfl;have m2:Cu.cell? ⟨b7,2,none⟩=some (.slice F5 n3 g5):=Aa hb5 rfl;have q0:Cu.cell? ⟨bE,0,none⟩=some (.int .i64 1):=Aa hE rfl;have q1:Cu.cell? ⟨bE,1,none⟩=some (S (R 0)):=Aa hE rfl;have q2:Cu.cell? ⟨bE,2,none⟩=some (S (R 0)):=Aa hE rfl;have q3:Cu.cell? ⟨bE,3,none⟩=some (S []):=Aa hE rfl;have q4:Cu.cell? ⟨bE,4,none⟩=some (S []):=Aa hE rfl;have q5:Cu.cell? ⟨bE,5,none⟩=some (S []):=Aa hE rfl;have q6:Cu.cell? ⟨bE,6,none⟩=some (S []):=Aa hE rfl;have q7:Cu.cell? ⟨bE,7,none⟩=some (S []):=Aa hE rfl;have c1:=Tw Cu X;(go_wp2_with fail);(with_reducible refine c1.mono ?_);rintro e Ii ⟨rfl,x1⟩;have hK:=Asz Ii (.cells #[.int .i64 0,S [],S [],S [],S [],S [],S [],S []] 26);have x2:=(Ab.refl Ii).alloc (.cells #[.int .i64 0,S [],S [],S [],S [],S [],S [],S []] 26)
     go_upto_region 24 with fail
     generalize Ii.alloc (.cells #[.int .i64 0,S [],S [],S [],S [],S [],S [],S []] 26)=w14 at *;obtain⟨bhK,ja⟩:=Asw Ii.heap.size;rw [←ja]at hK ⊢;have xx:=x1.trans x2;clear ja x1 x2;clear m0 m1 m2 q0 q1 q2 q3 q4 q5 q6 q7;replace X:=X.trans xx;replace hb5:=(xx.block _ (Asy hb5)).trans hb5;replace hE:=(xx.block _ (Asy hE)).trans hE;replace hA:=(xx.block _ (Asy hA)).trans hA;replace hL:=(xx.block _ (Asy hL)).trans hL;clear xx c1;have m0:w14.cell? ⟨b7,0,none⟩=some (.slice A5 n1 c5):=Aa hb5 rfl;have m1:w14.cell? ⟨b7,1,none⟩=some (.slice B5 n2 d5):=Aa hb5 rfl;have m2:w14.cell? ⟨b7,2,none⟩=some (.slice F5 n3 g5):=Aa hb5 rfl;have c1:=opm w14 X;(go_wp2_with fail);(with_reducible refine c1.mono ?_);rintro e w15 ⟨rfl,x1⟩
     go_upto_region 25 with fail
     have xx:=x1;clear x1;clear m0 m1 m2;replace X:=X.trans xx;replace hA:=(xx.block _ (Asy hA)).trans hA;replace hL:=(xx.block _ (Asy hL)).trans hL;replace hK:=(xx.block _ (Asy hK)).trans hK;clear xx c1;clear hb5 hE Qx cL Tw opm;have y0:=Aa (o:=0) hA rfl;have y1:=Aa (o:=1) hA rfl;have y2:=Aa (o:=2) hA rfl;have e1:=em w15;(go_wp2_with fail);(with_reducible refine e1.mono ?_);rintro e w16 ⟨rfl,x1⟩;replace X:=X.trans x1;replace hL:=(x1.block _ (Asy hL)).trans hL;replace hK:=(x1.block _ (Asy hK)).trans hK;clear y0 y1 y2 e1 hA x1;have y0:=Aa (o:=0) hL rfl;have y1:=Aa (o:=1) hL rfl;have y2:=Aa (o:=2) hL rfl;have e1:=em w16;(go_wp2_with fail);(with_reducible refine e1.mono ?_);rintro e w17 ⟨rfl,x1⟩;replace X:=X.trans x1;replace hK:=(x1.block _ (Asy hK)).trans hK;clear y0 y1 y2 e1 hL x1 em;have d0:=Aa (o:=0) hK rfl;have d1:=Aa (o:=1) hK rfl;have d2:=Aa (o:=2) hK rfl;have d3:=Aa (o:=3) hK rfl;have d4:=Aa (o:=4) hK rfl;have d5:=Aa (o:=5) hK rfl;have d6:=Aa (o:=6) hK rfl;have d7:=Aa (o:=7) hK rfl;go_wp2;go_ret;exact⟨rfl,hx.trans X⟩
end Go.Proofs.YtnddllipjippnaaGreatDoor
