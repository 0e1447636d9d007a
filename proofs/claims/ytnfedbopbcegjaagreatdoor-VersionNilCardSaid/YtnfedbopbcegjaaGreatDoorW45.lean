/- W45. -/
import Derived.Test.YtnfedbopbcegjaaGreatDoorW44
import Derived.Sort.KeysCollected
set_option maxRecDepth 100000
set_option maxHeartbeats 8000000
namespace Go.Proofs.YtnfedbopbcegjaaGreatDoor
open Go.RowKit Kl
theorem ZN:∀p∈Af.pts,Da p:=(S0 Sy).2
theorem We:GF Af=0:=(S0 Sy).1
theorem Age(a u:UInt8)(A Bk F:Option Addr)(c d g:Nat){B:Nat}{V w:World}(hw:Ak w)(hV:Aa V w)(_:B<=w.heap.size)(hBV:V.heap.size<=B)(hm:Eu B w A Bk F c d g Af [[a],[98]]) :
  Calls Tryz.prog 88 #[AE A Bk F Af c d g,Hr 1 (R (1/2),R (1/2)) ([],[]) ([],[]) [u]] w (eD B V w Af [[u],[98]]):=by
 obtain⟨gF,rfl,Tk⟩:∃gF,F=some ⟨gF,0,none⟩/\∃cur,w.heap[gF]?=some (.cells cur 9):=by
  rcases hm.fac.2 with⟨h',_⟩|⟨g',cap,cur,hv,_,hgb,_⟩
  ·simp only [Value.slice.injEq]at h';exact absurd h'.2.1 (by decide)
  ·simp only [Value.slice.injEq]at hv;obtain⟨rfl,-,-⟩:=hv;exact⟨g',rfl,cur,hgb⟩
 obtain⟨cur,Tk⟩:=Tk;obtain⟨hM,hE,hR,hX⟩:=bj w (.cells #[.slice A 6 c,.slice Bk 7 d,.slice (some ⟨gF,0,none⟩) 2 g] 44) (.cells #[.int .i64 1,S (R (1/2)),S (R (1/2)),S [],S [],S [],S [],S [u]] 35) (.cells #[.slice none 0 0,.slice none 0 0,.slice none 0 0] 44);obtain⟨h1,h2,h3,h4,-⟩:=hm.rd;have lc:=fun W (hx:Aa w W)=>(by exact AdW Af ⟨1/2,1/2⟩ 0 AdV A Bk (some ⟨gF,0,none⟩) c d g h1 W (hw.ext hx) (h2.ext hx) (h3.ext hx):Calls Tryz.prog 155 #[.agg #[.slice A 6 c,.slice Bk 7 d,.slice (some ⟨gF,0,none⟩) 2 g],.agg #[S (R (1/2)),S (R (1/2))]] W (Cp (.tuple #[.int .i64 0,.bool true,.int .i64 0]) W));have HM:=AjK hm;show Calls Tryz.prog 88 #[.agg #[.slice A 6 c,.slice Bk 7 d,.slice (some ⟨gF,0,none⟩) 2 g],.agg #[.int .i64 1,S (R (1/2)),S (R (1/2)),S [],S [],S [],S [],S [u]]] w _;clear hm h1 h2 h3 h4;go_enter Tryz.func88,Tryz.ntmps88
 go_upto_region 1 with fail
 generalize ((w.alloc (.cells #[.slice A 6 c,.slice Bk 7 d,.slice (some ⟨gF,0,none⟩) 2 g] 44)).alloc (.cells #[.int .i64 1,S (R (1/2)),S (R (1/2)),S [],S [],S [],S [],S [u]] 35)).alloc (.cells #[.slice none 0 0,.slice none 0 0,.slice none 0 0] 44)=w3 at *;obtain⟨bm,AX⟩:=AjJ w.heap.size;have hlo:w.heap.size<=bm+1+1:=(by omega);rw [←AX]at hM hE hR ⊢;clear AX;have k0:w3.cell? ⟨bm,0,none⟩=some (.slice A 6 c):=Ab hM rfl;have k1:w3.cell? ⟨bm,1,none⟩=some (.slice Bk 7 d):=Ab hM rfl;have k2:w3.cell? ⟨bm,2,none⟩=some (.slice (some ⟨gF,0,none⟩) 2 g):=Ab hM rfl;have x1:w3.cell? ⟨bm+1,1,none⟩=some (S (R (1/2))):=Ab hE rfl;have x2:w3.cell? ⟨bm+1,2,none⟩=some (S (R (1/2))):=Ab hE rfl;have l1:=lc w3 hX;(go_wp2_with fail);(with_reducible refine l1.mono ?_);rintro e w4 ⟨rfl,Aj⟩;replace hX:=hX.trans Aj;replace hM:=(Aj.block _ (AjL hM)).trans hM;replace hE:=(Aj.block _ (AjL hE)).trans hE;replace hR:=(Aj.block _ (AjL hR)).trans hR;have JD:=(hX.block _ (AjL Tk)).trans Tk;have IX:=Am HM.out.fac hX;have p0:w4.cell? ⟨gF,0,none⟩=some (S [a]):=(IX.cellAt 0 (by decide)).trans rfl;have p1:=IX.frozenAt 0;clear k0 k1 k2 x1 x2 l1 lc Aj;have k2:w4.cell? ⟨bm,2,none⟩=some (.slice (some ⟨gF,0,none⟩) 2 g):=Ab hM rfl;have x7:w4.cell? ⟨bm+1,7,none⟩=some (S [u]):=Ab hE rfl
 go_upto_region 7 with fail
 have qP:=(IX.stored 0 (S [u])).1;have IM:=aQ (v:=S [u]) JD hM (by decide);have FC:=aQ (v:=S [u]) JD hR (by decide);have qU:(w4.setCell ⟨gF,0,none⟩ (S [u])).ownsRow B 28 2 (.slice A 6 c) 6 (flat (Aq Af.pts)):=Bf (Am HM.out.pts hX) ((Al.refl (fun q=>q=gF) w4).setCell (p:=⟨gF,0,none⟩) (.inl rfl) _) (fun k hk e=>Ap (Am HM.out.pts hX) JD (by decide) (by rw [←e];exact hk));have qO:(w4.setCell ⟨gF,0,none⟩ (S [u])).ownsRow B 119 4 (.slice Bk 7 d) 7 (AA Af.eds):=Bf (Am HM.out.eds hX) ((Al.refl (fun q=>q=gF) w4).setCell (p:=⟨gF,0,none⟩) (.inl rfl) _) (fun k hk e=>Ap (Am HM.out.eds hX) JD (by decide) (by rw [←e];exact hk));have pS:∀(j:Nat) (cs:Array Value),w.heap[j]?=some (.cells cs 44)→(w4.setCell ⟨gF,0,none⟩ (S [u])).heap[j]?=some (.cells cs 44):=fun j cs hj=>aQ (v:=S [u]) JD ((hX.block _ (AjL hj)).trans hj) (by decide);have sX:Aa V (w4.setCell ⟨gF,0,none⟩ (S [u])):=(hV.trans hX).setCell (p:=⟨gF,0,none⟩) (AjX hBV (IX.lt gF rfl).1) _;generalize w4.setCell ⟨gF,0,none⟩ (S [u])=w5 at *;have k0:w5.cell? ⟨bm,0,none⟩=some (.slice A 6 c):=Ab IM rfl;have k1:w5.cell? ⟨bm,1,none⟩=some (.slice Bk 7 d):=Ab IM rfl;have k2:w5.cell? ⟨bm,2,none⟩=some (.slice (some ⟨gF,0,none⟩) 2 g):=Ab IM rfl;have g0:=Ab (o:=0) FC rfl;have g1:=Ab (o:=1) FC rfl;have g2:=Ab (o:=2) FC rfl;have f0:=Ao (o:=0) FC;have f1:=Ao (o:=1) FC;have f2:=Ao (o:=2) FC;have AZ:=GB (.slice A 6 c) (.slice Bk 7 d) (.slice (some ⟨gF,0,none⟩) 2 g) FC;have t1:=Ab (o:=0) AZ rfl;have t2:=Ab (o:=1) AZ rfl;have t3:=Ab (o:=2) AZ rfl;have HO:=AjK (show Eu B (((w5.setCell ⟨bm+1+1,0,none⟩ (.slice A 6 c)).setCell ⟨bm+1+1,1,none⟩ (.slice Bk 7 d)).setCell ⟨bm+1+1,2,none⟩ (.slice (some ⟨gF,0,none⟩) 2 g)) A Bk (some ⟨gF,0,none⟩) c d g Af [[u],[98]] from⟨Ki qU FC (by decide) _ _ _,Ki qO FC (by decide) _ _ _,Ki qP FC (by decide) _ _ _,rfl⟩);have HX:=AjK (And.intro (J7 sX (AjX hV.size hlo) (.slice A 6 c) (.slice Bk 7 d) (.slice (some ⟨gF,0,none⟩) 2 g)) pS);have HS:=AjK hlo;clear AZ IM FC qU qO qP pS sX hM hE hR hX hlo IX JD;go_wp2;refine bodyPost_ret (v:=.tuple #[.agg #[.slice A 6 c,.slice Bk 7 d,.slice (some ⟨gF,0,none⟩) 2 g],.int .i64 0]) (by simp [results,Tryz.results88,go_sem,t1,t2,t3]) rfl ?_;refine⟨A,Bk,some ⟨gF,0,none⟩,c,d,g,rfl,HO.out,HX.out.1,fun j cs hj=>?_⟩;have hlt:=AjL hj;have hlo:=HS.out;rw [B7 (by show j≠bm+1+1;omega),B7 (by show j≠bm+1+1;omega),B7 (by show j≠bm+1+1;omega)];exact HX.out.2 j cs hj
theorem Agz(u:UInt8)(hu:nameB [u]=true)(w:World)(hw:Ak w):Calls Tryz.prog 87 #[Hr 1 (R (1/2),R (1/2)) ([],[]) ([],[]) [u]] w (AB 0 w):=by
 have o1:CP (R (1/2)):=UM (by decide +kernel) (by decide +kernel);have h:=Ag1 (R (1/2),R (1/2)) ([],[]) ([],[]) [u] ⟨by decide +kernel,by decide +kernel,by decide +kernel,by decide +kernel,by decide +kernel,by decide +kernel,by simp⟩ w hw
 have e:Wg 1 (R (1/2),R (1/2)) ([],[]) ([],[]) [u]=0:=by rw [gW];have p0:Is (R (1/2),R (1/2))=true:=(vQ _).2 ⟨o1,o1⟩;simp [p0,hu,IK]
 rw [e]at h;exact h
theorem qd(a u:UInt8)(hu:nameB [u]=true)(NB:u=97∨u=99∨u=100)(A B F:Option Addr)(c d g:Nat)(w:World)(hw:Ak w)(A7:Cf Af c d g)(hA:Ad w A (flat (Aq Af.pts)))(hB:Ad w B (AA Af.eds))(hF:Ad w F ([[a],[98]].map S)) :
  Calls Tryz.prog 45 #[AE A B F Af c d g,Hr 1 (R (1/2),R (1/2)) ([],[]) ([],[]) [u]] w (OT w Af [[u],[98]]):=by
 have h:=qp Af Af [[a],[98]] [[u],[98]] rfl ZN We (by decide) (by decide) (by simp) Sy rfl (by simp) (R (1/2)) (R (1/2)) [u] w hw (fun W hx=>Agz u hu W (hw.ext hx))
  (fun V W A B F c d g hx hx2 ho=>Age a u A B F c d g (hw.ext (hx.trans hx2)) hx2 hx2.size (AjN _) ho) A B F c d g A7 hA hB hF
 rw [(S1 u NB).1,(S1 u NB).2]at h;exact h
def CC(a1 u:Bs):List Value:=[.int .i64 1,S (a1),S (a1),S [],S [],S [],S [],S u]
theorem AfX{a1 u:Bs}{w:World}{A:Option Addr}{n:Nat}(hr:Ad w A (Fv (CC a1 u) n)){j:Nat}(h:j<n):∃b o,A=some ⟨b,o,none⟩/\w.cell? ⟨b,o+j*8,none⟩=some (.int .i64 1)/\w.cell? ⟨b,o+j*8+1,none⟩=some (S (a1))/\w.cell? ⟨b,o+j*8+2,none⟩=some (S (a1))/\w.cell? ⟨b,o+j*8+3,none⟩=some (S [])/\w.cell? ⟨b,o+j*8+4,none⟩=some (S [])/\w.cell? ⟨b,o+j*8+5,none⟩=some (S [])/\w.cell? ⟨b,o+j*8+6,none⟩=some (S [])/\w.cell? ⟨b,o+j*8+7,none⟩=some (S u):=by
 have hl:(Fv (CC a1 u) n).length=n*8:=xW (CC a1 u) n;obtain⟨b,o,e,hcs⟩:=hr.ad (by omega)
 have key:∀i v,i<8→(CC a1 u)[i]?=some v→w.cell? ⟨b,o+j*8+i,none⟩=some v:=by intro i v hi hv;have h1:=hcs (j*8+i) (by omega);have h2:=xU (CC a1 u) n j i h hi;rw [show (CC a1 u).length=8 from rfl,hv,AjS (by omega),AjR]at h2;rw [h2,←Nat.add_assoc]at h1;exact h1
 exact⟨b,o,e,key 0 _ (by omega) rfl,key 1 _ (by omega) rfl,key 2 _ (by omega) rfl,key 3 _ (by omega) rfl,key 4 _ (by omega) rfl,key 5 _ (by omega) rfl,key 6 _ (by omega) rfl,key 7 _ (by omega) rfl⟩
theorem qq(m:MapZ)(a1 u:Bs)(fs:Nat→List Bs)(n:Nat)(EB:1<=n)(hn:n<=100)(w:World)
  (hap:∀(j:Nat) (W:World) (A B F:Option Addr) (c d g:Nat),j<n→Aa w W→Cf m c d g→Ad W A (flat (Aq m.pts))→Ad W B (AA m.eds)→Ad W F ((fs j).map S)→Calls Tryz.prog 45 #[AE A B F m c d g,Hr 1 (a1,a1) ([],[]) ([],[]) u] W (OT W m (fs (j+1))))
  (A B F:Option Addr) (c d g:Nat) (Ie:∀(W:World),Aa w W→Calls Tryz.prog 44 #[AE A B F m c d g] W (AB 0 W))
  (A7:Cf m c d g) (hA:Ad w A (flat (Aq m.pts))) (hB:Ad w B (AA m.eds)) (hF:Ad w F ((fs 0).map S)) (L:Option Addr) (k:Nat) (hL:Ad w L (Fv (CC a1 u) n)) :
  Calls Tryz.prog 23 #[AE A B F m c d g,.slice L n k] w (bX w m (fs n)):=by
 obtain⟨hM,hR,hX⟩:=Ahp w (.cells #[.slice A m.pts.length c,.slice B m.eds.length d,.slice F m.nf g] 44) (.cells #[.slice none 0 0,.slice none 0 0,.slice none 0 0] 44);unfold AE Hr at hap;unfold AE at Ie ⊢;have MH:(n:Int)<=100:=(by omega);have CW:(1:Int)<=(n:Int):=(by omega);have H9:¬(n:Int)=0:=(by omega);go_enter Tryz.func23,Tryz.ntmps23
 go_upto_region 1 with fail
 generalize (w.alloc (.cells #[.slice A m.pts.length c,.slice B m.eds.length d,.slice F m.nf g] 44)).alloc (.cells #[.slice none 0 0,.slice none 0 0,.slice none 0 0] 44)=V at *;obtain⟨bm,AX⟩:=AjJ w.heap.size;have hB2:w.heap.size<=bm:=(by omega);rw [←AX]at hM hR ⊢;clear AX;have k0:V.cell? ⟨bm,0,none⟩=some (.slice A m.pts.length c):=Ab hM rfl;have k1:V.cell? ⟨bm,1,none⟩=some (.slice B m.eds.length d):=Ab hM rfl;have k2:V.cell? ⟨bm,2,none⟩=some (.slice F m.nf g):=Ab hM rfl;have p1:=Ie V hX;(go_wp2_with fail);(with_reducible refine p1.mono ?_);rintro e w1 ⟨rfl,hx1⟩;have BA:=hX.trans hx1;have Bi:=(hx1.block _ (AjL hM)).trans hM;have hR1:=(hx1.block _ (AjL hR)).trans hR;have HS:=AjK (And.intro Bi (And.intro A7 (And.intro (hA.ext BA) (And.intro (hB.ext BA) (And.intro (hF.ext BA) (And.intro hR1 (And.intro BA (fun (h:0<0)=>absurd h (Nat.lt_irrefl 0):0<0→KH w1 A B F))))))));clear p1 Ie k0 k1 k2 hM hR hX hx1 Bi hR1 A7 hA hB hF BA;go_wp2;have hd:((n:Int) == 0)=false:=by rw [beq_eq_false_iff_ne];exact H9
 (try simp only [hd])
 go_loopw [6,32] (fun v6 iv wr=>∃(j:Nat) (A B F:Option Addr) (c d g:Nat),iv=.int .i64 (j:Nat)/\j<=n/\v6=.int .i64 0/\wr.heap[bm]?=some (.cells #[.slice A m.pts.length c,.slice B m.eds.length d,.slice F m.nf g] 44)/\Cf m c d g/\Ad wr A (flat (Aq m.pts))/\Ad wr B (AA m.eds)/\Ad wr F ((fs j).map S)/\wr.heap[bm+1]?=some (.cells #[.slice none 0 0,.slice none 0 0,.slice none 0 0] 44)/\Aa w wr/\(0<j→KH wr A B F)) (fun _ iv _=>n-(intOf iv).toNat)
 case atStart=>exact⟨0,A,B,F,c,d,g,rfl,Nat.zero_le _,rfl,HS.out⟩
 case round=>
  clear HS;obtain⟨j,A,B,F,c,d,g,rfl,hj,rfl,hM,A7,hA,hB,hF,hR,hX,CN⟩:=hrel;have hj0:(0:Int)<=(j:Int):=(by omega);have Uc:(j:Int)<=(n:Int):=(by omega);by_cases hlt:j<n
  ·have Ay:(j:Int)<(n:Int):=(by omega);obtain⟨bl,ol,rfl,l0,l1,l2,l3,l4,l5,l6,l7⟩:=AfX (hL.ext hX) hlt;have xq:=(Aa.refl wr).alloc (.cells #[.int .i64 1,S (a1),S (a1),S [],S [],S [],S [],S u] 35);have hq:=AjM wr (.cells #[.int .i64 1,S (a1),S (a1),S [],S [],S [],S [],S u] 35)
   go_upto_region 12 with fail
   generalize wr.alloc (.cells #[.int .i64 1,S (a1),S (a1),S [],S [],S [],S [],S u] 35)=W1 at *;obtain⟨bx,As⟩:=AjJ wr.heap.size;rw [←As]at hq ⊢;clear As l0 l1 l2 l3 l4 l5 l6 l7;have Bi:=(xq.block _ (AjL hM)).trans hM;have hR1:=(xq.block _ (AjL hR)).trans hR;have k0:W1.cell? ⟨bm,0,none⟩=some (.slice A m.pts.length c):=Ab Bi rfl;have k1:W1.cell? ⟨bm,1,none⟩=some (.slice B m.eds.length d):=Ab Bi rfl;have k2:W1.cell? ⟨bm,2,none⟩=some (.slice F m.nf g):=Ab Bi rfl;have x0:W1.cell? ⟨bx,0,none⟩=some (.int .i64 1):=Ab hq rfl;have x1:W1.cell? ⟨bx,1,none⟩=some (S (a1)):=Ab hq rfl;have x2:W1.cell? ⟨bx,2,none⟩=some (S (a1)):=Ab hq rfl;have x3:W1.cell? ⟨bx,3,none⟩=some (S []):=Ab hq rfl;have x4:W1.cell? ⟨bx,4,none⟩=some (S []):=Ab hq rfl;have x5:W1.cell? ⟨bx,5,none⟩=some (S []):=Ab hq rfl;have x6:W1.cell? ⟨bx,6,none⟩=some (S []):=Ab hq rfl;have x7:W1.cell? ⟨bx,7,none⟩=some (S u):=Ab hq rfl;have B8:=hX.trans xq;have ap:=hap j W1 A B F c d g hlt B8 A7 (hA.ext xq) (hB.ext xq) (hF.ext xq);clear hX hA hB hF hM hR xq A7 hq CN;(go_wp2_with fail);(with_reducible refine ap.mono ?_);rintro e W2 ⟨A2,B2,F2,c2,d2,g2',rfl,A7,r1,r2,r3,Cb,hx2,ty2⟩;have hb2:=(hx2.block _ (AjL Bi)).trans Bi;have hR2:=(hx2.block _ (AjL hR1)).trans hR1;have CG:=B8.trans hx2;clear ap k0 k1 k2 x0 x1 x2 x3 x4 x5 x6 x7 Bi hR1 B8 hx2;unfold AE;have f0:=Ab (o:=0) hb2 rfl;have f1:=Ab (o:=1) hb2 rfl;have f2:=Ab (o:=2) hb2 rfl;have f3:=Ao (o:=0) hb2;have f4:=Ao (o:=1) hb2;have f5:=Ao (o:=2) hb2;have AZ:=GB (.slice A2 m.pts.length c2) (.slice B2 m.eds.length d2) (.slice F2 m.nf g2') hb2
   have AW:(((W2.setCell ⟨bm,0,none⟩ (.slice A2 m.pts.length c2)).setCell ⟨bm,1,none⟩ (.slice B2 m.eds.length d2)).setCell ⟨bm,2,none⟩ (.slice F2 m.nf g2')).heap[bm+1]?=some (.cells #[.slice none 0 0,.slice none 0 0,.slice none 0 0] 44):=by rw [B7 (by show bm+1≠bm;omega),B7 (by show bm+1≠bm;omega),B7 (by show bm+1≠bm;omega)];exact hR2
   have Cm:=(((Al.refl (fun q=>q=bm) W2).setCell (p:=⟨bm,0,none⟩) (.inl rfl) (.slice A2 m.pts.length c2)).setCell (p:=⟨bm,1,none⟩) (.inl rfl) (.slice B2 m.eds.length d2)).setCell (p:=⟨bm,2,none⟩) (.inl rfl) (.slice F2 m.nf g2');have z1:=Hb r1 Cm hb2 (fun j hj=>by obtain⟨s,h⟩:=PM hj;rw [h];simp);have z2:=Hb r2 Cm hb2 (fun j hj=>by obtain⟨s,h⟩:=PG hj;rw [h];simp);have z3:=Hb r3 Cm hb2 (fun j hj=>by rw [List.getElem_map];simp);have HS:=AjK (And.intro AZ (And.intro A7 (And.intro z1 (And.intro z2 (And.intro z3 (And.intro AW (And.intro (J7 CG hB2 (.slice A2 m.pts.length c2) (.slice B2 m.eds.length d2) (.slice F2 m.nf g2')) (ty2.but Cm hb2))))))));clear z1 z2 z3 Cm AZ AW CG hb2 hR2 A7 r1 r2 r3 Cb ty2;go_wp2;go_roundw
   case rel=>exact⟨j+1,A2,B2,F2,c2,d2,g2',by go_num,hlt,rfl,HS.out.1,HS.out.2.1,HS.out.2.2.1,HS.out.2.2.2.1,HS.out.2.2.2.2.1,HS.out.2.2.2.2.2.1,HS.out.2.2.2.2.2.2.1,fun _=>HS.out.2.2.2.2.2.2.2⟩
   case measure=>simp [intOf];omega
  ·obtain rfl:j=n:=(by omega);clear hlt;have g0:=Ab (o:=0) hR rfl;have g1:=Ab (o:=1) hR rfl;have g2:=Ab (o:=2) hR rfl;have g3:=Ao (o:=0) hR;have g4:=Ao (o:=1) hR;have g5:=Ao (o:=2) hR;have k0:wr.cell? ⟨bm,0,none⟩=some (.slice A m.pts.length c):=Ab hM rfl;have k1:wr.cell? ⟨bm,1,none⟩=some (.slice B m.eds.length d):=Ab hM rfl;have k2:wr.cell? ⟨bm,2,none⟩=some (.slice F m.nf g):=Ab hM rfl;have AZ:=GB (.slice A m.pts.length c) (.slice B m.eds.length d) (.slice F m.nf g) hR;have t1:=Ab (o:=0) AZ rfl;have t2:=Ab (o:=1) AZ rfl;have t3:=Ab (o:=2) AZ rfl;have Cm:=(((Al.refl (fun q=>q=bm+1) wr).setCell (p:=⟨bm+1,0,none⟩) (.inl rfl) (.slice A m.pts.length c)).setCell (p:=⟨bm+1,1,none⟩) (.inl rfl) (.slice B m.eds.length d)).setCell (p:=⟨bm+1,2,none⟩) (.inl rfl) (.slice F m.nf g);have z1:=Hb hA Cm hR (fun j hj=>by obtain⟨s,h⟩:=PM hj;rw [h];simp);have z2:=Hb hB Cm hR (fun j hj=>by obtain⟨s,h⟩:=PG hj;rw [h];simp);have z3:=Hb hF Cm hR (fun j hj=>by rw [List.getElem_map];simp);have HS:=AjK (And.intro A7 (And.intro z1 (And.intro z2 (And.intro z3 (And.intro (J7 hX (AjX hB2 (Nat.le_succ _)) (.slice A m.pts.length c) (.slice B m.eds.length d) (.slice F m.nf g)) ((CN (by omega)).but Cm hR))))));clear z1 z2 z3 Cm AZ hX A7 hA hB hF hM hR CN;go_wp2;refine bodyPost_ret (v:=.tuple #[.agg #[.slice A m.pts.length c,.slice B m.eds.length d,.slice F m.nf g],.int .i64 0,.int .i64 0]) (by simp [results,Tryz.results23,go_sem,t1,t2,t3]) rfl ?_;exact⟨A,B,F,c,d,g,rfl,HS.out⟩
theorem pj(a u:UInt8)(hu:nameB [u]=true)(NB:u=97∨u=99∨u=100)(A B F:Option Addr)(c d g:Nat)(L:Option Addr)(k:Nat)(w:World)(hw:Ak w)(A7:Cf Af c d g)(hA:Ad w A (flat (Aq Af.pts)))(hB:Ad w B (AA Af.eds))(hF:Ad w F ([[a],[98]].map S))(hL:Ad w L (CC (R (1/2)) [u])) :
  Calls Tryz.prog 23 #[AE A B F Af c d g,.slice L 1 k] w (bX w Af [[u],[98]]):=
 qq Af (R (1/2)) [u] (fun j=>if j=0 then [[a],[98]] else [[u],[98]]) 1 (AjN 1) (by decide) w
  (fun j W A B F c d g hj hx A7 hA hB hF=>by
   obtain rfl:j=0:=by omega
   exact qd a u hu NB A B F c d g W (hw.ext hx) A7 hA hB hF)
  A B F c d g (fun W hx=>by have h:=Rh Af ZN A B F c d g A7 W (hw.ext hx) (hA.ext hx) (hB.ext hx);rw [We]at h;exact h) A7 hA hB hF L k (by simpa [Fv]using hL)
theorem Afm(A B F:Option Addr)(c d g:Nat)(w:World)(hw:Ak w)(A7:Cf Af c d g)(hA:Ad w A (flat (Aq Af.pts)))(hB:Ad w B (AA Af.eds)) :
  Calls Tryz.prog 44 #[AE A B F Af c d g] w (AB 0 w):=by
 have h:=Rh Af ZN A B F c d g A7 w hw hA hB;rw [We]at h;exact h
theorem wn(x:UInt8)(hx:x=97∨x=99∨x=100)(A B F:Option Addr)(c d g:Nat)(w:World)(hw:Ak w)(A7:Cf Af c d g)(hA:Ad w A (flat (Aq Af.pts)))(hB:Ad w B (AA Af.eds))(hF:Ad w F ([[x],[98]].map S))(DV:∀x,F=some x→x.block<w.heap.size) :
  Calls Tryz.prog 41 #[AE A B F Af c d g] w (OT w Af [[x],[98]]):=by
 have h:=wO Af [[x],[98]] rfl Sy A B F c d g A7 w hw hA hB hF DV (by decide);rw [(S1 x hx).1,(S1 x hx).2]at h;exact h
section
open Go.Maps
def BL(w w':World):Prop:=∀(b:Nat) (cs:Array Value) (t:TypeId) (r:Nat×Nat),w.heap[b]?=some (.cells cs t r)→t≠44→t≠48→t≠79→w'.heap[b]?=some (.cells cs t r)
theorem BL.trans{a b c:World}(h:BL a b)(k:BL b c):BL a c:=fun i cs t r h0 h1 h2 h3=>k i cs t r (h i cs t r h0 h1 h2 h3) h1 h2 h3
theorem BL.ext{a b:World}(h:Aa a b):BL a b:=fun _ _ _ _ h0 _ _ _=>(h.block _ (AjL h0)).trans h0
theorem BL.row{a b:World}{B s n:Nat}{e:TypeId}{v:Value}{xs:List Value}(hg:a.grownBy b v.ownBlock)(ho:a.ownsRow B e s v n xs)(he:e=44∨e=48):BL a b:=fun i cs t r h0 h1 h2 _=>
 (hg.block _ (AjL h0) (fun e'=>Ap ho h0 (by rcases he with rfl|rfl;exact h1.symm;exact h2.symm) e'.symm)).trans h0
theorem BL.map{a b:World}{bm:Nat}{es:Array MapEntry}{n:Nat}(hm:a.heap[bm]?=some (.map es n))(hg:a.grownBy b (some bm)):BL a b:=fun i cs t r h0 _ _ _=>
 (hg.block _ (AjL h0) (fun e=>by obtain rfl:i=bm:=Option.some.inj e;rw [hm]at h0;cases h0)).trans h0
theorem BL.cell{a:World}{ba o:Nat}{cs0:Array Value}{r0:Nat×Nat}(h:a.heap[ba]?=some (.cells cs0 79 r0))(v:Value):BL a (a.setCell ⟨ba,o,none⟩ v):=fun i cs t r h0 _ _ h3=>by
 rw [B7 (by exact C0 h0 h h3)];exact h0
theorem Ad.tame{w w':World}{A:Option Addr}{cs:List Value}{t:TypeId}(h:Ad w A cs)(ht:BS w A t)(hk:BL w w')(h1:t≠44)(h2:t≠48)(h3:t≠79):Ad w' A cs/\BS w' A t:=by
 have key:∀x,A=some x→w'.heap[x.block]?=w.heap[x.block]?:=fun x hx=>by obtain⟨c,r,hb⟩:=ht x hx;rw [hb];exact hk _ _ _ _ hb h1 h2 h3
 refine⟨⟨fun h0=>?_⟩,fun x hx=>?_⟩
 ·obtain⟨b,o,e1,hc⟩:=h.ad h0;have hk:=key _ e1;exact⟨b,o,e1,fun j hj=>(World.cell?_of_block (a:=⟨b,o+j,none⟩) hk).trans (hc j hj)⟩
 ·obtain⟨c,r,hb⟩:=ht x hx;exact⟨c,r,(key x hx).trans hb⟩
def Fx(w:World)(x:UInt8)(l:List Value):Prop:=∃A B F c d g,l = [.slice A Af.pts.length c,.slice B Af.eds.length d,.slice F Af.nf g]/\Cf Af c d g/\Ad w A (flat (Aq Af.pts))/\Ad w B (AA Af.eds)/\Ad w F ([[x],[98]].map S)/\KH w A B F
def I0(w:World)(e:Int×Nat×UInt8)(l:List Value):Prop:=∃L z nt,l = [.int .i64 e.1,.slice L e.2.1 z,.string nt]/\e.2.1<=z/\z<=9223372036854775807/\Ad w L (Fv (CC (R (1/2)) [e.2.2]) e.2.1)/\BS w L 35
theorem Fx.tame{w w':World}(hk:BL w w')(x:UInt8)(l:List Value)(h:Fx w x l):Fx w' x l:=by
 obtain⟨A,B,F,c,d,g,e,hc,r1,r2,r3,t1,t2,t3⟩:=h;obtain⟨a1,a2⟩:=r1.tame t1 hk (by decide) (by decide) (by decide);obtain⟨a3,a4⟩:=r2.tame t2 hk (by decide) (by decide) (by decide);obtain⟨a5,a6⟩:=r3.tame t3 hk (by decide) (by decide) (by decide);exact⟨A,B,F,c,d,g,e,hc,a1,a3,a5,a2,a4,a6⟩
theorem I0.tame{w w':World}(hk:BL w w')(x:Int×Nat×UInt8)(l:List Value)(h:I0 w x l):I0 w' x l:=by
 obtain⟨L,z,nt,e,hz,hz2,r1,t1⟩:=h;obtain⟨a1,a2⟩:=r1.tame t1 hk (by decide) (by decide) (by decide);exact⟨L,z,nt,e,hz,hz2,a1,a2⟩
section
variable {α : Type}
def G6(base:Nat)(t:TypeId)(P:α→List Value→Prop)(w:World)(v:Value)(xs:List α)(Ms:List (List Value)):Prop:=
 w.ownsRow base t 3 v xs.length Ms.flatten/\Ms.length=xs.length/\(∀l∈Ms,l.length=3)/\∀(i:Nat) (x:α),xs[i]?=some x→∃l,Ms[i]?=some l/\P x l
theorem jS:∀(Ms:List (List Value)) (_:∀l∈Ms,l.length=3) (i j:Nat) (l:List Value) (v:Value),Ms[i]?=some l→l[j]?=some v→Ms.flatten[i*3+j]?=some v
 | [],_,_,_,_,_,h,_=>by simp at h
 | m::Ms,h3,0,j,l,v,h,hv=>by
  obtain rfl:m=l:=(by simpa using h);have hj:=(List.getElem?_eq_some_iff.1 hv).1;rw [List.flatten_cons,Nat.zero_mul,Nat.zero_add,List.getElem?_append_left hj];exact hv
 | m::Ms,h3,i+1,j,l,v,h,hv=>by have hm:m.length=3:=h3 m (by simp);rw [List.flatten_cons,List.getElem?_append_right (by omega),show (i+1)*3+j-m.length=i*3+j by omega];exact jS Ms (fun l hl=>h3 l (by simp [hl])) i j l v (by simpa using h) hv
theorem G6.get{base:Nat}{t:TypeId}{P:α→List Value→Prop}{w:World}{v:Value}{xs:List α}{Ms:List (List Value)}(h:G6 base t P w v xs Ms){i:Nat}{x:α}(hi:xs[i]?=some x) :
  ∃b c l,v=.slice (some ⟨b,0,none⟩) xs.length c/\P x l/\∀j u,l[j]?=some u→w.cell? ⟨b,i*3+j,none⟩=some u:=by
 obtain⟨ho,hl,h3,hP⟩:=h;obtain⟨l,Tl,hp⟩:=hP i x hi;have Ub:=(List.getElem?_eq_some_iff.1 hi).1;obtain⟨A',c',e',hr,-,-⟩:=Ad.of_own' (by omega) ho;subst e'
 rcases ho.2 with⟨_,h'⟩|⟨gm,cap,cur,e,-⟩
 ·omega
 simp only [Value.slice.injEq]at e;obtain⟨rfl,-,-⟩:=e;refine⟨gm,c',l,rfl,hp,fun j u hj=>?_⟩;have hg:=jS Ms h3 i j l u Tl hj;have hlt:=(List.getElem?_eq_some_iff.1 hg).1;obtain⟨b,o,e,AO⟩:=hr.ad (by omega);simp only [AjR,Addr.mk.injEq]at e;obtain⟨rfl,rfl,-⟩:=e;have h1:=AO (i*3+j) hlt;rw [Nat.zero_add]at h1;rw [h1,←hg,AjS hlt]
theorem G6.keep{base:Nat}{t:TypeId}{P P':α→List Value→Prop}{w w':World}{v:Value}{xs:List α}{Ms:List (List Value)}(h:G6 base t P w v xs Ms)(hk:∀s xs n,w.ownsRow base t s v n xs→w'.ownsRow base t s v n xs)(hP:∀x l,P x l→P' x l):G6 base t P' w' v xs Ms:=
 ⟨hk _ _ _ h.1,h.2.1,h.2.2.1,fun i x hx=>let ⟨l,a,b⟩:=h.2.2.2 i x hx;⟨l,a,hP _ _ b⟩⟩
theorem G6.snoc{base:Nat}{t:TypeId}{P P':α→List Value→Prop}{w w':World}{v v':Value}{xs:List α}{x:α}{Ms:List (List Value)}{l:List Value}(h:G6 base t P w v xs Ms)(hP:∀x l,P x l→P' x l)
  (ho:w'.ownsRow base t 3 v' (xs.length+1) (Ms.flatten++l)) (hl3:l.length=3) (hx:P' x l):G6 base t P' w' v' (xs ++ [x]) (Ms ++ [l]):=by
 obtain⟨-,hl,h3,hp⟩:=h;refine⟨by simpa using ho,by simp [hl],fun k hk=>?_,fun i y hy=>?_⟩
 ·rcases List.mem_append.1 hk with hk|hk
  ·exact h3 k hk
  ·rw [AjZ]at hk;rw [hk];exact hl3
 ·rcases Nat.lt_trichotomy i xs.length with hi|hi|hi
  ·rw [List.getElem?_append_left hi]at hy;obtain⟨k,a,b⟩:=hp i y hy;exact⟨k,by rw [List.getElem?_append_left (by omega)];exact a,hP _ _ b⟩
  ·subst hi;simp at hy;subst hy;exact⟨l,by rw [←hl];simp,hx⟩
  ·rw [List.getElem?_eq_none (by simp;omega)]at hy
   cases hy
theorem G6.slice{base:Nat}{t:TypeId}{P:α→List Value→Prop}{w:World}{v:Value}{xs:List α}{Ms:List (List Value)}(h:G6 base t P w v xs Ms):∃A c,v=.slice A xs.length c:=by
 obtain⟨A,c,e,-⟩:=Ad.of_own' (by omega) h.1;exact⟨A,c,e⟩
end
theorem Zq(k:Bs):WideAt.IsKeyLit (.string k):=trivial
def CZ{β:Type}(enc:β→DataW Unit)(D:DataW Unit)(f:Bs→Option β):Prop:=Tidy D/\∀l,Maps.has D (.string l)=(f l).isSome/\∀v,f l=some v→∀z,D.atKey (.string l) z=enc v
theorem CZ.empty{β:Type}(enc:β→DataW Unit):CZ enc (.map []) (fun _=>none):=⟨tidy_empty,fun _=>⟨rfl,fun _ h=>by cases h⟩⟩
theorem CZ.put{β:Type}{enc:β→DataW Unit}{D:DataW Unit}{f:Bs→Option β}(h:CZ enc D f)(k:Bs)(v:β):CZ enc (D.put (.string k) (enc v)) (fun l=>if l=k then some v else f l):=by
 refine⟨h.1.put (Zq k) _,fun l=>?_⟩
 dsimp only
 by_cases e:l=k
 ·subst e;rw [if_pos rfl];exact⟨has_put_same h.1.isMap (Zq _) _,fun u hu z=>by obtain rfl:=Option.some.inj hu;exact atKey_put_same h.1.isMap (Zq _) _ _⟩
 ·have ne:(Lit.string l:Lit)≠.string k:=fun h=>e (by injection h);rw [if_neg e,has_put_other ne];exact⟨(h.2 l).1,fun u hu z=>by rw [atKey_put_other ne];exact(h.2 l).2 u hu z⟩
theorem CZ.size_put{β:Type}{enc:β→DataW Unit}{D:DataW Unit}{f:Bs→Option β}(h:CZ enc D f)(k:Bs)(d:DataW Unit):Maps.size (D.put (.string k) d)=if (f k).isSome then Maps.size D else Maps.size D+1:=by
 rw [Maps.size_put h.1,(h.2 k).1]
def encI(v:Int):DataW Unit:=.lit (.int .i64 v)
def J5(v:Bs):DataW Unit:=.lit (.string v)
theorem Afb{P:Program}{k:TypeId}{Q:Value→Option (DataW Unit×List MemPlace)}{w:World}{b n:Nat}{D:DataW Unit}(h:w.ownsMap P k Q b n D):w.ownsMap P k Q b (Maps.size D) D:=by
 obtain⟨es,clock,hb,F,hs,rfl⟩:=h;exact⟨es,clock,hb,F,by simp [Maps.size,length_sorted],rfl⟩
theorem O4{P:Program}{k:TypeId}{Q:Value→Option (DataW Unit×List MemPlace)}{w:World}{b n:Nat}{D:DataW Unit}(h:w.ownsMap P k Q b n D):∃es n,w.heap[b]?=some (.map es n):=by
 obtain⟨es,clock,hb,-⟩:=h;exact⟨es,clock,hb⟩
theorem Oy{l:Bs}(hl:l.length<=maxLen):keyOf Tryz.prog 9 (S l)=some (.string l):=WideMaps.keyOf_string_mk Tryz.underlying9 (by show l.toArray.size<=maxLen;simpa using hl)
theorem AhQ(w:World):(zeroValue 3).run Tryz.prog w=.ok (.int .i64 0) w:=by kernel_rfl
abbrev Pm(w:World)(bm n:Nat)(D:DataW Unit):Prop:=w.ownsMap Tryz.prog 9 (plainElem Tryz.prog 3) bm n D
theorem oK{w:World}{bm n:Nat}{D:DataW Unit}{f:Bs→Option Int}(h:Pm w bm n D)(hf:CZ encI D f)(l:Bs)(hl:l.length<=maxLen) :
  (Instr.lookup 77 (.map (some bm)) (S l) true).run Tryz.prog w=.ok (.tuple #[.int .i64 ((f l).getD 0),.bool (f l).isSome]) w:=by
 obtain⟨v,ps,hr,hv⟩:=h.look_ok (string_keyed Tryz.underlying9) Tryz.underlying77 (AhQ w) (plainElem_int (H:=Unit) Tryz.underlying3 (by decide)) (Oy hl);rw [hr,(hf.2 l).1];obtain⟨c,rfl,hc,-⟩:=plainElem_int_inv Tryz.underlying3 hv;have hc':=congrArg Prod.fst hc
 have e:c=(f l).getD 0:=by
  cases hq:f l with
  | some u=>
   have:=(hf.2 l).2 u hq (.lit (.int .i64 0));simp only at hc';rw [this]at hc';unfold encI at hc';simp only [DataW.lit.injEq,Lit.int.injEq,true_and]at hc';exact hc'.symm
  | none=>have hn:Maps.has D (.string l)=false:=(by rw [(hf.2 l).1,hq];rfl);have:=atKey_of_not_has hn (.lit (.int .i64 0));simp only at hc';rw [this]at hc';simp only [DataW.lit.injEq,Lit.int.injEq,true_and]at hc';exact hc'.symm
 rw [e]
def Iz(base ba bm:Nat)(xs:List UInt8)(es:List (Int×Nat×UInt8))(n:Nat)(f:Bs→Option Int)(mv ev:Value)(D:DataW Unit)(Ms Es:List (List Value))(w:World):Prop:=
 base<=ba/\base<=bm/\w.heap[ba]?=some (.cells #[mv,ev,.map (some bm)] 79)/\G6 base 44 (Fx w) w mv xs Ms/\G6 base 48 (I0 w) w ev es Es/\Pm w bm n D/\CZ encI D f/\Maps.size D=n
def BR(base ba bm:Nat)(xs:List UInt8)(es:List (Int×Nat×UInt8))(n:Nat)(f:Bs→Option Int)(w:World):Prop:=∃mv ev D Ms Es,Iz base ba bm xs es n f mv ev D Ms Es w
theorem Iz.ext{base ba bm:Nat}{xs:List UInt8}{es:List (Int×Nat×UInt8)}{n:Nat}{f:Bs→Option Int}{mv ev:Value}{D:DataW Unit}{Ms Es:List (List Value)}{w w':World}(h:Iz base ba bm xs es n f mv ev D Ms Es w)(hx:Aa w w'):Iz base ba bm xs es n f mv ev D Ms Es w':=by
 obtain⟨h1,h2,hA,hM,hE,hD,hf,hn⟩:=h;exact⟨h1,h2,(hx.block _ (AjL hA)).trans hA,hM.keep (fun _ _ _ h=>Am h hx) (Fx.tame (.ext hx)),hE.keep (fun _ _ _ h=>Am h hx) (I0.tame (.ext hx)),hD.kept (DJ hx none) (by simp),hf,hn⟩
theorem BR.ext{base ba bm:Nat}{xs:List UInt8}{es:List (Int×Nat×UInt8)}{n:Nat}{f:Bs→Option Int}{w w':World}(h:BR base ba bm xs es n f w)(hx:Aa w w'):BR base ba bm xs es n f w':=by
 obtain⟨mv,ev,D,Ms,Es,h⟩:=h;exact⟨mv,ev,D,Ms,Es,h.ext hx⟩
theorem yB{w:World}{B s n bm:Nat}{e:TypeId}{v:Value}{xs:List Value}{D:DataW Unit}{k:Nat}(ho:w.ownsRow B e s v n xs)(hD:Pm w bm k D):some bm≠v.ownBlock:=fun e=>by
 obtain⟨WA,c0,hm⟩:=O4 hD
 rcases ho.2 with⟨h',_⟩|⟨g,cap,cur,h',_,hgb,_⟩
 ·rw [h']at e;cases e
 ·rw [h']at e;simp only [Value.ownBlock,AjR]at e;rw [e,hgb]at hm
  cases hm
theorem fK{w:World}{ba bm:Nat}{cs:Array Value}{t:TypeId}{r:Nat×Nat}{D:DataW Unit}{k:Nat}(hA:w.heap[ba]?=some (.cells cs t r))(hD:Pm w bm k D):bm≠ba:=fun e=>by
 obtain⟨WA,c0,hm⟩:=O4 hD;rw [e,hA]at hm
 cases hm
theorem Iz.maps{base ba bm:Nat}{xs:List UInt8}{es:List (Int×Nat×UInt8)}{n:Nat}{f:Bs→Option Int}{mv ev:Value}{D:DataW Unit}{Ms Es:List (List Value)}{w w':World}{Jf:Value}{l:List Value}{x:UInt8}(h:Iz base ba bm xs es n f mv ev D Ms Es w)
  (hg:w.grownBy w' mv.ownBlock) (JZ:w'.ownsRow base 44 3 Jf (xs.length+1) (Ms.flatten++l)) (hl3:l.length=3) (hx:Fx w x l):Iz base ba bm (xs ++ [x]) es n f Jf ev D (Ms ++ [l]) Es (w'.setCell ⟨ba,0,none⟩ Jf)/\BL w (w'.setCell ⟨ba,0,none⟩ Jf):=by
 obtain⟨h1,h2,hA,hM,hE,hD,hf,hn⟩:=h;have ho:=hM.1;have hA':=SX hg ho hA (by decide);have t2:=(BL.row hg ho (.inl rfl)).trans (BL.cell (o:=0) hA' Jf);have bb:=(Al.refl (fun q=>q=ba) w').setCell (p:=⟨ba,0,none⟩) (.inl rfl) Jf;refine⟨⟨h1,h2,?_,hM.snoc (Fx.tame t2) (Bf JZ bb ?_) hl3 (Fx.tame t2 x l hx),hE.keep (fun s ys k hv=>Bf (Lc hg ho hv (by decide)) bb ?_) (I0.tame t2),(hD.kept hg (yB ho hD)).setCell (fK hA hD) Jf,hf,hn⟩,t2⟩
 ·simp only [World.setCell,Array.getElem?_modify,hA'];simp
 ·intro q hq e;subst e;exact Ap JZ hA' (by decide) hq
 ·intro q hq e;subst e;exact Ap (Lc hg ho hv (by decide)) hA' (by decide) hq
theorem Iz.ents{base ba bm:Nat}{xs:List UInt8}{es:List (Int×Nat×UInt8)}{n:Nat}{f:Bs→Option Int}{mv ev:Value}{D:DataW Unit}{Ms Es:List (List Value)}{w w':World}{IJ:Value}{l:List Value}{x:Int×Nat×UInt8}(h:Iz base ba bm xs es n f mv ev D Ms Es w)
  (hg:w.grownBy w' ev.ownBlock) (JZ:w'.ownsRow base 48 3 IJ (es.length+1) (Es.flatten++l)) (hl3:l.length=3) (hx:I0 w x l):Iz base ba bm xs (es ++ [x]) n f mv IJ D Ms (Es ++ [l]) (w'.setCell ⟨ba,1,none⟩ IJ)/\BL w (w'.setCell ⟨ba,1,none⟩ IJ):=by
 obtain⟨h1,h2,hA,hM,hE,hD,hf,hn⟩:=h;have ho:=hE.1;have hA':=SX hg ho hA (by decide);have t2:=(BL.row hg ho (.inr rfl)).trans (BL.cell (o:=1) hA' IJ);have bb:=(Al.refl (fun q=>q=ba) w').setCell (p:=⟨ba,1,none⟩) (.inl rfl) IJ;refine⟨⟨h1,h2,?_,hM.keep (fun s ys k hv=>Bf (Lc hg ho hv (by decide)) bb ?_) (Fx.tame t2),hE.snoc (I0.tame t2) (Bf JZ bb ?_) hl3 (I0.tame t2 x l hx),(hD.kept hg (yB ho hD)).setCell (fK hA hD) IJ,hf,hn⟩,t2⟩
 ·simp only [World.setCell,Array.getElem?_modify,hA'];simp
 ·intro q hq e;subst e;exact Ap (Lc hg ho hv (by decide)) hA' (by decide) hq
 ·intro q hq e;subst e;exact Ap JZ hA' (by decide) hq
theorem UN{w w':World}{bm:Nat}{es:Array MapEntry}{c:Nat}(hm:w.heap[bm]?=some (.map es c))(hg:w.grownBy w' (some bm)){B s k:Nat}{e:TypeId}{v:Value}{ys:List Value}(hv:w.ownsRow B e s v k ys):w'.ownsRow B e s v k ys:=by
 refine⟨hv.1,?_⟩
 rcases hv.2 with h'|⟨g,cap,cur,a1,a2,a3,a4⟩
 ·exact .inl h'
 ·exact .inr ⟨g,cap,cur,a1,a2,(hg.block g (AjL a3) (fun e=>by obtain rfl:g=bm:=Option.some.inj e;rw [hm]at a3;cases a3)).trans a3,a4⟩
theorem BR.head{base ba bm:Nat}{xs:List UInt8}{es:List (Int×Nat×UInt8)}{n:Nat}{f:Bs→Option Int}{w:World}(h:BR base ba bm xs es n f w)(hn:n<1000)(k:Bs)(hk:k.length<=maxLen)(v:Int)(hv:(Lit.int .i64 v).wf=true) :
  ∃w',(Instr.mapUpdate 77 (.map (some bm)) (S k) (.int .i64 v)).run Tryz.prog w=.ok () w'/\BR base ba bm xs es (if (f k).isSome then n else n+1) (fun l=>if l=k then some v else f l) w'/\(∀w0,Aa w0 w→w0.heap.size<=base→Aa w0 w')/\BL w w':=by
 obtain⟨mv,ev,D,Ms,Es,h1,h2,hA,hM,hE,hD,hf,rfl⟩:=h;obtain⟨w',hr,hown,ht⟩:=hD.store (string_keyed Tryz.underlying9) Tryz.underlying77 (by unfold maxLen;omega) (Oy hk) (plainElem_int (H:=Unit) Tryz.underlying3 hv);have hg:=ht.grown;obtain⟨WA,c0,hm⟩:=O4 hD;have t:=BL.map hm hg;have hab:∀{j:Nat} {cs:Array Value} {t:TypeId},w.heap[j]?=some (.cells cs t)→w'.heap[j]?=some (.cells cs t):=fun {j cs t} h=>(hg.block j (AjL h) (fun e=>by obtain rfl:j=bm:=Option.some.inj e;rw [hm]at h;cases h)).trans h;refine⟨w',hr,⟨mv,ev,D.put (.string k) (encI v),Ms,Es,h1,h2,hab hA,hM.keep (fun _ _ _ h=>UN hm hg h) (Fx.tame t),hE.keep (fun _ _ _ h=>UN hm hg h) (I0.tame t),?_,hf.put k v,hf.size_put k _⟩,fun w0 h0 hb=>h0.grown hg (fun q hq=>by obtain rfl:bm=q:=Option.some.inj hq;omega),t⟩;have:=Afb hown
 rwa [show Maps.size (D.put (.string k) (.lit (.int .i64 v)))=_ from hf.size_put k _]at this
end
section
open Go.Sort Go.Shelf
abbrev Ch(ba:Nat):Value:=.pointer (some ⟨ba,0,none⟩)
theorem Wk{base ba bm:Nat}{xs:List UInt8}{es:List (Int×Nat×UInt8)}{n:Nat}{f:Bs→Option Int}{w:World}(h:BR base ba bm xs es n f w):Calls Tryz.prog 7 #[Ch ba] w (AB (xs.length:Nat) w):=by
 obtain⟨mv,ev,D,Ms,Es,-,-,hA,hM,-⟩:=h;obtain⟨A,c,rfl⟩:=hM.slice;have k0:w.cell? ⟨ba,0,none⟩=some (.slice A xs.length c):=Ab hA rfl;clear hA hM;go_enter Tryz.func7,Tryz.ntmps7;go_wp2;go_ret;exact⟨rfl,Aa.refl _⟩
theorem XX{base ba bm:Nat}{xs:List UInt8}{es:List (Int×Nat×UInt8)}{n:Nat}{f:Bs→Option Int}{w:World}(h:BR base ba bm xs es n f w)(l:Bs)(hl:l.length<=100000)(v:Int)(hv:f l=some v) :
  Calls Tryz.prog 22 #[Ch ba,S l] w (Cp (.tuple #[.int .i64 v,.int .i64 0]) w):=by
 obtain⟨mv,ev,D,Ms,Es,-,-,hA,-,-,hD,hf,-⟩:=h;have hlk:=oK hD hf l (by unfold maxLen;omega);rw [hv]at hlk;simp only [Option.getD_some,Option.isSome_some]at hlk;have k2:w.cell? ⟨ba,2,none⟩=some (.map (some bm)):=Ab hA rfl;clear hA hD hf hv;go_enter Tryz.func22,Tryz.ntmps22;go_wp2;go_ret2;exact⟨rfl,Aa.refl _⟩
theorem Adk{g:FuncId}{cb:Array Value}(eg:∀args w,(callFunc g args).run Tryz.prog w=.ok (.enter g args) w)(l:List Int)(A:Option Addr)(c:Nat)(w:World)(hr:Ad w A (zs l))(hc:l.length<=c)(hcm:c<=9223372036854775807)
  (hp:∀e∈l,∀W,Aa w W→Calls Tryz.prog g (#[.int .i64 e]++cb) W (BE false W)) :
  Calls Tryz.prog 94 #[.slice A l.length c,.func (.func g) #[] cb] w (AB (-1) w):=by
 have HP:=AjK hp;clear hp;go_enter Tryz.func94,Tryz.ntmps94;go_wp2
 go_loopw [8] (fun i wr=>∃j:Nat,i=.int .i64 (j:Nat)/\j<=l.length/\Aa w wr) (fun i _=>l.length-(intOf i).toNat)
 case atStart=>exact⟨0,rfl,by omega,Aa.refl _⟩
 case round=>
  obtain⟨j,rfl,hj,Ae⟩:=hrel;by_cases hlt:j<l.length
  ·obtain⟨b,o,rfl,hc1⟩:=(hr.ext Ae).ad (by simp [zs];omega);have g1:=hc1 j (by simp [zs];exact hlt);have ge:(zs l)[j]'(by simp [zs];exact hlt)=.int .i64 l[j]:=(by simp [zs]);rw [ge]at g1;have bf:=HP.out l[j] (AjO hlt) wr Ae;obtain⟨y,hy⟩:=AjJ (l[j]);rw [←hy]at g1 bf;have hj0:(0:Int)<=(j:Int):=(by omega);have Ay:(j:Int)<(l.length:Int):=(by omega);clear hy ge hc1;(go_wp2_with fail);(with_reducible refine bf.mono ?_);rintro e w2 ⟨rfl,hx2⟩;go_wp2;go_roundw
   case rel=>exact⟨j+1,by go_num,hlt,Ae.trans hx2⟩
   case measure=>simp [intOf];omega
  ·have hle:(l.length:Int)<=(j:Int):=(by omega);go_wp2;go_ret;exact⟨rfl,Ae⟩
theorem Aad:∀args w,(callFunc 47 args).run Tryz.prog w=.ok (.enter 47 args) w:=enters_of Tryz.func47 (by kernel_rfl) rfl
theorem S3{base ba bm:Nat}{xs:List UInt8}{es:List (Int×Nat×UInt8)}{n:Nat}{f:Bs→Option Int}{w:World}(h:BR base ba bm xs es n f w)(l:List Int)(A:Option Addr)(c:Nat)(hr:Ad w A (zs l))(hc:l.length<=c)(hcm:c<=9223372036854775807)(hp:∀e∈l,0<=e/\e<(xs.length:Int)) :
  Calls Tryz.prog 26 #[Ch ba,.slice A l.length c] w (AB 0 w):=by
 have hE:=(Aa.refl w).alloc (.cells #[Ch ba] 23);have hC:=AjM w (.cells #[Ch ba] 23)
 have hx:=Adk Aad (cb:=#[.pointer (some ⟨w.heap.size,0,none⟩)]) l A c (w.alloc (.cells #[Ch ba] 23)) (hr.ext hE) hc hcm (fun e he W hW=>by
  obtain⟨mv,ev,D,Ms,Es,-,-,hA,hM,-⟩:=h.ext (hE.trans hW);obtain⟨A',c',rfl⟩:=hM.slice;have k0:W.cell? ⟨ba,0,none⟩=some (.slice A' xs.length c'):=Ab hA rfl;have k1:W.cell? ⟨w.heap.size,0,none⟩=some (.pointer (some ⟨ba,0,none⟩)):=Ab ((hW.block _ (AjL hC)).trans hC) rfl;obtain⟨p0,p1⟩:=hp e he;have d0:decide (e<0)=false:=decide_eq_false (by omega);have d1:decide ((xs.length:Int)<=e)=false:=decide_eq_false (by omega);clear hA hM hC;show Calls Tryz.prog 47 #[.int .i64 e,.pointer (some ⟨w.heap.size,0,none⟩)] W _;go_enter Tryz.func47,Tryz.ntmps47;go_wp2;go_ret
  exact⟨by simp,Aa.refl _⟩)
 have XS:Calls Tryz.prog 46 #[.slice A l.length c,.func (.func 47) #[] #[.pointer (some ⟨w.heap.size,0,none⟩)]] (w.alloc (.cells #[Ch ba] 23)) (BE false (w.alloc (.cells #[Ch ba] 23))):=by clear h hC hr hp;go_enter Tryz.func46,Tryz.ntmps46;(go_wp2_with fail);(with_reducible refine hx.mono ?_);rintro e w1 ⟨rfl,hx1⟩;go_wp2;go_ret;exact⟨rfl,hx1⟩
 have k1:(w.alloc (.cells #[Ch ba] 23)).cell? ⟨w.heap.size,0,none⟩=some (.pointer (some ⟨ba,0,none⟩)):=Ab hC rfl;clear hx h hC hr hp;go_enter Tryz.func26,Tryz.ntmps26;(go_wp2_with fail);(with_reducible refine XS.mono ?_);rintro e w1 ⟨rfl,hx1⟩;go_wp2;go_ret;exact⟨rfl,hE.trans hx1⟩
theorem Tryz.infoX8:(Tryz.prog.info? 35).map (fun i=>(i.zero,i.size,i.bytes))=some (some (.agg #[.int .i64 0,S [],S [],S [],S [],S [],S [],S []]),8,120):=by kernel_rfl
theorem Tryz.infoMp:(Tryz.prog.info? 44).map (fun i=>(i.zero,i.size,i.bytes))=some (some (.agg #[.slice none 0 0,.slice none 0 0,.slice none 0 0]),3,72):=by kernel_rfl
theorem Tryz.infoEn:(Tryz.prog.info? 48).map (fun i=>(i.zero,i.size,i.bytes))=some (some (.agg #[.int .i64 0,.slice none 0 0,S []]),3,48):=by kernel_rfl
theorem wh(cs:List Value)(n:Nat)(hcs:cs.length=n*8)(h1c:∀u∈cs,u.oneCell'=true)(A:Option Addr)(cc:Nat)(w:World)(hr:Ad w A cs)(hlen:n<=100000)(hne:A=none→n=0) :
  Calls Tryz.prog 24 #[.slice A n cc] w (fun e w'=>∃v,e=.returned v/\w'.ownsRow w.heap.size 35 8 v n cs/\Aa w w'):=by
 cases A with
 | none=>
  obtain rfl:n=0:=hne rfl;obtain rfl:cs = []:=List.length_eq_zero_iff.1 (by simpa using hcs);have hq:=fun W=>Lib.run_eql_slice_nil (P:=Tryz.prog) W 36 35 none 0 cc 0 0 Tryz.underlying36;clear hr hne;go_enter Tryz.func24,Tryz.ntmps24;go_wp2;go_ret;exact⟨_,rfl,⟨rfl,.inl ⟨rfl,rfl⟩⟩,Aa.refl _⟩
 | some a=>
  have hrow:=World.ownsRow_lit (base:=w.heap.size) (e:=35) (size:=8) w #[] 0 (AjN _) (by unfold maxLen;omega) rfl;have hE:=(Aa.refl w).alloc (.cells #[] 35)
  have hnews:∀j u,cs[j]?=some u→(w.alloc (.cells #[] 35)).cell? (a.add j)=some u:=by
   intro j u hu;obtain⟨hj,FS⟩:=List.getElem?_eq_some_iff.1 hu;obtain⟨b,o,e,hc⟩:=(hr.ext hE).ad (by omega)
   cases e;rw [Addr.add_lit,←FS];exact hc j hj
  obtain⟨i0,hi,hz0,hz1,hz2⟩:=info_parts Tryz.infoX8;have hq:=fun W=>Lib.run_eql_slice_nil (P:=Tryz.prog) W 36 35 (some a) n cc 0 0 Tryz.underlying36;clear hr hne;have HW:=AjK hrow;have HE:=AjK hE;have HN:=AjK hnews;clear hrow hE hnews;go_enter Tryz.func24,Tryz.ntmps24
  go_wp2_with (at_builtin;go_loud (refine wpList_append_own _ rfl _ _ 36 rfl w.heap.size 35 i0 (.agg #[.int .i64 0,S [],S [],S [],S [],S [],S [],S []]) 8 120 Tryz.underlying36 hi hz0 hz1 hz2 rfl (by omega) (.slice (some ⟨w.heap.size,0,none⟩) 0 0) 0 [] rfl HW.out a n cc cs rfl hcs HN.out h1c (by unfold maxLen;omega) (by omega) HE.out.size ?_);intro v9 w9 Br AM hnil9)
  go_ret;rw [Nat.zero_add,List.nil_append]at Br;exact⟨_,rfl,Br,HE.out.grown AM fun k hk=>by simp only [Value.ownBlock,AjR]at hk;omega⟩
section
variable {o : Oper} {a : Act} {K : Act → World → Prop} {Q : Exit → Act → World → Prop}
theorem ek(t e:TypeId)(i0:TypeInfo)(z:Value)(VZ:Nat)(ht:Tryz.prog.underlying t=some (.slice e))(hi:Tryz.prog.info? e=some i0)(hz:i0.zero=some z)(hz1:i0.size=3)(hz2:i0.bytes=VZ)(QN:z.cells.size=3)(TC:VZ<=100)
  (s x:Operand) (ho:o.op=.call {callee:=.builtin .append,args:=#[s,x],argTypes:=#[t,t]})
  (wN:World) (base:Nat) (v:Value) (n:Nat) (l:List Value) (c0 c1 c2:Value) (hs:a.eval s=v) (hown:wN.ownsRow base e 3 v n l) (hn:n<200000)
  (g:Nat) (hb:wN.heap[g]?=some (.cells #[c0,c1,c2] e)) (h1:c0.oneCell'=true/\c1.oneCell'=true/\c2.oneCell'=true) (hx:a.eval x=.slice (some ⟨g,0,none⟩) 1 1) (hbase:base<=wN.heap.size)
  (h:∀v' w',w'.ownsRow base e 3 v' (n+1) (l ++ [c0,c1,c2])→(∀w0,Aa w0 wN→w0.heap.size<=base→Aa w0 w')→wN.grownBy w' v.ownBlock→K (a.put o.dst v') w') :
  o.wp Tryz.prog a wN K Q:=
 Ng s x t ho e i0 z 3 VZ 1 ht hi hz hz1 hz2 QN (by omega) (by omega) (by omega) wN base v n l hs hown hn g _ hb (by simp) (by simp [h1.1,h1.2.1,h1.2.2]) hx hbase h
end
end
section
open Go.Sort Go.Shelf
theorem AfT(a u:Bs):∀v∈CC a u,v.oneCell'=true:=by
 intro v hv;simp only [CC,List.mem_cons,AjY,or_false]at hv
 rcases hv with rfl|rfl|rfl|rfl|rfl|rfl|rfl|rfl<;>rfl
def By:Bs:=[109,97,105,110]
theorem iI{base ba bm:Nat}{xs:List UInt8}{es:List (Int×Nat×UInt8)}{n:Nat}{f:Bs→Option Int}{w:World}(hw:Ak w)(h:BR base ba bm xs es n f w)(p:Nat)(a u:UInt8)(hu:nameB [u]=true)(NB:u=97∨u=99∨u=100)(Jc:xs.length<200)(hes:es.length=xs.length)(hn:n<100)
  (hf:f By=some (p:Int)) (hp:xs[p]?=some a) (L:Option Addr) (k:Nat) (note:Bs) (AiT:note.length<=200) (hL:Ad w L (CC (R (1/2)) [u])) (hT:BS w L 35) :
  Calls Tryz.prog 8 #[Ch ba,S By,.slice L 1 k,S note] w (fun e w'=>e=.returned (.tuple #[.int .i64 (xs.length:Nat),.int .i64 0,.int .i64 0])/\BR base ba bm (xs ++ [u]) (es ++ [((p:Int),1,u)]) n (fun l=>if l=By then some ((xs.length:Nat):Int)else f l) w'/\(∀w0,Aa w0 w→w0.heap.size<=base→Aa w0 w')/\BL w w'):=by
 have hd:=XX h By (by decide) _ hf;have hpl:p<xs.length:=(List.getElem?_eq_some_iff.1 hp).1;have al:=fun (W:World) (A B F:Option Addr) (c d g:Nat) (hx:Aa w W)=>pj a u hu NB A B F c d g L k W (hw.ext hx);unfold AE at al;obtain⟨mv,ev,D,Ms,Es,IP⟩:=h;obtain⟨KP,cm,l0,rfl,⟨A,B,F,c,d,g,rfl,A7,r1,r2,r3,CN⟩,hcell⟩:=IP.2.2.2.1.get hp;have c0:=hcell 0 _ rfl;rw [Nat.add_zero]at c0;have c1:=hcell 1 _ rfl;have c2:=hcell 2 _ rfl;have hA:=IP.2.2.1;have hb2:((p:Nat):Int)<(xs.length:Int):=(by omega);have hb3:(0:Int)<=((p:Nat):Int):=(by omega);have hb4:¬(200:Int)<=(xs.length:Int):=(by omega);have Dx:¬(200:Int)<(note.length:Int):=(by omega);have ii:=AjK hes;have HX:=AjK IP;have HL:=AjK (And.intro hL hT);clear hcell IP hL hT hes;unfold By at hd ⊢;go_enter Tryz.func8,Tryz.ntmps8;(go_wp2_with fail);(with_reducible refine hd.mono ?_);rintro e w1 ⟨rfl,hx1⟩;have k0:w1.cell? ⟨ba,0,none⟩=some (.slice (some ⟨KP,0,none⟩) xs.length cm):=Ab ((hx1.block _ (AjL hA)).trans hA) rfl;have a0:=hx1.cellS c0;have a1:=hx1.cellS c1;have a2:=hx1.cellS c2;have aa:=al w1 A B F c d g hx1 A7 (r1.ext hx1) (r2.ext hx1) (r3.ext hx1) (HL.out.1.ext hx1);clear hd al A7 r1 r2 r3 CN c0 c1 c2 hA;(go_wp2_with fail);(with_reducible refine aa.mono ?_);rintro e w2 ⟨A2,B2,F2,c2,d2,g2',rfl,A7,r1,r2,r3,hx2,CN⟩;unfold AE;have Bu:=hx1.trans hx2;clear aa hx1 hx2 a0 a1 a2 k0;have hq:=AjM w2 (.cells #[.slice A2 Af.pts.length c2,.slice B2 Af.eds.length d2,.slice F2 Af.nf g2'] 44);have xq:=(Aa.refl w2).alloc (.cells #[.slice A2 Af.pts.length c2,.slice B2 Af.eds.length d2,.slice F2 Af.nf g2'] 44);have hX:=Bu.trans xq;have hN:=Fx.tame (.ext xq) u _ ⟨A2,B2,F2,c2,d2,g2',rfl,A7,r1,r2,r3,CN⟩;have h:=HX.out.ext hX;have Ke:KP<w2.heap.size:=((HX.out.ext Bu).2.2.2.1.1.lt KP rfl).2;have hA:=h.2.2.1;have k0:(w2.alloc (.cells #[.slice A2 Af.pts.length c2,.slice B2 Af.eds.length d2,.slice F2 Af.nf g2'] 44)).cell? ⟨ba,0,none⟩=some (.slice (some ⟨KP,0,none⟩) xs.length cm):=Ab hA rfl;have HX:=AjK h;have HL:=AjK (And.intro (HL.out.1.ext hX) (HL.out.2.ext hX));have HE:=AjK hX;have HN:=AjK hN;clear h A7 r1 r2 r3 CN Bu xq hX hN
 go_upto_region 14 with fail
 generalize w2.alloc (.cells #[.slice A2 Af.pts.length c2,.slice B2 Af.eds.length d2,.slice F2 Af.nf g2'] 44)=W at *;obtain⟨bq,Bv⟩:=AjJ w2.heap.size;rw [←Bv]at hq Ke ⊢;clear Bv;have h:=HX.out;have h1:=h.1;have hM:=h.2.2.2.1.1;clear k0;have X:Aa W W.drew:=(Aa.refl W).drew;have SO:=fun (w':World) (h:w'.heap[ba]?=some (.cells #[.slice (some ⟨KP,0,none⟩) xs.length cm,ev,.map (some bm)] 79)) (h2:w'.heap[bq]?=some (.cells #[.slice A2 Af.pts.length c2,.slice B2 Af.eds.length d2,.slice F2 Af.nf g2'] 44))=>(⟨Ab h rfl,Ab h2 rfl,Ab h2 rfl,Ab h2 rfl⟩:w'.cell? ⟨ba,0,none⟩=some (.slice (some ⟨KP,0,none⟩) xs.length cm)/\w'.cell? ⟨bq,0,none⟩=some (.slice A2 Af.pts.length c2)/\w'.cell? ⟨bq,1,none⟩=some (.slice B2 Af.eds.length d2)/\w'.cell? ⟨bq,2,none⟩=some (.slice F2 Af.nf g2'));refine bV (T:=[10]) (S:=fun w'=>w'.cell? ⟨ba,0,none⟩=some (.slice (some ⟨KP,0,none⟩) xs.length cm)/\w'.cell? ⟨bq,0,none⟩=some (.slice A2 Af.pts.length c2)/\w'.cell? ⟨bq,1,none⟩=some (.slice B2 Af.eds.length d2)/\w'.cell? ⟨bq,2,none⟩=some (.slice F2 Af.nf g2')) (by kernel_rfl) (SO W.drew hA hq) (fun hHeld=>?_);refine Bz (i:=0) (v:=?_) rfl (by kernel_rfl) (fun _ _ _ h=>h) hHeld (by rfl) ?_ ?_
 rotate_left
 ·(intro w hSw;(try dsimp only at hSw);go_simp;try (with_reducible rfl))
 try simp only [Act.put,List.setIfInBounds_toArray,List.set_cons_zero,List.set_cons_succ]
 refine Bz (i:=1) (v:=?_) rfl (by kernel_rfl) (fun _ _ _ h=>h) hHeld (by rfl) ?_ ?_
 rotate_left
 ·(intro w hSw;(try dsimp only at hSw);go_simp;try (with_reducible rfl))
 try simp only [Act.put,List.setIfInBounds_toArray,List.set_cons_zero,List.set_cons_succ]
 refine Bz (i:=2) (v:=?_) rfl (by kernel_rfl) (fun _ _ _ h=>h) hHeld (by rfl) ?_ ?_
 rotate_left
 ·(intro w hSw;(try dsimp only at hSw);go_simp;try (with_reducible rfl))
 try simp only [Act.put,List.setIfInBounds_toArray,List.set_cons_zero,List.set_cons_succ]
 refine Bz (i:=3) (v:=?_) rfl (by kernel_rfl) (fun _ _ _ h=>h) hHeld (by rfl) ?_ ?_
 rotate_left
 ·(intro w hSw;(try dsimp only at hSw);go_simp;try (with_reducible rfl))
 try simp only [Act.put,List.setIfInBounds_toArray,List.set_cons_zero,List.set_cons_succ]
 refine Bz (i:=4) (v:=?_) rfl (by kernel_rfl) (fun _ _ _ h=>h) hHeld (by rfl) ?_ ?_
 rotate_left
 ·(intro w hSw;(try dsimp only at hSw);go_simp;try (with_reducible rfl))
 try simp only [Act.put,List.setIfInBounds_toArray,List.set_cons_zero,List.set_cons_succ]
 refine Bz (i:=5) (v:=?_) rfl (by kernel_rfl) (fun _ _ _ h=>h) hHeld (by rfl) ?_ ?_
 rotate_left
 ·(intro w hSw;(try dsimp only at hSw);go_simp;try (with_reducible rfl))
 try simp only [Act.put,List.setIfInBounds_toArray,List.set_cons_zero,List.set_cons_succ]
 refine Ha (i:=6) rfl (by kernel_rfl) (fun K hK=>?_)
 go_simp
 have X7:Aa W (W.drew.alloc (.cells #[.slice A2 Af.pts.length c2,.slice B2 Af.eds.length d2,.slice F2 Af.nf g2'] 44)):=X.alloc _;have EO:=(X7.block _ (AjL hA)).trans hA;have Uv:=(X7.block _ (AjL hq)).trans hq;refine hK.out _ _ (fun _=>SO _ EO Uv) (fun hH=>?_);have hHeld:=hH rfl;clear hK K hH
 try simp only [Act.put,List.setIfInBounds_toArray,List.set_cons_zero,List.set_cons_succ]
 refine Ha (i:=7) rfl (by kernel_rfl) (fun K hK=>?_);refine Eq.mpr (if_pos (Eq.refl true)) ?_;have Ey:=Am hM X7;obtain⟨i0,hi,hz0,hz1,hz2⟩:=info_parts Tryz.infoMp;refine ek 75 44 i0 _ 72 Tryz.underlying75 hi hz0 hz1 hz2 rfl (by omega) _ _ rfl _ base (.slice (some ⟨KP,0,none⟩) xs.length cm) xs.length Ms.flatten (.slice A2 Af.pts.length c2) (.slice B2 Af.eds.length d2) (.slice F2 Af.nf g2') rfl Ey (by omega) W.heap.size (AjM _ _) ⟨rfl,rfl,rfl⟩ rfl (AjX h1 (Nat.le_of_lt (AjL EO))) ?_;intro Jf w8 Ic oO Lr;have Ei:=SX Lr Ey EO (by decide);have rC:=(Lr.block _ (AjL Uv) (fun e=>by simp only [Value.ownBlock,AjR]at e;omega)).trans Uv;refine hK.out _ _ (fun _=>SO _ Ei rC) (fun hH=>?_);have hHeld:=hH rfl;clear hK K hH
 try simp only [Act.put,List.setIfInBounds_toArray,List.set_cons_zero,List.set_cons_succ]
 refine Bz (i:=8) (v:=?_) rfl (by kernel_rfl) (fun _ _ _ h=>h) hHeld (by rfl) ?_ ?_
 rotate_left
 ·(intro w hSw;(try dsimp only at hSw);go_simp;try (with_reducible rfl))
 try simp only [Act.put,List.setIfInBounds_toArray,List.set_cons_zero,List.set_cons_succ]
 refine Bz (i:=9) (v:=?_) rfl (by kernel_rfl) (fun _ _ _ h=>h) hHeld (by rfl) ?_ ?_
 rotate_left
 ·(intro w hSw;(try dsimp only at hSw);go_simp;try (with_reducible rfl))
 try simp only [Act.put,List.setIfInBounds_toArray,List.set_cons_zero,List.set_cons_succ]
 have y0:=Ab (o:=0) Ei rfl;have y1:=Ao (o:=0) Ei;obtain⟨hB,tB⟩:=(h.ext X7).maps Lr Ic rfl (HN.out.tame (.ext X7));have xB:∀w0,Aa w0 w→w0.heap.size<=base→Aa w0 (w8.setCell ⟨ba,0,none⟩ Jf):=fun w0 h0 hb=>(oO w0 ((h0.trans HE.out).trans X7) hb).setCell (p:=⟨ba,0,none⟩) (AjX hb h1) Jf;have HB:=AjK (And.intro hB (And.intro xB ((BL.ext (HE.out.trans X7)).trans tB)));have tL:=(HL.out.1.ext X7).tame (HL.out.2.ext X7) tB (by decide) (by decide) (by decide);have HL:=AjK tL;obtain⟨eW,gX,rfl,-,-,-⟩:=Ad.of_own' (by omega) Ic;clear hB xB tL tB;refine Ha (i:=10) rfl (by kernel_rfl) (fun K hK=>?_)
 go_simp
 refine hK.out _ _ (fun h=>by simp at h) (fun _=>?_);clear hK K
 try simp only [Act.put,List.setIfInBounds_toArray,List.set_cons_zero,List.set_cons_succ]
 refine Wt (by kernel_rfl) ?_ _;generalize w8.setCell ⟨ba,0,none⟩ (.slice eW (xs.length+1) gX)=W1 at *;clear hHeld Ei rC y0 y1 Ic oO Lr Ey EO Uv X7 X SO hM hq hA h Ke HX HN;have h:=HB.out.1;obtain⟨ae,ce,rfl⟩:=h.2.2.2.2.1.slice;have hA:=h.2.2.1;have hE:=h.2.2.2.2.1.1
 go_upto_region 15 with fail
 have X:Aa W1 W1.drew:=(Aa.refl W1).drew;have SO:=fun (w':World) (h:w'.heap[ba]?=some (.cells #[.slice eW (xs.length+1) gX,.slice ae es.length ce,.map (some bm)] 79))=>(Ab h rfl:w'.cell? ⟨ba,1,none⟩=some (.slice ae es.length ce));refine bV (T:=[14]) (S:=fun w'=>w'.cell? ⟨ba,1,none⟩=some (.slice ae es.length ce)) (by kernel_rfl) (SO W1.drew hA) (fun hHeld=>?_);refine Bz (i:=0) (v:=?_) rfl (by kernel_rfl) (fun _ _ _ h=>h) hHeld (by rfl) ?_ ?_
 rotate_left
 ·(intro w hSw;(try dsimp only at hSw);go_simp;try (with_reducible rfl))
 try simp only [Act.put,List.setIfInBounds_toArray,List.set_cons_zero,List.set_cons_succ]
 refine Bz (i:=1) (v:=?_) rfl (by kernel_rfl) (fun _ _ _ h=>h) hHeld (by rfl) ?_ ?_
 rotate_left
 ·(intro w hSw;(try dsimp only at hSw);go_simp;try (with_reducible rfl))
 try simp only [Act.put,List.setIfInBounds_toArray,List.set_cons_zero,List.set_cons_succ]
 refine Bz (i:=2) (v:=?_) rfl (by kernel_rfl) (fun _ _ _ h=>h) hHeld (by rfl) ?_ ?_
 rotate_left
 ·(intro w hSw;(try dsimp only at hSw);go_simp;try (with_reducible rfl))
 try simp only [Act.put,List.setIfInBounds_toArray,List.set_cons_zero,List.set_cons_succ]
 refine Bz (i:=3) (v:=?_) rfl (by kernel_rfl) (fun _ _ _ h=>h) hHeld (by rfl) ?_ ?_
 rotate_left
 ·(intro w hSw;(try dsimp only at hSw);go_simp;try (with_reducible rfl))
 try simp only [Act.put,List.setIfInBounds_toArray,List.set_cons_zero,List.set_cons_succ]
 refine Bz (i:=4) (v:=?_) rfl (by kernel_rfl) (fun _ _ _ h=>h) hHeld (by rfl) ?_ ?_
 rotate_left
 ·(intro w hSw;(try dsimp only at hSw);go_simp;try (with_reducible rfl))
 try simp only [Act.put,List.setIfInBounds_toArray,List.set_cons_zero,List.set_cons_succ]
 refine Bz (i:=5) (v:=?_) rfl (by kernel_rfl) (fun _ _ _ h=>h) hHeld (by rfl) ?_ ?_
 rotate_left
 ·(intro w hSw;(try dsimp only at hSw);go_simp;try (with_reducible rfl))
 try simp only [Act.put,List.setIfInBounds_toArray,List.set_cons_zero,List.set_cons_succ]
 refine Bz (i:=6) (v:=?_) rfl (by kernel_rfl) (fun _ _ _ h=>h) hHeld (by rfl) ?_ ?_
 rotate_left
 ·(intro w hSw;(try dsimp only at hSw);go_simp;try (with_reducible rfl))
 try simp only [Act.put,List.setIfInBounds_toArray,List.set_cons_zero,List.set_cons_succ]
 refine Bz (i:=8) (v:=?_) rfl (by kernel_rfl) (fun _ _ _ h=>h) hHeld (by rfl) ?_ ?_
 rotate_left
 ·(intro w hSw;(try dsimp only at hSw);go_simp;try (with_reducible rfl))
 try simp only [Act.put,List.setIfInBounds_toArray,List.set_cons_zero,List.set_cons_succ]
 refine Ha (i:=7) rfl (by kernel_rfl) (fun K hK=>?_)
 go_simp
 (with_reducible refine(wh (CC (R (1/2)) [u]) 1 rfl (AfT _ _) L k W1.drew (HL.out.1.ext X) (by omega) (fun e=>by obtain⟨b,o,e',_⟩:=HL.out.1.ad (by rw [show (CC (R (1/2)) [u]).length=8 from rfl];omega);rw [e]at e';cases e')).mono ?_);rintro e w14 ⟨v14,rfl,hown14,hx14⟩;obtain⟨L2,z2,rfl,hc2,hl2,hz2⟩:=Ad.of_own' (by omega) hown14;have Nx:=X.trans hx14;have SZ:=(Nx.block _ (AjL hA)).trans hA;refine hK.out _ _ (fun _=>SO _ SZ) (fun hH=>?_);have hHeld:=hH rfl;clear hK K hH
 try simp only [Act.put,List.setIfInBounds_toArray,List.set_cons_zero,List.set_cons_succ]
 refine Bz (i:=9) (v:=?_) rfl (by kernel_rfl) (fun _ _ _ h=>h) hHeld (by rfl) ?_ ?_
 rotate_left
 ·(intro w hSw;(try dsimp only at hSw);go_simp;try (with_reducible rfl))
 try simp only [Act.put,List.setIfInBounds_toArray,List.set_cons_zero,List.set_cons_succ]
 refine Ha (i:=10) rfl (by kernel_rfl) (fun K hK=>?_)
 go_simp
 have KI:Aa w14 (w14.alloc (.cells #[.int .i64 (p:Nat),.slice L2 1 z2,S note] 48)):=(Aa.refl w14).alloc _;have Ta:=(KI.block _ (AjL SZ)).trans SZ;refine hK.out _ _ (fun _=>SO _ Ta) (fun hH=>?_);have hHeld:=hH rfl;clear hK K hH
 try simp only [Act.put,List.setIfInBounds_toArray,List.set_cons_zero,List.set_cons_succ]
 refine Ha (i:=11) rfl (by kernel_rfl) (fun K hK=>?_);refine Eq.mpr (if_pos (Eq.refl true)) ?_;have WO:=Am hE (Nx.trans KI);obtain⟨i1,JU,Dk,hy1,hy2⟩:=info_parts Tryz.infoEn;refine ek 76 48 i1 _ 48 Tryz.underlying76 JU Dk hy1 hy2 rfl (by omega) _ _ rfl _ base (.slice ae es.length ce) es.length Es.flatten (.int .i64 (p:Nat)) (.slice L2 1 z2) (S note) rfl WO (by have:=ii.out;omega) w14.heap.size (AjM _ _) ⟨rfl,rfl,rfl⟩ rfl (AjX h1 (Nat.le_of_lt (AjL Ta))) ?_;intro IJ dr YG oM Yh;have Tb:=SX Yh WO Ta (by decide);refine hK.out _ _ (fun _=>SO _ Tb) (fun hH=>?_);have hHeld:=hH rfl;clear hK K hH
 try simp only [Act.put,List.setIfInBounds_toArray,List.set_cons_zero,List.set_cons_succ]
 refine Bz (i:=12) (v:=?_) rfl (by kernel_rfl) (fun _ _ _ h=>h) hHeld (by rfl) ?_ ?_
 rotate_left
 ·(intro w hSw;(try dsimp only at hSw);go_simp;try (with_reducible rfl))
 try simp only [Act.put,List.setIfInBounds_toArray,List.set_cons_zero,List.set_cons_succ]
 refine Bz (i:=13) (v:=?_) rfl (by kernel_rfl) (fun _ _ _ h=>h) hHeld (by rfl) ?_ ?_
 rotate_left
 ·(intro w hSw;(try dsimp only at hSw);go_simp;try (with_reducible rfl))
 try simp only [Act.put,List.setIfInBounds_toArray,List.set_cons_zero,List.set_cons_succ]
 have y0:=Ab (o:=1) Tb rfl;have y1:=Ao (o:=1) Tb;obtain⟨hB,tB⟩:=(h.ext (Nx.trans KI)).ents (x:=((p:Int),1,u)) Yh YG rfl ⟨L2,z2,⟨note.toArray⟩,rfl,hl2,hz2,by simpa [Fv]using hc2.ext KI,(BS.of_own hown14).ext KI⟩;have xB:∀w0,Aa w0 w→w0.heap.size<=base→Aa w0 (dr.setCell ⟨ba,1,none⟩ IJ):=fun w0 h0 hb=>(oM w0 (((HB.out.2.1 w0 h0 hb).trans Nx).trans KI) hb).setCell (p:=⟨ba,1,none⟩) (AjX hb h1) IJ;have HB:=AjK (And.intro hB (And.intro xB ((HB.out.2.2.trans (BL.ext (Nx.trans KI))).trans tB)));obtain⟨om,ug,rfl,-,-,-⟩:=Ad.of_own' (by omega) YG;clear hB xB tB;refine Ha (i:=14) rfl (by kernel_rfl) (fun K hK=>?_)
 go_simp
 refine hK.out _ _ (fun h=>by simp at h) (fun _=>?_);clear hK K
 try simp only [Act.put,List.setIfInBounds_toArray,List.set_cons_zero,List.set_cons_succ]
 refine Wt (by kernel_rfl) ?_ _;generalize dr.setCell ⟨ba,1,none⟩ (.slice om (es.length+1) ug)=W2 at *;clear hHeld Tb y0 y1 YG oM Yh WO Ta SZ Nx KI X SO hE hA h hown14 hx14 hc2;obtain⟨w9,qD,hC,xC,tC⟩:=BR.head ⟨_,_,_,_,_,HB.out.1⟩ (by omega) By (by decide) ((xs.length:Nat):Int) (WalkArith.wf_i64 (by omega));have k2:W2.cell? ⟨ba,2,none⟩=some (.map (some bm)):=Ab HB.out.1.2.2.1 rfl;rw [hf,Option.isSome_some,if_pos rfl]at hC;have HC:=AjK (And.intro hC (And.intro (fun w0 h0 hb=>xC w0 (HB.out.2.1 w0 h0 hb) hb) (HB.out.2.2.trans tC)));unfold By at qD;clear hC xC tC;go_wp2;go_ret3;exact⟨rfl,HC.out⟩
end
section
open Go.Maps Go.Sort Go.Shelf
theorem sr(A B F:Option Addr)(c d g:Nat)(w:World)(hw:Ak w)(A7:Cf Af c d g)(hA:Ad w A (flat (Aq Af.pts)))(hB:Ad w B (AA Af.eds))(hF:Ad w F ([[97],[98]].map S))(DV:∀x,F=some x→x.block<w.heap.size) :
  Calls Tryz.prog 20 #[AE A B F Af c d g,S By] w (fun e w'=>∃ba bm,e=.returned (.tuple #[Ch ba,.int .i64 0])/\Aa w w'/\BR w.heap.size ba bm [97] [((-1:Int),0,97)] 1 (fun l=>if l=By then some 0 else none) w'):=by
 have hM:=AjM w (.cells #[.slice A Af.pts.length c,.slice B Af.eds.length d,.slice F Af.nf g] 44);have hE:=(Aa.refl w).alloc (.cells #[.slice A Af.pts.length c,.slice B Af.eds.length d,.slice F Af.nf g] 44);have cn:=wn 97 (.inl rfl) A B F c d g (w.alloc (.cells #[.slice A Af.pts.length c,.slice B Af.eds.length d,.slice F Af.nf g] 44)) (hw.ext hE) A7 (hA.ext hE) (hB.ext hE) (hF.ext hE) (fun x hx=>by rw [AjU];exact Nat.lt_succ_of_lt (DV x hx));have LD:=fun W=>Zr By (by decide) W;rw [show nameB By=true by decide]at LD;unfold By at LD;unfold AE at cn ⊢;have k0:=Ab (o:=0) hM rfl;have k1:=Ab (o:=1) hM rfl;have k2:=Ab (o:=2) hM rfl;show Calls Tryz.prog 20 #[.agg #[.slice A Af.pts.length c,.slice B Af.eds.length d,.slice F Af.nf g],S [109,97,105,110]] w _;clear A7 hA hB hF DV;go_enter Tryz.func20,Tryz.ntmps20;(go_wp2_with fail);(with_reducible refine cn.mono ?_);rintro e w1 ⟨A2,B2,F2,c2,d2,g2,rfl,A7,r1,r2,r3,-,hx1,CN⟩;unfold AE;have hq:=AjM w1 (.cells #[.slice A2 Af.pts.length c2,.slice B2 Af.eds.length d2,.slice F2 Af.nf g2] 44);have xq:=(Aa.refl w1).alloc (.cells #[.slice A2 Af.pts.length c2,.slice B2 Af.eds.length d2,.slice F2 Af.nf g2] 44);have hN:=Fx.tame (.ext xq) 97 _ ⟨A2,B2,F2,c2,d2,g2,rfl,A7,r1,r2,r3,CN⟩;have hX:=(hE.trans hx1).trans xq;have im:=LD (w1.alloc (.cells #[.slice A2 Af.pts.length c2,.slice B2 Af.eds.length d2,.slice F2 Af.nf g2] 44));clear cn LD k0 k1 k2 hE hx1 xq A7 r1 r2 r3 CN;(go_wp2_with fail);(with_reducible refine im.mono ?_);rintro e w2 ⟨rfl,hx2⟩;have Cc:=(hx2.block _ (AjL hq)).trans hq;generalize w1.heap.size=bq at *;have q0:=Ab (o:=0) Cc rfl;have q1:=Ab (o:=1) Cc rfl;have q2:=Ab (o:=2) Cc rfl;have Bu:=hX.trans hx2;have Gj:=Fx.tame (.ext hx2) 97 _ hN;have e1:=(Aa.refl w2).alloc (.cells #[.slice A2 Af.pts.length c2,.slice B2 Af.eds.length d2,.slice F2 Af.nf g2] 44);have v1:=World.ownsRow_lit (base:=w.heap.size) (e:=44) (size:=3) w2 #[.slice A2 Af.pts.length c2,.slice B2 Af.eds.length d2,.slice F2 Af.nf g2] 1 Bu.size (by unfold maxLen;omega) rfl;generalize hw3:w2.alloc (.cells #[.slice A2 Af.pts.length c2,.slice B2 Af.eds.length d2,.slice F2 Af.nf g2] 44)=w3 at *;have Bd:=Bu.trans e1;have e2:=(Aa.refl w3).alloc (.cells #[.int .i64 (-1),.slice none 0 0,S []] 48);have v2:=World.ownsRow_lit (base:=w.heap.size) (e:=48) (size:=3) w3 #[.int .i64 (-1),.slice none 0 0,S []] 1 Bd.size (by unfold maxLen;omega) rfl;have s3:w3.heap.size=w2.heap.size+1:=(by rw [←hw3];simp);generalize hw4:w3.alloc (.cells #[.int .i64 (-1),.slice none 0 0,S []] 48)=w4 at *;have BB:=Bd.trans e2;have e3:=(Aa.refl w4).alloc (.map #[] 0);have Y0:Pm (w4.alloc (.map #[] 0)) w4.heap.size 0 (.map []):=World.ownsMap_made w4 _ _ _;have hmm:=@run_makeMap Tryz.prog;obtain⟨w5,pP,hown,hturn⟩:=Y0.store (string_keyed Tryz.underlying9) Tryz.underlying77 (by unfold maxLen;omega) (Oy (l:=By) (by decide)) (plainElem_int (H:=Unit) (a:=0) Tryz.underlying3 (by decide));have hg:=hturn.grown;obtain⟨WA,c0,hm⟩:=O4 Y0;have e6:=(Aa.refl w5).alloc (.cells #[.slice (some ⟨w2.heap.size,0,none⟩) 1 1,.slice (some ⟨w3.heap.size,0,none⟩) 1 1,.map (some w4.heap.size)] 79)
 have NC:=AjM w5 (.cells #[.slice (some ⟨w2.heap.size,0,none⟩) 1 1,.slice (some ⟨w3.heap.size,0,none⟩) 1 1,.map (some w4.heap.size)] 79);have u1:=Am (UN hm hg (Am v1 (e2.trans e3))) e6;have u2:=Am (UN hm hg (Am v2 e3)) e6;have t1:BL w2 _:=((BL.ext ((e1.trans e2).trans e3)).trans (BL.map hm hg)).trans (BL.ext e6);have Bw:Aa w w5:=(BB.trans e3).grown hg (fun k hk=>by obtain rfl:=Option.some.inj hk;exact BB.size)
 have AU:BR w.heap.size w5.heap.size w4.heap.size [97] [((-1:Int),0,97)] 1 (fun l=>if l=By then some 0 else none) (w5.alloc (.cells #[.slice (some ⟨w2.heap.size,0,none⟩) 1 1,.slice (some ⟨w3.heap.size,0,none⟩) 1 1,.map (some w4.heap.size)] 79)):=by
  refine⟨_,_,_,[[.slice A2 Af.pts.length c2,.slice B2 Af.eds.length d2,.slice F2 Af.nf g2]],[[.int .i64 (-1),.slice none 0 0,S []]],Bw.size,BB.size,NC,⟨by simpa using u1,rfl,by simp,fun i x hx=>?_⟩,⟨by simpa using u2,rfl,by simp,fun i x hx=>?_⟩,hown.alloc _,(CZ.empty encI).put By 0,(CZ.empty encI).size_put By _⟩
  ·match i,hx with
   | 0,hx=>obtain rfl:=Option.some.inj hx;exact⟨_,rfl,Fx.tame t1 97 _ Gj⟩
   | n+1,hx=>simp at hx
  ·match i,hx with
   | 0,hx=>obtain rfl:=Option.some.inj hx;exact⟨_,rfl,none,0,_,rfl,AjN _,by decide,⟨fun h=>by cases h⟩,fun x hx=>by cases hx⟩
   | n+1,hx=>simp at hx
 have HF:=AjK (And.intro (Bw.trans e6) AU);unfold By at pP;clear u1 u2 t1 AU NC e6 Bw BB Bd Bu hX v1 v2 Y0 hown hturn hg hm hN Gj e1 e2 e3 hx2 hq Cc hM;subst hw4 hw3;simp only [AjU]at pP HF;go_wp2;go_ret2;exact⟨_,_,rfl,HF.out⟩
theorem fV{base ba bm:Nat}{xs:List UInt8}{es:List (Int×Nat×UInt8)}{n:Nat}{f:Bs→Option Int}{w:World}(h:BR base ba bm xs es n f w)(k:Bs)(hk:k.length<=1000)(Uo:nameB k=true)(hf:f k=none)(hn:n<=20)(Jc:0<xs.length) :
  Calls Tryz.prog 9 #[Ch ba,S k,.int .i64 0] w (fun e w'=>(n<20→e=.returned (.int .i64 0)/\BR base ba bm xs es (n+1) (fun l=>if l=k then some 0 else f l) w')/\(n=20→e=.returned (.int .i64 4)/\BR base ba bm xs es n f w')/\∀w0,Aa w0 w→w0.heap.size<=base→Aa w0 w'):=by
 have LD:=fun W=>Zr k (by omega) W;rw [Uo]at LD;have HQ:=AjK h;obtain⟨mv,ev,D,Ms,Es,-,-,hA,hM,-,hD,TU,hsz⟩:=h;have hlk:=oK hD TU k (by unfold maxLen;omega);rw [hf]at hlk;simp only [Option.getD_none,Option.isSome_none]at hlk;have k2:w.cell? ⟨ba,2,none⟩=some (.map (some bm)):=Ab hA rfl;clear hM hD TU hsz;go_enter Tryz.func9,Tryz.ntmps9;(go_wp2_with fail);(with_reducible refine(LD w).mono ?_);rintro e w1 ⟨rfl,hx1⟩;have h1:=HQ.out.ext hx1;have Jt:=AjK h1;have IP:=AjK (fun w0 (h0:Aa w0 w) (_:w0.heap.size<=base)=>h0.trans hx1);obtain⟨mv,ev,D,Ms,Es,-,-,hA,hM,-,hD,TU,hsz⟩:=h1;have Em:=hD.len Tryz.underlying77 3;rw [hsz]at Em;have k2:w1.cell? ⟨ba,2,none⟩=some (.map (some bm)):=Ab hA rfl;clear hlk LD hA hM hD TU hsz hx1;by_cases GK:n<20
 ·have hb1:¬(20:Int)<=(n:Int):=(by omega);have e1:=(Aa.refl w1).alloc (.cells #[.int .i64 0] 3);have hl:=AjM w1 (.cells #[.int .i64 0] 3);have ck:=S3 (Jt.out.ext e1) [0] (some ⟨w1.heap.size,0,none⟩) 1 (Ad.blk hl) (by decide) (by decide) (by intro e he;simp at he;subst he;omega);simp only [List.length_cons,List.length_nil,Nat.zero_add]at ck;clear hl;(go_wp2_with fail);(with_reducible refine ck.mono ?_);rintro e w2 ⟨rfl,hx2⟩;have h2:=(Jt.out.ext e1).ext hx2;obtain⟨w9,qD,hC,xC,-⟩:=h2.head (by omega) k (by unfold maxLen;omega) 0 (by decide);rw [hf]at hC;simp only [Option.isSome_none,Bool.false_eq_true,if_false]at hC;have k2:w2.cell? ⟨ba,2,none⟩=some (.map (some bm)):=(by obtain⟨mv,ev,D,Ms,Es,-,-,hA,-⟩:=h2;exact Ab hA rfl);have HC:=AjK (And.intro hC (fun w0 h0 hb=>xC w0 (((IP.out w0 h0 hb).trans e1).trans hx2) hb));clear ck hC xC h2 e1 hx2;go_wp2;go_ret;exact⟨fun _=>⟨rfl,HC.out.1⟩,fun h=>by omega,HC.out.2⟩
 ·have hb1:(20:Int)<=(n:Int):=(by omega);go_wp2;go_ret;exact⟨fun h=>by omega,fun _=>⟨rfl,Jt.out⟩,IP.out⟩
end
end Go.Proofs.YtnfedbopbcegjaaGreatDoor
