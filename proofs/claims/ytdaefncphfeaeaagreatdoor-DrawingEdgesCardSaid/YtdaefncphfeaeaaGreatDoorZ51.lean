/- Z51: T8. -/
import Derived.Test.YtdaefncphfeaeaaGreatDoorZ50
import Derived.Test.YtdaefncphfeaeaaGreatDoorZ49
set_option maxRecDepth 100000
set_option maxHeartbeats 16000000
namespace Go.Proofs.YtdaefncphfeaeaaGreatDoor
open Go.RowKit Kl Go.Shelf
structure Qd(w:World)(A B F:Option Addr)(c d g:Nat)(m:B7)(Al:List Bs):Prop where
 cap:IW m c d g
 pts:Am w A (flat (AI m.pts))
 eds:Am w B (Ce m.eds)
 fac:Am w F (Al.map S)
 nf:m.nf=Al.length
 le:Al.length<=26
 sheet:∀p∈m.pts,BL p
theorem Qd.ext{w w':World}{A B F:Option Addr}{c d g:Nat}{m:B7}{Al:List Bs}(h:Qd w A B F c d g m Al)(hx:Aa w w'):Qd w' A B F c d g m Al:=
 ⟨h.cap,h.pts.ext hx,h.eds.ext hx,h.fac.ext hx,h.nf,h.le,h.sheet⟩
theorem MapAt.toR{w:World}{n:Nat}{AC:List Bs}{A B F:Option Addr}{c d g:Nat}{m:B7}{Al:List Bs}(h:MapAt w n AC A B F c d g m Al)(hn:n<=18):Qd w A B F c d g m Al:=
 ⟨h.cap,h.pts,h.eds,h.fac,h.nf,by have:=h.le;omega,h.sheet⟩
theorem Am.setCell{w:World}{A:Option Addr}{cs:List Value}{q k:Nat}(h:Am w A cs)(hq:NI q A cs)(v:Value):Am (w.setCell ⟨q,k,none⟩ v) A cs:=
 ⟨fun h0=>by
  obtain⟨b,o,e,hc⟩:=h.ad h0;refine⟨b,o,e,fun j hj=>?_⟩;have hb:b≠q:=hq ⟨b,o,none⟩ e h0;have h1:(w.setCell ⟨q,k,none⟩ v).heap[b]?=w.heap[b]?:=EP (by exact hb);rw [World.cell?_of_block (a:=⟨b,o+j,none⟩) h1]
  exact hc j hj⟩
theorem AdY{u v:Act}(h1:u.tmps=v.tmps)(h2:u.defers=v.defers):u=v:=by
 cases u;cases v;simp only at h1 h2;subst h1;subst h2;rfl
theorem GW.lit{a0 a:Act}(h:GW K3 a0 a)(hs:19<a0.tmps.size):a=((((((a0.put (some 7) (a.eval (.tmp 7))).put (some 8) (a.eval (.tmp 8))).put (some 16) (a.eval (.tmp 16))).put (some 17) (a.eval (.tmp 17))).put (some 18) (a.eval (.tmp 18))).put (some 19) (a.eval (.tmp 19))):=by
 have ht:a.tmps=((((((a0.put (some 7) (a.eval (.tmp 7))).put (some 8) (a.eval (.tmp 8))).put (some 16) (a.eval (.tmp 16))).put (some 17) (a.eval (.tmp 17))).put (some 18) (a.eval (.tmp 18))).put (some 19) (a.eval (.tmp 19))).tmps:=by
  apply Array.ext_getElem?;intro d
  have hv:∀e:Nat,e<=19→a.tmps[e]?=some (a.eval (.tmp e)):=by intro e he;have hlt:e<a.tmps.size:=(by rw [h.size];omega);simp only [Act.eval,Array.getD_eq_getD_getElem?,Array.getElem?_eq_getElem hlt,Option.getD_some]
  simp only [Act.put,Array.getElem?_setIfInBounds,Array.size_setIfInBounds];by_cases k1:19=d
  ·subst k1;rw [if_pos rfl,if_pos hs];exact hv 19 (by decide)
  by_cases k2:18=d
  ·subst k2;rw [if_neg k1,if_pos rfl,if_pos (by omega)];exact hv 18 (by decide)
  by_cases k3:17=d
  ·subst k3;rw [if_neg k1,if_neg k2,if_pos rfl,if_pos (by omega)];exact hv 17 (by decide)
  by_cases k4:16=d
  ·subst k4;rw [if_neg k1,if_neg k2,if_neg k3,if_pos rfl,if_pos (by omega)];exact hv 16 (by decide)
  by_cases k5:8=d
  ·subst k5;rw [if_neg k1,if_neg k2,if_neg k3,if_neg k4,if_pos rfl,if_pos (by omega)];exact hv 8 (by decide)
  by_cases k6:7=d
  ·subst k6;rw [if_neg k1,if_neg k2,if_neg k3,if_neg k4,if_neg k5,if_pos rfl,if_pos (by omega)];exact hv 7 (by decide)
  rw [if_neg k1,if_neg k2,if_neg k3,if_neg k4,if_neg k5,if_neg k6];exact h.same d (by unfold K3;omega)
 have hd:a.defers=((((((a0.put (some 7) (a.eval (.tmp 7))).put (some 8) (a.eval (.tmp 8))).put (some 16) (a.eval (.tmp 16))).put (some 17) (a.eval (.tmp 17))).put (some 18) (a.eval (.tmp 18))).put (some 19) (a.eval (.tmp 19))).defers:=by simp only [Act.put];exact h.defers
 exact AdY ht hd
theorem Agf(f:Fr)(hf:f.Ok)(p:Pl)(hp:p.Ok)(wrong:Bool)(w:World)(hw:Ai w):Calls Tryz.prog 4 #[Ng f,Lm p,.bool wrong] w (Dq true w):=by
 obtain⟨cs,hcs⟩:=AcG ((My p).toArray);have hV:Lm p=.agg cs:=(by rw [hcs];rfl);rw [hV];unfold Ng;have bQ:=Asb (AgM f)
 obtain⟨V,Ty,EV,hb3,hb4⟩:∃V,V=(w.alloc (.cells #[.int .i8 f.a,.int .i8 f.b,.int .u8 f.s,.int .u8 f.t,.int .u8 f.u,.int .u8 f.v] 26)).alloc (.cells cs 31)/\Aa w V/\V.heap[w.heap.size]?=some (.cells #[.int .i8 f.a,.int .i8 f.b,.int .u8 f.s,.int .u8 f.t,.int .u8 f.u,.int .u8 f.v] 26)/\V.heap[w.heap.size+1]?=some (.cells cs 31):=by
  refine⟨_,rfl,((Aa.refl _).alloc _).alloc _,(Below.heap_alloc _ _ _ (by simp)).trans (Ase w _),?_⟩;have h:=Ase (w.alloc (.cells #[.int .i8 f.a,.int .i8 f.b,.int .u8 f.s,.int .u8 f.t,.int .u8 f.u,.int .u8 f.v] 26)) (.cells cs 31)
  rwa [Asn]at h
 have kn:=Akz V (hw.ext EV);have HP:=Asb (And.intro hf hp);have Ou:=Asb hcs;clear hcs hV hf hp;go_enter Tryz.func4,Tryz.ntmps4
 go_upto_region 1 with fail
 rw [←Ty];obtain⟨bf,GG⟩:=AcG w.heap.size;rw [←GG]at hb3 hb4 ⊢;clear Ty GG;(go_wp2_with fail);(with_reducible refine kn.mono ?_);rintro e w1 ⟨rfl,hx1⟩;have h3:=hx1.alive hb3;have h4:=hx1.alive hb4;have D9:=EV.trans hx1;rw [Ou.out]at h4;clear kn hb3 hb4 hx1 EV
 go_upto_region 3 with fail
 refine Anu f HP.out.1 p HP.out.2 (hw.ext D9) bf (bf+1) h3 h4 rfl rfl (by simp) rfl rfl rfl rfl (by kernel_rfl) rfl rfl rfl rfl (by kernel_rfl) rfl rfl rfl rfl rfl rfl (by kernel_rfl) (by kernel_rfl) rfl rfl (by kernel_rfl) (by kernel_rfl) (by kernel_rfl) ?_;intro a w2 b7 b8 n AC A B F ca cb cf m Al Du;have FP:=Du.fr.lit (by simp);rw [Du.e7,Du.e8]at FP;generalize a.eval (.tmp 16)=v16 at FP;generalize a.eval (.tmp 17)=v17 at FP;generalize a.eval (.tmp 18)=v18 at FP;generalize a.eval (.tmp 19)=v19 at FP;rw [FP];have N1:=Du.h7;have N2:=Du.h8;have hR:=Du.map.toR Du.n18;have NE:=Du.ni8;have Cs:=D9.trans Du.ext;have il:w.heap.size<=b8:=Asq D9.size Du.g8;have Gt:w.heap.size<=b7:=Asq D9.size Du.g7;have AiF:Al.length<=18:=(by have:=Du.map.le;have:=Du.n18;omega);clear FP Du h3 h4 D9;unfold ptr;simp only [Act.put,List.setIfInBounds_toArray,List.set_cons_succ,List.set_cons_zero];unfold OC at N1;unfold Lf at N2;have rz:(DT f).W<=60/\(DT f).H<=60:=⟨by show (1+f.u%30).toNat<=60;omega,by show (1+f.v%30).toNat<=60;omega⟩;have rJ:=Asb rz;clear rz;generalize DT f=c at *;have AiX:b7≠b8:=WJ N1 N2 (by decide)
 go_upto_if 20 with fail
 go_cut [7] (fun v7 wx=>v7=.pointer (some ⟨b7,0,none⟩)/\∃(F':Option Addr) (Gi:Nat) (m':B7) (Nf:List Bs),wx.heap[b7]?=some (.cells #[S (R c.low.x),S (R c.low.y),S (R c.high.x),S (R c.high.y),.int .i64 (c.W:Nat),.int .i64 (c.H:Nat)] 37)/\wx.heap[b8]?=some (.cells #[.slice A m'.pts.length ca,.slice B m'.eds.length cb,.slice F' m'.nf Gi] 43)/\Qd wx A B F' ca cb Gi m' Nf/\Aa w wx)
 case first=>
  cases wrong
  ·go_wp2;go_meet;exact⟨rfl,F,cf,m,Al,N1,N2,hR,Cs⟩
  ·have y2:w2.cell? ⟨b8,2,none⟩=some (.slice F m.nf cf):=Ab N2 rfl;have cl:=uN Al F cf w2 hR.fac (by omega);rw [←hR.nf]at cl;have bO:=Asb hR.nf;(go_wp2_with fail);(with_reducible refine cl.mono ?_);rintro e w3 ⟨v3,rfl,Dl,hx3⟩;obtain⟨A3,c3,rfl⟩:=IL (by omega) Dl;have Ek:=Cs.trans hx3;have iJ:=hx3.alive N1;have iK:=hx3.alive N2;clear y2 cl N1 N2;have EA:=(Aa.refl w3).alloc (.cells #[S [122]] 9);have hb3:w2.heap.size<=w3.heap.size:=hx3.size;have AiK:=Asd iK;have AiJ:=Asd iJ;have Y2:=AL Dl iK (by decide);have AiW:=AL Dl iJ (by decide)
   go_wp2_with (at_builtin;go_loud (refine sQ rfl _ _ rfl _ w2.heap.size (.slice A3 Al.length c3) Al.length Al rfl (Ap Dl EA) (by omega) [122] w3.heap.size (Ase w3 _) rfl (by simp;omega) ?_);intro v9 w9 BN CG Bh;have T8:=(Bh.block b8 (Asp AiK EA.size) (fun e=>Y2 e.symm)).trans (EA.alive iK);have T7:=(Bh.block b7 (Asp AiJ EA.size) (fun e=>AiW e.symm)).trans (EA.alive iJ);have y2:=Ab (o:=2) T8 rfl;have y3:=An (o:=2) T8;obtain⟨F',Gi,rfl⟩:=IL (by omega) BN)
   have H8:=CG w2 (hx3.trans EA) (Asf _);obtain⟨F2,c2,JX,AU,B8,BR⟩:=Am.of_own' (by omega) BN;simp only [Value.slice.injEq,true_and]at JX;obtain⟨rfl,rfl⟩:=JX;have Bu:=AL BN T8 (by decide);have Nk:=hR.ext H8
   have hnF:NI b8 F' ((Al ++ [[122]]).map S):=by rintro x rfl-e;exact Bu (by rw [←e];rfl)
   have kj:Qd (w9.setCell ⟨b8,2,none⟩ (.slice F' (Al.length+1) Gi)) A B F' ca cb Gi ⟨m.pts,m.eds,Al.length+1⟩ (Al ++ [[122]]):=
    ⟨⟨Nk.cap.c1,Nk.cap.c2,Nk.cap.d1,Nk.cap.d2,B8,BR⟩,Nk.pts.setCell NE.a _,Nk.eds.setCell NE.b _,AU.setCell hnF _,by simp,by simp;omega,Nk.sheet⟩
   have zQ:=dN (.slice F' (Al.length+1) Gi) T8;have zP:(w9.setCell ⟨b8,2,none⟩ (.slice F' (Al.length+1) Gi)).heap[b7]?=_:=(EP (by exact AiX)).trans T7;have Np:Aa w (w9.setCell ⟨b8,2,none⟩ (.slice F' (Al.length+1) Gi)):=(Cs.trans H8).setCell (p:=⟨b8,2,none⟩) il _;have HH:=Asb (And.intro zP (And.intro zQ (And.intro kj Np)));clear zP zQ kj Np Nk AU BN CG Bh;go_wp2;go_meet;exact⟨rfl,F',Gi,⟨m.pts,m.eds,Al.length+1⟩,Al ++ [[122]],HH.out.1,HH.out.2.1,HH.out.2.2.1,HH.out.2.2.2⟩
 case rest=>
  obtain⟨rfl,F',Gi,m',Nf,h7,h8,Fl,Ek⟩:=hcut;obtain⟨w3,rfl⟩:=GN Ek;clear N1 N2 hR NE Cs AiF Gt il;have fJ:=bQ.out;have eo:=fun (w':World) (hx:Aa w3 w')=>Agi c fJ m' Fl.sheet A B F' ca cb Gi Fl.cap w' (hw.ext (Ek.trans hx)) (Fl.pts.ext hx) (Fl.eds.ext hx);have po:=fun (w':World) (hx:Aa w3 w')=>Amb c fJ rJ.out.1 rJ.out.2 m' Fl.sheet A B F' ca cb Gi Fl.cap Nf Fl.nf Fl.le w' (hw.ext (Ek.trans hx)) (Fl.pts.ext hx) (Fl.eds.ext hx) (Fl.fac.ext hx);have pc:=fun (w':World) (hx:Aa w3 w')=>nN m' (fun p hp=>(Fl.sheet p hp).on) A B F' ca cb Gi Fl.cap w' (hw.ext (Ek.trans hx)) (Fl.pts.ext hx) (Fl.eds.ext hx)
  have eq:=fun (w':World) (hx:Aa w3 w') (h0:Ds m'=0) (D:Option Addr) (cd:Nat) (hD:Am w' D (Fi c m'.pts m'.eds)) (k1:m'.eds.length<=cd) (k2:cd<=9223372036854775807)=>Agy c fJ m' Fl.sheet (fun e he=>⟨(WS h0 e he).1,(WS h0 e he).2.1⟩) A B F' ca cb Gi b7 b8 Fl.cap w' (hw.ext (Ek.trans hx)) (Fl.pts.ext hx) (Fl.eds.ext hx) (hx.alive h7) (hx.alive h8) D cd hD k1 k2
  unfold BQ Dh at eo po pc;have fu:∀w',aS c m' w'=fun e w''=>∃v,e=.returned (.tuple #[v,.int .i64 (Ds m')])/\(Ds m'≠0→v=.slice none 0 0)/\(Ds m'=0→w''.ownsRow w'.heap.size 62 4 v m'.eds.length (Fi c m'.pts m'.eds))/\Aa w' w'':=fun _=>rfl;have m5:∀w',cI m' w'=fun e w''=>∃v,e=.returned (.tuple #[v,.int .i64 (Ds m')])/\(Ds m'≠0→v=.slice none 0 0)/\(∃A n k,v=.slice A n k)/\Aa w' w'':=fun _=>rfl;simp only [fu]at eo;simp only [m5]at po;obtain⟨ck,hck⟩:=AcG (Ds m');simp only [←hck]at eo po pc eq;have MG:=Asb eq;clear hck eq fu m5;have z0:=Ab (o:=0) h7 rfl;have z1:=Ab (o:=1) h7 rfl;have z2:=Ab (o:=2) h7 rfl;have z3:=Ab (o:=3) h7 rfl;have z4:=Ab (o:=4) h7 rfl;have z5:=Ab (o:=5) h7 rfl;have y0:=Ab (o:=0) h8 rfl;have y1:=Ab (o:=1) h8 rfl;have y2:=Ab (o:=2) h8 rfl;have e1:=eo w3 (Aa.refl _);(go_wp2_with fail);(with_reducible refine e1.mono ?_);rintro e w4 ⟨v4,rfl,hn4,Dw,Af⟩;have OK:=Af.alive h7;have Xr:=Af.alive h8;clear z0 z1 z2 z3 z4 z5 y0 y1 y2 e1 eo;have z0:=Ab (o:=0) OK rfl;have z1:=Ab (o:=1) OK rfl;have z2:=Ab (o:=2) OK rfl;have z3:=Ab (o:=3) OK rfl;have z4:=Ab (o:=4) OK rfl;have z5:=Ab (o:=5) OK rfl;have y0:=Ab (o:=0) Xr rfl;have y1:=Ab (o:=1) Xr rfl;have y2:=Ab (o:=2) Xr rfl;have e1:=po w4 Af;have qW:=Asb (And.intro hn4 Dw);clear hn4 Dw;(go_wp2_with fail);(with_reducible refine e1.mono ?_);rintro e w5 ⟨v5,rfl,hn5,⟨A5,n5,c5,rfl⟩,Ae⟩;have HO5:=Asb hn5;have YV:=Af.trans Ae;have h75:=YV.alive h7;have Xs:=YV.alive h8;clear z0 z1 z2 z3 z4 z5 y0 y1 y2 e1 po hn5 OK Xr;have y0:=Ab (o:=0) Xs rfl;have y1:=Ab (o:=1) Xs rfl;have y2:=Ab (o:=2) Xs rfl;have e1:=pc w5 YV;(go_wp2_with fail);(with_reducible refine e1.mono ?_);rintro e w6 ⟨rfl,Ao⟩;have lW:=YV.trans Ao;have h86:=lW.alive h8;clear y0 y1 y2 e1 pc h75 Xs;have Np:=Ek.trans lW;by_cases hc0:ck=0
  ·have Dw:=Ap (qW.out.2 hc0) (Ae.trans Ao);obtain⟨D,cd,rfl,hD,Eo,C3⟩:=Am.of_own' (by omega) Dw;have eq:=MG.out w6 lW hc0 D cd hD Eo C3;subst hc0;have y1:w6.cell? ⟨b8,1,none⟩=some (.slice B m'.eds.length cb):=Ab h86 rfl;clear MG Dw hD;(go_wp2_with fail);(with_reducible refine eq.mono ?_);rintro e w7 ⟨rfl,Aj⟩;go_wp2;go_ret;exact⟨rfl,Np.trans Aj⟩
  ·obtain rfl:=qW.out.1 hc0;have hs5:=HO5.out hc0;simp only [Value.slice.injEq]at hs5;obtain⟨rfl,rfl,rfl⟩:=hs5;have hb:(ck != 0)=true:=(by rw [bne,beq_false_of_ne hc0];rfl);clear hc0;go_wp2;go_ret;exact⟨rfl,Np⟩
end Go.Proofs.YtdaefncphfeaeaaGreatDoor
