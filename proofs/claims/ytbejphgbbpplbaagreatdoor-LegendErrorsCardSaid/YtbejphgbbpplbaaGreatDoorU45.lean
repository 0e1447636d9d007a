/- U45: ShLEA. -/
import Derived.Test.YtbejphgbbpplbaaGreatDoorU44
set_option maxRecDepth 100000
set_option maxHeartbeats 16000000
namespace Go.Proofs.YtbejphgbbpplbaaGreatDoor
open Go.RowKit Kl Go.Shelf
theorem rdc_three(W:World)(o1 o2:Obj)(cs:Array Value)(t:TypeId)(b:Nat)(hb:b=W.heap.size+1+1):Ae (((W.alloc o1).alloc o2).alloc (.cells cs t)).drew (some ⟨b,0,none⟩) cs.toList:=by
 subst hb;have:=(Ae.lit ((W.alloc o1).alloc o2) cs t).ext (Aa.refl _).drew;rw [Ash,Ash]at this;exact this
theorem AkO(d:List Dr):(IJ d).Pairwise Mx:=(Yi (d.take 8) [] (by simp) List.Pairwise.nil).2.1
theorem Ae.farV{w w':World}{A:Option Addr}{cs:List Value}{bR:Nat}{x y z:Value}{t:TypeId}(h:Ae w A cs)(hb:w.heap[bR]?=some (.cells #[x,y,z] t))
  (hne:∀v∈cs,v≠x/\v≠y/\v≠z) (Ec:∀q,q≠bR→w'.heap[q]?=w.heap[q]?):Ae w' A cs:=
 ⟨fun h0=>by
  obtain⟨b,o,e,hc⟩:=h.ad h0;refine⟨b,o,e,fun j hj=>?_⟩;have Nv:=hc j hj
  have Bq:b≠bR:=by
   rintro rfl;obtain⟨n1,n2,n3⟩:=hne _ (Asa hj);simp only [World.cell?,hb]at Nv;have h2:(#[x,y,z]:Array Value)[o+j]?=some cs[j]:=(by simpa using Nv);rw [Asp]at h2;obtain⟨h3,h4⟩:=h2;have h5:o+j=0∨o+j=1∨o+j=2:=by simp at h3;omega
   rcases h5 with h5|h5|h5<;>simp only [h5]at h4
   ·exact n1 h4.symm
   ·exact n2 h4.symm
   ·exact n3 h4.symm
  unfold World.cell? at Nv ⊢;simp only [Ec b Bq]
  exact Nv⟩
theorem Tc{cs:List Value}(h:∀v∈cs,Pj v=false)(a b c:Option Addr)(n1 n2 n3 k1 k2 k3:Nat):∀v∈cs,v≠.slice a n1 k1/\v≠.slice b n2 k2/\v≠.slice c n3 k3:=by
 intro v hv;have:=h v hv;refine⟨?_,?_,?_⟩<;>(rintro rfl;cases this)
theorem AjX(l:List La):∀v∈Cj l,Pj v=false:=by
 intro x hx;unfold Cj at hx;rw [List.mem_flatMap]at hx;obtain⟨e,-,hx⟩:=hx;simp only [List.mem_cons,Asm,or_false]at hx
 rcases hx with rfl|rfl|rfl<;>rfl
theorem Am5(l:List Pt):∀v∈flat (Ak l),Pj v=false:=by
 intro v hv;obtain⟨j,hj,rfl⟩:=List.getElem_of_mem hv;obtain⟨q,hq⟩:=dA hj;rw [hq];rfl
theorem AfG(l:List AD):∀v∈B6 l,Pj v=false:=by
 intro v hv;obtain⟨j,hj,rfl⟩:=List.getElem_of_mem hv;obtain⟨q,hq⟩:=bX hj;rw [hq];rfl
theorem Ao8(l:List Bs):∀v∈l.map S,Pj v=false:=by
 intro v hv;obtain⟨s,-,rfl⟩:=List.mem_map.1 hv
 rfl
structure Om(w:World)(b8:Nat)(A1 B1 F1:Option Addr)(c1 d1 g1:Nat)(m:Bz)(fa:List Bs):Prop where
 blk:w.heap[b8]?=some (.cells #[.slice A1 m.pts.length c1,.slice B1 m.eds.length d1,.slice F1 m.nf g1] 36)
 cap:JJ m c1 d1 g1
 pts:Ae w A1 (flat (Ak m.pts))
 eds:Ae w B1 (B6 m.eds)
 fac:Ae w F1 (fa.map S)
 nf:m.nf=fa.length
 le:fa.length<=19
 grid:∀p∈m.pts,DX p
 txt:∀u∈fa,(∃k:Nat,u=Bi k)∨u = [122]
theorem Om.ext{w w':World}{b8:Nat}{A1 B1 F1:Option Addr}{c1 d1 g1:Nat}{m:Bz}{fa:List Bs}(h:Om w b8 A1 B1 F1 c1 d1 g1 m fa)(hx:Aa w w'):Om w' b8 A1 B1 F1 c1 d1 g1 m fa:=
 ⟨(hx.block _ (ArX h.blk)).trans h.blk,h.cap,h.pts.ext hx,h.eds.ext hx,h.fac.ext hx,h.nf,h.le,h.grid,h.txt⟩
theorem AoX{u:Bs}(h:(∃k:Nat,u=Bi k)∨u = [122]):u.length<1000000:=by
 rcases h with⟨k,rfl⟩|rfl
 ·unfold Bi;split;decide;split;decide;split<;>decide
 ·decide
theorem vp(i:Nat):(U6 i).length<=2:=by unfold U6;split;decide;split<;>decide
theorem AoT(i:Nat):(JG i).length<=2:=by unfold JG;split;decide;split<;>decide
theorem AkV(i j:Nat):∀y∈FR i j,y.mn.length<100000/\y.mx.length<100000:=by
 intro y hy;have h1:=vp i;simp only [FR,List.mem_cons,Asm,or_false]at hy
 rcases hy with rfl|rfl
 ·exact⟨by simp only [];omega,by simp⟩
 ·exact⟨by simp,by simp⟩
theorem Aey(i j:Nat):∀e∈FR i j,td e:=by
 intro y hy;have h1:=vp i;have h2:=AoT j;simp only [FR,List.mem_cons,Asm,or_false]at hy
 rcases hy with rfl|rfl
 ·refine⟨by simp,?_,by simp⟩;simp only [];omega
 ·refine⟨?_,by simp,by simp⟩;simp only [];omega
def AtE(l:List En)(w:World)(v7 v8:Value)(wx:World):Prop:=
 ∃(A:Option Addr) (ca b8:Nat) (A1 B1 F1:Option Addr) (c1 d1 g1:Nat) (m:Bz) (fa:List Bs),v7=.slice A l.length ca/\Ae wx A (AN l)/\l.length<=ca/\ca<=9223372036854775807/\v8=.pointer (some ⟨b8,0,none⟩)
  /\Om wx b8 A1 B1 F1 c1 d1 g1 m fa/\fa.length<=18/\w.heap.size<=b8/\Aa w wx
theorem AkH{w:World}{b8 n:Nat}{units:List Bs}{A1 B1 F1:Option Addr}{c1 d1 g1:Nat}{m:Bz}{fa:List Bs}(hb:w.heap[b8]?=some (.cells (K2 A1 B1 F1 m c1 d1 g1) 36))(h:PN A1 B1 F1 c1 d1 g1 n units m fa w):Om w b8 A1 B1 F1 c1 d1 g1 m fa/\fa.length<=18:=by
 obtain⟨h1,h2,h3⟩:=h;have hl:fa.length<=18:=Asl h2.le h1;exact⟨⟨hb,h2.cap,h2.pts,h2.eds,h2.fac,h2.nf,by omega,fun p hp=>(h2.sheet p hp).on,fun u hu=>.inl (h3 u (h2.txt u hu))⟩,hl⟩
theorem Agk(dr:List Dr)(A:Option Addr)(ca h:Nat)(hh:h<256)(p:Pl)(hp:p.Ok)(w:World)(hw:Al w)(hr:Ae w A (Hu dr))(hc:dr.length<=ca)(hcm:ca<=9223372036854775807) :
  Calls Tryz.prog 6 #[.slice A dr.length ca,.int .u8 (h:Nat),NT p] w (Bw true w):=by
 have mk:=fun W (hx:Aa w W)=>AkF dr A ca W (hr.ext hx) hc hcm;have kn:=fun W (hx:Aa w W)=>AjV W (hw.ext hx);have pc:=fun W (hx:Aa w W)=>AkE p hp W (hw.ext hx);obtain⟨hck,hl8⟩:=AkQ dr;have ON:=AkP dr;have fL:=AkO dr;obtain⟨l,hl⟩:=ArV (IJ dr);rw [←hl]at hck hl8 ON mk fL;have HL:=ArW (fun e (he:e∈l)=>Akn (ON e he));have JO:=ArW hck;have Zn:=ArW fL;obtain⟨cs,hcs⟩:=ArV ((NS p).toArray);have hV:NT p=.agg cs:=(by rw [hcs];rfl);have hsz:cs.size=29:=(by rw [hcs];exact yx hp);have hin:(Tryz.prog.info? 51).map (·.size)=some cs.size:=(by rw [hsz];exact yy);simp only [hV]at pc ⊢;have MU:=(Aa.refl w).alloc (.cells cs 51);have hB0:=ArY w (.cells cs 51);have ry:=kn _ MU;clear hcs hV hp hsz hl hck ON fL hr kn;go_enter Tryz.func6,Tryz.ntmps6;(go_wp2_with fail);(with_reducible refine ry.mono ?_);rintro e w1 ⟨rfl,hx1⟩;have X1:=MU.trans hx1;have AK:=(hx1.block _ (ArX hB0)).trans hB0;obtain⟨bp,Nr⟩:=ArV w.heap.size;rw [←Nr]at AK ⊢;clear Nr hx1 ry hB0 MU
 go_upto_region 3 with fail
 go_cut [7,8] (fun v7 v8 wx=>AtE l w v7 v8 wx)
 case first=>refine Anf l (.slice A dr.length ca) (.agg cs) cs rfl bp AK hin (fun W hx=>mk W (X1.trans hx)) (fun W hx=>pc W (X1.trans hx)) rfl rfl (by simp) rfl rfl rfl rfl (by kernel_rfl) rfl rfl rfl rfl (by kernel_rfl) rfl rfl rfl rfl (by kernel_rfl) rfl rfl (by kernel_rfl) (by kernel_rfl) (by kernel_rfl) ?_;rintro a w2 hJ;have Ua:=hJ.fr.litE (by simp);obtain⟨A2,c2,k1,k2,k3,k4⟩:=hJ.s1 rfl;obtain⟨A9,B9,F9,c9,d9,g9,n,units,m,fa,j1,j2,j3⟩:=hJ.s3 rfl;obtain⟨b,i1,i2,-⟩:=hJ.s4 rfl;obtain⟨hM,CE⟩:=AkH (j3 rfl b i1) j2;have hX:=X1.trans hJ.ext;have Nx:=Asl X1.size i2;rw [hJ.s5 rfl,k1,i1,j1,hJ.s0 rfl,hJ.s2 rfl]at Ua;rw [Ua];clear Ua hJ k1 j1 j2 j3 i1 i2 X1 mk pc AK hin;unfold Mf;simp only [Act.put,List.setIfInBounds_toArray,List.set_cons_succ,List.set_cons_zero];go_wp2;go_meet;exact⟨A2,c2,b,A9,B9,F9,c9,d9,g9,m,fa,rfl,k2,k3,k4,rfl,hM,CE,Nx,hX⟩
 case rest=>
  obtain⟨A2,c2,b8,A1,B1,F1,c1,d1,g1,m,fa,rfl,r2,hc2,Q7,rfl,hM,CE,Nx,X2⟩:=hcut;obtain⟨W2,rfl⟩:=J9 X2;have HM:=ArW hM;have Iq:=ArW r2;have Is:=ArW (And.intro X2 Nx);have HI:=ArW CE;clear mk pc AK hin X1 hM r2 X2 Nx CE;obtain⟨i,hi⟩:=ArV (h%3);obtain⟨q,hq⟩:=ArV (h/3);obtain⟨j,hj⟩:=ArV (q%3);have hi3:i<3:=(by omega);have QJ:j<3:=(by omega);have m1:((h:Int)).tmod 3=(i:Int):=(by rw [Int.tmod_eq_emod_of_nonneg (by omega)];omega);have m2:((h:Int)).tdiv 3=(q:Int):=(by rw [Int.tdiv_eq_ediv_of_nonneg (by omega)];omega);have m3:((q:Int)).tmod 3=(j:Int):=(by rw [Int.tmod_eq_emod_of_nonneg (by omega)];omega);have u1:IntKind.u8.wrap (i:Int)=(i:Int):=IntWalk.u8_in _ (by omega);have u2:IntKind.u8.wrap (q:Int)=(q:Int):=IntWalk.u8_in _ (by omega);have u3:IntKind.u8.wrap (j:Int)=(j:Int):=IntWalk.u8_in _ (by omega);have ApX:(h:Int)<256:=(by omega);clear hi hq hj
  go_upto_region 4 with fail
  go_cut [9] (fun v9 wx=>∃b9,v9=.slice (some ⟨b9,0,none⟩) 2 2/\Ae wx (some ⟨b9,0,none⟩) (Cj (FR i j))/\Aa W2 wx)
  case first=>
   have e1:i=0∨i=1∨i=2:=(by omega);have e2:j=0∨j=1∨j=2:=by omega
   rcases e1 with rfl|rfl|rfl<;>rcases e2 with rfl|rfl|rfl
   all_goals go_region
   all_goals go_wp2
   all_goals go_meet
   all_goals refine⟨_,rfl,?_,?_⟩
   all_goals first
    | exact rdc_three _ _ _ _ _ _ rfl
    | (repeat (first | exact Aa.refl _ | (with_reducible refine Aa.drew ?_) | (with_reducible refine Aa.alloc ?_ _)))
  case rest=>
   obtain⟨b9,rfl,r9,X9⟩:=hcut;obtain⟨W3,rfl⟩:=J9 X9;have So:=ArW r9;have EY:=HM.out.ext X9;have KU:=ArW (Iq.out.ext X9);have Cq:=Is.out.1.trans X9;have hce:=fun (fa:List Bs) (h1:∀u∈fa,(∃n:Nat,u=Bi n)∨u = [122]) (h2:fa.length<=20)=>Agj h1 h2 i j;have hcl:=Aey i j;have CB:=AkV i j;have hlen2:(FR i j).length=2:=rfl;obtain⟨cl,fl⟩:=ArV (FR i j);rw [←fl]at So hce hcl CB hlen2;obtain⟨zc,QY⟩:=ArV (MN cl)
   have Sa:=ArW (fun W (hW:Al W) (hr:Ae W (some ⟨b9,0,none⟩) (Cj cl))=>(by
    have:=bF cl (some ⟨b9,0,none⟩) 2 W hW hr (by omega) (by omega) hcl;rw [hlen2,←QY]at this
    exact this:Calls Tryz.prog 32 #[.slice (some ⟨b9,0,none⟩) 2 2] W (Av zc W)))
   have JL:=ArW hce;have Z5:=ArW CB;have EO:=ArW hlen2;have qS:=ArW Cq;have Oh:=ArW EY;clear r9 X9 HM Iq m1 m2 m3 u1 u2 u3 fl QY hce CB hlen2 hcl EY Cq;by_cases xK:128<=h
   case' pos=>
    have t1:(128:Int)<=(h:Int):=(by omega);have Kv:=Oh.out.nf;have k2:=Ab (o:=2) Oh.out.blk rfl;have aY:=uN fa F1 g1 W3 Oh.out.fac (by have:=HI.out;omega);rw [←Kv]at aY;have Sk:=ArW Kv;clear Kv xK
    go_upto_region 6 with fail
    (go_wp2_with fail);(with_reducible refine aY.mono ?_);rintro e w4 ⟨v,rfl,C2,Aj⟩;obtain⟨oP,oc,rfl⟩:=UE (by omega) C2;clear aY k2
    go_wp2_with (at_builtin;go_loud (refine aF rfl _ _ rfl _ W3.heap.size (.slice oP fa.length oc) fa.length fa rfl (Ao C2 ((Aa.refl w4).alloc _)) (by have:=HI.out;omega) [122] w4.heap.size (ArY _ _) rfl (Asl Aj.size ((Aa.refl w4).alloc _).size) ?_);intro v9 w9 Bc Bu;obtain⟨A9,c9,rfl,r9,s9,t9⟩:=Ae.of_own' (by omega) Bc;have Ff:=Bu W3 (Aj.trans ((Aa.refl w4).alloc _)) (ArZ _);have M9:=Oh.out.ext Ff;have y5:=AB (o:=2) M9.blk;have y6:=Ab (o:=2) M9.blk rfl)
    have Ec:∀q,q≠b8→(w9.setCell ⟨b8,2,none⟩ (.slice A9 (fa.length+1) c9)).heap[q]?=w9.heap[q]?:=fun q hq=>by simp only [World.setCell,Array.getElem?_modify];rw [if_neg (by intro e;exact hq e.symm)]
    have yK:Om (w9.setCell ⟨b8,2,none⟩ (.slice A9 (fa.length+1) c9)) b8 A1 B1 A9 c1 d1 c9 ⟨m.pts,m.eds,m.nf+1⟩ (fa ++ [[122]]):=by
     refine⟨?_,⟨M9.cap.c1,M9.cap.c2,M9.cap.d1,M9.cap.d2,?_,t9⟩,M9.pts.farV M9.blk (Tc (Am5 _) _ _ _ _ _ _ _ _ _) Ec,M9.eds.farV M9.blk (Tc (AfG _) _ _ _ _ _ _ _ _ _) Ec,r9.farV M9.blk (Tc (Ao8 _) _ _ _ _ _ _ _ _ _) Ec,?_,?_,M9.grid,?_⟩
     ·have hb:=M9.blk;simp only [World.setCell,Array.getElem?_modify,hb];simp [Sk.out]
     ·show m.nf+1<=c9;rw [Sk.out];exact s9
     ·show m.nf+1=_;rw [Sk.out];simp
     ·rw [List.length_append];have:=HI.out;simp;omega
     ·intro u hu
      rcases List.mem_append.1 hu with k|k
      ·exact M9.txt u k
      ·rw [Asn]at k;exact .inr k
    have zM:Aa w (w9.setCell ⟨b8,2,none⟩ (.slice A9 (fa.length+1) c9)):=(qS.out.trans Ff).setCell (by exact Is.out.2) _;have ml:=(KU.out.ext Ff).farV M9.blk (Tc (wK l) _ _ _ _ _ _ _ _ _) Ec;have mo:=(So.out.ext Ff).farV M9.blk (Tc (AjX cl) _ _ _ _ _ _ _ _ _) Ec;have Sj:=ArW (And.intro yK (And.intro zM (And.intro ml mo)));clear yK zM ml mo Ec M9 Ff r9 Bc Bu C2 Aj y6
    go_upto_region 7 with fail
    generalize w9.setCell ⟨b8,2,none⟩ (.slice A9 (fa.length+1) c9)=W5 at *;obtain⟨F1,g1,m,fa,FX⟩:∃F1 g1 m fa,Om W5 b8 A1 B1 F1 c1 d1 g1 m fa:=⟨_,_,_,_,Sj.out.1⟩;have CL:=Sj.out.2.1;have Ir:=ArW Sj.out.2.2.1;have M6:=ArW Sj.out.2.2.2;clear Sj y5 t1 Sk HI Oh KU So
   case' neg=>
    have t1:¬(128:Int)<=(h:Int):=(by omega);clear xK
    go_upto_region 7 with fail
    have FX:=Oh.out;have CL:=qS.out;have Ir:=ArW KU.out;have M6:=ArW So.out;obtain⟨W5,rfl⟩:=J9 CL;clear t1 HI Oh KU So
   all_goals
    have N3:=fun W (hx:Aa W5 W)=>yv m FX.grid A1 B1 F1 c1 d1 g1 FX.cap W (hw.ext (CL.trans hx)) (FX.pts.ext hx) (FX.eds.ext hx);obtain⟨zd,hzd⟩:=ArV (I0 m);simp only [←hzd]at N3;have Vl:=ArW N3;have Vh:=ArW FX;have Oi:=ArW CL;have f1:∀z:Ac W5,z.w.cell? ⟨b8,0,none⟩=some (.slice A1 m.pts.length c1):=Ac.cell (Ab FX.blk rfl);have f2:∀z:Ac W5,z.w.cell? ⟨b8,1,none⟩=some (.slice B1 m.eds.length d1):=Ac.cell (Ab FX.blk rfl);have f3:∀z:Ac W5,z.w.cell? ⟨b8,2,none⟩=some (.slice F1 m.nf g1):=Ac.cell (Ab FX.blk rfl);have co:=fun (z:Ac W5)=>Sa.out z.w (hw.ext (CL.trans z.h)) (M6.out.ext z.h);have pa:=fun (z:Ac W5)=>N3 z.w z.h;unfold Bv at pa;clear N3 hzd FX CL;refine Bp (by kernel_rfl) (by kernel_rfl) ?_
    repeat (go_big_quiet_step (first|(with_reducible refine Di (co _))|(with_reducible refine Di (pa _))))
    refine wpQuiet_nil ?_;rintro W6 ⟨z,hz⟩;have BF:Aa W5 W6:=hz▸z.h;clear hz z f1 f2 f3 co pa;have Qw:=BF;have or:=AlT (z:=zc) (d:=2) (B:=some ⟨b9,0,none⟩) (cl:=cl) (Ir.out.ext Qw) hc2 Q7 HL.out JO.out (by omega) (M6.out.ext Qw) (by have:=EO.out;omega) (by omega) (fun W hx=>by rw [EO.out];exact Sa.out W (hw.ext (Oi.out.trans (Qw.trans hx))) (M6.out.ext (Qw.trans hx)));rw [EO.out]at or;(go_wp2_with fail);(with_reducible refine or.mono ?_);rintro e w7 ⟨ko,bo,rfl,Gr,AQ⟩;have Qx:=Qw.trans AQ;have so:=Aok (z:=zc) (d:=2) (B:=some ⟨b9,0,none⟩) (cl:=cl) (Ir.out.ext Qx) hc2 Q7 HL.out JO.out (by omega) (M6.out.ext Qx) (by have:=EO.out;omega) (by omega) (fun W hx=>by rw [EO.out];exact Sa.out W (hw.ext (Oi.out.trans (Qx.trans hx))) (M6.out.ext (Qx.trans hx))) (AdK Zn.out);rw [EO.out]at so;clear or;(go_wp2_with fail);(with_reducible refine so.mono ?_);rintro e w8 ⟨As,ns,cs8,rfl,Ep,Ch⟩;have WI:=Qx.trans Ch;have WJ:=WI;have M8:=Vh.out.ext WJ;have mi:=AkM (Ir.out.ext WI) hc2 Q7 HL.out JO.out M8.fac M8.nf (fun W hx=>Vl.out W (WJ.trans hx)) (by have:=M8.le;omega);have q1:=Ab (o:=0) M8.blk rfl;have q2:=Ab (o:=1) M8.blk rfl;have q3:=Ab (o:=2) M8.blk rfl;unfold Bv at mi;clear so M8;(go_wp2_with fail);(with_reducible refine mi.mono ?_);rintro e wA ⟨Am,nm,cm,rfl,hnm,Uw⟩;have eZ:=WI.trans Uw;have WL:=WJ.trans Uw;have MA:=Vh.out.ext WL;have un:=Apf (Ir.out.ext eZ) hc2 Q7 HL.out JO.out MA.fac MA.nf (fun W hx=>Vl.out W (WL.trans hx)) (by omega) (by have:=MA.le;omega);clear q1 q2 q3 mi;have q1:=Ab (o:=0) MA.blk rfl;have q2:=Ab (o:=1) MA.blk rfl;have q3:=Ab (o:=2) MA.blk rfl;unfold Bv at un;clear MA;(go_wp2_with fail);(with_reducible refine un.mono ?_);rintro e wC ⟨Au,nu,cu,rfl,hnu,hxC⟩;have Tv:=eZ.trans hxC;have fC:=WL.trans hxC;have MC:=Vh.out.ext fC;have cmp:=Afj (zc:=zc) (zd:=zd) (d:=2) (B:=some ⟨b9,0,none⟩) (cl:=cl) (M6.out.ext Tv) (by have:=EO.out;omega) (by omega) MC.fac MC.nf (by have:=MC.le;omega) (fun u hu=>AoX (MC.txt u hu)) Z5.out (JL.out fa MC.txt (by have:=MC.le;omega)) (fun W hx=>by rw [EO.out];exact Sa.out W (hw.ext (Oi.out.trans (Tv.trans hx))) (M6.out.ext (Tv.trans hx))) (fun W hx=>Vl.out W (fC.trans hx));rw [EO.out]at cmp;clear q1 q2 q3 un;have q1:=Ab (o:=0) MC.blk rfl;have q2:=Ab (o:=1) MC.blk rfl;have q3:=Ab (o:=2) MC.blk rfl;unfold Bv at cmp;clear MC;(go_wp2_with fail);(with_reducible refine cmp.mono ?_);rintro e wD ⟨At,nt,ct,zt,rfl,Pd,GY,NA,hxD⟩;have HF:=ArW (Oi.out.trans (Tv.trans hxD));clear q1 q2 q3 cmp Sa Vl Vh Oi BF Qw Qx WI WJ eZ WL Tv fC AQ Ch Uw hxC hxD;by_cases z1:zc=0
    ·by_cases z2:zd=0
     ·obtain rfl:=NA z1 z2;subst z1;subst z2;clear Gr Ep hnm hnu Pd GY NA;go_wp2;go_ret;exact⟨rfl,HF.out⟩
     ·obtain⟨rfl,rfl⟩:=GY z1 z2;obtain rfl:=hnm z2;obtain rfl:=hnu z2;subst z1;have y1:(zt != 0)=true:=(by rw [bne_iff_ne];exact z2);have y2:(zt == 0)=false:=beq_false_of_ne z2;clear Gr Ep hnm hnu Pd GY NA z2;go_wp2;go_ret;exact⟨rfl,HF.out⟩
    ·obtain⟨rfl,rfl⟩:=Pd z1;obtain rfl:=Gr z1;obtain rfl:=Ep z1;have y1:(zt != 0)=true:=(by rw [bne_iff_ne];exact z1);have y2:(zt == 0)=false:=beq_false_of_ne z1;by_cases z2:zd=0
     ·subst z2;clear Gr Ep hnm hnu Pd GY NA z1;go_wp2;go_ret;exact⟨rfl,HF.out⟩
     ·obtain rfl:=hnm z2;obtain rfl:=hnu z2;have y3:(zd != 0)=true:=(by rw [bne_iff_ne];exact z2);have y4:(zd == 0)=false:=beq_false_of_ne z2;clear Gr Ep hnm hnu Pd GY NA z1 z2;go_wp2;go_ret;exact⟨rfl,HF.out⟩
end Go.Proofs.YtbejphgbbpplbaaGreatDoor
