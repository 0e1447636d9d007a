/- K47: ShSL11 ShSL12 ShSL13 ShSL14 ShSL15 ShSL16 ShSL17 ShSL18. -/
import Derived.Test.YtgnejnampofhoaaGreatDoorK45
set_option maxRecDepth 100000
set_option maxHeartbeats 8000000
namespace Go.Proofs.YtgnejnampofhoaaGreatDoor
open Go.RowKit Kl Go.Sort Go.Shelf
theorem Tryz.infoEr:(Tryz.prog.info? 23).map (fun i=>(i.zero,i.size,i.bytes))=some (some (.slice none 0 0),1,24):=by kernel_rfl
theorem xt(bs n:Nat)(D:Option Addr)(c:Nat)(dc:List Value)(Rc:dc.length=n)(hn:n<=1000)(w:World)(h1:w.cell? ⟨bs,1,none⟩=some (.slice D n c))(hD:Ae w D dc)
  (hd:∀v∈dc,∃L m k,v=.slice L m k/\m<=1000/\Ae w L (AS BA m)) :
  Calls Tryz.prog 15 #[.pointer (some ⟨bs,0,none⟩)] w (fun e w'=>∃A c,e=.returned (.slice A n c)/\Ac w w'):=by
 obtain⟨i0,hi,hz0,hz1,hz2⟩:=info_parts Tryz.infoEr;go_enter Tryz.func15,Tryz.ntmps15;go_wp2
 go_loopw [3,13] (fun u3 iv wr=>∃(j:Nat) (l:List Value),iv=.int .i64 (j:Nat)/\j<=n/\wr.ownsRow w.heap.size 23 1 u3 j l/\Ac w wr) (fun _ iv _=>n-(intOf iv).toNat)
 case atStart=>exact⟨0,[],rfl,Nat.zero_le _,⟨rfl,.inl ⟨rfl,rfl⟩⟩,Ac.refl _⟩
 case round=>
  obtain⟨j,l,rfl,hj,hown,hX⟩:=hrel;have hj0:(0:Int)<=(j:Int):=(by omega);have Js:(j:Int)<=(n:Int):=(by omega);by_cases hlt:j<n
  ·have AP:(j:Int)<(n:Int):=(by omega);obtain⟨bd,od,rfl,hcs⟩:=(hD.ext hX).ad (by omega);have hc:=hcs j (by omega);obtain⟨L,m,k,e,hm,hL⟩:=hd (dc[j]'(by omega)) (Aj0 _);rw [e]at hc;have ce:=kC m L k wr (hL.ext hX) (by omega);have HO:=Ajw (And.intro hown hX);clear hcs hown hX hL e;(go_wp2_with fail);(with_reducible refine ce.mono ?_);rintro e w2 ⟨v2,rfl,hown2,hx2⟩;obtain⟨A2,c2,rfl,-,-,-⟩:=Ae.of_own' (by omega) hown2;have hq:=Ajy w2 (.cells #[.slice A2 m c2] 23)
   have hN:∀i u,[Value.slice A2 m c2][i]?=some u→(w2.alloc (.cells #[.slice A2 m c2] 23)).cell? ((⟨w2.heap.size,0,none⟩:Addr).add i)=some u:=by intro i u h;obtain⟨hi,rfl⟩:=List.getElem?_eq_some_iff.1 h;obtain rfl:i=0:=(by simpa using hi);rw [Addr.add_lit];exact Aa hq rfl
   have HN:=Ajw hN;have HX:=Ajw ((HO.out.2.trans hx2).alloc (.cells #[.slice A2 m c2] 23));have HW:=Ajw (A9 HO.out.1 (hx2.trans ((Ac.refl w2).alloc (.cells #[.slice A2 m c2] 23))));have hlo:∀k,(u3:Value).ownBlock=some k→w.heap.size<=k:=fun k hk=>(HO.out.1.lt k hk).1;have HL:=Ajw hlo;clear hN hq hown2 ce hlo hx2
   go_wp2_with (at_builtin;go_loud (refine wpList_append_own _ rfl _ _ 46 rfl w.heap.size 23 i0 (.slice none 0 0) 1 24 Tryz.underlying46 hi hz0 hz1 hz2 rfl (by omega) u3 j l rfl HW.out ⟨w2.heap.size,0,none⟩ 1 1 [.slice A2 m c2] rfl rfl HN.out (by simp [Value.oneCell']) (by unfold maxLen;omega) (by omega) HX.out.size ?_);intro v9 w9 BS CO hnil9)
   have XW:Ac w w9:=HX.out.grown CO fun k hk=>HL.out k hk;go_roundw
   case rel=>exact⟨j+1,l ++ [.slice A2 m c2],by go_num,hlt,BS,XW⟩
   case measure=>simp [intOf];omega
  ·obtain rfl:j=n:=(by omega);clear hlt;obtain⟨A2,c2,rfl,-,-,-⟩:=Ae.of_own' (by omega) hown;go_wp2;go_ret;exact⟨A2,c2,rfl,hX⟩
end Go.Proofs.YtgnejnampofhoaaGreatDoor
namespace Go.Proofs.YtgnejnampofhoaaGreatDoor
open Go.RowKit Kl
theorem xn(A:Option Addr)(n c:Nat)(w:World):Calls Tryz.prog 13 #[.pointer none,.slice A n c] w (Bp (.tuple #[.int .i64 0,.int .i64 1]) w):=by
 go_enter Tryz.func13,Tryz.ntmps13;go_wp2;go_ret2;exact⟨rfl,Ac.refl _⟩
theorem AgU(w:World):Calls Tryz.prog 16 #[.pointer none] w (By false w):=by
 go_enter Tryz.func16,Tryz.ntmps16;go_wp2;go_ret;exact⟨rfl,Ac.refl _⟩
theorem Afq(w:World):Calls Tryz.prog 17 #[.pointer none] w (By false w):=by
 go_enter Tryz.func17,Tryz.ntmps17;go_wp2;go_ret;exact⟨rfl,Ac.refl _⟩
theorem xr(w:World):Calls Tryz.prog 15 #[.pointer none] w (Bp (.slice none 0 0) w):=by
 go_enter Tryz.func15,Tryz.ntmps15;go_wp2;go_ret;exact⟨rfl,Ac.refl _⟩
theorem xm(bs:Nat)(M D:Option Addr)(nm cm cd:Nat)(A:Option Addr)(n c:Nat)(w:World)(hm:0<nm)(h0:w.cell? ⟨bs,0,none⟩=some (.slice M nm cm))(h1:w.cell? ⟨bs,1,none⟩=some (.slice D 100 cd)):Calls Tryz.prog 13 #[.pointer (some ⟨bs,0,none⟩),.slice A n c] w (Bp (.tuple #[.int .i64 0,.int .i64 4]) w):=by
 have hm1:(0:Int)<(nm:Int):=(by omega);have Mi:¬nm=0:=(by omega);have hm3:¬(nm:Int)=0:=(by omega);go_enter Tryz.func13,Tryz.ntmps13;go_wp2;go_ret2;exact⟨rfl,Ac.refl _⟩
theorem Ad6(w:World):Calls Tryz.prog 19 #[.pointer none] w (Bp G5 w):=by
 have hR:=Ajy w (.cells #[.slice none 0 0,.slice none 0 0,.slice none 0 0] 35);have hX:=(Ac.refl w).alloc (.cells #[.slice none 0 0,.slice none 0 0,.slice none 0 0] 35);unfold G5;go_enter Tryz.func19,Tryz.ntmps19
 go_upto_region 1 with fail
 generalize w.alloc (.cells #[.slice none 0 0,.slice none 0 0,.slice none 0 0] 35)=V at *;obtain⟨br,hbr⟩:=Ajv w.heap.size;have hB:w.heap.size<=br:=(by omega);rw [←hbr]at hR ⊢;clear hbr;have g0:=Aa (o:=0) hR rfl;have g1:=Aa (o:=1) hR rfl;have g2:=Aa (o:=2) hR rfl;have g3:=Aj (o:=0) hR;have g4:=Aj (o:=1) hR;have g5:=Aj (o:=2) hR;have A7:=Ck (.slice none 0 0) (.slice none 0 0) (.slice none 0 0) hR;have t1:=Aa (o:=0) A7 rfl;have t2:=Aa (o:=1) A7 rfl;have t3:=Aa (o:=2) A7 rfl;have HX:=Ajw (BI hX hB (.slice none 0 0) (.slice none 0 0) (.slice none 0 0));clear A7 hR hX hB;go_wp2;refine bodyPost_ret (v:=.agg #[.slice none 0 0,.slice none 0 0,.slice none 0 0]) (by simp [results,Tryz.results19,go_sem,t1,t2,t3]) rfl ?_;exact⟨rfl,HX.out⟩
theorem Agf{w:World}{b:Nat}{x y v:Value}{t:TypeId}(h:w.heap[b]?=some (.cells #[x,y,v] t)):w.setCell ⟨b,2,none⟩ v=w:=by
 have e:(w.setCell ⟨b,2,none⟩ v).heap=w.heap:=by
  apply Array.ext_getElem?;intro i;by_cases hi:i=b
  ·subst hi;rw [h];simp only [World.setCell,Array.getElem?_modify,h];simp
  ·exact B7 (p:=⟨b,2,none⟩) hi
 show {w with heap:=(w.setCell ⟨b,2,none⟩ v).heap} = w;rw [e]
def CY(base bs k:Nat)(m:MapZ)(fa:List Bs)(w:World):Prop:=
 base<=bs/\∃(mv dv:Value) (mc dc:List Value) (A B F:Option Addr) (c d g:Nat),w.heap[bs]?=some (.cells #[mv,dv,.slice none 0 0] 115)/\
  w.ownsRow base 35 3 mv (k+1) (mc ++ [.slice A m.pts.length c,.slice B m.eds.length d,.slice F m.nf g])/\mc.length=k*3/\Bj m c d g/\Ae w A (flat (Ai m.pts))/\Ae w B (Au m.eds)/\Ae w F (fa.map S)/\FZ w A B F/\
  w.ownsRow base 23 1 dv k dc/\∀v∈dc,∃L n z,v=.slice L n z/\n<=1000/\Ae w L (AS BA n)/\BP w L 29
theorem lF(base bs k:Nat)(m:MapZ)(fa:List Bs)(hk:k<100)(L:Option Addr)(n z:Nat)(w:World)(hs:CY base bs k m fa w)
  (hap:Calls Tryz.prog 51 #[.pointer (some ⟨bs,0,none⟩),.slice L n z] w (fun e w'=>e=.returned (.tuple #[.int .i64 0,.int .i64 0])/\CY base bs (k+1) m fa w'/\(∀w0,Ac w0 w→w0.heap.size<=base→Ac w0 w'))) :
  Calls Tryz.prog 13 #[.pointer (some ⟨bs,0,none⟩),.slice L n z] w (fun e w'=>e=.returned (.tuple #[.int .i64 0,.int .i64 0])/\CY base bs (k+1) m fa w'/\(∀w0,Ac w0 w→w0.heap.size<=base→Ac w0 w')):=by
 have hs0:=hs;obtain⟨hb,mv,dv,mc,dc,A,B,F,c,d,g,hS,hM,-,-,-,-,-,-,hD,-⟩:=hs;obtain⟨Am,cm,rfl,-,-,-⟩:=Ae.of_own' (by omega) hM;obtain⟨Ad,cd,rfl,-,-,-⟩:=Ae.of_own' (by omega) hD;have k0:w.cell? ⟨bs,0,none⟩=some (.slice Am (k+1) cm):=Aa hS rfl;have k1:w.cell? ⟨bs,1,none⟩=some (.slice Ad k cd):=Aa hS rfl;have Dn:(k:Int)<100:=(by omega);have hk2:¬(k:Int)=100:=(by omega);have hk3:(0:Int)<(k:Int)+1:=(by omega);have hk4:¬(k:Int)+1=0:=(by omega);have hk5:¬k=100:=(by omega);clear hS hM hD hs0;go_enter Tryz.func13,Tryz.ntmps13;(go_wp2_with fail);(with_reducible refine hap.mono ?_);rintro e w1 ⟨rfl,h1,hx1⟩;have H1:=Ajw (And.intro h1 hx1);obtain⟨hb,mv,dv,mc,dc,A,B,F,c,d,g,hS,hM,Ch,An,r1,r2,r3,Dq,hD,GQ⟩:=h1;have f2:=Aa (o:=2) hS rfl;have f3:=Aj (o:=2) hS;have he:=Agf hS;clear hS hM Ch An r1 r2 r3 Dq hD GQ hx1;go_wp2;refine bodyPost_ret (v:=.tuple #[.int .i64 0,.int .i64 0]) (by simp [results,Tryz.results13,go_sem]) rfl ?_;exact⟨rfl,H1.out⟩
theorem CY.ext{base bs k:Nat}{m:MapZ}{fa:List Bs}{w w':World}(h:CY base bs k m fa w)(hx:Ac w w'):CY base bs k m fa w':=by
 obtain⟨hb,mv,dv,mc,dc,A,B,F,c,d,g,hS,hM,Ch,An,r1,r2,r3,Dq,hD,GQ⟩:=h;refine⟨hb,mv,dv,mc,dc,A,B,F,c,d,g,(hx.block _ (Ajx hS)).trans hS,A9 hM hx,Ch,An,r1.ext hx,r2.ext hx,r3.ext hx,Dq.ext hx,A9 hD hx,fun v hv=>?_⟩;obtain⟨L,n,z,e,hn,hL,hT⟩:=GQ v hv;exact⟨L,n,z,e,hn,hL.ext hx,hT.ext hx⟩
theorem CY.last{base bs k:Nat}{m:MapZ}{fa:List Bs}{w:World}(h:CY base bs k m fa w):∃(gm cap:Nat) (D:Option Addr) (cd:Nat) (A B F:Option Addr) (c d g:Nat),w.cell? ⟨bs,0,none⟩=some (.slice (some ⟨gm,0,none⟩) (k+1) cap)/\w.cell? ⟨bs,1,none⟩=some (.slice D k cd)/\w.cell? ⟨gm,k*3,none⟩=some (.slice A m.pts.length c)/\w.cell? ⟨gm,k*3+1,none⟩=some (.slice B m.eds.length d)/\w.cell? ⟨gm,k*3+2,none⟩=some (.slice F m.nf g)/\Bj m c d g/\Ae w A (flat (Ai m.pts))/\Ae w B (Au m.eds)/\Ae w F (fa.map S)/\FZ w A B F:=by
 obtain⟨hb,mv,dv,mc,dc,A,B,F,c,d,g,hS,hM,Ch,An,r1,r2,r3,Dq,hD,GQ⟩:=h;obtain⟨D,cd,rfl,-,-,-⟩:=Ae.of_own' (by omega) hD;have LJ:=hM
 rcases LJ.2 with⟨_,h'⟩|⟨gm,cap,cur,rfl,Bf,hg,hnc,hcm,hcs,htake⟩
 ·exact absurd h' (by simp)
 obtain⟨A',c',e',hr,-,-⟩:=Ae.of_own' (by omega) hM;simp only [Value.slice.injEq]at e';obtain⟨rfl,-,-⟩:=e';obtain⟨b,o,e,LX⟩:=hr.ad (by simp);simp only [Aj3,Addr.mk.injEq]at e;obtain⟨rfl,rfl,-⟩:=e
 have key:∀i v,[Value.slice A m.pts.length c,.slice B m.eds.length d,.slice F m.nf g][i]?=some v→w.cell? ⟨gm,k*3+i,none⟩=some v:=by
  intro i v hv
  have hi:i<3:=by
   have:=(List.getElem?_eq_some_iff.1 hv).1
   simpa using this
  have h1:=LX (k*3+i) (by simp;omega);rw [Nat.zero_add]at h1;rw [h1]
  have h2:(mc ++ [Value.slice A m.pts.length c,.slice B m.eds.length d,.slice F m.nf g])[k*3+i]?=some v:=by rw [List.getElem?_append_right (by omega),Ch,Nat.add_sub_cancel_left];exact hv
  rw [←h2,Aj4]
 exact⟨gm,cap,D,cd,A,B,F,c,d,g,Aa hS rfl,Aa hS rfl,key 0 _ rfl,key 1 _ rfl,key 2 _ rfl,An,r1,r2,r3,Dq⟩
theorem pz(base bs k:Nat)(m:MapZ)(fa:List Bs)(hk:k<=100)(L:Option Addr)(n z:Nat)(w:World)(hs:CY base bs k m fa w)
  (Zo:∀(W:World) (A B F:Option Addr) (c d g:Nat),Ac w W→Bj m c d g→Ae W A (flat (Ai m.pts))→Ae W B (Au m.eds)→Ae W F (fa.map S)→Calls Tryz.prog 10 #[As A B F m c d g,.slice L n z] W (Bp (.tuple #[G5,.int .i64 0,.int .i64 4]) W)) :
  Calls Tryz.prog 51 #[.pointer (some ⟨bs,0,none⟩),.slice L n z] w (Bp (.tuple #[.int .i64 0,.int .i64 4]) w):=by
 obtain⟨gm,cap,D,cd,A,B,F,c,d,g,k0,k1,c0,c1,c2,An,r1,r2,r3,-⟩:=hs.last;have nc:=vY bs gm k cap A B F m.pts.length c m.eds.length d m.nf g (by omega) w k0 c0 c1 c2;unfold As at Zo;clear k0 k1 c0 c1 c2 hs;go_enter Tryz.func51,Tryz.ntmps51;(go_wp2_with fail);(with_reducible refine nc.mono ?_);rintro e w1 ⟨rfl,hx1⟩;have aa:=Zo w1 A B F c d g hx1 An (r1.ext hx1) (r2.ext hx1) (r3.ext hx1);clear nc Zo An r1 r2 r3;(go_wp2_with fail);(with_reducible refine aa.mono ?_);rintro e w2 ⟨rfl,hx2⟩;have hX:=(hx1.trans hx2).alloc (.cells #[.slice none 0 0,.slice none 0 0,.slice none 0 0] 35);have HX:=Ajw hX;unfold G5;clear aa hx1 hx2 hX;go_wp2;go_ret2;exact⟨rfl,HX.out⟩
theorem xl(base bs k:Nat)(m:MapZ)(fa:List Bs)(hk:k<100)(L:Option Addr)(n z:Nat)(w:World)(hs:CY base bs k m fa w)
  (hap:Calls Tryz.prog 51 #[.pointer (some ⟨bs,0,none⟩),.slice L n z] w (Bp (.tuple #[.int .i64 0,.int .i64 4]) w)) :
  Calls Tryz.prog 13 #[.pointer (some ⟨bs,0,none⟩),.slice L n z] w (Bp (.tuple #[.int .i64 0,.int .i64 4]) w):=by
 obtain⟨gm,cap,D,cd,A,B,F,c,d,g,k0,k1,-,-,-,-,-,-,-,-⟩:=hs.last;have Dn:(k:Int)<100:=(by omega);have hk2:¬(k:Int)=100:=(by omega);have hk3:(0:Int)<(k:Int)+1:=(by omega);have hk4:¬(k:Int)+1=0:=(by omega);have hk5:¬k=100:=(by omega);clear hs;go_enter Tryz.func13,Tryz.ntmps13;(go_wp2_with fail);(with_reducible refine hap.mono ?_);rintro e w1 ⟨rfl,hx1⟩;go_wp2;refine bodyPost_ret (v:=.tuple #[.int .i64 0,.int .i64 4]) (by simp [results,Tryz.results13,go_sem]) rfl ?_;exact⟨rfl,hx1⟩
theorem Wv.ses{w w':World}{m:MapZ}{fa:List Bs}{e:Ending}(h:Wv w m fa e w'):∃bs,e=.returned (.tuple #[.pointer (some ⟨bs,0,none⟩),.int .i64 0])/\CY w.heap.size bs 0 m fa w'/\Ac w w':=by
 obtain⟨bs,bg,A,B,F,c,d,g,rfl,B8,hbg,hS,hM,An,r1,r2,r3,hx,Dq⟩:=h;refine⟨bs,rfl,⟨B8,_,_,[],[],A,B,F,c,d,g,hS,⟨rfl,.inr ⟨bg,1,_,rfl,hbg,hM,by omega,by unfold maxLen;omega,rfl,?_⟩⟩,rfl,An,r1,r2,r3,Dq,⟨rfl,.inl ⟨rfl,rfl⟩⟩,by simp⟩,hx⟩;simp
theorem bO(A B F:Option Addr)(c d g:Nat)(w:World)(hw:Ao w)(An:Bj Ah c d g)(hA:Ae w A (flat (Ai Ah.pts)))(hB:Ae w B (Au Ah.eds))(W:World)(hx:Ac w W) :
  Calls Tryz.prog 48 #[As A B F Ah c d g] W (AK 0 W):=by
 have h:=M4 Ah bH A B F c d g An W (hw.ext hx) (hA.ext hx) (hB.ext hx);rw [Xc]at h;exact h
theorem kG(A B F:Option Addr)(c d g:Nat)(w:World)(hw:Ao w)(An:Bj Ah c d g)(hA:Ae w A (flat (Ai Ah.pts)))(hB:Ae w B (Au Ah.eds))(hF:Ae w F ([[97]].map S))(W:World)(hx:Ac w W) :
  Calls Tryz.prog 49 #[As A B F Ah c d g] W (MA W Ah [[97]]):=by
 have h:=xH Ah [[97]] rfl Od A B F c d g An W (hw.ext hx) (hA.ext hx) (hB.ext hx) (hF.ext hx) (fun x e=>?_) (by decide)
 ·rw [Oe.1,Oe.2]at h;exact h
 ·subst e;obtain⟨b,o,e,hc⟩:=(hF.ext hx).ad (by decide);obtain rfl:=Option.some.inj e;exact World.block_lt_of_cell? W _ (hc 0 (by decide))
theorem wL(A B F:Option Addr)(c d g:Nat)(w:World)(hw:Ao w)(An:Bj Ah c d g)(hA:Ae w A (flat (Ai Ah.pts)))(hB:Ae w B (Au Ah.eds))(hF:Ae w F ([[97]].map S)) :
  Calls Tryz.prog 12 #[As A B F Ah c d g] w (fun e w'=>∃bs,e=.returned (.tuple #[.pointer (some ⟨bs,0,none⟩),.int .i64 0])/\CY w.heap.size bs 0 Ah [[97]] w'/\Ac w w'):=
 (Aet Ah [[97]] w A B F c d g (kG A B F c d g w hw An hA hB hF)).mono fun _ _ h=>h.ses
theorem hZ(A B F:Option Addr)(c d g n:Nat)(D6:1<=n)(hn:n<=100)(L:Option Addr)(k:Nat)(w:World)(hw:Ao w)(An:Bj Ah c d g)(hA:Ae w A (flat (Ai Ah.pts)))(hB:Ae w B (Au Ah.eds))(hF:Ae w F ([[97]].map S))(hL:Ae w L (AS BA n)) :
  Calls Tryz.prog 10 #[As A B F Ah c d g,.slice L n k] w (P8 w Ah [[97]]):=
 pw Ah [[97]] n D6 hn w (fun W A B F c d g hx An hA hB hF=>oh A B F c d g W (hw.ext hx) An hA hB hF) A B F c d g (bO A B F c d g w hw An hA hB) An hA hB hF L k hL
theorem AdT(A B F:Option Addr)(c d g:Nat)(w:World)(hw:Ao w)(An:Bj Ah c d g)(hA:Ae w A (flat (Ai Ah.pts)))(hB:Ae w B (Au Ah.eds))(hF:Ae w F ([[97]].map S)) :
  Calls Tryz.prog 10 #[As A B F Ah c d g,.slice none 0 0] w (P8 w Ah [[97]]):=
 qd Ah [[97]] w A B F c d g (bO A B F c d g w hw An hA hB) (kG A B F c d g w hw An hA hB hF)
theorem vH(A B F:Option Addr)(c d g n:Nat)(hn:100<n)(L:Option Addr)(k:Nat)(w:World)(hw:Ao w)(An:Bj Ah c d g)(hA:Ae w A (flat (Ai Ah.pts)))(hB:Ae w B (Au Ah.eds)) :
  Calls Tryz.prog 10 #[As A B F Ah c d g,.slice L n k] w (Bp (.tuple #[G5,.int .i64 0,.int .i64 4]) w):=
 qc A B F Ah.pts.length c Ah.eds.length d Ah.nf g L n k hn w (bO A B F c d g w hw An hA hB)
section
open Go.Shelf
theorem Tryz.infoMp:(Tryz.prog.info? 35).map (fun i=>(i.zero,i.size,i.bytes))=some (some (.agg #[.slice none 0 0,.slice none 0 0,.slice none 0 0]),3,72):=by kernel_rfl
section
variable {ops : Array Oper} {o : Oper} {a : Act} {K : Act → World → Prop} {Q : Exit → Act → World → Prop}
theorem Ahp(s x:Operand)(ho:o.op=.call {callee:=.builtin .append,args:=#[s,x],argTypes:=#[113,113]})
  (wN:World) (base:Nat) (v:Value) (n:Nat) (l:List Value) (A B F:Option Addr) (n1 c n2 d n3 g':Nat) (hs:a.eval s=v) (hown:wN.ownsRow base 35 3 v n l) (hn:n<200000)
  (g:Nat) (hb:wN.heap[g]?=some (.cells #[.slice A n1 c,.slice B n2 d,.slice F n3 g'] 35)) (hx:a.eval x=.slice (some ⟨g,0,none⟩) 1 1) (hbase:base<=wN.heap.size)
  (h:∀v' w',w'.ownsRow base 35 3 v' (n+1) (l ++ [.slice A n1 c,.slice B n2 d,.slice F n3 g'])→(∀w0,Ac w0 wN→w0.heap.size<=base→Ac w0 w')→wN.grownBy w' v.ownBlock→K (a.put o.dst v') w') :
  o.wp Tryz.prog a wN K Q:=by
 obtain⟨i0,hi,hz0,hz1,hz2⟩:=info_parts Tryz.infoMp;exact Sy s x 113 ho 35 i0 _ 3 72 1 Tryz.underlying113 hi hz0 hz1 hz2 rfl (by omega) (by omega) (by omega) wN base v n l hs hown hn g _ hb (by simp) (by simp [Value.oneCell']) hx hbase h
theorem Aho(s x:Operand)(ho:o.op=.call {callee:=.builtin .append,args:=#[s,x],argTypes:=#[46,46]})
  (wN:World) (base:Nat) (v:Value) (n:Nat) (l:List Value) (L:Option Addr) (k c:Nat) (hs:a.eval s=v) (hown:wN.ownsRow base 23 1 v n l) (hn:n<200000)
  (g:Nat) (hb:wN.heap[g]?=some (.cells #[.slice L k c] 23)) (hx:a.eval x=.slice (some ⟨g,0,none⟩) 1 1) (hbase:base<=wN.heap.size)
  (h:∀v' w',w'.ownsRow base 23 1 v' (n+1) (l ++ [.slice L k c])→(∀w0,Ac w0 wN→w0.heap.size<=base→Ac w0 w')→wN.grownBy w' v.ownBlock→K (a.put o.dst v') w') :
  o.wp Tryz.prog a wN K Q:=by
 obtain⟨i0,hi,hz0,hz1,hz2⟩:=info_parts Tryz.infoEr;exact Sy s x 46 ho 23 i0 _ 1 24 1 Tryz.underlying46 hi hz0 hz1 hz2 rfl (by omega) (by omega) (by omega) wN base v n l hs hown hn g _ hb (by simp) (by simp [Value.oneCell']) hx hbase h
end
end
section
open Go.Shelf
theorem VB{w w':World}{A:Option Addr}{cs:List Value}{t e:TypeId}{B s n:Nat}{v:Value}{xs:List Value}(h:Ae w A cs)(ht:BP w A t)(hg:w.grownBy w' v.ownBlock)(ho:w.ownsRow B e s v n xs)(hne:e≠t):Ae w' A cs/\BP w' A t:=by
 have key:∀x,A=some x→w'.heap[x.block]?=w.heap[x.block]?:=fun x hx=>by obtain⟨cs0,r,hb⟩:=ht x hx;exact hg.block _ (Ajx hb) (fun e'=>Bo ho hb hne e'.symm)
 refine⟨⟨fun h0=>?_⟩,fun x hx=>?_⟩
 ·obtain⟨b,o,e1,hc⟩:=h.ad h0;have hk:=key _ e1;exact⟨b,o,e1,fun j hj=>(World.cell?_of_block (a:=⟨b,o+j,none⟩) hk).trans (hc j hj)⟩
 ·obtain⟨cs0,r,hb⟩:=ht x hx;exact⟨cs0,r,(key x hx).trans hb⟩
theorem az{w w':World}{A:Option Addr}{cs:List Value}{t t':TypeId}{b:Nat}{cs0:Array Value}{r0:Nat×Nat}(h:Ae w A cs)(ht:BP w A t)(hb:Ax (fun q=>q=b) w w')(hm:w.heap[b]?=some (.cells cs0 t' r0))(hne:t≠t'):Ae w' A cs/\BP w' A t:=by
 have key:∀x,A=some x→w'.heap[x.block]?=w.heap[x.block]?:=fun x hx=>by obtain⟨cs1,r,h1⟩:=ht x hx;exact hb.block _ (Ajx h1) (Ct h1 hm hne)
 refine⟨⟨fun h0=>?_⟩,ht.but hb hm hne⟩;obtain⟨b1,o,e1,hc⟩:=h.ad h0;have hk:=key _ e1;exact⟨b1,o,e1,fun j hj=>(World.cell?_of_block (a:=⟨b1,o+j,none⟩) hk).trans (hc j hj)⟩
theorem Age{base bs k n:Nat}{m:MapZ}{fa:List Bs}{W W1 w8 Lg gG Lh:World}{mv dv KJ JS:Value}{dc old:List Value}{A2 B2 F2 L2:Option Addr}{c2 d2 g2 z2:Nat}
  (hb:base<=bs) (hS:W.heap[bs]?=some (.cells #[mv,dv,.slice none 0 0] 115))
  (hM:W.ownsRow base 35 3 mv (k+1) old) (Ch:old.length=(k+1)*3) (hD:W.ownsRow base 23 1 dv k dc)
  (GQ:∀v∈dc,∃L n z,v=.slice L n z/\n<=1000/\Ae W L (AS BA n)/\BP W L 29)
  (An:Bj m c2 d2 g2) (r1:Ae W A2 (flat (Ai m.pts))) (r2:Ae W B2 (Au m.eds)) (r3:Ae W F2 (fa.map S)) (Dq:FZ W A2 B2 F2)
  (X1:Ac W W1) (GT:W1.grownBy w8 mv.ownBlock) (ho8:w8.ownsRow base 35 3 KJ (k+1+1) (old ++ [.slice A2 m.pts.length c2,.slice B2 m.eds.length d2,.slice F2 m.nf g2]))
  (mq:Ac w8 Lg) (hcl:Lg.ownsRow w8.heap.size 29 8 (.slice L2 n z2) n (AS BA n)) (hn:n<=1000)
  (JK:Ac Lg gG) (Ma:gG.grownBy Lh dv.ownBlock) (rW:Lh.ownsRow base 23 1 JS (k+1) (dc ++ [.slice L2 n z2])) :
  CY base bs (k+1) m fa ((Lh.setCell ⟨bs,0,none⟩ KJ).setCell ⟨bs,1,none⟩ JS):=by
 have Bt:=A9 hM X1;have hD8:=Kb GT Bt (A9 hD X1) (by decide);have O2:=En GT Bt ((X1.block _ (Ajx hS)).trans hS) (by decide);have X:=mq.trans JK;have TP:=A9 hD8 X;have nO:=Kb Ma TP (A9 ho8 X) (by decide);have QL:=En Ma TP ((X.block _ (Ajx O2)).trans O2) (by decide);have bb:=((Ax.refl (fun q=>q=bs) Lh).setCell (p:=⟨bs,0,none⟩) (.inl rfl) KJ).setCell (p:=⟨bs,1,none⟩) (.inl rfl) JS
 have key:∀(A:Option Addr) (cs:List Value) (t:TypeId),Ae W A cs→BP W A t→35≠t→23≠t→t≠115→Ae ((Lh.setCell ⟨bs,0,none⟩ KJ).setCell ⟨bs,1,none⟩ JS) A cs/\BP ((Lh.setCell ⟨bs,0,none⟩ KJ).setCell ⟨bs,1,none⟩ JS) A t:=by intro A cs t h1 h2 n1 n2 n3;obtain⟨a1,a2⟩:=VB (h1.ext X1) (h2.ext X1) GT Bt n1;obtain⟨a3,a4⟩:=VB (a1.ext X) (a2.ext X) Ma TP n2;exact az a3 a4 bb QL n3
 obtain⟨p1,p2⟩:=key _ _ _ r1 Dq.1 (by decide) (by decide) (by decide);obtain⟨p3,p4⟩:=key _ _ _ r2 Dq.2.1 (by decide) (by decide) (by decide);obtain⟨p5,p6⟩:=key _ _ _ r3 Dq.2.2 (by decide) (by decide) (by decide);obtain⟨A',c',e',hr',-,-⟩:=Ae.of_own' (by omega) hcl;simp only [Value.slice.injEq]at e';obtain⟨rfl,-,rfl⟩:=e';obtain⟨q1,q2⟩:=VB (hr'.ext JK) ((BP.of_own hcl).ext JK) Ma TP (show 23≠29 by decide);obtain⟨q3,q4⟩:=az q1 q2 bb QL (by decide);refine⟨hb,KJ,JS,old,dc ++ [.slice L2 n z2],A2,B2,F2,c2,d2,g2,?_,Bw nO bb ?_,Ch,An,p1,p3,p5,⟨p2,p4,p6⟩,Bw rW bb ?_,?_⟩
 ·simp only [World.setCell,Array.getElem?_modify,QL];simp
 ·intro q hq e;subst e;exact Bo nO QL (by decide) hq
 ·intro q hq e;subst e;exact Bo rW QL (by decide) hq
 ·intro v hv
  rcases List.mem_append.1 hv with hv|hv
  ·obtain⟨L,n,z,e,h1,h2,h3⟩:=GQ v hv;obtain⟨h4,h5⟩:=key _ _ _ h2 h3 (by decide) (by decide) (by decide);exact⟨L,n,z,e,h1,h4,h5⟩
  ·rw [AjB]at hv;exact⟨L2,n,z2,hv,hn,q3,q4⟩
theorem iG(base bs k:Nat)(m:MapZ)(fa:List Bs)(hk:k<100)(L:Option Addr)(n z:Nat)(hn:n<=1000)(w:World)(hs:CY base bs k m fa w)(hL:Ae w L (AS BA n))(hT:BP w L 29)
  (hall:∀(W:World) (A B F:Option Addr) (c d g:Nat),Ac w W→Bj m c d g→Ae W A (flat (Ai m.pts))→Ae W B (Au m.eds)→Ae W F (fa.map S)→Calls Tryz.prog 10 #[As A B F m c d g,.slice L n z] W (P8 W m fa)) :
  Calls Tryz.prog 51 #[.pointer (some ⟨bs,0,none⟩),.slice L n z] w (fun e w'=>e=.returned (.tuple #[.int .i64 0,.int .i64 0])/\CY base bs (k+1) m fa w'/\(∀w0,Ac w0 w→w0.heap.size<=base→Ac w0 w')):=by
 obtain⟨gm,cap,D,cd,A,B,F,c,d,g,k0,k1,c0,c1,c2,An,r1,r2,r3,-⟩:=hs.last;have nc:=vY bs gm k cap A B F m.pts.length c m.eds.length d m.nf g (by omega) w k0 c0 c1 c2;unfold As at hall;clear k0 k1 c0 c1 c2;go_enter Tryz.func51,Tryz.ntmps51;(go_wp2_with fail);(with_reducible refine nc.mono ?_);rintro e w1 ⟨rfl,hx1⟩;have aa:=hall w1 A B F c d g hx1 An (r1.ext hx1) (r2.ext hx1) (r3.ext hx1);clear nc hall An r1 r2 r3;(go_wp2_with fail);(with_reducible refine aa.mono ?_);rintro e w2 ⟨A2,B2,F2,c2,d2,g2',rfl,An,r1,r2,r3,hx2,Dq⟩;unfold As;obtain⟨hb,mv,dv,mc,dc,A,B,F,c,d,g,hS,hM,Ch,-,-,-,-,-,hD,GQ⟩:=hs;have Ce:=hx1.trans hx2;have rQ:∀q,mv.ownBlock=some q→q<w2.heap.size:=fun q hq=>((A9 hM Ce).lt q hq).2;have qM:∀q,dv.ownBlock=some q→q<w2.heap.size:=fun q hq=>((A9 hD Ce).lt q hq).2;have hq:=Ajy w2 (.cells #[.slice A2 m.pts.length c2,.slice B2 m.eds.length d2,.slice F2 m.nf g2'] 35);have xq:=(Ac.refl w2).alloc (.cells #[.slice A2 m.pts.length c2,.slice B2 m.eds.length d2,.slice F2 m.nf g2'] 35);have hX:=Ce.trans xq;replace hS:=(hX.block _ (Ajx hS)).trans hS;replace hM:=A9 hM hX;replace hD:=A9 hD hX
 have qJ:∀v∈dc,∃L n z,v=.slice L n z/\n<=1000/\Ae (w2.alloc (.cells #[.slice A2 m.pts.length c2,.slice B2 m.eds.length d2,.slice F2 m.nf g2'] 35)) L (AS BA n)/\BP (w2.alloc (.cells #[.slice A2 m.pts.length c2,.slice B2 m.eds.length d2,.slice F2 m.nf g2'] 35)) L 29:=fun v hv=>by obtain⟨L,n,z,e,h1,h2,h3⟩:=GQ v hv;exact⟨L,n,z,e,h1,h2.ext hX,h3.ext hX⟩
 have rP:(mc ++ [Value.slice A m.pts.length c,.slice B m.eds.length d,.slice F m.nf g]).length=(k+1)*3:=(by simp [Ch];omega);have HS:=Ajw (And.intro hS (And.intro hM (And.intro hD (And.intro qJ (And.intro hX (And.intro (hL.ext hX) (And.intro (hT.ext hX) (And.intro rP (And.intro An (And.intro (r1.ext xq) (And.intro (r2.ext xq) (And.intro (r3.ext xq) (Dq.ext xq)))))))))))));clear aa hx1 hx2 Ce hL hT hX xq An r1 r2 r3 Dq hS hM hD GQ qJ Ch rP;generalize mc ++ [Value.slice A m.pts.length c,.slice B m.eds.length d,.slice F m.nf g]=old at HS
 go_upto_region 3 with fail
 generalize w2.alloc (.cells #[.slice A2 m.pts.length c2,.slice B2 m.eds.length d2,.slice F2 m.nf g2'] 35)=W at *;obtain⟨bq,C7⟩:=Ajv w2.heap.size;rw [←C7]at hq rQ qM ⊢;clear C7;obtain⟨hS,hM,hD,GQ,hX,hL,hT,Ch,An,r1,r2,r3,Dq⟩:=HS.out;clear HS;have X:Ac W W.drew:=(Ac.refl W).drew;have SO:=fun (w':World) (h:w'.heap[bs]?=some (.cells #[mv,dv,.slice none 0 0] 115)) (h2:w'.heap[bq]?=some (.cells #[.slice A2 m.pts.length c2,.slice B2 m.eds.length d2,.slice F2 m.nf g2'] 35))=>(⟨Aa h rfl,Aa h rfl,Aa h2 rfl,Aa h2 rfl,Aa h2 rfl⟩:w'.cell? ⟨bs,0,none⟩=some mv/\w'.cell? ⟨bs,1,none⟩=some dv/\w'.cell? ⟨bq,0,none⟩=some (.slice A2 m.pts.length c2)/\w'.cell? ⟨bq,1,none⟩=some (.slice B2 m.eds.length d2)/\w'.cell? ⟨bq,2,none⟩=some (.slice F2 m.nf g2'));obtain⟨am,cm,rfl,-,-,-⟩:=Ae.of_own' (by omega) hM;obtain⟨ad,jP,rfl,-,-,-⟩:=Ae.of_own' (by omega) hD;refine wp_region_any (by kernel_rfl) ?_;refine wpAny_take (i:=1) (v:=.pointer (some ⟨bs,0,none⟩)) rfl (by kernel_rfl) (by kernel_rfl) (by kernel_rfl) (fun _ _ _ h=>h) (.inl ⟨rfl,fun w=>by go_simp⟩) ?_
 try simp only [Act.put,List.setIfInBounds_toArray]
 refine dW (T:=[19,20,21,22]) (S:=fun w'=>w'.cell? ⟨bs,0,none⟩=some (.slice am (k+1) cm)/\w'.cell? ⟨bs,1,none⟩=some (.slice ad k jP)/\w'.cell? ⟨bq,0,none⟩=some (.slice A2 m.pts.length c2)/\w'.cell? ⟨bq,1,none⟩=some (.slice B2 m.eds.length d2)/\w'.cell? ⟨bq,2,none⟩=some (.slice F2 m.nf g2')) _ _ _ _ ?_;have hHeld:=SO W.drew hS hq;refine Cq (i:=0) (v:=?_) rfl (by kernel_rfl) (fun _ _ _ h=>h) hHeld (by rfl) ?_ ?_
 rotate_left
 ·(intro w hSw;(try dsimp only at hSw);go_simp;try (with_reducible rfl))
 try simp only [Act.put]
 refine Cq (i:=2) (v:=?_) rfl (by kernel_rfl) (fun _ _ _ h=>h) hHeld (by rfl) ?_ ?_
 rotate_left
 ·(intro w hSw;(try dsimp only at hSw);go_simp;try (with_reducible rfl))
 try simp only [Act.put]
 refine Cq (i:=3) (v:=?_) rfl (by kernel_rfl) (fun _ _ _ h=>h) hHeld (by rfl) ?_ ?_
 rotate_left
 ·(intro w hSw;(try dsimp only at hSw);go_simp;try (with_reducible rfl))
 try simp only [Act.put]
 refine Cq (i:=4) (v:=?_) rfl (by kernel_rfl) (fun _ _ _ h=>h) hHeld (by rfl) ?_ ?_
 rotate_left
 ·(intro w hSw;(try dsimp only at hSw);go_simp;try (with_reducible rfl))
 try simp only [Act.put]
 refine Cq (i:=5) (v:=?_) rfl (by kernel_rfl) (fun _ _ _ h=>h) hHeld (by rfl) ?_ ?_
 rotate_left
 ·(intro w hSw;(try dsimp only at hSw);go_simp;try (with_reducible rfl))
 try simp only [Act.put]
 refine Cq (i:=6) (v:=?_) rfl (by kernel_rfl) (fun _ _ _ h=>h) hHeld (by rfl) ?_ ?_
 rotate_left
 ·(intro w hSw;(try dsimp only at hSw);go_simp;try (with_reducible rfl))
 try simp only [Act.put]
 refine Cq (i:=9) (v:=?_) rfl (by kernel_rfl) (fun _ _ _ h=>h) hHeld (by rfl) ?_ ?_
 rotate_left
 ·(intro w hSw;(try dsimp only at hSw);go_simp;try (with_reducible rfl))
 try simp only [Act.put]
 refine Cq (i:=10) (v:=?_) rfl (by kernel_rfl) (fun _ _ _ h=>h) hHeld (by rfl) ?_ ?_
 rotate_left
 ·(intro w hSw;(try dsimp only at hSw);go_simp;try (with_reducible rfl))
 try simp only [Act.put]
 refine Cq (i:=11) (v:=?_) rfl (by kernel_rfl) (fun _ _ _ h=>h) hHeld (by rfl) ?_ ?_
 rotate_left
 ·(intro w hSw;(try dsimp only at hSw);go_simp;try (with_reducible rfl))
 try simp only [Act.put]
 refine Cq (i:=12) (v:=?_) rfl (by kernel_rfl) (fun _ _ _ h=>h) hHeld (by rfl) ?_ ?_
 rotate_left
 ·(intro w hSw;(try dsimp only at hSw);go_simp;try (with_reducible rfl))
 try simp only [Act.put]
 refine Cq (i:=13) (v:=?_) rfl (by kernel_rfl) (fun _ _ _ h=>h) hHeld (by rfl) ?_ ?_
 rotate_left
 ·(intro w hSw;(try dsimp only at hSw);go_simp;try (with_reducible rfl))
 try simp only [Act.put]
 refine Ft (i:=7) rfl (by kernel_rfl) (fun K hK=>?_)
 go_simp
 have X7:Ac W (W.drew.alloc (.cells #[.slice A2 m.pts.length c2,.slice B2 m.eds.length d2,.slice F2 m.nf g2'] 35)):=X.alloc _;have Yo:=(X7.block _ (Ajx hS)).trans hS;have Z7:=(X7.block _ (Ajx hq)).trans hq;refine hK.out _ _ (fun _=>SO _ Yo Z7) (fun hH=>?_);have hHeld:=hH rfl;clear hK K hH
 try simp only [Act.put,List.setIfInBounds_toArray,List.set_cons_zero,List.set_cons_succ]
 refine Ft (i:=8) rfl (by kernel_rfl) (fun K hK=>?_);refine Eq.mpr (if_pos (Eq.refl true)) ?_;refine Ahp _ _ rfl _ base (.slice am (k+1) cm) (k+1) old A2 B2 F2 m.pts.length c2 m.eds.length d2 m.nf g2' rfl (A9 hM X7) (by omega) W.heap.size (Ajy _ _) rfl (Aj9 hb (Nat.le_of_lt (Ajx Yo))) ?_;intro KJ w8 U6 Abd GT;have CL:=A9 hM X7;have O2:=En GT CL Yo (by decide);have Z8:=(GT.block _ (Ajx Z7) (fun e=>Nat.lt_irrefl _ (rQ _ e.symm))).trans Z7;refine hK.out _ _ (fun _=>SO _ O2 Z8) (fun hH=>?_);have hHeld:=hH rfl;clear hK K hH
 try simp only [Act.put,List.setIfInBounds_toArray,List.set_cons_zero,List.set_cons_succ]
 refine Ft (i:=14) rfl (by kernel_rfl) (fun K hK=>?_)
 go_simp
 have t8:=VB (hL.ext X7) (hT.ext X7) GT CL (show 35≠29 by decide);(with_reducible refine(kC n L z w8 t8.1 (by omega)).mono ?_);rintro e Lg ⟨v14,rfl,hown14,Dg⟩;obtain⟨L2,z2,rfl,-,-,-⟩:=Ae.of_own' (by omega) hown14;have Yl:=(Dg.block _ (Ajx O2)).trans O2;have Z5:=(Dg.block _ (Ajx Z8)).trans Z8;refine hK.out _ _ (fun _=>SO _ Yl Z5) (fun hH=>?_);have hHeld:=hH rfl;clear hK K hH
 try simp only [Act.put,List.setIfInBounds_toArray,List.set_cons_zero,List.set_cons_succ]
 refine Ft (i:=15) rfl (by kernel_rfl) (fun K hK=>?_)
 go_simp
 have JK:Ac Lg (Lg.alloc (.cells #[.slice L2 n z2] 23)):=(Ac.refl Lg).alloc _;have Ym:=(JK.block _ (Ajx Yl)).trans Yl;have Z6:=(JK.block _ (Ajx Z5)).trans Z5;refine hK.out _ _ (fun _=>SO _ Ym Z6) (fun hH=>?_);have hHeld:=hH rfl;clear hK K hH
 try simp only [Act.put,List.setIfInBounds_toArray,List.set_cons_zero,List.set_cons_succ]
 refine Ft (i:=16) rfl (by kernel_rfl) (fun K hK=>?_);refine Eq.mpr (if_pos (Eq.refl true)) ?_;have nC:=A9 (Kb GT CL (A9 hD X7) (by decide)) (Dg.trans JK);refine Aho _ _ rfl _ base (.slice ad k jP) k dc L2 n z2 rfl nC (by omega) Lg.heap.size (Ajy _ _) rfl (Aj9 hb (Nat.le_of_lt (Ajx Ym))) ?_;intro JS Lh sK Abc Ma;have QK:=En Ma nC Ym (by decide);have AbJ:=(Ma.block _ (Ajx Z6) (fun e=>Nat.lt_irrefl _ (qM _ e.symm))).trans Z6;refine hK.out _ _ (fun _=>SO _ QK AbJ) (fun hH=>?_);have hHeld:=hH rfl;clear hK K hH
 try simp only [Act.put,List.setIfInBounds_toArray,List.set_cons_zero,List.set_cons_succ]
 refine Cq (i:=17) (v:=?_) rfl (by kernel_rfl) (fun _ _ _ h=>h) hHeld (by rfl) ?_ ?_
 rotate_left
 ·(intro w hSw;(try dsimp only at hSw);go_simp;try (with_reducible rfl))
 try simp only [Act.put]
 refine Cq (i:=18) (v:=?_) rfl (by kernel_rfl) (fun _ _ _ h=>h) hHeld (by rfl) ?_ ?_
 rotate_left
 ·(intro w hSw;(try dsimp only at hSw);go_simp;try (with_reducible rfl))
 try simp only [Act.put]
 have y0:=Aa (o:=0) QK rfl;have y1:=Aj (o:=0) QK;have y2:=Aa (o:=1) QK rfl;have y3:=Aj (o:=1) QK;have Cg:=Age hb hS hM Ch hD GQ An r1 r2 r3 Dq X7 GT U6 Dg hown14 hn JK Ma sK
 have UG:∀w0,Ac w0 w→w0.heap.size<=base→Ac w0 ((Lh.setCell ⟨bs,0,none⟩ KJ).setCell ⟨bs,1,none⟩ JS):=fun w0 h0 h1=>((Abc w0 (((Abd w0 ((h0.trans hX).trans X7) h1).trans Dg).trans JK) h1).setCell (p:=⟨bs,0,none⟩) (Aj9 h1 hb) KJ).setCell (p:=⟨bs,1,none⟩) (Aj9 h1 hb) JS
 have HF:=Ajw (And.intro Cg UG);obtain⟨nv,ut,rfl,-,-,-⟩:=Ae.of_own' (by omega) U6;obtain⟨ad',s7,rfl,-,-,-⟩:=Ae.of_own' (by omega) sK;clear Cg UG;refine Ft (i:=19) rfl (by kernel_rfl) (fun K hK=>?_)
 go_simp
 refine hK.out _ _ (fun h=>by simp at h) (fun _=>?_);clear hK K
 try simp only [Act.put,List.setIfInBounds_toArray,List.set_cons_zero,List.set_cons_succ]
 refine Ft (i:=20) rfl (by kernel_rfl) (fun K hK=>?_)
 go_simp
 refine hK.out _ _ (fun h=>by simp at h) (fun _=>?_);clear hK K
 try simp only [Act.put,List.setIfInBounds_toArray,List.set_cons_zero,List.set_cons_succ]
 refine Ft (i:=21) rfl (by kernel_rfl) (fun K hK=>?_)
 go_simp
 refine hK.out _ _ (fun h=>by simp at h) (fun _=>?_);clear hK K
 try simp only [Act.put,List.setIfInBounds_toArray,List.set_cons_zero,List.set_cons_succ]
 refine Ft (i:=22) rfl (by kernel_rfl) (fun K hK=>?_)
 go_simp
 refine hK.out _ _ (fun h=>by simp at h) (fun _=>?_);clear hK K
 try simp only [Act.put,List.setIfInBounds_toArray,List.set_cons_zero,List.set_cons_succ]
 refine lG (by kernel_rfl) ?_ _;generalize (Lh.setCell ⟨bs,0,none⟩ (.slice nv (k+1+1) ut)).setCell ⟨bs,1,none⟩ (.slice ad' (k+1) s7)=W22 at *;clear hHeld;go_wp2;go_ret2;exact⟨rfl,HF.out⟩
end
theorem AfS(n:Nat)(hn:n≠0)(A':Option Addr)(c':Nat)(w:World):Calls Tryz.prog 52 #[.slice none 0 0,.slice A' n c'] w (By false w):=by
 have h1:¬(0:Int)=(n:Int):=(by omega);have h2:((0:Int) != (n:Int))=true:=(by rw [bne_iff_ne];exact h1);have h3:¬0=n:=(by omega);go_enter Tryz.func52,Tryz.ntmps52;go_wp2;go_ret;exact⟨rfl,Ac.refl _⟩
theorem yy(A' B' F':Option Addr)(n1 c' n2 d' n3 g':Nat)(hn:n1≠0)(w:World) :
  Calls Tryz.prog 14 #[G5,.agg #[.slice A' n1 c',.slice B' n2 d',.slice F' n3 g']] w (By false w):=by
 have h1:=Ajy w (.cells #[.slice none 0 0,.slice none 0 0,.slice none 0 0] 35);have h2:=Ajy (w.alloc (.cells #[.slice none 0 0,.slice none 0 0,.slice none 0 0] 35)) (.cells #[.slice A' n1 c',.slice B' n2 d',.slice F' n3 g'] 35);rw [Aj6]at h2;have e1:=(Ac.refl w).alloc (.cells #[.slice none 0 0,.slice none 0 0,.slice none 0 0] 35);have e2:=(Ac.refl (w.alloc (.cells #[.slice none 0 0,.slice none 0 0,.slice none 0 0] 35))).alloc (.cells #[.slice A' n1 c',.slice B' n2 d',.slice F' n3 g'] 35);have hM:=(e2.block _ (Ajx h1)).trans h1;have hE:=e1.trans e2;unfold G5;clear h1 e1 e2;go_enter Tryz.func14,Tryz.ntmps14
 go_upto_region 1 with fail
 generalize (w.alloc (.cells #[.slice none 0 0,.slice none 0 0,.slice none 0 0] 35)).alloc (.cells #[.slice A' n1 c',.slice B' n2 d',.slice F' n3 g'] 35)=V at *;obtain⟨bm,AD⟩:=Ajv w.heap.size;rw [←AD]at hM h2 ⊢;clear AD;have k0:V.cell? ⟨bm,0,none⟩=some (.slice none 0 0):=Aa hM rfl;have k1:V.cell? ⟨bm+1,0,none⟩=some (.slice A' n1 c'):=Aa h2 rfl;(go_wp2_with fail);(with_reducible refine(AfS n1 hn A' c' V).mono ?_);rintro e w1 ⟨rfl,hx1⟩;have HX:=Ajw (hE.trans hx1);clear hM h2 hE k0 k1 hx1;go_wp2;go_ret;exact⟨rfl,HX.out⟩
def doneN(w:World)(bs:Nat):Nat:=match w.cell? ⟨bs,1,none⟩with
 | some (.slice _ k _)=>k
 | _=>0
theorem CY.n{base bs k:Nat}{m:MapZ}{fa:List Bs}{w:World}(h:CY base bs k m fa w):doneN w bs=k:=by
 obtain⟨gm,cap,D,cd,A,B,F,c,d,g,k0,k1,-⟩:=h.last;unfold doneN;rw [k1]
theorem CY.dn{base bs k:Nat}{m:MapZ}{fa:List Bs}{w:World}(h:CY base bs k m fa w)(hk:k<=1000):Calls Tryz.prog 15 #[.pointer (some ⟨bs,0,none⟩)] w (fun e w'=>∃A c,e=.returned (.slice A k c)/\Ac w w'):=by
 obtain⟨hb,mv,dv,mc,dc,A,B,F,c,d,g,hS,hM,Ch,An,r1,r2,r3,Dq,hD,GQ⟩:=h;obtain⟨D,cd,rfl,hr,-,-⟩:=Ae.of_own' (by omega) hD
 exact xt bs k D cd dc (by have:=hD.1;omega) hk w (Aa hS rfl) hr (fun v hv=>by
  obtain⟨L,n,z,e,h1,h2,-⟩:=GQ v hv
  exact⟨L,n,z,e,h1,h2⟩)
end Go.Proofs.YtgnejnampofhoaaGreatDoor
