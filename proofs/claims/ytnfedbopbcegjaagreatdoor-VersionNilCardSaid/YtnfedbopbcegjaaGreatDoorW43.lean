/- W43. -/
import Derived.Test.YtnfedbopbcegjaaGreatDoorW42
set_option maxRecDepth 100000
set_option maxHeartbeats 16000000
namespace Go.Proofs.YtnfedbopbcegjaaGreatDoor
open Go.RowKit Kl
theorem tO(l:List Int)(z:Int)(A:Option Addr)(c:Nat)(w:World)(hr:Ad w A (zs l))(hc:l.length<=c)(hcm:c<=9223372036854775807) :
  Calls Tryz.prog 32 #[.slice A l.length c,.int .i64 z] w (AB (ER (fun y=>z == y) l) w):=by
 obtain⟨r,hr0⟩:=AjJ (ER (fun y=>z == y) l);rw [←hr0];have HR:=AjK hr0;clear hr0;go_enter Tryz.func32,Tryz.ntmps32;go_wp2
 go_loopw [8] (fun i wr=>∃j:Nat,i=.int .i64 (j:Nat)/\j<=l.length/\(∀q∈l.take j,(z == q)=false)/\Aa w wr) (fun i _=>l.length-(intOf i).toNat)
 case atStart=>exact⟨0,rfl,by omega,by simp,Aa.refl _⟩
 case round=>
  obtain⟨j,rfl,hj,Ai,Ae⟩:=hrel;have HO:=AjK Ai;clear Ai;by_cases hlt:j<l.length
  ·obtain⟨b,o,rfl,hc1⟩:=(hr.ext Ae).ad (by simp [zs];omega);have g1:=hc1 j (by simp [zs];exact hlt);have ge:(zs l)[j]'(by simp [zs];exact hlt)=.int .i64 l[j]:=(by simp [zs]);rw [ge]at g1;obtain⟨y,hy⟩:=AjJ (l[j]);rw [←hy]at g1;have HY:=AjK hy;have hj0:(0:Int)<=(j:Int):=(by omega);have Ay:(j:Int)<(l.length:Int):=(by omega);clear hy ge hc1
   cases e0:(z == y)
   ·have HE:=AjK e0;go_wp2;go_roundw
    case rel=>
     refine⟨j+1,by go_num,hlt,?_,Ae⟩;intro x hx;rw [AjQ hlt,←HY.out]at hx
     rcases List.mem_append.1 hx with h|h
     ·exact HO.out x h
     ·simp only [AjZ]at h;rw [h];exact HE.out
    case measure=>simp [intOf];omega
   ·have Cu:r=(j:Int):=(by rw [HR.out];exact Zn hlt HO.out (by rw [←HY.out];exact e0));subst Cu;go_wp2;go_ret;exact⟨rfl,Ae⟩
  ·have hle:(l.length:Int)<=(j:Int):=(by omega);have Cu:r = -1:=(by rw [HR.out];exact Zo (by have:=HO.out;rw [AjV (by omega)]at this;exact this));subst Cu;go_wp2;go_ret;exact⟨rfl,Ae⟩
theorem iK(l:List Int)(z:Int)(A:Option Addr)(c:Nat)(w:World)(hr:Ad w A (zs l))(hc:l.length<=c)(hcm:c<=9223372036854775807) :
  Calls Tryz.prog 31 #[.slice A l.length c,.int .i64 z] w (BE (l.any (fun y=>z == y)) w):=by
 have ix:=tO l z A c w hr hc hcm;have ha:=Zm (fun y=>z == y) l;obtain⟨r,hr0⟩:=AjJ (l.any (fun y=>z == y));rw [←hr0]at ha ⊢;generalize ER (fun y=>z == y) l=n at *;have HA:=AjK ha;clear hr0 ha hr;go_enter Tryz.func31,Tryz.ntmps31;(go_wp2_with fail);(with_reducible refine ix.mono ?_);rintro e w2 ⟨rfl,hx2⟩;go_wp2;go_ret;exact⟨by rw [←HA.out];rfl,hx2⟩
section
variable {ops : Array Oper} {rest : List Oper} {o : Oper} {a : Act} {Q : Exit → Act → World → Prop}
theorem qm(hgd:o.guard=none)(s x:Operand)(ho:o.op=.call {callee:=.builtin .append,args:=#[s,x],argTypes:=#[33,33]})
  (wN:World) (base:Nat) (v:Value) (n:Nat) (l:List Bs) (hs:a.eval s=v) (hown:wN.ownsRow base 9 1 v n (l.map S)) (hn:n<200000) (d:Bs)
  (g:Nat) (hb:wN.heap[g]?=some (.cells #[S d] 9)) (hx:a.eval x=.slice (some ⟨g,0,none⟩) 1 1) (hbase:base<=wN.heap.size)
  (h:∀v' w',w'.ownsRow base 9 1 v' (n+1) ((l ++ [d]).map S)→(∀w0,Aa w0 wN→w0.heap.size<=base→Aa w0 w')→wN.grownBy w' v.ownBlock→wpList Tryz.prog ops Q rest (a.put o.dst v') w') :
  wpList Tryz.prog ops Q (o::rest) a wN:=
 wpList_plain hgd fun _ hK=>ey s x ho wN base v n l hs hown hn d g hb hx hbase fun v' w' h1 h2 h3=>hK _ _ (h v' w' h1 h2 h3)
end
theorem bj(w:World)(o1 o2 o3:Obj):(((w.alloc o1).alloc o2).alloc o3).heap[w.heap.size]?=some o1/\(((w.alloc o1).alloc o2).alloc o3).heap[w.heap.size+1]?=some o2/\(((w.alloc o1).alloc o2).alloc o3).heap[w.heap.size+1+1]?=some o3/\Aa w (((w.alloc o1).alloc o2).alloc o3):=by
 have h1:=AjM w o1;have h2:=AjM (w.alloc o1) o2;have h3:=AjM ((w.alloc o1).alloc o2) o3;rw [AjU]at h2;rw [AjU,AjU]at h3;have e1:=(Aa.refl w).alloc o1;have e2:=(Aa.refl (w.alloc o1)).alloc o2;have e3:=(Aa.refl ((w.alloc o1).alloc o2)).alloc o3;exact⟨((e2.trans e3).block _ (AjL h1)).trans h1,(e3.block _ (AjL h2)).trans h2,h3,e1.trans (e2.trans e3)⟩
theorem Lc{w w':World}{B B':Nat}{e e':TypeId}{s s' n n':Nat}{v v':Value}{xs xs':List Value}(hg:w.grownBy w' v.ownBlock)(hv:w.ownsRow B e s v n xs)(hu:w.ownsRow B' e' s' v' n' xs')(hne:e'≠e):w'.ownsRow B' e' s' v' n' xs':=by
 refine hu.kept hg ?_
 cases hb:v.ownBlock with
 | none=>
  cases hb':v'.ownBlock with
  | none=>exact .inl rfl
  | some k=>exact .inr (by simp)
 | some k=>
  refine .inr (fun e0=>?_)
  rcases hv.2 with⟨h',_⟩|⟨g,cap,cur,h',_,hgb,_⟩
  ·rw [h']at hb;cases hb
  ·rw [h']at hb;simp only [Value.ownBlock,AjR]at hb;subst hb;exact Ap hu hgb hne e0
theorem SX{w w':World}{B:Nat}{e:TypeId}{s n:Nat}{v:Value}{xs:List Value}(hg:w.grownBy w' v.ownBlock)(hv:w.ownsRow B e s v n xs){j:Nat}{cs:Array Value}{t:TypeId}(hj:w.heap[j]?=some (.cells cs t))(hne:e≠t):w'.heap[j]?=some (.cells cs t):=
 (hg.block j (AjL hj) (fun e0=>Ap hv hj hne e0.symm)).trans hj
end Go.Proofs.YtnfedbopbcegjaaGreatDoor
namespace Go.Proofs.YtnfedbopbcegjaaGreatDoor
section
open Go.RowKit Kl
theorem Eu.set3{B:Nat}{w:World}{A Bk F:Option Addr}{c d g:Nat}{m:MapZ}{fa:List Bs}(h:Eu B w A Bk F c d g m fa){bo:Nat}{cs:Array Value}(hb:w.heap[bo]?=some (.cells cs 44))(x y z:Value):Eu B (((w.setCell ⟨bo,0,none⟩ x).setCell ⟨bo,1,none⟩ y).setCell ⟨bo,2,none⟩ z) A Bk F c d g m fa:=
 ⟨Ki h.pts hb (by decide) _ _ _,Ki h.eds hb (by decide) _ _ _,Ki h.fac hb (by decide) _ _ _,h.nf⟩
def eD(B:Nat)(w0 W:World)(m':MapZ)(Ht:List Bs)(e:Ending)(w':World):Prop:=
 ∃A' B' F' c' d' g',e=.returned (.tuple #[AE A' B' F' m' c' d' g',.int .i64 0])/\Eu B w' A' B' F' c' d' g' m' Ht/\Aa w0 w'/\∀(j:Nat) (cs:Array Value),W.heap[j]?=some (.cells cs 44)→w'.heap[j]?=some (.cells cs 44)
end
section
open Go.RowKit Kl
theorem qp(m m':MapZ)(fa Ht:List Bs)(Cb:m.nf=fa.length)(hgr:∀p∈m.pts,Da p)(hck:GF m=0)(hpl:m.pts.length<=1000)(hel:m.eds.length<=1000)(H6:fa.length<=1000)(nN:J1 m'=true)(qI:m'.nf=Ht.length)(oS:Ht.length<=1000)(a1 a2:Bs)(u:Bs)(w:World)(hw:Ak w)
  (hsc:∀W,Aa w W→Calls Tryz.prog 87 #[Hr 1 (a1,a2) ([],[]) ([],[]) u] W (AB 0 W))
  (TZ:∀(V W:World) (A B F:Option Addr) (c d g:Nat),Aa w V→Aa V W→Eu V.heap.size W A B F c d g m fa→Calls Tryz.prog 88 #[AE A B F m c d g,Hr 1 (a1,a2) ([],[]) ([],[]) u] W (eD V.heap.size V W m' Ht))
  (A B F:Option Addr) (c d g:Nat) (A7:Cf m c d g) (hA:Ad w A (flat (Aq m.pts))) (hB:Ad w B (AA m.eds)) (hF:Ad w F (fa.map S)) :
  Calls Tryz.prog 45 #[AE A B F m c d g,Hr 1 (a1,a2) ([],[]) ([],[]) u] w (fun e w'=>OT w (P7 m' Ht) (Dc m' Ht).fa e w'):=by
 obtain⟨hM,hE,hR,hX⟩:=bj w (.cells #[.slice A m.pts.length c,.slice B m.eds.length d,.slice F m.nf g] 44) (.cells #[.int .i64 1,S a1,S a2,S [],S [],S [],S [],S u] 35) (.cells #[.slice none 0 0,.slice none 0 0,.slice none 0 0] 44);have pc:=fun W (hx:Aa w W)=>Rh m hgr A B F c d g A7 W (hw.ext hx) (hA.ext hx) (hB.ext hx);rw [hck]at pc;have cp:=fun W (hx:Aa w W)=>xh m fa Cb hpl hel H6 A B F c d g W (hA.ext hx) (hB.ext hx) (hF.ext hx);have HM:=AjK (And.intro nN (And.intro qI (And.intro oS Cb)));clear nN qI oS Cb A7 hA hB hF hgr hck;unfold AE at pc cp ⊢;unfold Hr at hsc TZ ⊢;unfold AE at TZ;go_enter Tryz.func45,Tryz.ntmps45
 go_upto_region 1 with fail
 generalize ((w.alloc (.cells #[.slice A m.pts.length c,.slice B m.eds.length d,.slice F m.nf g] 44)).alloc (.cells #[.int .i64 1,S a1,S a2,S [],S [],S [],S [],S u] 35)).alloc (.cells #[.slice none 0 0,.slice none 0 0,.slice none 0 0] 44)=V at *;obtain⟨bm,AX⟩:=AjJ w.heap.size;have nD:=AX;rw [←AX]at hM hE hR ⊢;have k0:V.cell? ⟨bm,0,none⟩=some (.slice A m.pts.length c):=Ab hM rfl;have k1:V.cell? ⟨bm,1,none⟩=some (.slice B m.eds.length d):=Ab hM rfl;have k2:V.cell? ⟨bm,2,none⟩=some (.slice F m.nf g):=Ab hM rfl;have gq:=AjK AX;clear AX nD;have p1:=pc V hX;(go_wp2_with fail);(with_reducible refine p1.mono ?_);rintro e w1 ⟨rfl,hx1⟩;have B8:=hX.trans hx1;have x0:w1.cell? ⟨bm+1,0,none⟩=some (.int .i64 1):=Ab ((hx1.block _ (AjL hE)).trans hE) rfl;have x1:w1.cell? ⟨bm+1,1,none⟩=some (S a1):=Ab ((hx1.block _ (AjL hE)).trans hE) rfl;have x2:w1.cell? ⟨bm+1,2,none⟩=some (S a2):=Ab ((hx1.block _ (AjL hE)).trans hE) rfl;have x3:w1.cell? ⟨bm+1,3,none⟩=some (S []):=Ab ((hx1.block _ (AjL hE)).trans hE) rfl;have x4:w1.cell? ⟨bm+1,4,none⟩=some (S []):=Ab ((hx1.block _ (AjL hE)).trans hE) rfl;have x5:w1.cell? ⟨bm+1,5,none⟩=some (S []):=Ab ((hx1.block _ (AjL hE)).trans hE) rfl;have x6:w1.cell? ⟨bm+1,6,none⟩=some (S []):=Ab ((hx1.block _ (AjL hE)).trans hE) rfl;have x7:w1.cell? ⟨bm+1,7,none⟩=some (S u):=Ab ((hx1.block _ (AjL hE)).trans hE) rfl;have s1:=hsc w1 B8;clear p1 pc k0 k1 k2;(go_wp2_with fail);(with_reducible refine s1.mono ?_);rintro e w2 ⟨rfl,hx2⟩;have Bu:=B8.trans hx2;have hV2:=hx1.trans hx2;replace x0:=hx2.cellS x0;clear s1 hsc x1 x2 x3 x4 x5 x6 x7;have al:∀O,(w2.alloc O).cell? ⟨bm+1,0,none⟩=some (.int .i64 1):=fun O=>((Aa.refl w2).alloc O).cellS x0
 go_upto_region 8 with fail
 clear al;have hx3:=fun O=>(Aa.refl w2).alloc O;generalize hW3:w2.alloc _=W3;have Bd:Aa w2 W3:=hW3▸hx3 _;have CJ:=((hV2.trans Bd).block _ (AjL hM)).trans hM;have BW:=((hV2.trans Bd).block _ (AjL hE)).trans hE;have AW:=((hV2.trans Bd).block _ (AjL hR)).trans hR;have hW:=Bu.trans Bd;clear hW3 hx3 Bd x0 hM hE hR;have k0:W3.cell? ⟨bm,0,none⟩=some (.slice A m.pts.length c):=Ab CJ rfl;have k1:W3.cell? ⟨bm,1,none⟩=some (.slice B m.eds.length d):=Ab CJ rfl;have k2:W3.cell? ⟨bm,2,none⟩=some (.slice F m.nf g):=Ab CJ rfl;have y0:W3.cell? ⟨bm+1,0,none⟩=some (.int .i64 1):=Ab BW rfl;have y1:W3.cell? ⟨bm+1,1,none⟩=some (S a1):=Ab BW rfl;have y2:W3.cell? ⟨bm+1,2,none⟩=some (S a2):=Ab BW rfl;have y3:W3.cell? ⟨bm+1,3,none⟩=some (S []):=Ab BW rfl;have y4:W3.cell? ⟨bm+1,4,none⟩=some (S []):=Ab BW rfl;have y5:W3.cell? ⟨bm+1,5,none⟩=some (S []):=Ab BW rfl;have y6:W3.cell? ⟨bm+1,6,none⟩=some (S []):=Ab BW rfl;have y7:W3.cell? ⟨bm+1,7,none⟩=some (S u):=Ab BW rfl;have SO:=fun (w':World) (h:Aa W3 w')=>(⟨h.cellS k0,h.cellS k1,h.cellS k2,h.cellS y0,h.cellS y1,h.cellS y2,h.cellS y3,h.cellS y4,h.cellS y5,h.cellS y6,h.cellS y7⟩:_/\_/\_/\_/\_/\_/\_/\_/\_/\_/\_);have X:=Aa.refl W3;have hO:=AjM W3 (.cells #[.slice none 0 0,.slice none 0 0,.slice none 0 0] 44)
 go_cut [9,10] (fun v9 v10 wx=>∃bo A' B' F' c' d' g',v9=.pointer (some ⟨bo,0,none⟩)/\v10=.int .i64 0/\wx.heap[bo]?=some (.cells #[.slice A' m'.pts.length c',.slice B' m'.eds.length d',.slice F' m'.nf g'] 44)/\Eu w.heap.size wx A' B' F' c' d' g' m' Ht/\Aa W3 wx)
 case first=>
  go_region_held3 (fun w'=>w'.cell? ⟨bm,0,none⟩=some (.slice A m.pts.length c)/\w'.cell? ⟨bm,1,none⟩=some (.slice B m.eds.length d)/\w'.cell? ⟨bm,2,none⟩=some (.slice F m.nf g)/\w'.cell? ⟨bm+1,0,none⟩=some (.int .i64 1)/\w'.cell? ⟨bm+1,1,none⟩=some (S a1)/\w'.cell? ⟨bm+1,2,none⟩=some (S a2)/\w'.cell? ⟨bm+1,3,none⟩=some (S [])/\w'.cell? ⟨bm+1,4,none⟩=some (S [])/\w'.cell? ⟨bm+1,5,none⟩=some (S [])/\w'.cell? ⟨bm+1,6,none⟩=some (S [])/\w'.cell? ⟨bm+1,7,none⟩=some (S u))
   (first|exact SS|with_reducible exact SO _ X|with_reducible exact SO _ X.drew|with_reducible exact SO _ (X.alloc _)|with_reducible exact SO _ (X.alloc _).drew)
   (first
    | ((with_reducible refine(TZ V4 w4 A4 B4 F4 c4 d4 g4 NN x4 o4).mono ?_);rintro e w5 ⟨A5,B5,F5,c5,d5,g6,rfl,o5,x5,MG⟩;replace X:Aa W3 w5:=IQ.trans x5;unfold AE;first | (have Ez:=MG _ _ hO1;have g0:=Ab (o:=0) Ez rfl;have g1:=Ab (o:=1) Ez rfl;have g2:=Ab (o:=2) Ez rfl;have PN:=Ao (o:=0) Ez;have g4:=Ao (o:=1) Ez;have g5:=Ao (o:=2) Ez;have SS:=SO _ (J7 X (AjN _) (.slice A5 m'.pts.length c5) (.slice B5 m'.eds.length d5) (.slice F5 m'.nf g6))) | skip)
    | ((with_reducible refine(TZ V4 _ A4 B4 F4 c4 d4 g4 NN (x4.alloc (.cells #[.slice none 0 0,.slice none 0 0,.slice none 0 0] 44)) (o4.ext ((Aa.refl w4).alloc (.cells #[.slice none 0 0,.slice none 0 0,.slice none 0 0] 44)))).mono ?_);rintro e w5 ⟨A5,B5,F5,c5,d5,g6,rfl,o5,x5,MG⟩;have X0:=X;replace X:Aa W3 w5:=IQ.trans x5;unfold AE;have Ez:=MG _ _ (AjM w4 (.cells #[.slice none 0 0,.slice none 0 0,.slice none 0 0] 44));have g0:=Ab (o:=0) Ez rfl;have g1:=Ab (o:=1) Ez rfl;have g2:=Ab (o:=2) Ez rfl;have PN:=Ao (o:=0) Ez;have g4:=Ao (o:=1) Ez;have g5:=Ao (o:=2) Ez;have SS:=SO _ (J7 X X0.size (.slice A5 m'.pts.length c5) (.slice B5 m'.eds.length d5) (.slice F5 m'.nf g6)))
    | ((with_reducible refine(cp _ (hW.trans X.drew)).mono ?_);rintro e w4 ⟨A4,B4,F4,c4,d4,g4,rfl,o4,x4⟩;obtain⟨V4,Li⟩:=AjJ W3.drew;rw [←Li]at o4 x4;have IQ:Aa W3 V4:=Li▸X.drew;have NN:=hW.trans IQ;replace X:Aa W3 w4:=IQ.trans x4;unfold AE)
    | ((with_reducible refine(cp _ (hW.trans (X.alloc (.cells #[.slice none 0 0,.slice none 0 0,.slice none 0 0] 44)).drew)).mono ?_);rintro e w4 ⟨A4,B4,F4,c4,d4,g4,rfl,o4,x4⟩;have hO1:=(x4.block _ (AjL hO)).trans hO;obtain⟨V4,Li⟩:=AjJ ((W3.alloc (.cells #[.slice none 0 0,.slice none 0 0,.slice none 0 0] 44)).drew);rw [←Li]at o4 x4;have IQ:Aa W3 V4:=Li▸(X.alloc _).drew;have NN:=hW.trans IQ;replace X:Aa W3 w4:=IQ.trans x4;unfold AE))
  all_goals go_wp2
  all_goals go_meet
  all_goals
   first
    | exact⟨W3.heap.size,A5,B5,F5,c5,d5,g6,rfl,rfl,GB _ _ _ Ez,(o5.low NN.size).set3 Ez _ _ _,J7 X (AjN _) _ _ _⟩
    | exact⟨w4.heap.size,A5,B5,F5,c5,d5,g6,rfl,rfl,GB _ _ _ Ez,(o5.low NN.size).set3 Ez _ _ _,J7 X X0.size _ _ _⟩
    | exact⟨w5.heap.size,A5,B5,F5,c5,d5,g6,rfl,rfl,AjM w5 _,(o5.low NN.size).ext ((Aa.refl w5).alloc _),X.alloc _⟩
 case rest=>obtain⟨bo,A5,B5,F5,c5,d5,g5,rfl,rfl,IS,o5,An⟩:=hcut;have hb5:=(An.block _ (AjL AW)).trans AW;obtain⟨hc5,r1,r2,r3,r4⟩:=o5.rd;have cn:=wO m' Ht HM.out.2.1 HM.out.1 A5 B5 F5 c5 d5 g5 hc5 wc (hw.ext (hW.trans An)) r1 r2 r3 r4 (by have h1:=HM.out.2.1;have h2:=HM.out.2.2.1;omega);have lQ:=hW.trans An;clear SO X hO k0 k1 k2 y0 y1 y2 y3 y4 y5 y6 y7 o5 r1 r2 r3 r4 hc5 CJ BW AW;unfold AE at cn;have j0:wc.cell? ⟨bo,0,none⟩=some (.slice A5 m'.pts.length c5):=Ab IS rfl;have j1:wc.cell? ⟨bo,1,none⟩=some (.slice B5 m'.eds.length d5):=Ab IS rfl;have j2:wc.cell? ⟨bo,2,none⟩=some (.slice F5 m'.nf g5):=Ab IS rfl;obtain⟨mm,hmm⟩:=AjJ (P7 m' Ht);obtain⟨ff,MB⟩:=AjJ ((Dc m' Ht).fa);rw [←hmm,←MB]at cn;have dI:=AjK (And.intro hmm MB);clear hmm MB;(go_wp2_with fail);(with_reducible refine cn.mono ?_);rintro e w6 ⟨A6,B6,F6,c6,d6,g6,rfl,A7,r1,r2,r3,hnf6,AD,ty6⟩;have Dx:=(AD.block _ (AjL hb5)).trans hb5;have WP:=lQ.trans AD;have g0:=Ab (o:=0) Dx rfl;have g1:=Ab (o:=1) Dx rfl;have g2:=Ab (o:=2) Dx rfl;have g3:=Ao (o:=0) Dx;have g4:=Ao (o:=1) Dx;have g5':=Ao (o:=2) Dx;have AZ:=GB (.slice A6 mm.pts.length c6) (.slice B6 mm.eds.length d6) (.slice F6 mm.nf g6) Dx;have t1:=Ab (o:=0) AZ rfl;have t2:=Ab (o:=1) AZ rfl;have t3:=Ab (o:=2) AZ rfl;have Cm:=(((Al.refl (fun q=>q=bm+1+1) w6).setCell (p:=⟨bm+1+1,0,none⟩) (.inl rfl) (.slice A6 mm.pts.length c6)).setCell (p:=⟨bm+1+1,1,none⟩) (.inl rfl) (.slice B6 mm.eds.length d6)).setCell (p:=⟨bm+1+1,2,none⟩) (.inl rfl) (.slice F6 mm.nf g6);have z1:=Hb r1 Cm Dx (fun j hj=>by obtain⟨s,h⟩:=PM hj;rw [h];simp);have z2:=Hb r2 Cm Dx (fun j hj=>by obtain⟨s,h⟩:=PG hj;rw [h];simp);have z3:=Hb r3 Cm Dx (fun j hj=>by rw [List.getElem_map];simp);have HF:=AjK (And.intro A7 (And.intro z1 (And.intro z2 (And.intro z3 (And.intro hnf6 (And.intro (J7 WP (show w.heap.size<=bm+1+1 by rw [←gq.out];omega) (.slice A6 mm.pts.length c6) (.slice B6 mm.eds.length d6) (.slice F6 mm.nf g6)) (ty6.but Cm Dx)))))));clear z1 z2 z3 Cm AZ WP Dx A7 r1 r2 r3 hnf6 ty6 cn IS An lQ AD;unfold AE;go_wp2;refine bodyPost_ret (v:=.tuple #[.agg #[.slice A6 mm.pts.length c6,.slice B6 mm.eds.length d6,.slice F6 mm.nf g6],.int .i64 0]) (by simp [results,Tryz.results45,go_sem,t1,t2,t3]) rfl ?_;rw [←dI.out.1,←dI.out.2];exact⟨A6,B6,F6,c6,d6,g6,rfl,HF.out.1,HF.out.2.1,HF.out.2.2.1,HF.out.2.2.2.1,HF.out.2.2.2.2.1,HF.out.2.2.2.2.2⟩
end
section
open Go.RowKit Kl
theorem aQ{w:World}{g b:Nat}{v:Value}{cs cs':Array Value}{t:TypeId}(hg:w.heap[g]?=some (.cells cs t))(hb:w.heap[b]?=some (.cells cs' 44))(ht:t≠44):(w.setCell ⟨g,0,none⟩ v).heap[b]?=some (.cells cs' 44):=
 (B7 (p:=⟨g,0,none⟩) (v:=v) (by exact C0 hb hg (fun e=>ht e.symm))).trans hb
theorem Ahp(w:World)(o1 o2:Obj):((w.alloc o1).alloc o2).heap[w.heap.size]?=some o1/\((w.alloc o1).alloc o2).heap[w.heap.size+1]?=some o2/\Aa w ((w.alloc o1).alloc o2):=by
 have e1:=(Aa.refl w).alloc o1;have e2:=(Aa.refl (w.alloc o1)).alloc o2;have h1:=AjM w o1;have h2:=AjM (w.alloc o1) o2;rw [AjU]at h2;exact⟨(e2.block _ (AjL h1)).trans h1,h2,e1.trans e2⟩
theorem UM{q:Rat}(h1:(D q.num.natAbs).length<=200)(h2:(D q.den).length<=200):CP (R q):=⟨q,rfl,h1,h2⟩
def Fv(cs:List Value):Nat→List Value
 | 0=>[]
 | n+1=>cs++Fv cs n
theorem xW(cs:List Value):∀n,(Fv cs n).length=n*cs.length
 | 0=>by simp [Fv]
 | n+1=>by rw [Fv,List.length_append,xW cs n,Nat.succ_mul,Nat.add_comm]
theorem xU(cs:List Value):∀(n j i:Nat),j<n→i<cs.length→(Fv cs n)[j*cs.length+i]?=cs[i]?
 | 0,_,_,h,_=>by omega
 | n+1,0,i,_,hi=>by rw [Fv,Nat.zero_mul,Nat.zero_add,List.getElem?_append_left hi]
 | n+1,j+1,i,h,hi=>by rw [Fv,List.getElem?_append_right (by rw [Nat.succ_mul];omega),show (j+1)*cs.length+i-cs.length=j*cs.length+i by rw [Nat.succ_mul];omega];exact xU cs n j i (by omega) hi
def bX(w:World)(m:MapZ)(fa:List Bs)(e:Ending)(w':World):Prop:=
 ∃A B F c d g,e=.returned (.tuple #[AE A B F m c d g,.int .i64 0,.int .i64 0])/\Cf m c d g/\Ad w' A (flat (Aq m.pts))/\Ad w' B (AA m.eds)/\Ad w' F (fa.map S)/\Aa w w'/\KH w' A B F
end
end Go.Proofs.YtnfedbopbcegjaaGreatDoor
