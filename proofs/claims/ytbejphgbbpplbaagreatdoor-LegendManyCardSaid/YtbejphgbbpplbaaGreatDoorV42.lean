/- V42: BZ LGX LGY. -/
import Derived.Test.YtbejphgbbpplbaaGreatDoorV40
import Derived.Test.YtbejphgbbpplbaaGreatDoorV41
set_option maxRecDepth 100000
set_option maxHeartbeats 16000000
namespace Go.Proofs.YtbejphgbbpplbaaGreatDoor
open Go.RowKit Kl
theorem Uj(x y:Int)(hx:x.natAbs<10000000)(hy:y.natAbs<10000000)(w:World)(hw:An w) :
  Calls Tryz.prog 46 #[.int .i64 x,.int .i64 y] w (CU (Ak ⟨x,y⟩) w):=by
 have o1:∀W,An W→Calls Tryz.prog 9 #[.int .i64 x,.int .i64 1] W (Bc (R (x:Rat)) W):=fun W hW=>by have:=iG x 1 (by omega) hx (by omega) W hW;rw [eQ]at this;exact this
 have o2:∀W,An W→Calls Tryz.prog 9 #[.int .i64 y,.int .i64 1] W (Bc (R (y:Rat)) W):=fun W hW=>by have:=iG y 1 (by omega) hy (by omega) W hW;rw [eQ]at this;exact this
 have hb:=AmW w (.cells #[S [],S []] 94);have hE:=(Aa.refl w).alloc (.cells #[S [],S []] 94);unfold Ak;clear hx hy;go_enter Tryz.func46,Tryz.ntmps46;(go_wp2_with fail);rw [show (⟨#[]⟩:ByteArray)=⟨([]:Bs).toArray⟩from rfl];(with_reducible refine(o1 _ (hw.ext hE)).mono ?_);rintro e w1 ⟨rfl,hx⟩;replace hb:=(hx.block _ (AmV hb)).trans hb;replace hE:=hE.trans hx;(go_wp2_with fail);(with_reducible refine(o2 _ (hw.ext hE)).mono ?_);rintro e w2 ⟨rfl,hx2⟩;replace hb:=(hx2.block _ (AmV hb)).trans hb;replace hE:=hE.trans hx2;have g1:=Ab (o:=0) hb rfl;have g2:=Ab (o:=1) hb rfl;have g3:=AU (o:=0) hb;have g4:=AU (o:=1) hb;obtain⟨e1,e2⟩:=set2 (S (R (x:Rat))) (S (R (y:Rat))) g1 g2;go_wp2;refine bodyPost_ret (v:=.agg #[S (R (x:Rat)),S (R (y:Rat))]) (by simp [results,Tryz.results46,go_sem,e1,e2]) rfl ?_;exact⟨rfl,(hE.setCell (AmX _) _).setCell (AmX _) _⟩
def Dd(us:List Bs):List (List Pt×Bs):=us.zipIdx.map fun e=>(Oi ((e.2:Int):Rat),e.1)
theorem Qm(us:List Bs):(Dd us).length=us.length:=by simp [Dd]
theorem AjN(us:List Bs){k:Nat}(h:k<us.length)(h':k<(Dd us).length):(Dd us)[k]=(Oi ((k:Int):Rat),us[k]):=by simp [Dd]
theorem Aj9(x:Int):Oi (x:Rat) = [⟨(x:Rat),((0:Int):Rat)⟩,⟨((x+1:Int):Rat),((0:Int):Rat)⟩,⟨((x+1:Int):Rat),((1:Int):Rat)⟩,⟨(x:Rat),((1:Int):Rat)⟩]:=by
 unfold Oi;rw [Rat.intCast_add]
 rfl
theorem Ac7(a b c d:Pt):(flat (Ao [a,b,c,d])).toArray=#[.string ⟨(R a.x).toArray⟩,.string ⟨(R a.y).toArray⟩,.string ⟨(R b.x).toArray⟩,.string ⟨(R b.y).toArray⟩,.string ⟨(R c.x).toArray⟩,.string ⟨(R c.y).toArray⟩,.string ⟨(R d.x).toArray⟩,.string ⟨(R d.y).toArray⟩]:=rfl
theorem AiS{w0 w:World}{A B F:Option Addr}{m:Cm}{fa:List Bs}{bR:Nat}{t:TypeId}(hA:Ae w A (flat (Ao m.pts)))(hB:Ae w B (Bt m.eds))(hF:Ae w F (fa.map S))(hx:Aa w0 w)
  (hb:w.heap[bR]?=some (.cells #[.slice none 0 0,.slice none 0 0,.slice none 0 0] t)) (h0:w0.heap.size<=bR) (x y z:Value) :
  ∀w',w'=((w.setCell ⟨bR,0,none⟩ x).setCell ⟨bR,1,none⟩ y).setCell ⟨bR,2,none⟩ z→Ae w' A (flat (Ao m.pts))/\Ae w' B (Bt m.eds)/\Ae w' F (fa.map S)/\Aa w0 w'/\w'.heap[bR]?=some (.cells #[x,y,z] t):=by
 rintro w' rfl
 have KG:∀q,q≠bR→(((w.setCell ⟨bR,0,none⟩ x).setCell ⟨bR,1,none⟩ y).setCell ⟨bR,2,none⟩ z).heap[q]?=w.heap[q]?:=fun q hq=>by rw [DF (by exact hq),DF (by exact hq),DF (by exact hq)]
 refine⟨hA.far hb ?_ KG,hB.far hb ?_ KG,hF.far hb ?_ KG,((hx.setCell (p:=⟨bR,0,none⟩) h0 x).setCell (p:=⟨bR,1,none⟩) h0 y).setCell (p:=⟨bR,2,none⟩) h0 z,Yy x y z hb⟩
 ·intro v hv;obtain⟨j,hj,rfl⟩:=List.getElem_of_mem hv;obtain⟨q,hq⟩:=rJ hj;rw [hq];intro e;cases e
 ·intro v hv;obtain⟨j,hj,rfl⟩:=List.getElem_of_mem hv;obtain⟨q,hq⟩:=pY hj;rw [hq];intro e;cases e
 ·intro v hv;obtain⟨s,-,rfl⟩:=List.mem_map.1 hv;intro e;cases e
theorem L1(W:World)(x y:Obj):((W.alloc x).alloc y).heap[W.heap.size+1]?=some y/\((W.alloc x).alloc y).heap[W.heap.size]?=some x/\Aa W ((W.alloc x).alloc y):=by
 have h1:=AmW (W.alloc x) y;have h2:=(((Aa.refl (W.alloc x)).alloc y).block W.heap.size (by simp)).trans (AmW W x);have e:(W.alloc x).heap.size=W.heap.size+1:=(by simp);rw [e]at h1;exact⟨h1,h2,((Aa.refl W).alloc x).alloc y⟩
structure Jw(w:World)(e:Pz):Prop where
 blk:w.heap[e.b]?=some (.cells (flat (Ao e.pts)).toArray 94)
 le:e.pts.length<=4
theorem Jw.ext{w w':World}{e:Pz}(h:Jw w e)(hx:Aa w w'):Jw w' e:=⟨(hx.block _ (AmV h.blk)).trans h.blk,h.le⟩
theorem AhL{w:World}{A:Option Addr}{c:Nat}{l:List Pz}(hr:Ae w A (Do l))(Aj:∀e∈l,Jw w e)(h1:l.length<=c)(h2:c<=9223372036854775807):Jv w A c (Jc l):=by
 refine⟨by simpa [Jc]using h1,h2,fun j hj=>?_⟩;have hj':j<l.length:=(by simpa [Jc]using hj);have hl:=jz l;obtain⟨b,o,e,hcs⟩:=hr.ad (by omega);obtain⟨f1,f2,f3⟩:=jy l j hj';have g1:=hcs (j*3) (by omega);have g2:=hcs (j*3+1) (by omega);have g3:=hcs (j*3+2) (by omega);rw [Anc (by omega),Anb]at f1 f2 f3;rw [f1]at g1;rw [f2,←Nat.add_assoc]at g2;rw [f3,←Nat.add_assoc]at g3;have hk:=Aj l[j] (AmY hj');have he:(Jc l)[j]=(l[j].pts,l[j].u):=(by simp [Jc]);rw [he];have:=hk.le;exact⟨b,o,some ⟨l[j].b,0,none⟩,l[j].pts.length,e,g1,g2,g3,Ae.blk hk.blk,AmX _,by omega⟩
theorem Aij{wN w':World}{base n:Nat}{v:Value}{l d:List Pz}(hown:wN.ownsRow base 97 3 v n (Do l))(hg:wN.grownBy w' v.ownBlock)(Aj:∀e∈l,Jw wN e)(hd:∀e∈d,Jw wN e) :
  ∀e∈l++d,Jw w' e:=by
 intro e he
 have h:Jw wN e:=by
  rcases List.mem_append.1 he with k|k
  ·exact Aj e k
  ·exact hd e k
 exact⟨(hg.block _ (AmV h.blk) (fun k=>Bn hown h.blk (by decide) k.symm)).trans h.blk,h.le⟩
def Ub(w:World)(m:Cm)(fa:List Bs)(e:Ending)(w':World):Prop:=
 ∃A B F c d g,e=.returned (C2 A B F m c d g)/\Jm m c d g/\Ae w' A (flat (Ao m.pts))/\Ae w' B (Bt m.eds)/\Ae w' F (fa.map S)/\m.nf=fa.length/\Aa w w'
theorem ou(us:List Bs)(NU:us.length<=30){m:Cm}{fa:List Bs}(hB:∀A c w,An w→Jv w A c (Dd us)→Calls Tryz.prog 47 #[.slice A us.length c] w (Qt w m fa))(A:Option Addr)(c:Nat)(w:World)(hw:An w)(hr:Ae w A (us.map S))(hc:us.length<=c)(_:c<=9223372036854775807) :
  Calls Tryz.prog 11 #[.slice A us.length c] w (Ub w m fa):=by
 have hM:=AmW w (.cells #[.slice none 0 0,.slice none 0 0,.slice none 0 0] 36);have hE:=(Aa.refl w).alloc (.cells #[.slice none 0 0,.slice none 0 0,.slice none 0 0] 36);have HB:=AmU hB;have HR:=AmU hr;obtain⟨n,hn⟩:=AmT us.length;rw [←hn]at NU hc;have HN:=AmU hn;rw [←hn];clear hB hr hn;go_enter Tryz.func11,Tryz.ntmps11
 go_upto_region 1 with fail
 generalize w.alloc (.cells #[.slice none 0 0,.slice none 0 0,.slice none 0 0] 36)=V at *;obtain⟨bR,uE⟩:=AmT w.heap.size;rw [←uE]at hM ⊢;have hb0:w.heap.size<=bR:=(by omega);clear uE
 go_upto_region 3 with fail
 go_loopw [3,10] (fun ov kv wr=>∃(l:List Pz) (k:Nat),kv=.int .i64 (k:Nat)/\k<=n/\wr.ownsRow w.heap.size 97 3 ov l.length (Do l)/\(∀e∈l,Jw wr e)/\Jc l=(Dd us).take k/\Aa w wr/\wr.heap[bR]?=some (.cells #[.slice none 0 0,.slice none 0 0,.slice none 0 0] 36)) (fun _ kv _=>n-(intOf kv).toNat)
 case atStart=>exact⟨[],0,rfl,by omega,⟨rfl,.inl ⟨rfl,rfl⟩⟩,(fun e he=>by cases he),rfl,hE,hM⟩
 case round=>
  obtain⟨l,k,rfl,hk,hown,Aj,Dm,Ac,Es⟩:=hrel;have Fi:=AmU Aj;have FA:=AmU Dm;clear Aj Dm;by_cases hkn:k<n
  ·have CN:k<us.length:=(by rw [←HN.out];exact hkn);obtain⟨bA,oA,rfl,hcs⟩:=(HR.out.ext Ac).ad (by rw [List.length_map];omega);have hck:=hcs k (by rw [List.length_map];exact CN);rw [List.getElem_map]at hck;obtain⟨u,hu⟩:=AmT (us[k]);rw [←hu]at hck;have HU:=AmU hu;have hk0:(0:Int)<=(k:Int):=(by omega);have Ci:(k:Int)<(n:Int):=(by omega);have v1:IntKind.wrap .i64 ((k:Int)+1)=(k:Int)+1:=Ane _ (by omega);clear hu hcs
   have hlk:l.length=k:=by have:=congrArg List.length FA.out;rw [jx,List.length_take,Qm]at this;omega
   have p1:=Uj (k:Int) 0 (by omega) (by omega);have p2:=Uj ((k:Int)+1) 0 (by omega) (by omega);have p3:=Uj ((k:Int)+1) 1 (by omega) (by omega);have p4:=Uj (k:Int) 1 (by omega) (by omega);have FY:=Aj9 (k:Int);obtain⟨a0,h0⟩:=AmT (⟨((k:Int):Rat),((0:Int):Rat)⟩:Pt);obtain⟨a1,h1⟩:=AmT (⟨(((k:Int)+1:Int):Rat),((0:Int):Rat)⟩:Pt);obtain⟨a2,h2⟩:=AmT (⟨(((k:Int)+1:Int):Rat),((1:Int):Rat)⟩:Pt);obtain⟨a3,h3⟩:=AmT (⟨((k:Int):Rat),((1:Int):Rat)⟩:Pt);rw [←h0]at p1 FY;rw [←h1]at p2 FY;rw [←h2]at p3 FY;rw [←h3]at p4 FY;have wq:=AmU FY;unfold Ak at p1 p2 p3 p4;clear h0 h1 h2 h3 FY;obtain⟨oP,oc,rfl⟩:=fY (by omega) hown;(go_wp2_with fail);(with_reducible refine(p1 _ (hw.ext Ac)).mono ?_);rintro e w1 ⟨rfl,hx1⟩;have X1:=Ac.trans hx1;(go_wp2_with fail);(with_reducible refine(p2 _ (hw.ext X1)).mono ?_);rintro e w2 ⟨rfl,hx2⟩;have X2:=X1.trans hx2;(go_wp2_with fail);(with_reducible refine(p3 _ (hw.ext X2)).mono ?_);rintro e w3 ⟨rfl,hx3⟩;have X3:=X2.trans hx3;(go_wp2_with fail);(with_reducible refine(p4 _ (hw.ext X3)).mono ?_);rintro e W7 ⟨rfl,Ai⟩;have J7:=X3.trans Ai;have AG:Aa wr W7:=((hx1.trans hx2).trans hx3).trans Ai;clear X1 X2 X3 hx1 hx2 hx3 Ai p1 p2 p3 p4;have bW:=AH hown AG;have Ae2:∀e∈l,Jw W7 e:=fun e he=>(Fi.out e he).ext AG;have Vf:=(AG.block _ (AmV Es)).trans Es;have hbase:w.heap.size<=W7.heap.size:=J7.size;clear AG hown Es Ac;have kS:=AmU hlk;have hl3:l.length<=30:=(by omega);have Amc:l.length<n:=(by omega);rw [←hlk]at hk0 Ci v1 ⊢;have e7:IntKind.wrap .i64 ((l.length:Int)+1)=(l.length:Int)+1:=v1;clear hlk
   go_wp2_with (at_builtin;go_loud (refine zo rfl _ _ rfl _ w.heap.size (.slice oP l.length oc) l.length l [⟨W7.heap.size,[a0,a1,a2,a3],u⟩] rfl (AH bW (L1 W7 _ _).2.2) (by omega) (by simp) (W7.heap.size+1) 1 rfl (by rw [Aik _ 4 rfl];exact(L1 W7 _ _).1) rfl (Ani hbase (L1 W7 _ _).2.2.size) ?_);intro v9 w9 hown9 hext9 hg9)
   have AX:=Aij (d:=[⟨W7.heap.size,[a0,a1,a2,a3],u⟩]) (AH bW (L1 W7 _ _).2.2) hg9 (fun e he=>(Ae2 e he).ext (L1 W7 _ _).2.2) (by
    intro e he;simp only [List.mem_cons,Anj,or_false]at he;subst he
    exact⟨by show _=some (Obj.cells (flat (Ao [a0,a1,a2,a3])).toArray _);rw [Ac7];exact(L1 W7 _ _).2.1,by simp⟩)
   have Mz:Jc (l ++ [⟨W7.heap.size,[a0,a1,a2,a3],u⟩])=(Dd us).take (k+1):=by rw [Ana (by rw [Qm];exact CN),←FA.out,AjN us CN,wq.out,←HU.out];simp [Jc]
   have Cu:=AmU (And.intro hown9 (And.intro AX (And.intro Mz (And.intro (hext9 w (J7.trans (L1 W7 _ _).2.2) (AmX _)) ((hg9.block bR (Anh (AmV Vf) (L1 W7 _ _).2.2.size) (fun e=>Bn bW Vf (by decide) e.symm)).trans (((L1 W7 _ _).2.2.block bR (AmV Vf)).trans Vf))))));clear AX hown9 hext9 hg9 Mz;go_wp2;go_roundw
   case rel=>exact⟨_,k+1,by rw [←kS.out];go_num,hkn,by rw [List.length_append];exact Cu.out.1,Cu.out.2.1,Cu.out.2.2.1,Cu.out.2.2.2.1,Cu.out.2.2.2.2⟩
   case measure=>have e:=kS.out;simp [intOf];omega
  ·have B6:k=n:=(by omega);subst B6
   have hlk:l.length=k:=by have:=congrArg List.length FA.out;rw [jx,List.length_take,Qm]at this;have:=HN.out;omega
   have hp:Jc l=Dd us:=(by rw [FA.out,Ang (by rw [Qm,HN.out];exact AmX _)]);obtain⟨oA,oc,rfl,hr1,hr2,AeD⟩:=Ae.of_own' (by omega) hown;have DK:=AhL hr1 Fi.out hr2 AeD;rw [hp]at DK;have b1:=HB.out oA oc _ (hw.ext Ac) DK;rw [←HN.out]at b1;rw [hlk];clear DK hp hr1;(go_wp2_with fail);(with_reducible refine(b1.mono ?_));rintro e w2 ⟨A2,B2,F2,c2,d2,g2,rfl,B8,r1,r2,r3,r4,hx2⟩;have hX:=Ac.trans hx2;have aB:=(hx2.block _ (AmV Es)).trans Es;have EM:=(Aa.refl w2).alloc (.cells #[.slice A2 m.pts.length c2,.slice B2 m.eds.length d2,.slice F2 m.nf g2] 36);have Mm:=(EM.block _ (AmV aB)).trans aB;have hst:=AiS (r1.ext EM) (r2.ext EM) (r3.ext EM) (hX.trans EM) Mm hb0 (.slice A2 m.pts.length c2) (.slice B2 m.eds.length d2) (.slice F2 m.nf g2) _ rfl;have q0:=Ab (o:=0) Mm rfl;have q1:=Ab (o:=1) Mm rfl;have q2:=Ab (o:=2) Mm rfl;have q3:=AU (o:=0) Mm;have q4:=AU (o:=1) Mm;have q5:=AU (o:=2) Mm;have t1:=Ab (o:=0) hst.2.2.2.2 rfl;have t2:=Ab (o:=1) hst.2.2.2.2 rfl;have t3:=Ab (o:=2) hst.2.2.2.2 rfl;have HST:=AmU (And.intro hst (And.intro B8 r4));clear hst B8 r1 r2 r3 r4 hx2 Ac Es aB Mm;unfold C2;go_wp2;refine bodyPost_ret (v:=.agg #[.slice A2 m.pts.length c2,.slice B2 m.eds.length d2,.slice F2 m.nf g2]) (by simp [results,Tryz.results11,go_sem,t1,t2,t3]) rfl ?_;exact⟨A2,B2,F2,c2,d2,g2,rfl,HST.out.2.1,HST.out.1.1,HST.out.1.2.1,HST.out.1.2.2.1,HST.out.2.2,HST.out.1.2.2.2.1⟩
theorem AjM:Dd [[66],[65],[120]]=str3:=rfl
theorem AjP(A:Option Addr)(c:Nat)(w:World)(hw:An w)(hr:Ae w A [S [66],S [65],S [120]])(hc:3<=c)(hcm:c<=9223372036854775807) :
  Calls Tryz.prog 11 #[.slice A 3 c] w (Ub w Lj [[66],[65],[120]]):=
 ou [[66],[65],[120]] (by simp) (fun A c w hw h=>Aa6 A c w hw (by rw [AjM]at h;exact h)) A c w hw hr hc hcm
end Go.Proofs.YtbejphgbbpplbaaGreatDoor
namespace Kl
def c3:List La:=[⟨[65],[49],[50]⟩,⟨[66],[48],[51]⟩,⟨[67],[49],[]⟩]
def f3:List Bs:=[[66],[65],[120]]
def e3:List En:=[⟨[66],[97],1,[48,32,116,111,32,51]⟩,⟨[65],[98],2,[49,32,116,111,32,50]⟩,⟨[120],[99],3,[]⟩]
theorem jJ(F:List Bs):Cz F=Go.Lib.compact (DL (fun x y=>decide (x<=y)) F.length (F.filter (fun s=>s != []))):=by
 unfold Cz;rw [NZ _ _ _ (List.length_filter_le _ _)]
theorem iZ(c:List La)(l:List Bs):EC c l=DL (fun x y=>!decide (DC c y x<0)) l.length l:=by
 rw [NZ _ _ _ (Nat.le_refl _)]
 rfl
theorem qf:Cz f3 = [[65],[66],[120]]:=by rw [jJ];decide +kernel
theorem mr:EC c3 [[65],[66],[120]] = [[66],[65],[120]]:=by rw [iZ];decide +kernel
theorem oN:Cg c3 [[66],[65],[120]]=e3:=by decide +kernel
theorem Acu:I5 c3 f3=0:=by
 unfold I5;rw [qf,mr,oN]
 decide +kernel
theorem AaR:EN e3=0:=by decide +kernel
theorem Ah7:Ja c3 [⟨[65],[98],2,[49,32,116,111,32,50]⟩,⟨[66],[97],1,[48,32,116,111,32,51]⟩]=some 1:=by decide +kernel
theorem AaP:EN [⟨[65],[98],2,[49,32,116,111,32,50]⟩,⟨[66],[97],1,[48,32,116,111,32,51]⟩]=0:=by decide +kernel
theorem Agf:e3.map Fy = [[97,32,66,32,112,108,97,105,110,58,32,48,32,116,111,32,51],[98,32,65,32,100,111,116,115,58,32,49,32,116,111,32,50],[99,32,120,32,100,97,115,104,101,115]]:=by decide +kernel
theorem XW:R 0 = [48]:=by decide +kernel
theorem x9:R 1 = [49]:=by decide +kernel
theorem lK:R 2 = [50]:=by decide +kernel
theorem lL:R 3 = [51]:=by decide +kernel
theorem fQ:BK (R 0):=⟨0,rfl,by decide +kernel,by decide +kernel⟩
theorem ii:BK (R 1):=⟨1,rfl,by decide +kernel,by decide +kernel⟩
theorem Ahz:BK (R 2):=⟨2,rfl,by decide +kernel,by decide +kernel⟩
theorem Ah0:BK (R 3):=⟨3,rfl,by decide +kernel,by decide +kernel⟩
theorem oM:Ht c3=0:=by
 have h1:colS [] ⟨[65],R 1,(some (2:Rat)).elim [] R⟩=0:=QU ii (by rintro q ⟨rfl⟩;exact⟨Ahz,by rw [lK];decide,by decide +kernel⟩) (by decide +kernel) (by simp) (by decide +kernel);have h2:colS [⟨[65],R 1,R 2⟩] ⟨[66],R 0,(some (3:Rat)).elim [] R⟩=0:=QU fQ (by rintro q ⟨rfl⟩;exact⟨Ah0,by rw [lL];decide,by decide +kernel⟩) (by decide +kernel) (by intro y hy;rw [List.mem_singleton.1 hy];simp) (by decide +kernel);have h3:colS [⟨[65],R 1,R 2⟩,⟨[66],R 0,R 3⟩] ⟨[67],R 1,(none:Option Rat).elim [] R⟩=0:=QU ii (by intro q h;cases h) (by decide +kernel) (by intro y hy;simp only [List.mem_cons,List.not_mem_nil,or_false]at hy;rcases hy with rfl|rfl<;>simp) (by decide +kernel);simp only [Option.elim_some,Option.elim_none]at h1 h2 h3;rw [XW,x9,lK,lL]at *;unfold Ht c3;rw [if_neg (by decide),if_neg (by decide)];simp only [I4,h1,if_true,List.nil_append,h2,List.cons_append,h3]
end Kl
namespace Go.Proofs.YtbejphgbbpplbaaGreatDoor
open Go.RowKit Kl
theorem Abp{w w':World}{e:Ending}(h:D3 c3 f3 w e w'):∃A c,e=.returned (.tuple #[.slice A 3 c,.int .i64 0])/\Ae w' A (Bz e3)/\3<=c/\c<=9223372036854775807/\Aa w w':=by
 unfold D3 at h;rw [Acu,if_pos rfl,qf,mr,oN]at h;exact h
theorem cq{l:List En}(h:l.all (fun e=>decide (e.u.length<1000000)&&(decide (e.s.length<1000000)&&decide (e.t.length<1000000)))=true):∀e∈l,PL e:=by
 intro e he;have:=List.all_eq_true.1 h e he;simp only [Bool.and_eq_true,decide_eq_true_eq]at this;exact⟨this.1,this.2.1,this.2.2⟩
def Ri:En:=⟨[65],[98],2,[49,32,116,111,32,50]⟩
def Rh:En:=⟨[66],[97],1,[48,32,116,111,32,51]⟩
theorem AfN(w:World)(hw:An w):Calls Tryz.prog 8 #[] w (BC true w):=by
 have hL:=AmW w (.cells #[S [65],S [49],S [50],S [66],S [48],S [51],S [67],S [49],S []] 31);have hE:=(Aa.refl w).alloc (.cells #[S [65],S [49],S [50],S [66],S [48],S [51],S [67],S [49],S []] 31);have hR:Ae (w.alloc (.cells #[S [65],S [49],S [50],S [66],S [48],S [51],S [67],S [49],S []] 31)) (some ⟨w.heap.size,0,none⟩) (Cr c3):=Ae.lit w #[S [65],S [49],S [50],S [66],S [48],S [51],S [67],S [49],S []] 31;have Hh:=AmU hR;clear hL hR;go_enter Tryz.func8,Tryz.ntmps8
 go_upto_region 2 with fail
 generalize w.alloc (.cells #[.string ⟨[65].toArray⟩,.string ⟨[49].toArray⟩,.string ⟨[50].toArray⟩,.string ⟨[66].toArray⟩,.string ⟨[48].toArray⟩,.string ⟨[51].toArray⟩,.string ⟨[67].toArray⟩,.string ⟨[49].toArray⟩,.string ⟨[].toArray⟩] 31)=V at *;obtain⟨bc,RO⟩:=AmT w.heap.size;rw [←RO]at Hh ⊢;clear RO;have SC:=hw.ext hE;have hx0:=(Aa.refl V).alloc (.cells #[S [66],S [65],S [120]] 9)
 obtain⟨m,hm1,Gv,xA⟩:∃m,Hr m=0/\(∀p∈m.pts,D4 p)/\Calls Tryz.prog 11 #[.slice (some ⟨V.heap.size,0,none⟩) 3 3] (V.alloc (.cells #[S [66],S [65],S [120]] 9)) (Ub (V.alloc (.cells #[S [66],S [65],S [120]] 9)) m [[66],[65],[120]]):=
  ⟨Lj,AaX,AcI,AjP (some ⟨V.heap.size,0,none⟩) 3 _ (SC.ext hx0) (Ae.lit V #[S [66],S [65],S [120]] 9) (by omega) (by omega)⟩
 have HM:=AmU (And.intro hm1 Gv);clear hm1 Gv;(go_wp2_with fail);(with_reducible refine xA.mono ?_);rintro e w1 ⟨A1,B1,F1,c1,d1,g1,rfl,B8,r1,r2,r3,r4,hx1⟩;have X1:=hx0.trans hx1;have hw1:=SC.ext X1;have HC:=AmU B8
 have cp:=(oV c3 (some ⟨bc,0,none⟩) 3 m f3 A1 B1 F1 c1 d1 g1 w1 (Hh.out.ext X1) (by decide) (by omega) r3 r4 (by decide) (by decide) (by decide)
  (fun W hx=>by
   have:=YH c3 (some ⟨bc,0,none⟩) 3 W (hw1.ext hx) ((Hh.out.ext X1).ext hx) (by decide) (by omega) (by
    intro y hy;simp only [c3,List.mem_cons,Anj,or_false]at hy
    rcases hy with rfl|rfl|rfl<;>(refine⟨?_,?_,?_⟩<;>decide))
   rw [oM]at this
   exact this)
  (fun W hx=>by
   have:=ji m HM.out.2 A1 B1 F1 c1 d1 g1 HC.out W (hw1.ext hx) (r1.ext hx) (r2.ext hx);rw [HM.out.1]at this
   exact this)).mono (fun _ _ h=>Abp h)
 have pW:c3.length=3:=rfl;rw [pW]at cp;unfold C2 at cp ⊢;clear r1 r2 r3 r4 B8 pW xA hx0 hx1;(go_wp2_with fail);(with_reducible refine cp.mono ?_);rintro e w2 ⟨A2,c2,rfl,rd2,hc2,hc2',hx2⟩;have X2:=X1.trans hx2;have hl3:∀e∈e3,PL e:=cq (by decide +kernel)
 have tx:Calls Tryz.prog 37 #[.slice A2 3 c2] w2 (fun e w'=>∃A c,e=.returned (.tuple #[.slice A 3 c,.int .i64 0])/\Ae w' A ((e3.map Fy).map S)/\Aa w2 w'):=(Aka e3 A2 c2 w2 rd2 hc2 hc2' hl3 AaR).mono (by
  rintro e w' ⟨A,c,he,h1,h2,h3,h4⟩
  exact⟨A,c,he,h1,h4⟩)
 have HL3:=AmU hl3;have vz:=AmU rd2;clear cp hx2 hl3 rd2;(go_wp2_with fail);(with_reducible refine tx.mono ?_);rintro e w3 ⟨A3,Y7,rfl,rd3,hx3⟩;have X3:=X2.trans hx3;have hw3:=SC.ext X3;obtain⟨b,o,rfl,hv⟩:=(vz.out.ext hx3).ad (by decide);have q0:w3.cell? ⟨b,o,none⟩=some (S [66]):=hv 0 (by decide);have q1:w3.cell? ⟨b,o+1,none⟩=some (S [97]):=hv 1 (by decide);have q2:w3.cell? ⟨b,o+2,none⟩=some (.int .i64 1):=hv 2 (by decide);have q3:w3.cell? ⟨b,o+3,none⟩=some (S [48,32,116,111,32,51]):=hv 3 (by decide);have q4:w3.cell? ⟨b,o+4,none⟩=some (S [65]):=hv 4 (by decide);have q5:w3.cell? ⟨b,o+5,none⟩=some (S [98]):=hv 5 (by decide);have q6:w3.cell? ⟨b,o+6,none⟩=some (.int .i64 2):=hv 6 (by decide);have q7:w3.cell? ⟨b,o+7,none⟩=some (S [49,32,116,111,32,50]):=hv 7 (by decide);clear tx hx3 hv
 have od:∀W,Aa w3 W→∀g,W.heap[g]?=some (.cells #[S [65],S [98],.int .i64 2,S [49,32,116,111,32,50],S [66],S [97],.int .i64 1,S [48,32,116,111,32,51]] 40)→
   Calls Tryz.prog 34 #[.slice (some ⟨g,0,none⟩) 2 2,.slice (some ⟨bc,0,none⟩) 3 3] W (CU (.tuple #[.int .i64 1,.bool false,.int .i64 0]) W):=by
  intro W hx g hg;have hr:Ae W (some ⟨g,0,none⟩) (Bz [Ri,Rh]):=Ae.blk hg;have hB:=Hh.out.ext (X3.trans hx)
  have op:=Ah5 [Ri,Rh] (some ⟨g,0,none⟩) 2 0 (.slice (some ⟨bc,0,none⟩) 3 3) W hr (by decide) (by omega) (cq (by decide +kernel)) (fun W' hx'=>by
   have:=YH c3 (some ⟨bc,0,none⟩) 3 W' (hw3.ext (hx.trans hx')) (hB.ext hx') (by decide) (by omega) (by
    intro y hy;simp only [c3,List.mem_cons,Anj,or_false]at hy
    rcases hy with rfl|rfl|rfl<;>(refine⟨?_,?_,?_⟩<;>decide))
   rw [oM]at this
   exact this)
  have hch:EN [Ri,Rh]=0:=AaP;rw [hch,if_pos rfl]at op;have h:=AhA [Ri,Rh] (some ⟨g,0,none⟩) 2 c3 (some ⟨bc,0,none⟩) 3 W hr (by decide) hB (by decide) (by omega) op;have ho:Ja c3 [Ri,Rh]=some 1:=Ah7;rw [ho]at h;exact h
 go_upto_region 6 with fail
 go_region_held3 (fun w'=>w'.cell? ⟨b,o,none⟩=some (S [66])/\w'.cell? ⟨b,o+1,none⟩=some (S [97])/\w'.cell? ⟨b,o+2,none⟩=some (.int .i64 1)/\w'.cell? ⟨b,o+3,none⟩=some (S [48,32,116,111,32,51])/\w'.cell? ⟨b,o+4,none⟩=some (S [65])/\w'.cell? ⟨b,o+5,none⟩=some (S [98])/\w'.cell? ⟨b,o+6,none⟩=some (.int .i64 2)/\w'.cell? ⟨b,o+7,none⟩=some (S [49,32,116,111,32,50]))
  (go_keep)
  (first|((with_reducible refine(od _ ((Aa.refl w3).alloc _).drew _ (AmW _ _)).mono ?_);rintro e w6 ⟨rfl,AC⟩;have X6:Aa w3 w6:=((Aa.refl w3).alloc _).drew.trans AC;have g0:=X6.cellS q0;have g1:=X6.cellS q1;have g2:=X6.cellS q2;have g3:=X6.cellS q3;have g4:=X6.cellS q4;have g5:=X6.cellS q5;have g6:=X6.cellS q6;have g7:=X6.cellS q7))
 have X7:=X3.trans X6
 have bP:Ae w6 A3 ([S [97,32,66,32,112,108,97,105,110,58,32,48,32,116,111,32,51],S [98,32,65,32,100,111,116,115,58,32,49,32,116,111,32,50],S [99,32,120,32,100,97,115,104,101,115]]):=by have:=rd3.ext X6;rw [Agf]at this;exact this
 have VX:=(Aa.refl w6).alloc (.cells #[S [97,32,66,32,112,108,97,105,110,58,32,48,32,116,111,32,51],S [98,32,65,32,100,111,116,115,58,32,49,32,116,111,32,50],S [99,32,120,32,100,97,115,104,101,115]] 9);have eq:Calls Tryz.prog 30 #[.slice A3 3 Y7,.slice (some ⟨w6.heap.size,0,none⟩) 3 3] (w6.alloc (.cells #[S [97,32,66,32,112,108,97,105,110,58,32,48,32,116,111,32,51],S [98,32,65,32,100,111,116,115,58,32,49,32,116,111,32,50],S [99,32,120,32,100,97,115,104,101,115]] 9)) (BC true (w6.alloc (.cells #[S [97,32,66,32,112,108,97,105,110,58,32,48,32,116,111,32,51],S [98,32,65,32,100,111,116,115,58,32,49,32,116,111,32,50],S [99,32,120,32,100,97,115,104,101,115]] 9))):=Acs [[97,32,66,32,112,108,97,105,110,58,32,48,32,116,111,32,51],[98,32,65,32,100,111,116,115,58,32,49,32,116,111,32,50],[99,32,120,32,100,97,115,104,101,115]] A3 (some ⟨w6.heap.size,0,none⟩) Y7 3 _ (bP.ext VX) (Ae.lit w6 #[S [97,32,66,32,112,108,97,105,110,58,32,48,32,116,111,32,51],S [98,32,65,32,100,111,116,115,58,32,49,32,116,111,32,50],S [99,32,120,32,100,97,115,104,101,115]] 9) (by decide);have Cu:=AmU (hE.trans X7);clear rd3 bP g0 g1 g2 g3 g4 g5 g6 g7 q0 q1 q2 q3 q4 q5 q6 q7 od;(go_wp2_with fail);(with_reducible refine eq.mono ?_);rintro e w7 ⟨rfl,AG⟩;go_wp2;go_ret;exact⟨rfl,Cu.out.trans (VX.trans AG)⟩
end Go.Proofs.YtbejphgbbpplbaaGreatDoor
