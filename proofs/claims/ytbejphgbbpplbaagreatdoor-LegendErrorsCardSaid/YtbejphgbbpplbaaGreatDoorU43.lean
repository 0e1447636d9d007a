/- U43: ShBZ ShLGX ShLGY ShLGA. -/
import Derived.Test.YtbejphgbbpplbaaGreatDoorU40
import Derived.Test.YtbejphgbbpplbaaGreatDoorU39
set_option maxRecDepth 100000
set_option maxHeartbeats 16000000
namespace Go.Proofs.YtbejphgbbpplbaaGreatDoor
open Go.RowKit Kl
theorem VG(x y:Int)(hx:x.natAbs<10000000)(hy:y.natAbs<10000000)(w:World)(hw:Al w) :
  Calls Tryz.prog 46 #[.int .i64 x,.int .i64 y] w (Cy (Af ⟨x,y⟩) w):=by
 have o1:∀W,Al W→Calls Tryz.prog 9 #[.int .i64 x,.int .i64 1] W (BK (R (x:Rat)) W):=fun W hW=>by have:=Aao x 1 (by omega) hx (by omega) W hW;rw [vh]at this;exact this
 have o2:∀W,Al W→Calls Tryz.prog 9 #[.int .i64 y,.int .i64 1] W (BK (R (y:Rat)) W):=fun W hW=>by have:=Aao y 1 (by omega) hy (by omega) W hW;rw [vh]at this;exact this
 have hb:=ArY w (.cells #[S [],S []] 94);have hE:=(Aa.refl w).alloc (.cells #[S [],S []] 94);unfold Af;clear hx hy;go_enter Tryz.func46,Tryz.ntmps46;(go_wp2_with fail);rw [show (⟨#[]⟩:ByteArray)=⟨([]:Bs).toArray⟩from rfl];(with_reducible refine(o1 _ (hw.ext hE)).mono ?_);rintro e w1 ⟨rfl,hx⟩;replace hb:=(hx.block _ (ArX hb)).trans hb;replace hE:=hE.trans hx;(go_wp2_with fail);(with_reducible refine(o2 _ (hw.ext hE)).mono ?_);rintro e w2 ⟨rfl,hx2⟩;replace hb:=(hx2.block _ (ArX hb)).trans hb;replace hE:=hE.trans hx2;have g1:=Ab (o:=0) hb rfl;have g2:=Ab (o:=1) hb rfl;have g3:=AB (o:=0) hb;have g4:=AB (o:=1) hb;obtain⟨e1,e2⟩:=set2 (S (R (x:Rat))) (S (R (y:Rat))) g1 g2;go_wp2;refine bodyPost_ret (v:=.agg #[S (R (x:Rat)),S (R (y:Rat))]) (by simp [results,Tryz.results46,go_sem,e1,e2]) rfl ?_;exact⟨rfl,(hE.setCell (ArZ _) _).setCell (ArZ _) _⟩
def KJ(us:List Bs):List (List Pt×Bs):=us.zipIdx.map fun e=>(P2 ((e.2:Int):Rat),e.1)
theorem YV(us:List Bs):(KJ us).length=us.length:=by simp [KJ]
theorem Ao4(us:List Bs){k:Nat}(h:k<us.length)(h':k<(KJ us).length):(KJ us)[k]=(P2 ((k:Int):Rat),us[k]):=by simp [KJ]
theorem Aoq(x:Int):P2 (x:Rat) = [⟨(x:Rat),((0:Int):Rat)⟩,⟨((x+1:Int):Rat),((0:Int):Rat)⟩,⟨((x+1:Int):Rat),((1:Int):Rat)⟩,⟨(x:Rat),((1:Int):Rat)⟩]:=by
 unfold P2;rw [Rat.intCast_add]
 rfl
theorem Ag6(a b c d:Pt):(flat (Ak [a,b,c,d])).toArray=#[.string ⟨(R a.x).toArray⟩,.string ⟨(R a.y).toArray⟩,.string ⟨(R b.x).toArray⟩,.string ⟨(R b.y).toArray⟩,.string ⟨(R c.x).toArray⟩,.string ⟨(R c.y).toArray⟩,.string ⟨(R d.x).toArray⟩,.string ⟨(R d.y).toArray⟩]:=rfl
theorem Anx{w0 w:World}{A B F:Option Addr}{m:Bz}{fa:List Bs}{bR:Nat}{t:TypeId}(hA:Ae w A (flat (Ak m.pts)))(hB:Ae w B (B6 m.eds))(hF:Ae w F (fa.map S))(hx:Aa w0 w)
  (hb:w.heap[bR]?=some (.cells #[.slice none 0 0,.slice none 0 0,.slice none 0 0] t)) (h0:w0.heap.size<=bR) (x y z:Value) :
  ∀w',w'=((w.setCell ⟨bR,0,none⟩ x).setCell ⟨bR,1,none⟩ y).setCell ⟨bR,2,none⟩ z→Ae w' A (flat (Ak m.pts))/\Ae w' B (B6 m.eds)/\Ae w' F (fa.map S)/\Aa w0 w'/\w'.heap[bR]?=some (.cells #[x,y,z] t):=by
 rintro w' rfl
 have Ec:∀q,q≠bR→(((w.setCell ⟨bR,0,none⟩ x).setCell ⟨bR,1,none⟩ y).setCell ⟨bR,2,none⟩ z).heap[q]?=w.heap[q]?:=fun q hq=>by rw [Da (by exact hq),Da (by exact hq),Da (by exact hq)]
 refine⟨hA.far hb ?_ Ec,hB.far hb ?_ Ec,hF.far hb ?_ Ec,((hx.setCell (p:=⟨bR,0,none⟩) h0 x).setCell (p:=⟨bR,1,none⟩) h0 y).setCell (p:=⟨bR,2,none⟩) h0 z,PX x y z hb⟩
 ·intro v hv;obtain⟨j,hj,rfl⟩:=List.getElem_of_mem hv;obtain⟨q,hq⟩:=dA hj;rw [hq];intro e;cases e
 ·intro v hv;obtain⟨j,hj,rfl⟩:=List.getElem_of_mem hv;obtain⟨q,hq⟩:=bX hj;rw [hq];intro e;cases e
 ·intro v hv;obtain⟨s,-,rfl⟩:=List.mem_map.1 hv;intro e;cases e
theorem Mt(W:World)(x y:Obj):((W.alloc x).alloc y).heap[W.heap.size+1]?=some y/\((W.alloc x).alloc y).heap[W.heap.size]?=some x/\Aa W ((W.alloc x).alloc y):=by
 have h1:=ArY (W.alloc x) y;have h2:=(((Aa.refl (W.alloc x)).alloc y).block W.heap.size (by simp)).trans (ArY W x);have e:(W.alloc x).heap.size=W.heap.size+1:=(by simp);rw [e]at h1;exact⟨h1,h2,((Aa.refl W).alloc x).alloc y⟩
structure JY(w:World)(e:Pz):Prop where
 blk:w.heap[e.b]?=some (.cells (flat (Ak e.pts)).toArray 94)
 le:e.pts.length<=4
theorem JY.ext{w w':World}{e:Pz}(h:JY w e)(hx:Aa w w'):JY w' e:=⟨(hx.block _ (ArX h.blk)).trans h.blk,h.le⟩
theorem Amf{w:World}{A:Option Addr}{c:Nat}{l:List Pz}(hr:Ae w A (C7 l))(Ah:∀e∈l,JY w e)(h1:l.length<=c)(h2:c<=9223372036854775807):G9 w A c (D4 l):=by
 refine⟨by simpa [D4]using h1,h2,fun j hj=>?_⟩;have hj':j<l.length:=(by simpa [D4]using hj);have hl:=mZ l;obtain⟨b,o,e,hcs⟩:=hr.ad (by omega);obtain⟨f1,f2,f3⟩:=mY l j hj';have g1:=hcs (j*3) (by omega);have g2:=hcs (j*3+1) (by omega);have g3:=hcs (j*3+2) (by omega);rw [Asf (by omega),Ase]at f1 f2 f3;rw [f1]at g1;rw [f2,←Nat.add_assoc]at g2;rw [f3,←Nat.add_assoc]at g3;have hk:=Ah l[j] (Asa hj');have he:(D4 l)[j]=(l[j].pts,l[j].u):=(by simp [D4]);rw [he];have:=hk.le;exact⟨b,o,some ⟨l[j].b,0,none⟩,l[j].pts.length,e,g1,g2,g3,Ae.blk hk.blk,ArZ _,by omega⟩
theorem Am7{wN w':World}{base n:Nat}{v:Value}{l d:List Pz}(hown:wN.ownsRow base 97 3 v n (C7 l))(hg:wN.grownBy w' v.ownBlock)(Ah:∀e∈l,JY wN e)(hd:∀e∈d,JY wN e) :
  ∀e∈l++d,JY w' e:=by
 intro e he
 have h:JY wN e:=by
  rcases List.mem_append.1 he with k|k
  ·exact Ah e k
  ·exact hd e k
 exact⟨(hg.block _ (ArX h.blk) (fun k=>A8 hown h.blk (by decide) k.symm)).trans h.blk,h.le⟩
def ZR(w:World)(m:Bz)(fa:List Bs)(e:Ending)(w':World):Prop:=
 ∃A B F c d g,e=.returned (Bv A B F m c d g)/\JJ m c d g/\Ae w' A (flat (Ak m.pts))/\Ae w' B (B6 m.eds)/\Ae w' F (fa.map S)/\m.nf=fa.length/\Aa w w'
theorem Ao7(us:List Bs)(QS:us.length<=30){m:Bz}{fa:List Bs}(hB:∀A c w,Al w→G9 w A c (KJ us)→Calls Tryz.prog 47 #[.slice A us.length c] w (UV w m fa))(A:Option Addr)(c:Nat)(w:World)(hw:Al w)(hr:Ae w A (us.map S))(hc:us.length<=c)(_:c<=9223372036854775807) :
  Calls Tryz.prog 11 #[.slice A us.length c] w (ZR w m fa):=by
 have hM:=ArY w (.cells #[.slice none 0 0,.slice none 0 0,.slice none 0 0] 36);have hE:=(Aa.refl w).alloc (.cells #[.slice none 0 0,.slice none 0 0,.slice none 0 0] 36);have HB:=ArW hB;have HR:=ArW hr;obtain⟨n,hn⟩:=ArV us.length;rw [←hn]at QS hc;have HN:=ArW hn;rw [←hn];clear hB hr hn;go_enter Tryz.func11,Tryz.ntmps11
 go_upto_region 1 with fail
 generalize w.alloc (.cells #[.slice none 0 0,.slice none 0 0,.slice none 0 0] 36)=V at *;obtain⟨bR,Dw⟩:=ArV w.heap.size;rw [←Dw]at hM ⊢;have hb0:w.heap.size<=bR:=(by omega);clear Dw
 go_upto_region 3 with fail
 go_loopw [3,10] (fun ov kv wr=>∃(l:List Pz) (k:Nat),kv=.int .i64 (k:Nat)/\k<=n/\wr.ownsRow w.heap.size 97 3 ov l.length (C7 l)/\(∀e∈l,JY wr e)/\D4 l=(KJ us).take k/\Aa w wr/\wr.heap[bR]?=some (.cells #[.slice none 0 0,.slice none 0 0,.slice none 0 0] 36)) (fun _ kv _=>n-(intOf kv).toNat)
 case atStart=>exact⟨[],0,rfl,by omega,⟨rfl,.inl ⟨rfl,rfl⟩⟩,(fun e he=>by cases he),rfl,hE,hM⟩
 case round=>
  obtain⟨l,k,rfl,hk,hown,Ah,Ce,Ad,Co⟩:=hrel;have DR:=ArW Ah;have EP:=ArW Ce;clear Ah Ce;by_cases hkn:k<n
  ·have C0:k<us.length:=(by rw [←HN.out];exact hkn);obtain⟨bA,oA,rfl,hcs⟩:=(HR.out.ext Ad).ad (by rw [List.length_map];omega);have hck:=hcs k (by rw [List.length_map];exact C0);rw [List.getElem_map]at hck;obtain⟨u,hu⟩:=ArV (us[k]);rw [←hu]at hck;have HU:=ArW hu;have hk0:(0:Int)<=(k:Int):=(by omega);have BX:(k:Int)<(n:Int):=(by omega);have v1:IntKind.wrap .i64 ((k:Int)+1)=(k:Int)+1:=Asg _ (by omega);clear hu hcs
   have hlk:l.length=k:=by have:=congrArg List.length EP.out;rw [mX,List.length_take,YV]at this;omega
   have p1:=VG (k:Int) 0 (by omega) (by omega);have p2:=VG ((k:Int)+1) 0 (by omega) (by omega);have p3:=VG ((k:Int)+1) 1 (by omega) (by omega);have p4:=VG (k:Int) 1 (by omega) (by omega);have EE:=Aoq (k:Int);obtain⟨a0,h0⟩:=ArV (⟨((k:Int):Rat),((0:Int):Rat)⟩:Pt);obtain⟨a1,h1⟩:=ArV (⟨(((k:Int)+1:Int):Rat),((0:Int):Rat)⟩:Pt);obtain⟨a2,h2⟩:=ArV (⟨(((k:Int)+1:Int):Rat),((1:Int):Rat)⟩:Pt);obtain⟨a3,h3⟩:=ArV (⟨((k:Int):Rat),((1:Int):Rat)⟩:Pt);rw [←h0]at p1 EE;rw [←h1]at p2 EE;rw [←h2]at p3 EE;rw [←h3]at p4 EE;have HSQ:=ArW EE;unfold Af at p1 p2 p3 p4;clear h0 h1 h2 h3 EE;obtain⟨oP,oc,rfl⟩:=KC (by omega) hown;(go_wp2_with fail);(with_reducible refine(p1 _ (hw.ext Ad)).mono ?_);rintro e w1 ⟨rfl,hx1⟩;have X1:=Ad.trans hx1;(go_wp2_with fail);(with_reducible refine(p2 _ (hw.ext X1)).mono ?_);rintro e w2 ⟨rfl,hx2⟩;have X2:=X1.trans hx2;(go_wp2_with fail);(with_reducible refine(p3 _ (hw.ext X2)).mono ?_);rintro e w3 ⟨rfl,hx3⟩;have X3:=X2.trans hx3;(go_wp2_with fail);(with_reducible refine(p4 _ (hw.ext X3)).mono ?_);rintro e W7 ⟨rfl,Aj⟩;have BP:=X3.trans Aj;have AQ:Aa wr W7:=((hx1.trans hx2).trans hx3).trans Aj;clear X1 X2 X3 hx1 hx2 hx3 Aj p1 p2 p3 p4;have Br:=Ao hown AQ;have LK:∀e∈l,JY W7 e:=fun e he=>(DR.out e he).ext AQ;have Cd:=(AQ.block _ (ArX Co)).trans Co;have hbase:w.heap.size<=W7.heap.size:=BP.size;clear AQ hown Co Ad;have qG:=ArW hlk;have hl3:l.length<=30:=(by omega);have AqW:l.length<n:=(by omega);rw [←hlk]at hk0 BX v1 ⊢;have e7:IntKind.wrap .i64 ((l.length:Int)+1)=(l.length:Int)+1:=v1;clear hlk
   go_wp2_with (at_builtin;go_loud (refine sQ rfl _ _ rfl _ w.heap.size (.slice oP l.length oc) l.length l [⟨W7.heap.size,[a0,a1,a2,a3],u⟩] rfl (Ao Br (Mt W7 _ _).2.2) (by omega) (by simp) (W7.heap.size+1) 1 rfl (by rw [Aae _ 4 rfl];exact(Mt W7 _ _).1) rfl (Asl hbase (Mt W7 _ _).2.2.size) ?_);intro v9 w9 Bc Bu Be)
   have Ay:=Am7 (d:=[⟨W7.heap.size,[a0,a1,a2,a3],u⟩]) (Ao Br (Mt W7 _ _).2.2) Be (fun e he=>(LK e he).ext (Mt W7 _ _).2.2) (by
    intro e he;simp only [List.mem_cons,Asm,or_false]at he;subst he
    exact⟨by show _=some (Obj.cells (flat (Ak [a0,a1,a2,a3])).toArray _);rw [Ag6];exact(Mt W7 _ _).2.1,by simp⟩)
   have N5:D4 (l ++ [⟨W7.heap.size,[a0,a1,a2,a3],u⟩])=(KJ us).take (k+1):=by rw [Asd (by rw [YV];exact C0),←EP.out,Ao4 us C0,HSQ.out,←HU.out];simp [D4]
   have AP:=ArW (And.intro Bc (And.intro Ay (And.intro N5 (And.intro (Bu w (BP.trans (Mt W7 _ _).2.2) (ArZ _)) ((Be.block bR (Asj (ArX Cd) (Mt W7 _ _).2.2.size) (fun e=>A8 Br Cd (by decide) e.symm)).trans (((Mt W7 _ _).2.2.block bR (ArX Cd)).trans Cd))))));clear Ay Bc Bu Be N5;go_wp2;go_roundw
   case rel=>exact⟨_,k+1,by rw [←qG.out];go_num,hkn,by rw [List.length_append];exact AP.out.1,AP.out.2.1,AP.out.2.2.1,AP.out.2.2.2.1,AP.out.2.2.2.2⟩
   case measure=>have e:=qG.out;simp [intOf];omega
  ·have Bf:k=n:=(by omega);subst Bf
   have hlk:l.length=k:=by have:=congrArg List.length EP.out;rw [mX,List.length_take,YV]at this;have:=HN.out;omega
   have hp:D4 l=KJ us:=(by rw [EP.out,Asi (by rw [YV,HN.out];exact ArZ _)]);obtain⟨oA,oc,rfl,hr1,hr2,jR⟩:=Ae.of_own' (by omega) hown;have DK:=Amf hr1 DR.out hr2 jR;rw [hp]at DK;have b1:=HB.out oA oc _ (hw.ext Ad) DK;rw [←HN.out]at b1;rw [hlk];clear DK hp hr1;(go_wp2_with fail);(with_reducible refine(b1.mono ?_));rintro e w2 ⟨A2,B2,F2,c2,d2,g2,rfl,DI,r1,r2,r3,r4,hx2⟩;have hX:=Ad.trans hx2;have gG:=(hx2.block _ (ArX Co)).trans Co;have EM:=(Aa.refl w2).alloc (.cells #[.slice A2 m.pts.length c2,.slice B2 m.eds.length d2,.slice F2 m.nf g2] 36);have Nu:=(EM.block _ (ArX gG)).trans gG;have hst:=Anx (r1.ext EM) (r2.ext EM) (r3.ext EM) (hX.trans EM) Nu hb0 (.slice A2 m.pts.length c2) (.slice B2 m.eds.length d2) (.slice F2 m.nf g2) _ rfl;have q0:=Ab (o:=0) Nu rfl;have q1:=Ab (o:=1) Nu rfl;have q2:=Ab (o:=2) Nu rfl;have q3:=AB (o:=0) Nu;have q4:=AB (o:=1) Nu;have q5:=AB (o:=2) Nu;have t1:=Ab (o:=0) hst.2.2.2.2 rfl;have t2:=Ab (o:=1) hst.2.2.2.2 rfl;have t3:=Ab (o:=2) hst.2.2.2.2 rfl;have HST:=ArW (And.intro hst (And.intro DI r4));clear hst DI r1 r2 r3 r4 hx2 Ad Co gG Nu;unfold Bv;go_wp2;refine bodyPost_ret (v:=.agg #[.slice A2 m.pts.length c2,.slice B2 m.eds.length d2,.slice F2 m.nf g2]) (by simp [results,Tryz.results11,go_sem,t1,t2,t3]) rfl ?_;exact⟨A2,B2,F2,c2,d2,g2,rfl,HST.out.2.1,HST.out.1.1,HST.out.1.2.1,HST.out.1.2.2.1,HST.out.2.2,HST.out.1.2.2.2.1⟩
theorem Ao3:KJ [[66],[65],[120]]=str3:=rfl
theorem Ao6(A:Option Addr)(c:Nat)(w:World)(hw:Al w)(hr:Ae w A [S [66],S [65],S [120]])(hc:3<=c)(hcm:c<=9223372036854775807) :
  Calls Tryz.prog 11 #[.slice A 3 c] w (ZR w Mc [[66],[65],[120]]):=
 Ao7 [[66],[65],[120]] (by simp) (fun A c w hw h=>Aes A c w hw (by rw [Ao3]at h;exact h)) A c w hw hr hc hcm
end Go.Proofs.YtbejphgbbpplbaaGreatDoor
namespace Kl
def c3:List La:=[⟨[65],[49],[50]⟩,⟨[66],[48],[51]⟩,⟨[67],[49],[]⟩]
def f3:List Bs:=[[66],[65],[120]]
def e3:List En:=[⟨[66],[97],1,[48,32,116,111,32,51]⟩,⟨[65],[98],2,[49,32,116,111,32,50]⟩,⟨[120],[99],3,[]⟩]
theorem Apb(F:List Bs):Cw F=Go.Lib.compact (Fj (fun x y=>decide (x<=y)) F.length (F.filter (fun s=>s != []))):=by
 unfold Cw;rw [Pm _ _ _ (List.length_filter_le _ _)]
theorem Aoe(c:List La)(l:List Bs):G3 c l=Fj (fun x y=>!decide (Cz c y x<0)) l.length l:=by
 rw [Pm _ _ _ (Nat.le_refl _)]
 rfl
theorem Ab0:Cw f3 = [[65],[66],[120]]:=by rw [Apb];decide +kernel
theorem AaS:G3 c3 [[65],[66],[120]] = [[66],[65],[120]]:=by rw [Aoe];decide +kernel
theorem uX:D8 c3 [[66],[65],[120]]=e3:=by decide +kernel
theorem Agi:MO c3 f3=0:=by
 unfold MO;rw [Ab0,AaS,uX]
 decide +kernel
theorem AeE:Dh e3=0:=by decide +kernel
theorem AlO:IL c3 [⟨[65],[98],2,[49,32,116,111,32,50]⟩,⟨[66],[97],1,[48,32,116,111,32,51]⟩]=some 1:=by decide +kernel
theorem AeC:Dh [⟨[65],[98],2,[49,32,116,111,32,50]⟩,⟨[66],[97],1,[48,32,116,111,32,51]⟩]=0:=by decide +kernel
theorem Aku:e3.map Gb = [[97,32,66,32,112,108,97,105,110,58,32,48,32,116,111,32,51],[98,32,65,32,100,111,116,115,58,32,49,32,116,111,32,50],[99,32,120,32,100,97,115,104,101,115]]:=by decide +kernel
theorem R_0:R 0 = [48]:=by decide +kernel
theorem R_1:R 1 = [49]:=by decide +kernel
theorem rE:R 2 = [50]:=by decide +kernel
theorem rF:R 3 = [51]:=by decide +kernel
theorem AlG:Cc (R 0):=⟨0,rfl,by decide +kernel,by decide +kernel⟩
theorem xu:Cc (R 1):=⟨1,rfl,by decide +kernel,by decide +kernel⟩
theorem AlH:Cc (R 2):=⟨2,rfl,by decide +kernel,by decide +kernel⟩
theorem AlI:Cc (R 3):=⟨3,rfl,by decide +kernel,by decide +kernel⟩
theorem uW:MN c3=0:=by
 have h1:colS [] ⟨[65],R 1,(some (2:Rat)).elim [] R⟩=0:=bG xu (by rintro q ⟨rfl⟩;exact⟨AlH,by rw [rE];decide,by decide +kernel⟩) (by decide +kernel) (by simp) (by decide +kernel);have h2:colS [⟨[65],R 1,R 2⟩] ⟨[66],R 0,(some (3:Rat)).elim [] R⟩=0:=bG AlG (by rintro q ⟨rfl⟩;exact⟨AlI,by rw [rF];decide,by decide +kernel⟩) (by decide +kernel) (by intro y hy;rw [List.mem_singleton.1 hy];simp) (by decide +kernel);have h3:colS [⟨[65],R 1,R 2⟩,⟨[66],R 0,R 3⟩] ⟨[67],R 1,(none:Option Rat).elim [] R⟩=0:=bG xu (by intro q h;cases h) (by decide +kernel) (by intro y hy;simp only [List.mem_cons,List.not_mem_nil,or_false]at hy;rcases hy with rfl|rfl<;>simp) (by decide +kernel);simp only [Option.elim_some,Option.elim_none]at h1 h2 h3;rw [R_0,R_1,rE,rF]at *;unfold MN c3;rw [if_neg (by decide),if_neg (by decide)];simp only [Lg,h1,if_true,List.nil_append,h2,List.cons_append,h3]
end Kl
namespace Go.Proofs.YtbejphgbbpplbaaGreatDoor
open Go.RowKit Kl
theorem Afb{w w':World}{e:Ending}(h:Im c3 f3 w e w'):∃A c,e=.returned (.tuple #[.slice A 3 c,.int .i64 0])/\Ae w' A (AN e3)/\3<=c/\c<=9223372036854775807/\Aa w w':=by
 unfold Im at h;rw [Agi,if_pos rfl,Ab0,AaS,uX]at h;exact h
theorem sw{l:List En}(h:l.all (fun e=>decide (e.u.length<1000000)&&(decide (e.s.length<1000000)&&decide (e.t.length<1000000)))=true):∀e∈l,Ih e:=by
 intro e he;have:=List.all_eq_true.1 h e he;simp only [Bool.and_eq_true,decide_eq_true_eq]at this;exact⟨this.1,this.2.1,this.2.2⟩
def SZ:En:=⟨[65],[98],2,[49,32,116,111,32,50]⟩
def SY:En:=⟨[66],[97],1,[48,32,116,111,32,51]⟩
theorem AjV(w:World)(hw:Al w):Calls Tryz.prog 8 #[] w (Bw true w):=by
 have hL:=ArY w (.cells #[S [65],S [49],S [50],S [66],S [48],S [51],S [67],S [49],S []] 31);have hE:=(Aa.refl w).alloc (.cells #[S [65],S [49],S [50],S [66],S [48],S [51],S [67],S [49],S []] 31);have hR:Ae (w.alloc (.cells #[S [65],S [49],S [50],S [66],S [48],S [51],S [67],S [49],S []] 31)) (some ⟨w.heap.size,0,none⟩) (Cj c3):=Ae.lit w #[S [65],S [49],S [50],S [66],S [48],S [51],S [67],S [49],S []] 31;have ER:=ArW hR;clear hL hR;go_enter Tryz.func8,Tryz.ntmps8
 go_upto_region 2 with fail
 generalize w.alloc (.cells #[.string ⟨[65].toArray⟩,.string ⟨[49].toArray⟩,.string ⟨[50].toArray⟩,.string ⟨[66].toArray⟩,.string ⟨[48].toArray⟩,.string ⟨[51].toArray⟩,.string ⟨[67].toArray⟩,.string ⟨[49].toArray⟩,.string ⟨[].toArray⟩] 31)=V at *;obtain⟨bc,Dx⟩:=ArV w.heap.size;rw [←Dx]at ER ⊢;clear Dx;have Uu:=hw.ext hE;have hx0:=(Aa.refl V).alloc (.cells #[S [66],S [65],S [120]] 9)
 obtain⟨m,hm1,LG,jr⟩:∃m,I0 m=0/\(∀p∈m.pts,DX p)/\Calls Tryz.prog 11 #[.slice (some ⟨V.heap.size,0,none⟩) 3 3] (V.alloc (.cells #[S [66],S [65],S [120]] 9)) (ZR (V.alloc (.cells #[S [66],S [65],S [120]] 9)) m [[66],[65],[120]]):=
  ⟨Mc,AeM,AgQ,Ao6 (some ⟨V.heap.size,0,none⟩) 3 _ (Uu.ext hx0) (Ae.lit V #[S [66],S [65],S [120]] 9) (by omega) (by omega)⟩
 have HM:=ArW (And.intro hm1 LG);clear hm1 LG;(go_wp2_with fail);(with_reducible refine jr.mono ?_);rintro e w1 ⟨A1,B1,F1,c1,d1,g1,rfl,DI,r1,r2,r3,r4,hx1⟩;have X1:=hx0.trans hx1;have hw1:=Uu.ext X1;have HC:=ArW DI
 have cp:=(vB c3 (some ⟨bc,0,none⟩) 3 m f3 A1 B1 F1 c1 d1 g1 w1 (ER.out.ext X1) (by decide) (by omega) r3 r4 (by decide) (by decide) (by decide)
  (fun W hx=>by
   have:=bF c3 (some ⟨bc,0,none⟩) 3 W (hw1.ext hx) ((ER.out.ext X1).ext hx) (by decide) (by omega) (by
    intro y hy;simp only [c3,List.mem_cons,Asm,or_false]at hy
    rcases hy with rfl|rfl|rfl<;>(refine⟨?_,?_,?_⟩<;>decide))
   rw [uW]at this
   exact this)
  (fun W hx=>by
   have:=yv m HM.out.2 A1 B1 F1 c1 d1 g1 HC.out W (hw1.ext hx) (r1.ext hx) (r2.ext hx);rw [HM.out.1]at this
   exact this)).mono (fun _ _ h=>Afb h)
 have vW:c3.length=3:=rfl;rw [vW]at cp;unfold Bv at cp ⊢;clear r1 r2 r3 r4 DI vW jr hx0 hx1;(go_wp2_with fail);(with_reducible refine cp.mono ?_);rintro e w2 ⟨A2,c2,rfl,rd2,hc2,Q7,hx2⟩;have X2:=X1.trans hx2;have hl3:∀e∈e3,Ih e:=sw (by decide +kernel)
 have tx:Calls Tryz.prog 37 #[.slice A2 3 c2] w2 (fun e w'=>∃A c,e=.returned (.tuple #[.slice A 3 c,.int .i64 0])/\Ae w' A ((e3.map Gb).map S)/\Aa w2 w'):=(AoJ e3 A2 c2 w2 rd2 hc2 Q7 hl3 AeE).mono (by
  rintro e w' ⟨A,c,he,h1,h2,h3,h4⟩
  exact⟨A,c,he,h1,h4⟩)
 have Vg:=ArW hl3;have AcH:=ArW rd2;clear cp hx2 hl3 rd2;(go_wp2_with fail);(with_reducible refine tx.mono ?_);rintro e w3 ⟨A3,aQ,rfl,rd3,hx3⟩;have X3:=X2.trans hx3;have hw3:=Uu.ext X3;obtain⟨b,o,rfl,hv⟩:=(AcH.out.ext hx3).ad (by decide);have q0:w3.cell? ⟨b,o,none⟩=some (S [66]):=hv 0 (by decide);have q1:w3.cell? ⟨b,o+1,none⟩=some (S [97]):=hv 1 (by decide);have q2:w3.cell? ⟨b,o+2,none⟩=some (.int .i64 1):=hv 2 (by decide);have q3:w3.cell? ⟨b,o+3,none⟩=some (S [48,32,116,111,32,51]):=hv 3 (by decide);have q4:w3.cell? ⟨b,o+4,none⟩=some (S [65]):=hv 4 (by decide);have q5:w3.cell? ⟨b,o+5,none⟩=some (S [98]):=hv 5 (by decide);have q6:w3.cell? ⟨b,o+6,none⟩=some (.int .i64 2):=hv 6 (by decide);have q7:w3.cell? ⟨b,o+7,none⟩=some (S [49,32,116,111,32,50]):=hv 7 (by decide);clear tx hx3 hv
 have od:∀W,Aa w3 W→∀g,W.heap[g]?=some (.cells #[S [65],S [98],.int .i64 2,S [49,32,116,111,32,50],S [66],S [97],.int .i64 1,S [48,32,116,111,32,51]] 40)→
   Calls Tryz.prog 34 #[.slice (some ⟨g,0,none⟩) 2 2,.slice (some ⟨bc,0,none⟩) 3 3] W (Cy (.tuple #[.int .i64 1,.bool false,.int .i64 0]) W):=by
  intro W hx g hg;have hr:Ae W (some ⟨g,0,none⟩) (AN [SZ,SY]):=Ae.blk hg;have hB:=ER.out.ext (X3.trans hx)
  have op:=xx [SZ,SY] (some ⟨g,0,none⟩) 2 0 (.slice (some ⟨bc,0,none⟩) 3 3) W hr (by decide) (by omega) (sw (by decide +kernel)) (fun W' hx'=>by
   have:=bF c3 (some ⟨bc,0,none⟩) 3 W' (hw3.ext (hx.trans hx')) (hB.ext hx') (by decide) (by omega) (by
    intro y hy;simp only [c3,List.mem_cons,Asm,or_false]at hy
    rcases hy with rfl|rfl|rfl<;>(refine⟨?_,?_,?_⟩<;>decide))
   rw [uW]at this
   exact this)
  have hch:Dh [SZ,SY]=0:=AeC;rw [hch,if_pos rfl]at op;have h:=xz [SZ,SY] (some ⟨g,0,none⟩) 2 c3 (some ⟨bc,0,none⟩) 3 W hr (by decide) hB (by decide) (by omega) op;have ho:IL c3 [SZ,SY]=some 1:=AlO;rw [ho]at h;exact h
 go_upto_region 6 with fail
 go_region_held3 (fun w'=>w'.cell? ⟨b,o,none⟩=some (S [66])/\w'.cell? ⟨b,o+1,none⟩=some (S [97])/\w'.cell? ⟨b,o+2,none⟩=some (.int .i64 1)/\w'.cell? ⟨b,o+3,none⟩=some (S [48,32,116,111,32,51])/\w'.cell? ⟨b,o+4,none⟩=some (S [65])/\w'.cell? ⟨b,o+5,none⟩=some (S [98])/\w'.cell? ⟨b,o+6,none⟩=some (.int .i64 2)/\w'.cell? ⟨b,o+7,none⟩=some (S [49,32,116,111,32,50]))
  (go_keep)
  (first|((with_reducible refine(od _ ((Aa.refl w3).alloc _).drew _ (ArY _ _)).mono ?_);rintro e w6 ⟨rfl,BF⟩;have X6:Aa w3 w6:=((Aa.refl w3).alloc _).drew.trans BF;have g0:=X6.cellS q0;have g1:=X6.cellS q1;have g2:=X6.cellS q2;have g3:=X6.cellS q3;have g4:=X6.cellS q4;have g5:=X6.cellS q5;have g6:=X6.cellS q6;have g7:=X6.cellS q7))
 have X7:=X3.trans X6
 have Xv:Ae w6 A3 ([S [97,32,66,32,112,108,97,105,110,58,32,48,32,116,111,32,51],S [98,32,65,32,100,111,116,115,58,32,49,32,116,111,32,50],S [99,32,120,32,100,97,115,104,101,115]]):=by have:=rd3.ext X6;rw [Aku]at this;exact this
 have QW:=(Aa.refl w6).alloc (.cells #[S [97,32,66,32,112,108,97,105,110,58,32,48,32,116,111,32,51],S [98,32,65,32,100,111,116,115,58,32,49,32,116,111,32,50],S [99,32,120,32,100,97,115,104,101,115]] 9);have eq:Calls Tryz.prog 30 #[.slice A3 3 aQ,.slice (some ⟨w6.heap.size,0,none⟩) 3 3] (w6.alloc (.cells #[S [97,32,66,32,112,108,97,105,110,58,32,48,32,116,111,32,51],S [98,32,65,32,100,111,116,115,58,32,49,32,116,111,32,50],S [99,32,120,32,100,97,115,104,101,115]] 9)) (Bw true (w6.alloc (.cells #[S [97,32,66,32,112,108,97,105,110,58,32,48,32,116,111,32,51],S [98,32,65,32,100,111,116,115,58,32,49,32,116,111,32,50],S [99,32,120,32,100,97,115,104,101,115]] 9))):=Agg [[97,32,66,32,112,108,97,105,110,58,32,48,32,116,111,32,51],[98,32,65,32,100,111,116,115,58,32,49,32,116,111,32,50],[99,32,120,32,100,97,115,104,101,115]] A3 (some ⟨w6.heap.size,0,none⟩) aQ 3 _ (Xv.ext QW) (Ae.lit w6 #[S [97,32,66,32,112,108,97,105,110,58,32,48,32,116,111,32,51],S [98,32,65,32,100,111,116,115,58,32,49,32,116,111,32,50],S [99,32,120,32,100,97,115,104,101,115]] 9) (by decide);have AP:=ArW (hE.trans X7);clear rd3 Xv g0 g1 g2 g3 g4 g5 g6 g7 q0 q1 q2 q3 q4 q5 q6 q7 od;(go_wp2_with fail);(with_reducible refine eq.mono ?_);rintro e w7 ⟨rfl,AQ⟩;go_wp2;go_ret;exact⟨rfl,AP.out.trans (QW.trans AQ)⟩
theorem AkX{u:Bs}(h:nameB u=true):u.length<=32:=by
 cases u with
 | nil=>simp
 | cons b l=>have h2:(decide (l.length<32)&&(Ii b&&l.all (fun c=>Ii c||Li c)))=true:=h;simp only [Bool.and_eq_true,decide_eq_true_eq]at h2;simp only [List.length_cons];omega
theorem Akn{e:En}(h:JK e):Ih e:=by
 have h1:=AkX h.nm;have h2:=h.one;have h3:=h.ln;exact⟨by omega,by omega,by omega⟩
theorem AkP(d:List Dr):∀e∈IJ d,JK e:=(Yi (d.take 8) [] (by simp) List.Pairwise.nil).1
end Go.Proofs.YtbejphgbbpplbaaGreatDoor
