/- Z34: M20 O1 O2 O3. -/
import Derived.Test.YtdaefncphfeaeaaGreatDoorZ33
set_option maxRecDepth 100000
set_option maxHeartbeats 8000000
namespace Go.Proofs.YtdaefncphfeaeaaGreatDoor
open Go.RowKit Kl
structure Sl(w wr:World)(b1 bb r:Nat)(L:List (Sg×Int))(p:Pt)(seen:List Nat)(st:Option (Sg×Rat)):Prop where
 ext:Aa w wr
 box:wr.heap[bb]?=some (.cells #[S (R p.x),S (R p.y)] 35)
 best:wr.heap[bb+1]?=some (.cells (dO st) 183)
 iter:F7 wr r b1 (stamp L) seen
def WF(p:Pt)(st:Option (Sg×Rat))(s:Sg):Option (Sg×Rat):=
 match st with
 | none=>some (s,BX s p.x)
 | some (b,h)=>if AD (BX s p.x) h=0 then (if 0 < AN (Aw s.b s.a b.a)then some (s,BX s p.x)else some (b,h))else if 0 < AD (BX s p.x) h then some (s,BX s p.x)else some (b,h)
theorem AeG(p:Pt)(st:Option (Sg×Rat))(s:Sg):Jc p st s=if 0<=AD s.a.x p.x then st else if AD s.b.x p.x<0 then st else if 0<=AD (BX s p.x) p.y then st else WF p st s:=by
 cases st<;>rfl
theorem dP(st:Option (Sg×Rat)):∃c0 c1 c2 c3:Bs,dO st=#[S c0,S c1,S c2,S c3]:=by
 cases st with
 | none=>exact⟨_,_,_,_,rfl⟩
 | some x=>exact⟨_,_,_,_,rfl⟩
theorem Abi(L:List (Sg×Int)):∀i (h:i<(stamp L).length),(stamp L)[i].2.2=i:=by
 intro i h;simp [stamp]
theorem Abj(L:List (Sg×Int)){i:Nat}(h:i<(stamp L).length):(stamp L)[i].1=(L[i]'(by rw [G0]at h;exact h)).1:=by simp [stamp]
theorem Abl(L:List (Sg×Int)){i:Nat}(h:i<(stamp L).length):(stamp L)[i].2.1=.int .i64 (L[i]'(by rw [G0]at h;exact h)).2:=by simp [stamp]
theorem AmD{β:Type}(L:List β):(List.range L.length).filterMap (fun i=>L[i]?)=L:=by
 have h:∀n,n<=L.length→(List.range n).filterMap (fun i=>L[i]?)=L.take n:=by
  intro n
  induction n with
  | zero=>intro _;simp
  | succ n ih=>intro hn;rw [List.range_succ,List.filterMap_append,ih (by omega),Asi (by omega)];simp [Asl (show n<L.length by omega)]
 rw [h _ (Asf _),List.take_length]
theorem AaU(L:List (Sg×Int)){seen:List Nat}(IA:seen.Nodup)(hlt:∀i∈seen,i<(stamp L).length)(hlen:seen.length=(stamp L).length):(seen.filterMap (fun i=>L[i]?.map (·.1))).Perm (L.map (·.1)):=by
 rw [G0]at hlt hlen
 have hmem:∀i,i<L.length→i∈seen:=by
  intro i hi;refine Classical.byContradiction fun hn=>?_;have h1:(i::seen).Nodup:=List.nodup_cons.2 ⟨hn,IA⟩
  have h2:(i::seen) ⊆ List.range L.length:=by
   intro j hj
   rcases List.mem_cons.1 hj with rfl|hj
   ·simpa using hi
   ·simpa using hlt j hj
  have:=h1.length_le_of_subset h2;simp at this;omega
 have hp:seen.Perm (List.range L.length):=by
  rw [List.perm_iff_count];intro i;rw [IA.count,(List.nodup_range).count];by_cases hi:i<L.length
  ·rw [if_pos (hmem i hi),if_pos (by simpa using hi)]
  ·rw [if_neg (fun h=>hi (hlt i h)),if_neg (by simpa using hi)]
 refine(hp.filterMap _).trans ?_
 have e:(List.range L.length).filterMap (fun i=>L[i]?.map (·.1))=L.map (·.1):=by
  have e1:(List.range L.length).filterMap (fun i=>L[i]?.map (·.1))=((List.range L.length).filterMap (fun i=>L[i]?)).map (·.1):=(by rw [List.map_filterMap]);rw [e1]
  congr 1
  exact AmD L
 rw [e]
theorem Sl.put{w w':World}{b1 bb:Nat}{L:List (Sg×Int)}{p:Pt}{seen:List Nat}{st:Option (Sg×Rat)}(hB:Sl w w' b1 bb (bb+2) L p seen st)(hle:w.heap.size<=bb)(s:Sg)(y:Rat) :
  Sl w ((((w'.setCell ⟨bb+1,0,none⟩ (S (R s.a.x))).setCell ⟨bb+1,1,none⟩ (S (R s.a.y))).setCell ⟨bb+1,2,none⟩ (S (R s.b.x))).setCell ⟨bb+1,3,none⟩ (S (R s.b.y))) b1 bb (bb+2) L p seen (some (s,y)):=by
 obtain⟨c0,c1,c2,c3,hc⟩:=dP st;have hb:=hB.best;rw [hc]at hb
 have far:∀(X:World) (o:Nat) (v:Value) (q:Nat),q≠bb+1→(X.setCell ⟨bb+1,o,none⟩ v).heap[q]?=X.heap[q]?:=by intro X o v q hq;simp only [World.setCell,Array.getElem?_modify];rw [if_neg (by omega)]
 refine⟨(((hB.ext.setCell (p:=⟨bb+1,0,none⟩) (by simp;omega) _).setCell (p:=⟨bb+1,1,none⟩) (by simp;omega) _).setCell (p:=⟨bb+1,2,none⟩) (by simp;omega) _).setCell (p:=⟨bb+1,3,none⟩) (by simp;omega) _,?_,Qn _ _ _ _ hb,hB.iter.keep ?_⟩
 ·rw [far _ _ _ _ (by omega),far _ _ _ _ (by omega),far _ _ _ _ (by omega),far _ _ _ _ (by omega)];exact hB.box
 ·rw [far _ _ _ _ (by omega),far _ _ _ _ (by omega),far _ _ _ _ (by omega),far _ _ _ _ (by omega)]
theorem AeH{B:Nat}{w:World}{rn b1 b2:Nat}{L:List (Sg×Int)}{E:List (Pt×Value×Nat)}{R0:List (Pt×List Pt)}(h:Cl B w rn b1 b2 L E R0)(p:Pt){k:Nat}(hL:∀e∈L,DK k e.1)(hp:Aq k p)(hk:0<k)(hk2:k<=200)(hw:Ai w) :
  Calls Tryz.prog 185 #[.pointer (some ⟨rn,0,none⟩),Ak p] w fun e w'=>∃l:List Sg,l.Perm (L.map (·.1))/\e=.returned (.tuple #[WM (Ef p l),.bool (Ef p l).isSome])/\Aa w w':=by
 have hE:=((Aa.refl w).alloc (.cells #[S (R p.x),S (R p.y)] 35)).alloc (.cells #[S [],S [],S [],S []] 183);have hb1:=(Below.heap_alloc (w.alloc (.cells #[S (R p.x),S (R p.y)] 35)) (.cells #[S [],S [],S [],S []] 183) w.heap.size (by simp)).trans (Ase w (.cells #[S (R p.x),S (R p.y)] 35));have hb2:=Ase (w.alloc (.cells #[S (R p.x),S (R p.y)] 35)) (.cells #[S [],S [],S [],S []] 183);rw [Asn]at hb2;have hN:=h.ext hE;unfold Ak;go_enter Tryz.func185,Tryz.ntmps185
 go_upto_region 2 with fail
 rw [show (⟨#[]⟩:ByteArray)=⟨([]:Bs).toArray⟩from rfl];have hsz:((w.alloc (.cells #[S (R p.x),S (R p.y)] 35)).alloc (.cells #[S [],S [],S [],S []] 183)).heap.size=w.heap.size+2:=(by simp);generalize (w.alloc (.cells #[S (R p.x),S (R p.y)] 35)).alloc (.cells #[S [],S [],S [],S []] 183)=V at *;obtain⟨bb,BA⟩:=AcG w.heap.size;have hle:w.heap.size<=bb:=(by omega);have EW:bb<=w.heap.size:=(by omega);rw [←BA]at hb1 hb2 hsz ⊢;clear BA;have n1:=Ab (o:=0) hN.cell rfl;have hrg:=F7.range (enc:=Ax) (E:=stamp L) (t:=108) Tryz.underlying108 (W:=V) (b:=b1) (by rw [G0];exact hN.left);obtain⟨hr1,hr2⟩:=hrg;rw [hsz]at hr1 hr2;have hEI:=hE.alloc (.mapIter (some b1) (stamp L).length #[] (stamp L).length);have T0:=(Below.heap_alloc V (.mapIter (some b1) (stamp L).length #[] (stamp L).length) bb (by omega)).trans hb1;have gI:=(Below.heap_alloc V (.mapIter (some b1) (stamp L).length #[] (stamp L).length) (bb+1) (by omega)).trans hb2;clear hb1 hb2
 go_upto_region 3 with fail
 generalize V.alloc (.mapIter (some b1) (stamp L).length #[] (stamp L).length)=V2 at *
 go_loopw [5,6] (fun f hi wr=>∃(seen:List Nat) (st:Option (Sg×Rat)),f=.bool st.isSome/\hi=jO st/\Sl w wr b1 bb (bb+2) L p seen st/\st=Ef p (seen.filterMap (fun i=>L[i]?.map (·.1)))/\(∀x,st=some x→DK k x.1/\x.2=BX x.1 p.x)) (fun _ _ wr=>L.length-(wr.iterSeen (bb+2)).size)
 case atStart=>exact⟨[],none,rfl,rfl,⟨hEI,T0,gI,hr2⟩,rfl,by simp⟩
 case round=>
  obtain⟨seen,st,rfl,rfl,hB,hst,Kf⟩:=hrel;have hb0:=(hB.ext.block b1 (Asd h.left)).trans h.left;rw [←G0]at hb0;have Ie:=Asd h.left;obtain⟨c0,c1,c2,c3,hc⟩:=dP st;have Hg:=hB.best;rw [hc]at Hg
  rcases F7.next Ax hB.iter hb0 (Abi L) (by omega) 0 with⟨hlen,hrun⟩|⟨i,hi,KV,W1,hI1,hG1,hs1,hrun,hen⟩
  ·have y0:=An (o:=0) Hg;have y1:=An (o:=1) Hg;have y2:=An (o:=2) Hg;have y3:=An (o:=3) Hg;have z0:=Ab (o:=0) Hg rfl;have z1:=Ab (o:=1) Hg rfl;have z2:=Ab (o:=2) Hg rfl;have z3:=Ab (o:=3) Hg rfl;have hq:=Qn (S c0) (S c1) (S c2) (S c3) Hg;have q0:=Ab (o:=0) hq rfl;have q1:=Ab (o:=1) hq rfl;have q2:=Ab (o:=2) hq rfl;have q3:=Ab (o:=3) hq rfl;have hP:=AaU L hB.iter.nd hB.iter.lt hlen;have hX:=hB.ext;rw [hst]at hc;have hV:WM (Ef p (seen.filterMap (fun i=>L[i]?.map (·.1))))=.agg #[S c0,S c1,S c2,S c3]:=(by unfold WM;rw [hc]);obtain⟨fb,hfb⟩:=AcG st.isSome;have jC:=hfb;rw [hst]at jC;rw [←hfb];clear hq Hg hB hc hfb Kf hst;go_wp2;refine bodyPost_ret (v:=.tuple #[.agg #[S c0,S c1,S c2,S c3],.bool fb]) (by simp [results,Tryz.results185,go_sem,q0,q1,q2,q3,jC])  rfl ?_;exact⟨_,hP,by rw [hV,jC],(((hX.setCell (p:=⟨bb+1,0,none⟩) (by simp;omega) _).setCell (p:=⟨bb+1,1,none⟩) (by simp;omega) _).setCell (p:=⟨bb+1,2,none⟩) (by simp;omega) _).setCell (p:=⟨bb+1,3,none⟩) (by simp;omega) _⟩
  ·have QN:i<L.length:=(by rw [G0]at hi;exact hi);rw [Abj,Abl]at hrun hen;have hsk:DK k (L[i]).1:=hL _ (Asg QN)
   have hstep:Ef p ((seen ++ [i]).filterMap (fun i=>L[i]?.map (·.1)))=Jc p st (L[i]).1:=by rw [List.filterMap_append,hst];simp only [List.filterMap_cons,List.filterMap_nil,Asl QN,Option.map_some];rw [tD]
   have hlen':seen.length<L.length:=by
    have h2:(i::seen) ⊆ List.range L.length:=by
     intro j hj
     rcases List.mem_cons.1 hj with rfl|hj
     ·simpa using QN
     ·have:=hB.iter.lt j hj;rw [G0]at this;simpa using this
    have:=(List.nodup_cons.2 ⟨KV,hB.iter.nd⟩).length_le_of_subset h2;simp at this;omega
   have Gv:=IG hB.iter;have X1:Aa w W1:=Xi hB.ext hG1 (by omega);have tO:=(hG1.block bb (Asd hB.box) (by simp)).trans hB.box;have tG:=(hG1.block (bb+1) (Asd hB.best) (by simp)).trans hB.best;have KO:=hen W1 rfl rfl;obtain⟨s,hs⟩:=AcG ((L[i]).1);obtain⟨z,hz⟩:=AcG ((L[i]).2);rw [←hs,←hz]at KO hrun;rw [←hs]at hsk hstep;have H7:=Ase W1 (.cells #[S (R s.a.x),S (R s.a.y),S (R s.b.x),S (R s.b.y)] 183);have E3:=(Aa.refl W1).alloc (.cells #[S (R s.a.x),S (R s.a.y),S (R s.b.x),S (R s.b.y)] 183)
   have KEEP:∀w',Aa (W1.alloc (.cells #[S (R s.a.x),S (R s.a.y),S (R s.b.x),S (R s.b.y)] 183)) w'→Sl w w' b1 bb (bb+2) L p (seen ++ [i]) st:=fun w' hx=>
    have hy:=E3.trans hx
    ⟨X1.trans hy,(hy.block _ (Asd tO)).trans tO,(hy.block _ (Asd tG)).trans tG,hI1.keep (hy.block _ (Asd hI1.it))⟩
   clear hen hs hz Hg hb0 hG1 hr1 hr2 hB hN;unfold Ax at KO hrun
   go_upto_region 5 with fail
   unfold S at H7 E3 KEEP;rw [hs1]at H7;generalize (W1.alloc (.cells #[.string ⟨(R s.a.x).toArray⟩,.string ⟨(R s.a.y).toArray⟩,.string ⟨(R s.b.x).toArray⟩,.string ⟨(R s.b.y).toArray⟩] 183))=V3 at *;obtain⟨bs,Em⟩:=AcG wr.heap.size;rw [←Em]at H7 ⊢;clear hrun KO Em hs1 hst;have okV:=hw.ext (X1.trans E3);have B0:=(KEEP V3 (Aa.refl _)).box
   have F:∀w',Aa V3 w'→(w'.cell? ⟨bb,0,none⟩=some (S (R p.x))/\w'.cell? ⟨bb,1,none⟩=some (S (R p.y))/\w'.cell? ⟨bs,0,none⟩=some (S (R s.a.x))/\w'.cell? ⟨bs,1,none⟩=some (S (R s.a.y))/\w'.cell? ⟨bs,2,none⟩=some (S (R s.b.x))/\w'.cell? ⟨bs,3,none⟩=some (S (R s.b.y))):=fun w' h=>⟨h.cellS (Ab B0 rfl),h.cellS (Ab B0 rfl),h.cellS (Ab H7 rfl),h.cellS (Ab H7 rfl),h.cellS (Ab H7 rfl),h.cellS (Ab H7 rfl)⟩
   clear B0 H7;have cA:=CJ s.a.x p.x (a:=k) (b:=k) ⟨hsk.a.x,hp.x,hk,hk,by omega⟩;have cB:=CJ s.b.x p.x (a:=k) (b:=k) ⟨hsk.b.x,hp.x,hk,hk,by omega⟩
   have AZ:Jc p st s=if 0<=AD s.a.x p.x then st else if AD s.b.x p.x<0 then st else if 0<=AD (BX s p.x) p.y then st else WF p st s:=AeG p st s
   obtain⟨xa,Ay⟩:=AcG (AD s.a.x p.x);obtain⟨xb,hxb⟩:=AcG (AD s.b.x p.x);rw [←Ay]at cA AZ;rw [←hxb]at cB AZ;obtain⟨f1,f2,f3,f4,f5,f6⟩:=F V3 (Aa.refl _);(go_wp2_with fail);(with_reducible refine(cA _ okV).mono ?_);rintro e w1 ⟨rfl,hx1⟩;clear f1 f2 f3 f4 f5 f6 cA;obtain⟨f1,f2,f3,f4,f5,f6⟩:=F w1 hx1;by_cases a1:0<=xa
   ·have d1:decide (0<=xa)=true:=decide_eq_true a1;have hb1:Jc p st s=st:=(by rw [AZ,if_pos a1]);clear AZ cB F;go_wp2;go_roundw
    case rel=>exact⟨seen ++ [i],st,rfl,rfl,KEEP _ hx1,by rw [hstep];exact(hb1).symm,Kf⟩
    case measure=>rw [Gv,IG (KEEP _ hx1).iter,List.length_append,List.length_singleton];omega
   have d1:decide (0<=xa)=false:=decide_eq_false a1;rw [if_neg a1]at AZ;(go_wp2_with fail);(with_reducible refine(cB _ (okV.ext hx1)).mono ?_);rintro e w2 ⟨rfl,hx2⟩;replace hx2:=hx1.trans hx2;clear f1 f2 f3 f4 f5 f6 cB hx1;obtain⟨f1,f2,f3,f4,f5,f6⟩:=F w2 hx2;by_cases a2:xb<0
   ·have d2:decide (xb<0)=true:=decide_eq_true a2;have hb1:Jc p st s=st:=(by rw [AZ,if_pos a2]);clear AZ F;go_wp2;go_roundw
    case rel=>exact⟨seen ++ [i],st,rfl,rfl,KEEP _ hx2,by rw [hstep];exact(hb1).symm,Kf⟩
    case measure=>rw [Gv,IG (KEEP _ hx2).iter,List.length_append,List.length_singleton];omega
   have d2:decide (xb<0)=false:=decide_eq_false a2;rw [if_neg a2]at AZ
   have h0:s.b.x≠s.a.x:=by have q1:=WT s.a.x p.x;have q2:=WT s.b.x p.x;rw [←Ay]at q1;rw [←hxb]at q2;have q3:s.a.x<p.x:=q1.1 (by omega);have q4:¬s.b.x<p.x:=fun h=>a2 (q2.2 h);intro e;rw [e]at q4;exact q4 q3
   have ch:=Air s p.x hsk hp.x hk (by omega) h0;unfold Ax at ch;have mC:=Abw hsk hp.x;obtain⟨y,hy⟩:=AcG (BX s p.x);rw [←hy]at ch mC AZ;have cC:=CJ y p.y (a:=7*k+5) (b:=k) ⟨mC,hp.y,by omega,hk,by omega⟩;obtain⟨xc,Dz⟩:=AcG (AD y p.y);rw [←Dz]at cC AZ;have HY:=Asb hy;clear Ay hxb Dz h0 hy;(go_wp2_with fail);(with_reducible refine(ch _ (okV.ext hx2)).mono ?_);rintro e w3 ⟨rfl,hx3⟩;replace hx3:=hx2.trans hx3;clear f1 f2 f3 f4 f5 f6 ch hx2;obtain⟨f1,f2,f3,f4,f5,f6⟩:=F w3 hx3;(go_wp2_with fail);(with_reducible refine(cC _ (okV.ext hx3)).mono ?_);rintro e w4 ⟨rfl,Af⟩;replace Af:=hx3.trans Af;clear f1 f2 f3 f4 f5 f6 cC hx3;obtain⟨f1,f2,f3,f4,f5,f6⟩:=F w4 Af;by_cases a3:0<=xc
   ·have d3:decide (0<=xc)=true:=decide_eq_true a3;have hb1:Jc p st s=st:=(by rw [AZ,if_pos a3]);clear AZ F;go_wp2;go_roundw
    case rel=>exact⟨seen ++ [i],st,rfl,rfl,KEEP _ Af,by rw [hstep];exact hb1.symm,Kf⟩
    case measure=>rw [Gv,IG (KEEP _ Af).iter,List.length_append,List.length_singleton];omega
   have d3:decide (0<=xc)=false:=decide_eq_false a3;rw [if_neg a3]at AZ;have K4:=KEEP w4 Af
   cases st with
   | none=>
    have Mi:WF p none s=some (s,y):=(by rw [HY.out];rfl);rw [Mi]at AZ;have y0:=An (o:=0) K4.best;have y1:=An (o:=1) K4.best;have y2:=An (o:=2) K4.best;have y3:=An (o:=3) K4.best;have z0:=Ab (o:=0) K4.best rfl;have z1:=Ab (o:=1) K4.best rfl;have z2:=Ab (o:=2) K4.best rfl;have z3:=Ab (o:=3) K4.best rfl;have K5:=K4.put hle s y;unfold jO;clear K4 F KEEP Mi;go_wp2;go_roundw
    case rel=>exact⟨seen ++ [i],some (s,y),rfl,rfl,K5,by rw [hstep];exact AZ.symm,by rintro x hx;simp only [Asj]at hx;rw [←hx];exact⟨hsk,HY.out⟩⟩
    case measure=>rw [Gv,IG K5.iter,List.length_append,List.length_singleton];omega
   | some bh=>
    obtain⟨b,hh⟩:=bh;obtain⟨QB,jN⟩:=Kf _ rfl;simp only at QB jN;have iu:Sz (7*k+5) hh:=(by rw [jN];exact Abw QB hp.x);have cD:=CJ y hh (a:=7*k+5) (b:=7*k+5) ⟨mC,iu,by omega,by omega,by omega⟩
    have Mi:WF p (some (b,hh)) s=if AD y hh=0 then (if 0<AN (Aw s.b s.a b.a)then some (s,y)else some (b,hh))else if 0<AD y hh then some (s,y)else some (b,hh):=by rw [HY.out];rfl
    rw [Mi]at AZ;obtain⟨xd,Gz⟩:=AcG (AD y hh);rw [←Gz]at cD AZ;clear Gz Mi jN iu hc;clear K4;unfold jO;(go_wp2_with fail);(with_reducible refine(cD _ (okV.ext Af)).mono ?_);rintro e w5 ⟨rfl,Ae⟩;replace Ae:=Af.trans Ae;clear f1 f2 f3 f4 f5 f6 cD Af;obtain⟨f1,f2,f3,f4,f5,f6⟩:=F w5 Ae;have K5:=KEEP w5 Ae;by_cases a4:xd=0
    ·subst a4;rw [if_pos rfl]at AZ;have cE:=Oi s.b s.a b.a hsk.b hsk.a QB.a hk (by omega);unfold Ak at cE;obtain⟨xe,NR⟩:=AcG (AN (Aw s.b s.a b.a));rw [←NR]at cE AZ;clear NR;have z0:w5.cell? ⟨bb+1,0,none⟩=some (S (R b.a.x)):=Ab (o:=0) K5.best rfl;have z1:w5.cell? ⟨bb+1,1,none⟩=some (S (R b.a.y)):=Ab (o:=1) K5.best rfl;clear K5;(go_wp2_with fail);(with_reducible refine(cE _ (okV.ext Ae)).mono ?_);rintro e w6 ⟨rfl,Ao⟩;replace Ao:=Ae.trans Ao;clear f1 f2 f3 f4 f5 f6 cE Ae z0 z1;obtain⟨f1,f2,f3,f4,f5,f6⟩:=F w6 Ao;have K6:=KEEP w6 Ao;by_cases a5:0<xe
     ·have d5:decide (0<xe)=true:=decide_eq_true a5;rw [if_pos a5]at AZ;have y0:=An (o:=0) K6.best;have y1:=An (o:=1) K6.best;have y2:=An (o:=2) K6.best;have y3:=An (o:=3) K6.best;have z0:=Ab (o:=0) K6.best rfl;have z1:=Ab (o:=1) K6.best rfl;have z2:=Ab (o:=2) K6.best rfl;have z3:=Ab (o:=3) K6.best rfl;have K9:=K6.put hle s y;clear K6 F KEEP;go_wp2;go_roundw
      case rel=>exact⟨seen ++ [i],some (s,y),rfl,rfl,K9,by rw [hstep];exact AZ.symm,by rintro x hx;simp only [Asj]at hx;rw [←hx];exact⟨hsk,HY.out⟩⟩
      case measure=>rw [Gv,IG K9.iter,List.length_append,List.length_singleton];omega
     ·have d5:decide (0<xe)=false:=decide_eq_false a5;rw [if_neg a5]at AZ;go_wp2;go_roundw
      case rel=>exact⟨seen ++ [i],some (b,hh),rfl,rfl,K6,by rw [hstep];exact AZ.symm,Kf⟩
      case measure=>rw [Gv,IG K6.iter,List.length_append,List.length_singleton];omega
    ·have d4:decide (xd=0)=false:=decide_eq_false a4;have d4':(xd == 0)=false:=(by simpa using a4);rw [if_neg a4]at AZ;by_cases a5:0<xd
     ·have d5:decide (0<xd)=true:=decide_eq_true a5;rw [if_pos a5]at AZ;have y0:=An (o:=0) K5.best;have y1:=An (o:=1) K5.best;have y2:=An (o:=2) K5.best;have y3:=An (o:=3) K5.best;have z0:=Ab (o:=0) K5.best rfl;have z1:=Ab (o:=1) K5.best rfl;have z2:=Ab (o:=2) K5.best rfl;have z3:=Ab (o:=3) K5.best rfl;have K9:=K5.put hle s y;clear K5 F KEEP;go_wp2;go_roundw
      case rel=>exact⟨seen ++ [i],some (s,y),rfl,rfl,K9,by rw [hstep];exact AZ.symm,by rintro x hx;simp only [Asj]at hx;rw [←hx];exact⟨hsk,HY.out⟩⟩
      case measure=>rw [Gv,IG K9.iter,List.length_append,List.length_singleton];omega
     ·have d5:decide (0<xd)=false:=decide_eq_false a5;rw [if_neg a5]at AZ;go_wp2;go_roundw
      case rel=>exact⟨seen ++ [i],some (b,hh),rfl,rfl,K5,by rw [hstep];exact AZ.symm,Kf⟩
      case measure=>rw [Gv,IG K5.iter,List.length_append,List.length_singleton];omega
theorem Aoa(p a b:Pt){k:Nat}(hp:Aq k p)(ha:Aq k a)(hb:Aq k b)(hk:0<k)(hk2:k<=400)(w:World)(hw:Ai w)(bp:Nat)(AS:w.heap[bp]?=some (.cells #[S (R p.x),S (R p.y)] 35)) :
  Calls Tryz.prog 193 #[Ak a,Ak b,.pointer (some ⟨bp,0,none⟩)] w (AQ (Eh p a b) w):=by
 have c1:=Aai p a hp ha hk hk2;have c2:=Aai p b hp hb hk hk2;have c3:=Oi p a b hp ha hb hk hk2;have hE:=((Aa.refl w).alloc (.cells #[S (R a.x),S (R a.y)] 35)).alloc (.cells #[S (R b.x),S (R b.y)] 35)
 have hA:(w.alloc (.cells #[S (R a.x),S (R a.y)] 35)).alloc (.cells #[S (R b.x),S (R b.y)] 35) |>.heap[w.heap.size]?=some (.cells #[S (R a.x),S (R a.y)] 35):=(Below.heap_alloc _ _ _ (by simp)).trans (Ase w _)
 have hB:=Ase (w.alloc (.cells #[S (R a.x),S (R a.y)] 35)) (.cells #[S (R b.x),S (R b.y)] 35);rw [Asn]at hB;have hP:=(hE.block bp (Asd AS)).trans AS
 have hr:Eh p a b=if Cg p a-Cg p b≠0 then Cg p a-Cg p b else -AN (Aw p a b):=rfl
 have l1:=US p a;have l2:=US p b;have l3:=V7 (Aw p a b);obtain⟨x,hx0⟩:=AcG (Cg p a);obtain⟨y,Ba⟩:=AcG (Cg p b);obtain⟨z,hz0⟩:=AcG (AN (Aw p a b));rw [←hx0]at c1 l1;rw [←Ba]at c2 l2;rw [←hz0]at c3 l3;rw [←hx0,←Ba,←hz0]at hr
 have w1:IntKind.i64.wrap (x-y)=x-y:=by rcases l1 with rfl|rfl<;>rcases l2 with rfl|rfl<;>rfl
 have w2:IntKind.i64.wrap (-z) = -z:=by
  obtain rfl|rfl|rfl:z = -1∨z=0∨z=1:=by omega
  all_goals rfl
 obtain⟨r,EZ⟩:=AcG (if x-y≠0 then x-y else -z:Int);rw [←EZ]at hr;rw [hr]
 have PC:∀(b o:Nat) (w:World),w.cell? ⟨b,o,none⟩=some (.int .i64 (x-y))→w.cell? ⟨b,o+1,none⟩=some (.int .i64 (-z))→Calls Tryz.prog 176 #[.slice (some ⟨b,o,none⟩) 2 2] w (AQ r w):=by intro b o w h1 h2;rw [EZ];exact Z0 (x-y) (-z) b o w h1 h2
 unfold Ak at c1 c2 c3 ⊢;clear hr hx0 Ba hz0 EZ hp ha hb l1 l2 l3 AS;go_enter Tryz.func193,Tryz.ntmps193
 go_upto_region 1 with fail
 generalize (w.alloc (.cells #[S (R a.x),S (R a.y)] 35)).alloc (.cells #[S (R b.x),S (R b.y)] 35)=V at *;obtain⟨ba,Bj⟩:=AcG w.heap.size;rw [←Bj]at hA hB ⊢;clear Bj;have hV:=hw.ext hE
 have SO:∀w',Aa V w'→(w'.cell? ⟨bp,0,none⟩=some (S (R p.x))/\w'.cell? ⟨bp,1,none⟩=some (S (R p.y))/\w'.cell? ⟨ba,0,none⟩=some (S (R a.x))/\w'.cell? ⟨ba,1,none⟩=some (S (R a.y))/\w'.cell? ⟨ba+1,0,none⟩=some (S (R b.x))/\w'.cell? ⟨ba+1,1,none⟩=some (S (R b.y))):=fun w' h=>⟨h.cellS (Ab hP rfl),h.cellS (Ab hP rfl),h.cellS (Ab hA rfl),h.cellS (Ab hA rfl),h.cellS (Ab hB rfl),h.cellS (Ab hB rfl)⟩
 have X0:Aa V V.drew:=(Aa.refl V).drew;clear hA hB hP
 go_region_held3 (fun w'=>w'.cell? ⟨bp,0,none⟩=some (S (R p.x))/\w'.cell? ⟨bp,1,none⟩=some (S (R p.y))/\w'.cell? ⟨ba,0,none⟩=some (S (R a.x))/\w'.cell? ⟨ba,1,none⟩=some (S (R a.y))/\w'.cell? ⟨ba+1,0,none⟩=some (S (R b.x))/\w'.cell? ⟨ba+1,1,none⟩=some (S (R b.y)))
  (first|with_reducible exact SO _ X0|with_reducible exact SO _ X5|with_reducible exact SO _ X6|with_reducible exact SO _ X7|with_reducible exact SO _ (X7.alloc _)|with_reducible exact SO _ X8)
  (first|((with_reducible refine(c1 _ (hV.ext X0)).mono ?_);rintro e w5 ⟨rfl,Ae⟩;have X5:Aa V w5:=X0.trans Ae)|((with_reducible refine(c2 _ (hV.ext X5)).mono ?_);rintro e w6 ⟨rfl,Ao⟩;have X6:Aa V w6:=X5.trans Ao)|((with_reducible refine(c3 _ (hV.ext X6)).mono ?_);rintro e w7 ⟨rfl,Aj⟩;have X7:Aa V w7:=X6.trans Aj;have EC:=Ase w7 (.cells #[.int .i64 (x-y),.int .i64 (-z)] 3);have g0:=Ab (o:=0) EC rfl;have g1:=Ab (o:=1) EC rfl;clear EC)|((with_reducible refine(PC w7.heap.size 0 _ g0 g1).mono ?_);rintro e w8 ⟨rfl,AE⟩;have X8:Aa V w8:=(X7.alloc _).trans AE))
 go_wp2;go_ret;exact⟨rfl,hE.trans X8⟩
section
open Go.Sort Go.Shelf
structure S7(p:Pt)(l:List Pt):Prop where
 sz:∀q∈l,Aq 200 q
 ne:∀q∈l,q≠p
 ap:∀a∈l,∀b∈l,Eh p a b=0→a=b
abbrev Kx(l:List Pt):={q:Pt // q∈l}
def GR(p:Pt)(l:List Pt):List Pt:=l.mergeSort (fun a b=>!decide (Eh p b a<0))
theorem ZZ(p:Pt)(l:List Pt):(GR p l).Perm l:=List.mergeSort_perm _ _
def OE(p:Pt)(l:List Pt)(a b:Kx l):Int:=Eh p a.1 b.1
theorem SZ{p:Pt}{l:List Pt}(x y:Kx l):ltOf (OE p l) x y=decide (Eh p x.1 y.1<0):=rfl
theorem AfG(p a:Pt):Eh p a a=0:=(vF p a a).2 ⟨rfl,Aev p a⟩
theorem AnR(q:Rat):AN (-q) = -AN q:=by unfold AN;grind
theorem AfF(p a b:Pt):Eh p b a = -Eh p a b:=by
 unfold Eh;rw [dF,AnR]
 split<;>split<;>omega
theorem vG{p:Pt}{l:List Pt}(h:S7 p l):SWO (ltOf (OE p l)) where
 irrefl x:=by rw [SZ,decide_eq_false_iff_not,AfG];omega
 trans x y z h1 h2:=by rw [SZ,decide_eq_true_iff]at *;exact AfL (h.ne _ x.2) (h.ne _ y.2) (h.ne _ z.2) h1 h2
 ntrans x y z h1 h2:=by rw [SZ,decide_eq_false_iff_not]at *;exact AfJ (h.ne _ x.2) (h.ne _ y.2) (h.ne _ z.2) h1 h2
theorem AfK{p:Pt}{l:List Pt}(h:S7 p l)(x y:Kx l)(h1:ltOf (OE p l) x y=false)(h2:ltOf (OE p l) y x=false):x=y:=by
 rw [SZ,decide_eq_false_iff_not]at h1 h2;have:=AfF p x.1 y.1;exact Subtype.ext (h.ap _ x.2 _ y.2 (by omega))
def Nb{l:List Pt}(q:Kx l):List Value:=[S (R q.1.x),S (R q.1.y)]
theorem eD{l:List Pt}(q:Kx l):(Nb q).length=2:=rfl
theorem Agr{l:List Pt}(q:Kx l):∀v∈Nb q,v.oneCell'=true:=by
 intro v hv;simp only [Nb,List.mem_cons,Asr,or_false]at hv
 rcases hv with rfl|rfl<;>rfl
theorem vS{l:List Pt}(m:List (Kx l)):m.flatMap Nb=flat (AI (m.map (·.1))):=by
 induction m with
 | nil=>rfl
 | cons x m ih=>
  rw [List.flatMap_cons,ih]
  rfl
theorem AfI{p:Pt}{l:List Pt}(h:S7 p l)(hp:Aq 200 p)[Inhabited (Kx l)]{w0 w:World}(hw:Ai w0)(hx:Aa w0 w){blk bp:Nat}(hb:w0.heap.size<=blk)(AS:w.heap[bp]?=some (.cells #[S (R p.x),S (R p.y)] 35))(hne:bp≠blk)(off size:Nat) :
  CmpLays Tryz.prog 193 #[.pointer (some ⟨bp,0,none⟩)] Nb 2 (OE p l) blk off size w:=by
 refine vu fun W hg x y=>?_;have hbW:=(hg.block bp (Asd AS) (by intro e;cases e;exact hne rfl)).trans AS;exact Aoa p x.1 y.1 hp (h.sz _ x.2) (h.sz _ y.2) (by omega) (by omega) W (hw.ext (Xi hx hg hb)) bp hbW
theorem Aob{p:Pt}{l:List Pt}(h:S7 p l)(hp:Aq 200 p)(hl:l≠[])(hlen:l.length<100000){w0 w:World}(hw:Ai w0)(hx:Aa w0 w){v:Value}(hv:w.ownsRow w0.heap.size 35 2 v l.length (flat (AI l)))
  {bp:Nat} (AS:w.heap[bp]?=some (.cells #[S (R p.x),S (R p.y)] 35)) (hne:v.ownBlock≠some bp) :
  Calls Tryz.prog 192 #[v,.func (.func 193) #[] #[.pointer (some ⟨bp,0,none⟩)]] w fun e w'=>
   e=.returned (.tuple #[])/\w.grownBy w' v.ownBlock/\w'.ownsRow w0.heap.size 35 2 v l.length (flat (AI (GR p l))):=by
 obtain⟨q0,Bn⟩:=List.exists_mem_of_ne_nil l hl
 haveI:Inhabited (Kx l):=⟨⟨q0,Bn⟩⟩
 obtain⟨d,hd⟩:=AcG (l.attach.toArray:Array (Kx l));have LY:d.size=l.length:=(by rw [hd];simp);have KJ:d.toList.map (·.1)=l:=by rw [hd];simp
 have hv':w.ownsRow w0.heap.size 35 2 v d.size (d.toList.flatMap Nb):=by rw [vS,KJ,LY];exact hv
 have Fu:0<d.size:=(by rw [LY];exact List.length_pos_iff.2 hl);obtain⟨g,cap,rfl,hgb,Yk,hH,hown⟩:=l9 eD (by omega) hv' Fu;have eg:∀args w,(callFunc 193 args).run Tryz.prog w=.ok (.enter 193 args) w:=enters_of Tryz.func193 (by kernel_rfl) rfl;have hbg:bp≠g:=(by intro e;rw [e]at hne;exact hne rfl);refine(AnyQ.slices_SortFunc Tryz.laysSortPt 2 Tryz.isAgg35 Tryz.sizeOf35 Nb eD Agr (OE p l) (vG h) 193 #[.pointer (some ⟨bp,0,none⟩)] g 0 cap d w eg (AfI h hp hw hx hgb AS hbg 0 d.size) hH Yk (by omega)).mono ?_;rintro e w' ⟨he,d',n,os,h1,h2,rfl⟩;have hu:=sorted_unique_holds (lt:=ltOf (OE p l)) (vG h) (AfK h) d d' h1 h2;have hsz:d'.size=d.size:=(by have:=congrArg List.length hu;simpa using this);refine⟨he,Xp Nb 2 w g 0 n d' os,?_⟩;have ho:=nJ (eD (l:=l)) (by omega) hv' hsz n os;rw [vS]at ho
 have hm:d'.toList.map (·.1)=GR p l:=by rw [hu];unfold GR;rw [List.map_mergeSort (s:=fun a b=>!decide (Eh p b a<0)) (fun a _ b _=>by rw [SZ]),KJ]
 rw [hm,LY]at ho;rw [LY];exact ho
end
section
open Go.ChangeMaps (setBlock)
def IP(R0:List (Pt×List Pt))(seen:List Nat):List (Pt×List Pt):=R0.mapIdx fun i e=>if i∈seen then (e.1,GR e.1 e.2)else e
theorem PL(R0:List (Pt×List Pt))(seen:List Nat):(IP R0 seen).length=R0.length:=by simp [IP]
theorem RQ(R0:List (Pt×List Pt))(seen:List Nat){i:Nat}(h:i<R0.length)(h':i<(IP R0 seen).length):(IP R0 seen)[i]=if i∈seen then (R0[i].1,GR R0[i].1 R0[i].2)else R0[i]:=by
 simp [IP]
theorem An5(R0:List (Pt×List Pt)):IP R0 []=R0:=by
 apply List.ext_getElem
 ·exact PL _ _
 ·intro i h1 h2;rw [RQ R0 [] h2 h1,if_neg (by simp)]
theorem An4(R0:List (Pt×List Pt)){seen:List Nat}(h:∀i,i<R0.length→i∈seen):IP R0 seen=R0.map (fun e=>(e.1,GR e.1 e.2)):=by
 apply List.ext_getElem
 ·rw [PL];simp
 ·intro i h1 h2;have h3:i<R0.length:=(by simpa using h2);rw [RQ R0 seen h3 h1,if_pos (h i h3)];simp
theorem An6(R0:List (Pt×List Pt))(seen:List Nat){i:Nat}(hi:i<R0.length)(hn:i∉seen)(h':i<(IP R0 seen).length):IP R0 (seen ++ [i])=(IP R0 seen).set i ((IP R0 seen)[i].1,GR R0[i].1 R0[i].2):=by
 apply List.ext_getElem
 ·rw [List.length_set,PL,PL]
 ·intro j h1 h2;have hj:j<R0.length:=(by rw [PL]at h1;exact h1);rw [RQ R0 _ hj h1];by_cases BM:i=j
  ·subst BM;rw [List.getElem_set_self,RQ R0 seen hj h',if_pos (by simp),if_neg hn]
  ·rw [List.getElem_set_ne BM,RQ R0 seen hj (by rw [PL];exact hj)];have:j∈seen ++ [i]↔j∈seen:=(by simp;intro e;exact absurd e.symm BM);simp only [this]
theorem Cl.other{B:Nat}{W W':World}{r b1 b2:Nat}{L:List (Sg×Int)}{E:List (Pt×Value×Nat)}{R0:List (Pt×List Pt)}(h:Cl B W r b1 b2 L E R0){k:Nat}{o:Obj}(hg:W.grownBy W' (some k))(ho:W.heap[k]?=some o)
  (hc:∀cs e,o≠.cells cs e (0,0)) (hm:∀es c,o≠.map es c):Cl B W' r b1 b2 L E R0:=by
 have far:∀(j:Nat) (o':Obj),W.heap[j]?=some o'→o'≠o→W'.heap[j]?=some o':=by intro j o' hj hne;refine(hg.block j (Asd hj) ?_).trans hj;intro e;simp only [Asj]at e;subst e;rw [hj]at ho;simp only [Asj]at ho;exact hne ho
 refine⟨far _ _ h.cell (fun e=>hc _ _ e.symm),far _ _ h.left (fun e=>hm _ _ e.symm),⟨far _ _ h.ar.blk (fun e=>hm _ _ e.symm),h.ar.len,fun i hi hi'=>⟨(h.ar.row i hi hi').1,(h.ar.row i hi hi').2.1,(h.ar.row i hi hi').2.2.kept hg ?_⟩,h.ar.apart,h.ar.own⟩,h.r0,h.r1,h.ne⟩
 rcases(h.ar.row i hi hi').2.2.2 with⟨hv,_⟩|⟨g,cap,cur,hv,_,hgb,_⟩
 ·left;rw [hv];rfl
 ·right
  rw [hv];simp only [Value.ownBlock,ne_eq,Asj];intro e;subst e;rw [hgb]at ho;simp only [Asj]at ho;exact hc _ _ ho.symm
theorem Cl.sorted{B:Nat}{W W':World}{r b1 b2:Nat}{L:List (Sg×Int)}{E:List (Pt×Value×Nat)}{R0:List (Pt×List Pt)}(h:Cl B W r b1 b2 L E R0){i:Nat}(hi:i<E.length)(hi':i<R0.length){l':List Pt}(hl:l'.length=R0[i].2.length)
  (hg:W.grownBy W' E[i].2.1.ownBlock) (ho:W'.ownsRow B 35 2 E[i].2.1 R0[i].2.length (flat (AI l'))):Cl B W' r b1 b2 L E (R0.set i (R0[i].1,l')):=by
 have far:∀(j:Nat) (o':Obj),W.heap[j]?=some o'→(∀cs,o'≠.cells cs 35 (0,0))→W'.heap[j]?=some o':=by
  intro j o' hj hne;refine(hg.block j (Asd hj) ?_).trans hj;intro e
  rcases(h.ar.row i hi hi').2.2.2 with⟨hv,_⟩|⟨g,cap,cur,hv,_,hgb,_⟩
  ·rw [hv]at e;simp [Value.ownBlock]at e
  ·rw [hv]at e;simp only [Value.ownBlock,Asj]at e;subst e;rw [hgb]at hj;simp only [Asj]at hj;exact hne _ hj.symm
 refine⟨far _ _ h.cell (fun cs e=>by cases e),far _ _ h.left (fun cs e=>by cases e),⟨far _ _ h.ar.blk (fun cs e=>by cases e),by rw [List.length_set];exact h.ar.len,fun j hj hj'=>?_,h.ar.apart,h.ar.own⟩,h.r0,h.r1,h.ne⟩;have Mc:j<R0.length:=(by rw [List.length_set]at hj';exact hj');by_cases BM:i=j
 ·subst BM;rw [List.getElem_set_self];refine⟨(h.ar.row i hi hi').1,(h.ar.row i hi hi').2.1,?_⟩;simp only [hl];exact ho
 ·rw [List.getElem_set_ne BM];exact⟨(h.ar.row j hj Mc).1,(h.ar.row j hj Mc).2.1,(h.ar.row j hj Mc).2.2.kept hg (h.ar.apart j i hj hi (fun e=>BM e.symm))⟩
structure rX(R0:List (Pt×List Pt)):Prop where
 row:∀e∈R0,S7 e.1 e.2
 sz:∀e∈R0,Aq 200 e.1
 ne:∀e∈R0,e.2≠[]
 len:∀e∈R0,e.2.length<100000
theorem BU.iter{b2:Nat}{w a b:World}{it:Nat}(h:BU b2 w a)(hg:a.grownBy b (some it))(hi:w.heap.size<=it):BU b2 w b:=by
 refine⟨Asq h.1 hg.size,fun k o h1 h2 h3=>?_⟩;have h4:=h.2 k o h1 h2 h3;have:=Asd h1;exact(hg.block k (Asd h4) (by simp;omega)).trans h4
theorem BU.row{b2:Nat}{w a b:World}{v:Value}{B n:Nat}{xs:List Value}(h:BU b2 w a)(hg:a.grownBy b v.ownBlock)(ho:a.ownsRow B 35 2 v n xs):BU b2 w b:=by
 refine⟨Asq h.1 hg.size,fun k o h1 h2 h3=>?_⟩;have h4:=h.2 k o h1 h2 h3;refine(hg.block k (Asd h4) ?_).trans h4;intro e
 rcases ho.2 with⟨hv,_⟩|⟨g,cap,cur,hv,_,hgb,_⟩
 ·rw [hv]at e;simp [Value.ownBlock]at e
 ·rw [hv]at e;simp only [Value.ownBlock,Asj]at e;subst e;rw [hgb]at h4;simp only [Asj]at h4;exact h3 _ h4.symm
theorem AnN{n:Nat}{seen:List Nat}(IA:seen.Nodup)(hlt:∀i∈seen,i<n)(hlen:seen.length=n):∀i,i<n→i∈seen:=by
 intro i hi;refine Classical.byContradiction fun hn=>?_;have h1:(i::seen).Nodup:=List.nodup_cons.2 ⟨hn,IA⟩
 have h2:(i::seen) ⊆ List.range n:=by
  intro j hj
  rcases List.mem_cons.1 hj with rfl|hj
  ·simpa using hi
  ·simpa using hlt j hj
 have:=h1.length_le_of_subset h2;simp at this;omega
theorem sort_c{w0 w:World}(hw:Ai w0)(hx:Aa w0 w){r b1 b2:Nat}{L:List (Sg×Int)}{E:List (Pt×Value×Nat)}{R0:List (Pt×List Pt)}(h:Cl w0.heap.size w r b1 b2 L E R0)(hR:rX R0) :
  Calls Tryz.prog 123 #[.pointer (some ⟨r,0,none⟩)] w fun e w'=>e=.returned (.tuple #[])/\Aa w0 w'/\BU b2 w w'/\Cl w0.heap.size w' r b1 b2 L E (R0.map (fun e=>(e.1,GR e.1 e.2))):=by
 have n1:=Ab (o:=1) h.cell rfl;obtain⟨hr1,hr2⟩:=F7.range (enc:=Ak) (E:=E) (t:=109) Tryz.underlying109 (W:=w) (b:=b2) h.ar.blk;have D9:=hx.alloc (.mapIter (some b2) E.length #[] E.length);have hS1:BU b2 w (w.alloc (.mapIter (some b2) E.length #[] E.length)):=BU.of_ext ((Aa.refl w).alloc _);have LP:=h.ext ((Aa.refl w).alloc (.mapIter (some b2) E.length #[] E.length));have HR:=Asb hR;have eW:=h.ar.len;have hst:∀i (h':i<E.length),E[i].2.2=i:=fun i hi=>(h.ar.row i hi (by rw [←eW];exact hi)).2.1;have hit:w.heap.size<=w.heap.size:=Asf _;have hB:=hx.size;have hlt2:=h.ar.lt;have HST:=Asb hst;have aX:=Asb eW;clear hst hR eW;go_enter Tryz.func123,Tryz.ntmps123
 go_upto_region 1 with fail
 generalize w.alloc (.mapIter (some b2) E.length #[] E.length)=V at *;obtain⟨it,iz⟩:=AcG w.heap.size;have Ai5:w.heap.size<=it:=(by omega);rw [←iz]at hr2 ⊢;clear hr1 iz hit h n1
 go_loopw [3] (fun _ wr=>∃(seen:List Nat),F7 wr it b2 E seen/\Aa w0 wr/\BU b2 w wr/\Cl w0.heap.size wr r b1 b2 L E (IP R0 seen)) (fun _ wr=>E.length-(wr.iterSeen it).size)
 case atStart=>exact⟨[],hr2,D9,hS1,by rw [An5];exact LP⟩
 case round=>
  obtain⟨seen,hI,FG,fO,Q4⟩:=hrel
  rcases F7.next Ak hI Q4.ar.blk HST.out (by omega) 0 with⟨hlen,hrun⟩|⟨i,hi,KV,W1,hI1,hG1,hs1,hrun,hen⟩
  ·have hall:=An4 R0 (AnN hI.nd (by rw [←aX.out];exact hI.lt) (by rw [←aX.out];exact hlen));rw [hall]at Q4;have HN:=Asb Q4;clear Q4 hI;go_wp2
   go_end0
   exact⟨rfl,FG,fO,HN.out⟩
  ·have Mb:i<R0.length:=(by rw [←aX.out];exact hi);have Ym:i<(IP R0 seen).length:=(by rw [PL];exact Mb);have Gv:=IG hI
   have hlen':seen.length<E.length:=by
    have h2:(i::seen) ⊆ List.range E.length:=by
     intro j hj
     rcases List.mem_cons.1 hj with rfl|hj
     ·simpa using hi
     ·simpa using hI.lt j hj
    have:=(List.nodup_cons.2 ⟨KV,hI.nd⟩).length_le_of_subset h2;simp at this;omega
   have Cs:Aa w0 W1:=Xi FG hG1 (by omega);have yO:=fO.iter hG1 Ai5;have OQ:=Q4.other hG1 hI.it (fun _ _ e=>by cases e) (fun _ _ e=>by cases e);have KO:=hen W1 rfl rfl;have hrow:=OQ.ar.row i hi Ym;have Db:=RQ R0 seen Mb Ym;rw [if_neg KV]at Db;have hkey:E[i].1=R0[i].1:=(by rw [hrow.1,Db]);have hown:=hrow.2.2;rw [Db]at hown;have Au:=HR.out.row R0[i] (Asg Mb);have Uz:=HR.out.sz R0[i] (Asg Mb);have FT:=HR.out.ne R0[i] (Asg Mb);have EX:=HR.out.len R0[i] (Asg Mb);have Cp:=An6 R0 seen Mb KV Ym;obtain⟨v,hv⟩:=AcG (E[i].2.1);obtain⟨p,hp⟩:=AcG (R0[i].1);obtain⟨l,hl⟩:=AcG (R0[i].2);rw [hkey,←hp,←hv]at KO;rw [hkey,←hp,←hv]at hrun;rw [←hv,←hl]at hown;rw [←hp,←hl]at Au Cp;rw [←hp]at Uz;rw [←hl]at FT EX;have Jn:=Ase W1 (.cells #[S (R p.x),S (R p.y)] 35);have E3:=(Aa.refl W1).alloc (.cells #[S (R p.x),S (R p.y)] 35);have Ek:=Cs.trans E3;have fM:=yO.trans (BU.of_ext E3);have Tu:=OQ.ext E3;have Ts:=hI1.keep (E3.block it (Asd hI1.it))
   have Ft:(W1.alloc (.cells #[S (R p.x),S (R p.y)] 35)).ownsRow w0.heap.size 35 2 v l.length (flat (AI l)):=hown.kept (JK E3 none) (by
    rcases hv':v.ownBlock with _|g
    ·exact .inl rfl
    ·exact .inr (by simp))
   have Y0:v.ownBlock≠some W1.heap.size:=by
    rcases hown.2 with⟨e,_⟩|⟨g,cap,cur,e,_,hgb,_⟩
    ·rw [e];simp [Value.ownBlock]
    ·rw [e];have:=Asd hgb;simp only [Value.ownBlock,ne_eq,Asj];omega
   have cs:=Aob Au Uz FT EX hw Ek Ft Jn Y0;have HV:=Asb hv;have HL:=Asb (And.intro hl Db);have F6:=Asb Cp;clear hen hrow hkey hown Au Uz FT EX Jn OQ Cs yO Q4 FG fO hI hI1 hv hp hl Db Cp hG1 E3;unfold Ak at KO hrun
   go_upto_region 3 with fail
   unfold S at Ek fM Tu Ts Ft cs;rw [hs1]at cs;generalize (W1.alloc (.cells #[.string ⟨(R p.x).toArray⟩,.string ⟨(R p.y).toArray⟩] 35))=W3 at *;(go_wp2_with fail);(with_reducible refine cs.mono ?_);rintro e W4 ⟨rfl,hg4,Dw⟩
   have H5:=Ts.keep (hg4.block it (Asd Ts.it) (by
    intro e
    rcases Ft.2 with⟨e2,_⟩|⟨g,cap,cur,e2,_,hgb,_⟩
    ·rw [e2]at e;simp [Value.ownBlock]at e
    ·rw [e2]at e;simp only [Value.ownBlock,Asj]at e;subst e;have:=Ts.it;rw [hgb]at this
     cases this))
   have Dv:Aa w0 W4:=Ek.grownOwn hg4 Ft (Asf _);have hS4:=fM.row hg4 Ft;have fG:=Tu.sorted hi Ym (l':=GR p l) (by rw [HL.out.2,←HL.out.1];exact(ZZ p l).length_eq) (by rw [←HV.out];exact hg4) (by rw [←HV.out,HL.out.2,←HL.out.1];exact Dw);rw [←F6.out]at fG;have HN4:=Asb fG;clear fG Tu Ft Dw hg4 cs Ts Ek fM;go_wp2;go_roundw
   case rel=>exact⟨seen ++ [i],H5,Dv,hS4,HN4.out⟩
   case measure=>rw [Gv,IG H5,List.length_append,List.length_singleton];omega
end
end Go.Proofs.YtdaefncphfeaeaaGreatDoor
