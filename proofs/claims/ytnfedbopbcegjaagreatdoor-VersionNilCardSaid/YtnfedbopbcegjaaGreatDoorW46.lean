/- W46. -/
import Derived.Test.YtnfedbopbcegjaaGreatDoorW45
set_option maxRecDepth 100000
set_option maxHeartbeats 8000000
namespace Go.Proofs
open Go.Shelf
def Tryz.lays212_ren:Go.Shelf.Ren:=⟨fun|212=>177|263=>224|264=>225|n=>n,fun|46=>173|51=>259|146=>307|53=>261|148=>309|n=>n,fun|n=>n⟩
theorem Tryz.lays212:Go.Proofs.Lays.n212 Tryz.prog Tryz.lays212_ren:={
 mixed:=by kernel_rfl
 f212:=Tryz.func177.trans (congrArg some (by kernel_rfl))
 f263:=Tryz.func224.trans (congrArg some (by kernel_rfl))
 f264:=Tryz.func225.trans (congrArg some (by kernel_rfl))
 t46:=Tryz.underlying173
 a46:=Tryz.isAgg173
 z46:=Tryz.sizeOf173
 v46:=Tryz.zeroValue173
 t51:=Tryz.underlying259
 a51:=Tryz.isAgg259
 z51:=Tryz.sizeOf259
 v51:=Tryz.zeroValue259
 t53:=Tryz.underlying261
 a53:=Tryz.isAgg261
 z53:=Tryz.sizeOf261
 v53:=Tryz.zeroValue261
 t146:=Tryz.underlying307
 a146:=Tryz.isAgg307
 z146:=Tryz.sizeOf307
 v146:=Tryz.zeroValue307
 t148:=Tryz.underlying309
 a148:=Tryz.isAgg309
 z148:=Tryz.sizeOf309
 v148:=Tryz.zeroValue309}
open Go.RowKit Go.Lib in
theorem Tryz.bits_Mul(x y:Nat)(hx:x<18446744073709551616)(hy:y<18446744073709551616)(w:World) :
  Calls Tryz.prog 177 #[.int .u64 x,.int .u64 y] w fun e w'=>e=.returned (.tuple #[.int .u64 ((x*y/18446744073709551616:Nat):Int),.int .u64 ((x*y%18446744073709551616:Nat):Int)])/\w'=w:=Any.bits_Mul Tryz.lays212 x y hx hy w
end Go.Proofs
namespace Go.Proofs.YtnfedbopbcegjaaGreatDoor
open Go.RowKit Kl
theorem Tryz.infoQ1:(Tryz.prog.info? 26).map (fun i=>(i.zero,i.size,i.bytes))=some (some (S []),1,16):=by kernel_rfl
theorem yG(w:World)(ty:TypeId)(g o iR xy:Nat)(a:Addr)(yK Agw:Nat)(cur:Array Value)(t:TypeId)(x:Value)
  (hg:w.heap[g]?=some (.cells cur t (0,0))) (hk:Nat.min yK iR=1)
  (AcF:w.cell? a=some x) (AbV:o+1<=cur.size) (h1:x.oneCell'=true) :
  (Builtin.copy_ #[96,96] ty #[.slice (some ⟨g,o,none⟩) iR xy,.slice (some a) yK Agw]).run Tryz.prog w =
   .ok (.int .i64 1) (w.setRow g (cur.toList.take o ++ [x]++cur.toList.drop (o+1)).toArray):=by
 obtain⟨i0,hi,hz0,hz1,hz2⟩:=info_parts Tryz.infoQ1
 have hl:=run_loadCells_list (P:=Tryz.prog) w a [x] (fun j v hv=>by
  cases j with
  | zero=>simp at hv;subst hv;exact AcF
  | succ j=>simp at hv)
 have hst:=run_storeCells_at Tryz.prog g o t [x] 0 cur w hg (by simpa using AbV) (by simpa using h1);simp only [List.length_cons,List.length_nil,Nat.zero_add]at hl hst;simp [Builtin.copy_,run_underlying Tryz.underlying96,Builtin.lenOf,Builtin.firstCells,sizeOf,typeInfo,hi,hz1,hk,hl,hst,goInt]
theorem Aeo(W:World) :
  (Instr.makeSlice 96 (.int .i64 2) (.int .i64 2)).run Tryz.prog W=.ok (.slice (some ⟨W.heap.size,0,none⟩) 2 2) (W.alloc (.cells #[S [],S []] 26)):=by
 obtain⟨i0,hi,hz0,hz1,hz2⟩:=info_parts Tryz.infoQ1;have h:=run_make (P:=Tryz.prog) W 96 26 i0 (S []) Tryz.underlying96 hi hz0 .i64 .i64 2 2 (by omega) (by omega) (by rw [hz2];omega) (by omega);rw [hz1,show madeCells (S []).cells (Int.toNat 2*1)=#[S [],S []] by kernel_rfl]at h;exact h
theorem jK{w0 w:World}{g:Nat}(h:Aa w0 w)(hg:w0.heap.size<=g)(cs:Array Value):Aa w0 (w.setRow g cs):=
 Below.trans h ⟨rfl,rfl,rfl,by simp [World.setRow],fun k hk=>setRow_other w g k cs (by omega)⟩
theorem Agf(x:Bs)(A:Option Addr)(c:Nat)(w:World)(hr:Ad w A [S x]) :
  Calls Tryz.prog 98 #[.slice A 1 c,.int .i64 2] w (fun e w'=>∃b,w.heap.size<=b/\e=.returned (.slice (some ⟨b,0,none⟩) 2 2)/\w'.heap[b]?=some (.cells #[S x,S x] 26 (0,0))/\Aa w w'):=by
 obtain⟨ba,oa,rfl,AO⟩:=hr.ad (by simp);have a0:=AO 0 (by simp);simp only [List.getElem_cons_zero,Nat.add_zero]at a0;have fS:Calls Tryz.prog 177 #[.int .u64 1,.int .u64 2] w fun e w'=>e=.returned (.tuple #[.int .u64 0,.int .u64 2])/\w'=w:=Tryz.bits_Mul 1 2 (by omega) (by omega) w;have mk:=Aeo w;have hV:=AjM w (.cells #[S [],S []] 26);have hE:=(Aa.refl w).alloc (.cells #[S [],S []] 26);have M8:=fun ty=>yG (w.alloc (.cells #[S [],S []] 26)) ty w.heap.size 0 2 2 ⟨ba,oa,none⟩ 1 c _ _ (S x) hV rfl (hE.cellS a0) (by simp) rfl;simp only [List.take_zero,List.nil_append,List.cons_append,List.drop_succ_cons,List.drop_zero,Nat.zero_add]at M8;obtain⟨b,hb⟩:=AjJ w.heap.size;have hgb:w.heap.size<=b:=Nat.le_of_eq hb.symm;rw [←hb]at mk hV M8;clear AO hr hb;go_enter Tryz.func98,Tryz.ntmps98;(go_wp2_with fail);(with_reducible refine fS.mono ?_);rintro e w1 ⟨rfl,rfl⟩;have BA:=jK hE hgb #[S x,S []];have hR:=setRow_heap _ b _ #[S x,S []] _ _ hV;go_wp2
 go_loopw [8] (fun s wr=>(s=.int .i64 1/\wr.heap[b]?=some (.cells #[S x,S []] 26 (0,0))/\Aa w1 wr)∨(s=.int .i64 2/\wr.heap[b]?=some (.cells #[S x,S x] 26 (0,0))/\Aa w1 wr)) (fun s _=>2-(intOf s).toNat)
 case atStart=>exact .inl ⟨rfl,hR,BA⟩
 case round=>
  clear hV hE M8 BA hR mk fS
  rcases hrel with⟨rfl,hW,hE⟩|⟨rfl,hW,hE⟩
  ·have M8:=fun ty=>yG wr.drew ty b 1 1 1 ⟨b,0,none⟩ 1 2 _ _ (S x) hW rfl (Ab (W:=wr.drew) hW rfl) (by simp) rfl;simp only [List.take_succ_cons,List.take_zero,List.nil_append,List.cons_append,List.drop_succ_cons,List.drop_nil,Nat.reduceAdd]at M8;have hR:=setRow_heap wr.drew b _ #[S x,S x] _ _ hW;have BA:=jK hE.drew hgb #[S x,S x];clear hW;go_wp2
   go_region
   all_goals go_wp2
   all_goals go_roundw
   all_goals first
    | exact .inr ⟨by go_num,hR,BA⟩
    | (simp [intOf])
  ·go_wp2;go_ret;exact⟨b,hgb,rfl,hW,hE⟩
def bO(e:Sg×Int):Bool:=LS e.1.a&&(LS e.1.b&&(decide ((e.1.a.x*e.1.b.y).num.natAbs<10^2)&&(decide ((e.1.a.x*e.1.b.y).den<10^2)&&(decide ((e.1.a.y*e.1.b.x).num.natAbs<10^2)&&(decide ((e.1.a.y*e.1.b.x).den<10^2)&&(decide ((e.1.a.x*e.1.b.y-e.1.a.y*e.1.b.x).num.natAbs<10^2)&&(decide ((e.1.a.x*e.1.b.y-e.1.a.y*e.1.b.x).den<10^2)&&decide (e.2<2))))))))
theorem AhD:(AN Af.pts Af.eds).all bO=true:=by decide +kernel
theorem zj:LX Af.pts Af.eds:=by
 have h:=vp;unfold Mk at h;simp only [Bool.and_eq_true,decide_eq_true_eq]at h;exact SC h.2.1 h.2.2.1
theorem zF{l:List Rat}(h:Mg 6 l){i:Nat}(hi:i<l.length):Sz 2 l[i]:=by
 obtain⟨z,e,hz⟩:=h l[i] (AjO hi);rw [e];exact⟨by simp;omega,by simp⟩
abbrev Kq(L:List (Sg×Int))(seen:List Nat):List (Sg×Int):=seen.filterMap (fun i=>L[i]?)
theorem yP(L:List (Sg×Int)){seen:List Nat}(Ca:seen.Nodup)(hlt:∀i∈seen,i<L.length):∃M:List (Sg×Int),M.Perm L/\M.take seen.length=Kq L seen:=by
 have hp:(seen++(List.range L.length).filter (fun i=>!seen.contains i)).Perm (List.range L.length):=by
  rw [List.perm_iff_count];intro i;rw [List.count_append,Ca.count,(show ((List.range L.length).filter (fun i=>!seen.contains i)).Nodup from List.nodup_range.filter _).count,(List.nodup_range (n:=L.length)).count];by_cases h1:i∈seen
  ·have:=hlt i h1;simp [h1,this]
  ·simp [h1]
 have hl:(Kq L seen).length=seen.length:=by
  clear hp Ca
  induction seen with
  | nil=>rfl
  | cons a s ih=>have ha:=hlt a (by simp);simp only [Kq,List.filterMap_cons,AjS ha,List.length_cons]at ih ⊢;rw [ih (fun i hi=>hlt i (by simp [hi]))]
 refine⟨_,(hp.filterMap (fun i=>L[i]?)).trans (by rw [aF]),?_⟩;rw [List.filterMap_append,List.take_append_of_le_length (Nat.le_of_eq hl.symm),AjV (Nat.le_of_eq hl)]
theorem Ag3(L:List (Sg×Int)){seen:List Nat}(Ca:seen.Nodup)(hlt:∀i∈seen,i<L.length)(hlen:seen.length=L.length):(Kq L seen).Perm L:=by
 obtain⟨M,hM,ht⟩:=yP L Ca hlt;rw [←ht,hlen,AjV (by rw [hM.length_eq];exact AjN _)];exact hM
theorem qx(A B F:Option Addr)(c d g:Nat)(w:World)(hw:Ak w)(A7:Cf Af c d g)(hA:Ad w A (flat (Aq Af.pts)))(hB:Ad w B (AA Af.eds)) :
  Calls Tryz.prog 55 #[AE A B F Af c d g] w (fun e w'=>∃b,e=.returned (.slice (some ⟨b,0,none⟩) 2 2)/\w'.heap[b]?=some (.cells #[S (R 2),S (R 2)] 26 (0,0))/\Aa w w'):=by
 have hM:=AjM w (.cells #[.slice A Af.pts.length c,.slice B Af.eds.length d,.slice F 2 g] 44);have hE:=(Aa.refl w).alloc (.cells #[.slice A Af.pts.length c,.slice B Af.eds.length d,.slice F 2 g] 44);have oc:=fun W (hx:Aa w W)=>UI Af A B F c d g A7 zj (by decide) W (hA.ext hx) (hB.ext hx);unfold AE at oc;show Calls Tryz.prog 55 #[.agg #[.slice A Af.pts.length c,.slice B Af.eds.length d,.slice F 2 g]] w _;replace oc:∀W,Aa w W→Calls Tryz.prog 71 #[.agg #[.slice A Af.pts.length c,.slice B Af.eds.length d,.slice F 2 g]] W (fun e w'=>∃r b1 b2 E,e=.returned (.pointer (some ⟨r,0,none⟩))/\Aa W w'/\Bn W.heap.size w' r b1 b2 (AN Af.pts Af.eds) E (Cw Af.pts Af.eds)):=oc;obtain⟨n47,Q6⟩:=AjJ Af.pts.length;obtain⟨n48,Q7⟩:=AjJ Af.eds.length;rw [←Q6,←Q7]at oc hM hE ⊢;clear A7 hA hB Q6 Q7;go_enter Tryz.func55,Tryz.ntmps55
 go_upto_region 1 with fail
 generalize w.alloc (.cells #[.slice A n47 c,.slice B n48 d,.slice F 2 g] 44)=V at *;obtain⟨bm,AX⟩:=AjJ w.heap.size;rw [←AX]at hM ⊢;clear AX;have e1:=(Aa.refl V).alloc (.cells #[S [48]] 26);have l1:=AjM V (.cells #[S [48]] 26);have k2:(V.alloc (.cells #[S [48]] 26)).cell? ⟨bm,2,none⟩=some (.slice F 2 g):=Ab ((e1.block _ (AjL hM)).trans hM) rfl;have rp:=Agf [48] (some ⟨V.heap.size,0,none⟩) 1 (V.alloc (.cells #[S [48]] 26)) (Ad.blk l1);(go_wp2_with fail);(with_reducible refine rp.mono ?_);rintro e w1 ⟨go,hgo,rfl,MC,hx1⟩;have B8:=e1.trans hx1;have Bi:=(B8.block _ (AjL hM)).trans hM;have q0:=Ab (o:=0) Bi rfl;have q1:=Ab (o:=1) Bi rfl;have q2:=Ab (o:=2) Bi rfl;have Bu:=hE.trans B8;have o1:=oc w1 Bu;have pI:w.heap.size<=go:=AjX (hE.trans e1).size hgo;clear rp oc k2 l1 e1 hx1 B8 Bi hM hgo hE;(go_wp2_with fail);(with_reducible refine o1.mono ?_);rintro e w2 ⟨rn,b1,b2,E,rfl,hx2,hN⟩;have Bd:=Bu.trans hx2;have Oc:=(hx2.block _ (AjL MC)).trans MC;have n1:=Ab (o:=0) hN.cell rfl;have M3:=hN.left;obtain⟨L,hL⟩:=AjJ (AN Af.pts Af.eds);have U4:∀e∈L,bO e=true:=(by rw [hL];exact List.all_eq_true.1 AhD);have HL:=AjK hL;rw [←hL]at M3;obtain⟨hr1,hr2⟩:=CE.range (enc:=Ax) (E:=stamp L) (t:=160) Tryz.underlying160 (W:=w2) (b:=b1) (by rw [CY];exact M3);have e3:=(Aa.refl w2).alloc (.mapIter (some b1) (stamp L).length #[] (stamp L).length);have pH:=(e3.block _ (AjL Oc)).trans Oc;have mJ:=(e3.block _ (AjL M3)).trans M3;have BB:=Bd.trans e3;have hrw:w.heap.size<=w2.heap.size:=Bd.size;have hgr:go<w2.heap.size:=AjL Oc;have hbr:b1<w2.heap.size:=AjL M3;have hgb:go≠b1:=fun e=>(by rw [e,M3]at Oc;cases Oc);clear o1 hN Bu Bd hx2 MC q0 q1 q2 hL M3 Oc e3
 go_upto_region 3 with fail
 clear hr1 n1;generalize w2.alloc (.mapIter (some b1) (stamp L).length #[] (stamp L).length)=V3 at *;obtain⟨r,hr⟩:=AjJ w2.heap.size;rw [←hr]at hr2 hrw hgr hbr ⊢;clear hr
 go_loopw [5] (fun _ wr=>∃(seen:List Nat) (a0 a1:Rat),CE wr r b1 (stamp L) seen/\[a0,a1]=(Kq L seen).foldl DD [0,0]/\wr.heap[go]?=some (.cells #[S (R a0),S (R a1)] 26 (0,0))/\wr.heap[b1]?=some (.map (Az Ax (stamp L)).toArray L.length)/\Aa w wr) (fun _ wr=>L.length-(wr.iterSeen r).size)
 case atStart=>exact⟨[],0,0,hr2,rfl,by rw [Fa];exact pH,mJ,BB⟩
 case round=>
  obtain⟨seen,a0,a1,hI,If,hgo,hb0,hX⟩:=hrel;have TB:=hb0;rw [←CY]at TB
  rcases CE.next Ax hI TB (aV L) (by omega) 0 with⟨hlen,hrun⟩|⟨i,hi,FM,W1,DL,hG1,hs1,hrun,hen⟩
  ·have hall:=Ag3 L hI.nd (fun i hi=>by have:=hI.lt i hi;rwa [CY]at this) (by rw [hlen,CY]);rw [HL.out]at hall;have h2:=qw hall;rw [HL.out]at If;rw [h2]at If;simp only [List.cons.injEq,and_true]at If;obtain⟨rfl,rfl⟩:=If;have HX:=AjK (And.intro hgo hX);clear hgo hX hall h2 hI hb0 TB;go_wp2;go_ret;exact⟨go,rfl,HX.out.1,HX.out.2⟩
  ·have Gn:i<L.length:=(by rw [CY]at hi;exact hi);rw [aW,aX]at hrun hen;have hlt:∀j∈seen,j<L.length:=fun j hj=>(by have:=hI.lt j hj;rwa [CY]at this);obtain⟨M,NG,kY⟩:=yP L hI.nd hlt
   have hsm:Mg 6 [a0,a1]:=by rw [If,←kY];exact Afh (by rw [←HL.out];exact NG) _
   have z0:Sz 2 a0:=zF hsm (i:=0) (by simp);have z1:Sz 2 a1:=zF hsm (i:=1) (by simp)
   have hstep:(Kq L (seen ++ [i])).foldl DD [0,0]=DD [a0,a1] L[i]:=by rw [If];simp [Kq,List.filterMap_append,AjS Gn,List.foldl_append]
   have hlen':seen.length<L.length:=by
    have h2:(i::seen) ⊆ List.range L.length:=by
     intro j hj
     rcases List.mem_cons.1 hj with rfl|hj
     ·simpa using Gn
     ·simpa using hlt j hj
    have:=(List.nodup_cons.2 ⟨FM,hI.nd⟩).length_le_of_subset h2;simp at this;omega
   have Dz:=Eo hI;have X1:Aa w W1:=N7 hX hG1 (by omega);have MC:=(hG1.block go (AjL hgo) (by simp;omega)).trans hgo;have hb1:=(hG1.block b1 (AjL hb0) (by simp;omega)).trans hb0;have Ej:=hen W1 rfl rfl;have Jb:=U4 _ (AjO Gn);obtain⟨s,hs⟩:=AjJ ((L[i]).1);obtain⟨z,hz⟩:=AjJ ((L[i]).2);have hsz:L[i]=(s,z):=(by rw [hs,hz]);rw [←hs,←hz]at Ej hrun;rw [hsz]at Jb hstep;have HST:=AjK hstep;have BX:=AjM W1 (.cells #[S (R s.a.x),S (R s.a.y),S (R s.b.x),S (R s.b.y)] 176);have E3:=(Aa.refl W1).alloc (.cells #[S (R s.a.x),S (R s.a.y),S (R s.b.x),S (R s.b.y)] 176);have Hx:=DL.keep (E3.block r (AjL DL.it));have Od:=(E3.block go (AjL MC)).trans MC;have hb3:=(E3.block b1 (AjL hb1)).trans hb1;have X3:=X1.trans E3;clear hen hs hz hb0 TB hG1 hI hgo hX If hsm NG kY hstep MC hb1 X1 E3 DL pH mJ BB hr2;unfold Ax at Ej hrun;unfold bO at Jb;simp only [Bool.and_eq_true,decide_eq_true_eq]at Jb;obtain⟨wa,wb,p1,p2,p3,p4,p5,p6,p7⟩:=Jb;have sa:=OM wa;have sb:=OM wb
   go_upto_region 5 with fail
   unfold S at BX Hx Od hb3 X3;rw [hs1]at BX;generalize (W1.alloc (.cells #[.string ⟨(R s.a.x).toArray⟩,.string ⟨(R s.a.y).toArray⟩,.string ⟨(R s.b.x).toArray⟩,.string ⟨(R s.b.y).toArray⟩] 176))=V4 at *;obtain⟨bs,Dp⟩:=AjJ wr.heap.size;rw [←Dp]at BX ⊢;clear hrun Ej hs1 Dp;have okV:=hw.ext X3;by_cases hz0:0<=z
   ·obtain⟨zn,rfl⟩:∃n:Nat,z=(n:Int):=⟨z.toNat,by omega⟩;have U5:zn<2:=(by omega);have hzi:((zn:Nat):Int)<2:=(by omega);have mA:=Kk s.a.x s.b.y (a:=1) (b:=1) ⟨sa.x,sb.y,by decide,by decide,by decide⟩;have mB:=Kk s.a.y s.b.x (a:=1) (b:=1) ⟨sa.y,sb.x,by decide,by decide,by decide⟩;have mC:=Fu (s.a.x*s.b.y) (s.a.y*s.b.x) (a:=2) (b:=2) ⟨⟨p1,p2⟩,⟨p3,p4⟩,by decide,by decide,by decide⟩;obtain⟨av,TA,hz2⟩:∃av,(if zn=0 then a0 else a1)=av/\Sz 2 av:=⟨_,rfl,by split<;>assumption⟩;have mD:=LP av (s.a.x*s.b.y-s.a.y*s.b.x) (a:=2) (b:=2) ⟨hz2,⟨p5,p6⟩,by decide,by decide,by decide⟩
    have gc:∀W:World,W.heap[go]?=some (.cells #[S (R a0),S (R a1)] 26 (0,0))→W.cell? ⟨go,zn,none⟩=some (S (R av)):=fun W h=>by
     rcases Nat.lt_or_ge zn 1 with h1|h1
     ·obtain rfl:zn=0:=(by omega);rw [←TA];exact Ab h rfl
     ·obtain rfl:zn=1:=(by omega);rw [←TA];exact Ab h rfl
    go_upto_region 6 with fail
    have X:Aa V4 V4.drew:=(Aa.refl V4).drew;have SO:=fun (w':World) (x:Aa V4 w')=>(⟨gc _ ((x.block _ (AjL Od)).trans Od),Ab ((x.block _ (AjL BX)).trans BX) rfl,Ab ((x.block _ (AjL BX)).trans BX) rfl,Ab ((x.block _ (AjL BX)).trans BX) rfl,Ab ((x.block _ (AjL BX)).trans BX) rfl⟩:w'.cell? ⟨go,zn,none⟩=some (S (R av))/\w'.cell? ⟨bs,0,none⟩=some (S (R s.a.x))/\w'.cell? ⟨bs,1,none⟩=some (S (R s.a.y))/\w'.cell? ⟨bs,2,none⟩=some (S (R s.b.x))/\w'.cell? ⟨bs,3,none⟩=some (S (R s.b.y)));have HZ:=AjK TA;clear gc TA;refine bV (T:=[23]) (S:=fun w'=>w'.cell? ⟨go,zn,none⟩=some (S (R av))/\w'.cell? ⟨bs,0,none⟩=some (S (R s.a.x))/\w'.cell? ⟨bs,1,none⟩=some (S (R s.a.y))/\w'.cell? ⟨bs,2,none⟩=some (S (R s.b.x))/\w'.cell? ⟨bs,3,none⟩=some (S (R s.b.y))) (by kernel_rfl) (SO V4.drew X) (fun hHeld=>?_);refine Bz (i:=0) (v:=?_) rfl (by kernel_rfl) (fun _ _ _ h=>h) hHeld (by rfl) ?_ ?_
    rotate_left
    ·(intro w hSw;(try dsimp only at hSw);go_simp;try (with_reducible rfl))
    try simp only [Act.put,List.setIfInBounds_toArray,List.set_cons_zero,List.set_cons_succ]
    refine Bz (i:=1) (v:=?_) rfl (by kernel_rfl) (fun _ _ _ h=>h) hHeld (by rfl) ?_ ?_
    rotate_left
    ·(intro w hSw;(try dsimp only at hSw);go_simp;try (with_reducible rfl))
    try simp only [Act.put,List.setIfInBounds_toArray,List.set_cons_zero,List.set_cons_succ]
    refine Bz (i:=2) (v:=?_) rfl (by kernel_rfl) (fun _ _ _ h=>h) hHeld (by rfl) ?_ ?_
    rotate_left
    ·(intro w hSw;(try dsimp only at hSw);go_simp;try (with_reducible rfl))
    try simp only [Act.put,List.setIfInBounds_toArray,List.set_cons_zero,List.set_cons_succ]
    refine Bz (i:=3) (v:=?_) rfl (by kernel_rfl) (fun _ _ _ h=>h) hHeld (by rfl) ?_ ?_
    rotate_left
    ·(intro w hSw;(try dsimp only at hSw);go_simp;try (with_reducible rfl))
    try simp only [Act.put,List.setIfInBounds_toArray,List.set_cons_zero,List.set_cons_succ]
    refine Bz (i:=4) (v:=?_) rfl (by kernel_rfl) (fun _ _ _ h=>h) hHeld (by rfl) ?_ ?_
    rotate_left
    ·(intro w hSw;(try dsimp only at hSw);go_simp;try (with_reducible rfl))
    try simp only [Act.put,List.setIfInBounds_toArray,List.set_cons_zero,List.set_cons_succ]
    refine Bz (i:=5) (v:=?_) rfl (by kernel_rfl) (fun _ _ _ h=>h) hHeld (by rfl) ?_ ?_
    rotate_left
    ·(intro w hSw;(try dsimp only at hSw);go_simp;try (with_reducible rfl))
    try simp only [Act.put,List.setIfInBounds_toArray,List.set_cons_zero,List.set_cons_succ]
    refine Bz (i:=6) (v:=?_) rfl (by kernel_rfl) (fun _ _ _ h=>h) hHeld (by rfl) ?_ ?_
    rotate_left
    ·(intro w hSw;(try dsimp only at hSw);go_simp;try (with_reducible rfl))
    try simp only [Act.put,List.setIfInBounds_toArray,List.set_cons_zero,List.set_cons_succ]
    refine Bz (i:=7) (v:=?_) rfl (by kernel_rfl) (fun _ _ _ h=>h) hHeld (by rfl) ?_ ?_
    rotate_left
    ·(intro w hSw;(try dsimp only at hSw);go_simp;try (with_reducible rfl))
    try simp only [Act.put,List.setIfInBounds_toArray,List.set_cons_zero,List.set_cons_succ]
    refine Bz (i:=8) (v:=?_) rfl (by kernel_rfl) (fun _ _ _ h=>h) hHeld (by rfl) ?_ ?_
    rotate_left
    ·(intro w hSw;(try dsimp only at hSw);go_simp;try (with_reducible rfl))
    try simp only [Act.put,List.setIfInBounds_toArray,List.set_cons_zero,List.set_cons_succ]
    refine Bz (i:=9) (v:=?_) rfl (by kernel_rfl) (fun _ _ _ h=>h) hHeld (by rfl) ?_ ?_
    rotate_left
    ·(intro w hSw;(try dsimp only at hSw);go_simp;try (with_reducible rfl))
    try simp only [Act.put,List.setIfInBounds_toArray,List.set_cons_zero,List.set_cons_succ]
    refine Bz (i:=10) (v:=?_) rfl (by kernel_rfl) (fun _ _ _ h=>h) hHeld (by rfl) ?_ ?_
    rotate_left
    ·(intro w hSw;(try dsimp only at hSw);go_simp;try (with_reducible rfl))
    try simp only [Act.put,List.setIfInBounds_toArray,List.set_cons_zero,List.set_cons_succ]
    refine Bz (i:=11) (v:=?_) rfl (by kernel_rfl) (fun _ _ _ h=>h) hHeld (by rfl) ?_ ?_
    rotate_left
    ·(intro w hSw;(try dsimp only at hSw);go_simp;try (with_reducible rfl))
    try simp only [Act.put,List.setIfInBounds_toArray,List.set_cons_zero,List.set_cons_succ]
    refine Bz (i:=13) (v:=?_) rfl (by kernel_rfl) (fun _ _ _ h=>h) hHeld (by rfl) ?_ ?_
    rotate_left
    ·(intro w hSw;(try dsimp only at hSw);go_simp;try (with_reducible rfl))
    try simp only [Act.put,List.setIfInBounds_toArray,List.set_cons_zero,List.set_cons_succ]
    refine Bz (i:=14) (v:=?_) rfl (by kernel_rfl) (fun _ _ _ h=>h) hHeld (by rfl) ?_ ?_
    rotate_left
    ·(intro w hSw;(try dsimp only at hSw);go_simp;try (with_reducible rfl))
    try simp only [Act.put,List.setIfInBounds_toArray,List.set_cons_zero,List.set_cons_succ]
    refine Bz (i:=15) (v:=?_) rfl (by kernel_rfl) (fun _ _ _ h=>h) hHeld (by rfl) ?_ ?_
    rotate_left
    ·(intro w hSw;(try dsimp only at hSw);go_simp;try (with_reducible rfl))
    try simp only [Act.put,List.setIfInBounds_toArray,List.set_cons_zero,List.set_cons_succ]
    refine Bz (i:=16) (v:=?_) rfl (by kernel_rfl) (fun _ _ _ h=>h) hHeld (by rfl) ?_ ?_
    rotate_left
    ·(intro w hSw;(try dsimp only at hSw);go_simp;try (with_reducible rfl))
    try simp only [Act.put,List.setIfInBounds_toArray,List.set_cons_zero,List.set_cons_succ]
    refine Bz (i:=17) (v:=?_) rfl (by kernel_rfl) (fun _ _ _ h=>h) hHeld (by rfl) ?_ ?_
    rotate_left
    ·(intro w hSw;(try dsimp only at hSw);go_simp;try (with_reducible rfl))
    try simp only [Act.put,List.setIfInBounds_toArray,List.set_cons_zero,List.set_cons_succ]
    refine Bz (i:=18) (v:=?_) rfl (by kernel_rfl) (fun _ _ _ h=>h) hHeld (by rfl) ?_ ?_
    rotate_left
    ·(intro w hSw;(try dsimp only at hSw);go_simp;try (with_reducible rfl))
    try simp only [Act.put,List.setIfInBounds_toArray,List.set_cons_zero,List.set_cons_succ]
    refine Ha (i:=12) rfl (by kernel_rfl) (fun K hK=>?_)
    go_simp
    (with_reducible refine(mA V4.drew (okV.ext X)).mono ?_);rintro e wA ⟨rfl,xA⟩;refine hK.out _ _ (fun _=>SO _ (X.trans xA)) (fun hH=>?_);have hHeld:=hH rfl;clear hK K hH
    try simp only [Act.put,List.setIfInBounds_toArray,List.set_cons_zero,List.set_cons_succ]
    refine Ha (i:=19) rfl (by kernel_rfl) (fun K hK=>?_)
    go_simp
    (with_reducible refine(mB wA (okV.ext (X.trans xA))).mono ?_);rintro e wB ⟨rfl,xB⟩;refine hK.out _ _ (fun _=>SO _ (X.trans (xA.trans xB))) (fun hH=>?_);have hHeld:=hH rfl;clear hK K hH
    try simp only [Act.put,List.setIfInBounds_toArray,List.set_cons_zero,List.set_cons_succ]
    refine Ha (i:=20) rfl (by kernel_rfl) (fun K hK=>?_)
    go_simp
    (with_reducible refine(mC wB (okV.ext (X.trans (xA.trans xB)))).mono ?_);rintro e wC ⟨rfl,xC⟩;refine hK.out _ _ (fun _=>SO _ (X.trans (xA.trans (xB.trans xC)))) (fun hH=>?_);have hHeld:=hH rfl;clear hK K hH
    try simp only [Act.put,List.setIfInBounds_toArray,List.set_cons_zero,List.set_cons_succ]
    refine Ha (i:=21) rfl (by kernel_rfl) (fun K hK=>?_)
    go_simp
    (with_reducible refine(mD wC (okV.ext (X.trans (xA.trans (xB.trans xC))))).mono ?_);rintro e wD ⟨rfl,xD⟩;refine hK.out _ _ (fun _=>SO _ (X.trans (xA.trans (xB.trans (xC.trans xD))))) (fun hH=>?_);have hHeld:=hH rfl;clear hK K hH
    try simp only [Act.put,List.setIfInBounds_toArray,List.set_cons_zero,List.set_cons_succ]
    refine Bz (i:=22) (v:=?_) rfl (by kernel_rfl) (fun _ _ _ h=>h) hHeld (by rfl) ?_ ?_
    rotate_left
    ·(intro w hSw;(try dsimp only at hSw);go_simp;try (with_reducible rfl))
    try simp only [Act.put,List.setIfInBounds_toArray,List.set_cons_zero,List.set_cons_succ]
    have xx:=X.trans (xA.trans (xB.trans (xC.trans xD)));have Oe:=(xx.block _ (AjL Od)).trans Od;have XD:=(xx.block _ (AjL hb3)).trans hb3;have WT:=Hx.keep (xx.block r (AjL Hx.it));have Xu:=X3.trans xx;have y0:wD.frozen? ⟨go,zn,none⟩=false:=Ao Oe;have y1:=Ab (o:=0) Oe rfl;have y2:=Ab (o:=1) Oe rfl;obtain⟨tv,YY⟩:=AjJ (av+(s.a.x*s.b.y-s.a.y*s.b.x));rw [←YY];have dY:=AjK YY;clear YY
    have HF:Hid (∃Sk Sl,[Sk,Sl]=(Kq L (seen ++ [i])).foldl DD [0,0]/\(wD.setCell ⟨go,zn,none⟩ (S (R tv))).heap[go]?=some (.cells #[S (R Sk),S (R Sl)] 26 (0,0))/\(wD.setCell ⟨go,zn,none⟩ (S (R tv))).heap[b1]?=some (.map (Az Ax (stamp L)).toArray L.length)/\CE (wD.setCell ⟨go,zn,none⟩ (S (R tv))) r b1 (stamp L) (seen ++ [i])/\Aa w (wD.setCell ⟨go,zn,none⟩ (S (R tv)))):=AjK (by
     have t0:=HZ.out
     rcases Nat.lt_or_ge zn 1 with h1|h1
     ·obtain rfl:zn=0:=(by omega);refine⟨tv,a1,?_,?_,?_,WT.keep (B7 (by show r≠go;omega)),Xu.setCell (p:=⟨go,0,none⟩) pI _⟩
      ·rw [HST.out,dY.out,←t0];rfl
      ·simp only [World.setCell,Array.getElem?_modify,Oe];simp
      ·rw [B7 (by exact hgb.symm)];exact XD
     ·obtain rfl:zn=1:=(by omega);refine⟨a0,tv,?_,?_,?_,WT.keep (B7 (by show r≠go;omega)),Xu.setCell (p:=⟨go,1,none⟩) pI _⟩
      ·rw [HST.out,dY.out,←t0];rfl
      ·simp only [World.setCell,Array.getElem?_modify,Oe];simp
      ·rw [B7 (by exact hgb.symm)];exact XD)
    refine Ha (i:=23) rfl (by kernel_rfl) (fun K hK=>?_)
    go_simp
    refine hK.out _ _ (fun h=>by simp at h) (fun _=>?_);clear hK K
    try simp only [Act.put,List.setIfInBounds_toArray,List.set_cons_zero,List.set_cons_succ]
    refine Wt (by kernel_rfl) ?_ _;clear hHeld y0 y1 y2 Oe XD WT Xu xx mA mB mC mD SO;obtain⟨Sk,Sl,f1,f2,f3,f4,f5⟩:=HF.out;generalize wD.setCell ⟨go,zn,none⟩ (S (R tv))=wE at *;go_wp2;go_roundw
    case rel=>exact⟨seen ++ [i],Sk,Sl,f4,f1,f2,f3,f5⟩
    case measure=>rw [Dz,Eo f4,List.length_append,List.length_singleton];omega
   ·have AcH:[a0,a1]=(Kq L (seen ++ [i])).foldl DD [0,0]:=by rw [HST.out];unfold DD;rw [if_neg hz0]
    go_wp2;go_roundw
    case rel=>exact⟨seen ++ [i],a0,a1,Hx,AcH,Od,hb3,X3⟩
    case measure=>rw [Dz,Eo Hx,List.length_append,List.length_singleton];omega
theorem Afc{w:World}{base n:Nat}{e:TypeId}{v:Value}{xs:List Value}(h:w.ownsRow base e 1 v (n+1) xs):∃g c,v=.slice (some ⟨g,0,none⟩) (n+1) c/\base<=g:=by
 rcases h.2 with⟨_,h'⟩|⟨g,cap,cur,h',hb,_⟩
 ·omega
 ·exact⟨g,cap,h',hb⟩
section
variable {ops : Array Oper} {rest : List Oper} {o : Oper} {a : Act} {Q : Exit → Act → World → Prop}
theorem qj(hgd:o.guard=none)(s x:Operand)(ho:o.op=.call {callee:=.builtin .append,args:=#[s,x],argTypes:=#[96,96]})
  (wN:World) (base:Nat) (v:Value) (n:Nat) (l:List Bs) (hs:a.eval s=v) (hown:wN.ownsRow base 26 1 v n (l.map S)) (hn:n<200000) (d:Bs)
  (g:Nat) (hb:wN.heap[g]?=some (.cells #[S d] 26)) (hx:a.eval x=.slice (some ⟨g,0,none⟩) 1 1) (hbase:base<=wN.heap.size)
  (h:∀v' w',w'.ownsRow base 26 1 v' (n+1) ((l ++ [d]).map S)→(∀w0,Aa w0 wN→w0.heap.size<=base→Aa w0 w')→wN.grownBy w' v.ownBlock→wpList Tryz.prog ops Q rest (a.put o.dst v') w') :
  wpList Tryz.prog ops Q (o::rest) a wN:=by
 obtain⟨i0,hi,hz0,hz1,hz2⟩:=info_parts Tryz.infoQ1;refine wpList_plain hgd fun _ hK=>Ng s x 96 ho 26 i0 _ 1 16 1 Tryz.underlying96 hi hz0 hz1 hz2 rfl (by omega) (by omega) (by omega) wN base v n _ hs hown hn g _ hb rfl ?_ hx hbase ?_
 ·intro u hu;simp only [List.mem_cons,AjY,or_false]at hu;rw [hu];rfl
 ·intro v' w' h1 h2 h3;refine hK _ _ (h v' w' ?_ h2 h3);rw [List.map_append];exact h1
end
theorem Ado(l:List Bs)(x:Bs)(hx:∀q∈l,(x == q)=false)(A:Option Addr)(c:Nat)(w:World)(hr:Ad w A (l.map S))(hl:l.length<=100000) :
  Calls Tryz.prog 56 #[.slice A l.length c,S x] w (AB (-1) w):=by
 have HX:=AjK hx;clear hx;go_enter Tryz.func56,Tryz.ntmps56
 go_upto_region 2 with fail
 go_loopw [8] (fun i wr=>∃j:Nat,i=.int .i64 (j:Nat)/\j<=l.length/\Aa w wr) (fun i _=>l.length-(intOf i).toNat)
 case atStart=>exact⟨0,rfl,by omega,Aa.refl _⟩
 case round=>
  obtain⟨j,rfl,hj,Ae⟩:=hrel;by_cases hlt:j<l.length
  ·obtain⟨b,o,rfl,hcs⟩:=(hr.ext Ae).ad (by simp;omega);have hg:=hcs j (by simpa using hlt);rw [List.getElem_map]at hg;have hqx:=HX.out _ (AjO hlt);clear hcs;obtain⟨q,hq⟩:=AjJ (l[j]);rw [←hq]at hg hqx;have hj0:(0:Int)<=(j:Int):=(by omega);have Ay:(j:Int)<(l.length:Int):=(by omega);clear hq;go_wp2;go_roundw
   case rel=>exact⟨j+1,by go_num,hlt,Ae⟩
   case measure=>simp [intOf];omega
  ·have hle:(l.length:Int)<=(j:Int):=(by omega);go_wp2;go_ret;exact⟨rfl,Ae⟩
theorem Aab:∀args w,(callFunc 58 args).run Tryz.prog w=.ok (.enter 58 args) w:=enters_of Tryz.func58 (by kernel_rfl) rfl
open Classical in
theorem pw(l:List Bs)(Ai:∀x∈l,CP x/\x.length<=17)(A:Option Addr)(c:Nat)(w:World)(hw:Ak w)(hr:Ad w A (l.map S))(hc:l.length<=c)(hcm:c<=9223372036854775807) :
  Calls Tryz.prog 57 #[.slice A l.length c,.func (.func 58) #[] #[]] w (BE false w):=by
 have eg:=Aab
 have cl:∀x∈l,∀W,Aa w W→Calls Tryz.prog 58 #[S x] W (BE false W):=fun x hx W hW=>by obtain⟨h1,h2⟩:=Ai x hx;have ck:=US x h2 W (hw.ext hW);rw [decide_eq_true h1,Gg]at ck;clear h1 h2 Ai hr;go_enter Tryz.func58,Tryz.ntmps58;(go_wp2_with fail);(with_reducible refine ck.mono ?_);rintro e w1 ⟨rfl,hx1⟩;go_wp2;go_ret;exact⟨rfl,hx1⟩
 have ix:Calls Tryz.prog 101 #[.slice A l.length c,.func (.func 58) #[] #[]] w (AB (-1) w):=by
  have HP:=AjK cl;clear cl Ai;go_enter Tryz.func101,Tryz.ntmps101;go_wp2
  go_loopw [8] (fun i wr=>∃j:Nat,i=.int .i64 (j:Nat)/\j<=l.length/\Aa w wr) (fun i _=>l.length-(intOf i).toNat)
  case atStart=>exact⟨0,rfl,by omega,Aa.refl _⟩
  case round=>
   obtain⟨j,rfl,hj,Ae⟩:=hrel;by_cases hlt:j<l.length
   ·obtain⟨b,o,rfl,hcs⟩:=(hr.ext Ae).ad (by simp;omega);have hg1:=hcs j (by simpa using hlt);rw [List.getElem_map]at hg1;clear hcs;have bf:=HP.out l[j] (AjO hlt) wr Ae;obtain⟨q,hq⟩:=AjJ (l[j]);rw [←hq]at hg1 bf;have hj0:(0:Int)<=(j:Int):=(by omega);have Ay:(j:Int)<(l.length:Int):=(by omega);clear hq;(go_wp2_with fail);(with_reducible refine bf.mono ?_);rintro e w2 ⟨rfl,hx2⟩;go_wp2;go_roundw
    case rel=>exact⟨j+1,by go_num,hlt,Ae.trans hx2⟩
    case measure=>simp [intOf];omega
   ·have hle:(l.length:Int)<=(j:Int):=(by omega);go_wp2;go_ret;exact⟨rfl,Ae⟩
 clear eg cl Ai hr;go_enter Tryz.func57,Tryz.ntmps57;(go_wp2_with fail);(with_reducible refine ix.mono ?_);rintro e w1 ⟨rfl,hx⟩;go_wp2;go_ret;exact⟨rfl,hx⟩
theorem bY(x:UInt8)(hx:x≠98)(A B F:Option Addr)(c d g:Nat)(w:World)(hw:Ak w)(A7:Cf Af c d g)(hA:Ad w A (flat (Aq Af.pts)))(hB:Ad w B (AA Af.eds))(hF:Ad w F ([[x],[98]].map S)) :
  Calls Tryz.prog 33 #[AE A B F Af c d g] w (fun e w'=>∃u q k l,e=.returned (.tuple #[.slice u 2 k,.slice q 2 l,.int .i64 0])/\Ad w' u ([[x],[98]].map S)/\Ad w' q ([R 2,R 2].map S)/\Aa w w'):=by
 have hM:=AjM w (.cells #[.slice A Af.pts.length c,.slice B Af.eds.length d,.slice F 2 g] 44);have hE:=(Aa.refl w).alloc (.cells #[.slice A Af.pts.length c,.slice B Af.eds.length d,.slice F 2 g] 44);have pc:=fun W (hx:Aa w W)=>Afm A B F c d g W (hw.ext hx) A7 (hA.ext hx) (hB.ext hx);have ac:=fun W (hx:Aa w W)=>qx A B F c d g W (hw.ext hx) A7 (hA.ext hx) (hB.ext hx);replace pc:∀W,Aa w W→Calls Tryz.prog 44 #[.agg #[.slice A Af.pts.length c,.slice B Af.eds.length d,.slice F 2 g]] W (AB 0 W):=pc;replace ac:∀W,Aa w W→Calls Tryz.prog 55 #[.agg #[.slice A Af.pts.length c,.slice B Af.eds.length d,.slice F 2 g]] W (fun e w'=>∃b,e=.returned (.slice (some ⟨b,0,none⟩) 2 2)/\w'.heap[b]?=some (.cells #[S (R 2),S (R 2)] 26 (0,0))/\Aa W w'):=ac;show Calls Tryz.prog 33 #[.agg #[.slice A Af.pts.length c,.slice B Af.eds.length d,.slice F 2 g]] w _;obtain⟨n47,Q6⟩:=AjJ Af.pts.length;obtain⟨n48,Q7⟩:=AjJ Af.eds.length;rw [←Q6,←Q7]at ac pc hM hE ⊢;clear A7 hA hB Q6 Q7;go_enter Tryz.func33,Tryz.ntmps33
 go_upto_region 1 with fail
 generalize w.alloc (.cells #[.slice A n47 c,.slice B n48 d,.slice F 2 g] 44)=V at *;obtain⟨bm,AX⟩:=AjJ w.heap.size;rw [←AX]at hM ⊢;clear AX;have k0:=Ab (o:=0) hM rfl;have k1:=Ab (o:=1) hM rfl;have k2:=Ab (o:=2) hM rfl;have p1:=pc V hE;(go_wp2_with fail);(with_reducible refine p1.mono ?_);rintro e w1 ⟨rfl,hx1⟩;have Bi:=(hx1.block _ (AjL hM)).trans hM;have BA:=hE.trans hx1;clear k0 k1 k2 p1 pc hM;have k0:=Ab (o:=0) Bi rfl;have k1:=Ab (o:=1) Bi rfl;have k2:=Ab (o:=2) Bi rfl;have a1:=ac w1 BA;(go_wp2_with fail);(with_reducible refine a1.mono ?_);rintro e w2 ⟨b,rfl,hb,hx2⟩;have Dw:=(hx2.block _ (AjL Bi)).trans Bi;have CG:=BA.trans hx2;have hF2:=hF.ext CG;clear k0 k1 k2 a1 ac Bi hx1 hx2 hE BA hF;have HM:=AjK (And.intro Dw (And.intro hF2 hb));have qM:CP (R 2)/\(R 2).length<=17:=⟨UM (by decide +kernel) (by decide +kernel),by decide +kernel⟩;have HO:=AjK qM;clear Dw hF2 hb qM
 go_upto_region 5 with fail
 go_loopw [2,3,17] (fun u q i wr=>∃j:Nat,i=.int .i64 (j:Nat)/\j<=2/\wr.ownsRow w2.heap.size 9 1 u j (([[x],[98]].take j).map S)/\wr.ownsRow w2.heap.size 26 1 q j ((List.replicate j (R 2)).map S)/\Aa w2 wr) (fun _ _ i _=>2-(intOf i).toNat)
 case atStart=>exact⟨0,rfl,by omega,World.ownsRow_nil _ _ _ _,World.ownsRow_nil _ _ _ _,Aa.refl _⟩
 case round=>
  obtain⟨j,rfl,hj,hu,hq,Ae⟩:=hrel;have okr:=hw.ext (CG.trans Ae);by_cases hlt:j<2
  ·obtain⟨t,l,GQ,hl2,hl3,hl4,pX⟩:∃(t:Bs) (l:List Bs),[[x],[98]].take j=l/\l.length=j/\[[x],[98]].take (j+1)=l ++ [t]/\(∀q∈l,(t == q)=false)/\[[x],[98]][j]?=some t:=by
    obtain rfl|rfl:j=0∨j=1:=by omega
    ·exact⟨[x],[],rfl,rfl,rfl,by simp,rfl⟩
    ·exact⟨[98],[[x]],rfl,rfl,rfl,by intro q hq;rw [AjZ]at hq;subst hq;rw [beq_eq_false_iff_ne];intro e;injection e with e;exact hx e.symm,rfl⟩
   rw [GQ]at hu;obtain⟨hM,hF,hb⟩:=HM.out;obtain⟨bF,oF,eF,hcs⟩:=hF.ad (by simp)
   have f0:wr.cell? ⟨bF,oF+j,none⟩=some (S t):=by have h1:=hcs j (by simp;omega);have h2:([[x],[98]].map S)[j]?=some (S t):=(by rw [List.getElem?_map,pX];rfl);rw [AjS (by simp;omega)]at h2;rw [Option.some.inj h2]at h1;exact Ae.cellS h1
   have f1:wr.cell? ⟨b,j,none⟩=some (S (R 2)):=Ae.cellS (Ab hb (by rcases(show j=0∨j=1 by omega)with e|e<;>subst e<;>rfl));have f2:wr.cell? ⟨bm,2,none⟩=some (.slice (some ⟨bF,oF,none⟩) 2 g):=(by rw [←eF];exact Ae.cellS (Ab hM rfl));have hj0:(0:Int)<=(j:Int):=(by omega);have Gp:(j:Int)<2:=by omega
   have ad:∀W,Ak W→Calls Tryz.prog 35 #[S [48],S (R 2)] W (BK (R 2) W):=fun W h=>by have:=LP 0 2 (a:=1) (b:=1) ⟨⟨by decide,by decide⟩,⟨by decide,by decide⟩,by decide,by decide,by decide⟩ W h;rw [Fa,Rat.zero_add]at this;exact this
   obtain⟨ua,uc,rfl,QH,-,-⟩:=Ad.of_own' (by omega) hu;obtain⟨qa,qc,rfl,-,-,-⟩:=Ad.of_own' (by omega) hq;have ix:=Ado l t hl4 ua uc wr QH (by omega);rw [hl2]at ix;have HT:=AjK hl3;clear hM hF hb hcs eF GQ hl3 hl4 pX QH;(go_wp2_with fail);(with_reducible refine ix.mono ?_);rintro e w3 ⟨rfl,hx3⟩;have e3:=(Aa.refl w3).alloc (.cells #[S t] 9);have LA:=Am (Am hu hx3) e3;have YL:=Am (Am hq hx3) e3;have x3:=hx3.trans e3;have g0:=x3.cellS f0;have h0:=hx3.cellS f0;have h1:=hx3.cellS f1;have h2:=hx3.cellS f2;have Bd:=Ae.trans x3;clear ix f0 f1 f2 g0 Ae hu hq x3 hx3
   go_wp2_with (first
    | (at_builtin;go_loud (refine qm rfl _ _ rfl _ w2.heap.size (.slice ua j uc) j l rfl LA (by omega) t w3.heap.size (AjM w3 _) rfl Bd.size ?_);intro v5 w5 Ib hext5 Lq)
    | (at_builtin;go_loud (refine qj rfl _ _ rfl _ w2.heap.size (.slice qa j qc) j (List.replicate j (R 2)) rfl (Am (Lc Lq LA YL (by decide)) ((Aa.refl w5).alloc _)) (by omega) [48] w5.heap.size (AjM w5 _) rfl ((hext5 w2 Bd (AjN _)).trans ((Aa.refl w5).alloc _)).size ?_);intro v6 w6 GT oN pC;obtain⟨gs,sc,rfl,JS⟩:=Afc GT;have f5:=GT.cellAt j (by omega);rw [List.map_append,List.getElem?_append_right (by simp)]at f5;simp only [List.length_map,List.length_replicate,Nat.sub_self,List.map_cons,List.map_nil,List.getElem?_cons_zero]at f5))
   have Bw:=(hext5 w2 Bd (AjN _)).trans ((Aa.refl w5).alloc (.cells #[S [48]] 26));have Bp:=oN w2 Bw (AjN _);have eQ:=ad w6 (hw.ext (CG.trans Bp));have rY:=Lc pC (Am (Lc Lq LA YL (by decide)) ((Aa.refl w5).alloc _)) (Am Ib ((Aa.refl w5).alloc (.cells #[S [48]] 26))) (by decide);have HU:=AjK (And.intro rY (And.intro GT Bp));clear ad Bw Bp Bd rY GT Ib hext5 oN Lq pC LA YL h0 h1 h2;(go_wp2_with fail);(with_reducible refine eQ.mono ?_);rintro e w7 ⟨rfl,AQ⟩;have h7:=Am HU.out.2.1 AQ;have z7:=h7.frozenAt j;have y7:=AQ.cellS f5;have hs:=h7.stored j (S (R 2))
   have hl:((List.replicate j (R 2) ++ [[48]]).map S).set j (S (R 2))=(List.replicate (j+1) (R 2)).map S:=by rw [List.replicate_succ',List.map_append,List.map_append,List.set_append_right _ _ (by simp)];simp
   rw [hl]at hs;have YZ:=Lc hs.2 h7 (Am HU.out.1 AQ) (by decide);rw [←HT.out]at YZ;have HF:=AjK (And.intro hs.1 (And.intro YZ ((HU.out.2.2.trans AQ).setCell (p:=⟨gs,j,none⟩) JS (S (R 2)))));clear eQ f5 h7 hs YZ AQ hl;go_wp2;go_roundw
   case rel=>exact⟨j+1,by go_num,by omega,HF.out.2.1,HF.out.1,HF.out.2.2⟩
   case measure=>simp [intOf];omega
  ·obtain rfl:j=2:=(by omega);obtain⟨ua,uc,rfl,QH,-,-⟩:=Ad.of_own' (by omega) hu;obtain⟨qa,qc,rfl,YQ,q1,q2⟩:=Ad.of_own' (by omega) hq;have an:=pw (List.replicate 2 (R 2)) (fun y hy=>by rw [List.eq_of_mem_replicate hy];exact HO.out) qa qc wr okr YQ (by simpa using q1) q2;rw [List.length_replicate]at an;have hX:=CG.trans Ae;clear hu hq q1 q2;(go_wp2_with fail);(with_reducible refine an.mono ?_);rintro e w3 ⟨rfl,hx3⟩;have HR:=AjK (And.intro (QH.ext hx3) (And.intro (YQ.ext hx3) (hX.trans hx3)));clear an QH YQ hX hx3 Ae;go_wp2;go_ret3;exact⟨ua,qa,uc,qc,rfl,HR.out.1,HR.out.2.1,HR.out.2.2⟩
end Go.Proofs.YtnfedbopbcegjaaGreatDoor
