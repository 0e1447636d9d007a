/- Z11: Div1. -/
import Derived.Test.YtdaefncphfeaeaaGreatDoorZ09
import Derived.Deep.RegionHeld3
set_option maxRecDepth 100000
set_option maxHeartbeats 4000000
namespace Go.Proofs.YtdaefncphfeaeaaGreatDoor
open Go.RowKit Kl Go.Shelf
attribute [local go_sem] Oper.semAt_some
def Qg(q r:Nat)(w:World)(e:Ending)(w':World):Prop:=
 ∃vq vr,e=.returned (.tuple #[vq,vr])/\Rd w' vq (pc 1000000000 q)/\Rd w' vr (pc 1000000000 r)/\Aa w w'
theorem Rd.nil(w:World):Rd w (.slice none 0 0) []:=⟨none,0,rfl,by simp,by omega,by simp,fun h=>by simp at h⟩
theorem b9:(2:Nat)<=1000000000:=by omega
theorem vJ(x y:Nat)(YY:x<y)(u v:Value)(w:World)(hu:Rd w u (pc 1000000000 x))(hv:Rd w v (pc 1000000000 y)) :
  Calls Tryz.prog 213 #[u,v] w (Qg 0 x w):=by
 have Kd:=fun W hu hv=>Rv (pc 1000000000 x) (pc 1000000000 y) u v W hu hv (AX b9 x) (AX b9 y) (FY b9 x) (FY b9 y);rw [AM b9,AM b9,MZ YY]at Kd;have hx1:=((Aa.refl w).alloc (.cells #[v] 199)).alloc (.cells #[.slice none 0 0] 199);have ho:=Kd _ (hu.ext hx1) (hv.ext hx1);have lL:=hu;have lN:=hv;obtain⟨A,ca,e1,B5⟩:=lL;obtain⟨B,cb,e2,Bo⟩:=lN;clear Kd;rw [e1,e2]at ho;subst e1 e2;go_enter Tryz.func213,Tryz.ntmps213;(go_wp2_with fail);(with_reducible refine ho.mono ?_);rintro e w1 ⟨rfl,hx2⟩;obtain⟨hc2,hf2⟩:=hx2.cells;go_wp2;refine bodyPost_ret (v:=.tuple #[.slice none 0 0,.slice A (pc 1000000000 x).length ca]) (by simp [results,Tryz.results213,go_sem,hc2]) rfl ?_;have e0:=hc2 (w.heap.size+1) 0 (by simp);rw [World.cell?_alloc_at _ _ _ _ (by simp)]at e0;exact⟨_,_,rfl,by rw [Fz];exact Rd.nil _,⟨A,ca,rfl,((B5.ext hx1).ext hx2).setCell e0 (by simp)⟩,(hx1.trans hx2).setCell (by show w.heap.size<=w.heap.size+1;omega) _⟩
/-! ### One piece -/
structure JA(a qs:List Nat)(y i r:Nat):Prop where
 len:qs.length=a.length
 lt:∀x∈qs,x<1000000000
 le:i<=a.length
 rl:r<y
 sum:Ah 1000000000 (qs.drop i)*y+r=Ah 1000000000 (a.drop i)
theorem JA.start{a:List Nat}{y:Nat}(hy:0<y):JA a (List.replicate a.length 0) y a.length 0:=
 ⟨by simp,by intro x hx;rw [List.mem_replicate]at hx;omega,Asf _,hy,by simp [Ah]⟩
theorem JA.step{a qs:List Nat}{y i r t:Nat}(h:JA a qs y (i+1) r)(hy:0<y)(ha:∀x∈a,x<1000000000)(ht:t=r*1000000000+Ag a i) :
  JA a (qs.set i (t/y)) y i (t%y):=by
 have hi:i<a.length:=h.le;have hai:=Cd ha hi
 have hq:t/y<1000000000:=by rw [Nat.div_lt_iff_lt_mul hy];have h1:r+1<=y:=h.rl;have:(r+1)*1000000000<=y*1000000000:=Nat.mul_le_mul_right _ h1;omega
 refine⟨by rw [List.length_set,h.len],Zk h.lt hq,by omega,Nat.mod_lt _ hy,?_⟩
 have e1:(qs.set i (t/y)).drop i=t/y::qs.drop (i+1):=by rw [KC (by rw [List.length_set,h.len];exact hi),List.drop_set_of_lt (by omega)];simp [Ag,h.len,hi]
 rw [e1,KC hi];simp only [Ah];have hs:=h.sum;have hm:=Nat.div_add_mod t y;generalize Ah 1000000000 (qs.drop (i+1))=Q at *;generalize Ah 1000000000 (a.drop (i+1))=V at *;generalize t/y=d at *;generalize t%y=m at *;have e2:(d+1000000000*Q)*y=y*d+1000000000*(Q*y):=(by rw [Nat.add_mul,Nat.mul_comm d y,Nat.mul_assoc]);rw [e2];omega
theorem JA.done{a qs:List Nat}{y r:Nat}(h:JA a qs y 0 r):Ah 1000000000 qs=Ah 1000000000 a/y/\r=Ah 1000000000 a%y:=by
 have hs:=h.sum;have hr:=h.rl;rw [List.drop_zero,List.drop_zero]at hs;rw [←hs,Nat.mul_comm];exact⟨by rw [Nat.mul_add_div (by omega),Nat.div_eq_of_lt hr,Nat.add_zero],by rw [Nat.mul_add_mod,Nat.mod_eq_of_lt hr]⟩
abbrev PT(n:Nat):={p:Nat×Nat // p.2<1000000000/\p.1<n}
theorem AfB(zs:List Nat)(h0:0<zs.length)(hz:∀x∈zs,x<1000000000):∃g:Nat→PT zs.length,∀k,k<zs.length→(g k).1=FC zs k:=
 ⟨fun k=>if h:k<zs.length then ⟨FC zs k,Cd hz (by omega),by simp only [FC];omega⟩else ⟨(0,0),by omega,h0⟩,fun k hk=>by simp [hk]⟩
def D1(w:World)(zs:List Nat)(y:Nat)(g:Nat→PT zs.length)(qb bb ob cb xb:Nat)(pre:List (PT zs.length))(W:World):Prop:=
 ∃(vs:List Nat) (r:Nat),vs.length=zs.length/\W.ownsRow qb 230 1 (.slice (some ⟨qb,0,none⟩) zs.length zs.length) zs.length (Bq vs)
  /\W.heap[qb+1]?=some (.cells #[.int .u64 (r:Nat)] 230 (0,0))
  /\W.cell? ⟨w.heap.size,0,none⟩=some (.slice (some ⟨bb,ob,none⟩) 1 cb)
  /\W.heap[w.heap.size+1]?=some (.cells #[.slice (some ⟨qb,0,none⟩) zs.length zs.length] 199 (0,0))
  /\W.cell? ⟨bb,ob,none⟩=some (.int .u64 (y:Nat))
  /\(∃x,W.heap[xb]?=some (.cells x 199 (0,0)))
  /\Aa w W
  /\∀k,k<=zs.length→pre=upto g k→JA zs vs y (zs.length-k) r
theorem Cc.putObj{w:World}{A:Option Addr}{c D:Nat}{l:List Nat}{o:Obj}(h:Cc w A c l)(hD:w.heap[D]?=some o)(ho:o.isCells=false)(o':Obj):Cc (w.putObj D o') A c l:=
 ⟨h.cap,h.max,h.len,fun h0=>by
  obtain⟨b,o1,e,hc⟩:=h.ad h0
  exact⟨b,o1,e,fun j hj=>cell_kept (hc j hj) (grownBy_putObj' w D o') (fun r e=>by cases e;exact⟨o,hD,ho⟩)⟩⟩
theorem AfA(r x y:Nat)(hy:y<1000000000)(hx:x<1000000000):∃t:Nat,IntKind.u64.wrap (IntKind.u64.wrap ((r:Int)*1000000000)+(x:Int))=(t:Int)/\(r<y→t=r*1000000000+x)/\IntKind.u64.wrap ((t:Int)/(y:Int))=((t/y:Nat):Int):=by
 refine⟨(r*1000000000%18446744073709551616+x)%18446744073709551616,?_,fun h=>by omega,?_⟩
 ·simp only [IntKind.wrap_u64];omega
 ·simp only [IntKind.wrap_u64];generalize hm:(r*1000000000%18446744073709551616+x)%18446744073709551616=m;have h1:m/y<=m:=Nat.div_le_self _ _;have h2:(m:Int)/(y:Int)=((m/y:Nat):Int):=(by simp);have h3:m<18446744073709551616:=(by omega);rw [h2];generalize m/y=q at *;omega
theorem AfQ(x y:Nat)(YZ:y<=x)(Ba:0<y)(UL:y<1000000000)(u v:Value)(w:World)(hu:Rd w u (pc 1000000000 x))(hv:Rd w v (pc 1000000000 y)) :
  Calls Tryz.prog 213 #[u,v] w (Qg (x/y) (x%y) w):=by
 have Kd:=fun W hu hv=>Rv (pc 1000000000 x) (pc 1000000000 y) u v W hu hv (AX b9 x) (AX b9 y) (FY b9 x) (FY b9 y)
 obtain⟨s,hs,hs0⟩:∃s:Int,s=EO x y/\¬s<0:=by
  rcases Nat.lt_or_eq_of_le YZ with h|h
  ·exact⟨_,rfl,by rw [LK h];omega⟩
  ·exact⟨_,rfl,by rw [Qt h.symm];omega⟩
 rw [AM b9,AM b9,←hs]at Kd;clear hs;have hx1:=((Aa.refl w).alloc (.cells #[v] 199)).alloc (.cells #[.slice none 0 0] 199);have ho:=Kd _ (hu.ext hx1) (hv.ext hx1);obtain⟨zs,hzs⟩:=AcG (pc 1000000000 x);have hlt:∀x∈zs,x<1000000000:=(by rw [hzs];exact AX b9 x);rw [←hzs]at hu
 have hzp:0<zs.length:=by rw [List.length_pos_iff,hzs];intro e;have:=(Mw b9).1 e;omega
 rw [Vr b9 Ba UL]at hv;have HZ:=Asb hzs;clear hzs Kd;have AU:=hu;obtain⟨A,ca,e1,B5⟩:=hu;obtain⟨B,cb,e2,Bo⟩:=hv;have CU:=B5.len;obtain⟨bb,ob,rfl,hcb⟩:=Bo.ad (by simp);have En:=hcb 0 (by simp);simp only [List.length_singleton]at e2;have En:w.cell? ⟨bb,ob,none⟩=some (.int .u64 (y:Nat)):=(by simpa [Ag]using En);have BF:=Bo.cap;have hmax:=Bo.max;simp only [List.length_singleton]at BF;have hmk:=mR zs.length (by omega) (zs.length:Int) rfl;rw [e1,e2]at ho;rw [e2]at hx1;subst e1 e2;refine(callsIn_wide (n:=4)).1 ?_;refine callsIn_of_wp_marks Tryz.func213 rfl trivial ?_ rfl;simp only [Tryz.ntmps213,List.size_toArray,List.length_cons,List.length_nil,Nat.reduceAdd,Nat.reduceSub,Array.replicate_succ,Array.replicate_zero,List.push_toArray,List.append_toArray,List.nil_append,List.cons_append];gi_wp2;refine⟨trivial,?_⟩;refine(callsIn_wide.2 ho).mono ?_;rintro e w1 ⟨rfl,hx2⟩;obtain⟨hc2,hf2⟩:=hx2.cells;have U7:=hx2.size;simp only [Asn]at U7;have Ajw:w.heap.size<w1.heap.size:=(by omega);have Ari:w.heap.size+1<w1.heap.size:=(by omega);gi_wp2;obtain⟨W2,hW2⟩:=AcG (((w1.setCell ⟨w.heap.size+1,0,none⟩ (.slice (some ⟨w1.heap.size,0,none⟩) zs.length zs.length)).alloc (.cells (madeCells #[.int .u64 0] zs.length) 230)).alloc (.cells #[.int .u64 0] 230));rw [←hW2];have hn:zs.length<=200000:=by omega
 have k3:W2.cell? ⟨w.heap.size,0,none⟩=some (.slice (some ⟨bb,ob,none⟩) 1 cb):=by
  have h:=hc2 (w.heap.size) 0 (by simp;omega);rw [hW2]
  go_simp
 have k4:W2.cell? ⟨w.heap.size+1,0,none⟩=some (.slice (some ⟨w1.heap.size,0,none⟩) zs.length zs.length):=by
  have h:=hc2 (w.heap.size+1) 0 (by simp);have h2:=hf2 (w.heap.size+1) 0;rw [hW2]
  go_simp
 have k4b:W2.heap[w.heap.size+1]?=some (.cells #[.slice (some ⟨w1.heap.size,0,none⟩) zs.length zs.length] 199 (0,0)):=by have h1:=hx2.block (w.heap.size+1) (by simp);have h2:=Ase (w.alloc (.cells #[.slice (some ⟨bb,ob,none⟩) 1 cb] 199)) (.cells #[.slice none 0 0] 199);rw [Asn]at h2;have h3:=one_setCell (u:=.slice (some ⟨w1.heap.size,0,none⟩) zs.length zs.length) (h1.trans h2);rw [hW2,Below.heap_alloc _ _ _ (by simp;omega),Below.heap_alloc _ _ _ (by simp;omega)];exact h3
 have k6:W2.heap[w1.heap.size+1]?=some (.cells #[.int .u64 0] 230 (0,0)):=by
  rw [hW2];have h:=Ase ((w1.setCell ⟨w.heap.size+1,0,none⟩ (.slice (some ⟨w1.heap.size,0,none⟩) zs.length zs.length)).alloc (.cells (madeCells #[.int .u64 0] zs.length) 230)) (.cells #[.int .u64 0] 230)
  simpa using h
 have Aij:W2.cell? ⟨bb,ob,none⟩=some (.int .u64 (y:Nat)):=by
  have hb:=World.block_lt_of_cell? w _ En;have h1:w1.cell? ⟨bb,ob,none⟩=some (.int .u64 (y:Nat)):=((((Aa.refl w).alloc _).alloc _).trans hx2).cellS En;have h2:bb≠w.heap.size+1:=(by have:bb<w.heap.size:=hb;omega);have h3:bb<w1.heap.size:=(by have:bb<w.heap.size:=hb;omega);rw [hW2]
  go_simp
 have qh:W2.heap.size=w1.heap.size+2:=by rw [hW2];simp
 have Bz:Aa w W2:=by rw [hW2];exact((((Aa.refl w).alloc _).alloc _).trans hx2 |>.setCell (by show w.heap.size<=w.heap.size+1;omega) _).alloc _ |>.alloc _
 have ho2:W2.ownsRow w1.heap.size 230 1 (.slice (some ⟨w1.heap.size,0,none⟩) zs.length zs.length) zs.length (Bq (List.replicate zs.length 0)):=by rw [hW2];have h:=nG (w1.setCell ⟨w.heap.size+1,0,none⟩ (.slice (some ⟨w1.heap.size,0,none⟩) zs.length zs.length)) w1.heap.size zs.length (by simp) hn;rw [World.size_setCell]at h;exact h.alloc _
 have PZ:=Asb qh;have Arq:w1.heap.size+2<=W2.heap.size:=(by omega);clear hW2 hc2 hf2 hmk hcb qh;obtain⟨g,hg⟩:∃g:Nat→PT zs.length,∀k,k<zs.length→(g k).1=FC zs k:=AfB zs hzp hlt;refine⟨trivial,?_⟩;refine(dJ Fence.wide 3 trivial rfl _ _ ⟨_,_,_,rfl⟩).mono ?_;rintro e W3 ⟨rfl,rfl⟩;gi_wp2
 refine wpIn_rangeFunc_ownG rfl (by omega) (gf:=250) (lb:=#[.pointer (some ⟨W2.heap.size,0,none⟩)]) rfl trivial (enters_of Tryz.func250 (by kernel_rfl) rfl)
  (dK (fun p:PT zs.length=>p.1.1) (fun p:PT zs.length=>p.1.2) Fence.wide 3 trivial rfl (by omega) W2.heap.size w.heap.size _ zs g (fun k hk=>by have:=hg k hk;simpa using this) (W2.alloc (.cells #[.slice A zs.length ca] 199)) (by simp) (by simp;omega) (by simp) ⟨w,AU,Asf _,Bz.alloc _⟩)
  (fun h k=>h.trans k) (Gd.put (by simp;omega) (by simp)) (Below.refl _ _) (fun _=>rfl)
  (D1 w zs y g w1.heap.size bb ob cb W2.heap.size)
  (fun _ _ _=>False) ?hI (fun _ _ _ _ _ hs _ _=>hs) ?h0 ?a1 ?assign ?body ?done ?stop
 case a1=>exact fun x=>{tmps:=#[.slice A zs.length ca,.slice (some ⟨bb,ob,none⟩) 1 cb,undef,.pointer (some ⟨w.heap.size,0,none⟩),.pointer (some ⟨w.heap.size+1,0,none⟩),.slice none 0 0,.pointer (some ⟨w1.heap.size+1,0,none⟩),.int .i64 (x.1.1:Nat),.int .u64 (x.1.2:Nat),undef,undef,undef,undef,undef,.slice A zs.length ca,.slice (some ⟨bb,ob,none⟩) 1 cb,.int .i64 s,.bool (decide (s<0)),undef,.slice (some ⟨bb,ob,none⟩) 1 cb,.int .i64 1,.bool true,.slice A zs.length ca,.int .i64 zs.length,.slice (some ⟨w1.heap.size,0,none⟩) zs.length zs.length,.slice A zs.length ca,.func (.func 250) #[] #[.pointer (some ⟨W2.heap.size,0,none⟩)],.int .i64 (x.1.1:Nat),.int .u64 (x.1.2:Nat),undef,undef,undef,undef,undef,undef,undef,undef,undef,undef,undef,undef,undef,undef,undef,undef,undef,undef,undef,undef,undef,undef,undef,undef,undef,undef,undef,undef,undef,undef,undef,undef,undef,undef,undef,undef,undef,undef,undef,undef,undef,undef,undef,undef,undef,undef,undef,undef,undef,undef,undef,undef,undef,undef,undef,undef,undef,undef,undef,undef,undef,undef,undef,undef,undef,undef,undef,undef,undef,undef,undef,undef,undef,undef,undef,undef,undef,undef,undef,undef,undef,undef,undef,undef,undef,undef,undef,undef,undef,undef,undef,undef,undef,undef,undef,undef,undef,undef,undef,undef,undef,undef,undef,undef,undef,undef,undef,undef,undef,undef,undef,undef,undef,undef,undef,undef,undef],defers:=[]}
 case hI=>
  rintro pre W W' row ⟨vs,r,Jz,hown,Jw,h3,KF,hy,⟨bx,Jn⟩,hxx,Ud⟩ Hi hr';have hro:∀r,row=some r→∃o:Obj,W.heap[r]?=some o/\o.isCells=false:=fun r e=>(hr' r e).2;refine⟨vs,r,Jz,?_,Tf Hi Jw hro,cell_kept h3 Hi hro,Tf Hi KF hro,cell_kept hy Hi hro,⟨bx,Tf Hi Jn hro⟩,?_,Ud⟩
  ·refine hown.kept Hi (.inr fun e=>?_);obtain⟨c,fz,hk⟩:=Z1 hown w1.heap.size rfl;obtain⟨o,ho,hc⟩:=hro w1.heap.size e.symm;rw [hk]at ho;obtain rfl:=Option.some.inj ho;simp [Obj.isCells]at hc
  ·exact(ownFrom_below (Asf _) (by simp;omega)) () W W' row hxx Hi hr'
 case h0=>
  have Ay:=(Aa.refl W2).alloc (.cells #[.slice A zs.length ca] 199);refine⟨List.replicate zs.length 0,0,by simp,Ap ho2 Ay,(Ay.block _ (by omega)).trans k6,Ay.cellS k3,(Ay.block _ (by omega)).trans k4b,Ay.cellS Aij,⟨_,Ase _ _⟩,Below.trans Bz (Below.mono Ay (by omega)),fun k hk e=>?_⟩
  cases k with
  | zero=>exact JA.start Ba
  | succ k=>have:=congrArg List.length e;rw [upto_length]at this;simp at this
 case assign=>intro l x W K hK;gi_wp2;exact hK
 case body=>
  rintro l pre x W ⟨vs,r,Jz,hown,Jw,h3,KF,hy,Jn,hxx,Ud⟩ hlen;have h4:=cell_of_one KF;have hc6:=cell_of_one Jw;have jA:=free_of_one Jw;have hix:=x.2.2;obtain⟨t,ht,htg,hq⟩:∃t:Nat,IntKind.u64.wrap (IntKind.u64.wrap ((r:Int)*1000000000)+(x.1.2:Int))=(t:Int)/\(r<y→t=r*1000000000+x.1.2)/\IntKind.u64.wrap ((t:Int)/(y:Int))=((t/y:Nat):Int):=AfA r x.1.2 y UL x.2.1;gi_wp2;clear ht;obtain⟨W0,hW0⟩:=AcG ((W.setCell ⟨w1.heap.size+1,0,none⟩ (.int .u64 (t:Nat))).drew);obtain⟨LG,hW1⟩:=AcG (W0.setCell ⟨w1.heap.size,x.1.1,none⟩ (.int .u64 ((t/y:Nat):Int)));obtain⟨MU,hW2⟩:=AcG (LG.setCell ⟨w1.heap.size+1,0,none⟩ (.int .u64 ((t%y:Nat):Int)));refine wpIn_region_any (by kernel_rfl) ?_;have BA:bb<w.heap.size:=World.block_lt_of_cell? w ⟨bb,ob,none⟩ En
  have KW:∀k,k≠w1.heap.size→¬Value.ownBlock (.slice (some ⟨w1.heap.size,0,none⟩) zs.length zs.length)=some k:=by intro k hk e;simp only [Value.ownBlock,Asj]at e;exact hk e.symm
  have Vm:W0.ownsRow w1.heap.size 230 1 (.slice (some ⟨w1.heap.size,0,none⟩) zs.length zs.length) zs.length (Bq vs):=by rw [hW0];exact Rx (ownsRow_setCell_other hown (KW (w1.heap.size+1) (by omega)) _)
  have AlJ:LG.ownsRow w1.heap.size 230 1 (.slice (some ⟨w1.heap.size,0,none⟩) zs.length zs.length) zs.length (Bq (vs.set x.1.1 (t/y))):=by rw [hW1,←aJ];exact(Vm.stored _ _).1
  have Vn:MU.ownsRow w1.heap.size 230 1 (.slice (some ⟨w1.heap.size,0,none⟩) zs.length zs.length) zs.length (Bq (vs.set x.1.1 (t/y))):=by rw [hW2];exact ownsRow_setCell_other AlJ (KW (w1.heap.size+1) (by omega)) _
  have AaE:W0.heap[w1.heap.size+1]?=some (.cells #[.int .u64 (t:Nat)] 230 (0,0)):=by rw [hW0];exact one_setCell Jw
  have oH:LG.heap[w1.heap.size+1]?=some (.cells #[.int .u64 (t:Nat)] 230 (0,0)):=by rw [hW1,Below.heap_setCell _ _ _ _ (show w1.heap.size+1≠w1.heap.size by omega)];exact AaE
  have Anx:MU.heap[w1.heap.size+1]?=some (.cells #[.int .u64 ((t%y:Nat):Int)] 230 (0,0)):=(by rw [hW2];exact one_setCell oH);have AhZ:=cell_of_one AaE;have cj:=cell_of_one oH;have Aiv:=free_of_one oH;have hb0:∀k,k≠w1.heap.size+1→W0.heap[k]?=W.heap[k]?:=fun k hk=>(by rw [hW0];exact Below.heap_setCell W _ _ k hk);have hb1:∀k,k≠w1.heap.size→k≠w1.heap.size+1→LG.heap[k]?=W.heap[k]?:=fun k hk hk2=>(by rw [hW1,Below.heap_setCell _ _ _ _ hk];exact hb0 k hk2);have hb2:∀k,k≠w1.heap.size→k≠w1.heap.size+1→MU.heap[k]?=W.heap[k]?:=fun k hk hk2=>(by rw [hW2,Below.heap_setCell _ _ _ _ hk2];exact hb1 k hk hk2);have Ahb:=(World.cell?_of_block (a:=⟨w.heap.size,0,none⟩) (hb0 w.heap.size (by omega))).trans h3;have Ahg:=(World.cell?_of_block (a:=⟨w.heap.size+1,0,none⟩) (hb0 (w.heap.size+1) (by omega))).trans h4;have AjK:=(World.cell?_of_block (a:=⟨bb,ob,none⟩) (hb0 bb (by omega))).trans hy;have Ahc:=(World.cell?_of_block (a:=⟨w.heap.size,0,none⟩) (hb1 w.heap.size (by omega) (by omega))).trans h3;have Ahh:=(World.cell?_of_block (a:=⟨w.heap.size+1,0,none⟩) (hb1 (w.heap.size+1) (by omega) (by omega))).trans h4;have AjL:=(World.cell?_of_block (a:=⟨bb,ob,none⟩) (hb1 bb (by omega) (by omega))).trans hy;have Ahd:=(World.cell?_of_block (a:=⟨w.heap.size,0,none⟩) (hb2 w.heap.size (by omega) (by omega))).trans h3;have Ahi:=(hb2 (w.heap.size+1) (by omega) (by omega)).trans KF;have AjM:=(World.cell?_of_block (a:=⟨bb,ob,none⟩) (hb2 bb (by omega) (by omega))).trans hy
  have Bw:Below w.heap.size W MU:=by rw [hW2,hW1,hW0];exact(((Below.refl _ W).setCell (by show w.heap.size<=w1.heap.size+1;omega) _).drew.setCell (by show w.heap.size<=w1.heap.size;omega) _).setCell (by show w.heap.size<=w1.heap.size+1;omega) _
  have QK:=Vm.frozenAt (g:=w1.heap.size) x.1.1
  have hqc:(W0.cell? ⟨w1.heap.size,x.1.1,none⟩).isSome:=by have h1:(Bq vs)[x.1.1]?=some (.int .u64 (Ag vs x.1.1:Nat)):=(by simp [Bq,Ag,Jz,hix]);have h2:=Vm.cells (g:=w1.heap.size) rfl x.1.1 _ h1;rw [Addr.add_lit,Nat.zero_add]at h2;rw [h2];rfl
  refine Ape 33 13
   (fun i=>#[.slice (some ⟨w1.heap.size,0,none⟩) zs.length zs.length,.int .i64 (x.1.1:Nat),.int .u64 (t:Nat),.slice (some ⟨bb,ob,none⟩) 1 cb,.pointer (some ⟨bb,ob,none⟩),.int .u64 (y:Nat),.int .u64 ((t/y:Nat):Int),.int .u64 (t:Nat),.slice (some ⟨bb,ob,none⟩) 1 cb,.pointer (some ⟨bb,ob,none⟩),.int .u64 (y:Nat),.int .u64 ((t%y:Nat):Int),.pointer (some ⟨w1.heap.size,x.1.1,none⟩)].getD i undef)
   (Kr 13 14 W0 LG MU) (by kernel_rfl) (by simp) hW0 ?_ ?_
  ·intro listed a i o Au hr ho K hK;obtain⟨Dx,o',Y6,FK⟩:=mem_ready.1 hr;obtain rfl:=Option.some.inj (Y6.symm.trans ho);have hi:i<15:=(Array.getElem?_eq_some_iff.1 ho).1
   have eL:listed.getD 14 false=false:=by
    by_cases h:listed.getD 14 false=true
    ·exfalso
     have h1:∀j,j<15→listed.getD j false=true:=by
      intro j hj;by_cases e:j=14
      ·rw [e];exact h
      ·exact Au.waits (j:=14) rfl h j (by
        rcases(by omega:j=0∨j=1∨j=2∨j=3∨j=4∨j=5∨j=6∨j=7∨j=8∨j=9∨j=10∨j=11∨j=12∨j=13)with rfl|rfl|rfl|rfl|rfl|rfl|rfl|rfl|rfl|rfl|rfl|rfl|rfl|rfl<;>kernel_rfl)
     have h2:=h1 i hi;rw [getD_both Dx]at h2
     cases h2
    ·simpa using h
   have e3:=Au.out (s:=33) (m:=13) (by kernel_rfl) (d:=3) (by omega) rfl;have e4:=Au.out (s:=33) (m:=13) (by kernel_rfl) (d:=4) (by omega) rfl;have e6:=Au.out (s:=33) (m:=13) (by kernel_rfl) (d:=6) (by omega) rfl;have e7:=Au.out (s:=33) (m:=13) (by kernel_rfl) (d:=7) (by omega) rfl;have hval:=fun i {d} hd hi hl {v} hv=>Au.val (s:=33) (m:=13) (by kernel_rfl) i (d:=d) hd hi hl (v:=v) hv;refine⟨fun _ _=>trivial,?_⟩;rw [Oper.semAt_eq _ _ _ (Alp (l:=_) (by kernel_rfl) i o' ho)];have lm:=Au.lsz;clear Y6 Au;by_cases Aqy:i<13
   ·rw [Apj (by omega) (by omega)]at hK
    obtain⟨V,hV,cg,wZ,h4V,ue⟩:∃V,Kr 13 14 W0 LG MU listed=V/\V.cell? ⟨w1.heap.size+1,0,none⟩=some (.int .u64 (t:Nat))/\V.cell? ⟨w.heap.size,0,none⟩=some (.slice (some ⟨bb,ob,none⟩) 1 cb)
      /\V.cell? ⟨w.heap.size+1,0,none⟩=some (.slice (some ⟨w1.heap.size,0,none⟩) zs.length zs.length)/\V.cell? ⟨bb,ob,none⟩=some (.int .u64 (y:Nat)):=by
     by_cases OJ:listed.getD 13 false=true
     ·exact⟨LG,pM OJ eL,cj,Ahc,Ahh,AjL⟩
     ·exact⟨W0,AbZ (by simpa using OJ),AhZ,Ahb,Ahg,AjK⟩
    rw [hV]at hK ⊢;clear hV
    rcases(by omega:i=0∨i=1∨i=2∨i=3∨i=4∨i=5∨i=6∨i=7∨i=8∨i=9∨i=10∨i=11∨i=12)with rfl|rfl|rfl|rfl|rfl|rfl|rfl|rfl|rfl|rfl|rfl|rfl|rfl
    all_goals simp only [List.getElem?_toArray,List.getElem?_cons_zero,List.getElem?_cons_succ,Asj]at ho
    all_goals subst ho
    all_goals have Cx:=VK FK
    all_goals simp only [Act.eval]at e3 e4 e6 e7
    all_goals clear lm
    ·clear hval Cx FK Dx hr;simp [execOp,go_sem,Oper.uponIn,e4,h4V];exact hK
    ·clear hval Cx FK Dx hr;simp [execOp,go_sem,Oper.uponIn,e7];exact hK
    ·clear hval Cx FK Dx hr;simp [execOp,go_sem,Oper.uponIn,e6,cg];exact hK
    ·clear hval Cx FK Dx hr;simp [execOp,go_sem,Oper.uponIn,e3,wZ];exact hK
    ·have f36:=hval 3 (d:=36) rfl (by omega) (Cx 3 (by kernel_rfl)) rfl;simp only [Act.eval]at f36;clear hval Cx FK Dx hr;simp [execOp,go_sem,Oper.uponIn,f36];exact hK
    ·have f37:=hval 4 (d:=37) rfl (by omega) (Cx 4 (by kernel_rfl)) rfl;simp only [Act.eval]at f37;clear hval Cx FK Dx hr;simp [execOp,go_sem,Oper.uponIn,ue,f37];exact hK
    ·have f35:=hval 2 (d:=35) rfl (by omega) (Cx 2 (by kernel_rfl)) rfl;have f38:=hval 5 (d:=38) rfl (by omega) (Cx 5 (by kernel_rfl)) rfl;simp only [Act.eval]at f35 f38;clear hval Cx FK Dx hr;have hy1:y≠0:=(by omega);simp [execOp,go_sem,Oper.uponIn,hy1,f35,f38,hq];exact hK
    ·clear hval Cx FK Dx hr;simp [execOp,go_sem,Oper.uponIn,e6,cg];exact hK
    ·clear hval Cx FK Dx hr;simp [execOp,go_sem,Oper.uponIn,e3,wZ];exact hK
    ·have wA:=hval 8 (d:=41) rfl (by omega) (Cx 8 (by kernel_rfl)) rfl;simp only [Act.eval]at wA;clear hval Cx FK Dx hr;simp [execOp,go_sem,Oper.uponIn,wA];exact hK
    ·have wB:=hval 9 (d:=42) rfl (by omega) (Cx 9 (by kernel_rfl)) rfl;simp only [Act.eval]at wB;clear hval Cx FK Dx hr;simp [execOp,go_sem,Oper.uponIn,ue,wB];exact hK
    ·have f40:=hval 7 (d:=40) rfl (by omega) (Cx 7 (by kernel_rfl)) rfl;have wC:=hval 10 (d:=43) rfl (by omega) (Cx 10 (by kernel_rfl)) rfl;simp only [Act.eval]at f40 wC;clear hval Cx FK Dx hr;have hy1:y≠0:=(by omega);have hm:(t:Int).tmod (y:Int)=((t%y:Nat):Int):=(by rw [Int.tmod_eq_emod_of_nonneg (by omega)];simp);simp [execOp,go_sem,Oper.uponIn,hy1,f40,wC,hm];exact hK
    ·have f33:=hval 0 (d:=33) rfl (by omega) (Cx 0 (by kernel_rfl)) rfl;have f34:=hval 1 (d:=34) rfl (by omega) (Cx 1 (by kernel_rfl)) rfl;simp only [Act.eval]at f33 f34;clear hval Cx FK Dx hr;simp [execOp,go_sem,Oper.uponIn,hix,f33,f34];exact hK
   ·have hsz:=lm
    rcases(by omega:i=13∨i=14)with rfl|rfl
    ·have OJ:listed.getD 13 false=false:=getD_both Dx;rw [pM (KE (by rw [hsz];exact hi)) (by rw [getD_set_ne false (by omega)];exact eL)]at hK;rw [AbZ OJ];simp only [List.getElem?_toArray,List.getElem?_cons_zero,List.getElem?_cons_succ,Asj]at ho;subst ho;have Cx:=VK FK;have f39:=hval 6 (d:=39) rfl (by omega) (Cx 6 (by kernel_rfl)) rfl;have wF:=hval 12 (d:=45) rfl (by omega) (Cx 12 (by kernel_rfl)) rfl;simp only [Act.eval]at f39 wF;clear hval Cx FK Dx hr;obtain⟨vq,lO⟩:=Option.isSome_iff_exists.1 hqc;simp [execOp,go_sem,Oper.uponIn,f39,wF,QK,lO];rw [hW1]at hK;exact hK
    ·simp only [List.getElem?_toArray,List.getElem?_cons_zero,List.getElem?_cons_succ,Asj]at ho;subst ho;have Cx:=VK FK;have OJ:=Cx 13 (by kernel_rfl);rw [Aca (getD_set_true OJ) (KE (by rw [hsz];exact hi))]at hK;rw [pM OJ eL];have wE:=hval 11 (d:=44) rfl (by omega) (Cx 11 (by kernel_rfl)) rfl;simp only [Act.eval]at wE e6;clear hval Cx FK Dx hr;simp [execOp,go_sem,Oper.uponIn,wE,e6,Aiv,cj];rw [hW2]at hK;exact hK
  ·intro listed a Au hall;rw [Aca (hall 13 (by decide)) (hall 14 (by decide))];refine⟨⟨Bw.size,fun k o hk Yp _=>?_⟩,⟨Bw,hb2 _ (by omega) (by omega)⟩,vs.set x.1.1 (t/y),t%y,by rw [List.length_set,Jz],Vn,Anx,Ahd,Ahi,AjM,?_,?_,?_⟩
   ·rw [Asn]at hk;rw [hb2 k (by omega) (by omega)];exact Yp
   ·obtain⟨bx,As⟩:=Jn;exact⟨bx,by rw [hb2 _ (by omega) (by omega)];exact As⟩
   ·exact Below.trans hxx Bw
   ·intro k hk e
    cases k with
    | zero=>simp [upto]at e
    | succ k=>rw [upto_succ]at e;obtain⟨e1,e2⟩:=List.append_inj' e rfl;simp only [List.cons.injEq,and_true]at e2;have Ic:=hg k hk;rw [←e2]at Ic;have h5:=Ud k (by omega) e1;have h6:x.1.1=zs.length-1-k:=(by rw [Ic];rfl);have h7:x.1.2=Ag zs x.1.1:=(by rw [h6,Ic];rfl);rw [show zs.length-k=x.1.1+1 by omega]at h5;rw [show zs.length-(k+1)=x.1.1 by omega];exact h5.step Ba hlt (by rw [←h7];exact htg h5.rl)
 case done=>
  rintro D ys W hD rfl ⟨vs,r,Jz,hown,Jw,h3,KF,hy,Jn,hxx,Ud⟩ hK;have h4:=cell_of_one KF;have hdone:=Ud zs.length (Asf _) rfl;rw [Nat.sub_self]at hdone;have hc6:=cell_of_one Jw;simp only [Asn]at hD;have Gz:=(Aa.refl W).drew;have Ay:=((Aa.refl W).alloc (.cells #[.int .u64 (r:Nat)] 230)).drew
  have U1:Cc W (some ⟨w1.heap.size,0,none⟩) zs.length vs:=by obtain⟨A',c',e1,h1⟩:=Rd.of_own (base:=w1.heap.size) (l:=vs) (by rw [Jz];exact hown) (by omega);simp only [Value.slice.injEq]at e1;obtain⟨rfl,_,rfl⟩:=e1;exact h1
  have hr9:r<1000000000:=by have:=hdone.rl;omega
  have BY:Cc (W.alloc (.cells #[.int .u64 (r:Nat)] 230)).drew (some ⟨W.heap.size,0,none⟩) 1 [r]:=
   ⟨by simp,by omega,by simp,fun _=>⟨W.heap.size,0,rfl,fun j hj=>by
    obtain rfl:j=0:=(by simpa using hj);show (W.alloc (.cells #[.int .u64 (r:Nat)] 230)).cell? ⟨W.heap.size,0,none⟩=_
    rw [World.cell?_alloc_at _ _ _ _ (by rfl)];simp [Ag]⟩⟩
  have B8:=Sb vs _ _ W.drew (U1.ext Gz) hdone.lt;have BR:=Sb vs _ _ _ (U1.ext Ay) hdone.lt;have YB:=Sb [r] _ _ _ BY (by intro z hz;simp only [Ass]at hz;omega);rw [Jz]at B8 BR;have h4':=Ay.cellS h4;have f4:=free_of_one ((Ay.block _ (Asd KF)).trans KF);simp only [List.length_singleton]at YB;have hDW:=Asd hK
  have Xz:(((W.alloc (.cells #[.int .u64 (r:Nat)] 230)).setCell ⟨w.heap.size+1,0,none⟩ (.slice (some ⟨w1.heap.size,0,none⟩) (pc 1000000000 (Ah 1000000000 vs)).length zs.length)).drew).heap[D]?=some (.deferred (some [])):=by show (((W.alloc (.cells #[.int .u64 (r:Nat)] 230)).setCell ⟨w.heap.size+1,0,none⟩ (.slice (some ⟨w1.heap.size,0,none⟩) (pc 1000000000 (Ah 1000000000 vs)).length zs.length))).heap[D]?=_;rw [Below.heap_setCell _ _ _ _ (show D≠w.heap.size+1 by omega),Below.heap_alloc _ _ _ hDW];exact hK
  obtain⟨X,hX⟩:=AcG (((W.alloc (.cells #[.int .u64 (r:Nat)] 230)).setCell ⟨w.heap.size+1,0,none⟩ (.slice (some ⟨w1.heap.size,0,none⟩) (pc 1000000000 (Ah 1000000000 vs)).length zs.length)).drew);have eN:=(Ay.block _ (Asd KF)).trans KF
  have cz:(X.putObj D (.deferred none)).cell? ⟨w.heap.size+1,0,none⟩=some (.slice (some ⟨w1.heap.size,0,none⟩) (pc 1000000000 (Ah 1000000000 vs)).length zs.length):=by refine cell_of_one (t:=199) ?_;rw [World.putObj_heap_other (by omega),hX];exact one_setCell eN
  have NK:Qg (x/y) (x%y) w (.returned (.tuple #[.slice (some ⟨w1.heap.size,0,none⟩) (pc 1000000000 (Ah 1000000000 vs)).length zs.length,.slice (some ⟨W.heap.size,0,none⟩) (pc 1000000000 (Ah 1000000000 [r])).length 1])) (X.putObj D (.deferred none)):=by
   have Cy:=hdone.done;have Mr:Ah 1000000000 zs=x:=(by rw [HZ.out,AM b9]);rw [Mr]at Cy;have e1:Ah 1000000000 [r]=x%y:=by simp [Ah,Cy.2]
   have k1:Cc (X.putObj D (.deferred none)) (some ⟨w1.heap.size,0,none⟩) zs.length (pc 1000000000 (x/y)):=by rw [←Cy.1];refine Cc.putObj ?_ (by rw [hX];exact Xz) rfl _;rw [hX];exact((U1.ext Ay).pc hdone.lt).setCell (w:=(W.alloc (.cells #[.int .u64 (r:Nat)] 230)).drew) (cell_of_one eN) (by simp)
   have k2:Cc (X.putObj D (.deferred none)) (some ⟨W.heap.size,0,none⟩) 1 (pc 1000000000 (x%y)):=by rw [←e1];refine Cc.putObj ?_ (by rw [hX];exact Xz) rfl _;rw [hX];exact(BY.pc (by intro z hz;simp only [Ass]at hz;omega)).setCell (w:=(W.alloc (.cells #[.int .u64 (r:Nat)] 230)).drew) (cell_of_one eN) (by simp)
   rw [Cy.1,e1];refine⟨_,_,rfl,⟨_,_,rfl,k1⟩,⟨_,_,rfl,k2⟩,?_⟩
   have Cs:Aa w X:=by rw [hX];exact(((hxx.alloc _).setCell (by show w.heap.size<=w.heap.size+1;omega) _)).drew
   exact Below.trans Cs (belowK_b (w:=w) (Asf _) X D _ _ (by omega) (by rw [hX];exact Xz) rfl rfl)
  rw [hX]at cz NK;clear hX;gi_wp2;refine wpIn_wide.2 (wp_region_noPanic ?_)
  go_region_with (go_at_call 216;((first|(with_reducible refine B8.mono ?_)|(with_reducible refine BR.mono ?_)|(with_reducible refine YB.mono ?_));rintro e w' ⟨rfl,rfl⟩))
  all_goals refine NoPanic.normal ?_
  all_goals gi_wp2
  all_goals simp only [List.getElem_toArray,List.getElem_cons_succ,List.getElem_cons_zero,Act.put,List.setIfInBounds_toArray,List.set_cons_succ,List.set_cons_zero]
  all_goals refine⟨by simp,.inl ⟨_,_,rfl,run_takeDeferred Xz,?_⟩⟩
  all_goals exact⟨_,by simp [results,Tryz.results213,go_sem,cz],NK⟩
 case stop=>rintro D c pre W _ _ h _;exact h.elim
end Go.Proofs.YtdaefncphfeaeaaGreatDoor
