/- J13: Div1 Div2 Div3 Int8. -/
import Derived.Test.YtnddllipjippnaaGreatDoorJ12
import Derived.Deep.DeepCutAuto
set_option maxRecDepth 100000
set_option maxHeartbeats 4000000
namespace Go.Proofs.YtnddllipjippnaaGreatDoor
open Go.RowKit Kl Go.Shelf
attribute [local go_sem] Oper.semAt_some
def P4(q r:Nat)(w:World)(e:Ending)(w':World):Prop:=
 ∃vq vr,e=.returned (.tuple #[vq,vr])/\Rd w' vq (pc 1000000000 q)/\Rd w' vr (pc 1000000000 r)/\Ab w w'
theorem Rd.nil(w:World):Rd w (.slice none 0 0) []:=⟨none,0,rfl,by simp,by omega,by simp,fun h=>by simp at h⟩
theorem b9:(2:Nat)<=1000000000:=by omega
theorem sR(x y:Nat)(iK:x<y)(u v:Value)(w:World)(hu:Rd w u (pc 1000000000 x))(hv:Rd w v (pc 1000000000 y)) :
  Calls Tryz.prog 208 #[u,v] w (P4 0 x w):=by
 have J0:=fun W hu hv=>QP (pc 1000000000 x) (pc 1000000000 y) u v W hu hv (B8 b9 x) (B8 b9 y) (G8 b9 x) (G8 b9 y);rw [Bn b9,Bn b9,ML iK]at J0;have hx1:=((Ab.refl w).alloc (.cells #[v] 270)).alloc (.cells #[.slice none 0 0] 270);have ho:=J0 _ (hu.ext hx1) (hv.ext hx1);have OR:=hu;have iD:=hv;obtain⟨A,ca,e1,CG⟩:=OR;obtain⟨B,cb,e2,Ct⟩:=iD;clear J0;rw [e1,e2]at ho;subst e1 e2;go_enter Tryz.func208,Tryz.ntmps208;(go_wp2_with fail);(with_reducible refine ho.mono ?_);rintro e w1 ⟨rfl,hx2⟩;obtain⟨hc2,hf2⟩:=hx2.cells;go_wp2;refine bodyPost_ret (v:=.tuple #[.slice none 0 0,.slice A (pc 1000000000 x).length ca]) (by simp [results,Tryz.results208,go_sem,hc2]) rfl ?_;have e0:=hc2 (w.heap.size+1) 0 (by simp);rw [World.cell?_alloc_at _ _ _ _ (by simp)]at e0;exact⟨_,_,rfl,by rw [IL];exact Rd.nil _,⟨A,ca,rfl,((CG.ext hx1).ext hx2).setCell e0 (by simp)⟩,(hx1.trans hx2).setCell (by show w.heap.size<=w.heap.size+1;omega) _⟩
/-! ### One piece -/
structure IV(a qs:List Nat)(y i r:Nat):Prop where
 len:qs.length=a.length
 lt:∀x∈qs,x<1000000000
 le:i<=a.length
 rl:r<y
 sum:Ao 1000000000 (qs.drop i)*y+r=Ao 1000000000 (a.drop i)
theorem IV.start{a:List Nat}{y:Nat}(hy:0<y):IV a (List.replicate a.length 0) y a.length 0:=
 ⟨by simp,by intro x hx;rw [List.mem_replicate]at hx;omega,Ao7 _,hy,by simp [Ao]⟩
theorem IV.step{a qs:List Nat}{y i r t:Nat}(h:IV a qs y (i+1) r)(hy:0<y)(ha:∀x∈a,x<1000000000)(ht:t=r*1000000000+Ap a i) :
  IV a (qs.set i (t/y)) y i (t%y):=by
 have hi:i<a.length:=h.le;have hai:=CQ ha hi
 have hq:t/y<1000000000:=by rw [Nat.div_lt_iff_lt_mul hy];have h1:r+1<=y:=h.rl;have:(r+1)*1000000000<=y*1000000000:=Nat.mul_le_mul_right _ h1;omega
 refine⟨by rw [List.length_set,h.len],jH h.lt hq,by omega,Nat.mod_lt _ hy,?_⟩
 have e1:(qs.set i (t/y)).drop i=t/y::qs.drop (i+1):=by rw [MM (by rw [List.length_set,h.len];exact hi),List.drop_set_of_lt (by omega)];simp [Ap,h.len,hi]
 rw [e1,MM hi];simp only [Ao];have hs:=h.sum;have hm:=Nat.div_add_mod t y;generalize Ao 1000000000 (qs.drop (i+1))=Q at *;generalize Ao 1000000000 (a.drop (i+1))=V at *;generalize t/y=d at *;generalize t%y=m at *;have e2:(d+1000000000*Q)*y=y*d+1000000000*(Q*y):=(by rw [Nat.add_mul,Nat.mul_comm d y,Nat.mul_assoc]);rw [e2];omega
theorem IV.done{a qs:List Nat}{y r:Nat}(h:IV a qs y 0 r):Ao 1000000000 qs=Ao 1000000000 a/y/\r=Ao 1000000000 a%y:=by
 have hs:=h.sum;have hr:=h.rl;rw [List.drop_zero,List.drop_zero]at hs;rw [←hs,Nat.mul_comm];exact⟨by rw [Nat.mul_add_div (by omega),Nat.div_eq_of_lt hr,Nat.add_zero],by rw [Nat.mul_add_mod,Nat.mod_eq_of_lt hr]⟩
abbrev Pj(n:Nat):={p:Nat×Nat // p.2<1000000000/\p.1<n}
theorem Adb(zs:List Nat)(h0:0<zs.length)(hz:∀x∈zs,x<1000000000):∃g:Nat→Pj zs.length,∀k,k<zs.length→(g k).1=ES zs k:=
 ⟨fun k=>if h:k<zs.length then ⟨ES zs k,CQ hz (by omega),by simp only [ES];omega⟩else ⟨(0,0),by omega,h0⟩,fun k hk=>by simp [hk]⟩
def D1(w:World)(zs:List Nat)(y:Nat)(g:Nat→Pj zs.length)(qb bb ob cb xb:Nat)(pre:List (Pj zs.length))(W:World):Prop:=
 ∃(vs:List Nat) (r:Nat),vs.length=zs.length/\W.ownsRow qb 179 1 (.slice (some ⟨qb,0,none⟩) zs.length zs.length) zs.length (Bw vs)
  /\W.heap[qb+1]?=some (.cells #[.int .u64 (r:Nat)] 179 (0,0))
  /\W.cell? ⟨w.heap.size,0,none⟩=some (.slice (some ⟨bb,ob,none⟩) 1 cb)
  /\W.heap[w.heap.size+1]?=some (.cells #[.slice (some ⟨qb,0,none⟩) zs.length zs.length] 270 (0,0))
  /\W.cell? ⟨bb,ob,none⟩=some (.int .u64 (y:Nat))
  /\(∃x,W.heap[xb]?=some (.cells x 270 (0,0)))
  /\Ab w W
  /\∀k,k<=zs.length→pre=upto g k→IV zs vs y (zs.length-k) r
theorem BX.putObj{w:World}{A:Option Addr}{c D:Nat}{l:List Nat}{o:Obj}(h:BX w A c l)(hD:w.heap[D]?=some o)(ho:o.isCells=false)(o':Obj):BX (w.putObj D o') A c l:=
 ⟨h.cap,h.max,h.len,fun h0=>by
  obtain⟨b,o1,e,hc⟩:=h.ad h0
  exact⟨b,o1,e,fun j hj=>cell_kept (hc j hj) (grownBy_putObj' w D o') (fun r e=>by cases e;exact⟨o,hD,ho⟩)⟩⟩
theorem Ada(r x y:Nat)(hy:y<1000000000)(hx:x<1000000000):∃t:Nat,IntKind.u64.wrap (IntKind.u64.wrap ((r:Int)*1000000000)+(x:Int))=(t:Int)/\(r<y→t=r*1000000000+x)/\IntKind.u64.wrap ((t:Int)/(y:Int))=((t/y:Nat):Int):=by
 refine⟨(r*1000000000%18446744073709551616+x)%18446744073709551616,?_,fun h=>by omega,?_⟩
 ·simp only [IntKind.wrap_u64];omega
 ·simp only [IntKind.wrap_u64];generalize hm:(r*1000000000%18446744073709551616+x)%18446744073709551616=m;have h1:m/y<=m:=Nat.div_le_self _ _;have h2:(m:Int)/(y:Int)=((m/y:Nat):Int):=(by simp);have h3:m<18446744073709551616:=(by omega);rw [h2];generalize m/y=q at *;omega
theorem Ado(x y:Nat)(Xx:y<=x)(BA:0<y)(Ui:y<1000000000)(u v:Value)(w:World)(hu:Rd w u (pc 1000000000 x))(hv:Rd w v (pc 1000000000 y)) :
  Calls Tryz.prog 208 #[u,v] w (P4 (x/y) (x%y) w):=by
 have J0:=fun W hu hv=>QP (pc 1000000000 x) (pc 1000000000 y) u v W hu hv (B8 b9 x) (B8 b9 y) (G8 b9 x) (G8 b9 y)
 obtain⟨s,hs,hs0⟩:∃s:Int,s=El x y/\¬s<0:=by
  rcases Nat.lt_or_eq_of_le Xx with h|h
  ·exact⟨_,rfl,by rw [Lb h];omega⟩
  ·exact⟨_,rfl,by rw [PI h.symm];omega⟩
 rw [Bn b9,Bn b9,←hs]at J0;clear hs;have hx1:=((Ab.refl w).alloc (.cells #[v] 270)).alloc (.cells #[.slice none 0 0] 270);have ho:=J0 _ (hu.ext hx1) (hv.ext hx1);obtain⟨zs,hzs⟩:=Ao3 (pc 1000000000 x);have hlt:∀x∈zs,x<1000000000:=(by rw [hzs];exact B8 b9 x);rw [←hzs]at hu
 have N6:0<zs.length:=by rw [List.length_pos_iff,hzs];intro e;have:=(QT b9).1 e;omega
 rw [kN b9 BA Ui]at hv;have HZ:=Ao4 hzs;clear hzs J0;have Bf:=hu;obtain⟨A,ca,e1,CG⟩:=hu;obtain⟨B,cb,e2,Ct⟩:=hv;have GW:=CG.len;obtain⟨bb,ob,rfl,hcb⟩:=Ct.ad (by simp);have CN:=hcb 0 (by simp);simp only [List.length_singleton]at e2;have CN:w.cell? ⟨bb,ob,none⟩=some (.int .u64 (y:Nat)):=(by simpa [Ap]using CN);have AP:=Ct.cap;have hmax:=Ct.max;simp only [List.length_singleton]at AP;have hmk:=jJ zs.length (by omega) (zs.length:Int) rfl;rw [e1,e2]at ho;rw [e2]at hx1;subst e1 e2;refine(callsIn_wide (n:=4)).1 ?_;refine callsIn_of_wp_marks Tryz.func208 rfl trivial ?_ rfl;simp only [Tryz.ntmps208,List.size_toArray,List.length_cons,List.length_nil,Nat.reduceAdd,Nat.reduceSub,Array.replicate_succ,Array.replicate_zero,List.push_toArray,List.append_toArray,List.nil_append,List.cons_append];gi_wp2;refine⟨trivial,?_⟩;refine(callsIn_wide.2 ho).mono ?_;rintro e w1 ⟨rfl,hx2⟩;obtain⟨hc2,hf2⟩:=hx2.cells;have OP:=hx2.size;simp only [AoE]at OP;have Agh:w.heap.size<w1.heap.size:=(by omega);have AnJ:w.heap.size+1<w1.heap.size:=(by omega);gi_wp2;obtain⟨W2,hW2⟩:=Ao3 (((w1.setCell ⟨w.heap.size+1,0,none⟩ (.slice (some ⟨w1.heap.size,0,none⟩) zs.length zs.length)).alloc (.cells (madeCells #[.int .u64 0] zs.length) 179)).alloc (.cells #[.int .u64 0] 179));rw [←hW2];have hn:zs.length<=200000:=by omega
 have k3:W2.cell? ⟨w.heap.size,0,none⟩=some (.slice (some ⟨bb,ob,none⟩) 1 cb):=by
  have h:=hc2 (w.heap.size) 0 (by simp;omega);rw [hW2]
  go_simp
 have k4:W2.cell? ⟨w.heap.size+1,0,none⟩=some (.slice (some ⟨w1.heap.size,0,none⟩) zs.length zs.length):=by
  have h:=hc2 (w.heap.size+1) 0 (by simp);have h2:=hf2 (w.heap.size+1) 0;rw [hW2]
  go_simp
 have k4b:W2.heap[w.heap.size+1]?=some (.cells #[.slice (some ⟨w1.heap.size,0,none⟩) zs.length zs.length] 270 (0,0)):=by have h1:=hx2.block (w.heap.size+1) (by simp);have h2:=Ao6 (w.alloc (.cells #[.slice (some ⟨bb,ob,none⟩) 1 cb] 270)) (.cells #[.slice none 0 0] 270);rw [AoE]at h2;have h3:=one_setCell (u:=.slice (some ⟨w1.heap.size,0,none⟩) zs.length zs.length) (h1.trans h2);rw [hW2,Below.heap_alloc _ _ _ (by simp;omega),Below.heap_alloc _ _ _ (by simp;omega)];exact h3
 have k6:W2.heap[w1.heap.size+1]?=some (.cells #[.int .u64 0] 179 (0,0)):=by
  rw [hW2];have h:=Ao6 ((w1.setCell ⟨w.heap.size+1,0,none⟩ (.slice (some ⟨w1.heap.size,0,none⟩) zs.length zs.length)).alloc (.cells (madeCells #[.int .u64 0] zs.length) 179)) (.cells #[.int .u64 0] 179)
  simpa using h
 have Afh:W2.cell? ⟨bb,ob,none⟩=some (.int .u64 (y:Nat)):=by
  have hb:=World.block_lt_of_cell? w _ CN;have h1:w1.cell? ⟨bb,ob,none⟩=some (.int .u64 (y:Nat)):=((((Ab.refl w).alloc _).alloc _).trans hx2).cellS CN;have h2:bb≠w.heap.size+1:=(by have:bb<w.heap.size:=hb;omega);have h3:bb<w1.heap.size:=(by have:bb<w.heap.size:=hb;omega);rw [hW2]
  go_simp
 have gp:W2.heap.size=w1.heap.size+2:=by rw [hW2];simp
 have B9:Ab w W2:=by rw [hW2];exact((((Ab.refl w).alloc _).alloc _).trans hx2 |>.setCell (by show w.heap.size<=w.heap.size+1;omega) _).alloc _ |>.alloc _
 have ho2:W2.ownsRow w1.heap.size 179 1 (.slice (some ⟨w1.heap.size,0,none⟩) zs.length zs.length) zs.length (Bw (List.replicate zs.length 0)):=by rw [hW2];have h:=kK (w1.setCell ⟨w.heap.size+1,0,none⟩ (.slice (some ⟨w1.heap.size,0,none⟩) zs.length zs.length)) w1.heap.size zs.length (by simp) hn;rw [World.size_setCell]at h;exact h.alloc _
 have Is:=Ao4 gp;have AnP:w1.heap.size+2<=W2.heap.size:=(by omega);clear hW2 hc2 hf2 hmk hcb gp;obtain⟨g,hg⟩:∃g:Nat→Pj zs.length,∀k,k<zs.length→(g k).1=ES zs k:=Adb zs N6 hlt;refine⟨trivial,?_⟩;refine(Z7 Fence.wide 3 trivial rfl _ _ ⟨_,_,_,rfl⟩).mono ?_;rintro e W3 ⟨rfl,rfl⟩;gi_wp2
 refine wpIn_rangeFunc_ownG rfl (by omega) (gf:=292) (lb:=#[.pointer (some ⟨W2.heap.size,0,none⟩)]) rfl trivial (enters_of Tryz.func292 (by kernel_rfl) rfl)
  (Z8 (fun p:Pj zs.length=>p.1.1) (fun p:Pj zs.length=>p.1.2) Fence.wide 3 trivial rfl (by omega) W2.heap.size w.heap.size _ zs g (fun k hk=>by have:=hg k hk;simpa using this) (W2.alloc (.cells #[.slice A zs.length ca] 270)) (by simp) (by simp;omega) (by simp) ⟨w,Bf,Ao7 _,B9.alloc _⟩)
  (fun h k=>h.trans k) (BS.put (by simp;omega) (by simp)) (Below.refl _ _) (fun _=>rfl)
  (D1 w zs y g w1.heap.size bb ob cb W2.heap.size)
  (fun _ _ _=>False) ?hI (fun _ _ _ _ _ hs _ _=>hs) ?h0 ?a1 ?assign ?body ?done ?stop
 case a1=>exact fun x=>{tmps:=#[.slice A zs.length ca,.slice (some ⟨bb,ob,none⟩) 1 cb,undef,.pointer (some ⟨w.heap.size,0,none⟩),.pointer (some ⟨w.heap.size+1,0,none⟩),.slice none 0 0,.pointer (some ⟨w1.heap.size+1,0,none⟩),.int .i64 (x.1.1:Nat),.int .u64 (x.1.2:Nat),undef,undef,undef,undef,undef,.slice A zs.length ca,.slice (some ⟨bb,ob,none⟩) 1 cb,.int .i64 s,.bool (decide (s<0)),undef,.slice (some ⟨bb,ob,none⟩) 1 cb,.int .i64 1,.bool true,.slice A zs.length ca,.int .i64 zs.length,.slice (some ⟨w1.heap.size,0,none⟩) zs.length zs.length,.slice A zs.length ca,.func (.func 292) #[] #[.pointer (some ⟨W2.heap.size,0,none⟩)],.int .i64 (x.1.1:Nat),.int .u64 (x.1.2:Nat),undef,undef,undef,undef,undef,undef,undef,undef,undef,undef,undef,undef,undef,undef,undef,undef,undef,undef,undef,undef,undef,undef,undef,undef,undef,undef,undef,undef,undef,undef,undef,undef,undef,undef,undef,undef,undef,undef,undef,undef,undef,undef,undef,undef,undef,undef,undef,undef,undef,undef,undef,undef,undef,undef,undef,undef,undef,undef,undef,undef,undef,undef,undef,undef,undef,undef,undef,undef,undef,undef,undef,undef,undef,undef,undef,undef,undef,undef,undef,undef,undef,undef,undef,undef,undef,undef,undef,undef,undef,undef,undef,undef,undef,undef,undef,undef,undef,undef,undef,undef,undef,undef,undef,undef,undef,undef,undef,undef,undef,undef,undef,undef,undef,undef,undef,undef,undef],defers:=[]}
 case hI=>
  rintro pre W W' row ⟨vs,r,IG,hown,OO,h3,JW,hy,⟨bx,Cq⟩,hxx,L2⟩ D7 hr';have hro:∀r,row=some r→∃o:Obj,W.heap[r]?=some o/\o.isCells=false:=fun r e=>(hr' r e).2;refine⟨vs,r,IG,?_,DU D7 OO hro,cell_kept h3 D7 hro,DU D7 JW hro,cell_kept hy D7 hro,⟨bx,DU D7 Cq hro⟩,?_,L2⟩
  ·refine hown.kept D7 (.inr fun e=>?_);obtain⟨c,fz,hk⟩:=Yb hown w1.heap.size rfl;obtain⟨o,ho,hc⟩:=hro w1.heap.size e.symm;rw [hk]at ho;obtain rfl:=Option.some.inj ho;simp [Obj.isCells]at hc
  ·exact(ownFrom_below (Ao7 _) (by simp;omega)) () W W' row hxx D7 hr'
 case h0=>
  have AQ:=(Ab.refl W2).alloc (.cells #[.slice A zs.length ca] 270);refine⟨List.replicate zs.length 0,0,by simp,AL ho2 AQ,(AQ.block _ (by omega)).trans k6,AQ.cellS k3,(AQ.block _ (by omega)).trans k4b,AQ.cellS Afh,⟨_,Ao6 _ _⟩,Below.trans B9 (Below.mono AQ (by omega)),fun k hk e=>?_⟩
  cases k with
  | zero=>exact IV.start BA
  | succ k=>have:=congrArg List.length e;rw [upto_length]at this;simp at this
 case assign=>intro l x W K hK;gi_wp2;exact hK
 case body=>
  rintro l pre x W ⟨vs,r,IG,hown,OO,h3,JW,hy,Cq,hxx,L2⟩ hlen;have h4:=cell_of_one JW;have hc6:=cell_of_one OO;have dY:=free_of_one OO;have hix:=x.2.2;obtain⟨t,ht,htg,hq⟩:∃t:Nat,IntKind.u64.wrap (IntKind.u64.wrap ((r:Int)*1000000000)+(x.1.2:Int))=(t:Int)/\(r<y→t=r*1000000000+x.1.2)/\IntKind.u64.wrap ((t:Int)/(y:Int))=((t/y:Nat):Int):=Ada r x.1.2 y Ui x.2.1;gi_wp2;clear ht;obtain⟨W0,hW0⟩:=Ao3 ((W.setCell ⟨w1.heap.size+1,0,none⟩ (.int .u64 (t:Nat))).drew);obtain⟨KW,hW1⟩:=Ao3 (W0.setCell ⟨w1.heap.size,x.1.1,none⟩ (.int .u64 ((t/y:Nat):Int)));obtain⟨ME,hW2⟩:=Ao3 (KW.setCell ⟨w1.heap.size+1,0,none⟩ (.int .u64 ((t%y:Nat):Int)));refine wpIn_region_any (by kernel_rfl) ?_;have Br:bb<w.heap.size:=World.block_lt_of_cell? w ⟨bb,ob,none⟩ CN
  have J2:∀k,k≠w1.heap.size→¬Value.ownBlock (.slice (some ⟨w1.heap.size,0,none⟩) zs.length zs.length)=some k:=by intro k hk e;simp only [Value.ownBlock,AoB]at e;exact hk e.symm
  have Uz:W0.ownsRow w1.heap.size 179 1 (.slice (some ⟨w1.heap.size,0,none⟩) zs.length zs.length) zs.length (Bw vs):=by rw [hW0];exact Yc (ownsRow_setCell_other hown (J2 (w1.heap.size+1) (by omega)) _)
  have AiK:KW.ownsRow w1.heap.size 179 1 (.slice (some ⟨w1.heap.size,0,none⟩) zs.length zs.length) zs.length (Bw (vs.set x.1.1 (t/y))):=by rw [hW1,←Y5];exact(Uz.stored _ _).1
  have U0:ME.ownsRow w1.heap.size 179 1 (.slice (some ⟨w1.heap.size,0,none⟩) zs.length zs.length) zs.length (Bw (vs.set x.1.1 (t/y))):=by rw [hW2];exact ownsRow_setCell_other AiK (J2 (w1.heap.size+1) (by omega)) _
  have ra:W0.heap[w1.heap.size+1]?=some (.cells #[.int .u64 (t:Nat)] 179 (0,0)):=by rw [hW0];exact one_setCell OO
  have kZ:KW.heap[w1.heap.size+1]?=some (.cells #[.int .u64 (t:Nat)] 179 (0,0)):=by rw [hW1,Below.heap_setCell _ _ _ _ (show w1.heap.size+1≠w1.heap.size by omega)];exact ra
  have AjT:ME.heap[w1.heap.size+1]?=some (.cells #[.int .u64 ((t%y:Nat):Int)] 179 (0,0)):=(by rw [hW2];exact one_setCell kZ);have Afc:=cell_of_one ra;have yF:=cell_of_one kZ;have Afq:=free_of_one kZ;have hb0:∀k,k≠w1.heap.size+1→W0.heap[k]?=W.heap[k]?:=fun k hk=>(by rw [hW0];exact Below.heap_setCell W _ _ k hk);have hb1:∀k,k≠w1.heap.size→k≠w1.heap.size+1→KW.heap[k]?=W.heap[k]?:=fun k hk hk2=>(by rw [hW1,Below.heap_setCell _ _ _ _ hk];exact hb0 k hk2);have hb2:∀k,k≠w1.heap.size→k≠w1.heap.size+1→ME.heap[k]?=W.heap[k]?:=fun k hk hk2=>(by rw [hW2,Below.heap_setCell _ _ _ _ hk2];exact hb1 k hk hk2);have Aek:=(World.cell?_of_block (a:=⟨w.heap.size,0,none⟩) (hb0 w.heap.size (by omega))).trans h3;have Aeq:=(World.cell?_of_block (a:=⟨w.heap.size+1,0,none⟩) (hb0 (w.heap.size+1) (by omega))).trans h4;have Ag9:=(World.cell?_of_block (a:=⟨bb,ob,none⟩) (hb0 bb (by omega))).trans hy;have Ael:=(World.cell?_of_block (a:=⟨w.heap.size,0,none⟩) (hb1 w.heap.size (by omega) (by omega))).trans h3;have Aer:=(World.cell?_of_block (a:=⟨w.heap.size+1,0,none⟩) (hb1 (w.heap.size+1) (by omega) (by omega))).trans h4;have AgA:=(World.cell?_of_block (a:=⟨bb,ob,none⟩) (hb1 bb (by omega) (by omega))).trans hy;have Aem:=(World.cell?_of_block (a:=⟨w.heap.size,0,none⟩) (hb2 w.heap.size (by omega) (by omega))).trans h3;have Aes:=(hb2 (w.heap.size+1) (by omega) (by omega)).trans JW;have AgB:=(World.cell?_of_block (a:=⟨bb,ob,none⟩) (hb2 bb (by omega) (by omega))).trans hy
  have Ck:Below w.heap.size W ME:=by rw [hW2,hW1,hW0];exact(((Below.refl _ W).setCell (by show w.heap.size<=w1.heap.size+1;omega) _).drew.setCell (by show w.heap.size<=w1.heap.size;omega) _).setCell (by show w.heap.size<=w1.heap.size+1;omega) _
  have eF:=Uz.frozenAt (g:=w1.heap.size) x.1.1
  have hqc:(W0.cell? ⟨w1.heap.size,x.1.1,none⟩).isSome:=by have h1:(Bw vs)[x.1.1]?=some (.int .u64 (Ap vs x.1.1:Nat)):=(by simp [Bw,Ap,IG,hix]);have h2:=Uz.cells (g:=w1.heap.size) rfl x.1.1 _ h1;rw [Addr.add_lit,Nat.zero_add]at h2;rw [h2];rfl
  refine AlT 33 13
   (fun i=>#[.slice (some ⟨w1.heap.size,0,none⟩) zs.length zs.length,.int .i64 (x.1.1:Nat),.int .u64 (t:Nat),.slice (some ⟨bb,ob,none⟩) 1 cb,.pointer (some ⟨bb,ob,none⟩),.int .u64 (y:Nat),.int .u64 ((t/y:Nat):Int),.int .u64 (t:Nat),.slice (some ⟨bb,ob,none⟩) 1 cb,.pointer (some ⟨bb,ob,none⟩),.int .u64 (y:Nat),.int .u64 ((t%y:Nat):Int),.pointer (some ⟨w1.heap.size,x.1.1,none⟩)].getD i undef)
   (JG 13 14 W0 KW ME) (by kernel_rfl) (by simp) hW0 ?_ ?_
  ·intro listed a i o Ai hr ho K hK;obtain⟨AM,o',Qs,BY⟩:=mem_ready.1 hr;obtain rfl:=Option.some.inj (Qs.symm.trans ho);have hi:i<15:=(Array.getElem?_eq_some_iff.1 ho).1
   have aK:listed.getD 14 false=false:=by
    by_cases h:listed.getD 14 false=true
    ·exfalso
     have h1:∀j,j<15→listed.getD j false=true:=by
      intro j hj;by_cases e:j=14
      ·rw [e];exact h
      ·exact Ai.waits (j:=14) rfl h j (by
        rcases(by omega:j=0∨j=1∨j=2∨j=3∨j=4∨j=5∨j=6∨j=7∨j=8∨j=9∨j=10∨j=11∨j=12∨j=13)with rfl|rfl|rfl|rfl|rfl|rfl|rfl|rfl|rfl|rfl|rfl|rfl|rfl|rfl<;>kernel_rfl)
     have h2:=h1 i hi;rw [getD_both AM]at h2
     cases h2
    ·simpa using h
   have e3:=Ai.out (s:=33) (m:=13) (by kernel_rfl) (d:=3) (by omega) rfl;have e4:=Ai.out (s:=33) (m:=13) (by kernel_rfl) (d:=4) (by omega) rfl;have e6:=Ai.out (s:=33) (m:=13) (by kernel_rfl) (d:=6) (by omega) rfl;have e7:=Ai.out (s:=33) (m:=13) (by kernel_rfl) (d:=7) (by omega) rfl;have hval:=fun i {d} hd hi hl {v} hv=>Ai.val (s:=33) (m:=13) (by kernel_rfl) i (d:=d) hd hi hl (v:=v) hv;refine⟨fun _ _=>trivial,?_⟩;rw [Oper.semAt_eq _ _ _ (jT (l:=_) (by kernel_rfl) i o' ho)];have br:=Ai.lsz;clear Qs Ai;by_cases Anj:i<13
   ·rw [Amd (by omega) (by omega)]at hK
    obtain⟨V,hV,yE,uN,h4V,iz⟩:∃V,JG 13 14 W0 KW ME listed=V/\V.cell? ⟨w1.heap.size+1,0,none⟩=some (.int .u64 (t:Nat))/\V.cell? ⟨w.heap.size,0,none⟩=some (.slice (some ⟨bb,ob,none⟩) 1 cb)
      /\V.cell? ⟨w.heap.size+1,0,none⟩=some (.slice (some ⟨w1.heap.size,0,none⟩) zs.length zs.length)/\V.cell? ⟨bb,ob,none⟩=some (.int .u64 (y:Nat)):=by
     by_cases Oq:listed.getD 13 false=true
     ·exact⟨KW,mK Oq aK,yF,Ael,Aer,AgA⟩
     ·exact⟨W0,xq (by simpa using Oq),Afc,Aek,Aeq,Ag9⟩
    rw [hV]at hK ⊢;clear hV
    rcases(by omega:i=0∨i=1∨i=2∨i=3∨i=4∨i=5∨i=6∨i=7∨i=8∨i=9∨i=10∨i=11∨i=12)with rfl|rfl|rfl|rfl|rfl|rfl|rfl|rfl|rfl|rfl|rfl|rfl|rfl
    all_goals simp only [List.getElem?_toArray,List.getElem?_cons_zero,List.getElem?_cons_succ,AoB]at ho
    all_goals subst ho
    all_goals have Bg:=KJ BY
    all_goals simp only [Act.eval]at e3 e4 e6 e7
    all_goals clear br
    ·clear hval Bg BY AM hr;simp [execOp,go_sem,Oper.uponIn,e4,h4V];exact hK
    ·clear hval Bg BY AM hr;simp [execOp,go_sem,Oper.uponIn,e7];exact hK
    ·clear hval Bg BY AM hr;simp [execOp,go_sem,Oper.uponIn,e6,yE];exact hK
    ·clear hval Bg BY AM hr;simp [execOp,go_sem,Oper.uponIn,e3,uN];exact hK
    ·have f36:=hval 3 (d:=36) rfl (by omega) (Bg 3 (by kernel_rfl)) rfl;simp only [Act.eval]at f36;clear hval Bg BY AM hr;simp [execOp,go_sem,Oper.uponIn,f36];exact hK
    ·have f37:=hval 4 (d:=37) rfl (by omega) (Bg 4 (by kernel_rfl)) rfl;simp only [Act.eval]at f37;clear hval Bg BY AM hr;simp [execOp,go_sem,Oper.uponIn,iz,f37];exact hK
    ·have f35:=hval 2 (d:=35) rfl (by omega) (Bg 2 (by kernel_rfl)) rfl;have f38:=hval 5 (d:=38) rfl (by omega) (Bg 5 (by kernel_rfl)) rfl;simp only [Act.eval]at f35 f38;clear hval Bg BY AM hr;have hy1:y≠0:=(by omega);simp [execOp,go_sem,Oper.uponIn,hy1,f35,f38,hq];exact hK
    ·clear hval Bg BY AM hr;simp [execOp,go_sem,Oper.uponIn,e6,yE];exact hK
    ·clear hval Bg BY AM hr;simp [execOp,go_sem,Oper.uponIn,e3,uN];exact hK
    ·have tO:=hval 8 (d:=41) rfl (by omega) (Bg 8 (by kernel_rfl)) rfl;simp only [Act.eval]at tO;clear hval Bg BY AM hr;simp [execOp,go_sem,Oper.uponIn,tO];exact hK
    ·have tP:=hval 9 (d:=42) rfl (by omega) (Bg 9 (by kernel_rfl)) rfl;simp only [Act.eval]at tP;clear hval Bg BY AM hr;simp [execOp,go_sem,Oper.uponIn,iz,tP];exact hK
    ·have f40:=hval 7 (d:=40) rfl (by omega) (Bg 7 (by kernel_rfl)) rfl;have tQ:=hval 10 (d:=43) rfl (by omega) (Bg 10 (by kernel_rfl)) rfl;simp only [Act.eval]at f40 tQ;clear hval Bg BY AM hr;have hy1:y≠0:=(by omega);have hm:(t:Int).tmod (y:Int)=((t%y:Nat):Int):=(by rw [Int.tmod_eq_emod_of_nonneg (by omega)];simp);simp [execOp,go_sem,Oper.uponIn,hy1,f40,tQ,hm];exact hK
    ·have f33:=hval 0 (d:=33) rfl (by omega) (Bg 0 (by kernel_rfl)) rfl;have f34:=hval 1 (d:=34) rfl (by omega) (Bg 1 (by kernel_rfl)) rfl;simp only [Act.eval]at f33 f34;clear hval Bg BY AM hr;simp [execOp,go_sem,Oper.uponIn,hix,f33,f34];exact hK
   ·have hsz:=br
    rcases(by omega:i=13∨i=14)with rfl|rfl
    ·have Oq:listed.getD 13 false=false:=getD_both AM;rw [mK (MP (by rw [hsz];exact hi)) (by rw [getD_set_ne false (by omega)];exact aK)]at hK;rw [xq Oq];simp only [List.getElem?_toArray,List.getElem?_cons_zero,List.getElem?_cons_succ,AoB]at ho;subst ho;have Bg:=KJ BY;have f39:=hval 6 (d:=39) rfl (by omega) (Bg 6 (by kernel_rfl)) rfl;have tU:=hval 12 (d:=45) rfl (by omega) (Bg 12 (by kernel_rfl)) rfl;simp only [Act.eval]at f39 tU;clear hval Bg BY AM hr;obtain⟨vq,iF⟩:=Option.isSome_iff_exists.1 hqc;simp [execOp,go_sem,Oper.uponIn,f39,tU,eF,iF];rw [hW1]at hK;exact hK
    ·simp only [List.getElem?_toArray,List.getElem?_cons_zero,List.getElem?_cons_succ,AoB]at ho;subst ho;have Bg:=KJ BY;have Oq:=Bg 13 (by kernel_rfl);rw [xr (getD_set_true Oq) (MP (by rw [hsz];exact hi))]at hK;rw [mK Oq aK];have tR:=hval 11 (d:=44) rfl (by omega) (Bg 11 (by kernel_rfl)) rfl;simp only [Act.eval]at tR e6;clear hval Bg BY AM hr;simp [execOp,go_sem,Oper.uponIn,tR,e6,Afq,yF];rw [hW2]at hK;exact hK
  ·intro listed a Ai hall;rw [xr (hall 13 (by decide)) (hall 14 (by decide))];refine⟨⟨Ck.size,fun k o hk hko _=>?_⟩,⟨Ck,hb2 _ (by omega) (by omega)⟩,vs.set x.1.1 (t/y),t%y,by rw [List.length_set,IG],U0,AjT,Aem,Aes,AgB,?_,?_,?_⟩
   ·rw [AoE]at hk;rw [hb2 k (by omega) (by omega)];exact hko
   ·obtain⟨bx,As⟩:=Cq;exact⟨bx,by rw [hb2 _ (by omega) (by omega)];exact As⟩
   ·exact Below.trans hxx Ck
   ·intro k hk e
    cases k with
    | zero=>simp [upto]at e
    | succ k=>rw [upto_succ]at e;obtain⟨e1,e2⟩:=List.append_inj' e rfl;simp only [List.cons.injEq,and_true]at e2;have Dt:=hg k hk;rw [←e2]at Dt;have h5:=L2 k (by omega) e1;have h6:x.1.1=zs.length-1-k:=(by rw [Dt];rfl);have h7:x.1.2=Ap zs x.1.1:=(by rw [h6,Dt];rfl);rw [show zs.length-k=x.1.1+1 by omega]at h5;rw [show zs.length-(k+1)=x.1.1 by omega];exact h5.step BA hlt (by rw [←h7];exact htg h5.rl)
 case done=>
  rintro D ys W hD rfl ⟨vs,r,IG,hown,OO,h3,JW,hy,Cq,hxx,L2⟩ hK;have h4:=cell_of_one JW;have hdone:=L2 zs.length (Ao7 _) rfl;rw [Nat.sub_self]at hdone;have hc6:=cell_of_one OO;simp only [AoE]at hD;have LN:=(Ab.refl W).drew;have AQ:=((Ab.refl W).alloc (.cells #[.int .u64 (r:Nat)] 179)).drew
  have TV:BX W (some ⟨w1.heap.size,0,none⟩) zs.length vs:=by obtain⟨A',c',e1,h1⟩:=Rd.of_own (base:=w1.heap.size) (l:=vs) (by rw [IG];exact hown) (by omega);simp only [Value.slice.injEq]at e1;obtain⟨rfl,_,rfl⟩:=e1;exact h1
  have dx:r<1000000000:=by have:=hdone.rl;omega
  have DY:BX (W.alloc (.cells #[.int .u64 (r:Nat)] 179)).drew (some ⟨W.heap.size,0,none⟩) 1 [r]:=
   ⟨by simp,by omega,by simp,fun _=>⟨W.heap.size,0,rfl,fun j hj=>by
    obtain rfl:j=0:=(by simpa using hj);show (W.alloc (.cells #[.int .u64 (r:Nat)] 179)).cell? ⟨W.heap.size,0,none⟩=_
    rw [World.cell?_alloc_at _ _ _ _ (by rfl)];simp [Ap]⟩⟩
  have Bl:=Rn vs _ _ W.drew (TV.ext LN) hdone.lt;have BH:=Rn vs _ _ _ (TV.ext AQ) hdone.lt;have TS:=Rn [r] _ _ _ DY (by intro z hz;simp only [AoJ]at hz;omega);rw [IG]at Bl BH;have h4':=AQ.cellS h4;have f4:=free_of_one ((AQ.block _ (Ao5 JW)).trans JW);simp only [List.length_singleton]at TS;have hDW:=Ao5 hK
  have Wh:(((W.alloc (.cells #[.int .u64 (r:Nat)] 179)).setCell ⟨w.heap.size+1,0,none⟩ (.slice (some ⟨w1.heap.size,0,none⟩) (pc 1000000000 (Ao 1000000000 vs)).length zs.length)).drew).heap[D]?=some (.deferred (some [])):=by show (((W.alloc (.cells #[.int .u64 (r:Nat)] 179)).setCell ⟨w.heap.size+1,0,none⟩ (.slice (some ⟨w1.heap.size,0,none⟩) (pc 1000000000 (Ao 1000000000 vs)).length zs.length))).heap[D]?=_;rw [Below.heap_setCell _ _ _ _ (show D≠w.heap.size+1 by omega),Below.heap_alloc _ _ _ hDW];exact hK
  obtain⟨X,hX⟩:=Ao3 (((W.alloc (.cells #[.int .u64 (r:Nat)] 179)).setCell ⟨w.heap.size+1,0,none⟩ (.slice (some ⟨w1.heap.size,0,none⟩) (pc 1000000000 (Ao 1000000000 vs)).length zs.length)).drew);have aL:=(AQ.block _ (Ao5 JW)).trans JW
  have yG:(X.putObj D (.deferred none)).cell? ⟨w.heap.size+1,0,none⟩=some (.slice (some ⟨w1.heap.size,0,none⟩) (pc 1000000000 (Ao 1000000000 vs)).length zs.length):=by refine cell_of_one (t:=270) ?_;rw [World.putObj_heap_other (by omega),hX];exact one_setCell aL
  have dh:P4 (x/y) (x%y) w (.returned (.tuple #[.slice (some ⟨w1.heap.size,0,none⟩) (pc 1000000000 (Ao 1000000000 vs)).length zs.length,.slice (some ⟨W.heap.size,0,none⟩) (pc 1000000000 (Ao 1000000000 [r])).length 1])) (X.putObj D (.deferred none)):=by
   have Ge:=hdone.done;have LQ:Ao 1000000000 zs=x:=(by rw [HZ.out,Bn b9]);rw [LQ]at Ge;have e1:Ao 1000000000 [r]=x%y:=by simp [Ao,Ge.2]
   have k1:BX (X.putObj D (.deferred none)) (some ⟨w1.heap.size,0,none⟩) zs.length (pc 1000000000 (x/y)):=by rw [←Ge.1];refine BX.putObj ?_ (by rw [hX];exact Wh) rfl _;rw [hX];exact((TV.ext AQ).pc hdone.lt).setCell (w:=(W.alloc (.cells #[.int .u64 (r:Nat)] 179)).drew) (cell_of_one aL) (by simp)
   have k2:BX (X.putObj D (.deferred none)) (some ⟨W.heap.size,0,none⟩) 1 (pc 1000000000 (x%y)):=by rw [←e1];refine BX.putObj ?_ (by rw [hX];exact Wh) rfl _;rw [hX];exact(DY.pc (by intro z hz;simp only [AoJ]at hz;omega)).setCell (w:=(W.alloc (.cells #[.int .u64 (r:Nat)] 179)).drew) (cell_of_one aL) (by simp)
   rw [Ge.1,e1];refine⟨_,_,rfl,⟨_,_,rfl,k1⟩,⟨_,_,rfl,k2⟩,?_⟩
   have CW:Ab w X:=by rw [hX];exact(((hxx.alloc _).setCell (by show w.heap.size<=w.heap.size+1;omega) _)).drew
   exact Below.trans CW (belowK_b (w:=w) (Ao7 _) X D _ _ (by omega) (by rw [hX];exact Wh) rfl rfl)
  rw [hX]at yG dh;clear hX;gi_wp2;refine wpIn_wide.2 (wp_region_noPanic ?_)
  go_region_with (go_at_call 256;((first|(with_reducible refine Bl.mono ?_)|(with_reducible refine BH.mono ?_)|(with_reducible refine TS.mono ?_));rintro e w' ⟨rfl,rfl⟩))
  all_goals refine NoPanic.normal ?_
  all_goals gi_wp2
  all_goals simp only [List.getElem_toArray,List.getElem_cons_succ,List.getElem_cons_zero,Act.put,List.setIfInBounds_toArray,List.set_cons_succ,List.set_cons_zero]
  all_goals refine⟨by simp,.inl ⟨_,_,rfl,run_takeDeferred Wh,?_⟩⟩
  all_goals exact⟨_,by simp [results,Tryz.results208,go_sem,yG],dh⟩
 case stop=>rintro D c pre W _ _ h _;exact h.elim
end Go.Proofs.YtnddllipjippnaaGreatDoor
namespace Go.Proofs.YtnddllipjippnaaGreatDoor
open Go.RowKit Kl Go.Shelf
theorem lO(x d:Nat)(hd:d<1000000000)(hl:(pc 1000000000 x).length<40000)(u:Value)(w:World)(hu:Rd w u (pc 1000000000 x)) :
  Calls Tryz.prog 259 #[u,.int .u64 (d:Nat)] w (RO (x*d) w):=by
 have hx1:=(Ab.refl w).alloc (.cells #[.int .u64 (d:Nat)] 179)
 have DY:BX (w.alloc (.cells #[.int .u64 (d:Nat)] 179)) (some ⟨w.heap.size,0,none⟩) 1 [d]:=
  ⟨by simp,by omega,by simp,fun _=>⟨w.heap.size,0,rfl,fun j hj=>by
   obtain rfl:j=0:=by simpa using hj
   rw [World.cell?_alloc_at _ _ _ _ (by rfl)];simp [Ap]⟩⟩
 have C2:∀z∈[d],z<1000000000:=(by intro z hz;simp only [AoJ]at hz;omega);have hq:=Rn [d] _ _ _ DY C2;have e1:Ao 1000000000 [d]=d:=(by simp [Ao]);have hl2:(pc 1000000000 d).length<=1:=OZ b9 (by omega);have ht:=vo (pc 1000000000 x) (pc 1000000000 d) u _ _ (hu.ext hx1) ⟨_,_,rfl,by have:=DY.pc C2;rw [e1]at this;exact this⟩ hl (by omega) (B8 b9 x) (B8 b9 d);rw [Bn b9,Bn b9]at ht;rw [e1]at hq;simp only [List.length_singleton]at hq;clear DY C2 e1;go_enter Tryz.func259,Tryz.ntmps259;(go_wp2_with fail);(with_reducible refine hq.mono ?_);rintro e w1 ⟨rfl,rfl⟩;(go_wp2_with fail);(with_reducible refine ht.mono ?_);rintro e w1 ⟨v,rfl,hv,hxv,hf⟩;have HF:=Ao4 hf;clear hf;go_wp2;go_ret;exact⟨v,rfl,hv,hx1.trans hxv,fun b hb=>by have:=HF.out b hb;simp at this;omega⟩
theorem jV{b:Nat}(hb:0<b):∀{l:List Nat} (k:Nat),(∀x∈l,x<b)→Ao b (l.drop k)=Ao b l/b^k
 | l,0,_=>by simp
 | [],k+1,_=>by simp [Ao]
 | x::l,k+1,h=>by rw [List.drop_succ_cons,jV hb k (fun y hy=>h y (by simp [hy]))];simp only [Ao];have hx:=h x (by simp);rw [Nat.pow_succ,Nat.mul_comm (b^k) b,←Nat.div_div_eq_div_mul,Nat.add_mul_div_left _ _ hb,Nat.div_eq_of_lt hx,Nat.zero_add]
theorem ZX{y t:Nat}(hyt:y<=t)(Q0:t<y*1000000000)(BA:0<y) :
  let m:=(pc 1000000000 y).length
  let n:=(pc 1000000000 t).length
  0<m/\0<Ap (pc 1000000000 y) (m-1)/\m<=n/\n<=m+1/\
   t/y<=(if m<n then Ap (pc 1000000000 t) (n-1)*1000000000+Ap (pc 1000000000 t) (n-2)else Ap (pc 1000000000 t) (n-1))/Ap (pc 1000000000 y) (m-1):=by
 intro m n;have gU:=G8 b9 y;have ac:=B8 b9 y;have aa:=B8 b9 t;have fL:=Bn b9 y;have az:=Bn b9 t;have aw:pc 1000000000 y≠[]:=fun e=>(by have:=(QT b9).1 e;omega);have hm:0<m:=List.length_pos_iff.2 aw;have fV:=kT (b:=1000000000) gU aw;rw [fL]at fV;have ja:y<1000000000^m:=(by have:=II ac;rwa [fL]at this);have Ko:t<1000000000^n:=by have:=II aa;rwa [az]at this
 have hmn:m<=n:=by
  rcases Nat.lt_or_ge n m with h|h
  ·exfalso
   have h1:(1000000000:Nat)^n<=1000000000^(m-1):=Nat.pow_le_pow_right (by omega) (by omega)
   change (1000000000:Nat)^(m-1)<=y at fV
   omega
  ·exact h
 have hnm:n<=m+1:=by
  refine OZ b9 ?_;rw [Nat.pow_succ]
  calc t<y*1000000000:=Q0
   _<=1000000000^m*1000000000:=Nat.mul_le_mul_right _ (by omega)
 have e1:Ap (pc 1000000000 y) (m-1)=y/1000000000^(m-1):=by have h:=jV (b:=1000000000) (by omega) (m-1) ac;rw [fL]at h;rw [←h,MM (by omega),List.drop_eq_nil_of_le (by omega)];simp [Ao]
 have e2:(if m<n then Ap (pc 1000000000 t) (n-1)*1000000000+Ap (pc 1000000000 t) (n-2)else Ap (pc 1000000000 t) (n-1))=t/1000000000^(m-1):=by
  have h:=jV (b:=1000000000) (by omega) (m-1) aa;rw [az]at h;rw [←h]
  split
  ·have e:n=m+1:=(by omega);rw [MM (by omega),MM (by omega),List.drop_eq_nil_of_le (by omega)];simp only [Ao];rw [show n-1=m-1+1 by omega,show n-2=m-1 by omega];omega
  ·have e:n=m:=(by omega);rw [MM (by omega),List.drop_eq_nil_of_le (by omega)];simp only [Ao];rw [e];omega
 have Ub:0<Ap (pc 1000000000 y) (m-1):=by rw [e1];exact Nat.div_pos fV (Nat.pow_pos (by omega))
 refine⟨hm,Ub,hmn,hnm,?_⟩;rw [e2,Nat.le_div_iff_mul_le Ub,Nat.le_div_iff_mul_le (Nat.pow_pos (by omega)),e1]
 calc t/y*(y/1000000000^(m-1))*1000000000^(m-1)=t/y*(y/1000000000^(m-1)*1000000000^(m-1)):=by rw [Nat.mul_assoc]
  _<=t/y*y:=Nat.mul_le_mul_left _ (Nat.div_mul_le_self _ _)
  _<=t:=Nat.div_mul_le_self _ _
theorem Akc{P:Program}(w:World)(base:Nat)(t ty e:TypeId)(i:TypeInfo)(size:Nat)(ht:P.underlying t=some (.slice e))(hi:P.info? e=some i)
  (v:Value) (n c:Nat) (xs:List Value) (hown:w.ownsRow base e size v n xs) :
  (Builtin.append_ #[t,t] ty #[v,.slice none 0 c]).run P w=.ok v w:=by
 rcases hown.2 with⟨rfl,rfl⟩|⟨g,cap,cur,rfl,_,_,hnc,_⟩
 ·simp [Builtin.append_,run_underlying ht,sizeOf,typeInfo,hi,Builtin.lenOf,Builtin.firstCells]
 ·simp [Builtin.append_,run_underlying ht,sizeOf,typeInfo,hi,Builtin.lenOf,Builtin.firstCells,hnc,storeCells]
theorem AbE{ops:Array Oper}{rest:List Oper}{o:Oper}{a:Act}{Q:Exit→Act→World→Prop}(hgd:o.guard=none)(s x:Operand)(ho:o.op=.call {callee:=.builtin .append,args:=#[s,x],argTypes:=#[270,270]})
  (wr:World) (base:Nat) (v:Value) (n:Nat) (xs:List Nat) (hs:a.eval s=v) (hown:wr.ownsRow base 179 1 v n (Bw xs)) (l:List Nat) (vx:Value) (hx:a.eval x=vx) (hr:Rd wr vx l) (hn:n+l.length<200000) (hbase:base<=wr.heap.size)
  (h:∀v' w',w'.ownsRow base 179 1 v' (n+l.length) (Bw (xs++l))→(∀w0,Ab w0 wr→w0.heap.size<=base→Ab w0 w')→wpList Tryz.prog ops Q rest (a.put o.dst v') w') :
  wpList Tryz.prog ops Q (o::rest) a wr:=by
 obtain⟨i0,hi,hz0,hz1,hz2⟩:=info_parts Tryz.infoU;obtain⟨A,c,rfl,CG⟩:=hr;refine wpList_plain hgd fun K hK=>?_;by_cases h0:l.length=0
 ·obtain rfl:l = []:=List.length_eq_zero_iff.1 h0;rw [List.append_nil]at h
  cases A with
  | none=>
   have hrun:=Akc (P:=Tryz.prog) wr base 270 o.type 179 i0 1 Tryz.underlying270 hi v n c (Bw xs) hown;unfold Oper.wp execOp;simp only [ho,resolve,invoke,builtin,Sem.run_bind,Sem.run_pure,Result.andThen_ok,List.map_toArray,List.map_cons,List.map_nil,hs,hx,List.length_nil,hrun];exact hK _ _ (h v wr hown fun w0 he hb=>he)
  | some ad=>refine wp_append_own _ s x 270 ho base 179 i0 (.int .u64 0) 1 8 Tryz.underlying270 hi hz0 hz1 hz2 rfl (by omega) v n (Bw xs) hs hown ad 0 c [] hx rfl (fun j u hu=>by simp at hu) (fun u hu=>by simp at hu) (by unfold maxLen;omega) (by omega) hbase ?_;intro v' w' h2 h3 _;exact hK _ _ (h v' w' (by simpa using h2) fun w0 he hb=>he.grownOwn h3 hown hb)
 ·obtain⟨b,off,rfl,hc⟩:=CG.ad (by omega);refine wp_append_own _ s x 270 ho base 179 i0 (.int .u64 0) 1 8 Tryz.underlying270 hi hz0 hz1 hz2 rfl (by omega) v n (Bw xs) hs hown ⟨b,off,none⟩ l.length c (Bw l) hx (by simp [Bw]) ?_ ?_ (by unfold maxLen;omega) (by omega) hbase ?_
  ·intro j u hu
   have hj:j<l.length:=by
    have:=(List.getElem?_eq_some_iff.1 hu).1
    simpa [Bw]using this
   have e:(Bw l)[j]?=some (.int .u64 (Ap l j:Nat)):=(by simp [Bw,Ap,hj]);rw [e]at hu;rw [←Option.some.inj hu,Addr.add_lit];exact hc j hj
  ·intro u hu;simp only [Bw,List.mem_map]at hu;obtain⟨z,_,rfl⟩:=hu
   rfl
  ·intro v' w' h2 h3 _;exact hK _ _ (h v' w' (by simpa [Bw]using h2) fun w0 he hb=>he.grownOwn h3 hown hb)
theorem sS(x y:Nat)(BA:0<y)(Ui:y<1000000000)(u v:Value)(w:World)(hu:Rd w u (pc 1000000000 x))(hv:Rd w v (pc 1000000000 y)) :
  Calls Tryz.prog 208 #[u,v] w (P4 (x/y) (x%y) w):=by
 rcases Nat.lt_or_ge x y with h|h
 ·rw [Nat.div_eq_of_lt h,Nat.mod_eq_of_lt h];exact sR x y h u v w hu hv
 ·exact Ado x y h BA Ui u v w hu hv
theorem Rd.setCell{w:World}{v0:Value}{l:List Nat}(h:Rd w v0 l){p:Addr}{v u:Value}(hp:w.cell? p=some v)(hv:∀n,v≠.int .u64 n):Rd (w.setCell p u) v0 l:=by
 obtain⟨A,c,e,h⟩:=h;exact⟨A,c,e,h.setCell hp hv⟩
theorem BX.setOther{w:World}{A:Option Addr}{c:Nat}{l:List Nat}(h:BX w A c l){p:Addr}(u:Value)(hp:∀b o,0<l.length→A=some ⟨b,o,none⟩→b≠p.block):BX (w.setCell p u) A c l:=
 ⟨h.cap,h.max,h.len,fun h0=>by
  obtain⟨b,o,e,hc⟩:=h.ad h0;refine⟨b,o,e,fun j hj=>?_⟩;rw [World.cell?_setCell_other _ _ _ _ (fun e2=>hp b o h0 e (by rw [e2]))]
  exact hc j hj⟩
theorem U4{a b:Nat}(h:a<=b):(pc 1000000000 a).length<=(pc 1000000000 b).length:=by
 refine OZ b9 ?_;have h1:=II (B8 b9 b);rw [Bn b9]at h1;omega
theorem AiV{x f k:Nat}(h:(pc 1000000000 x).length<k)(hf:f<1000000000):(pc 1000000000 (x*f)).length<=k:=by
 refine OZ b9 ?_;have h1:=II (B8 b9 x);rw [Bn b9]at h1
 have h2:(1000000000:Nat)^(pc 1000000000 x).length*1000000000<=1000000000^k:=by rw [←Nat.pow_succ];exact Nat.pow_le_pow_right (by omega) h
 exact AoG (Nat.mul_lt_mul'' h1 hf) h2
theorem AkE{l:List Nat}{j y:Nat}(h:Ap l j=y)(hj:j<l.length):l.set j y=l:=by
 rw [←h];apply List.ext_getElem?;intro i;rw [List.getElem?_set]
 split
 ·next e=>subst e;simp [Ap,hj]
 ·rfl
def AaV(wb:World)(xs:List Nat)(Y Q:Nat)(r i:Value)(wr:World):Prop:=
 ∃(k:Nat) (vs:List Nat) (rn:Nat) (z:Int),i=.int .i64 z/\z=(k:Int)-1/\IV xs vs Y k rn/\(∀j,j<k→Ap vs j=0)/\Rd wr r (pc 1000000000 rn)
  /\wr.ownsRow Q 179 1 (.slice (some ⟨Q,0,none⟩) xs.length xs.length) xs.length (Bw vs)/\Ab wb wr
theorem Adn(x y:Nat)(Xx:y<=x)(Ui:1000000000<=y)(hlx:(pc 1000000000 x).length<39000)(u v:Value)(w:World)(hu:Rd w u (pc 1000000000 x))(hv:Rd w v (pc 1000000000 y)) :
  Calls Tryz.prog 208 #[u,v] w (P4 (x/y) (x%y) w):=by
 have J0:=fun W hu hv=>QP (pc 1000000000 x) (pc 1000000000 y) u v W hu hv (B8 b9 x) (B8 b9 y) (G8 b9 x) (G8 b9 y)
 obtain⟨s,hs,hs0⟩:∃s:Int,s=El x y/\¬s<0:=by
  rcases Nat.lt_or_eq_of_le Xx with h|h
  ·exact⟨_,rfl,by rw [Lb h];omega⟩
  ·exact⟨_,rfl,by rw [PI h.symm];omega⟩
 rw [Bn b9,Bn b9,←hs]at J0;clear hs;have hx1:=((Ab.refl w).alloc (.cells #[v] 270)).alloc (.cells #[.slice none 0 0] 270);have ho:=J0 _ (hu.ext hx1) (hv.ext hx1);clear J0;obtain⟨hm0,Ub,-,-,-⟩:=ZX (y:=y) (t:=y) (Ao7 _) (by omega) (by omega)
 have Nt:2<=(pc 1000000000 y).length:=by
  rcases Nat.lt_or_ge (pc 1000000000 y).length 2 with h|h
  ·exfalso
   have h1:=II (B8 b9 y);rw [Bn b9]at h1;have h2:(1000000000:Nat)^(pc 1000000000 y).length<=1000000000^1:=Nat.pow_le_pow_right (by omega) (by omega);omega
  ·exact h
 have Ko:Ap (pc 1000000000 y) ((pc 1000000000 y).length-1)<1000000000:=CQ (B8 b9 y) (by omega);have OR:=hu;have iD:=hv;obtain⟨A,ca,e1,CG⟩:=OR;obtain⟨B,cb,e2,Ct⟩:=iD;have G0:=Ct.len;have hcb:=Ct.cap;have TK:=Ct.max;obtain⟨bb,ob,rfl,hcs⟩:=Ct.ad (by omega);have CN:=hcs ((pc 1000000000 y).length-1) (by omega);clear hcs;obtain⟨m,hm⟩:=Ao3 ((pc 1000000000 y).length);obtain⟨tp,Uc⟩:=Ao3 (Ap (pc 1000000000 y) (m-1));rw [←hm]at G0 hcb Nt hm0 e2 CN Ko Ub;rw [←Uc]at Ub Ko CN;have HM:=Ao4 hm;have HT:=Ao4 Uc;clear hm Uc
 obtain⟨f,eA,hf0,Ql⟩:∃f:Nat,(1000000000:Int)/((tp:Int)+1)=(f:Int)/\0<f/\f<1000000000:=by refine⟨1000000000/(tp+1),by simp,Nat.div_pos (by omega) (by omega),Nat.div_lt_self (by omega) (by omega)⟩
 rw [e1,e2]at ho;rw [e2]at hx1;have hm1:(((m:Nat):Int) == 1)=false:=(by rw [beq_eq_false_iff_ne];omega);subst e1 e2;go_enter Tryz.func208,Tryz.ntmps208;(go_wp2_with fail);(with_reducible refine ho.mono ?_);rintro e w1 ⟨rfl,hx2⟩;obtain⟨hc2,hf2⟩:=hx2.cells;have Afg:=hx2.cellS (hx1.cellS CN);have hb0:=(hx2.block w.heap.size (by simp;omega)).trans ((Below.heap_alloc _ _ _ (by simp)).trans (Ao6 w _));have hb1:=hx2.block (w.heap.size+1) (by simp);have Tg:=Ao6 (w.alloc (.cells #[.slice (some ⟨bb,ob,none⟩) m cb] 270)) (.cells #[.slice none 0 0] 270);rw [AoE]at Tg;have hb1:=hb1.trans Tg;clear Tg
 go_upto_region 13 with fail
 have LN:Ab w w1.drew:=(hx1.trans hx2).drew;have LE:(pc 1000000000 y).length<=(pc 1000000000 x).length:=OZ b9 (by have:=II (B8 b9 x);rw [Bn b9]at this;omega);have c1:=lO x f Ql (by omega) _ w1.drew (hu.ext LN);have c2:=fun W (hW:Ab w1.drew W)=>lO y f Ql (by omega) _ W (hv.ext (LN.trans hW));have HLM:=Ao4 LE;simp only [←eA]at c1 c2;have zj:=Ao4 eA;clear eA LE
 go_cut [0] (fun v0 wx=>∃vb,Rd wx v0 (pc 1000000000 (x*f))/\Rd wx vb (pc 1000000000 (y*f))/\wx.heap[w.heap.size]?=some (.cells #[vb] 270 (0,0))/\wx.heap[w.heap.size+1]?=some (.cells #[.slice none 0 0] 270 (0,0))/\Ab w wx)
 case first=>
  refine wp_region_noPanic ?_
  go_region_with (go_at_call 259;(first|((with_reducible refine c1.mono ?_);rintro e w2 ⟨va,rfl,hva,hx3,hf3⟩;clear hf3;have hb2:=(hx3.block _ (Ao5 hb0)).trans hb0;have hg0:=cell_of_one hb2)|((with_reducible refine(c2 _ (by assumption)).mono ?_);rintro e w3 ⟨vb,rfl,⟨B2,Sf,rfl,hvb⟩,Ag,yU⟩;clear yU;have hb3:=(Ag.block _ (Ao5 hb2)).trans hb2;have hg3:=cell_of_one hb3;have hg4:=free_of_one hb3)))
  all_goals refine NoPanic.normal ?_
  all_goals go_wp2
  all_goals go_meet
  all_goals exact⟨_,(hva.ext Ag).setCell hg3 (by simp),Rd.setCell ⟨B2,Sf,rfl,hvb⟩ hg3 (by simp),one_setCell hb3,by rw [Below.heap_setCell _ _ _ _ (by show w.heap.size+1≠w.heap.size;omega)];exact(Ag.block _ (by have:=hx3.size;have:=Ao5 hb1;show w.heap.size+1<_;have h9:w1.drew.heap.size=w1.heap.size:=rfl;omega)).trans ((hx3.block _ (Ao5 hb1)).trans hb1),((LN.trans hx3).trans Ag).setCell (by show w.heap.size<=w.heap.size;omega) _⟩
 case rest=>
  obtain⟨vb,⟨A1,ZC,rfl,Xo⟩,⟨B1,Se,rfl,Qx⟩,hkb,TD,N4⟩:=hcut;clear c1 c2 hb0 hb1 LN hx2 hc2 hf2 Afg CN ho hx1 hu hv CG Ct;have eU:(pc 1000000000 (x*f)).length<=39000:=AiV hlx Ql;have Nh:0<y*f:=Nat.mul_pos (by omega) hf0;have zU:(pc 1000000000 (y*f)).length<=39000:=AoH (U4 (Nat.mul_le_mul_right f Xx)) eU;obtain⟨X,hX⟩:=Ao3 (x*f);obtain⟨Y,hY⟩:=Ao3 (y*f);rw [←hX]at Xo eU ⊢;rw [←hY]at Qx zU Nh hkb;have HX:=Ao4 hX;have HY:=Ao4 hY;clear hX hY;obtain⟨PY,wE,-,-,-⟩:=ZX (y:=Y) (t:=Y) (Ao7 _) (by omega) Nh;have wF:Ap (pc 1000000000 Y) ((pc 1000000000 Y).length-1)<1000000000:=CQ (B8 b9 Y) (by omega);obtain⟨b1,o1,rfl,yI⟩:=Qx.ad PY;have Qi:=yI ((pc 1000000000 Y).length-1) (by omega);clear yI;have Afe:=Qx.cap;have An3:=Qx.max;obtain⟨M,hM⟩:=Ao3 ((pc 1000000000 Y).length);obtain⟨T,hT⟩:=Ao3 (Ap (pc 1000000000 Y) (M-1));obtain⟨xs,LO⟩:=Ao3 (pc 1000000000 X);have ah:∀z∈xs,z<1000000000:=(by rw [LO];exact B8 b9 X);rw [←hM]at zU PY Qi Afe wE wF hkb;rw [←hT]at Qi wE wF;rw [←LO]at Xo eU ⊢;have NV:=Ao4 hM;have nT:=Ao4 hT;have HXS:=Ao4 LO;clear hM hT LO;have T0:=cell_of_one TD;have eF:=free_of_one TD;have hgb:=cell_of_one hkb;have TY:=Ao5 hkb;have Bp:=Ao5 TD;have hb1:=World.block_lt_of_cell? wc _ Qi;have hmk:=jJ xs.length (by omega) (xs.length:Int) rfl
  go_upto_region 15 with fail
  clear hmk;have Agc:=Xo.setCell (u:=.slice (some ⟨wc.heap.size,0,none⟩) xs.length xs.length) T0 (by simp);have ei:=Qx.setCell (u:=.slice (some ⟨wc.heap.size,0,none⟩) xs.length xs.length) T0 (by simp);have Xc:=one_setCell (u:=.slice (some ⟨wc.heap.size,0,none⟩) xs.length xs.length) TD;have Af4:=(Below.heap_setCell wc ⟨w.heap.size+1,0,none⟩ (.slice (some ⟨wc.heap.size,0,none⟩) xs.length xs.length) w.heap.size (by show w.heap.size≠w.heap.size+1;omega)).trans hkb;have hxb:=N4.setCell (p:=⟨w.heap.size+1,0,none⟩) (by show w.heap.size<=w.heap.size+1;omega) (.slice (some ⟨wc.heap.size,0,none⟩) xs.length xs.length);have gq:(wc.setCell ⟨w.heap.size+1,0,none⟩ (.slice (some ⟨wc.heap.size,0,none⟩) xs.length xs.length)).heap.size=wc.heap.size:=(by simp);generalize wc.setCell ⟨w.heap.size+1,0,none⟩ (.slice (some ⟨wc.heap.size,0,none⟩) xs.length xs.length)=wb at *;clear Xo Qx TD hkb T0 eF hgb hb1 Qi N4;rw [←gq]at TY Bp Xc ⊢;clear gq
  have Qi:wb.cell? ⟨b1,o1+(M-1),none⟩=some (.int .u64 (T:Nat)):=by obtain⟨b3,o3,e3,Aff⟩:=ei.ad (by have:=NV.out;omega);simp only [AoB,Addr.mk.injEq,and_true]at e3;obtain⟨rfl,rfl⟩:=e3;have h:=Aff (M-1) (by have:=NV.out;omega);rw [←nT.out]at h;exact h
  have hb1:=World.block_lt_of_cell? wb _ Qi;have hgb:=cell_of_one Af4;have how:=kK wb wb.heap.size xs.length (Ao7 _) (by omega);go_wp2
  go_loopw [5,11] (fun r i wr=>AaV wb xs Y wb.heap.size r i wr) (fun _ i _=>(intOf i+1).toNat)
  case atStart=>exact⟨xs.length,List.replicate xs.length 0,0,_,rfl,rfl,IV.start Nh,fun j hj=>by simp only [Ap,List.getD_eq_getElem?_getD,List.getElem?_replicate];split<;>rfl,⟨none,0,by rw [IL];rfl,by rw [IL];exact⟨by simp,by omega,by simp,fun h=>by simp at h⟩⟩,how,(Ab.refl wb).alloc _⟩
  case round=>
   obtain⟨k,vs,rn,z,rfl,hz,hI,Ks,DY,hown,Ac⟩:=hrel;clear how;have hZ:=Ao4 hz;have Ce:=hI.le;by_cases hk:0<k
   ·have hz0:0<=z:=(by omega);obtain⟨j,rfl⟩:=Int.eq_ofNat_of_zero_le hz0;obtain rfl:k=j+1:=(by omega);clear hz;obtain⟨ba,oa,rfl,yJ⟩:=Agc.ad (by omega);have hg:=Ac.cellS (yJ j (by omega));clear yJ;obtain⟨wo,rfl⟩:=Ao3 (wr:World);have WY:j<xs.length:=Ce;have Ah:=CQ ah WY;have Anz:(pc 1000000000 rn).length<=M:=by rw [NV.out];exact U4 (Nat.le_of_lt hI.rl)
    have Kk:(wo.alloc (.cells #[.int .u64 (Ap xs j:Nat)] 179)).ownsRow wo.heap.size 179 1 (.slice (some ⟨wo.heap.size,0,none⟩) 1 1) 1 (Bw [Ap xs j]):=by
     have h:=World.ownsRow_lit (w:=wo) (base:=wo.heap.size) (e:=179) (size:=1) #[.int .u64 (Ap xs j:Nat)] 1 (Ao7 _) (by unfold maxLen;omega) (by simp)
     simpa [Bw]using h
    have fo:=DY.ext ((Ab.refl wo).alloc (.cells #[.int .u64 (Ap xs j:Nat)] 179))
    go_wp2_with (at_builtin;go_loud (refine AbE rfl _ _ rfl _ wo.heap.size (.slice (some ⟨wo.heap.size,0,none⟩) 1 1) 1 [Ap xs j] rfl Kk (pc 1000000000 rn) u5 rfl fo (by omega) (by rw [AoE];omega) ?_);intro v1 w1 hown1 hx1)
    have ew:Rd w1 v1 ([Ap xs j]++pc 1000000000 rn):=Rd.of_own (by simpa [Nat.add_comm]using hown1) (by simp;omega)
    have GX:∀z∈[Ap xs j]++pc 1000000000 rn,z<1000000000:=by
     intro z hz
     rcases List.mem_append.1 hz with h|h
     ·simp only [AoJ]at h;omega
     ·exact B8 b9 rn z h
    have e1:Ab wo w1:=hx1 wo ((Ab.refl wo).alloc _) (Ao7 _);refine(trim_c _ _ _ ew GX).mono ?_;rintro e w2 ⟨v2,rfl,hv2,hx2⟩;have e2:Ab wo w2:=e1.trans hx2;obtain⟨t,ht⟩:=Ao3 (rn*1000000000+Ap xs j);rw [show Ao 1000000000 ([Ap xs j]++pc 1000000000 rn)=t by simp [Ao,Bn b9];omega]at hv2;have hst:=hI.step Nh ah ht;have HTT:=Ao4 ht
    have Q0:t<Y*1000000000:=by have h1:rn+1<=Y:=hI.rl;have h2:(rn+1)*1000000000<=Y*1000000000:=Nat.mul_le_mul_right _ h1;omega
    clear ht hown1 hx1 Kk fo ew GX hg DY;have Ug:Ab wb w2:=Ac.trans e2;have zB:=Ug.cellS hgb;have fW:∀W,Ab wb W→Rd W (.slice (some ⟨b1,o1,none⟩) M Se) (pc 1000000000 Y):=fun W hW=>⟨_,_,by rw [NV.out],ei.ext hW⟩;have ho:=QP (pc 1000000000 t) (pc 1000000000 Y) v2 _ w2 hv2 (fW w2 Ug) (B8 b9 t) (B8 b9 Y) (G8 b9 t) (G8 b9 Y);rw [Bn b9,Bn b9]at ho;have hown2:=AL hown e2;have hlen:=hI.len;have HLEN:=Ao4 hlen;have LP:=Ks j (by omega);have HZJ:=Ao4 LP;clear hlen LP;by_cases gR:t<Y
    ·rw [ML gR]at ho;(go_wp2_with fail);(with_reducible refine ho.mono ?_);rintro e w3 ⟨rfl,hx3⟩;go_wp2;go_roundw
     case rel=>rw [Nat.div_eq_of_lt gR,Nat.mod_eq_of_lt gR,AkE HZJ.out (by rw [HLEN.out];exact WY)]at hst;exact⟨j,vs,t,_,by go_num,rfl,hst,fun i hi=>Ks i (by omega),hv2.ext hx3,AL hown2 hx3,Ug.trans hx3⟩
     case measure=>simp [intOf]
    ·have wT:Y<=t:=by omega
     obtain⟨s2,hs2,Agh⟩:∃s2:Int,s2=El t Y/\¬s2<0:=by
      rcases Nat.lt_or_eq_of_le wT with h|h
      ·exact⟨_,rfl,by rw [Lb h];omega⟩
      ·exact⟨_,rfl,by rw [PI h.symm];omega⟩
     rw [←hs2]at ho;clear hs2;obtain⟨-,-,Dp,BV,EU⟩:=ZX wT Q0 Nh;have bN:=B8 b9 t;obtain⟨A2,c2,rfl,hr2⟩:=hv2;have Qh:=hr2.cap;have An2:=hr2.max;have hlen2:=hr2.len;have Cp:=NV.out;rw [←Cp]at Dp BV EU;rw [←nT.out]at EU;clear Cp;obtain⟨b2,o2,rfl,dS⟩:=hr2.ad (by omega);have WF:=dS ((pc 1000000000 t).length-1) (by omega);have WG:=dS ((pc 1000000000 t).length-2) (by omega);clear dS;have Bl:=CQ bN (show (pc 1000000000 t).length-1<(pc 1000000000 t).length by omega);have BH:=CQ bN (show (pc 1000000000 t).length-2<(pc 1000000000 t).length by omega);obtain⟨N,hN⟩:=Ao3 ((pc 1000000000 t).length);rw [←hN]at Dp BV EU Qh hlen2 WF WG Bl BH ho ⊢;obtain⟨q1,dp⟩:=Ao3 (Ap (pc 1000000000 t) (N-1));obtain⟨q2,dr⟩:=Ao3 (Ap (pc 1000000000 t) (N-2));rw [←dp]at EU WF Bl;rw [←dr]at EU WG BH;have HN:=Ao4 hN;clear hN dp dr bN
     obtain⟨d0,WN,Jr,hd9⟩:∃d0:Nat,d0=(if M<N then q1*1000000000+q2 else q1)/\t/Y<=d0/T/\d0<1000000000000000000:=by
      refine⟨_,rfl,EU,?_⟩
      split<;>omega
     have mS:=Ao4 WN;clear WN EU;(go_wp2_with fail);(with_reducible refine ho.mono ?_);rintro e w3 ⟨rfl,hx3⟩;have Afv:=hx3.cellS zB;have AeZ:=hx3.cellS WF;have Afa:=hx3.cellS WG;clear WF WG zB ho
     go_upto_if 103 with fail
     go_cut [12] (fun d wx=>d=.int .u64 (d0:Nat)/\wx=w3)
     case first=>
      by_cases vJ:M<N
      ·have e0:((q1:Int)*1000000000+(q2:Int))=(d0:Int):=(by rw [mS.out,if_pos vJ];omega);go_wp2;go_meet
       case rel=>exact⟨by go_num,rfl⟩
      ·have e0:d0=q1:=(by rw [mS.out,if_neg vJ]);go_wp2;go_meet
       case rel=>exact⟨by rw [e0],rfl⟩
     case rest=>
      obtain⟨rfl,rfl⟩:=hcut;have hqd:t/Y<1000000000:=by rw [Nat.div_lt_iff_lt_mul Nh,Nat.mul_comm];exact Q0
      obtain⟨dm,WQ,Afl,yO⟩:∃dm:Nat,min (IntKind.u64.wrap ((d0:Int)/(T:Int))) 999999999=(dm:Int)/\t/Y<=dm/\dm<1000000000:=by
       have e1:(d0:Int)/(T:Int)=((d0/T:Nat):Int):=(by simp);refine⟨min (d0/T) 999999999,?_,?_,?_⟩
       ·have h1:d0/T<=d0:=Nat.div_le_self _ _;rw [e1,IntKind.wrap_u64];generalize d0/T=q at *;omega
       ·omega
       ·omega
      have Ag4:=Ug.trans hx3;have Kn:=lO Y dm yO (by rw [←NV.out];omega) _ _ (fW _ Ag4);have eh:∀W,Ab w2 W→Rd W (.slice (some ⟨b2,o2,none⟩) N c2) (pc 1000000000 t):=fun W hW=>⟨_,_,by rw [HN.out],hr2.ext hW⟩;(go_wp2_with fail);(with_reducible refine Kn.mono ?_);rintro e w4 ⟨vp,rfl,hvp,Ag,hfp⟩;clear hfp WQ;have Afw:=Ag.cellS Afv;have Xu:=hx3.trans Ag;have ir:=Ug.trans Xu;go_wp2
      go_loopw [12,13] (fun d p wr=>∃dn:Nat,d=.int .u64 (dn:Nat)/\t/Y<=dn/\dn<1000000000/\Rd wr p (pc 1000000000 (dn*Y))/\Ab w4 wr) (fun d _ _=>(intOf d).toNat)
      case atStart=>exact⟨dm,rfl,Afl,yO,by rw [Nat.mul_comm];exact hvp,Ab.refl _⟩
      case round=>
       obtain⟨dn,rfl,WO,Fa,hp,Ae⟩:=hrel;have Dv:=QP (pc 1000000000 (dn*Y)) (pc 1000000000 t) _ _ wr hp (eh wr (Xu.trans Ae)) (B8 b9 _) (B8 b9 t) (G8 b9 _) (G8 b9 t);rw [Bn b9,Bn b9]at Dv;clear Kn AeZ Afa;by_cases Fb:t<dn*Y
       ·rw [Lb Fb]at Dv;(go_wp2_with fail);(with_reducible refine Dv.mono ?_);rintro e w5 ⟨rfl,AG⟩;have Ang:=(Ae.trans AG).cellS Afw;have hdY:dn*Y<=1000000000*Y:=Nat.mul_le_mul_right _ (by omega)
        have WN:0<dn:=by
         rcases Nat.eq_zero_or_pos dn with h|h
         ·rw [h]at Fb;omega
         ·exact h
        have wS:Y<=dn*Y:=Nat.le_mul_of_pos_left _ WN
        have hlp:(pc 1000000000 (dn*Y)).length<=M+1:=by refine OZ b9 ?_;have h1:=II (B8 b9 Y);rw [Bn b9,←NV.out]at h1;rw [Nat.pow_succ,Nat.mul_comm];exact Nat.mul_lt_mul'' h1 Fa
        have TI:=Ur (pc 1000000000 (dn*Y)) (pc 1000000000 Y) _ _ w5 (hp.ext AG) (fW _ (ir.trans (Ae.trans AG))) (by omega) (B8 b9 _) (B8 b9 Y) (U4 wS) (by rw [Bn b9,Bn b9];exact wS);rw [Bn b9,Bn b9]at TI;(go_wp2_with fail);(with_reducible refine TI.mono ?_);rintro e w6 ⟨p2,rfl,TO,Aw⟩
        have hdq:t/Y<=dn-1:=by have:t/Y<dn:=(by rw [Nat.div_lt_iff_lt_mul Nh];exact Fb);omega
        go_wp2;go_roundw
        case rel=>exact⟨dn-1,by go_num,hdq,by omega,by rw [Nat.sub_mul,Nat.one_mul];exact TO,Ae.trans (AG.trans Aw)⟩
        case measure=>simp [intOf];omega
       ·have Ib:dn=t/Y:=by have h:dn<=t/Y:=(by rw [Nat.le_div_iff_mul_le Nh];omega);omega
        obtain⟨s5,hs5,AnL⟩:∃s5:Int,s5=El (dn*Y) t/\¬s5>0:=by
         rcases Nat.lt_or_eq_of_le (Nat.le_of_not_lt Fb)with h|h
         ·exact⟨_,rfl,by rw [ML h];omega⟩
         ·exact⟨_,rfl,by rw [PI h];omega⟩
        rw [←hs5]at Dv;have UX:=Ao4 Ib;clear hs5 Ib;(go_wp2_with fail);(with_reducible refine Dv.mono ?_);rintro e w5 ⟨rfl,AG⟩;have iI:=Ae.trans AG;have iu:=ir.trans iI;have Afx:=iu.cellS (cell_of_one Xc);have zV:dn*Y<=t:=Nat.le_of_not_lt Fb;have TI:=lj (pc 1000000000 t) (pc 1000000000 (dn*Y)) _ _ w5.drew ((eh _ (Xu.trans iI)).ext (Ab.refl w5).drew) ((hp.ext AG).ext (Ab.refl w5).drew) (by rw [←HN.out];omega) (B8 b9 t) (B8 b9 _) (U4 zV) (by rw [Bn b9,Bn b9];exact zV);rw [Bn b9,Bn b9]at TI;have dc:=AL hown2 (Xu.trans iI);have IG:vs.length=xs.length:=HLEN.out;have nV:=Ao4 IG
        go_upto_region 29 with fail
        clear IG;refine wp_region_noPanic ?_
        go_region_with (go_at_call 260;((with_reducible refine TI.mono ?_);rintro e w6 ⟨v6,rfl,⟨A6,c6,rfl,Ff⟩,Aw,dY⟩;have zh:=Ao4 dY;clear dY;have Anh:=Aw.cellS (show w5.drew.cell? ⟨w.heap.size+1,0,none⟩=_ from Afx);have fQ:=AL (Yc dc) Aw;have hgo:w6.cell? ⟨wb.heap.size,j,none⟩=some (.int .u64 (Ap vs j:Nat)):=(by rw [fQ.cellAt j (by omega)];simp [Bw,Ap,nV.out,WY]);have Gx:=fQ.frozenAt j))
        all_goals refine NoPanic.normal ?_
        all_goals go_wp2
        all_goals
         go_roundw
         case rel=>
          have An1:wb.heap.size<w5.heap.size:=World.block_lt_of_cell? w5 ⟨wb.heap.size,j,none⟩ (u:=.int .u64 (Ap vs j:Nat)) (by rw [dc.cellAt j (by omega)];simp [Bw,Ap,nV.out,WY]);obtain rfl:=UX.out;have gm:=(fQ.stored j (.int .u64 ((t/Y:Nat):Int))).1;rw [Y5]at gm;rw [show t-t/Y*Y=t%Y by rw [Nat.mod_eq_sub_mul_div,Nat.mul_comm]]at Ff ⊢;refine⟨j,vs.set j (t/Y),t%Y,_,by go_num,rfl,hst,fun i hi=>?_,⟨A6,c6,rfl,Ff.setOther _ (fun b o _ hb=>?_)⟩,gm,?_⟩
          ·have h:=Ks i (by omega);simp only [Ap,List.getD_eq_getElem?_getD,List.getElem?_set_ne (show j≠i by omega)]at h ⊢;exact h
          ·have h:w5.heap.size<=b:=zh.out b (by rw [hb];rfl);show b≠wb.heap.size;omega
          ·exact((iu.drew).trans Aw).setCell (by show wb.heap.size<=wb.heap.size;omega) _
         case measure=>simp [intOf]
   ·obtain rfl:k=0:=(by omega);obtain rfl:z = -1:=(by omega);obtain⟨hq,hr⟩:=hI.done;rw [HXS.out,Bn b9]at hq hr;rw [HX.out,HY.out,Nat.mul_div_mul_right _ _ hf0]at hq;rw [HX.out,HY.out,Nat.mul_mod_mul_right]at hr;have fh:rn/f=x%y:=(by rw [hr,Nat.mul_div_cancel _ hf0]);have zZ:=hI.lt;have HQ:=Ao4 hq;have Ey:=Ao4 fh;clear hz hq hr fh Ks;have T0:=Ac.cellS (cell_of_one Xc)
    have TV:BX wr (some ⟨wb.heap.size,0,none⟩) xs.length vs:=by obtain⟨A',c',e1,h1⟩:=Rd.of_own (base:=wb.heap.size) (l:=vs) (by rw [hI.len];exact hown) (by rw [hI.len];omega);simp only [Value.slice.injEq]at e1;obtain⟨rfl,_,rfl⟩:=e1;exact h1
    have Kk:BX (wr.alloc (.cells #[.int .u64 (f:Nat)] 179)) (some ⟨wr.heap.size,0,none⟩) 1 (pc 1000000000 f):=by
     have h:BX (wr.alloc (.cells #[.int .u64 (f:Nat)] 179)) (some ⟨wr.heap.size,0,none⟩) 1 [f]:=
      ⟨by simp,by omega,by simp,fun _=>⟨wr.heap.size,0,rfl,fun j hj=>by
       obtain rfl:j=0:=by simpa using hj
       rw [World.cell?_alloc_at _ _ _ _ (by rfl)];simp [Ap]⟩⟩
     rw [kN b9 hf0 Ql];exact h
    have Tv:=sS rn f hf0 Ql _ _ _ (DY.ext ((Ab.refl wr).alloc _)) ⟨_,_,rfl,Kk⟩;rw [kN b9 hf0 Ql]at Tv;simp only [List.length_singleton]at Tv;simp only [←zj.out]at Tv;(go_wp2_with fail);(with_reducible refine Tv.mono ?_);rintro e w7 ⟨vq,vr,rfl,iF,Xt,Aw⟩;clear Xt Tv;have Xw:=((Ab.refl wr).alloc (.cells #[.int .u64 (1000000000/(tp+1))] 179)).trans Aw;have eM:=Xw.cellS T0;have fl:=TV.ext Xw;have Anf:=free_of_one ((Xw.block _ (by have:=Ac.size;omega)).trans ((Ac.block _ Bp).trans Xc));have ht:=Rn vs _ _ w7 fl zZ;rw [hI.len]at ht;(go_wp2_with fail);(with_reducible refine ht.mono ?_);rintro e w8 ⟨rfl,rfl⟩;go_wp2;refine bodyPost_ret (v:=.tuple #[.slice (some ⟨wb.heap.size,0,none⟩) (pc 1000000000 (Ao 1000000000 vs)).length xs.length,vq]) (by simp [results,Tryz.results208,go_sem,eM]) rfl ?_;refine⟨_,_,rfl,⟨_,_,by rw [HQ.out],?_⟩,?_,?_⟩
    ·rw [←HQ.out];exact(fl.pc zZ).setCell eM (by simp)
    ·rw [←Ey.out];exact iF.setCell eM (by simp)
    ·exact((hxb.trans Ac).trans Xw).setCell (by show w.heap.size<=w.heap.size+1;omega) _
theorem VO(x y:Nat)(hy:0<y)(hlx:(pc 1000000000 x).length<39000)(u v:Value)(w:World)(hu:Rd w u (pc 1000000000 x))(hv:Rd w v (pc 1000000000 y)) :
  Calls Tryz.prog 208 #[u,v] w (P4 (x/y) (x%y) w):=by
 rcases Nat.lt_or_ge x y with h|h
 ·rw [Nat.div_eq_of_lt h,Nat.mod_eq_of_lt h];exact sR x y h u v w hu hv
 ·rcases Nat.lt_or_ge y 1000000000 with h2|h2
  ·exact sS x y hy h2 u v w hu hv
  ·exact Adn x y h h2 hlx u v w hu hv
end Go.Proofs.YtnddllipjippnaaGreatDoor
namespace Go.Proofs.YtnddllipjippnaaGreatDoor
open Go.RowKit Kl
theorem AiW{n k:Nat}(h:n<10^(9*k)):(pc 1000000000 n).length<=k:=by
 refine OZ b9 ?_;rw [Nat.pow_mul]at h;exact h
theorem AhP{x a b:Nat}(h:x<10^a)(hab:a<=b):x<10^b:=AoG h (Nat.pow_le_pow_right (by omega) hab)
theorem AV.pc{z:Int}(h:AV z):(pc 1000000000 z.natAbs).length<=445:=by
 obtain⟨m,hm⟩:=Ao3 (445);rw [←hm];exact AiW (AhP h (show VB<=9*m by rw [hm];decide))
theorem MK(m:Bool)(x:Nat):ER m x=I (if m then -(x:Int)else x):=by
 unfold ER;by_cases h:x=0
 ·subst h;rw [if_pos rfl];cases m<;>simp [RG]
 ·rw [if_neg h]
  cases m
  ·rw [if_neg (by simp),if_neg (by simp),EN]
  ·rw [if_pos rfl,if_pos rfl,Vl x (by omega)]
theorem Md{z:Int}{k:Nat}(h:(I z).length<=k):Pd z k=.tuple #[.int .i64 z,.bool true]:=if_pos h
theorem QZ{z:Int}{k:Nat}(h:¬(I z).length<=k):Pd z k=.tuple #[.int .i64 0,.bool false]:=if_neg h
theorem Yj(z:Int)(w:World):Calls Tryz.prog 205 #[S (I z),.int .i64 9] w (BG (Pd z 9) w):=qq z 9 (by omega) w
theorem NH(z:Int)(w:World):Calls Tryz.prog 205 #[S (I z),.int .i64 18] w (BG (Pd z 18) w):=qq z 18 (by omega) w
theorem NK{z:Int}{k:Nat}(h:(I z).length<=k):z.natAbs<10^k:=by
 rcases E0 z with⟨n,rfl,e⟩|⟨n,hn,rfl,e⟩
 ·rw [e]at h;simpa using OV (n:=n) (k:=k) (by omega)
 ·rw [e,List.length_cons]at h;simpa using OV (n:=n) (k:=k) (by omega)
theorem NL{x y:Int}(hx:x.natAbs<1000000000)(hy:y.natAbs<1000000000):IntKind.i64.wrap (x*y)=x*y:=by
 have h:=Ut hx hy;rw [←Int.natAbs_mul]at h;exact AoD _ (by omega)
theorem Aia{x y:Int}(hx:x.natAbs<1000000000)(hy:y.natAbs<1000000000):-9223372036854775808<=x*y/\x*y<=9223372036854775807:=by
 have h:=Ut hx hy;rw [←Int.natAbs_mul]at h;omega
theorem Aib(x y:Int):x*y=if (decide (x<0) != decide (y<0))=true then -((x.natAbs*y.natAbs:Nat):Int)else ((x.natAbs*y.natAbs:Nat):Int):=by
 rw [←Int.natAbs_mul];by_cases hx:x<0<;>by_cases hy:y<0<;>simp [hx,hy]
 ·have:=Int.mul_nonneg_of_nonpos_of_nonpos (Int.le_of_lt hx) (Int.le_of_lt hy);omega
 ·have:=Int.mul_nonpos_of_nonpos_of_nonneg (Int.le_of_lt hx) (show 0<=y by omega);omega
 ·have:=Int.mul_nonpos_of_nonneg_of_nonpos (show 0<=x by omega) (Int.le_of_lt hy);omega
 ·have:=Int.mul_nonneg (show 0<=x by omega) (show 0<=y by omega);omega
theorem AgJ(x y:Int)(hx:(I x).length<=9)(hy:(I y).length<=9)(w:World)(hw:Am w) :
  Calls Tryz.prog 188 #[S (I x),S (I y)] w (By (I (x*y)) w):=by
 have q1:=Yj x;have q2:=Yj y;rw [Md hx]at q1;rw [Md hy]at q2;have b1:=NK hx;have b2:=NK hy;have hwr:=NL b1 b2;have hin:=Aia b1 b2;have ho:=fun W hW=>iQ (x*y) hin.1 hin.2 W hW;clear hx hy b1 b2 hin;go_enter Tryz.func188,Tryz.ntmps188;(go_wp2_with fail);(with_reducible refine(q1 _).mono ?_);rintro e w1 ⟨rfl,hx1⟩;(go_wp2_with fail);(with_reducible refine(q2 _).mono ?_);rintro e w2 ⟨rfl,hx2⟩;have Ca:=hx1.trans hx2;(go_wp2_with fail);(with_reducible refine(ho _ (hw.ext Ca)).mono ?_);rintro e w3 ⟨rfl,hx3⟩;go_wp2;go_ret;exact⟨rfl,Ca.trans hx3⟩
theorem Aa{W:World}{b o:Nat}{cs:Array Value}{t:TypeId}{fz:Nat×Nat}{v:Value}(h:W.heap[b]?=some (.cells cs t fz))(hv:cs[o]?=some v):W.cell? ⟨b,o,none⟩=some v:=by
 unfold World.cell?;simp [h,hv]
theorem MG(w:World)(a b c d:Value)(s t:TypeId):∃W,W=(w.alloc (.cells #[a,b] s)).alloc (.cells #[c,d] t)/\Ab w W/\W.heap[w.heap.size]?=some (.cells #[a,b] s)/\W.heap[w.heap.size+1]?=some (.cells #[c,d] t):=by
 refine⟨_,rfl,((Ab.refl _).alloc _).alloc _,(Below.heap_alloc _ _ _ (by simp)).trans (Ao6 w _),?_⟩;have h:=Ao6 (w.alloc (.cells #[a,b] s)) (.cells #[c,d] t)
 rwa [AoE]at h
theorem AgI(x y:Int)(hx:AV x)(hy:AV y)(hn:¬((I x).length<=9/\(I y).length<=9))(w:World)(hw:Am w) :
  Calls Tryz.prog 188 #[S (I x),S (I y)] w (By (I (x*y)) w):=by
 have q1:=Yj x;have q2:=Yj y;have lx:=hx.pc;have ly:=hy.pc;have o1:=kE x hx;have o2:=kE y hy;have HS:Hid (x*y=if (!(decide (x<0) == decide (y<0)))=true then -((x.natAbs*y.natAbs:Nat):Int)else ((x.natAbs*y.natAbs:Nat):Int)):=Ao4 (Aib x y);clear hx hy;by_cases h1:(I x).length<=9
 case' pos=>rw [Md h1]at q1;rw [QZ fun h=>hn ⟨h1,h⟩]at q2;clear h1 hn;go_enter Tryz.func188,Tryz.ntmps188;(go_wp2_with fail);(with_reducible refine(q1 _).mono ?_);rintro e w1 ⟨rfl,hx1⟩;(go_wp2_with fail);(with_reducible refine(q2 _).mono ?_);rintro e w2 ⟨rfl,hx2⟩;have hx:=hx1.trans hx2;clear hx1 hx2;(go_wp2_with fail)
 case' neg=>rw [QZ h1]at q1;clear h1 hn;go_enter Tryz.func188,Tryz.ntmps188;(go_wp2_with fail);(with_reducible refine(q1 _).mono ?_);rintro e w2 ⟨rfl,hx⟩;(go_wp2_with fail)
 all_goals
  clear q1 q2;(with_reducible refine(o1 _).mono ?_);rintro e w3 ⟨v3,rfl,⟨A3,c3,rfl,hv3⟩,hx3⟩;(go_wp2_with fail);(with_reducible refine(o2 _).mono ?_);rintro e w4 ⟨v4,rfl,⟨A4,c4,rfl,hv4⟩,Ag⟩;have hx:=(hx.trans hx3).trans Ag;have hv3:=hv3.ext Ag;clear o1 o2 hx3 Ag;(go_wp2_with fail);obtain⟨W,hW,hE,hb1,hb2⟩:=MG w4 (.bool (decide (x<0))) (.slice A3 (pc 1000000000 x.natAbs).length c3) (.bool (decide (y<0))) (.slice A4 (pc 1000000000 y.natAbs).length c4) 272 272;rw [←hW];have hv3:=hv3.ext hE.drew;have hv4:=hv4.ext hE.drew;have B9:=hx.trans hE;have k1:W.cell? ⟨w4.heap.size,0,none⟩=some (.bool (decide (x<0))):=Aa hb1 rfl;have k2:W.cell? ⟨w4.heap.size,1,none⟩=some (.slice A3 (pc 1000000000 x.natAbs).length c3):=Aa hb1 rfl;have k3:W.cell? ⟨w4.heap.size+1,0,none⟩=some (.bool (decide (y<0))):=Aa hb2 rfl;have k4:W.cell? ⟨w4.heap.size+1,1,none⟩=some (.slice A4 (pc 1000000000 y.natAbs).length c4):=Aa hb2 rfl;clear hW hb1 hb2 hE hx;have ht:=Alu (pc 1000000000 x.natAbs) (pc 1000000000 y.natAbs) _ _ W.drew ⟨_,_,rfl,hv3⟩ ⟨_,_,rfl,hv4⟩ (by omega) (by omega) (B8 b9 _) (B8 b9 _);rw [Bn b9,Bn b9]at ht;have hc:=fun W2 (A5:Option Addr) (c5:Nat) (h:Ab W.drew W2) (h2:BX W2 A5 c5 (pc 1000000000 (x.natAbs*y.natAbs)))=>Fy (!(decide (x<0) == decide (y<0))) (x.natAbs*y.natAbs) (.slice A5 (pc 1000000000 (x.natAbs*y.natAbs)).length c5) W2 (hw.ext (B9.drew.trans h)) ⟨A5,c5,rfl,h2⟩;rw [MK,←HS.out]at hc
  go_region_held3 (fun w'=>w'.cell? ⟨w4.heap.size,0,none⟩=some (.bool (decide (x<0)))/\w'.cell? ⟨w4.heap.size,1,none⟩=some (.slice A3 (pc 1000000000 x.natAbs).length c3)/\w'.cell? ⟨w4.heap.size+1,0,none⟩=some (.bool (decide (y<0)))/\w'.cell? ⟨w4.heap.size+1,1,none⟩=some (.slice A4 (pc 1000000000 y.natAbs).length c4))
   (first|go_keep|exact⟨Ae.cellS k1,Ae.cellS k2,Ae.cellS k3,Ae.cellS k4⟩|exact⟨(Ae.trans AG).cellS k1,(Ae.trans AG).cellS k2,(Ae.trans AG).cellS k3,(Ae.trans AG).cellS k4⟩)
   (first|((with_reducible refine ht.mono ?_);rintro e w5 ⟨v5,rfl,⟨A5,c5,rfl,hv5⟩,Ae⟩)|((with_reducible refine(hc _ _ _ Ae hv5).mono ?_);rintro e w6 ⟨rfl,AG⟩))
  go_wp2;go_ret;exact⟨rfl,(B9.drew.trans Ae).trans AG⟩
theorem Hb(x y:Int)(hx:AV x)(hy:AV y)(w:World)(hw:Am w):Calls Tryz.prog 188 #[S (I x),S (I y)] w (By (I (x*y)) w):=by
 by_cases h:(I x).length<=9/\(I y).length<=9
 ·exact AgJ x y h.1 h.2 w hw
 ·exact AgI x y hx hy h w hw
end Go.Proofs.YtnddllipjippnaaGreatDoor
