/- X16: Div1 Div2. -/
import Derived.Test.YtjalkoacphhgdaaGreatDoorX15
import Derived.Deep.RegionHeld3
set_option maxRecDepth 100000
set_option maxHeartbeats 4000000
namespace Go.Proofs.YtjalkoacphhgdaaGreatDoor
open Go.RowKit Kl Go.Shelf
section
attribute [local go_sem] Oper.semAt_some
def Po(q r:Nat)(w:World)(e:Ending)(w':World):Prop:=
 ∃vq vr,e=.returned (.tuple #[vq,vr])/\Rd w' vq (pc 1000000000 q)/\Rd w' vr (pc 1000000000 r)/\Aa w w'
theorem Rd.nil(w:World):Rd w (.slice none 0 0) []:=⟨none,0,rfl,by simp,by omega,by simp,fun h=>by simp at h⟩
theorem b9:(2:Nat)<=1000000000:=by omega
theorem tY(x y:Nat)(iS:x<y)(u v:Value)(w:World)(hu:Rd w u (pc 1000000000 x))(hv:Rd w v (pc 1000000000 y)) :
  Calls Tryz.prog 278 #[u,v] w (Po 0 x w):=by
 have Jm:=fun W hu hv=>QA (pc 1000000000 x) (pc 1000000000 y) u v W hu hv (Bl b9 x) (Bl b9 y) (Gv b9 x) (Gv b9 y);rw [AZ b9,AZ b9,M8 iS]at Jm;have hx1:=((Aa.refl w).alloc (.cells #[v] 278)).alloc (.cells #[.slice none 0 0] 278);have ho:=Jm _ (hu.ext hx1) (hv.ext hx1);have OF:=hu;have iK:=hv;obtain⟨A,ca,e1,Ct⟩:=OF;obtain⟨B,cb,e2,BX⟩:=iK;clear Jm;rw [e1,e2]at ho;subst e1 e2;go_enter Tryz.func278,Tryz.ntmps278;(go_wp2_with fail);(with_reducible refine ho.mono ?_);rintro e w1 ⟨rfl,hx2⟩;obtain⟨hc2,hf2⟩:=hx2.cells;go_wp2;refine bodyPost_ret (v:=.tuple #[.slice none 0 0,.slice A (pc 1000000000 x).length ca]) (by simp [results,Tryz.results278,go_sem,hc2]) rfl ?_;have e0:=hc2 (w.heap.size+1) 0 (by simp);rw [World.cell?_alloc_at _ _ _ _ (by simp)]at e0;exact⟨_,_,rfl,by rw [ID];exact Rd.nil _,⟨A,ca,rfl,((Ct.ext hx1).ext hx2).setCell e0 (by simp)⟩,(hx1.trans hx2).setCell (by show w.heap.size<=w.heap.size+1;omega) _⟩
/-! ### One piece -/
structure IR(a qs:List Nat)(y i r:Nat):Prop where
 len:qs.length=a.length
 lt:∀x∈qs,x<1000000000
 le:i<=a.length
 rl:r<y
 sum:Ag 1000000000 (qs.drop i)*y+r=Ag 1000000000 (a.drop i)
theorem IR.start{a:List Nat}{y:Nat}(hy:0<y):IR a (List.replicate a.length 0) y a.length 0:=
 ⟨by simp,by intro x hx;rw [List.mem_replicate]at hx;omega,AqK _,hy,by simp [Ag]⟩
theorem IR.step{a qs:List Nat}{y i r t:Nat}(h:IR a qs y (i+1) r)(hy:0<y)(ha:∀x∈a,x<1000000000)(ht:t=r*1000000000+Ah a i) :
  IR a (qs.set i (t/y)) y i (t%y):=by
 have hi:i<a.length:=h.le;have hai:=Cj ha hi
 have hq:t/y<1000000000:=by rw [Nat.div_lt_iff_lt_mul hy];have h1:r+1<=y:=h.rl;have:(r+1)*1000000000<=y*1000000000:=Nat.mul_le_mul_right _ h1;omega
 refine⟨by rw [List.length_set,h.len],X9 h.lt hq,by omega,Nat.mod_lt _ hy,?_⟩
 have e1:(qs.set i (t/y)).drop i=t/y::qs.drop (i+1):=by rw [M9 (by rw [List.length_set,h.len];exact hi),List.drop_set_of_lt (by omega)];simp [Ah,h.len,hi]
 rw [e1,M9 hi];simp only [Ag];have hs:=h.sum;have hm:=Nat.div_add_mod t y;generalize Ag 1000000000 (qs.drop (i+1))=Q at *;generalize Ag 1000000000 (a.drop (i+1))=V at *;generalize t/y=d at *;generalize t%y=m at *;have e2:(d+1000000000*Q)*y=y*d+1000000000*(Q*y):=(by rw [Nat.add_mul,Nat.mul_comm d y,Nat.mul_assoc]);rw [e2];omega
theorem IR.done{a qs:List Nat}{y r:Nat}(h:IR a qs y 0 r):Ag 1000000000 qs=Ag 1000000000 a/y/\r=Ag 1000000000 a%y:=by
 have hs:=h.sum;have hr:=h.rl;rw [List.drop_zero,List.drop_zero]at hs;rw [←hs,Nat.mul_comm];exact⟨by rw [Nat.mul_add_div (by omega),Nat.div_eq_of_lt hr,Nat.add_zero],by rw [Nat.mul_add_mod,Nat.mod_eq_of_lt hr]⟩
abbrev OY(n:Nat):={p:Nat×Nat // p.2<1000000000/\p.1<n}
theorem Aeh(zs:List Nat)(h0:0<zs.length)(hz:∀x∈zs,x<1000000000):∃g:Nat→OY zs.length,∀k,k<zs.length→(g k).1=EC zs k:=
 ⟨fun k=>if h:k<zs.length then ⟨EC zs k,Cj hz (by omega),by simp only [EC];omega⟩else ⟨(0,0),by omega,h0⟩,fun k hk=>by simp [hk]⟩
def D1(w:World)(zs:List Nat)(y:Nat)(g:Nat→OY zs.length)(qb bb ob cb xb:Nat)(pre:List (OY zs.length))(W:World):Prop:=
 ∃(vs:List Nat) (r:Nat),vs.length=zs.length/\W.ownsRow qb 184 1 (.slice (some ⟨qb,0,none⟩) zs.length zs.length) zs.length (Bi vs)
  /\W.heap[qb+1]?=some (.cells #[.int .u64 (r:Nat)] 184 (0,0))
  /\W.cell? ⟨w.heap.size,0,none⟩=some (.slice (some ⟨bb,ob,none⟩) 1 cb)
  /\W.heap[w.heap.size+1]?=some (.cells #[.slice (some ⟨qb,0,none⟩) zs.length zs.length] 278 (0,0))
  /\W.cell? ⟨bb,ob,none⟩=some (.int .u64 (y:Nat))
  /\(∃x,W.heap[xb]?=some (.cells x 278 (0,0)))
  /\Aa w W
  /\∀k,k<=zs.length→pre=upto g k→IR zs vs y (zs.length-k) r
theorem BI.putObj{w:World}{A:Option Addr}{c D:Nat}{l:List Nat}{o:Obj}(h:BI w A c l)(hD:w.heap[D]?=some o)(ho:o.isCells=false)(o':Obj):BI (w.putObj D o') A c l:=
 ⟨h.cap,h.max,h.len,fun h0=>by
  obtain⟨b,o1,e,hc⟩:=h.ad h0
  exact⟨b,o1,e,fun j hj=>cell_kept (hc j hj) (grownBy_putObj' w D o') (fun r e=>by cases e;exact⟨o,hD,ho⟩)⟩⟩
theorem Aeg(r x y:Nat)(hy:y<1000000000)(hx:x<1000000000):∃t:Nat,IntKind.u64.wrap (IntKind.u64.wrap ((r:Int)*1000000000)+(x:Int))=(t:Int)/\(r<y→t=r*1000000000+x)/\IntKind.u64.wrap ((t:Int)/(y:Int))=((t/y:Nat):Int):=by
 refine⟨(r*1000000000%18446744073709551616+x)%18446744073709551616,?_,fun h=>by omega,?_⟩
 ·simp only [IntKind.wrap_u64];omega
 ·simp only [IntKind.wrap_u64];generalize hm:(r*1000000000%18446744073709551616+x)%18446744073709551616=m;have h1:m/y<=m:=Nat.div_le_self _ _;have h2:(m:Int)/(y:Int)=((m/y:Nat):Int):=(by simp);have h3:m<18446744073709551616:=(by omega);rw [h2];generalize m/y=q at *;omega
theorem Aet(x y:Nat)(Xm:y<=x)(Bj:0<y)(TE:y<1000000000)(u v:Value)(w:World)(hu:Rd w u (pc 1000000000 x))(hv:Rd w v (pc 1000000000 y)) :
  Calls Tryz.prog 278 #[u,v] w (Po (x/y) (x%y) w):=by
 have Jm:=fun W hu hv=>QA (pc 1000000000 x) (pc 1000000000 y) u v W hu hv (Bl b9 x) (Bl b9 y) (Gv b9 x) (Gv b9 y)
 obtain⟨s,hs,hs0⟩:∃s:Int,s=DW x y/\¬s<0:=by
  rcases Nat.lt_or_eq_of_le Xm with h|h
  ·exact⟨_,rfl,by rw [KV h];omega⟩
  ·exact⟨_,rfl,by rw [P5 h.symm];omega⟩
 rw [AZ b9,AZ b9,←hs]at Jm;clear hs;have hx1:=((Aa.refl w).alloc (.cells #[v] 278)).alloc (.cells #[.slice none 0 0] 278);have ho:=Jm _ (hu.ext hx1) (hv.ext hx1);obtain⟨zs,hzs⟩:=AqG (pc 1000000000 x);have hlt:∀x∈zs,x<1000000000:=(by rw [hzs];exact Bl b9 x);rw [←hzs]at hu
 have Nw:0<zs.length:=by rw [List.length_pos_iff,hzs];intro e;have:=(QF b9).1 e;omega
 rw [lA b9 Bj TE]at hv;have HZ:=AqH hzs;clear hzs Jm;have AN:=hu;obtain⟨A,ca,e1,Ct⟩:=hu;obtain⟨B,cb,e2,BX⟩:=hv;have Ep:=Ct.len;obtain⟨bb,ob,rfl,hcb⟩:=BX.ad (by simp);have Dw:=hcb 0 (by simp);simp only [List.length_singleton]at e2;have Dw:w.cell? ⟨bb,ob,none⟩=some (.int .u64 (y:Nat)):=(by simpa [Ah]using Dw);have C4:=BX.cap;have hmax:=BX.max;simp only [List.length_singleton]at C4;have hmk:=jS zs.length (by omega) (zs.length:Int) rfl;rw [e1,e2]at ho;rw [e2]at hx1;subst e1 e2;refine(callsIn_wide (n:=4)).1 ?_;refine callsIn_of_wp_marks Tryz.func278 rfl trivial ?_ rfl;simp only [Tryz.ntmps278,List.size_toArray,List.length_cons,List.length_nil,Nat.reduceAdd,Nat.reduceSub,Array.replicate_succ,Array.replicate_zero,List.push_toArray,List.append_toArray,List.nil_append,List.cons_append];gi_wp2;refine⟨trivial,?_⟩;refine(callsIn_wide.2 ho).mono ?_;rintro e w1 ⟨rfl,hx2⟩;obtain⟨hc2,hf2⟩:=hx2.cells;have L9:=hx2.size;simp only [AqR]at L9;have AhM:w.heap.size<w1.heap.size:=(by omega);have Aqh:w.heap.size+1<w1.heap.size:=(by omega);gi_wp2;obtain⟨W2,hW2⟩:=AqG (((w1.setCell ⟨w.heap.size+1,0,none⟩ (.slice (some ⟨w1.heap.size,0,none⟩) zs.length zs.length)).alloc (.cells (madeCells #[.int .u64 0] zs.length) 184)).alloc (.cells #[.int .u64 0] 184));rw [←hW2];have hn:zs.length<=200000:=by omega
 have k3:W2.cell? ⟨w.heap.size,0,none⟩=some (.slice (some ⟨bb,ob,none⟩) 1 cb):=by
  have h:=hc2 (w.heap.size) 0 (by simp;omega);rw [hW2]
  go_simp
 have k4:W2.cell? ⟨w.heap.size+1,0,none⟩=some (.slice (some ⟨w1.heap.size,0,none⟩) zs.length zs.length):=by
  have h:=hc2 (w.heap.size+1) 0 (by simp);have h2:=hf2 (w.heap.size+1) 0;rw [hW2]
  go_simp
 have k4b:W2.heap[w.heap.size+1]?=some (.cells #[.slice (some ⟨w1.heap.size,0,none⟩) zs.length zs.length] 278 (0,0)):=by have h1:=hx2.block (w.heap.size+1) (by simp);have h2:=AqJ (w.alloc (.cells #[.slice (some ⟨bb,ob,none⟩) 1 cb] 278)) (.cells #[.slice none 0 0] 278);rw [AqR]at h2;have h3:=one_setCell (u:=.slice (some ⟨w1.heap.size,0,none⟩) zs.length zs.length) (h1.trans h2);rw [hW2,Below.heap_alloc _ _ _ (by simp;omega),Below.heap_alloc _ _ _ (by simp;omega)];exact h3
 have k6:W2.heap[w1.heap.size+1]?=some (.cells #[.int .u64 0] 184 (0,0)):=by
  rw [hW2];have h:=AqJ ((w1.setCell ⟨w.heap.size+1,0,none⟩ (.slice (some ⟨w1.heap.size,0,none⟩) zs.length zs.length)).alloc (.cells (madeCells #[.int .u64 0] zs.length) 184)) (.cells #[.int .u64 0] 184)
  simpa using h
 have AgF:W2.cell? ⟨bb,ob,none⟩=some (.int .u64 (y:Nat)):=by
  have hb:=World.block_lt_of_cell? w _ Dw;have h1:w1.cell? ⟨bb,ob,none⟩=some (.int .u64 (y:Nat)):=((((Aa.refl w).alloc _).alloc _).trans hx2).cellS Dw;have h2:bb≠w.heap.size+1:=(by have:bb<w.heap.size:=hb;omega);have h3:bb<w1.heap.size:=(by have:bb<w.heap.size:=hb;omega);rw [hW2]
  go_simp
 have je:W2.heap.size=w1.heap.size+2:=by rw [hW2];simp
 have Bn:Aa w W2:=by rw [hW2];exact((((Aa.refl w).alloc _).alloc _).trans hx2 |>.setCell (by show w.heap.size<=w.heap.size+1;omega) _).alloc _ |>.alloc _
 have ho2:W2.ownsRow w1.heap.size 184 1 (.slice (some ⟨w1.heap.size,0,none⟩) zs.length zs.length) zs.length (Bi (List.replicate zs.length 0)):=by rw [hW2];have h:=kW (w1.setCell ⟨w.heap.size+1,0,none⟩ (.slice (some ⟨w1.heap.size,0,none⟩) zs.length zs.length)) w1.heap.size zs.length (by simp) hn;rw [World.size_setCell]at h;exact h.alloc _
 have JF:=AqH je;have Aqn:w1.heap.size+2<=W2.heap.size:=(by omega);clear hW2 hc2 hf2 hmk hcb je;obtain⟨g,hg⟩:∃g:Nat→OY zs.length,∀k,k<zs.length→(g k).1=EC zs k:=Aeh zs Nw hlt;refine⟨trivial,?_⟩;refine(ZG Fence.wide 3 trivial rfl _ _ ⟨_,_,_,rfl⟩).mono ?_;rintro e W3 ⟨rfl,rfl⟩;gi_wp2
 refine wpIn_rangeFunc_ownG rfl (by omega) (gf:=340) (lb:=#[.pointer (some ⟨W2.heap.size,0,none⟩)]) rfl trivial (enters_of Tryz.func340 (by kernel_rfl) rfl)
  (ZH (fun p:OY zs.length=>p.1.1) (fun p:OY zs.length=>p.1.2) Fence.wide 3 trivial rfl (by omega) W2.heap.size w.heap.size _ zs g (fun k hk=>by have:=hg k hk;simpa using this) (W2.alloc (.cells #[.slice A zs.length ca] 278)) (by simp) (by simp;omega) (by simp) ⟨w,AN,AqK _,Bn.alloc _⟩)
  (fun h k=>h.trans k) (BE.put (by simp;omega) (by simp)) (Below.refl _ _) (fun _=>rfl)
  (D1 w zs y g w1.heap.size bb ob cb W2.heap.size)
  (fun _ _ _=>False) ?hI (fun _ _ _ _ _ hs _ _=>hs) ?h0 ?a1 ?assign ?body ?done ?stop
 case a1=>exact fun x=>{tmps:=#[.slice A zs.length ca,.slice (some ⟨bb,ob,none⟩) 1 cb,undef,.pointer (some ⟨w.heap.size,0,none⟩),.pointer (some ⟨w.heap.size+1,0,none⟩),.slice none 0 0,.pointer (some ⟨w1.heap.size+1,0,none⟩),.int .i64 (x.1.1:Nat),.int .u64 (x.1.2:Nat),undef,undef,undef,undef,undef,.slice A zs.length ca,.slice (some ⟨bb,ob,none⟩) 1 cb,.int .i64 s,.bool (decide (s<0)),undef,.slice (some ⟨bb,ob,none⟩) 1 cb,.int .i64 1,.bool true,.slice A zs.length ca,.int .i64 zs.length,.slice (some ⟨w1.heap.size,0,none⟩) zs.length zs.length,.slice A zs.length ca,.func (.func 340) #[] #[.pointer (some ⟨W2.heap.size,0,none⟩)],.int .i64 (x.1.1:Nat),.int .u64 (x.1.2:Nat),undef,undef,undef,undef,undef,undef,undef,undef,undef,undef,undef,undef,undef,undef,undef,undef,undef,undef,undef,undef,undef,undef,undef,undef,undef,undef,undef,undef,undef,undef,undef,undef,undef,undef,undef,undef,undef,undef,undef,undef,undef,undef,undef,undef,undef,undef,undef,undef,undef,undef,undef,undef,undef,undef,undef,undef,undef,undef,undef,undef,undef,undef,undef,undef,undef,undef,undef,undef,undef,undef,undef,undef,undef,undef,undef,undef,undef,undef,undef,undef,undef,undef,undef,undef,undef,undef,undef,undef,undef,undef,undef,undef,undef,undef,undef,undef,undef,undef,undef,undef,undef,undef,undef,undef,undef,undef,undef,undef,undef,undef,undef,undef,undef,undef,undef,undef,undef],defers:=[]}
 case hI=>
  rintro pre W W' row ⟨vs,r,Ju,hown,Jr,h3,JX,hy,⟨bx,BU⟩,hxx,Hx⟩ Dl hr';have hro:∀r,row=some r→∃o:Obj,W.heap[r]?=some o/\o.isCells=false:=fun r e=>(hr' r e).2;refine⟨vs,r,Ju,?_,D9 Dl Jr hro,cell_kept h3 Dl hro,D9 Dl JX hro,cell_kept hy Dl hro,⟨bx,D9 Dl BU hro⟩,?_,Hx⟩
  ·refine hown.kept Dl (.inr fun e=>?_);obtain⟨c,fz,hk⟩:=XU hown w1.heap.size rfl;obtain⟨o,ho,hc⟩:=hro w1.heap.size e.symm;rw [hk]at ho;obtain rfl:=Option.some.inj ho;simp [Obj.isCells]at hc
  ·exact(ownFrom_below (AqK _) (by simp;omega)) () W W' row hxx Dl hr'
 case h0=>
  have AD:=(Aa.refl W2).alloc (.cells #[.slice A zs.length ca] 278);refine⟨List.replicate zs.length 0,0,by simp,AC ho2 AD,(AD.block _ (by omega)).trans k6,AD.cellS k3,(AD.block _ (by omega)).trans k4b,AD.cellS AgF,⟨_,AqJ _ _⟩,Below.trans Bn (Below.mono AD (by omega)),fun k hk e=>?_⟩
  cases k with
  | zero=>exact IR.start Bj
  | succ k=>have:=congrArg List.length e;rw [upto_length]at this;simp at this
 case assign=>intro l x W K hK;gi_wp2;exact hK
 case body=>
  rintro l pre x W ⟨vs,r,Ju,hown,Jr,h3,JX,hy,BU,hxx,Hx⟩ hlen;have h4:=cell_of_one JX;have hc6:=cell_of_one Jr;have eH:=free_of_one Jr;have hix:=x.2.2;obtain⟨t,ht,htg,hq⟩:∃t:Nat,IntKind.u64.wrap (IntKind.u64.wrap ((r:Int)*1000000000)+(x.1.2:Int))=(t:Int)/\(r<y→t=r*1000000000+x.1.2)/\IntKind.u64.wrap ((t:Int)/(y:Int))=((t/y:Nat):Int):=Aeg r x.1.2 y TE x.2.1;gi_wp2;clear ht;obtain⟨W0,hW0⟩:=AqG ((W.setCell ⟨w1.heap.size+1,0,none⟩ (.int .u64 (t:Nat))).drew);obtain⟨KQ,hW1⟩:=AqG (W0.setCell ⟨w1.heap.size,x.1.1,none⟩ (.int .u64 ((t/y:Nat):Int)));obtain⟨Mv,hW2⟩:=AqG (KQ.setCell ⟨w1.heap.size+1,0,none⟩ (.int .u64 ((t%y:Nat):Int)));refine wpIn_region_any (by kernel_rfl) ?_;have Br:bb<w.heap.size:=World.block_lt_of_cell? w ⟨bb,ob,none⟩ Dw
  have Jp:∀k,k≠w1.heap.size→¬Value.ownBlock (.slice (some ⟨w1.heap.size,0,none⟩) zs.length zs.length)=some k:=by intro k hk e;simp only [Value.ownBlock,AqO]at e;exact hk e.symm
  have Ua:W0.ownsRow w1.heap.size 184 1 (.slice (some ⟨w1.heap.size,0,none⟩) zs.length zs.length) zs.length (Bi vs):=by rw [hW0];exact XV (ownsRow_setCell_other hown (Jp (w1.heap.size+1) (by omega)) _)
  have AkU:KQ.ownsRow w1.heap.size 184 1 (.slice (some ⟨w1.heap.size,0,none⟩) zs.length zs.length) zs.length (Bi (vs.set x.1.1 (t/y))):=by rw [hW1,←Y0];exact(Ua.stored _ _).1
  have Ub:Mv.ownsRow w1.heap.size 184 1 (.slice (some ⟨w1.heap.size,0,none⟩) zs.length zs.length) zs.length (Bi (vs.set x.1.1 (t/y))):=by rw [hW2];exact ownsRow_setCell_other AkU (Jp (w1.heap.size+1) (by omega)) _
  have vt:W0.heap[w1.heap.size+1]?=some (.cells #[.int .u64 (t:Nat)] 184 (0,0)):=by rw [hW0];exact one_setCell Jr
  have lP:KQ.heap[w1.heap.size+1]?=some (.cells #[.int .u64 (t:Nat)] 184 (0,0)):=by rw [hW1,Below.heap_setCell _ _ _ _ (show w1.heap.size+1≠w1.heap.size by omega)];exact vt
  have Amr:Mv.heap[w1.heap.size+1]?=some (.cells #[.int .u64 ((t%y:Nat):Int)] 184 (0,0)):=(by rw [hW2];exact one_setCell lP);have AgB:=cell_of_one vt;have zG:=cell_of_one lP;have AgQ:=free_of_one lP;have hb0:∀k,k≠w1.heap.size+1→W0.heap[k]?=W.heap[k]?:=fun k hk=>(by rw [hW0];exact Below.heap_setCell W _ _ k hk);have hb1:∀k,k≠w1.heap.size→k≠w1.heap.size+1→KQ.heap[k]?=W.heap[k]?:=fun k hk hk2=>(by rw [hW1,Below.heap_setCell _ _ _ _ hk];exact hb0 k hk2);have hb2:∀k,k≠w1.heap.size→k≠w1.heap.size+1→Mv.heap[k]?=W.heap[k]?:=fun k hk hk2=>(by rw [hW2,Below.heap_setCell _ _ _ _ hk2];exact hb1 k hk hk2);have AfD:=(World.cell?_of_block (a:=⟨w.heap.size,0,none⟩) (hb0 w.heap.size (by omega))).trans h3;have AfK:=(World.cell?_of_block (a:=⟨w.heap.size+1,0,none⟩) (hb0 (w.heap.size+1) (by omega))).trans h4;have Aip:=(World.cell?_of_block (a:=⟨bb,ob,none⟩) (hb0 bb (by omega))).trans hy;have AfE:=(World.cell?_of_block (a:=⟨w.heap.size,0,none⟩) (hb1 w.heap.size (by omega) (by omega))).trans h3;have AfL:=(World.cell?_of_block (a:=⟨w.heap.size+1,0,none⟩) (hb1 (w.heap.size+1) (by omega) (by omega))).trans h4;have Aiq:=(World.cell?_of_block (a:=⟨bb,ob,none⟩) (hb1 bb (by omega) (by omega))).trans hy;have AfF:=(World.cell?_of_block (a:=⟨w.heap.size,0,none⟩) (hb2 w.heap.size (by omega) (by omega))).trans h3;have AfM:=(hb2 (w.heap.size+1) (by omega) (by omega)).trans JX;have Air:=(World.cell?_of_block (a:=⟨bb,ob,none⟩) (hb2 bb (by omega) (by omega))).trans hy
  have Cg:Below w.heap.size W Mv:=by rw [hW2,hW1,hW0];exact(((Below.refl _ W).setCell (by show w.heap.size<=w1.heap.size+1;omega) _).drew.setCell (by show w.heap.size<=w1.heap.size;omega) _).setCell (by show w.heap.size<=w1.heap.size+1;omega) _
  have eP:=Ua.frozenAt (g:=w1.heap.size) x.1.1
  have hqc:(W0.cell? ⟨w1.heap.size,x.1.1,none⟩).isSome:=by have h1:(Bi vs)[x.1.1]?=some (.int .u64 (Ah vs x.1.1:Nat)):=(by simp [Bi,Ah,Ju,hix]);have h2:=Ua.cells (g:=w1.heap.size) rfl x.1.1 _ h1;rw [Addr.add_lit,Nat.zero_add]at h2;rw [h2];rfl
  refine Aor 33 13
   (fun i=>#[.slice (some ⟨w1.heap.size,0,none⟩) zs.length zs.length,.int .i64 (x.1.1:Nat),.int .u64 (t:Nat),.slice (some ⟨bb,ob,none⟩) 1 cb,.pointer (some ⟨bb,ob,none⟩),.int .u64 (y:Nat),.int .u64 ((t/y:Nat):Int),.int .u64 (t:Nat),.slice (some ⟨bb,ob,none⟩) 1 cb,.pointer (some ⟨bb,ob,none⟩),.int .u64 (y:Nat),.int .u64 ((t%y:Nat):Int),.pointer (some ⟨w1.heap.size,x.1.1,none⟩)].getD i undef)
   (J9 13 14 W0 KQ Mv) (by kernel_rfl) (by simp) hW0 ?_ ?_
  ·intro listed a i o Aj hr ho K hK;obtain⟨Av,o',WT,BJ⟩:=mem_ready.1 hr;obtain rfl:=Option.some.inj (WT.symm.trans ho);have hi:i<15:=(Array.getElem?_eq_some_iff.1 ho).1
   have aX:listed.getD 14 false=false:=by
    by_cases h:listed.getD 14 false=true
    ·exfalso
     have h1:∀j,j<15→listed.getD j false=true:=by
      intro j hj;by_cases e:j=14
      ·rw [e];exact h
      ·exact Aj.waits (j:=14) rfl h j (by
        rcases(by omega:j=0∨j=1∨j=2∨j=3∨j=4∨j=5∨j=6∨j=7∨j=8∨j=9∨j=10∨j=11∨j=12∨j=13)with rfl|rfl|rfl|rfl|rfl|rfl|rfl|rfl|rfl|rfl|rfl|rfl|rfl|rfl<;>kernel_rfl)
     have h2:=h1 i hi;rw [getD_both Av]at h2
     cases h2
    ·simpa using h
   have e3:=Aj.out (s:=33) (m:=13) (by kernel_rfl) (d:=3) (by omega) rfl;have e4:=Aj.out (s:=33) (m:=13) (by kernel_rfl) (d:=4) (by omega) rfl;have e6:=Aj.out (s:=33) (m:=13) (by kernel_rfl) (d:=6) (by omega) rfl;have e7:=Aj.out (s:=33) (m:=13) (by kernel_rfl) (d:=7) (by omega) rfl;have hval:=fun i {d} hd hi hl {v} hv=>Aj.val (s:=33) (m:=13) (by kernel_rfl) i (d:=d) hd hi hl (v:=v) hv;refine⟨fun _ _=>trivial,?_⟩;rw [Oper.semAt_eq _ _ _ (kD (l:=_) (by kernel_rfl) i o' ho)];have fg:=Aj.lsz;clear WT Aj;by_cases ApA:i<13
   ·rw [Ao7 (by omega) (by omega)]at hK
    obtain⟨V,hV,zF,wE,h4V,j7⟩:∃V,J9 13 14 W0 KQ Mv listed=V/\V.cell? ⟨w1.heap.size+1,0,none⟩=some (.int .u64 (t:Nat))/\V.cell? ⟨w.heap.size,0,none⟩=some (.slice (some ⟨bb,ob,none⟩) 1 cb)
      /\V.cell? ⟨w.heap.size+1,0,none⟩=some (.slice (some ⟨w1.heap.size,0,none⟩) zs.length zs.length)/\V.cell? ⟨bb,ob,none⟩=some (.int .u64 (y:Nat)):=by
     by_cases Oc:listed.getD 13 false=true
     ·exact⟨KQ,nE Oc aX,zG,AfE,AfL,Aiq⟩
     ·exact⟨W0,Aao (by simpa using Oc),AgB,AfD,AfK,Aip⟩
    rw [hV]at hK ⊢;clear hV
    rcases(by omega:i=0∨i=1∨i=2∨i=3∨i=4∨i=5∨i=6∨i=7∨i=8∨i=9∨i=10∨i=11∨i=12)with rfl|rfl|rfl|rfl|rfl|rfl|rfl|rfl|rfl|rfl|rfl|rfl|rfl
    all_goals simp only [List.getElem?_toArray,List.getElem?_cons_zero,List.getElem?_cons_succ,AqO]at ho
    all_goals subst ho
    all_goals have AM:=J6 BJ
    all_goals simp only [Act.eval]at e3 e4 e6 e7
    all_goals clear fg
    ·clear hval AM BJ Av hr;simp [execOp,go_sem,Oper.uponIn,e4,h4V];exact hK
    ·clear hval AM BJ Av hr;simp [execOp,go_sem,Oper.uponIn,e7];exact hK
    ·clear hval AM BJ Av hr;simp [execOp,go_sem,Oper.uponIn,e6,zF];exact hK
    ·clear hval AM BJ Av hr;simp [execOp,go_sem,Oper.uponIn,e3,wE];exact hK
    ·have f36:=hval 3 (d:=36) rfl (by omega) (AM 3 (by kernel_rfl)) rfl;simp only [Act.eval]at f36;clear hval AM BJ Av hr;simp [execOp,go_sem,Oper.uponIn,f36];exact hK
    ·have f37:=hval 4 (d:=37) rfl (by omega) (AM 4 (by kernel_rfl)) rfl;simp only [Act.eval]at f37;clear hval AM BJ Av hr;simp [execOp,go_sem,Oper.uponIn,j7,f37];exact hK
    ·have f35:=hval 2 (d:=35) rfl (by omega) (AM 2 (by kernel_rfl)) rfl;have f38:=hval 5 (d:=38) rfl (by omega) (AM 5 (by kernel_rfl)) rfl;simp only [Act.eval]at f35 f38;clear hval AM BJ Av hr;have hy1:y≠0:=(by omega);simp [execOp,go_sem,Oper.uponIn,hy1,f35,f38,hq];exact hK
    ·clear hval AM BJ Av hr;simp [execOp,go_sem,Oper.uponIn,e6,zF];exact hK
    ·clear hval AM BJ Av hr;simp [execOp,go_sem,Oper.uponIn,e3,wE];exact hK
    ·have vE:=hval 8 (d:=41) rfl (by omega) (AM 8 (by kernel_rfl)) rfl;simp only [Act.eval]at vE;clear hval AM BJ Av hr;simp [execOp,go_sem,Oper.uponIn,vE];exact hK
    ·have vF:=hval 9 (d:=42) rfl (by omega) (AM 9 (by kernel_rfl)) rfl;simp only [Act.eval]at vF;clear hval AM BJ Av hr;simp [execOp,go_sem,Oper.uponIn,j7,vF];exact hK
    ·have f40:=hval 7 (d:=40) rfl (by omega) (AM 7 (by kernel_rfl)) rfl;have vG:=hval 10 (d:=43) rfl (by omega) (AM 10 (by kernel_rfl)) rfl;simp only [Act.eval]at f40 vG;clear hval AM BJ Av hr;have hy1:y≠0:=(by omega);have hm:(t:Int).tmod (y:Int)=((t%y:Nat):Int):=(by rw [Int.tmod_eq_emod_of_nonneg (by omega)];simp);simp [execOp,go_sem,Oper.uponIn,hy1,f40,vG,hm];exact hK
    ·have f33:=hval 0 (d:=33) rfl (by omega) (AM 0 (by kernel_rfl)) rfl;have f34:=hval 1 (d:=34) rfl (by omega) (AM 1 (by kernel_rfl)) rfl;simp only [Act.eval]at f33 f34;clear hval AM BJ Av hr;simp [execOp,go_sem,Oper.uponIn,hix,f33,f34];exact hK
   ·have hsz:=fg
    rcases(by omega:i=13∨i=14)with rfl|rfl
    ·have Oc:listed.getD 13 false=false:=getD_both Av;rw [nE (Iv (by rw [hsz];exact hi)) (by rw [getD_set_ne false (by omega)];exact aX)]at hK;rw [Aao Oc];simp only [List.getElem?_toArray,List.getElem?_cons_zero,List.getElem?_cons_succ,AqO]at ho;subst ho;have AM:=J6 BJ;have f39:=hval 6 (d:=39) rfl (by omega) (AM 6 (by kernel_rfl)) rfl;have vI:=hval 12 (d:=45) rfl (by omega) (AM 12 (by kernel_rfl)) rfl;simp only [Act.eval]at f39 vI;clear hval AM BJ Av hr;obtain⟨vq,iM⟩:=Option.isSome_iff_exists.1 hqc;simp [execOp,go_sem,Oper.uponIn,f39,vI,eP,iM];rw [hW1]at hK;exact hK
    ·simp only [List.getElem?_toArray,List.getElem?_cons_zero,List.getElem?_cons_succ,AqO]at ho;subst ho;have AM:=J6 BJ;have Oc:=AM 13 (by kernel_rfl);rw [Aap (getD_set_true Oc) (Iv (by rw [hsz];exact hi))]at hK;rw [nE Oc aX];have vH:=hval 11 (d:=44) rfl (by omega) (AM 11 (by kernel_rfl)) rfl;simp only [Act.eval]at vH e6;clear hval AM BJ Av hr;simp [execOp,go_sem,Oper.uponIn,vH,e6,AgQ,zG];rw [hW2]at hK;exact hK
  ·intro listed a Aj hall;rw [Aap (hall 13 (by decide)) (hall 14 (by decide))];refine⟨⟨Cg.size,fun k o hk hko _=>?_⟩,⟨Cg,hb2 _ (by omega) (by omega)⟩,vs.set x.1.1 (t/y),t%y,by rw [List.length_set,Ju],Ub,Amr,AfF,AfM,Air,?_,?_,?_⟩
   ·rw [AqR]at hk;rw [hb2 k (by omega) (by omega)];exact hko
   ·obtain⟨bx,AA⟩:=BU;exact⟨bx,by rw [hb2 _ (by omega) (by omega)];exact AA⟩
   ·exact Below.trans hxx Cg
   ·intro k hk e
    cases k with
    | zero=>simp [upto]at e
    | succ k=>rw [upto_succ]at e;obtain⟨e1,e2⟩:=List.append_inj' e rfl;simp only [List.cons.injEq,and_true]at e2;have CZ:=hg k hk;rw [←e2]at CZ;have h5:=Hx k (by omega) e1;have h6:x.1.1=zs.length-1-k:=(by rw [CZ];rfl);have h7:x.1.2=Ah zs x.1.1:=(by rw [h6,CZ];rfl);rw [show zs.length-k=x.1.1+1 by omega]at h5;rw [show zs.length-(k+1)=x.1.1 by omega];exact h5.step Bj hlt (by rw [←h7];exact htg h5.rl)
 case done=>
  rintro D ys W hD rfl ⟨vs,r,Ju,hown,Jr,h3,JX,hy,BU,hxx,Hx⟩ hK;have h4:=cell_of_one JX;have hdone:=Hx zs.length (AqK _) rfl;rw [Nat.sub_self]at hdone;have hc6:=cell_of_one Jr;simp only [AqR]at hD;have LE:=(Aa.refl W).drew;have AD:=((Aa.refl W).alloc (.cells #[.int .u64 (r:Nat)] 184)).drew
  have Tu:BI W (some ⟨w1.heap.size,0,none⟩) zs.length vs:=by obtain⟨A',c',e1,h1⟩:=Rd.of_own (base:=w1.heap.size) (l:=vs) (by rw [Ju];exact hown) (by omega);simp only [Value.slice.injEq]at e1;obtain⟨rfl,_,rfl⟩:=e1;exact h1
  have gu:r<1000000000:=by have:=hdone.rl;omega
  have DI:BI (W.alloc (.cells #[.int .u64 (r:Nat)] 184)).drew (some ⟨W.heap.size,0,none⟩) 1 [r]:=
   ⟨by simp,by omega,by simp,fun _=>⟨W.heap.size,0,rfl,fun j hj=>by
    obtain rfl:j=0:=(by simpa using hj);show (W.alloc (.cells #[.int .u64 (r:Nat)] 184)).cell? ⟨W.heap.size,0,none⟩=_
    rw [World.cell?_alloc_at _ _ _ _ (by rfl)];simp [Ah]⟩⟩
  have AX:=QV vs _ _ W.drew (Tu.ext LE) hdone.lt;have By:=QV vs _ _ _ (Tu.ext AD) hdone.lt;have Tt:=QV [r] _ _ _ DI (by intro z hz;simp only [AqW]at hz;omega);rw [Ju]at AX By;have h4':=AD.cellS h4;have f4:=free_of_one ((AD.block _ (AqI JX)).trans JX);simp only [List.length_singleton]at Tt;have hDW:=AqI hK
  have VJ:(((W.alloc (.cells #[.int .u64 (r:Nat)] 184)).setCell ⟨w.heap.size+1,0,none⟩ (.slice (some ⟨w1.heap.size,0,none⟩) (pc 1000000000 (Ag 1000000000 vs)).length zs.length)).drew).heap[D]?=some (.deferred (some [])):=by show (((W.alloc (.cells #[.int .u64 (r:Nat)] 184)).setCell ⟨w.heap.size+1,0,none⟩ (.slice (some ⟨w1.heap.size,0,none⟩) (pc 1000000000 (Ag 1000000000 vs)).length zs.length))).heap[D]?=_;rw [Below.heap_setCell _ _ _ _ (show D≠w.heap.size+1 by omega),Below.heap_alloc _ _ _ hDW];exact hK
  obtain⟨X,hX⟩:=AqG (((W.alloc (.cells #[.int .u64 (r:Nat)] 184)).setCell ⟨w.heap.size+1,0,none⟩ (.slice (some ⟨w1.heap.size,0,none⟩) (pc 1000000000 (Ag 1000000000 vs)).length zs.length)).drew);have aY:=(AD.block _ (AqI JX)).trans JX
  have zH:(X.putObj D (.deferred none)).cell? ⟨w.heap.size+1,0,none⟩=some (.slice (some ⟨w1.heap.size,0,none⟩) (pc 1000000000 (Ag 1000000000 vs)).length zs.length):=by refine cell_of_one (t:=278) ?_;rw [World.putObj_heap_other (by omega),hX];exact one_setCell aY
  have fl:Po (x/y) (x%y) w (.returned (.tuple #[.slice (some ⟨w1.heap.size,0,none⟩) (pc 1000000000 (Ag 1000000000 vs)).length zs.length,.slice (some ⟨W.heap.size,0,none⟩) (pc 1000000000 (Ag 1000000000 [r])).length 1])) (X.putObj D (.deferred none)):=by
   have EJ:=hdone.done;have LG:Ag 1000000000 zs=x:=(by rw [HZ.out,AZ b9]);rw [LG]at EJ;have e1:Ag 1000000000 [r]=x%y:=by simp [Ag,EJ.2]
   have k1:BI (X.putObj D (.deferred none)) (some ⟨w1.heap.size,0,none⟩) zs.length (pc 1000000000 (x/y)):=by rw [←EJ.1];refine BI.putObj ?_ (by rw [hX];exact VJ) rfl _;rw [hX];exact((Tu.ext AD).pc hdone.lt).setCell (w:=(W.alloc (.cells #[.int .u64 (r:Nat)] 184)).drew) (cell_of_one aY) (by simp)
   have k2:BI (X.putObj D (.deferred none)) (some ⟨W.heap.size,0,none⟩) 1 (pc 1000000000 (x%y)):=by rw [←e1];refine BI.putObj ?_ (by rw [hX];exact VJ) rfl _;rw [hX];exact(DI.pc (by intro z hz;simp only [AqW]at hz;omega)).setCell (w:=(W.alloc (.cells #[.int .u64 (r:Nat)] 184)).drew) (cell_of_one aY) (by simp)
   rw [EJ.1,e1];refine⟨_,_,rfl,⟨_,_,rfl,k1⟩,⟨_,_,rfl,k2⟩,?_⟩
   have CH:Aa w X:=by rw [hX];exact(((hxx.alloc _).setCell (by show w.heap.size<=w.heap.size+1;omega) _)).drew
   exact Below.trans CH (belowK_b (w:=w) (AqK _) X D _ _ (by omega) (by rw [hX];exact VJ) rfl rfl)
  rw [hX]at zH fl;clear hX;gi_wp2;refine wpIn_wide.2 (wp_region_noPanic ?_)
  go_region_with (go_at_call 282;((first|(with_reducible refine AX.mono ?_)|(with_reducible refine By.mono ?_)|(with_reducible refine Tt.mono ?_));rintro e w' ⟨rfl,rfl⟩))
  all_goals refine NoPanic.normal ?_
  all_goals gi_wp2
  all_goals simp only [List.getElem_toArray,List.getElem_cons_succ,List.getElem_cons_zero,Act.put,List.setIfInBounds_toArray,List.set_cons_succ,List.set_cons_zero]
  all_goals refine⟨by simp,.inl ⟨_,_,rfl,run_takeDeferred VJ,?_⟩⟩
  all_goals exact⟨_,by simp [results,Tryz.results278,go_sem,zH],fl⟩
 case stop=>rintro D c pre W _ _ h _;exact h.elim
end
theorem mN(x d:Nat)(hd:d<1000000000)(hl:(pc 1000000000 x).length<40000)(u:Value)(w:World)(hu:Rd w u (pc 1000000000 x)) :
  Calls Tryz.prog 335 #[u,.int .u64 (d:Nat)] w (RB (x*d) w):=by
 have hx1:=(Aa.refl w).alloc (.cells #[.int .u64 (d:Nat)] 184)
 have DI:BI (w.alloc (.cells #[.int .u64 (d:Nat)] 184)) (some ⟨w.heap.size,0,none⟩) 1 [d]:=
  ⟨by simp,by omega,by simp,fun _=>⟨w.heap.size,0,rfl,fun j hj=>by
   obtain rfl:j=0:=by simpa using hj
   rw [World.cell?_alloc_at _ _ _ _ (by rfl)];simp [Ah]⟩⟩
 have BP:∀z∈[d],z<1000000000:=(by intro z hz;simp only [AqW]at hz;omega);have hq:=QV [d] _ _ _ DI BP;have e1:Ag 1000000000 [d]=d:=(by simp [Ag]);have hl2:(pc 1000000000 d).length<=1:=OO b9 (by omega);have ht:=y9 (pc 1000000000 x) (pc 1000000000 d) u _ _ (hu.ext hx1) ⟨_,_,rfl,by have:=DI.pc BP;rw [e1]at this;exact this⟩ hl (by omega) (Bl b9 x) (Bl b9 d);rw [AZ b9,AZ b9]at ht;rw [e1]at hq;simp only [List.length_singleton]at hq;clear DI BP e1;go_enter Tryz.func335,Tryz.ntmps335;(go_wp2_with fail);(with_reducible refine hq.mono ?_);rintro e w1 ⟨rfl,rfl⟩;(go_wp2_with fail);(with_reducible refine ht.mono ?_);rintro e w1 ⟨v,rfl,hv,hxv,hf⟩;have HF:=AqH hf;clear hf;go_wp2;go_ret;exact⟨v,rfl,hv,hx1.trans hxv,fun b hb=>by have:=HF.out b hb;simp at this;omega⟩
theorem kE{b:Nat}(hb:0<b):∀{l:List Nat} (k:Nat),(∀x∈l,x<b)→Ag b (l.drop k)=Ag b l/b^k
 | l,0,_=>by simp
 | [],k+1,_=>by simp [Ag]
 | x::l,k+1,h=>by rw [List.drop_succ_cons,kE hb k (fun y hy=>h y (by simp [hy]))];simp only [Ag];have hx:=h x (by simp);rw [Nat.pow_succ,Nat.mul_comm (b^k) b,←Nat.div_div_eq_div_mul,Nat.add_mul_div_left _ _ hb,Nat.div_eq_of_lt hx,Nat.zero_add]
theorem aO{y t:Nat}(hyt:y<=t)(Qq:t<y*1000000000)(Bj:0<y) :
  let m:=(pc 1000000000 y).length
  let n:=(pc 1000000000 t).length
  0<m/\0<Ah (pc 1000000000 y) (m-1)/\m<=n/\n<=m+1/\
   t/y<=(if m<n then Ah (pc 1000000000 t) (n-1)*1000000000+Ah (pc 1000000000 t) (n-2)else Ah (pc 1000000000 t) (n-1))/Ah (pc 1000000000 y) (m-1):=by
 intro m n;have iE:=Gv b9 y;have ej:=Bl b9 y;have ei:=Bl b9 t;have fU:=AZ b9 y;have ey:=AZ b9 t;have ew:pc 1000000000 y≠[]:=fun e=>(by have:=(QF b9).1 e;omega);have hm:0<m:=List.length_pos_iff.2 ew;have gR:=lF (b:=1000000000) iE ew;rw [fU]at gR;have j8:y<1000000000^m:=(by have:=IA ej;rwa [fU]at this);have Fq:t<1000000000^n:=by have:=IA ei;rwa [ey]at this
 have hmn:m<=n:=by
  rcases Nat.lt_or_ge n m with h|h
  ·exfalso
   have h1:(1000000000:Nat)^n<=1000000000^(m-1):=Nat.pow_le_pow_right (by omega) (by omega)
   change (1000000000:Nat)^(m-1)<=y at gR
   omega
  ·exact h
 have hnm:n<=m+1:=by
  refine OO b9 ?_;rw [Nat.pow_succ]
  calc t<y*1000000000:=Qq
   _<=1000000000^m*1000000000:=Nat.mul_le_mul_right _ (by omega)
 have e1:Ah (pc 1000000000 y) (m-1)=y/1000000000^(m-1):=by have h:=kE (b:=1000000000) (by omega) (m-1) ej;rw [fU]at h;rw [←h,M9 (by omega),List.drop_eq_nil_of_le (by omega)];simp [Ag]
 have e2:(if m<n then Ah (pc 1000000000 t) (n-1)*1000000000+Ah (pc 1000000000 t) (n-2)else Ah (pc 1000000000 t) (n-1))=t/1000000000^(m-1):=by
  have h:=kE (b:=1000000000) (by omega) (m-1) ei;rw [ey]at h;rw [←h]
  split
  ·have e:n=m+1:=(by omega);rw [M9 (by omega),M9 (by omega),List.drop_eq_nil_of_le (by omega)];simp only [Ag];rw [show n-1=m-1+1 by omega,show n-2=m-1 by omega];omega
  ·have e:n=m:=(by omega);rw [M9 (by omega),List.drop_eq_nil_of_le (by omega)];simp only [Ag];rw [e];omega
 have T0:0<Ah (pc 1000000000 y) (m-1):=by rw [e1];exact Nat.div_pos gR (Nat.pow_pos (by omega))
 refine⟨hm,T0,hmn,hnm,?_⟩;rw [e2,Nat.le_div_iff_mul_le T0,Nat.le_div_iff_mul_le (Nat.pow_pos (by omega)),e1]
 calc t/y*(y/1000000000^(m-1))*1000000000^(m-1)=t/y*(y/1000000000^(m-1)*1000000000^(m-1)):=by rw [Nat.mul_assoc]
  _<=t/y*y:=Nat.mul_le_mul_left _ (Nat.div_mul_le_self _ _)
  _<=t:=Nat.div_mul_le_self _ _
theorem Am3{P:Program}(w:World)(base:Nat)(t ty e:TypeId)(i:TypeInfo)(size:Nat)(ht:P.underlying t=some (.slice e))(hi:P.info? e=some i)
  (v:Value) (n c:Nat) (xs:List Value) (hown:w.ownsRow base e size v n xs) :
  (Builtin.append_ #[t,t] ty #[v,.slice none 0 c]).run P w=.ok v w:=by
 rcases hown.2 with⟨rfl,rfl⟩|⟨g,cap,cur,rfl,_,_,WQ,_⟩
 ·simp [Builtin.append_,run_underlying ht,sizeOf,typeInfo,hi,Builtin.lenOf,Builtin.firstCells]
 ·simp [Builtin.append_,run_underlying ht,sizeOf,typeInfo,hi,Builtin.lenOf,Builtin.firstCells,WQ,storeCells]
theorem Acr{ops:Array Oper}{rest:List Oper}{o:Oper}{a:Act}{Q:Exit→Act→World→Prop}(hgd:o.guard=none)(s x:Operand)(ho:o.op=.call {callee:=.builtin .append,args:=#[s,x],argTypes:=#[278,278]})
  (wr:World) (base:Nat) (v:Value) (n:Nat) (xs:List Nat) (hs:a.eval s=v) (hown:wr.ownsRow base 184 1 v n (Bi xs)) (l:List Nat) (vx:Value) (hx:a.eval x=vx) (hr:Rd wr vx l) (hn:n+l.length<200000) (hbase:base<=wr.heap.size)
  (h:∀v' w',w'.ownsRow base 184 1 v' (n+l.length) (Bi (xs++l))→(∀w0,Aa w0 wr→w0.heap.size<=base→Aa w0 w')→wpList Tryz.prog ops Q rest (a.put o.dst v') w') :
  wpList Tryz.prog ops Q (o::rest) a wr:=by
 obtain⟨i0,hi,hz0,hz1,hz2⟩:=info_parts Tryz.infoU;obtain⟨A,c,rfl,Ct⟩:=hr;refine wpList_plain hgd fun K hK=>?_;by_cases h0:l.length=0
 ·obtain rfl:l = []:=List.length_eq_zero_iff.1 h0;rw [List.append_nil]at h
  cases A with
  | none=>
   have hrun:=Am3 (P:=Tryz.prog) wr base 278 o.type 184 i0 1 Tryz.underlying278 hi v n c (Bi xs) hown;unfold Oper.wp execOp;simp only [ho,resolve,invoke,builtin,Sem.run_bind,Sem.run_pure,Result.andThen_ok,List.map_toArray,List.map_cons,List.map_nil,hs,hx,List.length_nil,hrun];exact hK _ _ (h v wr hown fun w0 he hb=>he)
  | some ad=>refine wp_append_own _ s x 278 ho base 184 i0 (.int .u64 0) 1 8 Tryz.underlying278 hi hz0 hz1 hz2 rfl (by omega) v n (Bi xs) hs hown ad 0 c [] hx rfl (fun j u hu=>by simp at hu) (fun u hu=>by simp at hu) (by unfold maxLen;omega) (by omega) hbase ?_;intro v' w' h2 h3 _;exact hK _ _ (h v' w' (by simpa using h2) fun w0 he hb=>he.grownOwn h3 hown hb)
 ·obtain⟨b,off,rfl,hc⟩:=Ct.ad (by omega);refine wp_append_own _ s x 278 ho base 184 i0 (.int .u64 0) 1 8 Tryz.underlying278 hi hz0 hz1 hz2 rfl (by omega) v n (Bi xs) hs hown ⟨b,off,none⟩ l.length c (Bi l) hx (by simp [Bi]) ?_ ?_ (by unfold maxLen;omega) (by omega) hbase ?_
  ·intro j u hu
   have hj:j<l.length:=by
    have:=(List.getElem?_eq_some_iff.1 hu).1
    simpa [Bi]using this
   have e:(Bi l)[j]?=some (.int .u64 (Ah l j:Nat)):=(by simp [Bi,Ah,hj]);rw [e]at hu;rw [←Option.some.inj hu,Addr.add_lit];exact hc j hj
  ·intro u hu;simp only [Bi,List.mem_map]at hu;obtain⟨z,_,rfl⟩:=hu
   rfl
  ·intro v' w' h2 h3 _;exact hK _ _ (h v' w' (by simpa [Bi]using h2) fun w0 he hb=>he.grownOwn h3 hown hb)
theorem tZ(x y:Nat)(Bj:0<y)(TE:y<1000000000)(u v:Value)(w:World)(hu:Rd w u (pc 1000000000 x))(hv:Rd w v (pc 1000000000 y)) :
  Calls Tryz.prog 278 #[u,v] w (Po (x/y) (x%y) w):=by
 rcases Nat.lt_or_ge x y with h|h
 ·rw [Nat.div_eq_of_lt h,Nat.mod_eq_of_lt h];exact tY x y h u v w hu hv
 ·exact Aet x y h Bj TE u v w hu hv
end Go.Proofs.YtjalkoacphhgdaaGreatDoor
