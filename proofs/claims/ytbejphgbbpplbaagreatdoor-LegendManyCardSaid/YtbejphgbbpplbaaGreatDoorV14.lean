/- V14: Div1 Div2 Div3 Int8. -/
import Derived.Test.YtbejphgbbpplbaaGreatDoorV13
import Derived.Deep.DeepCutAuto
set_option maxRecDepth 100000
set_option maxHeartbeats 4000000
namespace Go.Proofs.YtbejphgbbpplbaaGreatDoor
open Go.RowKit Kl Go.Shelf
attribute [local go_sem] Oper.semAt_some
def O8(q r:Nat)(w:World)(e:Ending)(w':World):Prop:=
 ∃vq vr,e=.returned (.tuple #[vq,vr])/\Rd w' vq (pc 1000000000 q)/\Rd w' vr (pc 1000000000 r)/\Aa w w'
theorem Rd.nil(w:World):Rd w (.slice none 0 0) []:=⟨none,0,rfl,by simp,by omega,by simp,fun h=>by simp at h⟩
theorem b9:(2:Nat)<=1000000000:=by omega
theorem pT(x y:Nat)(dS:x<y)(u v:Value)(w:World)(hu:Rd w u (pc 1000000000 x))(hv:Rd w v (pc 1000000000 y)) :
  Calls Tryz.prog 278 #[u,v] w (O8 0 x w):=by
 have IQ:=fun W hu hv=>PT (pc 1000000000 x) (pc 1000000000 y) u v W hu hv (Bd b9 x) (Bd b9 y) (Ge b9 x) (Ge b9 y);rw [AS b9,AS b9,LR dS]at IQ;have hx1:=((Aa.refl w).alloc (.cells #[v] 278)).alloc (.cells #[.slice none 0 0] 278);have ho:=IQ _ (hu.ext hx1) (hv.ext hx1);have NT:=hu;have dM:=hv;obtain⟨A,ca,e1,Cq⟩:=NT;obtain⟨B,cb,e2,BP⟩:=dM;clear IQ;rw [e1,e2]at ho;subst e1 e2;go_enter Tryz.func278,Tryz.ntmps278;(go_wp2_with fail);(with_reducible refine ho.mono ?_);rintro e w1 ⟨rfl,hx2⟩;obtain⟨hc2,hf2⟩:=hx2.cells;go_wp2;refine bodyPost_ret (v:=.tuple #[.slice none 0 0,.slice A (pc 1000000000 x).length ca]) (by simp [results,Tryz.results278,go_sem,hc2]) rfl ?_;have e0:=hc2 (w.heap.size+1) 0 (by simp);rw [World.cell?_alloc_at _ _ _ _ (by simp)]at e0;exact⟨_,_,rfl,by rw [Ik];exact Rd.nil _,⟨A,ca,rfl,((Cq.ext hx1).ext hx2).setCell e0 (by simp)⟩,(hx1.trans hx2).setCell (by show w.heap.size<=w.heap.size+1;omega) _⟩
/-! ### One piece -/
structure Iv(a qs:List Nat)(y i r:Nat):Prop where
 len:qs.length=a.length
 lt:∀x∈qs,x<1000000000
 le:i<=a.length
 rl:r<y
 sum:Ag 1000000000 (qs.drop i)*y+r=Ag 1000000000 (a.drop i)
theorem Iv.start{a:List Nat}{y:Nat}(hy:0<y):Iv a (List.replicate a.length 0) y a.length 0:=
 ⟨by simp,by intro x hx;rw [List.mem_replicate]at hx;omega,AmX _,hy,by simp [Ag]⟩
theorem Iv.step{a qs:List Nat}{y i r t:Nat}(h:Iv a qs y (i+1) r)(hy:0<y)(ha:∀x∈a,x<1000000000)(ht:t=r*1000000000+Ah a i) :
  Iv a (qs.set i (t/y)) y i (t%y):=by
 have hi:i<a.length:=h.le;have hai:=Cd ha hi
 have hq:t/y<1000000000:=by rw [Nat.div_lt_iff_lt_mul hy];have h1:r+1<=y:=h.rl;have:(r+1)*1000000000<=y*1000000000:=Nat.mul_le_mul_right _ h1;omega
 refine⟨by rw [List.length_set,h.len],Wo h.lt hq,by omega,Nat.mod_lt _ hy,?_⟩
 have e1:(qs.set i (t/y)).drop i=t/y::qs.drop (i+1):=by rw [LU (by rw [List.length_set,h.len];exact hi),List.drop_set_of_lt (by omega)];simp [Ah,h.len,hi]
 rw [e1,LU hi];simp only [Ag];have hs:=h.sum;have hm:=Nat.div_add_mod t y;generalize Ag 1000000000 (qs.drop (i+1))=Q at *;generalize Ag 1000000000 (a.drop (i+1))=V at *;generalize t/y=d at *;generalize t%y=m at *;have e2:(d+1000000000*Q)*y=y*d+1000000000*(Q*y):=(by rw [Nat.add_mul,Nat.mul_comm d y,Nat.mul_assoc]);rw [e2];omega
theorem Iv.done{a qs:List Nat}{y r:Nat}(h:Iv a qs y 0 r):Ag 1000000000 qs=Ag 1000000000 a/y/\r=Ag 1000000000 a%y:=by
 have hs:=h.sum;have hr:=h.rl;rw [List.drop_zero,List.drop_zero]at hs;rw [←hs,Nat.mul_comm];exact⟨by rw [Nat.mul_add_div (by omega),Nat.div_eq_of_lt hr,Nat.add_zero],by rw [Nat.mul_add_mod,Nat.mod_eq_of_lt hr]⟩
abbrev Oq(n:Nat):={p:Nat×Nat // p.2<1000000000/\p.1<n}
theorem Ab9(zs:List Nat)(h0:0<zs.length)(hz:∀x∈zs,x<1000000000):∃g:Nat→Oq zs.length,∀k,k<zs.length→(g k).1=Em zs k:=
 ⟨fun k=>if h:k<zs.length then ⟨Em zs k,Cd hz (by omega),by simp only [Em];omega⟩else ⟨(0,0),by omega,h0⟩,fun k hk=>by simp [hk]⟩
def D1(w:World)(zs:List Nat)(y:Nat)(g:Nat→Oq zs.length)(qb bb ob cb xb:Nat)(pre:List (Oq zs.length))(W:World):Prop:=
 ∃(vs:List Nat) (r:Nat),vs.length=zs.length/\W.ownsRow qb 195 1 (.slice (some ⟨qb,0,none⟩) zs.length zs.length) zs.length (AZ vs)
  /\W.heap[qb+1]?=some (.cells #[.int .u64 (r:Nat)] 195 (0,0))
  /\W.cell? ⟨w.heap.size,0,none⟩=some (.slice (some ⟨bb,ob,none⟩) 1 cb)
  /\W.heap[w.heap.size+1]?=some (.cells #[.slice (some ⟨qb,0,none⟩) zs.length zs.length] 278 (0,0))
  /\W.cell? ⟨bb,ob,none⟩=some (.int .u64 (y:Nat))
  /\(∃x,W.heap[xb]?=some (.cells x 278 (0,0)))
  /\Aa w W
  /\∀k,k<=zs.length→pre=upto g k→Iv zs vs y (zs.length-k) r
theorem BG.putObj{w:World}{A:Option Addr}{c D:Nat}{l:List Nat}{o:Obj}(h:BG w A c l)(hD:w.heap[D]?=some o)(ho:o.isCells=false)(o':Obj):BG (w.putObj D o') A c l:=
 ⟨h.cap,h.max,h.len,fun h0=>by
  obtain⟨b,o1,e,hc⟩:=h.ad h0
  exact⟨b,o1,e,fun j hj=>cell_kept (hc j hj) (grownBy_putObj' w D o') (fun r e=>by cases e;exact⟨o,hD,ho⟩)⟩⟩
theorem Ab8(r x y:Nat)(hy:y<1000000000)(hx:x<1000000000):∃t:Nat,IntKind.u64.wrap (IntKind.u64.wrap ((r:Int)*1000000000)+(x:Int))=(t:Int)/\(r<y→t=r*1000000000+x)/\IntKind.u64.wrap ((t:Int)/(y:Int))=((t/y:Nat):Int):=by
 refine⟨(r*1000000000%18446744073709551616+x)%18446744073709551616,?_,fun h=>by omega,?_⟩
 ·simp only [IntKind.wrap_u64];omega
 ·simp only [IntKind.wrap_u64];generalize hm:(r*1000000000%18446744073709551616+x)%18446744073709551616=m;have h1:m/y<=m:=Nat.div_le_self _ _;have h2:(m:Int)/(y:Int)=((m/y:Nat):Int):=(by simp);have h3:m<18446744073709551616:=(by omega);rw [h2];generalize m/y=q at *;omega
theorem AbN(x y:Nat)(VY:y<=x)(Bh:0<y)(SH:y<1000000000)(u v:Value)(w:World)(hu:Rd w u (pc 1000000000 x))(hv:Rd w v (pc 1000000000 y)) :
  Calls Tryz.prog 278 #[u,v] w (O8 (x/y) (x%y) w):=by
 have IQ:=fun W hu hv=>PT (pc 1000000000 x) (pc 1000000000 y) u v W hu hv (Bd b9 x) (Bd b9 y) (Ge b9 x) (Ge b9 y)
 obtain⟨s,hs,hs0⟩:∃s:Int,s=D9 x y/\¬s<0:=by
  rcases Nat.lt_or_eq_of_le VY with h|h
  ·exact⟨_,rfl,by rw [Ks h];omega⟩
  ·exact⟨_,rfl,by rw [OK h.symm];omega⟩
 rw [AS b9,AS b9,←hs]at IQ;clear hs;have hx1:=((Aa.refl w).alloc (.cells #[v] 278)).alloc (.cells #[.slice none 0 0] 278);have ho:=IQ _ (hu.ext hx1) (hv.ext hx1);obtain⟨zs,hzs⟩:=AmT (pc 1000000000 x);have hlt:∀x∈zs,x<1000000000:=(by rw [hzs];exact Bd b9 x);rw [←hzs]at hu
 have MD:0<zs.length:=by rw [List.length_pos_iff,hzs];intro e;have:=(PX b9).1 e;omega
 rw [gI b9 Bh SH]at hv;have HZ:=AmU hzs;clear hzs IQ;have AO:=hu;obtain⟨A,ca,e1,Cq⟩:=hu;obtain⟨B,cb,e2,BP⟩:=hv;have FS:=Cq.len;obtain⟨bb,ob,rfl,hcb⟩:=BP.ad (by simp);have Dl:=hcb 0 (by simp);simp only [List.length_singleton]at e2;have Dl:w.cell? ⟨bb,ob,none⟩=some (.int .u64 (y:Nat)):=(by simpa [Ah]using Dl);have B8:=BP.cap;have hmax:=BP.max;simp only [List.length_singleton]at B8;have hmk:=eR zs.length (by omega) (zs.length:Int) rfl;rw [e1,e2]at ho;rw [e2]at hx1;subst e1 e2;refine(callsIn_wide (n:=4)).1 ?_;refine callsIn_of_wp_marks Tryz.func278 rfl trivial ?_ rfl;simp only [Tryz.ntmps278,List.size_toArray,List.length_cons,List.length_nil,Nat.reduceAdd,Nat.reduceSub,Array.replicate_succ,Array.replicate_zero,List.push_toArray,List.append_toArray,List.nil_append,List.cons_append];gi_wp2;refine⟨trivial,?_⟩;refine(callsIn_wide.2 ho).mono ?_;rintro e w1 ⟨rfl,hx2⟩;obtain⟨hc2,hf2⟩:=hx2.cells;have NR:=hx2.size;simp only [Anf]at NR;have AeL:w.heap.size<w1.heap.size:=(by omega);have Amr:w.heap.size+1<w1.heap.size:=(by omega);gi_wp2;obtain⟨W2,hW2⟩:=AmT (((w1.setCell ⟨w.heap.size+1,0,none⟩ (.slice (some ⟨w1.heap.size,0,none⟩) zs.length zs.length)).alloc (.cells (madeCells #[.int .u64 0] zs.length) 195)).alloc (.cells #[.int .u64 0] 195));rw [←hW2];have hn:zs.length<=200000:=by omega
 have k3:W2.cell? ⟨w.heap.size,0,none⟩=some (.slice (some ⟨bb,ob,none⟩) 1 cb):=by
  have h:=hc2 (w.heap.size) 0 (by simp;omega);rw [hW2]
  go_simp
 have k4:W2.cell? ⟨w.heap.size+1,0,none⟩=some (.slice (some ⟨w1.heap.size,0,none⟩) zs.length zs.length):=by
  have h:=hc2 (w.heap.size+1) 0 (by simp);have h2:=hf2 (w.heap.size+1) 0;rw [hW2]
  go_simp
 have k4b:W2.heap[w.heap.size+1]?=some (.cells #[.slice (some ⟨w1.heap.size,0,none⟩) zs.length zs.length] 278 (0,0)):=by have h1:=hx2.block (w.heap.size+1) (by simp);have h2:=AmW (w.alloc (.cells #[.slice (some ⟨bb,ob,none⟩) 1 cb] 278)) (.cells #[.slice none 0 0] 278);rw [Anf]at h2;have h3:=one_setCell (u:=.slice (some ⟨w1.heap.size,0,none⟩) zs.length zs.length) (h1.trans h2);rw [hW2,Below.heap_alloc _ _ _ (by simp;omega),Below.heap_alloc _ _ _ (by simp;omega)];exact h3
 have k6:W2.heap[w1.heap.size+1]?=some (.cells #[.int .u64 0] 195 (0,0)):=by
  rw [hW2];have h:=AmW ((w1.setCell ⟨w.heap.size+1,0,none⟩ (.slice (some ⟨w1.heap.size,0,none⟩) zs.length zs.length)).alloc (.cells (madeCells #[.int .u64 0] zs.length) 195)) (.cells #[.int .u64 0] 195)
  simpa using h
 have AdK:W2.cell? ⟨bb,ob,none⟩=some (.int .u64 (y:Nat)):=by
  have hb:=World.block_lt_of_cell? w _ Dl;have h1:w1.cell? ⟨bb,ob,none⟩=some (.int .u64 (y:Nat)):=((((Aa.refl w).alloc _).alloc _).trans hx2).cellS Dl;have h2:bb≠w.heap.size+1:=(by have:bb<w.heap.size:=hb;omega);have h3:bb<w1.heap.size:=(by have:bb<w.heap.size:=hb;omega);rw [hW2]
  go_simp
 have yS:W2.heap.size=w1.heap.size+2:=by rw [hW2];simp
 have Bg:Aa w W2:=by rw [hW2];exact((((Aa.refl w).alloc _).alloc _).trans hx2 |>.setCell (by show w.heap.size<=w.heap.size+1;omega) _).alloc _ |>.alloc _
 have ho2:W2.ownsRow w1.heap.size 195 1 (.slice (some ⟨w1.heap.size,0,none⟩) zs.length zs.length) zs.length (AZ (List.replicate zs.length 0)):=by rw [hW2];have h:=fX (w1.setCell ⟨w.heap.size+1,0,none⟩ (.slice (some ⟨w1.heap.size,0,none⟩) zs.length zs.length)) w1.heap.size zs.length (by simp) hn;rw [World.size_setCell]at h;exact h.alloc _
 have Jp:=AmU yS;have Amx:w1.heap.size+2<=W2.heap.size:=(by omega);clear hW2 hc2 hf2 hmk hcb yS;obtain⟨g,hg⟩:∃g:Nat→Oq zs.length,∀k,k<zs.length→(g k).1=Em zs k:=Ab9 zs MD hlt;refine⟨trivial,?_⟩;refine(Yv Fence.wide 3 trivial rfl _ _ ⟨_,_,_,rfl⟩).mono ?_;rintro e W3 ⟨rfl,rfl⟩;gi_wp2
 refine wpIn_rangeFunc_ownG rfl (by omega) (gf:=339) (lb:=#[.pointer (some ⟨W2.heap.size,0,none⟩)]) rfl trivial (enters_of Tryz.func339 (by kernel_rfl) rfl)
  (Yw (fun p:Oq zs.length=>p.1.1) (fun p:Oq zs.length=>p.1.2) Fence.wide 3 trivial rfl (by omega) W2.heap.size w.heap.size _ zs g (fun k hk=>by have:=hg k hk;simpa using this) (W2.alloc (.cells #[.slice A zs.length ca] 278)) (by simp) (by simp;omega) (by simp) ⟨w,AO,AmX _,Bg.alloc _⟩)
  (fun h k=>h.trans k) (BB.put (by simp;omega) (by simp)) (Below.refl _ _) (fun _=>rfl)
  (D1 w zs y g w1.heap.size bb ob cb W2.heap.size)
  (fun _ _ _=>False) ?hI (fun _ _ _ _ _ hs _ _=>hs) ?h0 ?a1 ?assign ?body ?done ?stop
 case a1=>exact fun x=>{tmps:=#[.slice A zs.length ca,.slice (some ⟨bb,ob,none⟩) 1 cb,undef,.pointer (some ⟨w.heap.size,0,none⟩),.pointer (some ⟨w.heap.size+1,0,none⟩),.slice none 0 0,.pointer (some ⟨w1.heap.size+1,0,none⟩),.int .i64 (x.1.1:Nat),.int .u64 (x.1.2:Nat),undef,undef,undef,undef,undef,.slice A zs.length ca,.slice (some ⟨bb,ob,none⟩) 1 cb,.int .i64 s,.bool (decide (s<0)),undef,.slice (some ⟨bb,ob,none⟩) 1 cb,.int .i64 1,.bool true,.slice A zs.length ca,.int .i64 zs.length,.slice (some ⟨w1.heap.size,0,none⟩) zs.length zs.length,.slice A zs.length ca,.func (.func 339) #[] #[.pointer (some ⟨W2.heap.size,0,none⟩)],.int .i64 (x.1.1:Nat),.int .u64 (x.1.2:Nat),undef,undef,undef,undef,undef,undef,undef,undef,undef,undef,undef,undef,undef,undef,undef,undef,undef,undef,undef,undef,undef,undef,undef,undef,undef,undef,undef,undef,undef,undef,undef,undef,undef,undef,undef,undef,undef,undef,undef,undef,undef,undef,undef,undef,undef,undef,undef,undef,undef,undef,undef,undef,undef,undef,undef,undef,undef,undef,undef,undef,undef,undef,undef,undef,undef,undef,undef,undef,undef,undef,undef,undef,undef,undef,undef,undef,undef,undef,undef,undef,undef,undef,undef,undef,undef,undef,undef,undef,undef,undef,undef,undef,undef,undef,undef,undef,undef,undef,undef,undef,undef,undef,undef,undef,undef,undef,undef,undef,undef,undef,undef,undef,undef,undef,undef,undef,undef],defers:=[]}
 case hI=>
  rintro pre W W' row ⟨vs,r,IW,hown,NQ,h3,J4,hy,⟨bx,BO⟩,hxx,KH⟩ Db hr';have hro:∀r,row=some r→∃o:Obj,W.heap[r]?=some o/\o.isCells=false:=fun r e=>(hr' r e).2;refine⟨vs,r,IW,?_,Dv Db NQ hro,cell_kept h3 Db hro,Dv Db J4 hro,cell_kept hy Db hro,⟨bx,Dv Db BO hro⟩,?_,KH⟩
  ·refine hown.kept Db (.inr fun e=>?_);obtain⟨c,fz,hk⟩:=WF hown w1.heap.size rfl;obtain⟨o,ho,hc⟩:=hro w1.heap.size e.symm;rw [hk]at ho;obtain rfl:=Option.some.inj ho;simp [Obj.isCells]at hc
  ·exact(ownFrom_below (AmX _) (by simp;omega)) () W W' row hxx Db hr'
 case h0=>
  have Az:=(Aa.refl W2).alloc (.cells #[.slice A zs.length ca] 278);refine⟨List.replicate zs.length 0,0,by simp,AH ho2 Az,(Az.block _ (by omega)).trans k6,Az.cellS k3,(Az.block _ (by omega)).trans k4b,Az.cellS AdK,⟨_,AmW _ _⟩,Below.trans Bg (Below.mono Az (by omega)),fun k hk e=>?_⟩
  cases k with
  | zero=>exact Iv.start Bh
  | succ k=>have:=congrArg List.length e;rw [upto_length]at this;simp at this
 case assign=>intro l x W K hK;gi_wp2;exact hK
 case body=>
  rintro l pre x W ⟨vs,r,IW,hown,NQ,h3,J4,hy,BO,hxx,KH⟩ hlen;have h4:=cell_of_one J4;have uX:=cell_of_one NQ;have aM:=free_of_one NQ;have hix:=x.2.2;obtain⟨t,ht,htg,hq⟩:∃t:Nat,IntKind.u64.wrap (IntKind.u64.wrap ((r:Int)*1000000000)+(x.1.2:Int))=(t:Int)/\(r<y→t=r*1000000000+x.1.2)/\IntKind.u64.wrap ((t:Int)/(y:Int))=((t/y:Nat):Int):=Ab8 r x.1.2 y SH x.2.1;gi_wp2;clear ht;obtain⟨W0,hW0⟩:=AmT ((W.setCell ⟨w1.heap.size+1,0,none⟩ (.int .u64 (t:Nat))).drew);obtain⟨Kn,hW1⟩:=AmT (W0.setCell ⟨w1.heap.size,x.1.1,none⟩ (.int .u64 ((t/y:Nat):Int)));obtain⟨LJ,hW2⟩:=AmT (Kn.setCell ⟨w1.heap.size+1,0,none⟩ (.int .u64 ((t%y:Nat):Int)));refine wpIn_region_any (by kernel_rfl) ?_;have Bl:bb<w.heap.size:=World.block_lt_of_cell? w ⟨bb,ob,none⟩ Dl
  have IT:∀k,k≠w1.heap.size→¬Value.ownBlock (.slice (some ⟨w1.heap.size,0,none⟩) zs.length zs.length)=some k:=by intro k hk e;simp only [Value.ownBlock,Anb]at e;exact hk e.symm
  have Tf:W0.ownsRow w1.heap.size 195 1 (.slice (some ⟨w1.heap.size,0,none⟩) zs.length zs.length) zs.length (AZ vs):=by rw [hW0];exact WG (ownsRow_setCell_other hown (IT (w1.heap.size+1) (by omega)) _)
  have AhD:Kn.ownsRow w1.heap.size 195 1 (.slice (some ⟨w1.heap.size,0,none⟩) zs.length zs.length) zs.length (AZ (vs.set x.1.1 (t/y))):=by rw [hW1,←Xf];exact(Tf.stored _ _).1
  have Tg:LJ.ownsRow w1.heap.size 195 1 (.slice (some ⟨w1.heap.size,0,none⟩) zs.length zs.length) zs.length (AZ (vs.set x.1.1 (t/y))):=by rw [hW2];exact ownsRow_setCell_other AhD (IT (w1.heap.size+1) (by omega)) _
  have kh:W0.heap[w1.heap.size+1]?=some (.cells #[.int .u64 (t:Nat)] 195 (0,0)):=by rw [hW0];exact one_setCell NQ
  have iH:Kn.heap[w1.heap.size+1]?=some (.cells #[.int .u64 (t:Nat)] 195 (0,0)):=by rw [hW1,Below.heap_setCell _ _ _ _ (show w1.heap.size+1≠w1.heap.size by omega)];exact kh
  have AiJ:LJ.heap[w1.heap.size+1]?=some (.cells #[.int .u64 ((t%y:Nat):Int)] 195 (0,0)):=(by rw [hW2];exact one_setCell iH);have AdE:=cell_of_one kh;have uZ:=cell_of_one iH;have AdS:=free_of_one iH;have hb0:∀k,k≠w1.heap.size+1→W0.heap[k]?=W.heap[k]?:=fun k hk=>(by rw [hW0];exact Below.heap_setCell W _ _ k hk);have hb1:∀k,k≠w1.heap.size→k≠w1.heap.size+1→Kn.heap[k]?=W.heap[k]?:=fun k hk hk2=>(by rw [hW1,Below.heap_setCell _ _ _ _ hk];exact hb0 k hk2);have hb2:∀k,k≠w1.heap.size→k≠w1.heap.size+1→LJ.heap[k]?=W.heap[k]?:=fun k hk hk2=>(by rw [hW2,Below.heap_setCell _ _ _ _ hk2];exact hb1 k hk hk2);have AcN:=(World.cell?_of_block (a:=⟨w.heap.size,0,none⟩) (hb0 w.heap.size (by omega))).trans h3;have AcT:=(World.cell?_of_block (a:=⟨w.heap.size+1,0,none⟩) (hb0 (w.heap.size+1) (by omega))).trans h4;have Afm:=(World.cell?_of_block (a:=⟨bb,ob,none⟩) (hb0 bb (by omega))).trans hy;have AcO:=(World.cell?_of_block (a:=⟨w.heap.size,0,none⟩) (hb1 w.heap.size (by omega) (by omega))).trans h3;have AcU:=(World.cell?_of_block (a:=⟨w.heap.size+1,0,none⟩) (hb1 (w.heap.size+1) (by omega) (by omega))).trans h4;have Afn:=(World.cell?_of_block (a:=⟨bb,ob,none⟩) (hb1 bb (by omega) (by omega))).trans hy;have AcP:=(World.cell?_of_block (a:=⟨w.heap.size,0,none⟩) (hb2 w.heap.size (by omega) (by omega))).trans h3;have AcV:=(hb2 (w.heap.size+1) (by omega) (by omega)).trans J4;have Afo:=(World.cell?_of_block (a:=⟨bb,ob,none⟩) (hb2 bb (by omega) (by omega))).trans hy
  have BV:Below w.heap.size W LJ:=by rw [hW2,hW1,hW0];exact(((Below.refl _ W).setCell (by show w.heap.size<=w1.heap.size+1;omega) _).drew.setCell (by show w.heap.size<=w1.heap.size;omega) _).setCell (by show w.heap.size<=w1.heap.size+1;omega) _
  have aU:=Tf.frozenAt (g:=w1.heap.size) x.1.1
  have hqc:(W0.cell? ⟨w1.heap.size,x.1.1,none⟩).isSome:=by have h1:(AZ vs)[x.1.1]?=some (.int .u64 (Ah vs x.1.1:Nat)):=(by simp [AZ,Ah,IW,hix]);have h2:=Tf.cells (g:=w1.heap.size) rfl x.1.1 _ h1;rw [Addr.add_lit,Nat.zero_add]at h2;rw [h2];rfl
  refine AkB 33 13
   (fun i=>#[.slice (some ⟨w1.heap.size,0,none⟩) zs.length zs.length,.int .i64 (x.1.1:Nat),.int .u64 (t:Nat),.slice (some ⟨bb,ob,none⟩) 1 cb,.pointer (some ⟨bb,ob,none⟩),.int .u64 (y:Nat),.int .u64 ((t/y:Nat):Int),.int .u64 (t:Nat),.slice (some ⟨bb,ob,none⟩) 1 cb,.pointer (some ⟨bb,ob,none⟩),.int .u64 (y:Nat),.int .u64 ((t%y:Nat):Int),.pointer (some ⟨w1.heap.size,x.1.1,none⟩)].getD i undef)
   (Jk 13 14 W0 Kn LJ) (by kernel_rfl) (by simp) hW0 ?_ ?_
  ·intro listed a i o Aj hr ho K hK;obtain⟨Ax,o',VJ,BH⟩:=mem_ready.1 hr;obtain rfl:=Option.some.inj (VJ.symm.trans ho);have hi:i<15:=(Array.getElem?_eq_some_iff.1 ho).1
   have Zd:listed.getD 14 false=false:=by
    by_cases h:listed.getD 14 false=true
    ·exfalso
     have h1:∀j,j<15→listed.getD j false=true:=by
      intro j hj;by_cases e:j=14
      ·rw [e];exact h
      ·exact Aj.waits (j:=14) rfl h j (by
        rcases(by omega:j=0∨j=1∨j=2∨j=3∨j=4∨j=5∨j=6∨j=7∨j=8∨j=9∨j=10∨j=11∨j=12∨j=13)with rfl|rfl|rfl|rfl|rfl|rfl|rfl|rfl|rfl|rfl|rfl|rfl|rfl|rfl<;>kernel_rfl)
     have h2:=h1 i hi;rw [getD_both Ax]at h2
     cases h2
    ·simpa using h
   have e3:=Aj.out (s:=33) (m:=13) (by kernel_rfl) (d:=3) (by omega) rfl;have e4:=Aj.out (s:=33) (m:=13) (by kernel_rfl) (d:=4) (by omega) rfl;have e6:=Aj.out (s:=33) (m:=13) (by kernel_rfl) (d:=6) (by omega) rfl;have e7:=Aj.out (s:=33) (m:=13) (by kernel_rfl) (d:=7) (by omega) rfl;have hval:=fun i {d} hd hi hl {v} hv=>Aj.val (s:=33) (m:=13) (by kernel_rfl) i (d:=d) hd hi hl (v:=v) hv;refine⟨fun _ _=>trivial,?_⟩;rw [Oper.semAt_eq _ _ _ (fE (l:=_) (by kernel_rfl) i o' ho)];have xH:=Aj.lsz;clear VJ Aj;by_cases AlS:i<13
   ·rw [AkP (by omega) (by omega)]at hK
    obtain⟨V,hV,uY,rS,h4V,zI⟩:∃V,Jk 13 14 W0 Kn LJ listed=V/\V.cell? ⟨w1.heap.size+1,0,none⟩=some (.int .u64 (t:Nat))/\V.cell? ⟨w.heap.size,0,none⟩=some (.slice (some ⟨bb,ob,none⟩) 1 cb)
      /\V.cell? ⟨w.heap.size+1,0,none⟩=some (.slice (some ⟨w1.heap.size,0,none⟩) zs.length zs.length)/\V.cell? ⟨bb,ob,none⟩=some (.int .u64 (y:Nat)):=by
     by_cases Nw:listed.getD 13 false=true
     ·exact⟨Kn,jR Nw Zd,uZ,AcO,AcU,Afn⟩
     ·exact⟨W0,qx (by simpa using Nw),AdE,AcN,AcT,Afm⟩
    rw [hV]at hK ⊢;clear hV
    rcases(by omega:i=0∨i=1∨i=2∨i=3∨i=4∨i=5∨i=6∨i=7∨i=8∨i=9∨i=10∨i=11∨i=12)with rfl|rfl|rfl|rfl|rfl|rfl|rfl|rfl|rfl|rfl|rfl|rfl|rfl
    all_goals simp only [List.getElem?_toArray,List.getElem?_cons_zero,List.getElem?_cons_succ,Anb]at ho
    all_goals subst ho
    all_goals have AM:=Ka BH
    all_goals simp only [Act.eval]at e3 e4 e6 e7
    all_goals clear xH
    ·clear hval AM BH Ax hr;simp [execOp,go_sem,Oper.uponIn,e4,h4V];exact hK
    ·clear hval AM BH Ax hr;simp [execOp,go_sem,Oper.uponIn,e7];exact hK
    ·clear hval AM BH Ax hr;simp [execOp,go_sem,Oper.uponIn,e6,uY];exact hK
    ·clear hval AM BH Ax hr;simp [execOp,go_sem,Oper.uponIn,e3,rS];exact hK
    ·have f36:=hval 3 (d:=36) rfl (by omega) (AM 3 (by kernel_rfl)) rfl;simp only [Act.eval]at f36;clear hval AM BH Ax hr;simp [execOp,go_sem,Oper.uponIn,f36];exact hK
    ·have f37:=hval 4 (d:=37) rfl (by omega) (AM 4 (by kernel_rfl)) rfl;simp only [Act.eval]at f37;clear hval AM BH Ax hr;simp [execOp,go_sem,Oper.uponIn,zI,f37];exact hK
    ·have f35:=hval 2 (d:=35) rfl (by omega) (AM 2 (by kernel_rfl)) rfl;have f38:=hval 5 (d:=38) rfl (by omega) (AM 5 (by kernel_rfl)) rfl;simp only [Act.eval]at f35 f38;clear hval AM BH Ax hr;have hy1:y≠0:=(by omega);simp [execOp,go_sem,Oper.uponIn,hy1,f35,f38,hq];exact hK
    ·clear hval AM BH Ax hr;simp [execOp,go_sem,Oper.uponIn,e6,uY];exact hK
    ·clear hval AM BH Ax hr;simp [execOp,go_sem,Oper.uponIn,e3,rS];exact hK
    ·have qV:=hval 8 (d:=41) rfl (by omega) (AM 8 (by kernel_rfl)) rfl;simp only [Act.eval]at qV;clear hval AM BH Ax hr;simp [execOp,go_sem,Oper.uponIn,qV];exact hK
    ·have qW:=hval 9 (d:=42) rfl (by omega) (AM 9 (by kernel_rfl)) rfl;simp only [Act.eval]at qW;clear hval AM BH Ax hr;simp [execOp,go_sem,Oper.uponIn,zI,qW];exact hK
    ·have f40:=hval 7 (d:=40) rfl (by omega) (AM 7 (by kernel_rfl)) rfl;have qX:=hval 10 (d:=43) rfl (by omega) (AM 10 (by kernel_rfl)) rfl;simp only [Act.eval]at f40 qX;clear hval AM BH Ax hr;have hy1:y≠0:=(by omega);have hm:(t:Int).tmod (y:Int)=((t%y:Nat):Int):=(by rw [Int.tmod_eq_emod_of_nonneg (by omega)];simp);simp [execOp,go_sem,Oper.uponIn,hy1,f40,qX,hm];exact hK
    ·have f33:=hval 0 (d:=33) rfl (by omega) (AM 0 (by kernel_rfl)) rfl;have f34:=hval 1 (d:=34) rfl (by omega) (AM 1 (by kernel_rfl)) rfl;simp only [Act.eval]at f33 f34;clear hval AM BH Ax hr;simp [execOp,go_sem,Oper.uponIn,hix,f33,f34];exact hK
   ·have hsz:=xH
    rcases(by omega:i=13∨i=14)with rfl|rfl
    ·have Nw:listed.getD 13 false=false:=getD_both Ax;rw [jR (I7 (by rw [hsz];exact hi)) (by rw [getD_set_ne false (by omega)];exact Zd)]at hK;rw [qx Nw];simp only [List.getElem?_toArray,List.getElem?_cons_zero,List.getElem?_cons_succ,Anb]at ho;subst ho;have AM:=Ka BH;have f39:=hval 6 (d:=39) rfl (by omega) (AM 6 (by kernel_rfl)) rfl;have qZ:=hval 12 (d:=45) rfl (by omega) (AM 12 (by kernel_rfl)) rfl;simp only [Act.eval]at f39 qZ;clear hval AM BH Ax hr;obtain⟨vq,dO⟩:=Option.isSome_iff_exists.1 hqc;simp [execOp,go_sem,Oper.uponIn,f39,qZ,aU,dO];rw [hW1]at hK;exact hK
    ·simp only [List.getElem?_toArray,List.getElem?_cons_zero,List.getElem?_cons_succ,Anb]at ho;subst ho;have AM:=Ka BH;have Nw:=AM 13 (by kernel_rfl);rw [qy (getD_set_true Nw) (I7 (by rw [hsz];exact hi))]at hK;rw [jR Nw Zd];have qY:=hval 11 (d:=44) rfl (by omega) (AM 11 (by kernel_rfl)) rfl;simp only [Act.eval]at qY e6;clear hval AM BH Ax hr;simp [execOp,go_sem,Oper.uponIn,qY,e6,AdS,uZ];rw [hW2]at hK;exact hK
  ·intro listed a Aj hall;rw [qy (hall 13 (by decide)) (hall 14 (by decide))];refine⟨⟨BV.size,fun k o hk hko _=>?_⟩,⟨BV,hb2 _ (by omega) (by omega)⟩,vs.set x.1.1 (t/y),t%y,by rw [List.length_set,IW],Tg,AiJ,AcP,AcV,Afo,?_,?_,?_⟩
   ·rw [Anf]at hk;rw [hb2 k (by omega) (by omega)];exact hko
   ·obtain⟨bx,Ay⟩:=BO;exact⟨bx,by rw [hb2 _ (by omega) (by omega)];exact Ay⟩
   ·exact Below.trans hxx BV
   ·intro k hk e
    cases k with
    | zero=>simp [upto]at e
    | succ k=>rw [upto_succ]at e;obtain⟨e1,e2⟩:=List.append_inj' e rfl;simp only [List.cons.injEq,and_true]at e2;have CL:=hg k hk;rw [←e2]at CL;have h5:=KH k (by omega) e1;have h6:x.1.1=zs.length-1-k:=(by rw [CL];rfl);have h7:x.1.2=Ah zs x.1.1:=(by rw [h6,CL];rfl);rw [show zs.length-k=x.1.1+1 by omega]at h5;rw [show zs.length-(k+1)=x.1.1 by omega];exact h5.step Bh hlt (by rw [←h7];exact htg h5.rl)
 case done=>
  rintro D ys W hD rfl ⟨vs,r,IW,hown,NQ,h3,J4,hy,BO,hxx,KH⟩ hK;have h4:=cell_of_one J4;have hdone:=KH zs.length (AmX _) rfl;rw [Nat.sub_self]at hdone;have uX:=cell_of_one NQ;simp only [Anf]at hD;have KY:=(Aa.refl W).drew;have Az:=((Aa.refl W).alloc (.cells #[.int .u64 (r:Nat)] 195)).drew
  have S3:BG W (some ⟨w1.heap.size,0,none⟩) zs.length vs:=by obtain⟨A',c',e1,h1⟩:=Rd.of_own (base:=w1.heap.size) (l:=vs) (by rw [IW];exact hown) (by omega);simp only [Value.slice.injEq]at e1;obtain⟨rfl,_,rfl⟩:=e1;exact h1
  have xW:r<1000000000:=by have:=hdone.rl;omega
  have Dy:BG (W.alloc (.cells #[.int .u64 (r:Nat)] 195)).drew (some ⟨W.heap.size,0,none⟩) 1 [r]:=
   ⟨by simp,by omega,by simp,fun _=>⟨W.heap.size,0,rfl,fun j hj=>by
    obtain rfl:j=0:=(by simpa using hj);show (W.alloc (.cells #[.int .u64 (r:Nat)] 195)).cell? ⟨W.heap.size,0,none⟩=_
    rw [World.cell?_alloc_at _ _ _ _ (by rfl)];simp [Ah]⟩⟩
  have AQ:=Qo vs _ _ W.drew (S3.ext KY) hdone.lt;have Bp:=Qo vs _ _ _ (S3.ext Az) hdone.lt;have S2:=Qo [r] _ _ _ Dy (by intro z hz;simp only [Ank]at hz;omega);rw [IW]at AQ Bp;have h4':=Az.cellS h4;have f4:=free_of_one ((Az.block _ (AmV J4)).trans J4);simp only [List.length_singleton]at S2;have hDW:=AmV hK
  have UI:(((W.alloc (.cells #[.int .u64 (r:Nat)] 195)).setCell ⟨w.heap.size+1,0,none⟩ (.slice (some ⟨w1.heap.size,0,none⟩) (pc 1000000000 (Ag 1000000000 vs)).length zs.length)).drew).heap[D]?=some (.deferred (some [])):=by show (((W.alloc (.cells #[.int .u64 (r:Nat)] 195)).setCell ⟨w.heap.size+1,0,none⟩ (.slice (some ⟨w1.heap.size,0,none⟩) (pc 1000000000 (Ag 1000000000 vs)).length zs.length))).heap[D]?=_;rw [Below.heap_setCell _ _ _ _ (show D≠w.heap.size+1 by omega),Below.heap_alloc _ _ _ hDW];exact hK
  obtain⟨X,hX⟩:=AmT (((W.alloc (.cells #[.int .u64 (r:Nat)] 195)).setCell ⟨w.heap.size+1,0,none⟩ (.slice (some ⟨w1.heap.size,0,none⟩) (pc 1000000000 (Ag 1000000000 vs)).length zs.length)).drew);have Ze:=(Az.block _ (AmV J4)).trans J4
  have vB:(X.putObj D (.deferred none)).cell? ⟨w.heap.size+1,0,none⟩=some (.slice (some ⟨w1.heap.size,0,none⟩) (pc 1000000000 (Ag 1000000000 vs)).length zs.length):=by refine cell_of_one (t:=278) ?_;rw [World.putObj_heap_other (by omega),hX];exact one_setCell Ze
  have xM:O8 (x/y) (x%y) w (.returned (.tuple #[.slice (some ⟨w1.heap.size,0,none⟩) (pc 1000000000 (Ag 1000000000 vs)).length zs.length,.slice (some ⟨W.heap.size,0,none⟩) (pc 1000000000 (Ag 1000000000 [r])).length 1])) (X.putObj D (.deferred none)):=by
   have Ev:=hdone.done;have Lb:Ag 1000000000 zs=x:=(by rw [HZ.out,AS b9]);rw [Lb]at Ev;have e1:Ag 1000000000 [r]=x%y:=by simp [Ag,Ev.2]
   have k1:BG (X.putObj D (.deferred none)) (some ⟨w1.heap.size,0,none⟩) zs.length (pc 1000000000 (x/y)):=by rw [←Ev.1];refine BG.putObj ?_ (by rw [hX];exact UI) rfl _;rw [hX];exact((S3.ext Az).pc hdone.lt).setCell (w:=(W.alloc (.cells #[.int .u64 (r:Nat)] 195)).drew) (cell_of_one Ze) (by simp)
   have k2:BG (X.putObj D (.deferred none)) (some ⟨W.heap.size,0,none⟩) 1 (pc 1000000000 (x%y)):=by rw [←e1];refine BG.putObj ?_ (by rw [hX];exact UI) rfl _;rw [hX];exact(Dy.pc (by intro z hz;simp only [Ank]at hz;omega)).setCell (w:=(W.alloc (.cells #[.int .u64 (r:Nat)] 195)).drew) (cell_of_one Ze) (by simp)
   rw [Ev.1,e1];refine⟨_,_,rfl,⟨_,_,rfl,k1⟩,⟨_,_,rfl,k2⟩,?_⟩
   have C7:Aa w X:=by rw [hX];exact(((hxx.alloc _).setCell (by show w.heap.size<=w.heap.size+1;omega) _)).drew
   exact Below.trans C7 (belowK_b (w:=w) (AmX _) X D _ _ (by omega) (by rw [hX];exact UI) rfl rfl)
  rw [hX]at vB xM;clear hX;gi_wp2;refine wpIn_wide.2 (wp_region_noPanic ?_)
  go_region_with (go_at_call 282;((first|(with_reducible refine AQ.mono ?_)|(with_reducible refine Bp.mono ?_)|(with_reducible refine S2.mono ?_));rintro e w' ⟨rfl,rfl⟩))
  all_goals refine NoPanic.normal ?_
  all_goals gi_wp2
  all_goals simp only [List.getElem_toArray,List.getElem_cons_succ,List.getElem_cons_zero,Act.put,List.setIfInBounds_toArray,List.set_cons_succ,List.set_cons_zero]
  all_goals refine⟨by simp,.inl ⟨_,_,rfl,run_takeDeferred UI,?_⟩⟩
  all_goals exact⟨_,by simp [results,Tryz.results278,go_sem,vB],xM⟩
 case stop=>rintro D c pre W _ _ h _;exact h.elim
end Go.Proofs.YtbejphgbbpplbaaGreatDoor
namespace Go.Proofs.YtbejphgbbpplbaaGreatDoor
open Go.RowKit Kl Go.Shelf
theorem iY(x d:Nat)(hd:d<1000000000)(hl:(pc 1000000000 x).length<40000)(u:Value)(w:World)(hu:Rd w u (pc 1000000000 x)) :
  Calls Tryz.prog 334 #[u,.int .u64 (d:Nat)] w (QF (x*d) w):=by
 have hx1:=(Aa.refl w).alloc (.cells #[.int .u64 (d:Nat)] 195)
 have Dy:BG (w.alloc (.cells #[.int .u64 (d:Nat)] 195)) (some ⟨w.heap.size,0,none⟩) 1 [d]:=
  ⟨by simp,by omega,by simp,fun _=>⟨w.heap.size,0,rfl,fun j hj=>by
   obtain rfl:j=0:=by simpa using hj
   rw [World.cell?_alloc_at _ _ _ _ (by rfl)];simp [Ah]⟩⟩
 have BW:∀z∈[d],z<1000000000:=(by intro z hz;simp only [Ank]at hz;omega);have hq:=Qo [d] _ _ _ Dy BW;have e1:Ag 1000000000 [d]=d:=(by simp [Ag]);have hl2:(pc 1000000000 d).length<=1:=Oe b9 (by omega);have ht:=oz (pc 1000000000 x) (pc 1000000000 d) u _ _ (hu.ext hx1) ⟨_,_,rfl,by have:=Dy.pc BW;rw [e1]at this;exact this⟩ hl (by omega) (Bd b9 x) (Bd b9 d);rw [AS b9,AS b9]at ht;rw [e1]at hq;simp only [List.length_singleton]at hq;clear Dy BW e1;go_enter Tryz.func334,Tryz.ntmps334;(go_wp2_with fail);(with_reducible refine hq.mono ?_);rintro e w1 ⟨rfl,rfl⟩;(go_wp2_with fail);(with_reducible refine ht.mono ?_);rintro e w1 ⟨v,rfl,hv,hxv,hf⟩;have HF:=AmU hf;clear hf;go_wp2;go_ret;exact⟨v,rfl,hv,hx1.trans hxv,fun b hb=>by have:=HF.out b hb;simp at this;omega⟩
theorem fG{b:Nat}(hb:0<b):∀{l:List Nat} (k:Nat),(∀x∈l,x<b)→Ag b (l.drop k)=Ag b l/b^k
 | l,0,_=>by simp
 | [],k+1,_=>by simp [Ag]
 | x::l,k+1,h=>by rw [List.drop_succ_cons,fG hb k (fun y hy=>h y (by simp [hy]))];simp only [Ag];have hx:=h x (by simp);rw [Nat.pow_succ,Nat.mul_comm (b^k) b,←Nat.div_div_eq_div_mul,Nat.add_mul_div_left _ _ hb,Nat.div_eq_of_lt hx,Nat.zero_add]
theorem YU{y t:Nat}(hyt:y<=t)(P5:t<y*1000000000)(Bh:0<y) :
  let m:=(pc 1000000000 y).length
  let n:=(pc 1000000000 t).length
  0<m/\0<Ah (pc 1000000000 y) (m-1)/\m<=n/\n<=m+1/\
   t/y<=(if m<n then Ah (pc 1000000000 t) (n-1)*1000000000+Ah (pc 1000000000 t) (n-2)else Ah (pc 1000000000 t) (n-1))/Ah (pc 1000000000 y) (m-1):=by
 intro m n;have dH:=Ge b9 y;have wY:=Bd b9 y;have wX:=Bd b9 t;have bX:=AS b9 y;have xG:=AS b9 t;have xF:pc 1000000000 y≠[]:=fun e=>(by have:=(PX b9).1 e;omega);have hm:0<m:=List.length_pos_iff.2 xF;have cV:=gR (b:=1000000000) dH xF;rw [bX]at cV;have zJ:y<1000000000^m:=(by have:=Ih wY;rwa [bX]at this);have Ef:t<1000000000^n:=by have:=Ih wX;rwa [xG]at this
 have hmn:m<=n:=by
  rcases Nat.lt_or_ge n m with h|h
  ·exfalso
   have h1:(1000000000:Nat)^n<=1000000000^(m-1):=Nat.pow_le_pow_right (by omega) (by omega)
   change (1000000000:Nat)^(m-1)<=y at cV
   omega
  ·exact h
 have hnm:n<=m+1:=by
  refine Oe b9 ?_;rw [Nat.pow_succ]
  calc t<y*1000000000:=P5
   _<=1000000000^m*1000000000:=Nat.mul_le_mul_right _ (by omega)
 have e1:Ah (pc 1000000000 y) (m-1)=y/1000000000^(m-1):=by have h:=fG (b:=1000000000) (by omega) (m-1) wY;rw [bX]at h;rw [←h,LU (by omega),List.drop_eq_nil_of_le (by omega)];simp [Ag]
 have e2:(if m<n then Ah (pc 1000000000 t) (n-1)*1000000000+Ah (pc 1000000000 t) (n-2)else Ah (pc 1000000000 t) (n-1))=t/1000000000^(m-1):=by
  have h:=fG (b:=1000000000) (by omega) (m-1) wX;rw [xG]at h;rw [←h]
  split
  ·have e:n=m+1:=(by omega);rw [LU (by omega),LU (by omega),List.drop_eq_nil_of_le (by omega)];simp only [Ag];rw [show n-1=m-1+1 by omega,show n-2=m-1 by omega];omega
  ·have e:n=m:=(by omega);rw [LU (by omega),List.drop_eq_nil_of_le (by omega)];simp only [Ag];rw [e];omega
 have S9:0<Ah (pc 1000000000 y) (m-1):=by rw [e1];exact Nat.div_pos cV (Nat.pow_pos (by omega))
 refine⟨hm,S9,hmn,hnm,?_⟩;rw [e2,Nat.le_div_iff_mul_le S9,Nat.le_div_iff_mul_le (Nat.pow_pos (by omega)),e1]
 calc t/y*(y/1000000000^(m-1))*1000000000^(m-1)=t/y*(y/1000000000^(m-1)*1000000000^(m-1)):=by rw [Nat.mul_assoc]
  _<=t/y*y:=Nat.mul_le_mul_left _ (Nat.div_mul_le_self _ _)
  _<=t:=Nat.div_mul_le_self _ _
theorem AiT{P:Program}(w:World)(base:Nat)(t ty e:TypeId)(i:TypeInfo)(size:Nat)(ht:P.underlying t=some (.slice e))(hi:P.info? e=some i)
  (v:Value) (n c:Nat) (xs:List Value) (hown:w.ownsRow base e size v n xs) :
  (Builtin.append_ #[t,t] ty #[v,.slice none 0 c]).run P w=.ok v w:=by
 rcases hown.2 with⟨rfl,rfl⟩|⟨g,cap,cur,rfl,_,_,hnc,_⟩
 ·simp [Builtin.append_,run_underlying ht,sizeOf,typeInfo,hi,Builtin.lenOf,Builtin.firstCells]
 ·simp [Builtin.append_,run_underlying ht,sizeOf,typeInfo,hi,Builtin.lenOf,Builtin.firstCells,hnc,storeCells]
theorem zv{ops:Array Oper}{rest:List Oper}{o:Oper}{a:Act}{Q:Exit→Act→World→Prop}(hgd:o.guard=none)(s x:Operand)(ho:o.op=.call {callee:=.builtin .append,args:=#[s,x],argTypes:=#[278,278]})
  (wr:World) (base:Nat) (v:Value) (n:Nat) (xs:List Nat) (hs:a.eval s=v) (hown:wr.ownsRow base 195 1 v n (AZ xs)) (l:List Nat) (vx:Value) (hx:a.eval x=vx) (hr:Rd wr vx l) (hn:n+l.length<200000) (hbase:base<=wr.heap.size)
  (h:∀v' w',w'.ownsRow base 195 1 v' (n+l.length) (AZ (xs++l))→(∀w0,Aa w0 wr→w0.heap.size<=base→Aa w0 w')→wpList Tryz.prog ops Q rest (a.put o.dst v') w') :
  wpList Tryz.prog ops Q (o::rest) a wr:=by
 obtain⟨i0,hi,hz0,hz1,hz2⟩:=info_parts Tryz.infoU;obtain⟨A,c,rfl,Cq⟩:=hr;refine wpList_plain hgd fun K hK=>?_;by_cases h0:l.length=0
 ·obtain rfl:l = []:=List.length_eq_zero_iff.1 h0;rw [List.append_nil]at h
  cases A with
  | none=>
   have hrun:=AiT (P:=Tryz.prog) wr base 278 o.type 195 i0 1 Tryz.underlying278 hi v n c (AZ xs) hown;unfold Oper.wp execOp;simp only [ho,resolve,invoke,builtin,Sem.run_bind,Sem.run_pure,Result.andThen_ok,List.map_toArray,List.map_cons,List.map_nil,hs,hx,List.length_nil,hrun];exact hK _ _ (h v wr hown fun w0 he hb=>he)
  | some ad=>refine wp_append_own _ s x 278 ho base 195 i0 (.int .u64 0) 1 8 Tryz.underlying278 hi hz0 hz1 hz2 rfl (by omega) v n (AZ xs) hs hown ad 0 c [] hx rfl (fun j u hu=>by simp at hu) (fun u hu=>by simp at hu) (by unfold maxLen;omega) (by omega) hbase ?_;intro v' w' h2 h3 _;exact hK _ _ (h v' w' (by simpa using h2) fun w0 he hb=>he.grownOwn h3 hown hb)
 ·obtain⟨b,off,rfl,hc⟩:=Cq.ad (by omega);refine wp_append_own _ s x 278 ho base 195 i0 (.int .u64 0) 1 8 Tryz.underlying278 hi hz0 hz1 hz2 rfl (by omega) v n (AZ xs) hs hown ⟨b,off,none⟩ l.length c (AZ l) hx (by simp [AZ]) ?_ ?_ (by unfold maxLen;omega) (by omega) hbase ?_
  ·intro j u hu
   have hj:j<l.length:=by
    have:=(List.getElem?_eq_some_iff.1 hu).1
    simpa [AZ]using this
   have e:(AZ l)[j]?=some (.int .u64 (Ah l j:Nat)):=(by simp [AZ,Ah,hj]);rw [e]at hu;rw [←Option.some.inj hu,Addr.add_lit];exact hc j hj
  ·intro u hu;simp only [AZ,List.mem_map]at hu;obtain⟨z,_,rfl⟩:=hu
   rfl
  ·intro v' w' h2 h3 _;exact hK _ _ (h v' w' (by simpa [AZ]using h2) fun w0 he hb=>he.grownOwn h3 hown hb)
theorem pU(x y:Nat)(Bh:0<y)(SH:y<1000000000)(u v:Value)(w:World)(hu:Rd w u (pc 1000000000 x))(hv:Rd w v (pc 1000000000 y)) :
  Calls Tryz.prog 278 #[u,v] w (O8 (x/y) (x%y) w):=by
 rcases Nat.lt_or_ge x y with h|h
 ·rw [Nat.div_eq_of_lt h,Nat.mod_eq_of_lt h];exact pT x y h u v w hu hv
 ·exact AbN x y h Bh SH u v w hu hv
theorem Rd.setCell{w:World}{v0:Value}{l:List Nat}(h:Rd w v0 l){p:Addr}{v u:Value}(hp:w.cell? p=some v)(hv:∀n,v≠.int .u64 n):Rd (w.setCell p u) v0 l:=by
 obtain⟨A,c,e,h⟩:=h;exact⟨A,c,e,h.setCell hp hv⟩
theorem BG.setOther{w:World}{A:Option Addr}{c:Nat}{l:List Nat}(h:BG w A c l){p:Addr}(u:Value)(hp:∀b o,0<l.length→A=some ⟨b,o,none⟩→b≠p.block):BG (w.setCell p u) A c l:=
 ⟨h.cap,h.max,h.len,fun h0=>by
  obtain⟨b,o,e,hc⟩:=h.ad h0;refine⟨b,o,e,fun j hj=>?_⟩;rw [World.cell?_setCell_other _ _ _ _ (fun e2=>hp b o h0 e (by rw [e2]))]
  exact hc j hj⟩
theorem Tk{a b:Nat}(h:a<=b):(pc 1000000000 a).length<=(pc 1000000000 b).length:=by
 refine Oe b9 ?_;have h1:=Ih (Bd b9 b);rw [AS b9]at h1;omega
theorem AhM{x f k:Nat}(h:(pc 1000000000 x).length<k)(hf:f<1000000000):(pc 1000000000 (x*f)).length<=k:=by
 refine Oe b9 ?_;have h1:=Ih (Bd b9 x);rw [AS b9]at h1
 have h2:(1000000000:Nat)^(pc 1000000000 x).length*1000000000<=1000000000^k:=by rw [←Nat.pow_succ];exact Nat.pow_le_pow_right (by omega) h
 exact Anh (Nat.mul_lt_mul'' h1 hf) h2
theorem Ajk{l:List Nat}{j y:Nat}(h:Ah l j=y)(hj:j<l.length):l.set j y=l:=by
 rw [←h];apply List.ext_getElem?;intro i;rw [List.getElem?_set]
 split
 ·next e=>subst e;simp [Ah,hj]
 ·rfl
def xy(wb:World)(xs:List Nat)(Y Q:Nat)(r i:Value)(wr:World):Prop:=
 ∃(k:Nat) (vs:List Nat) (rn:Nat) (z:Int),i=.int .i64 z/\z=(k:Int)-1/\Iv xs vs Y k rn/\(∀j,j<k→Ah vs j=0)/\Rd wr r (pc 1000000000 rn)
  /\wr.ownsRow Q 195 1 (.slice (some ⟨Q,0,none⟩) xs.length xs.length) xs.length (AZ vs)/\Aa wb wr
theorem AbM(x y:Nat)(VY:y<=x)(SH:1000000000<=y)(hlx:(pc 1000000000 x).length<39000)(u v:Value)(w:World)(hu:Rd w u (pc 1000000000 x))(hv:Rd w v (pc 1000000000 y)) :
  Calls Tryz.prog 278 #[u,v] w (O8 (x/y) (x%y) w):=by
 have IQ:=fun W hu hv=>PT (pc 1000000000 x) (pc 1000000000 y) u v W hu hv (Bd b9 x) (Bd b9 y) (Ge b9 x) (Ge b9 y)
 obtain⟨s,hs,hs0⟩:∃s:Int,s=D9 x y/\¬s<0:=by
  rcases Nat.lt_or_eq_of_le VY with h|h
  ·exact⟨_,rfl,by rw [Ks h];omega⟩
  ·exact⟨_,rfl,by rw [OK h.symm];omega⟩
 rw [AS b9,AS b9,←hs]at IQ;clear hs;have hx1:=((Aa.refl w).alloc (.cells #[v] 278)).alloc (.cells #[.slice none 0 0] 278);have ho:=IQ _ (hu.ext hx1) (hv.ext hx1);clear IQ;obtain⟨hm0,S9,-,-,-⟩:=YU (y:=y) (t:=y) (AmX _) (by omega) (by omega)
 have Gv:2<=(pc 1000000000 y).length:=by
  rcases Nat.lt_or_ge (pc 1000000000 y).length 2 with h|h
  ·exfalso
   have h1:=Ih (Bd b9 y);rw [AS b9]at h1;have h2:(1000000000:Nat)^(pc 1000000000 y).length<=1000000000^1:=Nat.pow_le_pow_right (by omega) (by omega);omega
  ·exact h
 have Ef:Ah (pc 1000000000 y) ((pc 1000000000 y).length-1)<1000000000:=Cd (Bd b9 y) (by omega);have NT:=hu;have dM:=hv;obtain⟨A,ca,e1,Cq⟩:=NT;obtain⟨B,cb,e2,BP⟩:=dM;have FU:=BP.len;have hcb:=BP.cap;have Su:=BP.max;obtain⟨bb,ob,rfl,hcs⟩:=BP.ad (by omega);have Dl:=hcs ((pc 1000000000 y).length-1) (by omega);clear hcs;obtain⟨m,hm⟩:=AmT ((pc 1000000000 y).length);obtain⟨tp,SA⟩:=AmT (Ah (pc 1000000000 y) (m-1));rw [←hm]at FU hcb Gv hm0 e2 Dl Ef S9;rw [←SA]at S9 Ef Dl;have HM:=AmU hm;have HT:=AmU SA;clear hm SA
 obtain⟨f,aP,hf0,Po⟩:∃f:Nat,(1000000000:Int)/((tp:Int)+1)=(f:Int)/\0<f/\f<1000000000:=by refine⟨1000000000/(tp+1),by simp,Nat.div_pos (by omega) (by omega),Nat.div_lt_self (by omega) (by omega)⟩
 rw [e1,e2]at ho;rw [e2]at hx1;have hm1:(((m:Nat):Int) == 1)=false:=(by rw [beq_eq_false_iff_ne];omega);subst e1 e2;go_enter Tryz.func278,Tryz.ntmps278;(go_wp2_with fail);(with_reducible refine ho.mono ?_);rintro e w1 ⟨rfl,hx2⟩;obtain⟨hc2,hf2⟩:=hx2.cells;have AdJ:=hx2.cellS (hx1.cellS Dl);have hb0:=(hx2.block w.heap.size (by simp;omega)).trans ((Below.heap_alloc _ _ _ (by simp)).trans (AmW w _));have hb1:=hx2.block (w.heap.size+1) (by simp);have RJ:=AmW (w.alloc (.cells #[.slice (some ⟨bb,ob,none⟩) m cb] 278)) (.cells #[.slice none 0 0] 278);rw [Anf]at RJ;have hb1:=hb1.trans RJ;clear RJ
 go_upto_region 13 with fail
 have KY:Aa w w1.drew:=(hx1.trans hx2).drew;have Ib:(pc 1000000000 y).length<=(pc 1000000000 x).length:=Oe b9 (by have:=Ih (Bd b9 x);rw [AS b9]at this;omega);have c1:=iY x f Po (by omega) _ w1.drew (hu.ext KY);have c2:=fun W (hW:Aa w1.drew W)=>iY y f Po (by omega) _ W (hv.ext (KY.trans hW));have HLM:=AmU Ib;simp only [←aP]at c1 c2;have tu:=AmU aP;clear aP Ib
 go_cut [0] (fun v0 wx=>∃vb,Rd wx v0 (pc 1000000000 (x*f))/\Rd wx vb (pc 1000000000 (y*f))/\wx.heap[w.heap.size]?=some (.cells #[vb] 278 (0,0))/\wx.heap[w.heap.size+1]?=some (.cells #[.slice none 0 0] 278 (0,0))/\Aa w wx)
 case first=>
  refine wp_region_noPanic ?_
  go_region_with (go_at_call 334;(first|((with_reducible refine c1.mono ?_);rintro e w2 ⟨va,rfl,hva,hx3,hf3⟩;clear hf3;have hb2:=(hx3.block _ (AmV hb0)).trans hb0;have hg0:=cell_of_one hb2)|((with_reducible refine(c2 _ (by assumption)).mono ?_);rintro e w3 ⟨vb,rfl,⟨B2,QP,rfl,hvb⟩,Ai,vU⟩;clear vU;have hb3:=(Ai.block _ (AmV hb2)).trans hb2;have hg3:=cell_of_one hb3;have hg4:=free_of_one hb3)))
  all_goals refine NoPanic.normal ?_
  all_goals go_wp2
  all_goals go_meet
  all_goals exact⟨_,(hva.ext Ai).setCell hg3 (by simp),Rd.setCell ⟨B2,QP,rfl,hvb⟩ hg3 (by simp),one_setCell hb3,by rw [Below.heap_setCell _ _ _ _ (by show w.heap.size+1≠w.heap.size;omega)];exact(Ai.block _ (by have:=hx3.size;have:=AmV hb1;show w.heap.size+1<_;have h9:w1.drew.heap.size=w1.heap.size:=rfl;omega)).trans ((hx3.block _ (AmV hb1)).trans hb1),((KY.trans hx3).trans Ai).setCell (by show w.heap.size<=w.heap.size;omega) _⟩
 case rest=>
  obtain⟨vb,⟨A1,Y8,rfl,VM⟩,⟨B1,QO,rfl,P4⟩,hkb,Sm,M9⟩:=hcut;clear c1 c2 hb0 hb1 KY hx2 hc2 hf2 AdJ Dl ho hx1 hu hv Cq BP;have bJ:(pc 1000000000 (x*f)).length<=39000:=AhM hlx Po;have Mj:0<y*f:=Nat.mul_pos (by omega) hf0;have wR:(pc 1000000000 (y*f)).length<=39000:=Ani (Tk (Nat.mul_le_mul_right f VY)) bJ;obtain⟨X,hX⟩:=AmT (x*f);obtain⟨Y,hY⟩:=AmT (y*f);rw [←hX]at VM bJ ⊢;rw [←hY]at P4 wR Mj hkb;have HX:=AmU hX;have HY:=AmU hY;clear hX hY;obtain⟨OV,tD,-,-,-⟩:=YU (y:=Y) (t:=Y) (AmX _) (by omega) Mj;have tG:Ah (pc 1000000000 Y) ((pc 1000000000 Y).length-1)<1000000000:=Cd (Bd b9 Y) (by omega);obtain⟨b1,o1,rfl,vE⟩:=P4.ad OV;have IH:=vE ((pc 1000000000 Y).length-1) (by omega);clear vE;have AdG:=P4.cap;have Amg:=P4.max;obtain⟨M,hM⟩:=AmT ((pc 1000000000 Y).length);obtain⟨T,hT⟩:=AmT (Ah (pc 1000000000 Y) (M-1));obtain⟨xs,Ig⟩:=AmT (pc 1000000000 X);have wZ:∀z∈xs,z<1000000000:=(by rw [Ig];exact Bd b9 X);rw [←hM]at wR OV IH AdG tD tG hkb;rw [←hT]at IH tD tG;rw [←Ig]at VM bJ ⊢;have MY:=AmU hM;have kZ:=AmU hT;have xl:=AmU Ig;clear hM hT Ig;have Se:=cell_of_one Sm;have aU:=free_of_one Sm;have hgb:=cell_of_one hkb;have KW:=AmV hkb;have FY:=AmV Sm;have hb1:=World.block_lt_of_cell? wc _ IH;have hmk:=eR xs.length (by omega) (xs.length:Int) rfl
  go_upto_region 15 with fail
  clear hmk;have AeG:=VM.setCell (u:=.slice (some ⟨wc.heap.size,0,none⟩) xs.length xs.length) Se (by simp);have xY:=P4.setCell (u:=.slice (some ⟨wc.heap.size,0,none⟩) xs.length xs.length) Se (by simp);have VB:=one_setCell (u:=.slice (some ⟨wc.heap.size,0,none⟩) xs.length xs.length) Sm;have Aei:=(Below.heap_setCell wc ⟨w.heap.size+1,0,none⟩ (.slice (some ⟨wc.heap.size,0,none⟩) xs.length xs.length) w.heap.size (by show w.heap.size≠w.heap.size+1;omega)).trans hkb;have hxb:=M9.setCell (p:=⟨w.heap.size+1,0,none⟩) (by show w.heap.size<=w.heap.size+1;omega) (.slice (some ⟨wc.heap.size,0,none⟩) xs.length xs.length);have yT:(wc.setCell ⟨w.heap.size+1,0,none⟩ (.slice (some ⟨wc.heap.size,0,none⟩) xs.length xs.length)).heap.size=wc.heap.size:=(by simp);generalize wc.setCell ⟨w.heap.size+1,0,none⟩ (.slice (some ⟨wc.heap.size,0,none⟩) xs.length xs.length)=wb at *;clear VM P4 Sm hkb Se aU hgb hb1 IH M9;rw [←yT]at KW FY VB ⊢;clear yT
  have IH:wb.cell? ⟨b1,o1+(M-1),none⟩=some (.int .u64 (T:Nat)):=by obtain⟨b3,o3,e3,AdI⟩:=xY.ad (by have:=MY.out;omega);simp only [Anb,Addr.mk.injEq,and_true]at e3;obtain⟨rfl,rfl⟩:=e3;have h:=AdI (M-1) (by have:=MY.out;omega);rw [←kZ.out]at h;exact h
  have hb1:=World.block_lt_of_cell? wb _ IH;have hgb:=cell_of_one Aei;have how:=fX wb wb.heap.size xs.length (AmX _) (by omega);go_wp2
  go_loopw [5,11] (fun r i wr=>xy wb xs Y wb.heap.size r i wr) (fun _ i _=>(intOf i+1).toNat)
  case atStart=>exact⟨xs.length,List.replicate xs.length 0,0,_,rfl,rfl,Iv.start Mj,fun j hj=>by simp only [Ah,List.getD_eq_getElem?_getD,List.getElem?_replicate];split<;>rfl,⟨none,0,by rw [Ik];rfl,by rw [Ik];exact⟨by simp,by omega,by simp,fun h=>by simp at h⟩⟩,how,(Aa.refl wb).alloc _⟩
  case round=>
   obtain⟨k,vs,rn,z,rfl,hz,hI,JH,Dy,hown,Ac⟩:=hrel;clear how;have hZ:=AmU hz;have Cp:=hI.le;by_cases hk:0<k
   ·have hz0:0<=z:=(by omega);obtain⟨j,rfl⟩:=Int.eq_ofNat_of_zero_le hz0;obtain rfl:k=j+1:=(by omega);clear hz;obtain⟨ba,oa,rfl,vF⟩:=AeG.ad (by omega);have hg:=Ac.cellS (vF j (by omega));clear vF;obtain⟨wo,rfl⟩:=AmT (wr:World);have Vy:j<xs.length:=Cp;have Cl:=Cd wZ Vy;have Ame:(pc 1000000000 rn).length<=M:=by rw [MY.out];exact Tk (Nat.le_of_lt hI.rl)
    have JC:(wo.alloc (.cells #[.int .u64 (Ah xs j:Nat)] 195)).ownsRow wo.heap.size 195 1 (.slice (some ⟨wo.heap.size,0,none⟩) 1 1) 1 (AZ [Ah xs j]):=by
     have h:=World.ownsRow_lit (w:=wo) (base:=wo.heap.size) (e:=195) (size:=1) #[.int .u64 (Ah xs j:Nat)] 1 (AmX _) (by unfold maxLen;omega) (by simp)
     simpa [AZ]using h
    have yH:=Dy.ext ((Aa.refl wo).alloc (.cells #[.int .u64 (Ah xs j:Nat)] 195))
    go_wp2_with (at_builtin;go_loud (refine zv rfl _ _ rfl _ wo.heap.size (.slice (some ⟨wo.heap.size,0,none⟩) 1 1) 1 [Ah xs j] rfl JC (pc 1000000000 rn) u5 rfl yH (by omega) (by rw [Anf];omega) ?_);intro v1 w1 hown1 hx1)
    have yA:Rd w1 v1 ([Ah xs j]++pc 1000000000 rn):=Rd.of_own (by simpa [Nat.add_comm]using hown1) (by simp;omega)
    have Gu:∀z∈[Ah xs j]++pc 1000000000 rn,z<1000000000:=by
     intro z hz
     rcases List.mem_append.1 hz with h|h
     ·simp only [Ank]at h;omega
     ·exact Bd b9 rn z h
    have e1:Aa wo w1:=hx1 wo ((Aa.refl wo).alloc _) (AmX _);refine(trim_c _ _ _ yA Gu).mono ?_;rintro e w2 ⟨v2,rfl,hv2,hx2⟩;have e2:Aa wo w2:=e1.trans hx2;obtain⟨t,ht⟩:=AmT (rn*1000000000+Ah xs j);rw [show Ag 1000000000 ([Ah xs j]++pc 1000000000 rn)=t by simp [Ag,AS b9];omega]at hv2;have hst:=hI.step Mj wZ ht;have HTT:=AmU ht
    have P5:t<Y*1000000000:=by have h1:rn+1<=Y:=hI.rl;have h2:(rn+1)*1000000000<=Y*1000000000:=Nat.mul_le_mul_right _ h1;omega
    clear ht hown1 hx1 JC yH yA Gu hg Dy;have SG:Aa wb w2:=Ac.trans e2;have wC:=SG.cellS hgb;have cY:∀W,Aa wb W→Rd W (.slice (some ⟨b1,o1,none⟩) M QO) (pc 1000000000 Y):=fun W hW=>⟨_,_,by rw [MY.out],xY.ext hW⟩;have ho:=PT (pc 1000000000 t) (pc 1000000000 Y) v2 _ w2 hv2 (cY w2 SG) (Bd b9 t) (Bd b9 Y) (Ge b9 t) (Ge b9 Y);rw [AS b9,AS b9]at ho;have hown2:=AH hown e2;have hlen:=hI.len;have HLEN:=AmU hlen;have KZ:=JH j (by omega);have xm:=AmU KZ;clear hlen KZ;by_cases dF:t<Y
    ·rw [LR dF]at ho;(go_wp2_with fail);(with_reducible refine ho.mono ?_);rintro e w3 ⟨rfl,hx3⟩;go_wp2;go_roundw
     case rel=>rw [Nat.div_eq_of_lt dF,Nat.mod_eq_of_lt dF,Ajk xm.out (by rw [HLEN.out];exact Vy)]at hst;exact⟨j,vs,t,_,by go_num,rfl,hst,fun i hi=>JH i (by omega),hv2.ext hx3,AH hown2 hx3,SG.trans hx3⟩
     case measure=>simp [intOf]
    ·have tU:Y<=t:=by omega
     obtain⟨s2,hs2,AeL⟩:∃s2:Int,s2=D9 t Y/\¬s2<0:=by
      rcases Nat.lt_or_eq_of_le tU with h|h
      ·exact⟨_,rfl,by rw [Ks h];omega⟩
      ·exact⟨_,rfl,by rw [OK h.symm];omega⟩
     rw [←hs2]at ho;clear hs2;obtain⟨-,-,ES,ET,FH⟩:=YU tU P5 Mj;have Z3:=Bd b9 t;obtain⟨A2,c2,rfl,hr2⟩:=hv2;have vC:=hr2.cap;have Amf:=hr2.max;have hlen2:=hr2.len;have EU:=MY.out;rw [←EU]at ES ET FH;rw [←kZ.out]at FH;clear EU;obtain⟨b2,o2,rfl,aH⟩:=hr2.ad (by omega);have Vh:=aH ((pc 1000000000 t).length-1) (by omega);have Vi:=aH ((pc 1000000000 t).length-2) (by omega);clear aH;have AQ:=Cd Z3 (show (pc 1000000000 t).length-1<(pc 1000000000 t).length by omega);have Bp:=Cd Z3 (show (pc 1000000000 t).length-2<(pc 1000000000 t).length by omega);obtain⟨N,hN⟩:=AmT ((pc 1000000000 t).length);rw [←hN]at ES ET FH vC hlen2 Vh Vi AQ Bp ho ⊢;obtain⟨q1,xP⟩:=AmT (Ah (pc 1000000000 t) (N-1));obtain⟨q2,xQ⟩:=AmT (Ah (pc 1000000000 t) (N-2));rw [←xP]at FH Vh AQ;rw [←xQ]at FH Vi Bp;have HN:=AmU hN;clear hN xP xQ Z3
     obtain⟨d0,Vm,IJ,vI⟩:∃d0:Nat,d0=(if M<N then q1*1000000000+q2 else q1)/\t/Y<=d0/T/\d0<1000000000000000000:=by
      refine⟨_,rfl,FH,?_⟩
      split<;>omega
     have kD:=AmU Vm;clear Vm FH;(go_wp2_with fail);(with_reducible refine ho.mono ?_);rintro e w3 ⟨rfl,hx3⟩;have AdY:=hx3.cellS wC;have AdC:=hx3.cellS Vh;have AdD:=hx3.cellS Vi;clear Vh Vi wC ho
     go_upto_if 103 with fail
     go_cut [12] (fun d wx=>d=.int .u64 (d0:Nat)/\wx=w3)
     case first=>
      by_cases sR:M<N
      ·have e0:((q1:Int)*1000000000+(q2:Int))=(d0:Int):=(by rw [kD.out,if_pos sR];omega);go_wp2;go_meet
       case rel=>exact⟨by go_num,rfl⟩
      ·have e0:d0=q1:=(by rw [kD.out,if_neg sR]);go_wp2;go_meet
       case rel=>exact⟨by rw [e0],rfl⟩
     case rest=>
      obtain⟨rfl,rfl⟩:=hcut;have hqd:t/Y<1000000000:=by rw [Nat.div_lt_iff_lt_mul Mj,Nat.mul_comm];exact P5
      obtain⟨dm,Pk,AdO,vM⟩:∃dm:Nat,min (IntKind.u64.wrap ((d0:Int)/(T:Int))) 999999999=(dm:Int)/\t/Y<=dm/\dm<1000000000:=by
       have e1:(d0:Int)/(T:Int)=((d0/T:Nat):Int):=(by simp);refine⟨min (d0/T) 999999999,?_,?_,?_⟩
       ·have h1:d0/T<=d0:=Nat.div_le_self _ _;rw [e1,IntKind.wrap_u64];generalize d0/T=q at *;omega
       ·omega
       ·omega
      have Afi:=SG.trans hx3;have JE:=iY Y dm vM (by rw [←MY.out];omega) _ _ (cY _ Afi);have xX:∀W,Aa w2 W→Rd W (.slice (some ⟨b2,o2,none⟩) N c2) (pc 1000000000 t):=fun W hW=>⟨_,_,by rw [HN.out],hr2.ext hW⟩;(go_wp2_with fail);(with_reducible refine JE.mono ?_);rintro e w4 ⟨vp,rfl,hvp,Ai,hfp⟩;clear hfp Pk;have AdZ:=Ai.cellS AdY;have VV:=hx3.trans Ai;have zF:=SG.trans VV;go_wp2
      go_loopw [12,13] (fun d p wr=>∃dn:Nat,d=.int .u64 (dn:Nat)/\t/Y<=dn/\dn<1000000000/\Rd wr p (pc 1000000000 (dn*Y))/\Aa w4 wr) (fun d _ _=>(intOf d).toNat)
      case atStart=>exact⟨dm,rfl,AdO,vM,by rw [Nat.mul_comm];exact hvp,Aa.refl _⟩
      case round=>
       obtain⟨dn,rfl,Vn,Et,hp,Ad⟩:=hrel;have Ck:=PT (pc 1000000000 (dn*Y)) (pc 1000000000 t) _ _ wr hp (xX wr (VV.trans Ad)) (Bd b9 _) (Bd b9 t) (Ge b9 _) (Ge b9 t);rw [AS b9,AS b9]at Ck;clear JE AdC AdD;by_cases Eu:t<dn*Y
       ·rw [Ks Eu]at Ck;(go_wp2_with fail);(with_reducible refine Ck.mono ?_);rintro e w5 ⟨rfl,AC⟩;have AlP:=(Ad.trans AC).cellS AdZ;have hdY:dn*Y<=1000000000*Y:=Nat.mul_le_mul_right _ (by omega)
        have Vm:0<dn:=by
         rcases Nat.eq_zero_or_pos dn with h|h
         ·rw [h]at Eu;omega
         ·exact h
        have tR:Y<=dn*Y:=Nat.le_mul_of_pos_left _ Vm
        have hlp:(pc 1000000000 (dn*Y)).length<=M+1:=by refine Oe b9 ?_;have h1:=Ih (Bd b9 Y);rw [AS b9,←MY.out]at h1;rw [Nat.pow_succ,Nat.mul_comm];exact Nat.mul_lt_mul'' h1 Et
        have Ss:=SU (pc 1000000000 (dn*Y)) (pc 1000000000 Y) _ _ w5 (hp.ext AC) (cY _ (zF.trans (Ad.trans AC))) (by omega) (Bd b9 _) (Bd b9 Y) (Tk tR) (by rw [AS b9,AS b9];exact tR);rw [AS b9,AS b9]at Ss;(go_wp2_with fail);(with_reducible refine Ss.mono ?_);rintro e w6 ⟨p2,rfl,KT,AG⟩
        have hdq:t/Y<=dn-1:=by have:t/Y<dn:=(by rw [Nat.div_lt_iff_lt_mul Mj];exact Eu);omega
        go_wp2;go_roundw
        case rel=>exact⟨dn-1,by go_num,hdq,by omega,by rw [Nat.sub_mul,Nat.one_mul];exact KT,Ad.trans (AC.trans AG)⟩
        case measure=>simp [intOf];omega
       ·have GQ:dn=t/Y:=by have h:dn<=t/Y:=(by rw [Nat.le_div_iff_mul_le Mj];omega);omega
        obtain⟨s5,hs5,Amt⟩:∃s5:Int,s5=D9 (dn*Y) t/\¬s5>0:=by
         rcases Nat.lt_or_eq_of_le (Nat.le_of_not_lt Eu)with h|h
         ·exact⟨_,rfl,by rw [LR h];omega⟩
         ·exact⟨_,rfl,by rw [OK h];omega⟩
        rw [←hs5]at Ck;have TJ:=AmU GQ;clear hs5 GQ;(go_wp2_with fail);(with_reducible refine Ck.mono ?_);rintro e w5 ⟨rfl,AC⟩;have dQ:=Ad.trans AC;have zG:=zF.trans dQ;have Aeb:=zG.cellS (cell_of_one VB);have wS:dn*Y<=t:=Nat.le_of_not_lt Eu;have Ss:=dw (pc 1000000000 t) (pc 1000000000 (dn*Y)) _ _ w5.drew ((xX _ (VV.trans dQ)).ext (Aa.refl w5).drew) ((hp.ext AC).ext (Aa.refl w5).drew) (by rw [←HN.out];omega) (Bd b9 t) (Bd b9 _) (Tk wS) (by rw [AS b9,AS b9];exact wS);rw [AS b9,AS b9]at Ss;have xJ:=AH hown2 (VV.trans dQ);have IW:vs.length=xs.length:=HLEN.out;have lC:=AmU IW
        go_upto_region 29 with fail
        clear IW;refine wp_region_noPanic ?_
        go_region_with (go_at_call 335;((with_reducible refine Ss.mono ?_);rintro e w6 ⟨v6,rfl,⟨A6,c6,rfl,Ex⟩,AG,aM⟩;have tq:=AmU aM;clear aM;have AlQ:=AG.cellS (show w5.drew.cell? ⟨w.heap.size+1,0,none⟩=_ from Aeb);have cJ:=AH (WG xJ) AG;have hgo:w6.cell? ⟨wb.heap.size,j,none⟩=some (.int .u64 (Ah vs j:Nat)):=(by rw [cJ.cellAt j (by omega)];simp [AZ,Ah,lC.out,Vy]);have Vr:=cJ.frozenAt j))
        all_goals refine NoPanic.normal ?_
        all_goals go_wp2
        all_goals
         go_roundw
         case rel=>
          have Aeq:wb.heap.size<w5.heap.size:=World.block_lt_of_cell? w5 ⟨wb.heap.size,j,none⟩ (u:=.int .u64 (Ah vs j:Nat)) (by rw [xJ.cellAt j (by omega)];simp [AZ,Ah,lC.out,Vy]);obtain rfl:=TJ.out;have yR:=(cJ.stored j (.int .u64 ((t/Y:Nat):Int))).1;rw [Xf]at yR;rw [show t-t/Y*Y=t%Y by rw [Nat.mod_eq_sub_mul_div,Nat.mul_comm]]at Ex ⊢;refine⟨j,vs.set j (t/Y),t%Y,_,by go_num,rfl,hst,fun i hi=>?_,⟨A6,c6,rfl,Ex.setOther _ (fun b o _ hb=>?_)⟩,yR,?_⟩
          ·have h:=JH i (by omega);simp only [Ah,List.getD_eq_getElem?_getD,List.getElem?_set_ne (show j≠i by omega)]at h ⊢;exact h
          ·have h:w5.heap.size<=b:=tq.out b (by rw [hb];rfl);show b≠wb.heap.size;omega
          ·exact((zG.drew).trans AG).setCell (by show wb.heap.size<=wb.heap.size;omega) _
         case measure=>simp [intOf]
   ·obtain rfl:k=0:=(by omega);obtain rfl:z = -1:=(by omega);obtain⟨hq,hr⟩:=hI.done;rw [xl.out,AS b9]at hq hr;rw [HX.out,HY.out,Nat.mul_div_mul_right _ _ hf0]at hq;rw [HX.out,HY.out,Nat.mul_mod_mul_right]at hr;have yD:rn/f=x%y:=(by rw [hr,Nat.mul_div_cancel _ hf0]);have wW:=hI.lt;have HQ:=AmU hq;have Na:=AmU yD;clear hz hq hr yD JH;have Se:=Ac.cellS (cell_of_one VB)
    have S3:BG wr (some ⟨wb.heap.size,0,none⟩) xs.length vs:=by obtain⟨A',c',e1,h1⟩:=Rd.of_own (base:=wb.heap.size) (l:=vs) (by rw [hI.len];exact hown) (by rw [hI.len];omega);simp only [Value.slice.injEq]at e1;obtain⟨rfl,_,rfl⟩:=e1;exact h1
    have JC:BG (wr.alloc (.cells #[.int .u64 (f:Nat)] 195)) (some ⟨wr.heap.size,0,none⟩) 1 (pc 1000000000 f):=by
     have h:BG (wr.alloc (.cells #[.int .u64 (f:Nat)] 195)) (some ⟨wr.heap.size,0,none⟩) 1 [f]:=
      ⟨by simp,by omega,by simp,fun _=>⟨wr.heap.size,0,rfl,fun j hj=>by
       obtain rfl:j=0:=by simpa using hj
       rw [World.cell?_alloc_at _ _ _ _ (by rfl)];simp [Ah]⟩⟩
     rw [gI b9 hf0 Po];exact h
    have RV:=pU rn f hf0 Po _ _ _ (Dy.ext ((Aa.refl wr).alloc _)) ⟨_,_,rfl,JC⟩;rw [gI b9 hf0 Po]at RV;simp only [List.length_singleton]at RV;simp only [←tu.out]at RV;(go_wp2_with fail);(with_reducible refine RV.mono ?_);rintro e w7 ⟨vq,vr,rfl,dO,VU,AG⟩;clear VU RV;have VW:=((Aa.refl wr).alloc (.cells #[.int .u64 (1000000000/(tp+1))] 195)).trans AG;have bD:=VW.cellS Se;have yG:=S3.ext VW;have AlO:=free_of_one ((VW.block _ (by have:=Ac.size;omega)).trans ((Ac.block _ FY).trans VB));have ht:=Qo vs _ _ w7 yG wW;rw [hI.len]at ht;(go_wp2_with fail);(with_reducible refine ht.mono ?_);rintro e w8 ⟨rfl,rfl⟩;go_wp2;refine bodyPost_ret (v:=.tuple #[.slice (some ⟨wb.heap.size,0,none⟩) (pc 1000000000 (Ag 1000000000 vs)).length xs.length,vq]) (by simp [results,Tryz.results278,go_sem,bD]) rfl ?_;refine⟨_,_,rfl,⟨_,_,by rw [HQ.out],?_⟩,?_,?_⟩
    ·rw [←HQ.out];exact(yG.pc wW).setCell bD (by simp)
    ·rw [←Na.out];exact dO.setCell bD (by simp)
    ·exact((hxb.trans Ac).trans VW).setCell (by show w.heap.size<=w.heap.size+1;omega) _
theorem U2(x y:Nat)(hy:0<y)(hlx:(pc 1000000000 x).length<39000)(u v:Value)(w:World)(hu:Rd w u (pc 1000000000 x))(hv:Rd w v (pc 1000000000 y)) :
  Calls Tryz.prog 278 #[u,v] w (O8 (x/y) (x%y) w):=by
 rcases Nat.lt_or_ge x y with h|h
 ·rw [Nat.div_eq_of_lt h,Nat.mod_eq_of_lt h];exact pT x y h u v w hu hv
 ·rcases Nat.lt_or_ge y 1000000000 with h2|h2
  ·exact pU x y hy h2 u v w hu hv
  ·exact AbM x y h h2 hlx u v w hu hv
end Go.Proofs.YtbejphgbbpplbaaGreatDoor
namespace Go.Proofs.YtbejphgbbpplbaaGreatDoor
open Go.RowKit Kl
theorem AhN{n k:Nat}(h:n<10^(9*k)):(pc 1000000000 n).length<=k:=by
 refine Oe b9 ?_;rw [Nat.pow_mul]at h;exact h
theorem Agx{x a b:Nat}(h:x<10^a)(hab:a<=b):x<10^b:=Anh h (Nat.pow_le_pow_right (by omega) hab)
theorem AB.pc{z:Int}(h:AB z):(pc 1000000000 z.natAbs).length<=445:=by
 obtain⟨m,hm⟩:=AmT (445);rw [←hm];exact AhN (Agx h (show Un<=9*m by rw [hm];decide))
theorem LQ(m:Bool)(x:Nat):Ej m x=I (if m then -(x:Int)else x):=by
 unfold Ej;by_cases h:x=0
 ·subst h;rw [if_pos rfl];cases m<;>simp [Q9]
 ·rw [if_neg h]
  cases m
  ·rw [if_neg (by simp),if_neg (by simp),DU]
  ·rw [if_pos rfl,if_pos rfl,TV x (by omega)]
theorem Lp{z:Int}{k:Nat}(h:(I z).length<=k):Og z k=.tuple #[.int .i64 z,.bool true]:=if_pos h
theorem Qe{z:Int}{k:Nat}(h:¬(I z).length<=k):Og z k=.tuple #[.int .i64 0,.bool false]:=if_neg h
theorem WM(z:Int)(w:World):Calls Tryz.prog 223 #[S (I z),.int .i64 9] w (CU (Og z 9) w):=j7 z 9 (by omega) w
theorem MM(z:Int)(w:World):Calls Tryz.prog 223 #[S (I z),.int .i64 18] w (CU (Og z 18) w):=j7 z 18 (by omega) w
theorem MQ{z:Int}{k:Nat}(h:(I z).length<=k):z.natAbs<10^k:=by
 rcases DT z with⟨n,rfl,e⟩|⟨n,hn,rfl,e⟩
 ·rw [e]at h;simpa using Lh (n:=n) (k:=k) (by omega)
 ·rw [e,List.length_cons]at h;simpa using Lh (n:=n) (k:=k) (by omega)
theorem MS{x y:Int}(hx:x.natAbs<1000000000)(hy:y.natAbs<1000000000):IntKind.i64.wrap (x*y)=x*y:=by
 have h:=SX hx hy;rw [←Int.natAbs_mul]at h;exact Ane _ (by omega)
theorem AgL{x y:Int}(hx:x.natAbs<1000000000)(hy:y.natAbs<1000000000):-9223372036854775808<=x*y/\x*y<=9223372036854775807:=by
 have h:=SX hx hy;rw [←Int.natAbs_mul]at h;omega
theorem AgM(x y:Int):x*y=if (decide (x<0) != decide (y<0))=true then -((x.natAbs*y.natAbs:Nat):Int)else ((x.natAbs*y.natAbs:Nat):Int):=by
 rw [←Int.natAbs_mul];by_cases hx:x<0<;>by_cases hy:y<0<;>simp [hx,hy]
 ·have:=Int.mul_nonneg_of_nonpos_of_nonpos (Int.le_of_lt hx) (Int.le_of_lt hy);omega
 ·have:=Int.mul_nonpos_of_nonpos_of_nonneg (Int.le_of_lt hx) (show 0<=y by omega);omega
 ·have:=Int.mul_nonpos_of_nonneg_of_nonpos (show 0<=x by omega) (Int.le_of_lt hy);omega
 ·have:=Int.mul_nonneg (show 0<=x by omega) (show 0<=y by omega);omega
theorem Afv(x y:Int)(hx:(I x).length<=9)(hy:(I y).length<=9)(w:World)(hw:An w) :
  Calls Tryz.prog 145 #[S (I x),S (I y)] w (Bc (I (x*y)) w):=by
 have q1:=WM x;have q2:=WM y;rw [Lp hx]at q1;rw [Lp hy]at q2;have b1:=MQ hx;have b2:=MQ hy;have hwr:=MS b1 b2;have hin:=AgL b1 b2;have ho:=fun W hW=>dX (x*y) hin.1 hin.2 W hW;clear hx hy b1 b2 hin;go_enter Tryz.func145,Tryz.ntmps145;(go_wp2_with fail);(with_reducible refine(q1 _).mono ?_);rintro e w1 ⟨rfl,hx1⟩;(go_wp2_with fail);(with_reducible refine(q2 _).mono ?_);rintro e w2 ⟨rfl,hx2⟩;have Ca:=hx1.trans hx2;(go_wp2_with fail);(with_reducible refine(ho _ (hw.ext Ca)).mono ?_);rintro e w3 ⟨rfl,hx3⟩;go_wp2;go_ret;exact⟨rfl,Ca.trans hx3⟩
theorem Ab{W:World}{b o:Nat}{cs:Array Value}{t:TypeId}{fz:Nat×Nat}{v:Value}(h:W.heap[b]?=some (.cells cs t fz))(hv:cs[o]?=some v):W.cell? ⟨b,o,none⟩=some v:=by
 unfold World.cell?;simp [h,hv]
theorem LM(w:World)(a b c d:Value)(s t:TypeId):∃W,W=(w.alloc (.cells #[a,b] s)).alloc (.cells #[c,d] t)/\Aa w W/\W.heap[w.heap.size]?=some (.cells #[a,b] s)/\W.heap[w.heap.size+1]?=some (.cells #[c,d] t):=by
 refine⟨_,rfl,((Aa.refl _).alloc _).alloc _,(Below.heap_alloc _ _ _ (by simp)).trans (AmW w _),?_⟩;have h:=AmW (w.alloc (.cells #[a,b] s)) (.cells #[c,d] t)
 rwa [Anf]at h
theorem Afu(x y:Int)(hx:AB x)(hy:AB y)(hn:¬((I x).length<=9/\(I y).length<=9))(w:World)(hw:An w) :
  Calls Tryz.prog 145 #[S (I x),S (I y)] w (Bc (I (x*y)) w):=by
 have q1:=WM x;have q2:=WM y;have lx:=hx.pc;have ly:=hy.pc;have o1:=fS x hx;have o2:=fS y hy;have HS:Hid (x*y=if (!(decide (x<0) == decide (y<0)))=true then -((x.natAbs*y.natAbs:Nat):Int)else ((x.natAbs*y.natAbs:Nat):Int)):=AmU (AgM x y);clear hx hy;by_cases h1:(I x).length<=9
 case' pos=>rw [Lp h1]at q1;rw [Qe fun h=>hn ⟨h1,h⟩]at q2;clear h1 hn;go_enter Tryz.func145,Tryz.ntmps145;(go_wp2_with fail);(with_reducible refine(q1 _).mono ?_);rintro e w1 ⟨rfl,hx1⟩;(go_wp2_with fail);(with_reducible refine(q2 _).mono ?_);rintro e w2 ⟨rfl,hx2⟩;have hx:=hx1.trans hx2;clear hx1 hx2;(go_wp2_with fail)
 case' neg=>rw [Qe h1]at q1;clear h1 hn;go_enter Tryz.func145,Tryz.ntmps145;(go_wp2_with fail);(with_reducible refine(q1 _).mono ?_);rintro e w2 ⟨rfl,hx⟩;(go_wp2_with fail)
 all_goals
  clear q1 q2;(with_reducible refine(o1 _).mono ?_);rintro e w3 ⟨v3,rfl,⟨A3,c3,rfl,hv3⟩,hx3⟩;(go_wp2_with fail);(with_reducible refine(o2 _).mono ?_);rintro e w4 ⟨v4,rfl,⟨A4,c4,rfl,hv4⟩,Ai⟩;have hx:=(hx.trans hx3).trans Ai;have hv3:=hv3.ext Ai;clear o1 o2 hx3 Ai;(go_wp2_with fail);obtain⟨W,hW,hE,hb1,hb2⟩:=LM w4 (.bool (decide (x<0))) (.slice A3 (pc 1000000000 x.natAbs).length c3) (.bool (decide (y<0))) (.slice A4 (pc 1000000000 y.natAbs).length c4) 280 280;rw [←hW];have hv3:=hv3.ext hE.drew;have hv4:=hv4.ext hE.drew;have Bg:=hx.trans hE;have k1:W.cell? ⟨w4.heap.size,0,none⟩=some (.bool (decide (x<0))):=Ab hb1 rfl;have k2:W.cell? ⟨w4.heap.size,1,none⟩=some (.slice A3 (pc 1000000000 x.natAbs).length c3):=Ab hb1 rfl;have k3:W.cell? ⟨w4.heap.size+1,0,none⟩=some (.bool (decide (y<0))):=Ab hb2 rfl;have k4:W.cell? ⟨w4.heap.size+1,1,none⟩=some (.slice A4 (pc 1000000000 y.natAbs).length c4):=Ab hb2 rfl;clear hW hb1 hb2 hE hx;have ht:=Ake (pc 1000000000 x.natAbs) (pc 1000000000 y.natAbs) _ _ W.drew ⟨_,_,rfl,hv3⟩ ⟨_,_,rfl,hv4⟩ (by omega) (by omega) (Bd b9 _) (Bd b9 _);rw [AS b9,AS b9]at ht;have hc:=fun W2 (A5:Option Addr) (c5:Nat) (h:Aa W.drew W2) (h2:BG W2 A5 c5 (pc 1000000000 (x.natAbs*y.natAbs)))=>EO (!(decide (x<0) == decide (y<0))) (x.natAbs*y.natAbs) (.slice A5 (pc 1000000000 (x.natAbs*y.natAbs)).length c5) W2 (hw.ext (Bg.drew.trans h)) ⟨A5,c5,rfl,h2⟩;rw [LQ,←HS.out]at hc
  go_region_held3 (fun w'=>w'.cell? ⟨w4.heap.size,0,none⟩=some (.bool (decide (x<0)))/\w'.cell? ⟨w4.heap.size,1,none⟩=some (.slice A3 (pc 1000000000 x.natAbs).length c3)/\w'.cell? ⟨w4.heap.size+1,0,none⟩=some (.bool (decide (y<0)))/\w'.cell? ⟨w4.heap.size+1,1,none⟩=some (.slice A4 (pc 1000000000 y.natAbs).length c4))
   (first|go_keep|exact⟨Ad.cellS k1,Ad.cellS k2,Ad.cellS k3,Ad.cellS k4⟩|exact⟨(Ad.trans AC).cellS k1,(Ad.trans AC).cellS k2,(Ad.trans AC).cellS k3,(Ad.trans AC).cellS k4⟩)
   (first|((with_reducible refine ht.mono ?_);rintro e w5 ⟨v5,rfl,⟨A5,c5,rfl,hv5⟩,Ad⟩)|((with_reducible refine(hc _ _ _ Ad hv5).mono ?_);rintro e w6 ⟨rfl,AC⟩))
  go_wp2;go_ret;exact⟨rfl,(Bg.drew.trans Ad).trans AC⟩
theorem G0(x y:Int)(hx:AB x)(hy:AB y)(w:World)(hw:An w):Calls Tryz.prog 145 #[S (I x),S (I y)] w (Bc (I (x*y)) w):=by
 by_cases h:(I x).length<=9/\(I y).length<=9
 ·exact Afv x y h.1 h.2 w hw
 ·exact Afu x y hx hy h w hw
end Go.Proofs.YtbejphgbbpplbaaGreatDoor
