/- Y16: Div1 Div2. -/
import Derived.Test.YtjalkoacphhgdaaGreatDoorY15
import Derived.Deep.RegionHeld3
set_option maxRecDepth 100000
set_option maxHeartbeats 4000000
namespace Go.Proofs.YtjalkoacphhgdaaGreatDoor
open Go.RowKit Kl Go.Shelf
section
attribute [local go_sem] Oper.semAt_some
def O6(q r:Nat)(w:World)(e:Ending)(w':World):Prop:=
 ∃vq vr,e=.returned (.tuple #[vq,vr])/\Rd w' vq (pc 1000000000 q)/\Rd w' vr (pc 1000000000 r)/\Aa w w'
theorem Rd.nil(w:World):Rd w (.slice none 0 0) []:=⟨none,0,rfl,by simp,by omega,by simp,fun h=>by simp at h⟩
theorem b9:(2:Nat)<=1000000000:=by omega
theorem oR(x y:Nat)(dG:x<y)(u v:Value)(w:World)(hu:Rd w u (pc 1000000000 x))(hv:Rd w v (pc 1000000000 y)) :
  Calls Tryz.prog 278 #[u,v] w (O6 0 x w):=by
 have IQ:=fun W hu hv=>PR (pc 1000000000 x) (pc 1000000000 y) u v W hu hv (Be b9 x) (Be b9 y) (FY b9 x) (FY b9 y);rw [AU b9,AU b9,LU dG]at IQ;have hx1:=((Aa.refl w).alloc (.cells #[v] 278)).alloc (.cells #[.slice none 0 0] 278);have ho:=IQ _ (hu.ext hx1) (hv.ext hx1);have NV:=hu;have dA:=hv;obtain⟨A,ca,e1,Cp⟩:=NV;obtain⟨B,cb,e2,BR⟩:=dA;clear IQ;rw [e1,e2]at ho;subst e1 e2;go_enter Tryz.func278,Tryz.ntmps278;(go_wp2_with fail);(with_reducible refine ho.mono ?_);rintro e w1 ⟨rfl,hx2⟩;obtain⟨hc2,hf2⟩:=hx2.cells;go_wp2;refine bodyPost_ret (v:=.tuple #[.slice none 0 0,.slice A (pc 1000000000 x).length ca]) (by simp [results,Tryz.results278,go_sem,hc2]) rfl ?_;have e0:=hc2 (w.heap.size+1) 0 (by simp);rw [World.cell?_alloc_at _ _ _ _ (by simp)]at e0;exact⟨_,_,rfl,by rw [Ij];exact Rd.nil _,⟨A,ca,rfl,((Cp.ext hx1).ext hx2).setCell e0 (by simp)⟩,(hx1.trans hx2).setCell (by show w.heap.size<=w.heap.size+1;omega) _⟩
/-! ### One piece -/
structure Iv(a qs:List Nat)(y i r:Nat):Prop where
 len:qs.length=a.length
 lt:∀x∈qs,x<1000000000
 le:i<=a.length
 rl:r<y
 sum:Ag 1000000000 (qs.drop i)*y+r=Ag 1000000000 (a.drop i)
theorem Iv.start{a:List Nat}{y:Nat}(hy:0<y):Iv a (List.replicate a.length 0) y a.length 0:=
 ⟨by simp,by intro x hx;rw [List.mem_replicate]at hx;omega,AmC _,hy,by simp [Ag]⟩
theorem Iv.step{a qs:List Nat}{y i r t:Nat}(h:Iv a qs y (i+1) r)(hy:0<y)(ha:∀x∈a,x<1000000000)(ht:t=r*1000000000+Ah a i) :
  Iv a (qs.set i (t/y)) y i (t%y):=by
 have hi:i<a.length:=h.le;have hai:=Cf ha hi
 have hq:t/y<1000000000:=by rw [Nat.div_lt_iff_lt_mul hy];have h1:r+1<=y:=h.rl;have:(r+1)*1000000000<=y*1000000000:=Nat.mul_le_mul_right _ h1;omega
 refine⟨by rw [List.length_set,h.len],Wc h.lt hq,by omega,Nat.mod_lt _ hy,?_⟩
 have e1:(qs.set i (t/y)).drop i=t/y::qs.drop (i+1):=by rw [LW (by rw [List.length_set,h.len];exact hi),List.drop_set_of_lt (by omega)];simp [Ah,h.len,hi]
 rw [e1,LW hi];simp only [Ag];have hs:=h.sum;have hm:=Nat.div_add_mod t y;generalize Ag 1000000000 (qs.drop (i+1))=Q at *;generalize Ag 1000000000 (a.drop (i+1))=V at *;generalize t/y=d at *;generalize t%y=m at *;have e2:(d+1000000000*Q)*y=y*d+1000000000*(Q*y):=(by rw [Nat.add_mul,Nat.mul_comm d y,Nat.mul_assoc]);rw [e2];omega
theorem Iv.done{a qs:List Nat}{y r:Nat}(h:Iv a qs y 0 r):Ag 1000000000 qs=Ag 1000000000 a/y/\r=Ag 1000000000 a%y:=by
 have hs:=h.sum;have hr:=h.rl;rw [List.drop_zero,List.drop_zero]at hs;rw [←hs,Nat.mul_comm];exact⟨by rw [Nat.mul_add_div (by omega),Nat.div_eq_of_lt hr,Nat.add_zero],by rw [Nat.mul_add_mod,Nat.mod_eq_of_lt hr]⟩
abbrev Oo(n:Nat):={p:Nat×Nat // p.2<1000000000/\p.1<n}
theorem AaZ(zs:List Nat)(h0:0<zs.length)(hz:∀x∈zs,x<1000000000):∃g:Nat→Oo zs.length,∀k,k<zs.length→(g k).1=Ej zs k:=
 ⟨fun k=>if h:k<zs.length then ⟨Ej zs k,Cf hz (by omega),by simp only [Ej];omega⟩else ⟨(0,0),by omega,h0⟩,fun k hk=>by simp [hk]⟩
def D1(w:World)(zs:List Nat)(y:Nat)(g:Nat→Oo zs.length)(qb bb ob cb xb:Nat)(pre:List (Oo zs.length))(W:World):Prop:=
 ∃(vs:List Nat) (r:Nat),vs.length=zs.length/\W.ownsRow qb 184 1 (.slice (some ⟨qb,0,none⟩) zs.length zs.length) zs.length (Bd vs)
  /\W.heap[qb+1]?=some (.cells #[.int .u64 (r:Nat)] 184 (0,0))
  /\W.cell? ⟨w.heap.size,0,none⟩=some (.slice (some ⟨bb,ob,none⟩) 1 cb)
  /\W.heap[w.heap.size+1]?=some (.cells #[.slice (some ⟨qb,0,none⟩) zs.length zs.length] 278 (0,0))
  /\W.cell? ⟨bb,ob,none⟩=some (.int .u64 (y:Nat))
  /\(∃x,W.heap[xb]?=some (.cells x 278 (0,0)))
  /\Aa w W
  /\∀k,k<=zs.length→pre=upto g k→Iv zs vs y (zs.length-k) r
theorem BE.putObj{w:World}{A:Option Addr}{c D:Nat}{l:List Nat}{o:Obj}(h:BE w A c l)(hD:w.heap[D]?=some o)(ho:o.isCells=false)(o':Obj):BE (w.putObj D o') A c l:=
 ⟨h.cap,h.max,h.len,fun h0=>by
  obtain⟨b,o1,e,hc⟩:=h.ad h0
  exact⟨b,o1,e,fun j hj=>cell_kept (hc j hj) (grownBy_putObj' w D o') (fun r e=>by cases e;exact⟨o,hD,ho⟩)⟩⟩
theorem AaY(r x y:Nat)(hy:y<1000000000)(hx:x<1000000000):∃t:Nat,IntKind.u64.wrap (IntKind.u64.wrap ((r:Int)*1000000000)+(x:Int))=(t:Int)/\(r<y→t=r*1000000000+x)/\IntKind.u64.wrap ((t:Int)/(y:Int))=((t/y:Nat):Int):=by
 refine⟨(r*1000000000%18446744073709551616+x)%18446744073709551616,?_,fun h=>by omega,?_⟩
 ·simp only [IntKind.wrap_u64];omega
 ·simp only [IntKind.wrap_u64];generalize hm:(r*1000000000%18446744073709551616+x)%18446744073709551616=m;have h1:m/y<=m:=Nat.div_le_self _ _;have h2:(m:Int)/(y:Int)=((m/y:Nat):Int):=(by simp);have h3:m<18446744073709551616:=(by omega);rw [h2];generalize m/y=q at *;omega
theorem Abm(x y:Nat)(VN:y<=x)(Bj:0<y)(SD:y<1000000000)(u v:Value)(w:World)(hu:Rd w u (pc 1000000000 x))(hv:Rd w v (pc 1000000000 y)) :
  Calls Tryz.prog 278 #[u,v] w (O6 (x/y) (x%y) w):=by
 have IQ:=fun W hu hv=>PR (pc 1000000000 x) (pc 1000000000 y) u v W hu hv (Be b9 x) (Be b9 y) (FY b9 x) (FY b9 y)
 obtain⟨s,hs,hs0⟩:∃s:Int,s=D6 x y/\¬s<0:=by
  rcases Nat.lt_or_eq_of_le VN with h|h
  ·exact⟨_,rfl,by rw [Kq h];omega⟩
  ·exact⟨_,rfl,by rw [OI h.symm];omega⟩
 rw [AU b9,AU b9,←hs]at IQ;clear hs;have hx1:=((Aa.refl w).alloc (.cells #[v] 278)).alloc (.cells #[.slice none 0 0] 278);have ho:=IQ _ (hu.ext hx1) (hv.ext hx1);obtain⟨zs,hzs⟩:=Am8 (pc 1000000000 x);have hlt:∀x∈zs,x<1000000000:=(by rw [hzs];exact Be b9 x);rw [←hzs]at hu
 have MG:0<zs.length:=by rw [List.length_pos_iff,hzs];intro e;have:=(PV b9).1 e;omega
 rw [fN b9 Bj SD]at hv;have HZ:=Am9 hzs;clear hzs IQ;have AP:=hu;obtain⟨A,ca,e1,Cp⟩:=hu;obtain⟨B,cb,e2,BR⟩:=hv;have Es:=Cp.len;obtain⟨bb,ob,rfl,hcb⟩:=BR.ad (by simp);have Dg:=hcb 0 (by simp);simp only [List.length_singleton]at e2;have Dg:w.cell? ⟨bb,ob,none⟩=some (.int .u64 (y:Nat)):=(by simpa [Ah]using Dg);have Cw:=BR.cap;have hmax:=BR.max;simp only [List.length_singleton]at Cw;have hmk:=eF zs.length (by omega) (zs.length:Int) rfl;rw [e1,e2]at ho;rw [e2]at hx1;subst e1 e2;refine(callsIn_wide (n:=4)).1 ?_;refine callsIn_of_wp_marks Tryz.func278 rfl trivial ?_ rfl;simp only [Tryz.ntmps278,List.size_toArray,List.length_cons,List.length_nil,Nat.reduceAdd,Nat.reduceSub,Array.replicate_succ,Array.replicate_zero,List.push_toArray,List.append_toArray,List.nil_append,List.cons_append];gi_wp2;refine⟨trivial,?_⟩;refine(callsIn_wide.2 ho).mono ?_;rintro e w1 ⟨rfl,hx2⟩;obtain⟨hc2,hf2⟩:=hx2.cells;have NT:=hx2.size;simp only [AmJ]at NT;have Aeu:w.heap.size<w1.heap.size:=(by omega);have AlW:w.heap.size+1<w1.heap.size:=(by omega);gi_wp2;obtain⟨W2,hW2⟩:=Am8 (((w1.setCell ⟨w.heap.size+1,0,none⟩ (.slice (some ⟨w1.heap.size,0,none⟩) zs.length zs.length)).alloc (.cells (madeCells #[.int .u64 0] zs.length) 184)).alloc (.cells #[.int .u64 0] 184));rw [←hW2];have hn:zs.length<=200000:=by omega
 have k3:W2.cell? ⟨w.heap.size,0,none⟩=some (.slice (some ⟨bb,ob,none⟩) 1 cb):=by
  have h:=hc2 (w.heap.size) 0 (by simp;omega);rw [hW2]
  go_simp
 have k4:W2.cell? ⟨w.heap.size+1,0,none⟩=some (.slice (some ⟨w1.heap.size,0,none⟩) zs.length zs.length):=by
  have h:=hc2 (w.heap.size+1) 0 (by simp);have h2:=hf2 (w.heap.size+1) 0;rw [hW2]
  go_simp
 have k4b:W2.heap[w.heap.size+1]?=some (.cells #[.slice (some ⟨w1.heap.size,0,none⟩) zs.length zs.length] 278 (0,0)):=by have h1:=hx2.block (w.heap.size+1) (by simp);have h2:=AmB (w.alloc (.cells #[.slice (some ⟨bb,ob,none⟩) 1 cb] 278)) (.cells #[.slice none 0 0] 278);rw [AmJ]at h2;have h3:=one_setCell (u:=.slice (some ⟨w1.heap.size,0,none⟩) zs.length zs.length) (h1.trans h2);rw [hW2,Below.heap_alloc _ _ _ (by simp;omega),Below.heap_alloc _ _ _ (by simp;omega)];exact h3
 have k6:W2.heap[w1.heap.size+1]?=some (.cells #[.int .u64 0] 184 (0,0)):=by
  rw [hW2];have h:=AmB ((w1.setCell ⟨w.heap.size+1,0,none⟩ (.slice (some ⟨w1.heap.size,0,none⟩) zs.length zs.length)).alloc (.cells (madeCells #[.int .u64 0] zs.length) 184)) (.cells #[.int .u64 0] 184)
  simpa using h
 have Adt:W2.cell? ⟨bb,ob,none⟩=some (.int .u64 (y:Nat)):=by
  have hb:=World.block_lt_of_cell? w _ Dg;have h1:w1.cell? ⟨bb,ob,none⟩=some (.int .u64 (y:Nat)):=((((Aa.refl w).alloc _).alloc _).trans hx2).cellS Dg;have h2:bb≠w.heap.size+1:=(by have:bb<w.heap.size:=hb;omega);have h3:bb<w1.heap.size:=(by have:bb<w.heap.size:=hb;omega);rw [hW2]
  go_simp
 have xT:W2.heap.size=w1.heap.size+2:=by rw [hW2];simp
 have Bi:Aa w W2:=by rw [hW2];exact((((Aa.refl w).alloc _).alloc _).trans hx2 |>.setCell (by show w.heap.size<=w.heap.size+1;omega) _).alloc _ |>.alloc _
 have ho2:W2.ownsRow w1.heap.size 184 1 (.slice (some ⟨w1.heap.size,0,none⟩) zs.length zs.length) zs.length (Bd (List.replicate zs.length 0)):=by rw [hW2];have h:=fJ (w1.setCell ⟨w.heap.size+1,0,none⟩ (.slice (some ⟨w1.heap.size,0,none⟩) zs.length zs.length)) w1.heap.size zs.length (by simp) hn;rw [World.size_setCell]at h;exact h.alloc _
 have Jp:=Am9 xT;have Amc:w1.heap.size+2<=W2.heap.size:=(by omega);clear hW2 hc2 hf2 hmk hcb xT;obtain⟨g,hg⟩:∃g:Nat→Oo zs.length,∀k,k<zs.length→(g k).1=Ej zs k:=AaZ zs MG hlt;refine⟨trivial,?_⟩;refine(Yn Fence.wide 3 trivial rfl _ _ ⟨_,_,_,rfl⟩).mono ?_;rintro e W3 ⟨rfl,rfl⟩;gi_wp2
 refine wpIn_rangeFunc_ownG rfl (by omega) (gf:=340) (lb:=#[.pointer (some ⟨W2.heap.size,0,none⟩)]) rfl trivial (enters_of Tryz.func340 (by kernel_rfl) rfl)
  (Yo (fun p:Oo zs.length=>p.1.1) (fun p:Oo zs.length=>p.1.2) Fence.wide 3 trivial rfl (by omega) W2.heap.size w.heap.size _ zs g (fun k hk=>by have:=hg k hk;simpa using this) (W2.alloc (.cells #[.slice A zs.length ca] 278)) (by simp) (by simp;omega) (by simp) ⟨w,AP,AmC _,Bi.alloc _⟩)
  (fun h k=>h.trans k) (BA.put (by simp;omega) (by simp)) (Below.refl _ _) (fun _=>rfl)
  (D1 w zs y g w1.heap.size bb ob cb W2.heap.size)
  (fun _ _ _=>False) ?hI (fun _ _ _ _ _ hs _ _=>hs) ?h0 ?a1 ?assign ?body ?done ?stop
 case a1=>exact fun x=>{tmps:=#[.slice A zs.length ca,.slice (some ⟨bb,ob,none⟩) 1 cb,undef,.pointer (some ⟨w.heap.size,0,none⟩),.pointer (some ⟨w.heap.size+1,0,none⟩),.slice none 0 0,.pointer (some ⟨w1.heap.size+1,0,none⟩),.int .i64 (x.1.1:Nat),.int .u64 (x.1.2:Nat),undef,undef,undef,undef,undef,.slice A zs.length ca,.slice (some ⟨bb,ob,none⟩) 1 cb,.int .i64 s,.bool (decide (s<0)),undef,.slice (some ⟨bb,ob,none⟩) 1 cb,.int .i64 1,.bool true,.slice A zs.length ca,.int .i64 zs.length,.slice (some ⟨w1.heap.size,0,none⟩) zs.length zs.length,.slice A zs.length ca,.func (.func 340) #[] #[.pointer (some ⟨W2.heap.size,0,none⟩)],.int .i64 (x.1.1:Nat),.int .u64 (x.1.2:Nat),undef,undef,undef,undef,undef,undef,undef,undef,undef,undef,undef,undef,undef,undef,undef,undef,undef,undef,undef,undef,undef,undef,undef,undef,undef,undef,undef,undef,undef,undef,undef,undef,undef,undef,undef,undef,undef,undef,undef,undef,undef,undef,undef,undef,undef,undef,undef,undef,undef,undef,undef,undef,undef,undef,undef,undef,undef,undef,undef,undef,undef,undef,undef,undef,undef,undef,undef,undef,undef,undef,undef,undef,undef,undef,undef,undef,undef,undef,undef,undef,undef,undef,undef,undef,undef,undef,undef,undef,undef,undef,undef,undef,undef,undef,undef,undef,undef,undef,undef,undef,undef,undef,undef,undef,undef,undef,undef,undef,undef,undef,undef,undef,undef,undef,undef,undef,undef],defers:=[]}
 case hI=>
  rintro pre W W' row ⟨vs,r,IW,hown,KW,h3,J4,hy,⟨bx,BQ⟩,hxx,KG⟩ CZ hr';have hro:∀r,row=some r→∃o:Obj,W.heap[r]?=some o/\o.isCells=false:=fun r e=>(hr' r e).2;refine⟨vs,r,IW,?_,Dt CZ KW hro,cell_kept h3 CZ hro,Dt CZ J4 hro,cell_kept hy CZ hro,⟨bx,Dt CZ BQ hro⟩,?_,KG⟩
  ·refine hown.kept CZ (.inr fun e=>?_);obtain⟨c,fz,hk⟩:=Wu hown w1.heap.size rfl;obtain⟨o,ho,hc⟩:=hro w1.heap.size e.symm;rw [hk]at ho;obtain rfl:=Option.some.inj ho;simp [Obj.isCells]at hc
  ·exact(ownFrom_below (AmC _) (by simp;omega)) () W W' row hxx CZ hr'
 case h0=>
  have AA:=(Aa.refl W2).alloc (.cells #[.slice A zs.length ca] 278);refine⟨List.replicate zs.length 0,0,by simp,AI ho2 AA,(AA.block _ (by omega)).trans k6,AA.cellS k3,(AA.block _ (by omega)).trans k4b,AA.cellS Adt,⟨_,AmB _ _⟩,Below.trans Bi (Below.mono AA (by omega)),fun k hk e=>?_⟩
  cases k with
  | zero=>exact Iv.start Bj
  | succ k=>have:=congrArg List.length e;rw [upto_length]at this;simp at this
 case assign=>intro l x W K hK;gi_wp2;exact hK
 case body=>
  rintro l pre x W ⟨vs,r,IW,hown,KW,h3,J4,hy,BQ,hxx,KG⟩ hlen;have h4:=cell_of_one J4;have hc6:=cell_of_one KW;have aB:=free_of_one KW;have hix:=x.2.2;obtain⟨t,ht,htg,hq⟩:∃t:Nat,IntKind.u64.wrap (IntKind.u64.wrap ((r:Int)*1000000000)+(x.1.2:Int))=(t:Int)/\(r<y→t=r*1000000000+x.1.2)/\IntKind.u64.wrap ((t:Int)/(y:Int))=((t/y:Nat):Int):=AaY r x.1.2 y SD x.2.1;gi_wp2;clear ht;obtain⟨W0,hW0⟩:=Am8 ((W.setCell ⟨w1.heap.size+1,0,none⟩ (.int .u64 (t:Nat))).drew);obtain⟨Km,hW1⟩:=Am8 (W0.setCell ⟨w1.heap.size,x.1.1,none⟩ (.int .u64 ((t/y:Nat):Int)));obtain⟨LL,hW2⟩:=Am8 (Km.setCell ⟨w1.heap.size+1,0,none⟩ (.int .u64 ((t%y:Nat):Int)));refine wpIn_region_any (by kernel_rfl) ?_;have AZ:bb<w.heap.size:=World.block_lt_of_cell? w ⟨bb,ob,none⟩ Dg
  have IT:∀k,k≠w1.heap.size→¬Value.ownBlock (.slice (some ⟨w1.heap.size,0,none⟩) zs.length zs.length)=some k:=by intro k hk e;simp only [Value.ownBlock,AmG]at e;exact hk e.symm
  have Tc:W0.ownsRow w1.heap.size 184 1 (.slice (some ⟨w1.heap.size,0,none⟩) zs.length zs.length) zs.length (Bd vs):=by rw [hW0];exact Wv (ownsRow_setCell_other hown (IT (w1.heap.size+1) (by omega)) _)
  have Ahm:Km.ownsRow w1.heap.size 184 1 (.slice (some ⟨w1.heap.size,0,none⟩) zs.length zs.length) zs.length (Bd (vs.set x.1.1 (t/y))):=by rw [hW1,←WW];exact(Tc.stored _ _).1
  have Td:LL.ownsRow w1.heap.size 184 1 (.slice (some ⟨w1.heap.size,0,none⟩) zs.length zs.length) zs.length (Bd (vs.set x.1.1 (t/y))):=by rw [hW2];exact ownsRow_setCell_other Ahm (IT (w1.heap.size+1) (by omega)) _
  have jg:W0.heap[w1.heap.size+1]?=some (.cells #[.int .u64 (t:Nat)] 184 (0,0)):=by rw [hW0];exact one_setCell KW
  have gJ:Km.heap[w1.heap.size+1]?=some (.cells #[.int .u64 (t:Nat)] 184 (0,0)):=by rw [hW1,Below.heap_setCell _ _ _ _ (show w1.heap.size+1≠w1.heap.size by omega)];exact jg
  have Ait:LL.heap[w1.heap.size+1]?=some (.cells #[.int .u64 ((t%y:Nat):Int)] 184 (0,0)):=(by rw [hW2];exact one_setCell gJ);have Adn:=cell_of_one jg;have uC:=cell_of_one gJ;have Ad1:=free_of_one gJ;have hb0:∀k,k≠w1.heap.size+1→W0.heap[k]?=W.heap[k]?:=fun k hk=>(by rw [hW0];exact Below.heap_setCell W _ _ k hk);have hb1:∀k,k≠w1.heap.size→k≠w1.heap.size+1→Km.heap[k]?=W.heap[k]?:=fun k hk hk2=>(by rw [hW1,Below.heap_setCell _ _ _ _ hk];exact hb0 k hk2);have hb2:∀k,k≠w1.heap.size→k≠w1.heap.size+1→LL.heap[k]?=W.heap[k]?:=fun k hk hk2=>(by rw [hW2,Below.heap_setCell _ _ _ _ hk2];exact hb1 k hk hk2);have Acs:=(World.cell?_of_block (a:=⟨w.heap.size,0,none⟩) (hb0 w.heap.size (by omega))).trans h3;have Acz:=(World.cell?_of_block (a:=⟨w.heap.size+1,0,none⟩) (hb0 (w.heap.size+1) (by omega))).trans h4;have AeM:=(World.cell?_of_block (a:=⟨bb,ob,none⟩) (hb0 bb (by omega))).trans hy;have Acu:=(World.cell?_of_block (a:=⟨w.heap.size,0,none⟩) (hb1 w.heap.size (by omega) (by omega))).trans h3;have Ac0:=(World.cell?_of_block (a:=⟨w.heap.size+1,0,none⟩) (hb1 (w.heap.size+1) (by omega) (by omega))).trans h4;have AeN:=(World.cell?_of_block (a:=⟨bb,ob,none⟩) (hb1 bb (by omega) (by omega))).trans hy;have Acv:=(World.cell?_of_block (a:=⟨w.heap.size,0,none⟩) (hb2 w.heap.size (by omega) (by omega))).trans h3;have Ac1:=(hb2 (w.heap.size+1) (by omega) (by omega)).trans J4;have AeO:=(World.cell?_of_block (a:=⟨bb,ob,none⟩) (hb2 bb (by omega) (by omega))).trans hy
  have BY:Below w.heap.size W LL:=by rw [hW2,hW1,hW0];exact(((Below.refl _ W).setCell (by show w.heap.size<=w1.heap.size+1;omega) _).drew.setCell (by show w.heap.size<=w1.heap.size;omega) _).setCell (by show w.heap.size<=w1.heap.size+1;omega) _
  have aJ:=Tc.frozenAt (g:=w1.heap.size) x.1.1
  have hqc:(W0.cell? ⟨w1.heap.size,x.1.1,none⟩).isSome:=by have h1:(Bd vs)[x.1.1]?=some (.int .u64 (Ah vs x.1.1:Nat)):=(by simp [Bd,Ah,IW,hix]);have h2:=Tc.cells (g:=w1.heap.size) rfl x.1.1 _ h1;rw [Addr.add_lit,Nat.zero_add]at h2;rw [h2];rfl
  refine Akq 33 13
   (fun i=>#[.slice (some ⟨w1.heap.size,0,none⟩) zs.length zs.length,.int .i64 (x.1.1:Nat),.int .u64 (t:Nat),.slice (some ⟨bb,ob,none⟩) 1 cb,.pointer (some ⟨bb,ob,none⟩),.int .u64 (y:Nat),.int .u64 ((t/y:Nat):Int),.int .u64 (t:Nat),.slice (some ⟨bb,ob,none⟩) 1 cb,.pointer (some ⟨bb,ob,none⟩),.int .u64 (y:Nat),.int .u64 ((t%y:Nat):Int),.pointer (some ⟨w1.heap.size,x.1.1,none⟩)].getD i undef)
   (Jl 13 14 W0 Km LL) (by kernel_rfl) (by simp) hW0 ?_ ?_
  ·intro listed a i o Aj hr ho K hK;obtain⟨Ay,o',V8,BF⟩:=mem_ready.1 hr;obtain rfl:=Option.some.inj (V8.symm.trans ho);have hi:i<15:=(Array.getElem?_eq_some_iff.1 ho).1
   have YU:listed.getD 14 false=false:=by
    by_cases h:listed.getD 14 false=true
    ·exfalso
     have h1:∀j,j<15→listed.getD j false=true:=by
      intro j hj;by_cases e:j=14
      ·rw [e];exact h
      ·exact Aj.waits (j:=14) rfl h j (by
        rcases(by omega:j=0∨j=1∨j=2∨j=3∨j=4∨j=5∨j=6∨j=7∨j=8∨j=9∨j=10∨j=11∨j=12∨j=13)with rfl|rfl|rfl|rfl|rfl|rfl|rfl|rfl|rfl|rfl|rfl|rfl|rfl|rfl<;>kernel_rfl)
     have h2:=h1 i hi;rw [getD_both Ay]at h2
     cases h2
    ·simpa using h
   have e3:=Aj.out (s:=33) (m:=13) (by kernel_rfl) (d:=3) (by omega) rfl;have e4:=Aj.out (s:=33) (m:=13) (by kernel_rfl) (d:=4) (by omega) rfl;have e6:=Aj.out (s:=33) (m:=13) (by kernel_rfl) (d:=6) (by omega) rfl;have e7:=Aj.out (s:=33) (m:=13) (by kernel_rfl) (d:=7) (by omega) rfl;have hval:=fun i {d} hd hi hl {v} hv=>Aj.val (s:=33) (m:=13) (by kernel_rfl) i (d:=d) hd hi hl (v:=v) hv;refine⟨fun _ _=>trivial,?_⟩;rw [Oper.semAt_eq _ _ _ (eQ (l:=_) (by kernel_rfl) i o' ho)];have wH:=Aj.lsz;clear V8 Aj;by_cases Al6:i<13
   ·rw [Ak4 (by omega) (by omega)]at hK
    obtain⟨V,hV,uA,qU,h4V,yJ⟩:∃V,Jl 13 14 W0 Km LL listed=V/\V.cell? ⟨w1.heap.size+1,0,none⟩=some (.int .u64 (t:Nat))/\V.cell? ⟨w.heap.size,0,none⟩=some (.slice (some ⟨bb,ob,none⟩) 1 cb)
      /\V.cell? ⟨w.heap.size+1,0,none⟩=some (.slice (some ⟨w1.heap.size,0,none⟩) zs.length zs.length)/\V.cell? ⟨bb,ob,none⟩=some (.int .u64 (y:Nat)):=by
     by_cases Nz:listed.getD 13 false=true
     ·exact⟨Km,jA Nz YU,uC,Acu,Ac0,AeN⟩
     ·exact⟨W0,ol (by simpa using Nz),Adn,Acs,Acz,AeM⟩
    rw [hV]at hK ⊢;clear hV
    rcases(by omega:i=0∨i=1∨i=2∨i=3∨i=4∨i=5∨i=6∨i=7∨i=8∨i=9∨i=10∨i=11∨i=12)with rfl|rfl|rfl|rfl|rfl|rfl|rfl|rfl|rfl|rfl|rfl|rfl|rfl
    all_goals simp only [List.getElem?_toArray,List.getElem?_cons_zero,List.getElem?_cons_succ,AmG]at ho
    all_goals subst ho
    all_goals have AM:=JZ BF
    all_goals simp only [Act.eval]at e3 e4 e6 e7
    all_goals clear wH
    ·clear hval AM BF Ay hr;simp [execOp,go_sem,Oper.uponIn,e4,h4V];exact hK
    ·clear hval AM BF Ay hr;simp [execOp,go_sem,Oper.uponIn,e7];exact hK
    ·clear hval AM BF Ay hr;simp [execOp,go_sem,Oper.uponIn,e6,uA];exact hK
    ·clear hval AM BF Ay hr;simp [execOp,go_sem,Oper.uponIn,e3,qU];exact hK
    ·have f36:=hval 3 (d:=36) rfl (by omega) (AM 3 (by kernel_rfl)) rfl;simp only [Act.eval]at f36;clear hval AM BF Ay hr;simp [execOp,go_sem,Oper.uponIn,f36];exact hK
    ·have f37:=hval 4 (d:=37) rfl (by omega) (AM 4 (by kernel_rfl)) rfl;simp only [Act.eval]at f37;clear hval AM BF Ay hr;simp [execOp,go_sem,Oper.uponIn,yJ,f37];exact hK
    ·have f35:=hval 2 (d:=35) rfl (by omega) (AM 2 (by kernel_rfl)) rfl;have f38:=hval 5 (d:=38) rfl (by omega) (AM 5 (by kernel_rfl)) rfl;simp only [Act.eval]at f35 f38;clear hval AM BF Ay hr;have hy1:y≠0:=(by omega);simp [execOp,go_sem,Oper.uponIn,hy1,f35,f38,hq];exact hK
    ·clear hval AM BF Ay hr;simp [execOp,go_sem,Oper.uponIn,e6,uA];exact hK
    ·clear hval AM BF Ay hr;simp [execOp,go_sem,Oper.uponIn,e3,qU];exact hK
    ·have pX:=hval 8 (d:=41) rfl (by omega) (AM 8 (by kernel_rfl)) rfl;simp only [Act.eval]at pX;clear hval AM BF Ay hr;simp [execOp,go_sem,Oper.uponIn,pX];exact hK
    ·have pY:=hval 9 (d:=42) rfl (by omega) (AM 9 (by kernel_rfl)) rfl;simp only [Act.eval]at pY;clear hval AM BF Ay hr;simp [execOp,go_sem,Oper.uponIn,yJ,pY];exact hK
    ·have f40:=hval 7 (d:=40) rfl (by omega) (AM 7 (by kernel_rfl)) rfl;have pZ:=hval 10 (d:=43) rfl (by omega) (AM 10 (by kernel_rfl)) rfl;simp only [Act.eval]at f40 pZ;clear hval AM BF Ay hr;have hy1:y≠0:=(by omega);have hm:(t:Int).tmod (y:Int)=((t%y:Nat):Int):=(by rw [Int.tmod_eq_emod_of_nonneg (by omega)];simp);simp [execOp,go_sem,Oper.uponIn,hy1,f40,pZ,hm];exact hK
    ·have f33:=hval 0 (d:=33) rfl (by omega) (AM 0 (by kernel_rfl)) rfl;have f34:=hval 1 (d:=34) rfl (by omega) (AM 1 (by kernel_rfl)) rfl;simp only [Act.eval]at f33 f34;clear hval AM BF Ay hr;simp [execOp,go_sem,Oper.uponIn,hix,f33,f34];exact hK
   ·have hsz:=wH
    rcases(by omega:i=13∨i=14)with rfl|rfl
    ·have Nz:listed.getD 13 false=false:=getD_both Ay;rw [jA (I6 (by rw [hsz];exact hi)) (by rw [getD_set_ne false (by omega)];exact YU)]at hK;rw [ol Nz];simp only [List.getElem?_toArray,List.getElem?_cons_zero,List.getElem?_cons_succ,AmG]at ho;subst ho;have AM:=JZ BF;have f39:=hval 6 (d:=39) rfl (by omega) (AM 6 (by kernel_rfl)) rfl;have qB:=hval 12 (d:=45) rfl (by omega) (AM 12 (by kernel_rfl)) rfl;simp only [Act.eval]at f39 qB;clear hval AM BF Ay hr;obtain⟨vq,dC⟩:=Option.isSome_iff_exists.1 hqc;simp [execOp,go_sem,Oper.uponIn,f39,qB,aJ,dC];rw [hW1]at hK;exact hK
    ·simp only [List.getElem?_toArray,List.getElem?_cons_zero,List.getElem?_cons_succ,AmG]at ho;subst ho;have AM:=JZ BF;have Nz:=AM 13 (by kernel_rfl);rw [om (getD_set_true Nz) (I6 (by rw [hsz];exact hi))]at hK;rw [jA Nz YU];have qA:=hval 11 (d:=44) rfl (by omega) (AM 11 (by kernel_rfl)) rfl;simp only [Act.eval]at qA e6;clear hval AM BF Ay hr;simp [execOp,go_sem,Oper.uponIn,qA,e6,Ad1,uC];rw [hW2]at hK;exact hK
  ·intro listed a Aj hall;rw [om (hall 13 (by decide)) (hall 14 (by decide))];refine⟨⟨BY.size,fun k o hk hko _=>?_⟩,⟨BY,hb2 _ (by omega) (by omega)⟩,vs.set x.1.1 (t/y),t%y,by rw [List.length_set,IW],Td,Ait,Acv,Ac1,AeO,?_,?_,?_⟩
   ·rw [AmJ]at hk;rw [hb2 k (by omega) (by omega)];exact hko
   ·obtain⟨bx,Aw⟩:=BQ;exact⟨bx,by rw [hb2 _ (by omega) (by omega)];exact Aw⟩
   ·exact Below.trans hxx BY
   ·intro k hk e
    cases k with
    | zero=>simp [upto]at e
    | succ k=>rw [upto_succ]at e;obtain⟨e1,e2⟩:=List.append_inj' e rfl;simp only [List.cons.injEq,and_true]at e2;have CL:=hg k hk;rw [←e2]at CL;have h5:=KG k (by omega) e1;have h6:x.1.1=zs.length-1-k:=(by rw [CL];rfl);have h7:x.1.2=Ah zs x.1.1:=(by rw [h6,CL];rfl);rw [show zs.length-k=x.1.1+1 by omega]at h5;rw [show zs.length-(k+1)=x.1.1 by omega];exact h5.step Bj hlt (by rw [←h7];exact htg h5.rl)
 case done=>
  rintro D ys W hD rfl ⟨vs,r,IW,hown,KW,h3,J4,hy,BQ,hxx,KG⟩ hK;have h4:=cell_of_one J4;have hdone:=KG zs.length (AmC _) rfl;rw [Nat.sub_self]at hdone;have hc6:=cell_of_one KW;simp only [AmJ]at hD;have KZ:=(Aa.refl W).drew;have AA:=((Aa.refl W).alloc (.cells #[.int .u64 (r:Nat)] 184)).drew
  have Sx:BE W (some ⟨w1.heap.size,0,none⟩) zs.length vs:=by obtain⟨A',c',e1,h1⟩:=Rd.of_own (base:=w1.heap.size) (l:=vs) (by rw [IW];exact hown) (by omega);simp only [Value.slice.injEq]at e1;obtain⟨rfl,_,rfl⟩:=e1;exact h1
  have wU:r<1000000000:=by have:=hdone.rl;omega
  have Dw:BE (W.alloc (.cells #[.int .u64 (r:Nat)] 184)).drew (some ⟨W.heap.size,0,none⟩) 1 [r]:=
   ⟨by simp,by omega,by simp,fun _=>⟨W.heap.size,0,rfl,fun j hj=>by
    obtain rfl:j=0:=(by simpa using hj);show (W.alloc (.cells #[.int .u64 (r:Nat)] 184)).cell? ⟨W.heap.size,0,none⟩=_
    rw [World.cell?_alloc_at _ _ _ _ (by rfl)];simp [Ah]⟩⟩
  have AS:=Qm vs _ _ W.drew (Sx.ext KZ) hdone.lt;have Bt:=Qm vs _ _ _ (Sx.ext AA) hdone.lt;have Sw:=Qm [r] _ _ _ Dw (by intro z hz;simp only [AmO]at hz;omega);rw [IW]at AS Bt;have h4':=AA.cellS h4;have f4:=free_of_one ((AA.block _ (AmA J4)).trans J4);simp only [List.length_singleton]at Sw;have hDW:=AmA hK
  have UD:(((W.alloc (.cells #[.int .u64 (r:Nat)] 184)).setCell ⟨w.heap.size+1,0,none⟩ (.slice (some ⟨w1.heap.size,0,none⟩) (pc 1000000000 (Ag 1000000000 vs)).length zs.length)).drew).heap[D]?=some (.deferred (some [])):=by show (((W.alloc (.cells #[.int .u64 (r:Nat)] 184)).setCell ⟨w.heap.size+1,0,none⟩ (.slice (some ⟨w1.heap.size,0,none⟩) (pc 1000000000 (Ag 1000000000 vs)).length zs.length))).heap[D]?=_;rw [Below.heap_setCell _ _ _ _ (show D≠w.heap.size+1 by omega),Below.heap_alloc _ _ _ hDW];exact hK
  obtain⟨X,hX⟩:=Am8 (((W.alloc (.cells #[.int .u64 (r:Nat)] 184)).setCell ⟨w.heap.size+1,0,none⟩ (.slice (some ⟨w1.heap.size,0,none⟩) (pc 1000000000 (Ag 1000000000 vs)).length zs.length)).drew);have YV:=(AA.block _ (AmA J4)).trans J4
  have uD:(X.putObj D (.deferred none)).cell? ⟨w.heap.size+1,0,none⟩=some (.slice (some ⟨w1.heap.size,0,none⟩) (pc 1000000000 (Ag 1000000000 vs)).length zs.length):=by refine cell_of_one (t:=278) ?_;rw [World.putObj_heap_other (by omega),hX];exact one_setCell YV
  have wL:O6 (x/y) (x%y) w (.returned (.tuple #[.slice (some ⟨w1.heap.size,0,none⟩) (pc 1000000000 (Ag 1000000000 vs)).length zs.length,.slice (some ⟨W.heap.size,0,none⟩) (pc 1000000000 (Ag 1000000000 [r])).length 1])) (X.putObj D (.deferred none)):=by
   have Ev:=hdone.done;have Lc:Ag 1000000000 zs=x:=(by rw [HZ.out,AU b9]);rw [Lc]at Ev;have e1:Ag 1000000000 [r]=x%y:=by simp [Ag,Ev.2]
   have k1:BE (X.putObj D (.deferred none)) (some ⟨w1.heap.size,0,none⟩) zs.length (pc 1000000000 (x/y)):=by rw [←Ev.1];refine BE.putObj ?_ (by rw [hX];exact UD) rfl _;rw [hX];exact((Sx.ext AA).pc hdone.lt).setCell (w:=(W.alloc (.cells #[.int .u64 (r:Nat)] 184)).drew) (cell_of_one YV) (by simp)
   have k2:BE (X.putObj D (.deferred none)) (some ⟨W.heap.size,0,none⟩) 1 (pc 1000000000 (x%y)):=by rw [←e1];refine BE.putObj ?_ (by rw [hX];exact UD) rfl _;rw [hX];exact(Dw.pc (by intro z hz;simp only [AmO]at hz;omega)).setCell (w:=(W.alloc (.cells #[.int .u64 (r:Nat)] 184)).drew) (cell_of_one YV) (by simp)
   rw [Ev.1,e1];refine⟨_,_,rfl,⟨_,_,rfl,k1⟩,⟨_,_,rfl,k2⟩,?_⟩
   have C3:Aa w X:=by rw [hX];exact(((hxx.alloc _).setCell (by show w.heap.size<=w.heap.size+1;omega) _)).drew
   exact Below.trans C3 (belowK_b (w:=w) (AmC _) X D _ _ (by omega) (by rw [hX];exact UD) rfl rfl)
  rw [hX]at uD wL;clear hX;gi_wp2;refine wpIn_wide.2 (wp_region_noPanic ?_)
  go_region_with (go_at_call 282;((first|(with_reducible refine AS.mono ?_)|(with_reducible refine Bt.mono ?_)|(with_reducible refine Sw.mono ?_));rintro e w' ⟨rfl,rfl⟩))
  all_goals refine NoPanic.normal ?_
  all_goals gi_wp2
  all_goals simp only [List.getElem_toArray,List.getElem_cons_succ,List.getElem_cons_zero,Act.put,List.setIfInBounds_toArray,List.set_cons_succ,List.set_cons_zero]
  all_goals refine⟨by simp,.inl ⟨_,_,rfl,run_takeDeferred UD,?_⟩⟩
  all_goals exact⟨_,by simp [results,Tryz.results278,go_sem,uD],wL⟩
 case stop=>rintro D c pre W _ _ h _;exact h.elim
end
theorem iH(x d:Nat)(hd:d<1000000000)(hl:(pc 1000000000 x).length<40000)(u:Value)(w:World)(hu:Rd w u (pc 1000000000 x)) :
  Calls Tryz.prog 335 #[u,.int .u64 (d:Nat)] w (QE (x*d) w):=by
 have hx1:=(Aa.refl w).alloc (.cells #[.int .u64 (d:Nat)] 184)
 have Dw:BE (w.alloc (.cells #[.int .u64 (d:Nat)] 184)) (some ⟨w.heap.size,0,none⟩) 1 [d]:=
  ⟨by simp,by omega,by simp,fun _=>⟨w.heap.size,0,rfl,fun j hj=>by
   obtain rfl:j=0:=by simpa using hj
   rw [World.cell?_alloc_at _ _ _ _ (by rfl)];simp [Ah]⟩⟩
 have Ca:∀z∈[d],z<1000000000:=(by intro z hz;simp only [AmO]at hz;omega);have hq:=Qm [d] _ _ _ Dw Ca;have e1:Ag 1000000000 [d]=d:=(by simp [Ag]);have hl2:(pc 1000000000 d).length<=1:=Oe b9 (by omega);have ht:=mm (pc 1000000000 x) (pc 1000000000 d) u _ _ (hu.ext hx1) ⟨_,_,rfl,by have:=Dw.pc Ca;rw [e1]at this;exact this⟩ hl (by omega) (Be b9 x) (Be b9 d);rw [AU b9,AU b9]at ht;rw [e1]at hq;simp only [List.length_singleton]at hq;clear Dw Ca e1;go_enter Tryz.func335,Tryz.ntmps335;(go_wp2_with fail);(with_reducible refine hq.mono ?_);rintro e w1 ⟨rfl,rfl⟩;(go_wp2_with fail);(with_reducible refine ht.mono ?_);rintro e w1 ⟨v,rfl,hv,hxv,hf⟩;have HF:=Am9 hf;clear hf;go_wp2;go_ret;exact⟨v,rfl,hv,hx1.trans hxv,fun b hb=>by have:=HF.out b hb;simp at this;omega⟩
theorem eR{b:Nat}(hb:0<b):∀{l:List Nat} (k:Nat),(∀x∈l,x<b)→Ag b (l.drop k)=Ag b l/b^k
 | l,0,_=>by simp
 | [],k+1,_=>by simp [Ag]
 | x::l,k+1,h=>by rw [List.drop_succ_cons,eR hb k (fun y hy=>h y (by simp [hy]))];simp only [Ag];have hx:=h x (by simp);rw [Nat.pow_succ,Nat.mul_comm (b^k) b,←Nat.div_div_eq_div_mul,Nat.add_mul_div_left _ _ hb,Nat.div_eq_of_lt hx,Nat.zero_add]
theorem YL{y t:Nat}(hyt:y<=t)(P4:t<y*1000000000)(Bj:0<y) :
  let m:=(pc 1000000000 y).length
  let n:=(pc 1000000000 t).length
  0<m/\0<Ah (pc 1000000000 y) (m-1)/\m<=n/\n<=m+1/\
   t/y<=(if m<n then Ah (pc 1000000000 t) (n-1)*1000000000+Ah (pc 1000000000 t) (n-2)else Ah (pc 1000000000 t) (n-1))/Ah (pc 1000000000 y) (m-1):=by
 intro m n;have cT:=FY b9 y;have vY:=Be b9 y;have vX:=Be b9 t;have bJ:=AU b9 y;have wG:=AU b9 t;have wF:pc 1000000000 y≠[]:=fun e=>(by have:=(PV b9).1 e;omega);have hm:0<m:=List.length_pos_iff.2 wF;have cH:=fS (b:=1000000000) cT wF;rw [bJ]at cH;have yK:y<1000000000^m:=(by have:=Ig vY;rwa [bJ]at this);have Dx:t<1000000000^n:=by have:=Ig vX;rwa [wG]at this
 have hmn:m<=n:=by
  rcases Nat.lt_or_ge n m with h|h
  ·exfalso
   have h1:(1000000000:Nat)^n<=1000000000^(m-1):=Nat.pow_le_pow_right (by omega) (by omega)
   change (1000000000:Nat)^(m-1)<=y at cH
   omega
  ·exact h
 have hnm:n<=m+1:=by
  refine Oe b9 ?_;rw [Nat.pow_succ]
  calc t<y*1000000000:=P4
   _<=1000000000^m*1000000000:=Nat.mul_le_mul_right _ (by omega)
 have e1:Ah (pc 1000000000 y) (m-1)=y/1000000000^(m-1):=by have h:=eR (b:=1000000000) (by omega) (m-1) vY;rw [bJ]at h;rw [←h,LW (by omega),List.drop_eq_nil_of_le (by omega)];simp [Ag]
 have e2:(if m<n then Ah (pc 1000000000 t) (n-1)*1000000000+Ah (pc 1000000000 t) (n-2)else Ah (pc 1000000000 t) (n-1))=t/1000000000^(m-1):=by
  have h:=eR (b:=1000000000) (by omega) (m-1) vX;rw [wG]at h;rw [←h]
  split
  ·have e:n=m+1:=(by omega);rw [LW (by omega),LW (by omega),List.drop_eq_nil_of_le (by omega)];simp only [Ag];rw [show n-1=m-1+1 by omega,show n-2=m-1 by omega];omega
  ·have e:n=m:=(by omega);rw [LW (by omega),List.drop_eq_nil_of_le (by omega)];simp only [Ag];rw [e];omega
 have S6:0<Ah (pc 1000000000 y) (m-1):=by rw [e1];exact Nat.div_pos cH (Nat.pow_pos (by omega))
 refine⟨hm,S6,hmn,hnm,?_⟩;rw [e2,Nat.le_div_iff_mul_le S6,Nat.le_div_iff_mul_le (Nat.pow_pos (by omega)),e1]
 calc t/y*(y/1000000000^(m-1))*1000000000^(m-1)=t/y*(y/1000000000^(m-1)*1000000000^(m-1)):=by rw [Nat.mul_assoc]
  _<=t/y*y:=Nat.mul_le_mul_left _ (Nat.div_mul_le_self _ _)
  _<=t:=Nat.div_mul_le_self _ _
theorem Ai5{P:Program}(w:World)(base:Nat)(t ty e:TypeId)(i:TypeInfo)(size:Nat)(ht:P.underlying t=some (.slice e))(hi:P.info? e=some i)
  (v:Value) (n c:Nat) (xs:List Value) (hown:w.ownsRow base e size v n xs) :
  (Builtin.append_ #[t,t] ty #[v,.slice none 0 c]).run P w=.ok v w:=by
 rcases hown.2 with⟨rfl,rfl⟩|⟨g,cap,cur,rfl,_,_,hnc,_⟩
 ·simp [Builtin.append_,run_underlying ht,sizeOf,typeInfo,hi,Builtin.lenOf,Builtin.firstCells]
 ·simp [Builtin.append_,run_underlying ht,sizeOf,typeInfo,hi,Builtin.lenOf,Builtin.firstCells,hnc,storeCells]
theorem yi{ops:Array Oper}{rest:List Oper}{o:Oper}{a:Act}{Q:Exit→Act→World→Prop}(hgd:o.guard=none)(s x:Operand)(ho:o.op=.call {callee:=.builtin .append,args:=#[s,x],argTypes:=#[278,278]})
  (wr:World) (base:Nat) (v:Value) (n:Nat) (xs:List Nat) (hs:a.eval s=v) (hown:wr.ownsRow base 184 1 v n (Bd xs)) (l:List Nat) (vx:Value) (hx:a.eval x=vx) (hr:Rd wr vx l) (hn:n+l.length<200000) (hbase:base<=wr.heap.size)
  (h:∀v' w',w'.ownsRow base 184 1 v' (n+l.length) (Bd (xs++l))→(∀w0,Aa w0 wr→w0.heap.size<=base→Aa w0 w')→wpList Tryz.prog ops Q rest (a.put o.dst v') w') :
  wpList Tryz.prog ops Q (o::rest) a wr:=by
 obtain⟨i0,hi,hz0,hz1,hz2⟩:=info_parts Tryz.infoU;obtain⟨A,c,rfl,Cp⟩:=hr;refine wpList_plain hgd fun K hK=>?_;by_cases h0:l.length=0
 ·obtain rfl:l = []:=List.length_eq_zero_iff.1 h0;rw [List.append_nil]at h
  cases A with
  | none=>
   have hrun:=Ai5 (P:=Tryz.prog) wr base 278 o.type 184 i0 1 Tryz.underlying278 hi v n c (Bd xs) hown;unfold Oper.wp execOp;simp only [ho,resolve,invoke,builtin,Sem.run_bind,Sem.run_pure,Result.andThen_ok,List.map_toArray,List.map_cons,List.map_nil,hs,hx,List.length_nil,hrun];exact hK _ _ (h v wr hown fun w0 he hb=>he)
  | some ad=>refine wp_append_own _ s x 278 ho base 184 i0 (.int .u64 0) 1 8 Tryz.underlying278 hi hz0 hz1 hz2 rfl (by omega) v n (Bd xs) hs hown ad 0 c [] hx rfl (fun j u hu=>by simp at hu) (fun u hu=>by simp at hu) (by unfold maxLen;omega) (by omega) hbase ?_;intro v' w' h2 h3 _;exact hK _ _ (h v' w' (by simpa using h2) fun w0 he hb=>he.grownOwn h3 hown hb)
 ·obtain⟨b,off,rfl,hc⟩:=Cp.ad (by omega);refine wp_append_own _ s x 278 ho base 184 i0 (.int .u64 0) 1 8 Tryz.underlying278 hi hz0 hz1 hz2 rfl (by omega) v n (Bd xs) hs hown ⟨b,off,none⟩ l.length c (Bd l) hx (by simp [Bd]) ?_ ?_ (by unfold maxLen;omega) (by omega) hbase ?_
  ·intro j u hu
   have hj:j<l.length:=by
    have:=(List.getElem?_eq_some_iff.1 hu).1
    simpa [Bd]using this
   have e:(Bd l)[j]?=some (.int .u64 (Ah l j:Nat)):=(by simp [Bd,Ah,hj]);rw [e]at hu;rw [←Option.some.inj hu,Addr.add_lit];exact hc j hj
  ·intro u hu;simp only [Bd,List.mem_map]at hu;obtain⟨z,_,rfl⟩:=hu
   rfl
  ·intro v' w' h2 h3 _;exact hK _ _ (h v' w' (by simpa [Bd]using h2) fun w0 he hb=>he.grownOwn h3 hown hb)
theorem oS(x y:Nat)(Bj:0<y)(SD:y<1000000000)(u v:Value)(w:World)(hu:Rd w u (pc 1000000000 x))(hv:Rd w v (pc 1000000000 y)) :
  Calls Tryz.prog 278 #[u,v] w (O6 (x/y) (x%y) w):=by
 rcases Nat.lt_or_ge x y with h|h
 ·rw [Nat.div_eq_of_lt h,Nat.mod_eq_of_lt h];exact oR x y h u v w hu hv
 ·exact Abm x y h Bj SD u v w hu hv
end Go.Proofs.YtjalkoacphhgdaaGreatDoor
