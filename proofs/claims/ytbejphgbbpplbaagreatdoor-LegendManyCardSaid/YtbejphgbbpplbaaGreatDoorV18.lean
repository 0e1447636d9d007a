/- V18: E7 E8 E9 E10 E11 E12 D2A BM. -/
import Derived.Test.YtbejphgbbpplbaaGreatDoorV12
import Derived.Test.YtbejphgbbpplbaaGreatDoorV17
import Derived.Test.YtbejphgbbpplbaaGreatDoorV15
set_option maxRecDepth 100000
set_option maxHeartbeats 4000000
namespace Go.Proofs.YtbejphgbbpplbaaGreatDoor
open Go.RowKit Kl
section
attribute [local go_sem] QN
/-! ### Small, brief -/
end
section
attribute [local go_sem] QN
/-! ### made -/
/-! ### Sign, Neg, Abs -/
end
/-! ### Mul -/
/-! ### the plain law -/
/-! ### Gcd -/
section
attribute [local go_sem] YV qQ
/-! ### Fraction -/
end
section
attribute [local go_sem] QN
theorem Rm.k{a b:Nat}{p q:Rat}(h:Rm a b p q):a+b+1<=8000:=by have:=h.le;omega
end
def Q6(q:Rat):Prop:=∃a:Int,a.natAbs<=1000000/\q=(a:Rat)/2
structure D4(p:Pt):Prop where
 x:Q6 p.x
 y:Q6 p.y
structure Ju(s:Sg):Prop where
 a:D4 s.a
 b:D4 s.b
def Iy(n:Nat)(q:Rat):Prop:=∃a:Int,a.natAbs<=n/\q=(a:Rat)/4
theorem Iy.sz{n K:Nat}{q:Rat}(h:Iy n q)(hn:n<10^K)(hK:0<K):Sz K q:=by
 obtain⟨a,ha,rfl⟩:=h;have:(a:Rat)/4=mkRat a 4:=(by rw [Rat.mkRat_eq_div];rfl);rw [this];have h10:10^1<=10^K:=Nat.pow_le_pow_right (by omega) (by omega);exact Sz.mkRat (by omega) (by omega) (by omega)
theorem Q6.sz{K:Nat}{q:Rat}(h:Q6 q)(hK:7<=K):Sz K q:=by
 obtain⟨a,ha,rfl⟩:=h;have:(a:Rat)/2=mkRat a 2:=(by rw [Rat.mkRat_eq_div];rfl);rw [this];have h10:10^7<=10^K:=Nat.pow_le_pow_right (by omega) (by omega);exact Sz.mkRat (by omega) (by omega) (by omega)
theorem D4.sz{K:Nat}{p:Pt}(h:D4 p)(hK:7<=K):Ar K p:=⟨h.x.sz hK,h.y.sz hK⟩
theorem Ju.sz{K:Nat}{s:Sg}(h:Ju s)(hK:7<=K):Ei K s:=⟨h.a.sz hK,h.b.sz hK⟩
theorem ej{x y:Int}{m n:Nat}(h1:x.natAbs<=m)(h2:y.natAbs<=n):(x*y).natAbs<=m*n:=by
 rw [Int.natAbs_mul];exact Nat.mul_le_mul h1 h2
theorem mN{p a b:Pt}(hp:D4 p)(ha:D4 a)(hb:D4 b):Iy 8000000000000 (Al p a b):=by
 obtain⟨⟨p1,Dx,e1⟩,⟨p2,KT,e2⟩⟩:=hp;obtain⟨⟨a1,ha1,e3⟩,⟨a2,ha2,e4⟩⟩:=ha;obtain⟨⟨b1,hb1,e5⟩,⟨b2,hb2,e6⟩⟩:=hb;refine⟨(a1-p1)*(b2-p2)-(a2-p2)*(b1-p1),?_,?_⟩
 ·have h1:=ej (x:=a1-p1) (y:=b2-p2) (m:=2000000) (n:=2000000) (by omega) (by omega);have h2:=ej (x:=a2-p2) (y:=b1-p1) (m:=2000000) (n:=2000000) (by omega) (by omega);generalize (a1-p1)*(b2-p2)=X at *;generalize (a2-p2)*(b1-p1)=Y at *;omega
 ·unfold Al;rw [e1,e2,e3,e4,e5,e6];simp only [Rat.intCast_sub,Rat.intCast_mul]
  grind
theorem Iy.add{m n:Nat}{p q:Rat}(hp:Iy m p)(hq:Iy n q):Iy (m+n) (p+q):=by
 obtain⟨a,ha,rfl⟩:=hp;obtain⟨b,hb,rfl⟩:=hq;refine⟨a+b,by omega,?_⟩;rw [Rat.intCast_add];grind
theorem Iy.mono{m n:Nat}{p:Rat}(hp:Iy m p)(h:m<=n):Iy n p:=by
 obtain⟨a,ha,rfl⟩:=hp;exact⟨a,by omega,rfl⟩
section
open Go.Shelf
attribute [local go_sem] Oper.semAt_some
theorem AcJ{w w':World}(h:Aa w w')(row:Option Nat):w.grownBy w' row:=⟨h.os,h.tape,h.output,h.size,fun k hk _=>h.block k hk⟩
def Bv(p:List Pt)(k:Nat):Pt×Pt:=(p.getD k ⟨0,0⟩,p.getD ((k+1)%p.length) ⟨0,0⟩)
theorem lW{a:Act}{l:List Value}{ds:List Deferred}(hs:a.tmps.size=l.length)(h:∀d (hd:d<l.length),a.eval (.tmp d)=l[d])(hd:a.defers=ds):a = {tmps:=l.toArray,defers:=ds}:=by
 obtain⟨t,d⟩:=a;simp only at hd hs;subst hd
 congr 1
 apply Array.ext
 ·simpa using hs
 ·intro i h1 h2;have:=h i (by simpa using h2);simp only [Act.eval,Array.getD_eq_getD_getElem?,Array.getElem?_eq_getElem h1,Option.getD_some]at this
  simpa using this
section
variable {F : Fence} {n : Nat} {P : Program} {ops : Array Oper} {Q : Exit → Act → World → Prop}
theorem Ak8{β:Type}(s m c:Nat)(val:β→Nat→Value)(b0:β)(R:β→World→Prop){a0:Act}{w:World}(hb:okB s m ops=true)(hB:s+m<=a0.tmps.size)
  (hval:∀(i:Nat) (o:Oper),ops[i]?=some o→i≠c→(waits o).contains c=false→∀b,val b i=val b0 i)
  (hstep:∀b listed a w' i o,BU .any ops (val b) a0 listed a→ops[i]?=some o→i≠c→listed.getD i false=false→(∀e∈o.after,Region.binds .any e=true→listed.getD e.on false=true)→(listed.getD c false=false→w'=w)→
   ∀K:Act→World→Prop,K (a.put o.dst (val b i)) w'→Oper.wpIn F n P o a w' K Q)
  (AdF:∀b listed a o,BU .any ops (val b) a0 listed a→ops[c]?=some o→(∀e∈o.after,Region.binds .any e=true→listed.getD e.on false=true)→
   ∀K:Act→World→Prop,(∀b' w',R b' w'→K (a.put o.dst (val b' c)) w')→Oper.wpIn F n P o a w K Q)
  (hend:∀b listed a w',BU .any ops (val b) a0 listed a→a.defers=a0.defers→(∀i,i<ops.size→listed.getD i false=true)→R b w'→Q .normal a w') (hc:c<ops.size) :
  wpAnyIn F n P .any ops Q ops.size (Array.replicate ops.size false) a0 w:=by
 refine Ak9 (fun listed a w'=>∃b,(BU .any ops (val b) a0 listed a/\a.defers=a0.defers)/\(listed.getD c false=false→w'=w)/\(listed.getD c false=true→R b w')) (fun i o ho=>(Ii hb i o ho).2.2) (fun i o ho=>(Ii hb i o ho).2.1) ?_ ?_ _ _ _ _ ⟨b0,⟨BU.start,rfl⟩,fun _=>rfl,fun h=>by rw [getD_replicate_false]at h;cases h⟩ (by simp) (eL _)
 ·rintro listed a w' i o ⟨b,⟨Aj,FP⟩,h0,h1⟩ hs Ax ho hd K hK;have vK:∀v,(a.put o.dst v).defers=a0.defers:=fun v=>(by rw [←FP];cases o.dst<;>rfl);have hi:i<ops.size:=(Array.getElem?_eq_some_iff.1 ho).1;have hr:i∈Region.ready .any ops listed:=mem_ready.2 ⟨getD_in (by omega) Ax,o,ho,hd⟩;by_cases Pw:i=c
  ·subst Pw;obtain rfl:=h0 Ax
   have cH:∀b',BU .any ops (val b') a0 listed a:=fun b'=>⟨Aj.sz,Aj.lsz,fun j oj d hj hl aK=>by
    have Si:j≠i:=fun e=>by subst e;rw [Ax]at hl;cases hl
    have hw:(waits oj).contains i=false:=by
     cases e:(waits oj).contains i
     ·rfl
     ·have:=Aj.waits hj hl i e;rw [Ax]at this;cases this
    rw [hval j oj hj Si hw b',←hval j oj hj Si hw b]
    exact Aj.done j oj d hj hl aK,Aj.rest,Aj.closed⟩
   refine AdF b listed a o Aj ho hd K fun b' w2 hR=>hK _ _ ⟨b',⟨(cH b').step (fun i o ho=>(Ii hb i o ho).1) hB ho hr,vK _⟩,fun h=>?_,fun _=>hR⟩;rw [I7 (by omega)]at h;cases h
  ·refine hstep b listed a w' i o Aj ho Pw Ax hd h0 K (hK _ _ ⟨b,⟨Aj.step (fun i o ho=>(Ii hb i o ho).1) hB ho hr,vK _⟩,?_,?_⟩)
   ·rw [getD_set_ne false Pw];exact h0
   ·rw [getD_set_ne false Pw];exact h1
 ·rintro listed a w' ⟨b,⟨Aj,FP⟩,h0,h1⟩ hall;exact hend b listed a w' Aj FP hall (h1 (hall c hc))
end
theorem Aig{α:Type}(fe:α→Pt×Pt)(n:Nat)(hn:1<=n)(l Bs n₀:Nat)(A:Option Addr)(cap:Nat)(pg:List Pt)(g:Nat→α)(hg:∀k,k<pg.length→fe (g k)=Bv pg k)(J Jx:List α→World→Prop)
  (W:World) (hJ:AbidesFrom W.heap.size J) (hY:∀pre x W,J pre W→pre.length<pg.length→YieldAt Fence.wide (n-1) Tryz.prog l #[Ak (fe x).1,Ak (fe x).2] W fun e W'=>
   (e=.returned (.bool true)/\J (pre ++ [x]) W'/\BB n₀ Bs W W')∨(e=.returned (.bool false)/\Jx (pre ++ [x]) W'))
  (Rv:W.cell? ⟨Bs,0,none⟩=some (.slice A pg.length cap)) (hBlt:Bs<W.heap.size) (bV:n₀<=W.heap.size) (hlen:pg.length<=1000)
  (hc:0<pg.length→∃b o,b<n₀/\A=some ⟨b,o,none⟩/\∀j (h:j<pg.length),W.cell? ⟨b,o+j*2,none⟩=some (S (R pg[j].x))/\W.cell? ⟨b,o+j*2+1,none⟩=some (S (R pg[j].y))) (h0:J [] W) :
  CallsIn Fence.wide n Tryz.prog 252 #[.func (.yield l) #[] #[],.pointer (some ⟨Bs,0,none⟩)] W fun e W'=>(∃v,e=.returned v)/\
   ((∃ys,ys=upto g pg.length/\J ys W')∨(∃pre,(∃k,k<=pg.length/\pre=upto g k)/\Jx pre W')):=by
 have hmo:Tryz.prog.follows .mixedOrders=true:=(by kernel_rfl);refine callsIn_of_wp Tryz.func252 rfl trivial ?_ rfl;simp only [Tryz.ntmps252,List.size_toArray,List.length_cons,List.length_nil,Nat.reduceAdd,Nat.reduceSub,Array.replicate_succ,Array.replicate_zero,List.push_toArray,List.append_toArray,List.nil_append,List.cons_append];gi_wp2
 gi_loopw [7] (fun i wr=>∃k:Nat,k<=pg.length/\i=.int .i64 (k:Nat)/\J (upto g k) wr/\BB n₀ Bs W wr/\W.heap.size<=wr.heap.size)
  (fun i _=>pg.length-(intOf i).toNat)
 case atStart=>exact⟨0,Nat.zero_le _,rfl,h0,BB.refl _ _ _,AmX _⟩
 case round=>
  obtain⟨k,hk,rfl,hJs,FV,dE⟩:=hrel;by_cases hlt:k<pg.length
  ·obtain⟨bp,oo,hb,rfl,hcs⟩:=hc (by omega);obtain⟨q,hq⟩:=AmT ((k+1)%pg.length);have JD:q<pg.length:=by rw [hq];exact Nat.mod_lt _ (by omega)
   have Py:(((k:Int)+1)).tmod (pg.length:Int)=(q:Int):=by rw [Int.tmod_eq_emod_of_nonneg (by omega),hq,Int.natCast_emod];rfl
   have Aej:(((k:Int)+1))%(pg.length:Int)=(q:Int):=(by rw [hq,Int.natCast_emod];rfl);have VH:¬((pg.length:Int)=0):=(by omega);have xE:¬(pg.length=0):=(by omega);have Aex:((pg.length:Int) == 0)=false:=beq_false_of_ne VH;have hqw:IntKind.wrap .i64 (q:Int)=(q:Int):=Ane _ (by omega);have So:IntKind.wrap .i64 ((k:Int)+1)=(k:Int)+1:=Ane _ (by omega)
   obtain⟨a0,b0,ha0,hb0,CL⟩:∃a0 b0,a0=pg[k]/\b0=pg[q]/\fe (g k)=(a0,b0):=⟨_,_,rfl,rfl,by
    rw [hg k hlt];unfold Bv;rw [←hq];simp [List.getD_eq_getElem?_getD,Anc hlt,Anc JD]⟩
   have ca:=hcs k hlt;have cb:=hcs q JD;rw [←ha0]at ca;rw [←hb0]at cb;have K0:=fun (a:Addr) (v:Value) (h:a.block<n₀) (h2:W.cell? a=some v)=>(FV.below.cell (p:=a) h).trans h2;have Y8:=K0 _ _ hb ca.1;have nJ:=K0 _ _ hb ca.2;have QO:=K0 _ _ hb cb.1;have QP:=K0 _ _ hb cb.2;have FM:=(World.cell?_of_block (a:=⟨Bs,0,none⟩) FV.box).trans Rv;have EA:=(Aa.refl wr).alloc (.cells #[S (R a0.x),S (R a0.y)] 94);have Aq:=AmW wr (.cells #[S (R a0.x),S (R a0.y)] 94);have hJ1:=hJ _ wr _ none hJs (AcJ EA.drew none) (fun r e=>by cases e);have sP:=FV.trans (BB.of_ext (Bs:=Bs) EA.drew (Ani bV dE) (Anh hBlt dE));obtain⟨fn,tmps,assign,body,hy,hR⟩:=hY _ (g k) _ hJ1 (by rw [upto_length];exact hlt);rw [CL]at hy;unfold Ak at hy;have hk0:(0:Int)<=(k:Int):=(by omega);have Ci:(k:Int)<(pg.length:Int):=(by omega);have Ae8:(0:Int)<=(q:Int):=(by omega);have Ae9:(q:Int)<(pg.length:Int):=(by omega);have hm0:(0:Int)<(pg.length:Int):=(by omega);have HQ:=AmU hq;have HGK:=AmU CL
   have HR:=hR.mono (R':=fun e W'=>∃b,e=.returned (.bool b)/\((b=true/\J (upto g k ++ [g k]) W'/\BB n₀ Bs (wr.alloc (.cells #[S (R a0.x),S (R a0.y)] 94)).drew W')∨(b=false/\Jx (upto g k ++ [g k]) W'))) (by
    rintro e W' (⟨h1,h2⟩|⟨h1,h2⟩)
    ·exact⟨true,h1,.inl ⟨rfl,h2⟩⟩
    ·exact⟨false,h1,.inr ⟨rfl,h2⟩⟩)
   clear hR hcs hc Rv ca cb ha0 hb0 hq CL K0 hJs;gi_wp2;unfold S at Aq hJ1 sP hy HR EA Y8 nJ QO QP;generalize wr.alloc (.cells #[.string ⟨(R a0.x).toArray⟩,.string ⟨(R a0.y).toArray⟩] 94)=VA at *;obtain⟨ba,Mk⟩:=AmT wr.heap.size;rw [←Mk]at Aq ⊢;clear Mk;have x0:=Ab (o:=0) Aq rfl;have x1:=Ab (o:=1) Aq rfl;have x2:=EA.cellS QO;have x3:=EA.cellS QP;have x4:=EA.cellS FM;have AeS:W.heap.size<=VA.heap.size:=Ani dE EA.size;clear Y8 nJ QO QP FM EA Aq FV;refine wpIn_region_any hmo ?_
   change wpAnyIn _ _ _ _ _ _ _ _ _ (World.drew _)
   refine Ak8 12 12 10 (fun (b:Bool) i=>#[.func (.yield l) #[] #[],.agg #[S (R a0.x),S (R a0.y)],.slice (some ⟨bp,oo,none⟩) pg.length cap,.int .i64 (k:Nat),.int .i64 ((k:Int)+1),.slice (some ⟨bp,oo,none⟩) pg.length cap,.int .i64 (pg.length:Nat),.int .i64 (q:Nat),.pointer (some ⟨bp,oo+q*2,none⟩),.agg #[S (R b0.x),S (R b0.y)],.bool b,.bool (!b)].getD i undef) true
    (fun b W'=>(b=true/\J (upto g k ++ [g k]) W'/\BB n₀ Bs VA.drew W')∨(b=false/\Jx (upto g k ++ [g k]) W')) (by kernel_rfl) (by simp) ?_ ?_ ?_ ?_ (by simp)
   ·intro i o ho Pw hw b;have hi:i<12:=(Array.getElem?_eq_some_iff.1 ho).1
    rcases(by omega:i=0∨i=1∨i=2∨i=3∨i=4∨i=5∨i=6∨i=7∨i=8∨i=9∨i=11)with rfl|rfl|rfl|rfl|rfl|rfl|rfl|rfl|rfl|rfl|rfl
    case inr.inr.inr.inr.inr.inr.inr.inr.inr.inr=>
     simp only [List.getElem?_toArray,List.getElem?_cons_zero,List.getElem?_cons_succ,Anb]at ho;subst ho;have hw2:=hw.symm.trans (show _=true by kernel_rfl)
     cases hw2
    all_goals rfl
   ·intro bv listed a w' i o Aj ho Pw Ax BH hw0 K hK;have hi:i<12:=(Array.getElem?_eq_some_iff.1 ho).1;have e0:=Aj.out (s:=12) (m:=12) (by kernel_rfl) (d:=0) (by omega) rfl;have e1:=Aj.out (s:=12) (m:=12) (by kernel_rfl) (d:=1) (by omega) rfl;have e3:=Aj.out (s:=12) (m:=12) (by kernel_rfl) (d:=3) (by omega) rfl;have e4:=Aj.out (s:=12) (m:=12) (by kernel_rfl) (d:=4) (by omega) rfl;have hval:=fun i {d} hd hi hl {v} hv=>Aj.val (s:=12) (m:=12) (by kernel_rfl) i (d:=d) hd hi hl (v:=v) hv;refine⟨fun _ _=>trivial,?_⟩;rw [Oper.semAt_eq _ _ _ (fE (l:=_) (by kernel_rfl) i o ho)];by_cases AlR:i<10
    ·have h10:listed.getD 10 false=false:=by
      cases h:listed.getD 10 false
      ·rfl
      ·exfalso
       have g0:=Aj.waits (j:=10) rfl h 0 (by kernel_rfl);have g1:=Aj.waits (j:=10) rfl h 1 (by kernel_rfl);have g9:=Aj.waits (j:=10) rfl h 9 (by kernel_rfl);have g8:=Aj.waits (j:=9) rfl g9 8 (by kernel_rfl);have g2:=Aj.waits (j:=8) rfl g8 2 (by kernel_rfl);have g7:=Aj.waits (j:=8) rfl g8 7 (by kernel_rfl);have g4:=Aj.waits (j:=7) rfl g7 4 (by kernel_rfl);have g6:=Aj.waits (j:=7) rfl g7 6 (by kernel_rfl);have g3:=Aj.waits (j:=4) rfl g4 3 (by kernel_rfl);have g5:=Aj.waits (j:=6) rfl g6 5 (by kernel_rfl)
       rcases(by omega:i=0∨i=1∨i=2∨i=3∨i=4∨i=5∨i=6∨i=7∨i=8∨i=9)with rfl|rfl|rfl|rfl|rfl|rfl|rfl|rfl|rfl|rfl<;>simp_all
     obtain rfl:=hw0 h10;clear hw0 h10;have y0:VA.drew.cell? ⟨ba,0,none⟩=some (S (R a0.x)):=x0;have y1:VA.drew.cell? ⟨ba,1,none⟩=some (S (R a0.y)):=x1;have y2:VA.drew.cell? ⟨bp,oo+q*2,none⟩=some (S (R b0.x)):=x2;have y3:VA.drew.cell? ⟨bp,oo+q*2+1,none⟩=some (S (R b0.y)):=x3;have y4:VA.drew.cell? ⟨Bs,0,none⟩=some (.slice (some ⟨bp,oo,none⟩) pg.length cap):=x4
     rcases(by omega:i=0∨i=1∨i=2∨i=3∨i=4∨i=5∨i=6∨i=7∨i=8∨i=9)with rfl|rfl|rfl|rfl|rfl|rfl|rfl|rfl|rfl|rfl
     all_goals simp only [List.getElem?_toArray,List.getElem?_cons_zero,List.getElem?_cons_succ,Anb]at ho
     all_goals subst ho
     all_goals have AM:=Ka BH
     all_goals simp only [Act.eval]at e0 e1 e3 e4
     ·clear hval AM BH Ax;simp [execOp,go_sem,Oper.uponIn,e0];exact hK
     ·clear hval AM BH Ax;simp [execOp,go_sem,Oper.uponIn,e4,y0,y1];exact hK
     ·clear hval AM BH Ax;simp [execOp,go_sem,Oper.uponIn,e1,y4];exact hK
     ·clear hval AM BH Ax;simp [execOp,go_sem,Oper.uponIn,e3];exact hK
     ·have f15:=hval 3 (d:=15) rfl (by omega) (AM 3 (by kernel_rfl)) rfl;simp only [Act.eval]at f15;clear hval AM BH Ax;simp [execOp,go_sem,Oper.uponIn,f15,So];exact hK
     ·clear hval AM BH Ax;simp [execOp,go_sem,Oper.uponIn,e1,y4];exact hK
     ·have f17:=hval 5 (d:=17) rfl (by omega) (AM 5 (by kernel_rfl)) rfl;simp only [Act.eval]at f17;clear hval AM BH Ax;simp [go_sem,Oper.uponIn,f17];exact hK
     ·have f16:=hval 4 (d:=16) rfl (by omega) (AM 4 (by kernel_rfl)) rfl;have f18:=hval 6 (d:=18) rfl (by omega) (AM 6 (by kernel_rfl)) rfl;simp only [Act.eval]at f16 f18;clear hval AM BH Ax;simp [execOp,go_sem,Oper.uponIn,f16,f18,xE,Py];exact hK
     ·have f14:=hval 2 (d:=14) rfl (by omega) (AM 2 (by kernel_rfl)) rfl;have f19:=hval 7 (d:=19) rfl (by omega) (AM 7 (by kernel_rfl)) rfl;simp only [Act.eval]at f14 f19;clear hval AM BH Ax;simp [execOp,go_sem,Oper.uponIn,f14,f19,JD];exact hK
     ·have f20:=hval 8 (d:=20) rfl (by omega) (AM 8 (by kernel_rfl)) rfl;simp only [Act.eval]at f20;clear hval AM BH Ax;simp [execOp,go_sem,Oper.uponIn,f20,y2,y3];exact hK
    ·obtain rfl:i=11:=(by omega);simp only [List.getElem?_toArray,List.getElem?_cons_zero,List.getElem?_cons_succ,Anb]at ho;subst ho;have AM:=Ka BH;have f22:=hval 10 (d:=22) rfl (by omega) (AM 10 (by kernel_rfl)) rfl;simp only [Act.eval]at f22;clear hval AM BH Ax;simp [execOp,go_sem,Oper.uponIn,f22];exact hK
   ·intro bv listed a o Aj ho BH K hK;have hval:=fun i {d} hd hi hl {v} hv=>Aj.val (s:=12) (m:=12) (by kernel_rfl) i (d:=d) hd hi hl (v:=v) hv;have g0:=Ka BH 0;simp only [List.getElem?_toArray,List.getElem?_cons_zero,List.getElem?_cons_succ,Anb]at ho;subst ho;have AM:=Ka BH;have qT:=hval 0 (d:=12) rfl (by omega) (AM 0 (by kernel_rfl)) rfl;have qU:=hval 1 (d:=13) rfl (by omega) (AM 1 (by kernel_rfl)) rfl;have f21:=hval 9 (d:=21) rfl (by omega) (AM 9 (by kernel_rfl)) rfl;simp only [Act.eval]at qT qU f21;clear hval AM BH g0;refine⟨fun _ _=>trivial,?_⟩;rw [Oper.semAt_eq _ _ _ (fun c h=>by cases h)];simp [execOp,go_sem,Oper.uponIn,qT,qU,f21,hy];refine⟨fun _=>hn,HR.mono ?_⟩;rintro e W' ⟨b,rfl,hp⟩;exact hK b W' hp
   ·intro bv listed a w' Aj FP hall hp;have hval:=fun i {d} hd hi hl {v} hv=>Aj.val (s:=12) (m:=12) (by kernel_rfl) i (d:=d) hd hi hl (v:=v) hv;have hout:=fun {d} hd {v} hv=>Aj.out (s:=12) (m:=12) (by kernel_rfl) (d:=d) hd (v:=v) hv;have ha:=lW (a:=a) (l:=[.func (.yield l) #[] #[],.pointer (some ⟨Bs,0,none⟩),undef,.int .i64 (k:Nat),.pointer (some ⟨ba,0,none⟩),.slice (some ⟨bp,oo,none⟩) pg.length cap,.int .i64 (pg.length:Nat),.int .i64 (k:Nat),.bool true,.int .i64 (k:Nat),.pointer (some ⟨bp,oo+k*2,none⟩),.agg #[S (R a0.x),S (R a0.y)],.func (.yield l) #[] #[],.agg #[S (R a0.x),S (R a0.y)],.slice (some ⟨bp,oo,none⟩) pg.length cap,.int .i64 (k:Nat),.int .i64 ((k:Int)+1),.slice (some ⟨bp,oo,none⟩) pg.length cap,.int .i64 (pg.length:Nat),.int .i64 (q:Nat),.pointer (some ⟨bp,oo+q*2,none⟩),.agg #[S (R b0.x),S (R b0.y)],.bool bv,.bool (!bv),u24]) (by rw [Aj.sz];rfl) ?_ FP
    ·subst ha;clear hval hout Aj hall FP
     rcases hp with⟨rfl,hJ3,hk3⟩|⟨rfl,hJx3⟩
     ·gi_wp2;go_roundw
      case rel=>exact⟨k+1,hlt,by go_num,by rw [upto_succ];exact hJ3,sP.trans hk3,Ani AeS hk3.below.size⟩
      case measure=>simp [intOf];omega
     ·gi_wp2;refine bodyPost_ret (results_none rfl _ _ _) rfl ?_;exact⟨⟨_,rfl⟩,.inr ⟨_,⟨k+1,hlt,by rw [upto_succ]⟩,hJx3⟩⟩
    ·intro d hd;have BW:d<25:=hd
     rcases(by omega:d=0∨d=1∨d=2∨d=3∨d=4∨d=5∨d=6∨d=7∨d=8∨d=9∨d=10∨d=11∨d=24∨(12<=d/\d<24))with rfl|rfl|rfl|rfl|rfl|rfl|rfl|rfl|rfl|rfl|rfl|rfl|rfl|⟨h1,h2⟩
     case inr.inr.inr.inr.inr.inr.inr.inr.inr.inr.inr.inr.inr=>
      obtain⟨j,rfl⟩:∃j,d=12+j:=⟨d-12,by omega⟩;refine hval j rfl (by omega) (hall j (by simp;omega)) ?_
      rcases(by omega:j=0∨j=1∨j=2∨j=3∨j=4∨j=5∨j=6∨j=7∨j=8∨j=9∨j=10∨j=11)with rfl|rfl|rfl|rfl|rfl|rfl|rfl|rfl|rfl|rfl|rfl|rfl<;>rfl
     all_goals exact hout (by omega) rfl
  ·obtain rfl:k=pg.length:=(by omega);gi_wp2
   go_end0
   exact⟨⟨_,rfl⟩,.inl ⟨_,rfl,hJs⟩⟩
theorem jr(F:Fence)(n:Nat)(hf:F.fn 173)(hro:F.round=none)(A:Option Addr)(m c:Nat)(w:World) :
  CallsIn F n Tryz.prog 173 #[.slice A m c] w fun e w'=>e=.returned (.func (.func 252) #[] #[.pointer (some ⟨w.heap.size,0,none⟩)])/\w'=w.alloc (.cells #[.slice A m c] 33):=by
 refine callsIn_of_wp Tryz.func173 rfl hf ?_ hro;simp only [Tryz.ntmps173,List.size_toArray,List.length_cons,List.length_nil,Nat.reduceAdd,Nat.reduceSub,Array.replicate_succ,Array.replicate_zero,List.push_toArray,List.append_toArray,List.nil_append,List.cons_append];gi_wp2;go_ret;exact⟨rfl,rfl⟩
theorem js{α:Type}(fe:α→Pt×Pt)(n:Nat)(hn:1<=n)(Bs n₀:Nat)(A:Option Addr)(cap:Nat)(pg:List Pt)(g:Nat→α)(hg:∀k,k<pg.length→fe (g k)=Bv pg k)(w:World)(Zp:Bs<w.heap.size)(bV:n₀<=w.heap.size)
  (hlen:pg.length<=1000) (hc:w.cell? ⟨Bs,0,none⟩=some (.slice A pg.length cap)) (hv:∃w0,Ae w0 A (flat (Ao pg))/\w0.heap.size<=n₀/\Aa w0 w) :
  SeqStopsK Fence.wide n Tryz.prog 252 #[.pointer (some ⟨Bs,0,none⟩)] (fun x:α=>#[Ak (fe x).1,Ak (fe x).2]) (BB n₀ Bs) (fun ys=>ys=upto g pg.length)
   (fun pre=>∃k,k<=pg.length/\pre=upto g k) pg.length w:=fun l J Jx W hW hJ _ hY h0=>by
 obtain⟨w0,hr,hs,hx⟩:=hv;have hsz:=hW.size;refine Aig fe n hn l Bs n₀ A cap pg g hg J Jx W hJ hY ((hW.cell (p:=⟨Bs,0,none⟩) Zp).trans hc) (by omega) (by omega) hlen ?_ h0;intro hp;obtain⟨b,o,e,h1,h2⟩:=Cy hr hp;have hb:b<w0.heap.size:=World.block_lt_of_cell? w0 _ h1;refine⟨b,o,by omega,e,fun j hj=>?_⟩;obtain⟨b',o',e',h3,h4⟩:=Cy hr hj;rw [e]at e';simp only [Anb,Addr.mk.injEq,and_true]at e';obtain⟨rfl,rfl⟩:=e';rw [hW.cell (p:=⟨b,o+j*2,none⟩) (by show b<w.heap.size;omega),hW.cell (p:=⟨b,o+j*2+1,none⟩) (by show b<w.heap.size;omega)];exact⟨hx.cellS h3,hx.cellS h4⟩
end
end Go.Proofs.YtbejphgbbpplbaaGreatDoor
