/- K16: ShD2A ShBM ShN1 ShN2. -/
import Derived.Test.YtgnejnampofhoaaGreatDoorK15
import Derived.Test.YtgnejnampofhoaaGreatDoorK13
set_option maxRecDepth 100000
set_option maxHeartbeats 4000000
namespace Go.Proofs.YtgnejnampofhoaaGreatDoor
open Go.RowKit Kl
def Lu(q:Rat):Prop:=∃a:Int,a.natAbs<=9/\q=(a:Rat)/2
structure Cz(p:Pt):Prop where
 x:Lu p.x
 y:Lu p.y
structure F7(s:Sg):Prop where
 a:Cz s.a
 b:Cz s.b
def Ir(n:Nat)(q:Rat):Prop:=∃a:Int,a.natAbs<=n/\q=(a:Rat)/4
theorem Ir.sz{n K:Nat}{q:Rat}(h:Ir n q)(hn:n<10^K)(hK:0<K):Sz K q:=by
 obtain⟨a,ha,rfl⟩:=h;have:(a:Rat)/4=mkRat a 4:=(by rw [Rat.mkRat_eq_div];rfl);rw [this];have h10:10^1<=10^K:=Nat.pow_le_pow_right (by omega) (by omega);exact Sz.mkRat (by omega) (by omega) (by omega)
theorem Lu.sz{K:Nat}{q:Rat}(h:Lu q)(hK:1<=K):Sz K q:=by
 obtain⟨a,ha,rfl⟩:=h;have:(a:Rat)/2=mkRat a 2:=(by rw [Rat.mkRat_eq_div];rfl);rw [this];have h10:10^1<=10^K:=Nat.pow_le_pow_right (by omega) (by omega);exact Sz.mkRat (by omega) (by omega) (by omega)
theorem Cz.sz{K:Nat}{p:Pt}(h:Cz p)(hK:1<=K):Az K p:=⟨h.x.sz hK,h.y.sz hK⟩
theorem F7.sz{K:Nat}{s:Sg}(h:F7 s)(hK:1<=K):EW K s:=⟨h.a.sz hK,h.b.sz hK⟩
theorem US{x y:Int}{m n:Nat}(h1:x.natAbs<=m)(h2:y.natAbs<=n):(x*y).natAbs<=m*n:=by
 rw [Int.natAbs_mul];exact Nat.mul_le_mul h1 h2
theorem iL{p a b:Pt}(hp:Cz p)(ha:Cz a)(hb:Cz b):Ir 648 (Ar p a b):=by
 obtain⟨⟨p1,K1,e1⟩,⟨p2,Z1,e2⟩⟩:=hp;obtain⟨⟨a1,ha1,e3⟩,⟨a2,ha2,e4⟩⟩:=ha;obtain⟨⟨b1,hb1,e5⟩,⟨b2,hb2,e6⟩⟩:=hb;refine⟨(a1-p1)*(b2-p2)-(a2-p2)*(b1-p1),?_,?_⟩
 ·have h1:=US (x:=a1-p1) (y:=b2-p2) (m:=18) (n:=18) (by omega) (by omega);have h2:=US (x:=a2-p2) (y:=b1-p1) (m:=18) (n:=18) (by omega) (by omega);generalize (a1-p1)*(b2-p2)=X at *;generalize (a2-p2)*(b1-p1)=Y at *;omega
 ·unfold Ar;rw [e1,e2,e3,e4,e5,e6];simp only [Rat.intCast_sub,Rat.intCast_mul]
  grind
theorem Ir.add{m n:Nat}{p q:Rat}(hp:Ir m p)(hq:Ir n q):Ir (m+n) (p+q):=by
 obtain⟨a,ha,rfl⟩:=hp;obtain⟨b,hb,rfl⟩:=hq;refine⟨a+b,by omega,?_⟩;rw [Rat.intCast_add];grind
theorem Ir.mono{m n:Nat}{p:Rat}(hp:Ir m p)(h:m<=n):Ir n p:=by
 obtain⟨a,ha,rfl⟩:=hp;exact⟨a,by omega,rfl⟩
section
open Go.Shelf
attribute [local go_sem] Oper.semAt_some
theorem Aal{w w':World}(h:Ac w w')(row:Option Nat):w.grownBy w' row:=⟨h.os,h.tape,h.output,h.size,fun k hk _=>h.block k hk⟩
def Bz(p:List Pt)(k:Nat):Pt×Pt:=(p.getD k ⟨0,0⟩,p.getD ((k+1)%p.length) ⟨0,0⟩)
theorem gP{a:Act}{l:List Value}{ds:List Deferred}(hs:a.tmps.size=l.length)(h:∀d (hd:d<l.length),a.eval (.tmp d)=l[d])(hd:a.defers=ds):a = {tmps:=l.toArray,defers:=ds}:=by
 obtain⟨t,d⟩:=a;simp only at hd hs;subst hd
 congr 1
 apply Array.ext
 ·simpa using hs
 ·intro i h1 h2;have:=h i (by simpa using h2);simp only [Act.eval,Array.getD_eq_getD_getElem?,Array.getElem?_eq_getElem h1,Option.getD_some]at this
  simpa using this
section
variable {F : Fence} {n : Nat} {P : Program} {ops : Array Oper} {Q : Exit → Act → World → Prop}
theorem Ahj{β:Type}(s m c:Nat)(val:β→Nat→Value)(b0:β)(R:β→World→Prop){a0:Act}{w:World}(hb:okB s m ops=true)(hB:s+m<=a0.tmps.size)
  (hval:∀(i:Nat) (o:Oper),ops[i]?=some o→i≠c→(waits o).contains c=false→∀b,val b i=val b0 i)
  (hstep:∀b listed a w' i o,CX .any ops (val b) a0 listed a→ops[i]?=some o→i≠c→listed.getD i false=false→(∀e∈o.after,Region.binds .any e=true→listed.getD e.on false=true)→(listed.getD c false=false→w'=w)→
   ∀K:Act→World→Prop,K (a.put o.dst (val b i)) w'→Oper.wpIn F n P o a w' K Q)
  (AaU:∀b listed a o,CX .any ops (val b) a0 listed a→ops[c]?=some o→(∀e∈o.after,Region.binds .any e=true→listed.getD e.on false=true)→
   ∀K:Act→World→Prop,(∀b' w',R b' w'→K (a.put o.dst (val b' c)) w')→Oper.wpIn F n P o a w K Q)
  (hend:∀b listed a w',CX .any ops (val b) a0 listed a→a.defers=a0.defers→(∀i,i<ops.size→listed.getD i false=true)→R b w'→Q .normal a w') (hc:c<ops.size) :
  wpAnyIn F n P .any ops Q ops.size (Array.replicate ops.size false) a0 w:=by
 refine Ahk (fun listed a w'=>∃b,(CX .any ops (val b) a0 listed a/\a.defers=a0.defers)/\(listed.getD c false=false→w'=w)/\(listed.getD c false=true→R b w')) (fun i o ho=>(KN hb i o ho).2.2) (fun i o ho=>(KN hb i o ho).2.1) ?_ ?_ _ _ _ _ ⟨b0,⟨CX.start,rfl⟩,fun _=>rfl,fun h=>by rw [getD_replicate_false]at h;cases h⟩ (by simp) (uY _)
 ·rintro listed a w' i o ⟨b,⟨Ap,FN⟩,h0,h1⟩ hs AQ ho hd K hK;have qK:∀v,(a.put o.dst v).defers=a0.defers:=fun v=>(by rw [←FN];cases o.dst<;>rfl);have hi:i<ops.size:=(Array.getElem?_eq_some_iff.1 ho).1;have hr:i∈Region.ready .any ops listed:=mem_ready.2 ⟨getD_in (by omega) AQ,o,ho,hd⟩;by_cases Jq:i=c
  ·subst Jq;obtain rfl:=h0 AQ
   have Zy:∀b',CX .any ops (val b') a0 listed a:=fun b'=>⟨Ap.sz,Ap.lsz,fun j oj d hj hl YO=>by
    have Gt:j≠i:=fun e=>by subst e;rw [AQ]at hl;cases hl
    have hw:(waits oj).contains i=false:=by
     cases e:(waits oj).contains i
     ·rfl
     ·have:=Ap.waits hj hl i e;rw [AQ]at this;cases this
    rw [hval j oj hj Gt hw b',←hval j oj hj Gt hw b]
    exact Ap.done j oj d hj hl YO,Ap.rest,Ap.closed⟩
   refine AaU b listed a o Ap ho hd K fun b' w2 hR=>hK _ _ ⟨b',⟨(Zy b').step (fun i o ho=>(KN hb i o ho).1) hB ho hr,qK _⟩,fun h=>?_,fun _=>hR⟩;rw [Qx (by omega)]at h;cases h
  ·refine hstep b listed a w' i o Ap ho Jq AQ hd h0 K (hK _ _ ⟨b,⟨Ap.step (fun i o ho=>(KN hb i o ho).1) hB ho hr,qK _⟩,?_,?_⟩)
   ·rw [getD_set_ne false Jq];exact h0
   ·rw [getD_set_ne false Jq];exact h1
 ·rintro listed a w' ⟨b,⟨Ap,FN⟩,h0,h1⟩ hall;exact hend b listed a w' Ap FN hall (h1 (hall c hc))
end
theorem AeO{α:Type}(fe:α→Pt×Pt)(n:Nat)(hn:1<=n)(l Bs n₀:Nat)(A:Option Addr)(cap:Nat)(pg:List Pt)(g:Nat→α)(hg:∀k,k<pg.length→fe (g k)=Bz pg k)(J Jx:List α→World→Prop)
  (W:World) (hJ:AbidesFrom W.heap.size J) (hY:∀pre x W,J pre W→pre.length<pg.length→YieldAt Fence.wide (n-1) Tryz.prog l #[Ak (fe x).1,Ak (fe x).2] W fun e W'=>
   (e=.returned (.bool true)/\J (pre ++ [x]) W'/\Cj n₀ Bs W W')∨(e=.returned (.bool false)/\Jx (pre ++ [x]) W'))
  (mW:W.cell? ⟨Bs,0,none⟩=some (.slice A pg.length cap)) (hBlt:Bs<W.heap.size) (rV:n₀<=W.heap.size) (hlen:pg.length<=1000)
  (hc:0<pg.length→∃b o,b<n₀/\A=some ⟨b,o,none⟩/\∀j (h:j<pg.length),W.cell? ⟨b,o+j*2,none⟩=some (S (R pg[j].x))/\W.cell? ⟨b,o+j*2+1,none⟩=some (S (R pg[j].y))) (h0:J [] W) :
  CallsIn Fence.wide n Tryz.prog 272 #[.func (.yield l) #[] #[],.pointer (some ⟨Bs,0,none⟩)] W fun e W'=>(∃v,e=.returned v)/\
   ((∃ys,ys=upto g pg.length/\J ys W')∨(∃pre,(∃k,k<=pg.length/\pre=upto g k)/\Jx pre W')):=by
 have hmo:Tryz.prog.follows .mixedOrders=true:=(by kernel_rfl);refine callsIn_of_wp Tryz.func272 rfl trivial ?_ rfl;simp only [Tryz.ntmps272,List.size_toArray,List.length_cons,List.length_nil,Nat.reduceAdd,Nat.reduceSub,Array.replicate_succ,Array.replicate_zero,List.push_toArray,List.append_toArray,List.nil_append,List.cons_append];gi_wp2
 gi_loopw [7] (fun i wr=>∃k:Nat,k<=pg.length/\i=.int .i64 (k:Nat)/\J (upto g k) wr/\Cj n₀ Bs W wr/\W.heap.size<=wr.heap.size)
  (fun i _=>pg.length-(intOf i).toNat)
 case atStart=>exact⟨0,Nat.zero_le _,rfl,h0,Cj.refl _ _ _,Ajz _⟩
 case round=>
  obtain⟨k,hk,rfl,hJs,IA,ZG⟩:=hrel;by_cases hlt:k<pg.length
  ·obtain⟨bp,oo,hb,rfl,hcs⟩:=hc (by omega);obtain⟨q,hq⟩:=Ajv ((k+1)%pg.length);have K7:q<pg.length:=by rw [hq];exact Nat.mod_lt _ (by omega)
   have Mg:(((k:Int)+1)).tmod (pg.length:Int)=(q:Int):=by rw [Int.tmod_eq_emod_of_nonneg (by omega),hq,Int.natCast_emod];rfl
   have rH:(((k:Int)+1))%(pg.length:Int)=(q:Int):=(by rw [hq,Int.natCast_emod];rfl);have U2:¬((pg.length:Int)=0):=(by omega);have rU:¬(pg.length=0):=(by omega);have Ab6:((pg.length:Int) == 0)=false:=beq_false_of_ne U2;have sS:IntKind.wrap .i64 (q:Int)=(q:Int):=Aj5 _ (by omega);have OG:IntKind.wrap .i64 ((k:Int)+1)=(k:Int)+1:=Aj5 _ (by omega)
   obtain⟨a0,b0,ha0,hb0,FP⟩:∃a0 b0,a0=pg[k]/\b0=pg[q]/\fe (g k)=(a0,b0):=⟨_,_,rfl,rfl,by
    rw [hg k hlt];unfold Bz;rw [←hq];simp [List.getD_eq_getElem?_getD,Aj4 hlt,Aj4 K7]⟩
   have ca:=hcs k hlt;have cb:=hcs q K7;rw [←ha0]at ca;rw [←hb0]at cb;have K0:=fun (a:Addr) (v:Value) (h:a.block<n₀) (h2:W.cell? a=some v)=>(IA.below.cell (p:=a) h).trans h2;have jG:=K0 _ _ hb ca.1;have jH:=K0 _ _ hb ca.2;have WY:=K0 _ _ hb cb.1;have WZ:=K0 _ _ hb cb.2;have B8:=(World.cell?_of_block (a:=⟨Bs,0,none⟩) IA.box).trans mW;have EA:=(Ac.refl wr).alloc (.cells #[S (R a0.x),S (R a0.y)] 27);have Av:=Ajy wr (.cells #[S (R a0.x),S (R a0.y)] 27);have hJ1:=hJ _ wr _ none hJs (Aal EA.drew none) (fun r e=>by cases e);have nM:=IA.trans (Cj.of_ext (Bs:=Bs) EA.drew (Aj9 rV ZG) (Aj8 hBlt ZG));obtain⟨fn,tmps,assign,body,hy,hR⟩:=hY _ (g k) _ hJ1 (by rw [upto_length];exact hlt);rw [FP]at hy;unfold Ak at hy;have hk0:(0:Int)<=(k:Int):=(by omega);have Dn:(k:Int)<(pg.length:Int):=(by omega);have AbH:(0:Int)<=(q:Int):=(by omega);have AbI:(q:Int)<(pg.length:Int):=(by omega);have hm0:(0:Int)<(pg.length:Int):=(by omega);have HQ:=Ajw hq;have HGK:=Ajw FP
   have HR:=hR.mono (R':=fun e W'=>∃b,e=.returned (.bool b)/\((b=true/\J (upto g k ++ [g k]) W'/\Cj n₀ Bs (wr.alloc (.cells #[S (R a0.x),S (R a0.y)] 27)).drew W')∨(b=false/\Jx (upto g k ++ [g k]) W'))) (by
    rintro e W' (⟨h1,h2⟩|⟨h1,h2⟩)
    ·exact⟨true,h1,.inl ⟨rfl,h2⟩⟩
    ·exact⟨false,h1,.inr ⟨rfl,h2⟩⟩)
   clear hR hcs hc mW ca cb ha0 hb0 hq FP K0 hJs;gi_wp2;unfold S at Av hJ1 nM hy HR EA jG jH WY WZ;generalize wr.alloc (.cells #[.string ⟨(R a0.x).toArray⟩,.string ⟨(R a0.y).toArray⟩] 27)=VA at *;obtain⟨ba,LS⟩:=Ajv wr.heap.size;rw [←LS]at Av ⊢;clear LS;have x0:=Aa (o:=0) Av rfl;have x1:=Aa (o:=1) Av rfl;have x2:=EA.cellS WY;have x3:=EA.cellS WZ;have x4:=EA.cellS B8;have AbY:W.heap.size<=VA.heap.size:=Aj9 ZG EA.size;clear jG jH WY WZ B8 EA Av IA;refine wpIn_region_any hmo ?_
   change wpAnyIn _ _ _ _ _ _ _ _ _ (World.drew _)
   refine Ahj 12 12 10 (fun (b:Bool) i=>#[.func (.yield l) #[] #[],.agg #[S (R a0.x),S (R a0.y)],.slice (some ⟨bp,oo,none⟩) pg.length cap,.int .i64 (k:Nat),.int .i64 ((k:Int)+1),.slice (some ⟨bp,oo,none⟩) pg.length cap,.int .i64 (pg.length:Nat),.int .i64 (q:Nat),.pointer (some ⟨bp,oo+q*2,none⟩),.agg #[S (R b0.x),S (R b0.y)],.bool b,.bool (!b)].getD i undef) true
    (fun b W'=>(b=true/\J (upto g k ++ [g k]) W'/\Cj n₀ Bs VA.drew W')∨(b=false/\Jx (upto g k ++ [g k]) W')) (by kernel_rfl) (by simp) ?_ ?_ ?_ ?_ (by simp)
   ·intro i o ho Jq hw b;have hi:i<12:=(Array.getElem?_eq_some_iff.1 ho).1
    rcases(by omega:i=0∨i=1∨i=2∨i=3∨i=4∨i=5∨i=6∨i=7∨i=8∨i=9∨i=11)with rfl|rfl|rfl|rfl|rfl|rfl|rfl|rfl|rfl|rfl|rfl
    case inr.inr.inr.inr.inr.inr.inr.inr.inr.inr=>
     simp only [List.getElem?_toArray,List.getElem?_cons_zero,List.getElem?_cons_succ,Aj3]at ho;subst ho;have hw2:=hw.symm.trans (show _=true by kernel_rfl)
     cases hw2
    all_goals rfl
   ·intro bv listed a w' i o Ap ho Jq AQ EF hw0 K hK;have hi:i<12:=(Array.getElem?_eq_some_iff.1 ho).1;have e0:=Ap.out (s:=12) (m:=12) (by kernel_rfl) (d:=0) (by omega) rfl;have e1:=Ap.out (s:=12) (m:=12) (by kernel_rfl) (d:=1) (by omega) rfl;have e3:=Ap.out (s:=12) (m:=12) (by kernel_rfl) (d:=3) (by omega) rfl;have e4:=Ap.out (s:=12) (m:=12) (by kernel_rfl) (d:=4) (by omega) rfl;have hval:=fun i {d} hd hi hl {v} hv=>Ap.val (s:=12) (m:=12) (by kernel_rfl) i (d:=d) hd hi hl (v:=v) hv;refine⟨fun _ _=>trivial,?_⟩;rw [Oper.semAt_eq _ _ _ (vW (l:=_) (by kernel_rfl) i o ho)];by_cases Aiq:i<10
    ·have h10:listed.getD 10 false=false:=by
      cases h:listed.getD 10 false
      ·rfl
      ·exfalso
       have g0:=Ap.waits (j:=10) rfl h 0 (by kernel_rfl);have g1:=Ap.waits (j:=10) rfl h 1 (by kernel_rfl);have g9:=Ap.waits (j:=10) rfl h 9 (by kernel_rfl);have g8:=Ap.waits (j:=9) rfl g9 8 (by kernel_rfl);have g2:=Ap.waits (j:=8) rfl g8 2 (by kernel_rfl);have g7:=Ap.waits (j:=8) rfl g8 7 (by kernel_rfl);have g4:=Ap.waits (j:=7) rfl g7 4 (by kernel_rfl);have g6:=Ap.waits (j:=7) rfl g7 6 (by kernel_rfl);have g3:=Ap.waits (j:=4) rfl g4 3 (by kernel_rfl);have g5:=Ap.waits (j:=6) rfl g6 5 (by kernel_rfl)
       rcases(by omega:i=0∨i=1∨i=2∨i=3∨i=4∨i=5∨i=6∨i=7∨i=8∨i=9)with rfl|rfl|rfl|rfl|rfl|rfl|rfl|rfl|rfl|rfl<;>simp_all
     obtain rfl:=hw0 h10;clear hw0 h10;have y0:VA.drew.cell? ⟨ba,0,none⟩=some (S (R a0.x)):=x0;have y1:VA.drew.cell? ⟨ba,1,none⟩=some (S (R a0.y)):=x1;have y2:VA.drew.cell? ⟨bp,oo+q*2,none⟩=some (S (R b0.x)):=x2;have y3:VA.drew.cell? ⟨bp,oo+q*2+1,none⟩=some (S (R b0.y)):=x3;have y4:VA.drew.cell? ⟨Bs,0,none⟩=some (.slice (some ⟨bp,oo,none⟩) pg.length cap):=x4
     rcases(by omega:i=0∨i=1∨i=2∨i=3∨i=4∨i=5∨i=6∨i=7∨i=8∨i=9)with rfl|rfl|rfl|rfl|rfl|rfl|rfl|rfl|rfl|rfl
     all_goals simp only [List.getElem?_toArray,List.getElem?_cons_zero,List.getElem?_cons_succ,Aj3]at ho
     all_goals subst ho
     all_goals have Cx:=P7 EF
     all_goals simp only [Act.eval]at e0 e1 e3 e4
     ·clear hval Cx EF AQ;simp [execOp,go_sem,Oper.uponIn,e0];exact hK
     ·clear hval Cx EF AQ;simp [execOp,go_sem,Oper.uponIn,e4,y0,y1];exact hK
     ·clear hval Cx EF AQ;simp [execOp,go_sem,Oper.uponIn,e1,y4];exact hK
     ·clear hval Cx EF AQ;simp [execOp,go_sem,Oper.uponIn,e3];exact hK
     ·have f15:=hval 3 (d:=15) rfl (by omega) (Cx 3 (by kernel_rfl)) rfl;simp only [Act.eval]at f15;clear hval Cx EF AQ;simp [execOp,go_sem,Oper.uponIn,f15,OG];exact hK
     ·clear hval Cx EF AQ;simp [execOp,go_sem,Oper.uponIn,e1,y4];exact hK
     ·have f17:=hval 5 (d:=17) rfl (by omega) (Cx 5 (by kernel_rfl)) rfl;simp only [Act.eval]at f17;clear hval Cx EF AQ;simp [go_sem,Oper.uponIn,f17];exact hK
     ·have f16:=hval 4 (d:=16) rfl (by omega) (Cx 4 (by kernel_rfl)) rfl;have f18:=hval 6 (d:=18) rfl (by omega) (Cx 6 (by kernel_rfl)) rfl;simp only [Act.eval]at f16 f18;clear hval Cx EF AQ;simp [execOp,go_sem,Oper.uponIn,f16,f18,rU,Mg];exact hK
     ·have f14:=hval 2 (d:=14) rfl (by omega) (Cx 2 (by kernel_rfl)) rfl;have lZ:=hval 7 (d:=19) rfl (by omega) (Cx 7 (by kernel_rfl)) rfl;simp only [Act.eval]at f14 lZ;clear hval Cx EF AQ;simp [execOp,go_sem,Oper.uponIn,f14,lZ,K7];exact hK
     ·have f20:=hval 8 (d:=20) rfl (by omega) (Cx 8 (by kernel_rfl)) rfl;simp only [Act.eval]at f20;clear hval Cx EF AQ;simp [execOp,go_sem,Oper.uponIn,f20,y2,y3];exact hK
    ·obtain rfl:i=11:=(by omega);simp only [List.getElem?_toArray,List.getElem?_cons_zero,List.getElem?_cons_succ,Aj3]at ho;subst ho;have Cx:=P7 EF;have f22:=hval 10 (d:=22) rfl (by omega) (Cx 10 (by kernel_rfl)) rfl;simp only [Act.eval]at f22;clear hval Cx EF AQ;simp [execOp,go_sem,Oper.uponIn,f22];exact hK
   ·intro bv listed a o Ap ho EF K hK;have hval:=fun i {d} hd hi hl {v} hv=>Ap.val (s:=12) (m:=12) (by kernel_rfl) i (d:=d) hd hi hl (v:=v) hv;have g0:=P7 EF 0;simp only [List.getElem?_toArray,List.getElem?_cons_zero,List.getElem?_cons_succ,Aj3]at ho;subst ho;have Cx:=P7 EF;have lX:=hval 0 (d:=12) rfl (by omega) (Cx 0 (by kernel_rfl)) rfl;have lY:=hval 1 (d:=13) rfl (by omega) (Cx 1 (by kernel_rfl)) rfl;have f21:=hval 9 (d:=21) rfl (by omega) (Cx 9 (by kernel_rfl)) rfl;simp only [Act.eval]at lX lY f21;clear hval Cx EF g0;refine⟨fun _ _=>trivial,?_⟩;rw [Oper.semAt_eq _ _ _ (fun c h=>by cases h)];simp [execOp,go_sem,Oper.uponIn,lX,lY,f21,hy];refine⟨fun _=>hn,HR.mono ?_⟩;rintro e W' ⟨b,rfl,hp⟩;exact hK b W' hp
   ·intro bv listed a w' Ap FN hall hp;have hval:=fun i {d} hd hi hl {v} hv=>Ap.val (s:=12) (m:=12) (by kernel_rfl) i (d:=d) hd hi hl (v:=v) hv;have hout:=fun {d} hd {v} hv=>Ap.out (s:=12) (m:=12) (by kernel_rfl) (d:=d) hd (v:=v) hv;have ha:=gP (a:=a) (l:=[.func (.yield l) #[] #[],.pointer (some ⟨Bs,0,none⟩),undef,.int .i64 (k:Nat),.pointer (some ⟨ba,0,none⟩),.slice (some ⟨bp,oo,none⟩) pg.length cap,.int .i64 (pg.length:Nat),.int .i64 (k:Nat),.bool true,.int .i64 (k:Nat),.pointer (some ⟨bp,oo+k*2,none⟩),.agg #[S (R a0.x),S (R a0.y)],.func (.yield l) #[] #[],.agg #[S (R a0.x),S (R a0.y)],.slice (some ⟨bp,oo,none⟩) pg.length cap,.int .i64 (k:Nat),.int .i64 ((k:Int)+1),.slice (some ⟨bp,oo,none⟩) pg.length cap,.int .i64 (pg.length:Nat),.int .i64 (q:Nat),.pointer (some ⟨bp,oo+q*2,none⟩),.agg #[S (R b0.x),S (R b0.y)],.bool bv,.bool (!bv),u24]) (by rw [Ap.sz];rfl) ?_ FN
    ·subst ha;clear hval hout Ap hall FN
     rcases hp with⟨rfl,hJ3,hk3⟩|⟨rfl,hJx3⟩
     ·gi_wp2;go_roundw
      case rel=>exact⟨k+1,hlt,by go_num,by rw [upto_succ];exact hJ3,nM.trans hk3,Aj9 AbY hk3.below.size⟩
      case measure=>simp [intOf];omega
     ·gi_wp2;refine bodyPost_ret (results_none rfl _ _ _) rfl ?_;exact⟨⟨_,rfl⟩,.inr ⟨_,⟨k+1,hlt,by rw [upto_succ]⟩,hJx3⟩⟩
    ·intro d hd;have C9:d<25:=hd
     rcases(by omega:d=0∨d=1∨d=2∨d=3∨d=4∨d=5∨d=6∨d=7∨d=8∨d=9∨d=10∨d=11∨d=24∨(12<=d/\d<24))with rfl|rfl|rfl|rfl|rfl|rfl|rfl|rfl|rfl|rfl|rfl|rfl|rfl|⟨h1,h2⟩
     case inr.inr.inr.inr.inr.inr.inr.inr.inr.inr.inr.inr.inr=>
      obtain⟨j,rfl⟩:∃j,d=12+j:=⟨d-12,by omega⟩;refine hval j rfl (by omega) (hall j (by simp;omega)) ?_
      rcases(by omega:j=0∨j=1∨j=2∨j=3∨j=4∨j=5∨j=6∨j=7∨j=8∨j=9∨j=10∨j=11)with rfl|rfl|rfl|rfl|rfl|rfl|rfl|rfl|rfl|rfl|rfl|rfl<;>rfl
     all_goals exact hout (by omega) rfl
  ·obtain rfl:k=pg.length:=(by omega);gi_wp2
   go_end0
   exact⟨⟨_,rfl⟩,.inl ⟨_,rfl,hJs⟩⟩
theorem xR(F:Fence)(n:Nat)(hf:F.fn 202)(hro:F.round=none)(A:Option Addr)(m c:Nat)(w:World) :
  CallsIn F n Tryz.prog 202 #[.slice A m c] w fun e w'=>e=.returned (.func (.func 272) #[] #[.pointer (some ⟨w.heap.size,0,none⟩)])/\w'=w.alloc (.cells #[.slice A m c] 31):=by
 refine callsIn_of_wp Tryz.func202 rfl hf ?_ hro;simp only [Tryz.ntmps202,List.size_toArray,List.length_cons,List.length_nil,Nat.reduceAdd,Nat.reduceSub,Array.replicate_succ,Array.replicate_zero,List.push_toArray,List.append_toArray,List.nil_append,List.cons_append];gi_wp2;go_ret;exact⟨rfl,rfl⟩
theorem xT{α:Type}(fe:α→Pt×Pt)(n:Nat)(hn:1<=n)(Bs n₀:Nat)(A:Option Addr)(cap:Nat)(pg:List Pt)(g:Nat→α)(hg:∀k,k<pg.length→fe (g k)=Bz pg k)(w:World)(Aat:Bs<w.heap.size)(rV:n₀<=w.heap.size)
  (hlen:pg.length<=1000) (hc:w.cell? ⟨Bs,0,none⟩=some (.slice A pg.length cap)) (hv:∃w0,Ae w0 A (flat (Ai pg))/\w0.heap.size<=n₀/\Ac w0 w) :
  SeqStopsK Fence.wide n Tryz.prog 272 #[.pointer (some ⟨Bs,0,none⟩)] (fun x:α=>#[Ak (fe x).1,Ak (fe x).2]) (Cj n₀ Bs) (fun ys=>ys=upto g pg.length)
   (fun pre=>∃k,k<=pg.length/\pre=upto g k) pg.length w:=fun l J Jx W hW hJ _ hY h0=>by
 obtain⟨w0,hr,hs,hx⟩:=hv;have hsz:=hW.size;refine AeO fe n hn l Bs n₀ A cap pg g hg J Jx W hJ hY ((hW.cell (p:=⟨Bs,0,none⟩) Aat).trans hc) (by omega) (by omega) hlen ?_ h0;intro hp;obtain⟨b,o,e,h1,h2⟩:=BW hr hp;have hb:b<w0.heap.size:=World.block_lt_of_cell? w0 _ h1;refine⟨b,o,by omega,e,fun j hj=>?_⟩;obtain⟨b',o',e',h3,h4⟩:=BW hr hj;rw [e]at e';simp only [Aj3,Addr.mk.injEq,and_true]at e';obtain⟨rfl,rfl⟩:=e';rw [hW.cell (p:=⟨b,o+j*2,none⟩) (by show b<w.heap.size;omega),hW.cell (p:=⟨b,o+j*2+1,none⟩) (by show b<w.heap.size;omega)];exact⟨hx.cellS h3,hx.cellS h4⟩
end
theorem J3(a b:Rat):a<b∨a=b∨b<a:=by grind
theorem M6{a b:Rat}(h:a<=b):a<b∨a=b:=by grind
def Up(x y:Rat):Prop:=0<y∨(y=0/\0<x)
theorem AeL{a b:Rat}(ha:0<a)(h:0<a*b):0<b:=by
 rcases J3 b 0 with hb|hb|hb
 ·have:=Rat.mul_pos ha (show 0 < -b by grind)
  grind
 ·subst hb;grind
 ·exact hb
theorem RY{a b:Rat}(ha:0<a)(h:0<=a*b):0<=b:=by
 rcases J3 b 0 with hb|hb|hb
 ·have:=Rat.mul_pos ha (show 0 < -b by grind)
  grind
 ·grind
 ·grind
theorem Xj{ux uy vx vy wx wy:Rat}(hu:Up ux uy)(hv:Up vx vy)(hw:Up wx wy)(h1:0<ux*vy-uy*vx)(h2:0<vx*wy-vy*wx):0<ux*wy-uy*wx:=by
 have OP:0<=uy:=(by unfold Up at hu;grind);have RH:0<=wy:=by unfold Up at hw;grind
 rcases hv with hv|⟨hv,hv'⟩
 ·have e:vy*(ux*wy-uy*wx)=wy*(ux*vy-uy*vx)+uy*(vx*wy-vy*wx):=(by grind);refine AeL hv ?_;rw [e];have a1:=Rat.mul_nonneg RH (Rat.le_of_lt h1);have a2:=Rat.mul_nonneg OP (Rat.le_of_lt h2)
  rcases M6 RH with hw1|hw1
  ·have:=Rat.mul_pos hw1 h1;grind
  ·rcases M6 OP with hu1|hu1
   ·have:=Rat.mul_pos hu1 h2;grind
   ·exfalso
    have hwx:0<wx:=(by unfold Up at hw;grind);have:=Rat.mul_pos hv hwx;subst hw1;subst hu1;clear a1 a2 e
    grind
 ·exfalso
  have:=Rat.mul_nonneg OP (Rat.le_of_lt hv');subst hv
  grind
theorem kO{ux uy vx vy wx wy:Rat}(hu:Up ux uy)(hv:Up vx vy)(hw:Up wx wy)(h1:ux*vy-uy*vx<=0)(h2:vx*wy-vy*wx<=0):ux*wy-uy*wx<=0:=by
 have OP:0<=uy:=(by unfold Up at hu;grind);have RH:0<=wy:=by unfold Up at hw;grind
 rcases hv with hv|⟨hv,hv'⟩
 ·have e:vy*(-(ux*wy-uy*wx))=wy*(-(ux*vy-uy*vx))+uy*(-(vx*wy-vy*wx)):=by grind
  have:0<=-(ux*wy-uy*wx):=by
   refine RY hv ?_;rw [e];have a1:=Rat.mul_nonneg RH (show 0<=-(ux*vy-uy*vx)by grind);have a2:=Rat.mul_nonneg OP (show 0<=-(vx*wy-vy*wx)by grind)
   grind
  grind
 ·subst hv
  have Acm:wy=0:=by
   rcases M6 RH with hw1|hw1
   ·have:=Rat.mul_pos hv' hw1;grind
   ·exact hw1.symm
  have hwx:0<wx:=(by unfold Up at hw;grind);have:=Rat.mul_nonneg OP (Rat.le_of_lt hwx);subst Acm
  grind
/-! ### Directions around a place -/
theorem Ql(p q:Rat):AY p q<0↔p<q:=by unfold AY;grind
theorem Tx(p q:Rat):AY p q=0↔p=q:=by unfold AY;grind
theorem Qm(p q:Rat):0<AY p q↔q<p:=by unfold AY;grind
theorem zA(q:Rat):AM q=0↔q=0:=by unfold AM;grind
theorem Vu(q:Rat):0<AM q↔0<q:=by unfold AM;grind
theorem KH(p q:Pt):BO p q=0↔Up (q.x-p.x) (q.y-p.y):=by
 unfold BO IH Up;simp only [Qm,Tx];constructor
 ·intro h;by_cases h1:p.y<q.y
  ·left;grind
  ·rw [if_neg h1]at h;by_cases h2:q.y=p.y
   ·rw [if_pos h2]at h;by_cases h3:p.x<q.x
    ·right;grind
    ·rw [if_neg h3]at h;cases h
   ·rw [if_neg h2]at h;cases h
 ·rintro(h|⟨h1,h2⟩)
  ·rw [if_pos (by grind)]
  ·rw [if_neg (by grind),if_pos (by grind),if_pos (by grind)]
theorem RU(p q:Pt):BO p q=0∨BO p q=1:=by
 unfold BO IH
 (repeat' split)<;>simp
theorem Ms{p q:Pt}(hne:q≠p)(h:BO p q=1):Up (p.x-q.x) (p.y-q.y):=by
 have h0:¬Up (q.x-p.x) (q.y-p.y):=(by rw [←KH];omega);unfold Up at *;by_cases h1:q.y=p.y
 ·right
  refine⟨by grind,?_⟩;have:q.x≠p.x:=fun e=>hne (by cases p;cases q;simp_all)
  grind
 ·left;grind
def Dl(p a b:Pt):Int:=if BO p a-BO p b≠0 then BO p a-BO p b else -AM (Ar p a b)
theorem lB(p a b:Pt):Dl p a b<0↔BO p a<BO p b∨(BO p a=BO p b/\0<Ar p a b):=by
 unfold Dl;have hs:=Vu (Ar p a b)
 split
 ·constructor
  ·intro h;left;omega
  ·rintro(h|⟨h,_⟩)<;>omega
 ·constructor
  ·intro h;exact .inr ⟨by omega,hs.1 (by omega)⟩
  ·rintro(h|⟨_,h⟩)
   ·omega
   ·have:=hs.2 h;omega
theorem lC(p a b:Pt):Dl p a b=0↔BO p a=BO p b/\Ar p a b=0:=by
 unfold Dl;have hs:=zA (Ar p a b)
 split
 ·constructor
  ·intro h;omega
  ·rintro⟨h,_⟩;omega
 ·constructor
  ·intro h;exact⟨by omega,hs.1 (by omega)⟩
  ·rintro⟨_,h⟩;have:=hs.2 h;omega
theorem qf(p a:Pt):Ar p a a=0:=by unfold Ar;grind
theorem WP(p a b:Pt):Ar p b a =-Ar p a b:=by unfold Ar;grind
theorem WQ(p a b:Pt):Ar p a b=(p.x-a.x)*(p.y-b.y)-(p.y-a.y)*(p.x-b.x):=by unfold Ar;grind
theorem xk{p a b c:Pt}(ha:a≠p)(hb:b≠p)(hc:c≠p)(h1:Dl p a b<0)(h2:Dl p b c<0):Dl p a c<0:=by
 rw [lB]at *
 rcases h1 with h1|⟨e1,h1⟩
 ·left
  rcases h2 with h2|⟨e2,h2⟩<;>omega
 ·rcases h2 with h2|⟨e2,h2⟩
  ·left;omega
  ·right
   refine⟨by omega,?_⟩
   rcases RU p a with ea|ea
   ·unfold Ar at *;exact Xj ((KH p a).1 ea) ((KH p b).1 (by omega)) ((KH p c).1 (by omega)) h1 h2
   ·rw [WQ]at *;exact Xj (Ms ha ea) (Ms hb (by omega)) (Ms hc (by omega)) h1 h2
theorem xi{p a b c:Pt}(ha:a≠p)(hb:b≠p)(hc:c≠p)(h1:¬Dl p a b<0)(h2:¬Dl p b c<0):¬Dl p a c<0:=by
 rw [lB]at *;rintro(h|⟨e,h⟩)
 ·have:¬BO p a<BO p b:=fun h=>h1 (.inl h);have:¬BO p b<BO p c:=fun h=>h2 (.inl h);omega
 ·have e1:¬BO p a<BO p b:=fun h=>h1 (.inl h);have e2:¬BO p b<BO p c:=fun h=>h2 (.inl h);have f1:BO p a=BO p b:=(by omega);have f2:BO p b=BO p c:=by omega
  have g1:Ar p a b<=0:=by
   have:¬0<Ar p a b:=fun h=>h1 (.inr ⟨f1,h⟩)
   grind
  have g2:Ar p b c<=0:=by
   have:¬0<Ar p b c:=fun h=>h2 (.inr ⟨f2,h⟩)
   grind
  have:Ar p a c<=0:=by
   rcases RU p a with ea|ea
   ·unfold Ar at *;exact kO ((KH p a).1 ea) ((KH p b).1 (by omega)) ((KH p c).1 (by omega)) g1 g2
   ·rw [WQ]at *;exact kO (Ms ha ea) (Ms hb (by omega)) (Ms hc (by omega)) g1 g2
  grind
/-! ### Segments without a common place but an end of both -/
def Ez(a b z:Pt):Prop:=∃t:Rat,0<=t/\t<=1/\z.x=a.x+t*(b.x-a.x)/\z.y=a.y+t*(b.y-a.y)
theorem Ez.swap{a b z:Pt}(h:Ez a b z):Ez b a z:=by
 obtain⟨t,h0,h1,hx,hy⟩:=h;exact⟨1-t,by grind,by grind,by grind,by grind⟩
theorem RQ(a b:Pt):Bd a b<=0↔a.x<b.x∨(a.x=b.x/\a.y<=b.y):=by
 unfold Bd;have h1:=Tx a.x b.x;have h2:=Ql a.x b.x;have h3:=Ql a.y b.y;have h4:=Qm a.x b.x;have h5:=Qm a.y b.y
 split
 ·constructor
  ·intro h
   left
   exact h2.1 (by omega)
  ·rintro(h|⟨h,_⟩)
   ·have:=h2.2 h;omega
   ·exact absurd (h1.2 h) (by assumption)
 ·have e:a.x=b.x:=h1.1 (by omega);constructor
  ·intro h
   right
   refine⟨e,?_⟩;have:¬b.y<a.y:=fun h6=>by have:=h5.2 h6;omega
   grind
  ·rintro(h|⟨_,h⟩)
   ·grind
   ·have:¬0<AY a.y b.y:=fun h6=>(by have:=h5.1 h6;grind);omega
theorem Adi(a b:Pt):0<Bd a b↔b.x<a.x∨(a.x=b.x/\b.y<a.y):=by
 have:=RQ a b;constructor
 ·intro h;have h1:¬(a.x<b.x∨(a.x=b.x/\a.y<=b.y)):=fun h2=>by have:=this.2 h2;omega
  grind
 ·intro h;have h1:¬Bd a b<=0:=fun h2=>(by have:=this.1 h2;grind);omega
theorem UQ{t d:Rat}(h0:0<=t)(h1:t<=1)(hd:0<=d):0<=t*d/\t*d<=d:=by
 have a:=Rat.mul_nonneg h0 hd;have b:=Rat.mul_nonneg (show 0<=1-t by grind) hd;exact⟨a,by grind⟩
theorem KU{a b:Rat}(h:a*b=0):a=0∨b=0:=Rat.mul_eq_zero.1 h
theorem wK{a b z:Pt}(hz:Ez a b z)(hl:Bd a b<=0):Mz a b z=true:=by
 obtain⟨t,h0,h1,hx,hy⟩:=hz;rw [RQ]at hl;have ea:Ar a b z=0:=by unfold Ar;rw [hx,hy];grind
 have l1:Bd a z<=0:=by
  rw [RQ]
  rcases hl with hl|⟨hl,hl2⟩
  ·have:=UQ h0 h1 (show 0<=b.x-a.x by grind)
   rcases M6 this.1 with h|h
   ·left;grind
   ·right
    have ht:t=0:=by rcases KU h.symm with h|h<;>grind
    subst ht;constructor<;>grind
  ·right
   have:=UQ h0 h1 (show 0<=b.y-a.y by grind);constructor<;>grind
 have l2:Bd z b<=0:=by
  rw [RQ]
  rcases hl with hl|⟨hl,hl2⟩
  ·have:=UQ (show 0<=1-t by grind) (show 1-t<=1 by grind) (show 0<=b.x-a.x by grind)
   rcases M6 this.1 with h|h
   ·left;grind
   ·right
    have ht:t=1:=by rcases KU h.symm with h|h<;>grind
    subst ht;constructor<;>grind
  ·right
   have:=UQ h0 h1 (show 0<=b.y-a.y by grind);constructor<;>grind
 unfold Mz J1;rw [(zA _).2 ea];simp [l1,l2]
theorem AeI{a b z:Pt}(hz:Ez a b z):EL a b z=true:=by
 unfold EL
 split
 ·rename_i h
  refine wK hz.swap ?_;rw [Adi]at h;rw [RQ]
  grind
 ·exact wK hz (by omega)
structure ET(a b c d:Pt):Prop where
 pc:Ez a b c→c=a∨c=b
 pd:Ez a b d→d=a∨d=b
 pa:Ez c d a→a=c∨a=d
 pb:Ez c d b→b=c∨b=d
 px:a≠c→a≠d→b≠c→b≠d→Ar a b c*Ar a b d<0→Ar c d a*Ar c d b<0→False
theorem ET.symm{a b c d:Pt}(h:ET a b c d):ET c d a b:=
 ⟨h.pa,h.pb,h.pc,h.pd,fun h1 h2 h3 h4 h5 h6=>h.px (Ne.symm h1) (Ne.symm h3) (Ne.symm h2) (Ne.symm h4) h6 h5⟩
theorem iM(a b c:Pt):Ar b a c =-Ar a b c:=by unfold Ar;grind
theorem ET.left{a b c d:Pt}(h:ET a b c d):ET b a c d:=
 ⟨fun k=>(h.pc k.swap).symm,fun k=>(h.pd k.swap).symm,h.pb,h.pa,fun h1 h2 h3 h4 h5 h6=>h.px h3 h4 h1 h2 (by rw [iM,iM a b d]at h5;grind) (by grind)⟩
theorem ET.right{a b c d:Pt}(h:ET a b c d):ET a b d c:=h.symm.left.symm
theorem zE{p q:Rat}(h:p*q<0):AM p*AM q<0:=by
 rcases J3 p 0 with hp|hp|hp
 ·have:0<q:=by
   rcases J3 q 0 with hq|hq|hq
   ·have:=Rat.mul_pos (show 0 < -p by grind) (show 0 < -q by grind);grind
   ·subst hq;grind
   ·exact hq
  have e1:AM p = -1:=(by unfold AM;grind);have e2:AM q=1:=(by unfold AM;grind);rw [e1,e2];decide
 ·subst hp;grind
 ·have:q<0:=by
   rcases J3 q 0 with hq|hq|hq
   ·exact hq
   ·subst hq;grind
   ·have:=Rat.mul_pos hp hq;grind
  have e1:AM p=1:=(by unfold AM;grind);have e2:AM q = -1:=(by unfold AM;grind);rw [e1,e2];decide
theorem Tz{x y z:Pt}(h:JR x y z=false)(hz:Ez x y z):z=x∨z=y:=by
 unfold JR at h;rw [AeI hz,Bool.true_and]at h;rw [Bool.and_eq_false_iff]at h
 rcases h with h|h
 ·left;exact C3.1 (by simpa using h)
 ·right;exact C3.1 (by simpa using h)
theorem AdS{a b c d:Pt}(h:M5 a b c d=false):ET a b c d:=by
 unfold M5 at h;rw [Bool.or_eq_false_iff]at h;obtain⟨h1,h2⟩:=h;rw [List.any_eq_false]at h1;have m1:=h1 (c,d,a) (by simp [Il]);have m2:=h1 (c,d,b) (by simp [Il]);have m3:=h1 (a,b,c) (by simp [Il]);have m4:=h1 (a,b,d) (by simp [Il]);simp only [Bool.not_eq_true]at m1 m2 m3 m4;refine⟨Tz m3,Tz m4,Tz m1,Tz m2,?_⟩;intro k1 k2 k3 k4 k5 k6
 have hs:Vv a b c d=false:=by
  unfold Vv
  have f:∀{p q:Pt},p≠q→Ay p q=false:=fun hn=>by rw [Bool.eq_false_iff];exact fun e=>hn (C3.1 e)
  rw [f k1,f k2,f k3,f k4];rfl
 have hp:Pm a b c d=true:=by unfold Pm JD;rw [decide_eq_true (zE k5),decide_eq_true (zE k6)];rfl
 rw [hs,hp]at h2
 cases h2
theorem xg{p a b:Pt}(h:ET p a p b)(ha:a≠p)(hb:b≠p)(h0:Dl p a b=0):a=b:=by
 rw [lC]at h0;obtain⟨e,h0⟩:=h0
 have key:∀{ux uy vx vy:Rat},Up ux uy→Up vx vy→ux*vy-uy*vx=0→∃t:Rat,(0<=t/\t<=1/\ux=t*vx/\uy=t*vy)∨(0<=t/\t<=1/\vx=t*ux/\vy=t*uy):=by
  have half:∀{ux uy vx vy:Rat},0<vy→0<=uy→uy<=vy→ux*vy-uy*vx=0→0<=uy/vy/\uy/vy<=1/\ux=uy/vy*vx/\uy=uy/vy*vy:=by
   intro ux uy vx vy hv hu hl h;have hv0:vy≠0:=(by grind);have e:uy/vy*vy=uy:=(by rw [Rat.div_def,Rat.mul_assoc,Rat.mul_comm vy⁻¹,Rat.mul_inv_cancel _ hv0];grind);refine⟨RY hv (by rw [Rat.mul_comm,e];exact hu),?_,?_,e.symm⟩
   ·have:=RY (b:=1-uy/vy) hv (by grind)
    grind
   ·have h1:vy*(ux-uy/vy*vx)=0:=by generalize uy/vy=q at *;have:vy*(ux-q*vx)=vy*ux-(q*vy)*vx:=(by grind);rw [this,e];grind
    rcases KU h1 with h2|h2
    ·exact absurd h2 hv0
    ·grind
  intro ux uy vx vy hu hv h
  rcases hu with hu|⟨hu,Ie⟩
  ·rcases hv with hv|⟨hv,hv'⟩
   ·by_cases hl:uy<=vy
    ·exact⟨_,.inl (half hv (by grind) hl h)⟩
    ·exact⟨_,.inr (half hu (by grind) (by grind) (by grind))⟩
   ·exfalso
    have:=Rat.mul_pos hu hv';subst hv;grind
  ·rcases hv with hv|⟨hv,hv'⟩
   ·exfalso
    have:=Rat.mul_pos hv Ie;subst hu;grind
   ·subst hu;subst hv;by_cases hl:ux<=vx
    ·have:=half (ux:=0) (vx:=0) hv' (by grind) hl (by grind);exact⟨_,.inl ⟨this.1,this.2.1,this.2.2.2,by grind⟩⟩
    ·have:=half (ux:=0) (vx:=0) Ie (by grind) (show vx<=ux by grind) (by grind);exact⟨_,.inr ⟨this.1,this.2.1,this.2.2.2,by grind⟩⟩
 have main:∃t:Rat,(0<=t/\t<=1/\a.x-p.x=t*(b.x-p.x)/\a.y-p.y=t*(b.y-p.y))∨(0<=t/\t<=1/\b.x-p.x=t*(a.x-p.x)/\b.y-p.y=t*(a.y-p.y)):=by
  rcases RU p a with ea|ea
  ·exact key ((KH p a).1 ea) ((KH p b).1 (by omega)) h0
  ·rw [WQ]at h0;obtain⟨t,ht⟩:=key (Ms ha ea) (Ms hb (by omega)) h0;exact⟨t,ht.imp (fun ⟨h1,h2,h3,h4⟩=>⟨h1,h2,by grind,by grind⟩) (fun ⟨h1,h2,h3,h4⟩=>⟨h1,h2,by grind,by grind⟩)⟩
 obtain⟨t,⟨h1,h2,h3,h4⟩|⟨h1,h2,h3,h4⟩⟩:=main
 ·rcases h.pb ⟨t,h1,h2,by grind,by grind⟩with e|e
  ·exact absurd e ha
  ·exact e
 ·rcases h.pd ⟨t,h1,h2,by grind,by grind⟩with e|e
  ·exact absurd e hb
  ·exact e.symm
end Go.Proofs.YtgnejnampofhoaaGreatDoor
