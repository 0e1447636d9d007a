/- J19: E9 E10 E11 E12 D2A BM. -/
import Derived.Test.YtnddllipjippnaaGreatDoorJ16
import Derived.Test.YtnddllipjippnaaGreatDoorJ17
import Derived.Test.YtnddllipjippnaaGreatDoorJ14
set_option maxRecDepth 100000
set_option maxHeartbeats 4000000
namespace Go.Proofs.YtnddllipjippnaaGreatDoor
/-! ### Mul -/
/-! ### the plain law -/
/-! ### Gcd -/
/-! ### Fraction -/
section
open Go.RowKit Kl
def RD(q:Rat):Prop:=∃a:Int,a.natAbs<=1000000/\q=(a:Rat)/2
structure Db(p:Pt):Prop where
 x:RD p.x
 y:RD p.y
structure IZ(s:Sg):Prop where
 a:Db s.a
 b:Db s.b
def Jb(n:Nat)(q:Rat):Prop:=∃a:Int,a.natAbs<=n/\q=(a:Rat)/4
theorem Jb.sz{n K:Nat}{q:Rat}(h:Jb n q)(hn:n<10^K)(hK:0<K):Sz K q:=by
 obtain⟨a,ha,rfl⟩:=h;have:(a:Rat)/4=mkRat a 4:=(by rw [Rat.mkRat_eq_div];rfl);rw [this];have h10:10^1<=10^K:=Nat.pow_le_pow_right (by omega) (by omega);exact Sz.mkRat (by omega) (by omega) (by omega)
theorem RD.sz{K:Nat}{q:Rat}(h:RD q)(hK:7<=K):Sz K q:=by
 obtain⟨a,ha,rfl⟩:=h;have:(a:Rat)/2=mkRat a 2:=(by rw [Rat.mkRat_eq_div];rfl);rw [this];have h10:10^7<=10^K:=Nat.pow_le_pow_right (by omega) (by omega);exact Sz.mkRat (by omega) (by omega) (by omega)
theorem Db.sz{K:Nat}{p:Pt}(h:Db p)(hK:7<=K):Az K p:=⟨h.x.sz hK,h.y.sz hK⟩
theorem IZ.sz{K:Nat}{s:Sg}(h:IZ s)(hK:7<=K):EP K s:=⟨h.a.sz hK,h.b.sz hK⟩
theorem l9{x y:Int}{m n:Nat}(h1:x.natAbs<=m)(h2:y.natAbs<=n):(x*y).natAbs<=m*n:=by
 rw [Int.natAbs_mul];exact Nat.mul_le_mul h1 h2
theorem pP{p a b:Pt}(hp:Db p)(ha:Db a)(hb:Db b):Jb 8000000000000 (Ar p a b):=by
 obtain⟨⟨p1,FC,e1⟩,⟨p2,TO,e2⟩⟩:=hp;obtain⟨⟨a1,ha1,e3⟩,⟨a2,ha2,e4⟩⟩:=ha;obtain⟨⟨b1,hb1,e5⟩,⟨b2,hb2,e6⟩⟩:=hb;refine⟨(a1-p1)*(b2-p2)-(a2-p2)*(b1-p1),?_,?_⟩
 ·have h1:=l9 (x:=a1-p1) (y:=b2-p2) (m:=2000000) (n:=2000000) (by omega) (by omega);have h2:=l9 (x:=a2-p2) (y:=b1-p1) (m:=2000000) (n:=2000000) (by omega) (by omega);generalize (a1-p1)*(b2-p2)=X at *;generalize (a2-p2)*(b1-p1)=Y at *;omega
 ·unfold Ar;rw [e1,e2,e3,e4,e5,e6];simp only [Rat.intCast_sub,Rat.intCast_mul]
  grind
theorem Jb.add{m n:Nat}{p q:Rat}(hp:Jb m p)(hq:Jb n q):Jb (m+n) (p+q):=by
 obtain⟨a,ha,rfl⟩:=hp;obtain⟨b,hb,rfl⟩:=hq;refine⟨a+b,by omega,?_⟩;rw [Rat.intCast_add];grind
theorem Jb.mono{m n:Nat}{p:Rat}(hp:Jb m p)(h:m<=n):Jb n p:=by
 obtain⟨a,ha,rfl⟩:=hp;exact⟨a,by omega,rfl⟩
end
section
open Go.RowKit Kl Go.Shelf
attribute [local go_sem] Oper.semAt_some
theorem Aei{w w':World}(h:Ab w w')(row:Option Nat):w.grownBy w' row:=⟨h.os,h.tape,h.output,h.size,fun k hk _=>h.block k hk⟩
def BK(p:List Pt)(k:Nat):Pt×Pt:=(p.getD k ⟨0,0⟩,p.getD ((k+1)%p.length) ⟨0,0⟩)
theorem oQ{a:Act}{l:List Value}{ds:List Deferred}(hs:a.tmps.size=l.length)(h:∀d (hd:d<l.length),a.eval (.tmp d)=l[d])(hd:a.defers=ds):a = {tmps:=l.toArray,defers:=ds}:=by
 obtain⟨t,d⟩:=a;simp only at hd hs;subst hd
 congr 1
 apply Array.ext
 ·simpa using hs
 ·intro i h1 h2;have:=h i (by simpa using h2);simp only [Act.eval,Array.getD_eq_getD_getElem?,Array.getElem?_eq_getElem h1,Option.getD_some]at this
  simpa using this
section
variable {F : Fence} {n : Nat} {P : Program} {ops : Array Oper} {Q : Exit → Act → World → Prop}
theorem AlQ{β:Type}(s m c:Nat)(val:β→Nat→Value)(b0:β)(R:β→World→Prop){a0:Act}{w:World}(hb:okB s m ops=true)(hB:s+m<=a0.tmps.size)
  (hval:∀(i:Nat) (o:Oper),ops[i]?=some o→i≠c→(waits o).contains c=false→∀b,val b i=val b0 i)
  (hstep:∀b listed a w' i o,Cy .any ops (val b) a0 listed a→ops[i]?=some o→i≠c→listed.getD i false=false→(∀e∈o.after,Region.binds .any e=true→listed.getD e.on false=true)→(listed.getD c false=false→w'=w)→
   ∀K:Act→World→Prop,K (a.put o.dst (val b i)) w'→Oper.wpIn F n P o a w' K Q)
  (Afd:∀b listed a o,Cy .any ops (val b) a0 listed a→ops[c]?=some o→(∀e∈o.after,Region.binds .any e=true→listed.getD e.on false=true)→
   ∀K:Act→World→Prop,(∀b' w',R b' w'→K (a.put o.dst (val b' c)) w')→Oper.wpIn F n P o a w K Q)
  (hend:∀b listed a w',Cy .any ops (val b) a0 listed a→a.defers=a0.defers→(∀i,i<ops.size→listed.getD i false=true)→R b w'→Q .normal a w') (hc:c<ops.size) :
  wpAnyIn F n P .any ops Q ops.size (Array.replicate ops.size false) a0 w:=by
 refine AlR (fun listed a w'=>∃b,(Cy .any ops (val b) a0 listed a/\a.defers=a0.defers)/\(listed.getD c false=false→w'=w)/\(listed.getD c false=true→R b w')) (fun i o ho=>(IJ hb i o ho).2.2) (fun i o ho=>(IJ hb i o ho).2.1) ?_ ?_ _ _ _ _ ⟨b0,⟨Cy.start,rfl⟩,fun _=>rfl,fun h=>by rw [getD_replicate_false]at h;cases h⟩ (by simp) (jC _)
 ·rintro listed a w' i o ⟨b,⟨Ai,Gw⟩,h0,h1⟩ hs AM ho hd K hK;have yN:∀v,(a.put o.dst v).defers=a0.defers:=fun v=>(by rw [←Gw];cases o.dst<;>rfl);have hi:i<ops.size:=(Array.getElem?_eq_some_iff.1 ho).1;have hr:i∈Region.ready .any ops listed:=mem_ready.2 ⟨getD_in (by omega) AM,o,ho,hd⟩;by_cases Ki:i=c
  ·subst Ki;obtain rfl:=h0 AM
   have fN:∀b',Cy .any ops (val b') a0 listed a:=fun b'=>⟨Ai.sz,Ai.lsz,fun j oj d hj hl dV=>by
    have GV:j≠i:=fun e=>by subst e;rw [AM]at hl;cases hl
    have hw:(waits oj).contains i=false:=by
     cases e:(waits oj).contains i
     ·rfl
     ·have:=Ai.waits hj hl i e;rw [AM]at this;cases this
    rw [hval j oj hj GV hw b',←hval j oj hj GV hw b]
    exact Ai.done j oj d hj hl dV,Ai.rest,Ai.closed⟩
   refine Afd b listed a o Ai ho hd K fun b' w2 hR=>hK _ _ ⟨b',⟨(fN b').step (fun i o ho=>(IJ hb i o ho).1) hB ho hr,yN _⟩,fun h=>?_,fun _=>hR⟩;rw [MP (by omega)]at h;cases h
  ·refine hstep b listed a w' i o Ai ho Ki AM hd h0 K (hK _ _ ⟨b,⟨Ai.step (fun i o ho=>(IJ hb i o ho).1) hB ho hr,yN _⟩,?_,?_⟩)
   ·rw [getD_set_ne false Ki];exact h0
   ·rw [getD_set_ne false Ki];exact h1
 ·rintro listed a w' ⟨b,⟨Ai,Gw⟩,h0,h1⟩ hall;exact hend b listed a w' Ai Gw hall (h1 (hall c hc))
end
theorem Ajr{α:Type}(fe:α→Pt×Pt)(n:Nat)(hn:1<=n)(l Bs n₀:Nat)(A:Option Addr)(cap:Nat)(pg:List Pt)(g:Nat→α)(hg:∀k,k<pg.length→fe (g k)=BK pg k)(J Jx:List α→World→Prop)
  (W:World) (hJ:AbidesFrom W.heap.size J) (hY:∀pre x W,J pre W→pre.length<pg.length→YieldAt Fence.wide (n-1) Tryz.prog l #[Ak (fe x).1,Ak (fe x).2] W fun e W'=>
   (e=.returned (.bool true)/\J (pre ++ [x]) W'/\BS n₀ Bs W W')∨(e=.returned (.bool false)/\Jx (pre ++ [x]) W'))
  (SE:W.cell? ⟨Bs,0,none⟩=some (.slice A pg.length cap)) (hBlt:Bs<W.heap.size) (fK:n₀<=W.heap.size) (hlen:pg.length<=1000)
  (hc:0<pg.length→∃b o,b<n₀/\A=some ⟨b,o,none⟩/\∀j (h:j<pg.length),W.cell? ⟨b,o+j*2,none⟩=some (S (R pg[j].x))/\W.cell? ⟨b,o+j*2+1,none⟩=some (S (R pg[j].y))) (h0:J [] W) :
  CallsIn Fence.wide n Tryz.prog 177 #[.func (.yield l) #[] #[],.pointer (some ⟨Bs,0,none⟩)] W fun e W'=>(∃v,e=.returned v)/\
   ((∃ys,ys=upto g pg.length/\J ys W')∨(∃pre,(∃k,k<=pg.length/\pre=upto g k)/\Jx pre W')):=by
 have hmo:Tryz.prog.follows .mixedOrders=true:=(by kernel_rfl);refine callsIn_of_wp Tryz.func177 rfl trivial ?_ rfl;simp only [Tryz.ntmps177,List.size_toArray,List.length_cons,List.length_nil,Nat.reduceAdd,Nat.reduceSub,Array.replicate_succ,Array.replicate_zero,List.push_toArray,List.append_toArray,List.nil_append,List.cons_append];gi_wp2
 gi_loopw [7] (fun i wr=>∃k:Nat,k<=pg.length/\i=.int .i64 (k:Nat)/\J (upto g k) wr/\BS n₀ Bs W wr/\W.heap.size<=wr.heap.size)
  (fun i _=>pg.length-(intOf i).toNat)
 case atStart=>exact⟨0,Nat.zero_le _,rfl,h0,BS.refl _ _ _,Ao7 _⟩
 case round=>
  obtain⟨k,hk,rfl,hJs,Fc,gP⟩:=hrel;by_cases hlt:k<pg.length
  ·obtain⟨bp,oo,hb,rfl,hcs⟩:=hc (by omega);obtain⟨q,hq⟩:=Ao3 ((k+1)%pg.length);have IE:q<pg.length:=by rw [hq];exact Nat.mod_lt _ (by omega)
   have LD:(((k:Int)+1)).tmod (pg.length:Int)=(q:Int):=by rw [Int.tmod_eq_emod_of_nonneg (by omega),hq,Int.natCast_emod];rfl
   have zP:(((k:Int)+1))%(pg.length:Int)=(q:Int):=(by rw [hq,Int.natCast_emod];rfl);have Xj:¬((pg.length:Int)=0):=(by omega);have av:¬(pg.length=0):=(by omega);have AfK:((pg.length:Int) == 0)=false:=beq_false_of_ne Xj;have dw:IntKind.wrap .i64 (q:Int)=(q:Int):=AoD _ (by omega);have Qp:IntKind.wrap .i64 ((k:Int)+1)=(k:Int)+1:=AoD _ (by omega)
   obtain⟨a0,b0,ha0,hb0,Dt⟩:∃a0 b0,a0=pg[k]/\b0=pg[q]/\fe (g k)=(a0,b0):=⟨_,_,rfl,rfl,by
    rw [hg k hlt];unfold BK;rw [←hq];simp [List.getD_eq_getElem?_getD,AoC hlt,AoC IE]⟩
   have ca:=hcs k hlt;have cb:=hcs q IE;rw [←ha0]at ca;rw [←hb0]at cb;have K0:=fun (a:Addr) (v:Value) (h:a.block<n₀) (h2:W.cell? a=some v)=>(Fc.below.cell (p:=a) h).trans h2;have ZC:=K0 _ _ hb ca.1;have qP:=K0 _ _ hb ca.2;have Se:=K0 _ _ hb cb.1;have Sf:=K0 _ _ hb cb.2;have B7:=(World.cell?_of_block (a:=⟨Bs,0,none⟩) Fc.box).trans SE;have EA:=(Ab.refl wr).alloc (.cells #[S (R a0.x),S (R a0.y)] 24);have Av:=Ao6 wr (.cells #[S (R a0.x),S (R a0.y)] 24);have hJ1:=hJ _ wr _ none hJs (Aei EA.drew none) (fun r e=>by cases e);have vH:=Fc.trans (BS.of_ext (Bs:=Bs) EA.drew (AoH fK gP) (AoG hBlt gP));obtain⟨fn,tmps,assign,body,hy,hR⟩:=hY _ (g k) _ hJ1 (by rw [upto_length];exact hlt);rw [Dt]at hy;unfold Ak at hy;have hk0:(0:Int)<=(k:Int):=(by omega);have DX:(k:Int)<(pg.length:Int):=(by omega);have AfX:(0:Int)<=(q:Int):=(by omega);have AfY:(q:Int)<(pg.length:Int):=(by omega);have hm0:(0:Int)<(pg.length:Int):=(by omega);have HQ:=Ao4 hq;have HGK:=Ao4 Dt
   have HR:=hR.mono (R':=fun e W'=>∃b,e=.returned (.bool b)/\((b=true/\J (upto g k ++ [g k]) W'/\BS n₀ Bs (wr.alloc (.cells #[S (R a0.x),S (R a0.y)] 24)).drew W')∨(b=false/\Jx (upto g k ++ [g k]) W'))) (by
    rintro e W' (⟨h1,h2⟩|⟨h1,h2⟩)
    ·exact⟨true,h1,.inl ⟨rfl,h2⟩⟩
    ·exact⟨false,h1,.inr ⟨rfl,h2⟩⟩)
   clear hR hcs hc SE ca cb ha0 hb0 hq Dt K0 hJs;gi_wp2;unfold S at Av hJ1 vH hy HR EA ZC qP Se Sf;generalize wr.alloc (.cells #[.string ⟨(R a0.x).toArray⟩,.string ⟨(R a0.y).toArray⟩] 24)=VA at *;obtain⟨ba,Ni⟩:=Ao3 wr.heap.size;rw [←Ni]at Av ⊢;clear Ni;have x0:=Aa (o:=0) Av rfl;have x1:=Aa (o:=1) Av rfl;have x2:=EA.cellS Se;have x3:=EA.cellS Sf;have x4:=EA.cellS B7;have Ago:W.heap.size<=VA.heap.size:=AoH gP EA.size;clear ZC qP Se Sf B7 EA Av Fc;refine wpIn_region_any hmo ?_
   change wpAnyIn _ _ _ _ _ _ _ _ _ (World.drew _)
   refine AlQ 12 12 10 (fun (b:Bool) i=>#[.func (.yield l) #[] #[],.agg #[S (R a0.x),S (R a0.y)],.slice (some ⟨bp,oo,none⟩) pg.length cap,.int .i64 (k:Nat),.int .i64 ((k:Int)+1),.slice (some ⟨bp,oo,none⟩) pg.length cap,.int .i64 (pg.length:Nat),.int .i64 (q:Nat),.pointer (some ⟨bp,oo+q*2,none⟩),.agg #[S (R b0.x),S (R b0.y)],.bool b,.bool (!b)].getD i undef) true
    (fun b W'=>(b=true/\J (upto g k ++ [g k]) W'/\BS n₀ Bs VA.drew W')∨(b=false/\Jx (upto g k ++ [g k]) W')) (by kernel_rfl) (by simp) ?_ ?_ ?_ ?_ (by simp)
   ·intro i o ho Ki hw b;have hi:i<12:=(Array.getElem?_eq_some_iff.1 ho).1
    rcases(by omega:i=0∨i=1∨i=2∨i=3∨i=4∨i=5∨i=6∨i=7∨i=8∨i=9∨i=11)with rfl|rfl|rfl|rfl|rfl|rfl|rfl|rfl|rfl|rfl|rfl
    case inr.inr.inr.inr.inr.inr.inr.inr.inr.inr=>
     simp only [List.getElem?_toArray,List.getElem?_cons_zero,List.getElem?_cons_succ,AoB]at ho;subst ho;have hw2:=hw.symm.trans (show _=true by kernel_rfl)
     cases hw2
    all_goals rfl
   ·intro bv listed a w' i o Ai ho Ki AM BY hw0 K hK;have hi:i<12:=(Array.getElem?_eq_some_iff.1 ho).1;have e0:=Ai.out (s:=12) (m:=12) (by kernel_rfl) (d:=0) (by omega) rfl;have e1:=Ai.out (s:=12) (m:=12) (by kernel_rfl) (d:=1) (by omega) rfl;have e3:=Ai.out (s:=12) (m:=12) (by kernel_rfl) (d:=3) (by omega) rfl;have e4:=Ai.out (s:=12) (m:=12) (by kernel_rfl) (d:=4) (by omega) rfl;have hval:=fun i {d} hd hi hl {v} hv=>Ai.val (s:=12) (m:=12) (by kernel_rfl) i (d:=d) hd hi hl (v:=v) hv;refine⟨fun _ _=>trivial,?_⟩;rw [Oper.semAt_eq _ _ _ (jT (l:=_) (by kernel_rfl) i o ho)];by_cases Ani:i<10
    ·have h10:listed.getD 10 false=false:=by
      cases h:listed.getD 10 false
      ·rfl
      ·exfalso
       have g0:=Ai.waits (j:=10) rfl h 0 (by kernel_rfl);have g1:=Ai.waits (j:=10) rfl h 1 (by kernel_rfl);have g9:=Ai.waits (j:=10) rfl h 9 (by kernel_rfl);have g8:=Ai.waits (j:=9) rfl g9 8 (by kernel_rfl);have g2:=Ai.waits (j:=8) rfl g8 2 (by kernel_rfl);have g7:=Ai.waits (j:=8) rfl g8 7 (by kernel_rfl);have g4:=Ai.waits (j:=7) rfl g7 4 (by kernel_rfl);have g6:=Ai.waits (j:=7) rfl g7 6 (by kernel_rfl);have g3:=Ai.waits (j:=4) rfl g4 3 (by kernel_rfl);have g5:=Ai.waits (j:=6) rfl g6 5 (by kernel_rfl)
       rcases(by omega:i=0∨i=1∨i=2∨i=3∨i=4∨i=5∨i=6∨i=7∨i=8∨i=9)with rfl|rfl|rfl|rfl|rfl|rfl|rfl|rfl|rfl|rfl<;>simp_all
     obtain rfl:=hw0 h10;clear hw0 h10;have y0:VA.drew.cell? ⟨ba,0,none⟩=some (S (R a0.x)):=x0;have y1:VA.drew.cell? ⟨ba,1,none⟩=some (S (R a0.y)):=x1;have y2:VA.drew.cell? ⟨bp,oo+q*2,none⟩=some (S (R b0.x)):=x2;have y3:VA.drew.cell? ⟨bp,oo+q*2+1,none⟩=some (S (R b0.y)):=x3;have y4:VA.drew.cell? ⟨Bs,0,none⟩=some (.slice (some ⟨bp,oo,none⟩) pg.length cap):=x4
     rcases(by omega:i=0∨i=1∨i=2∨i=3∨i=4∨i=5∨i=6∨i=7∨i=8∨i=9)with rfl|rfl|rfl|rfl|rfl|rfl|rfl|rfl|rfl|rfl
     all_goals simp only [List.getElem?_toArray,List.getElem?_cons_zero,List.getElem?_cons_succ,AoB]at ho
     all_goals subst ho
     all_goals have Bg:=KJ BY
     all_goals simp only [Act.eval]at e0 e1 e3 e4
     ·clear hval Bg BY AM;simp [execOp,go_sem,Oper.uponIn,e0];exact hK
     ·clear hval Bg BY AM;simp [execOp,go_sem,Oper.uponIn,e4,y0,y1];exact hK
     ·clear hval Bg BY AM;simp [execOp,go_sem,Oper.uponIn,e1,y4];exact hK
     ·clear hval Bg BY AM;simp [execOp,go_sem,Oper.uponIn,e3];exact hK
     ·have f15:=hval 3 (d:=15) rfl (by omega) (Bg 3 (by kernel_rfl)) rfl;simp only [Act.eval]at f15;clear hval Bg BY AM;simp [execOp,go_sem,Oper.uponIn,f15,Qp];exact hK
     ·clear hval Bg BY AM;simp [execOp,go_sem,Oper.uponIn,e1,y4];exact hK
     ·have f17:=hval 5 (d:=17) rfl (by omega) (Bg 5 (by kernel_rfl)) rfl;simp only [Act.eval]at f17;clear hval Bg BY AM;simp [go_sem,Oper.uponIn,f17];exact hK
     ·have f16:=hval 4 (d:=16) rfl (by omega) (Bg 4 (by kernel_rfl)) rfl;have f18:=hval 6 (d:=18) rfl (by omega) (Bg 6 (by kernel_rfl)) rfl;simp only [Act.eval]at f16 f18;clear hval Bg BY AM;simp [execOp,go_sem,Oper.uponIn,f16,f18,av,LD];exact hK
     ·have f14:=hval 2 (d:=14) rfl (by omega) (Bg 2 (by kernel_rfl)) rfl;have f19:=hval 7 (d:=19) rfl (by omega) (Bg 7 (by kernel_rfl)) rfl;simp only [Act.eval]at f14 f19;clear hval Bg BY AM;simp [execOp,go_sem,Oper.uponIn,f14,f19,IE];exact hK
     ·have f20:=hval 8 (d:=20) rfl (by omega) (Bg 8 (by kernel_rfl)) rfl;simp only [Act.eval]at f20;clear hval Bg BY AM;simp [execOp,go_sem,Oper.uponIn,f20,y2,y3];exact hK
    ·obtain rfl:i=11:=(by omega);simp only [List.getElem?_toArray,List.getElem?_cons_zero,List.getElem?_cons_succ,AoB]at ho;subst ho;have Bg:=KJ BY;have f22:=hval 10 (d:=22) rfl (by omega) (Bg 10 (by kernel_rfl)) rfl;simp only [Act.eval]at f22;clear hval Bg BY AM;simp [execOp,go_sem,Oper.uponIn,f22];exact hK
   ·intro bv listed a o Ai ho BY K hK;have hval:=fun i {d} hd hi hl {v} hv=>Ai.val (s:=12) (m:=12) (by kernel_rfl) i (d:=d) hd hi hl (v:=v) hv;have g0:=KJ BY 0;simp only [List.getElem?_toArray,List.getElem?_cons_zero,List.getElem?_cons_succ,AoB]at ho;subst ho;have Bg:=KJ BY;have tM:=hval 0 (d:=12) rfl (by omega) (Bg 0 (by kernel_rfl)) rfl;have tN:=hval 1 (d:=13) rfl (by omega) (Bg 1 (by kernel_rfl)) rfl;have f21:=hval 9 (d:=21) rfl (by omega) (Bg 9 (by kernel_rfl)) rfl;simp only [Act.eval]at tM tN f21;clear hval Bg BY g0;refine⟨fun _ _=>trivial,?_⟩;rw [Oper.semAt_eq _ _ _ (fun c h=>by cases h)];simp [execOp,go_sem,Oper.uponIn,tM,tN,f21,hy];refine⟨fun _=>hn,HR.mono ?_⟩;rintro e W' ⟨b,rfl,hp⟩;exact hK b W' hp
   ·intro bv listed a w' Ai Gw hall hp;have hval:=fun i {d} hd hi hl {v} hv=>Ai.val (s:=12) (m:=12) (by kernel_rfl) i (d:=d) hd hi hl (v:=v) hv;have hout:=fun {d} hd {v} hv=>Ai.out (s:=12) (m:=12) (by kernel_rfl) (d:=d) hd (v:=v) hv;have ha:=oQ (a:=a) (l:=[.func (.yield l) #[] #[],.pointer (some ⟨Bs,0,none⟩),undef,.int .i64 (k:Nat),.pointer (some ⟨ba,0,none⟩),.slice (some ⟨bp,oo,none⟩) pg.length cap,.int .i64 (pg.length:Nat),.int .i64 (k:Nat),.bool true,.int .i64 (k:Nat),.pointer (some ⟨bp,oo+k*2,none⟩),.agg #[S (R a0.x),S (R a0.y)],.func (.yield l) #[] #[],.agg #[S (R a0.x),S (R a0.y)],.slice (some ⟨bp,oo,none⟩) pg.length cap,.int .i64 (k:Nat),.int .i64 ((k:Int)+1),.slice (some ⟨bp,oo,none⟩) pg.length cap,.int .i64 (pg.length:Nat),.int .i64 (q:Nat),.pointer (some ⟨bp,oo+q*2,none⟩),.agg #[S (R b0.x),S (R b0.y)],.bool bv,.bool (!bv),u24]) (by rw [Ai.sz];rfl) ?_ Gw
    ·subst ha;clear hval hout Ai hall Gw
     rcases hp with⟨rfl,hJ3,hk3⟩|⟨rfl,hJx3⟩
     ·gi_wp2;go_roundw
      case rel=>exact⟨k+1,hlt,by go_num,by rw [upto_succ];exact hJ3,vH.trans hk3,AoH Ago hk3.below.size⟩
      case measure=>simp [intOf];omega
     ·gi_wp2;refine bodyPost_ret (results_none rfl _ _ _) rfl ?_;exact⟨⟨_,rfl⟩,.inr ⟨_,⟨k+1,hlt,by rw [upto_succ]⟩,hJx3⟩⟩
    ·intro d hd;have C2:d<25:=hd
     rcases(by omega:d=0∨d=1∨d=2∨d=3∨d=4∨d=5∨d=6∨d=7∨d=8∨d=9∨d=10∨d=11∨d=24∨(12<=d/\d<24))with rfl|rfl|rfl|rfl|rfl|rfl|rfl|rfl|rfl|rfl|rfl|rfl|rfl|⟨h1,h2⟩
     case inr.inr.inr.inr.inr.inr.inr.inr.inr.inr.inr.inr.inr=>
      obtain⟨j,rfl⟩:∃j,d=12+j:=⟨d-12,by omega⟩;refine hval j rfl (by omega) (hall j (by simp;omega)) ?_
      rcases(by omega:j=0∨j=1∨j=2∨j=3∨j=4∨j=5∨j=6∨j=7∨j=8∨j=9∨j=10∨j=11)with rfl|rfl|rfl|rfl|rfl|rfl|rfl|rfl|rfl|rfl|rfl|rfl<;>rfl
     all_goals exact hout (by omega) rfl
  ·obtain rfl:k=pg.length:=(by omega);gi_wp2
   go_end0
   exact⟨⟨_,rfl⟩,.inl ⟨_,rfl,hJs⟩⟩
theorem qj(F:Fence)(n:Nat)(hf:F.fn 130)(hro:F.round=none)(A:Option Addr)(m c:Nat)(w:World) :
  CallsIn F n Tryz.prog 130 #[.slice A m c] w fun e w'=>e=.returned (.func (.func 177) #[] #[.pointer (some ⟨w.heap.size,0,none⟩)])/\w'=w.alloc (.cells #[.slice A m c] 31):=by
 refine callsIn_of_wp Tryz.func130 rfl hf ?_ hro;simp only [Tryz.ntmps130,List.size_toArray,List.length_cons,List.length_nil,Nat.reduceAdd,Nat.reduceSub,Array.replicate_succ,Array.replicate_zero,List.push_toArray,List.append_toArray,List.nil_append,List.cons_append];gi_wp2;go_ret;exact⟨rfl,rfl⟩
theorem ql{α:Type}(fe:α→Pt×Pt)(n:Nat)(hn:1<=n)(Bs n₀:Nat)(A:Option Addr)(cap:Nat)(pg:List Pt)(g:Nat→α)(hg:∀k,k<pg.length→fe (g k)=BK pg k)(w:World)(aU:Bs<w.heap.size)(fK:n₀<=w.heap.size)
  (hlen:pg.length<=1000) (hc:w.cell? ⟨Bs,0,none⟩=some (.slice A pg.length cap)) (hv:∃w0,Af w0 A (flat (Aq pg))/\w0.heap.size<=n₀/\Ab w0 w) :
  SeqStopsK Fence.wide n Tryz.prog 177 #[.pointer (some ⟨Bs,0,none⟩)] (fun x:α=>#[Ak (fe x).1,Ak (fe x).2]) (BS n₀ Bs) (fun ys=>ys=upto g pg.length)
   (fun pre=>∃k,k<=pg.length/\pre=upto g k) pg.length w:=fun l J Jx W hW hJ _ hY h0=>by
 obtain⟨w0,hr,hs,hx⟩:=hv;have hsz:=hW.size;refine Ajr fe n hn l Bs n₀ A cap pg g hg J Jx W hJ hY ((hW.cell (p:=⟨Bs,0,none⟩) aU).trans hc) (by omega) (by omega) hlen ?_ h0;intro hp;obtain⟨b,o,e,h1,h2⟩:=Co hr hp;have hb:b<w0.heap.size:=World.block_lt_of_cell? w0 _ h1;refine⟨b,o,by omega,e,fun j hj=>?_⟩;obtain⟨b',o',e',h3,h4⟩:=Co hr hj;rw [e]at e';simp only [AoB,Addr.mk.injEq,and_true]at e';obtain⟨rfl,rfl⟩:=e';rw [hW.cell (p:=⟨b,o+j*2,none⟩) (by show b<w.heap.size;omega),hW.cell (p:=⟨b,o+j*2+1,none⟩) (by show b<w.heap.size;omega)];exact⟨hx.cellS h3,hx.cellS h4⟩
end
end Go.Proofs.YtnddllipjippnaaGreatDoor
