/- I16: ShD2A ShBM ShN1 ShN2 ShKA1 ShKJ1. -/
import Derived.Test.YtnddllipjippnaaGreatDoorI15
import Derived.Test.YtnddllipjippnaaGreatDoorI13
import Derived.Test.YtnddllipjippnaaGreatDoorI04
set_option maxRecDepth 100000
set_option maxHeartbeats 4000000
namespace Go.Proofs.YtnddllipjippnaaGreatDoor
open Go.RowKit Kl
def Ni(q:Rat):Prop:=∃a:Int,a.natAbs<=9/\q=(a:Rat)/2
structure Ce(p:Pt):Prop where
 x:Ni p.x
 y:Ni p.y
structure G5(s:Sg):Prop where
 a:Ce s.a
 b:Ce s.b
def J6(n:Nat)(q:Rat):Prop:=∃a:Int,a.natAbs<=n/\q=(a:Rat)/4
theorem J6.sz{n K:Nat}{q:Rat}(h:J6 n q)(hn:n<10^K)(hK:0<K):Sz K q:=by
 obtain⟨a,ha,rfl⟩:=h;have:(a:Rat)/4=mkRat a 4:=(by rw [Rat.mkRat_eq_div];rfl);rw [this];have h10:10^1<=10^K:=Nat.pow_le_pow_right (by omega) (by omega);exact Sz.mkRat (by omega) (by omega) (by omega)
theorem Ni.sz{K:Nat}{q:Rat}(h:Ni q)(hK:1<=K):Sz K q:=by
 obtain⟨a,ha,rfl⟩:=h;have:(a:Rat)/2=mkRat a 2:=(by rw [Rat.mkRat_eq_div];rfl);rw [this];have h10:10^1<=10^K:=Nat.pow_le_pow_right (by omega) (by omega);exact Sz.mkRat (by omega) (by omega) (by omega)
theorem Ce.sz{K:Nat}{p:Pt}(h:Ce p)(hK:1<=K):Aw K p:=⟨h.x.sz hK,h.y.sz hK⟩
theorem G5.sz{K:Nat}{s:Sg}(h:G5 s)(hK:1<=K):G7 K s:=⟨h.a.sz hK,h.b.sz hK⟩
theorem Zj{x y:Int}{m n:Nat}(h1:x.natAbs<=m)(h2:y.natAbs<=n):(x*y).natAbs<=m*n:=by
 rw [Int.natAbs_mul];exact Nat.mul_le_mul h1 h2
theorem uV{p a b:Pt}(hp:Ce p)(ha:Ce a)(hb:Ce b):J6 648 (Am p a b):=by
 obtain⟨⟨p1,GO,e1⟩,⟨p2,Kb,e2⟩⟩:=hp;obtain⟨⟨a1,ha1,e3⟩,⟨a2,ha2,e4⟩⟩:=ha;obtain⟨⟨b1,hb1,e5⟩,⟨b2,hb2,e6⟩⟩:=hb;refine⟨(a1-p1)*(b2-p2)-(a2-p2)*(b1-p1),?_,?_⟩
 ·have h1:=Zj (x:=a1-p1) (y:=b2-p2) (m:=18) (n:=18) (by omega) (by omega);have h2:=Zj (x:=a2-p2) (y:=b1-p1) (m:=18) (n:=18) (by omega) (by omega);generalize (a1-p1)*(b2-p2)=X at *;generalize (a2-p2)*(b1-p1)=Y at *;omega
 ·unfold Am;rw [e1,e2,e3,e4,e5,e6];simp only [Rat.intCast_sub,Rat.intCast_mul]
  grind
theorem J6.add{m n:Nat}{p q:Rat}(hp:J6 m p)(hq:J6 n q):J6 (m+n) (p+q):=by
 obtain⟨a,ha,rfl⟩:=hp;obtain⟨b,hb,rfl⟩:=hq;refine⟨a+b,by omega,?_⟩;rw [Rat.intCast_add];grind
theorem J6.mono{m n:Nat}{p:Rat}(hp:J6 m p)(h:m<=n):J6 n p:=by
 obtain⟨a,ha,rfl⟩:=hp;exact⟨a,by omega,rfl⟩
section
open Go.Shelf
attribute [local go_sem] Oper.semAt_some
theorem AhV{w w':World}(h:Ab w w')(row:Option Nat):w.grownBy w' row:=⟨h.os,h.tape,h.output,h.size,fun k hk _=>h.block k hk⟩
def BE(p:List Pt)(k:Nat):Pt×Pt:=(p.getD k ⟨0,0⟩,p.getD ((k+1)%p.length) ⟨0,0⟩)
theorem uE{a:Act}{l:List Value}{ds:List Deferred}(hs:a.tmps.size=l.length)(h:∀d (hd:d<l.length),a.eval (.tmp d)=l[d])(hd:a.defers=ds):a = {tmps:=l.toArray,defers:=ds}:=by
 obtain⟨t,d⟩:=a;simp only at hd hs;subst hd
 congr 1
 apply Array.ext
 ·simpa using hs
 ·intro i h1 h2;have:=h i (by simpa using h2);simp only [Act.eval,Array.getD_eq_getD_getElem?,Array.getElem?_eq_getElem h1,Option.getD_some]at this
  simpa using this
section
variable {F : Fence} {n : Nat} {P : Program} {ops : Array Oper} {Q : Exit → Act → World → Prop}
theorem Ap8{β:Type}(s m c:Nat)(val:β→Nat→Value)(b0:β)(R:β→World→Prop){a0:Act}{w:World}(hb:okB s m ops=true)(hB:s+m<=a0.tmps.size)
  (hval:∀(i:Nat) (o:Oper),ops[i]?=some o→i≠c→(waits o).contains c=false→∀b,val b i=val b0 i)
  (hstep:∀b listed a w' i o,Dv .any ops (val b) a0 listed a→ops[i]?=some o→i≠c→listed.getD i false=false→(∀e∈o.after,Region.binds .any e=true→listed.getD e.on false=true)→(listed.getD c false=false→w'=w)→
   ∀K:Act→World→Prop,K (a.put o.dst (val b i)) w'→Oper.wpIn F n P o a w' K Q)
  (AiQ:∀b listed a o,Dv .any ops (val b) a0 listed a→ops[c]?=some o→(∀e∈o.after,Region.binds .any e=true→listed.getD e.on false=true)→
   ∀K:Act→World→Prop,(∀b' w',R b' w'→K (a.put o.dst (val b' c)) w')→Oper.wpIn F n P o a w K Q)
  (hend:∀b listed a w',Dv .any ops (val b) a0 listed a→a.defers=a0.defers→(∀i,i<ops.size→listed.getD i false=true)→R b w'→Q .normal a w') (hc:c<ops.size) :
  wpAnyIn F n P .any ops Q ops.size (Array.replicate ops.size false) a0 w:=by
 refine Ap9 (fun listed a w'=>∃b,(Dv .any ops (val b) a0 listed a/\a.defers=a0.defers)/\(listed.getD c false=false→w'=w)/\(listed.getD c false=true→R b w')) (fun i o ho=>(M9 hb i o ho).2.2) (fun i o ho=>(M9 hb i o ho).2.1) ?_ ?_ _ _ _ _ ⟨b0,⟨Dv.start,rfl⟩,fun _=>rfl,fun h=>by rw [getD_replicate_false]at h;cases h⟩ (by simp) (yx _)
 ·rintro listed a w' i o ⟨b,⟨Ai,GI⟩,h0,h1⟩ hs AG ho hd K hK;have lh:∀v,(a.put o.dst v).defers=a0.defers:=fun v=>(by rw [←GI];cases o.dst<;>rfl);have hi:i<ops.size:=(Array.getElem?_eq_some_iff.1 ho).1;have hr:i∈Region.ready .any ops listed:=mem_ready.2 ⟨getD_in (by omega) AG,o,ho,hd⟩;by_cases JU:i=c
  ·subst JU;obtain rfl:=h0 AG
   have lM:∀b',Dv .any ops (val b') a0 listed a:=fun b'=>⟨Ai.sz,Ai.lsz,fun j oj d hj hl jY=>by
    have Hz:j≠i:=fun e=>by subst e;rw [AG]at hl;cases hl
    have hw:(waits oj).contains i=false:=by
     cases e:(waits oj).contains i
     ·rfl
     ·have:=Ai.waits hj hl i e;rw [AG]at this;cases this
    rw [hval j oj hj Hz hw b',←hval j oj hj Hz hw b]
    exact Ai.done j oj d hj hl jY,Ai.rest,Ai.closed⟩
   refine AiQ b listed a o Ai ho hd K fun b' w2 hR=>hK _ _ ⟨b',⟨(lM b').step (fun i o ho=>(M9 hb i o ho).1) hB ho hr,lh _⟩,fun h=>?_,fun _=>hR⟩;rw [LP (by omega)]at h;cases h
  ·refine hstep b listed a w' i o Ai ho JU AG hd h0 K (hK _ _ ⟨b,⟨Ai.step (fun i o ho=>(M9 hb i o ho).1) hB ho hr,lh _⟩,?_,?_⟩)
   ·rw [getD_set_ne false JU];exact h0
   ·rw [getD_set_ne false JU];exact h1
 ·rintro listed a w' ⟨b,⟨Ai,GI⟩,h0,h1⟩ hall;exact hend b listed a w' Ai GI hall (h1 (hall c hc))
end
theorem Anl{α:Type}(fe:α→Pt×Pt)(n:Nat)(hn:1<=n)(l Bs n₀:Nat)(A:Option Addr)(cap:Nat)(pg:List Pt)(g:Nat→α)(hg:∀k,k<pg.length→fe (g k)=BE pg k)(J Jx:List α→World→Prop)
  (W:World) (hJ:AbidesFrom W.heap.size J) (hY:∀pre x W,J pre W→pre.length<pg.length→YieldAt Fence.wide (n-1) Tryz.prog l #[Af (fe x).1,Af (fe x).2] W fun e W'=>
   (e=.returned (.bool true)/\J (pre ++ [x]) W'/\C3 n₀ Bs W W')∨(e=.returned (.bool false)/\Jx (pre ++ [x]) W'))
  (zV:W.cell? ⟨Bs,0,none⟩=some (.slice A pg.length cap)) (hBlt:Bs<W.heap.size) (qp:n₀<=W.heap.size) (hlen:pg.length<=1000)
  (hc:0<pg.length→∃b o,b<n₀/\A=some ⟨b,o,none⟩/\∀j (h:j<pg.length),W.cell? ⟨b,o+j*2,none⟩=some (S (R pg[j].x))/\W.cell? ⟨b,o+j*2+1,none⟩=some (S (R pg[j].y))) (h0:J [] W) :
  CallsIn Fence.wide n Tryz.prog 177 #[.func (.yield l) #[] #[],.pointer (some ⟨Bs,0,none⟩)] W fun e W'=>(∃v,e=.returned v)/\
   ((∃ys,ys=upto g pg.length/\J ys W')∨(∃pre,(∃k,k<=pg.length/\pre=upto g k)/\Jx pre W')):=by
 have hmo:Tryz.prog.follows .mixedOrders=true:=(by kernel_rfl);refine callsIn_of_wp Tryz.func177 rfl trivial ?_ rfl;simp only [Tryz.ntmps177,List.size_toArray,List.length_cons,List.length_nil,Nat.reduceAdd,Nat.reduceSub,Array.replicate_succ,Array.replicate_zero,List.push_toArray,List.append_toArray,List.nil_append,List.cons_append];gi_wp2
 gi_loopw [7] (fun i wr=>∃k:Nat,k<=pg.length/\i=.int .i64 (k:Nat)/\J (upto g k) wr/\C3 n₀ Bs W wr/\W.heap.size<=wr.heap.size)
  (fun i _=>pg.length-(intOf i).toNat)
 case atStart=>exact⟨0,Nat.zero_le _,rfl,h0,C3.refl _ _ _,As0 _⟩
 case round=>
  obtain⟨k,hk,rfl,hJs,DZ,mE⟩:=hrel;by_cases hlt:k<pg.length
  ·obtain⟨bp,oo,hb,rfl,hcs⟩:=hc (by omega);obtain⟨q,hq⟩:=Asw ((k+1)%pg.length);have Gx:q<pg.length:=by rw [hq];exact Nat.mod_lt _ (by omega)
   have I8:(((k:Int)+1)).tmod (pg.length:Int)=(q:Int):=by rw [Int.tmod_eq_emod_of_nonneg (by omega),hq,Int.natCast_emod];rfl
   have kR:(((k:Int)+1))%(pg.length:Int)=(q:Int):=(by rw [hq,Int.natCast_emod];rfl);have Rv:¬((pg.length:Int)=0):=(by omega);have lC:¬(pg.length=0):=(by omega);have qj:((pg.length:Int) == 0)=false:=beq_false_of_ne Rv;have lU:IntKind.wrap .i64 (q:Int)=(q:Int):=As6 _ (by omega);have NV:IntKind.wrap .i64 ((k:Int)+1)=(k:Int)+1:=As6 _ (by omega)
   obtain⟨a0,b0,ha0,hb0,Eo⟩:∃a0 b0,a0=pg[k]/\b0=pg[q]/\fe (g k)=(a0,b0):=⟨_,_,rfl,rfl,by
    rw [hg k hlt];unfold BE;rw [←hq];simp [List.getD_eq_getElem?_getD,As5 hlt,As5 Gx]⟩
   have ca:=hcs k hlt;have cb:=hcs q Gx;rw [←ha0]at ca;rw [←hb0]at cb;have K0:=fun (a:Addr) (v:Value) (h:a.block<n₀) (h2:W.cell? a=some v)=>(DZ.below.cell (p:=a) h).trans h2;have vU:=K0 _ _ hb ca.1;have vV:=K0 _ _ hb ca.2;have dP:=K0 _ _ hb cb.1;have dQ:=K0 _ _ hb cb.2;have Bz:=(World.cell?_of_block (a:=⟨Bs,0,none⟩) DZ.box).trans zV;have EA:=(Ab.refl wr).alloc (.cells #[S (R a0.x),S (R a0.y)] 24);have Au:=Asz wr (.cells #[S (R a0.x),S (R a0.y)] 24);have hJ1:=hJ _ wr _ none hJs (AhV EA.drew none) (fun r e=>by cases e);have av:=DZ.trans (C3.of_ext (Bs:=Bs) EA.drew (AsA qp mE) (As9 hBlt mE));obtain⟨fn,tmps,assign,body,hy,hR⟩:=hY _ (g k) _ hJ1 (by rw [upto_length];exact hlt);rw [Eo]at hy;unfold Af at hy;have hk0:(0:Int)<=(k:Int):=(by omega);have D3:(k:Int)<(pg.length:Int):=(by omega);have rk:(0:Int)<=(q:Int):=(by omega);have rp:(q:Int)<(pg.length:Int):=(by omega);have hm0:(0:Int)<(pg.length:Int):=(by omega);have HQ:=Asx hq;have SE:=Asx Eo
   have HR:=hR.mono (R':=fun e W'=>∃b,e=.returned (.bool b)/\((b=true/\J (upto g k ++ [g k]) W'/\C3 n₀ Bs (wr.alloc (.cells #[S (R a0.x),S (R a0.y)] 24)).drew W')∨(b=false/\Jx (upto g k ++ [g k]) W'))) (by
    rintro e W' (⟨h1,h2⟩|⟨h1,h2⟩)
    ·exact⟨true,h1,.inl ⟨rfl,h2⟩⟩
    ·exact⟨false,h1,.inr ⟨rfl,h2⟩⟩)
   clear hR hcs hc zV ca cb ha0 hb0 hq Eo K0 hJs;gi_wp2;unfold S at Au hJ1 av hy HR EA vU vV dP dQ;generalize wr.alloc (.cells #[.string ⟨(R a0.x).toArray⟩,.string ⟨(R a0.y).toArray⟩] 24)=VA at *;obtain⟨ba,NK⟩:=Asw wr.heap.size;rw [←NK]at Au ⊢;clear NK;have x0:=Aa (o:=0) Au rfl;have x1:=Aa (o:=1) Au rfl;have x2:=EA.cellS dP;have x3:=EA.cellS dQ;have x4:=EA.cellS Bz;have Akd:W.heap.size<=VA.heap.size:=AsA mE EA.size;clear vU vV dP dQ Bz EA Au DZ;refine wpIn_region_any hmo ?_
   change wpAnyIn _ _ _ _ _ _ _ _ _ (World.drew _)
   refine Ap8 12 12 10 (fun (b:Bool) i=>#[.func (.yield l) #[] #[],.agg #[S (R a0.x),S (R a0.y)],.slice (some ⟨bp,oo,none⟩) pg.length cap,.int .i64 (k:Nat),.int .i64 ((k:Int)+1),.slice (some ⟨bp,oo,none⟩) pg.length cap,.int .i64 (pg.length:Nat),.int .i64 (q:Nat),.pointer (some ⟨bp,oo+q*2,none⟩),.agg #[S (R b0.x),S (R b0.y)],.bool b,.bool (!b)].getD i undef) true
    (fun b W'=>(b=true/\J (upto g k ++ [g k]) W'/\C3 n₀ Bs VA.drew W')∨(b=false/\Jx (upto g k ++ [g k]) W')) (by kernel_rfl) (by simp) ?_ ?_ ?_ ?_ (by simp)
   ·intro i o ho JU hw b;have hi:i<12:=(Array.getElem?_eq_some_iff.1 ho).1
    rcases(by omega:i=0∨i=1∨i=2∨i=3∨i=4∨i=5∨i=6∨i=7∨i=8∨i=9∨i=11)with rfl|rfl|rfl|rfl|rfl|rfl|rfl|rfl|rfl|rfl|rfl
    case inr.inr.inr.inr.inr.inr.inr.inr.inr.inr=>
     simp only [List.getElem?_toArray,List.getElem?_cons_zero,List.getElem?_cons_succ,As4]at ho;subst ho;have hw2:=hw.symm.trans (show _=true by kernel_rfl)
     cases hw2
    all_goals rfl
   ·intro bv listed a w' i o Ai ho JU AG FR hw0 K hK;have hi:i<12:=(Array.getElem?_eq_some_iff.1 ho).1;have e0:=Ai.out (s:=12) (m:=12) (by kernel_rfl) (d:=0) (by omega) rfl;have e1:=Ai.out (s:=12) (m:=12) (by kernel_rfl) (d:=1) (by omega) rfl;have e3:=Ai.out (s:=12) (m:=12) (by kernel_rfl) (d:=3) (by omega) rfl;have e4:=Ai.out (s:=12) (m:=12) (by kernel_rfl) (d:=4) (by omega) rfl;have hval:=fun i {d} hd hi hl {v} hv=>Ai.val (s:=12) (m:=12) (by kernel_rfl) i (d:=d) hd hi hl (v:=v) hv;refine⟨fun _ _=>trivial,?_⟩;rw [Oper.semAt_eq _ _ _ (Aav (l:=_) (by kernel_rfl) i o ho)];by_cases AqQ:i<10
    ·have h10:listed.getD 10 false=false:=by
      cases h:listed.getD 10 false
      ·rfl
      ·exfalso
       have g0:=Ai.waits (j:=10) rfl h 0 (by kernel_rfl);have g1:=Ai.waits (j:=10) rfl h 1 (by kernel_rfl);have g9:=Ai.waits (j:=10) rfl h 9 (by kernel_rfl);have g8:=Ai.waits (j:=9) rfl g9 8 (by kernel_rfl);have g2:=Ai.waits (j:=8) rfl g8 2 (by kernel_rfl);have g7:=Ai.waits (j:=8) rfl g8 7 (by kernel_rfl);have g4:=Ai.waits (j:=7) rfl g7 4 (by kernel_rfl);have g6:=Ai.waits (j:=7) rfl g7 6 (by kernel_rfl);have g3:=Ai.waits (j:=4) rfl g4 3 (by kernel_rfl);have g5:=Ai.waits (j:=6) rfl g6 5 (by kernel_rfl)
       rcases(by omega:i=0∨i=1∨i=2∨i=3∨i=4∨i=5∨i=6∨i=7∨i=8∨i=9)with rfl|rfl|rfl|rfl|rfl|rfl|rfl|rfl|rfl|rfl<;>simp_all
     obtain rfl:=hw0 h10;clear hw0 h10;have y0:VA.drew.cell? ⟨ba,0,none⟩=some (S (R a0.x)):=x0;have y1:VA.drew.cell? ⟨ba,1,none⟩=some (S (R a0.y)):=x1;have y2:VA.drew.cell? ⟨bp,oo+q*2,none⟩=some (S (R b0.x)):=x2;have y3:VA.drew.cell? ⟨bp,oo+q*2+1,none⟩=some (S (R b0.y)):=x3;have y4:VA.drew.cell? ⟨Bs,0,none⟩=some (.slice (some ⟨bp,oo,none⟩) pg.length cap):=x4
     rcases(by omega:i=0∨i=1∨i=2∨i=3∨i=4∨i=5∨i=6∨i=7∨i=8∨i=9)with rfl|rfl|rfl|rfl|rfl|rfl|rfl|rfl|rfl|rfl
     all_goals simp only [List.getElem?_toArray,List.getElem?_cons_zero,List.getElem?_cons_succ,As4]at ho
     all_goals subst ho
     all_goals have Bq:=O5 FR
     all_goals simp only [Act.eval]at e0 e1 e3 e4
     ·clear hval Bq FR AG;simp [execOp,go_sem,Oper.uponIn,e0];exact hK
     ·clear hval Bq FR AG;simp [execOp,go_sem,Oper.uponIn,e4,y0,y1];exact hK
     ·clear hval Bq FR AG;simp [execOp,go_sem,Oper.uponIn,e1,y4];exact hK
     ·clear hval Bq FR AG;simp [execOp,go_sem,Oper.uponIn,e3];exact hK
     ·have f15:=hval 3 (d:=15) rfl (by omega) (Bq 3 (by kernel_rfl)) rfl;simp only [Act.eval]at f15;clear hval Bq FR AG;simp [execOp,go_sem,Oper.uponIn,f15,NV];exact hK
     ·clear hval Bq FR AG;simp [execOp,go_sem,Oper.uponIn,e1,y4];exact hK
     ·have f17:=hval 5 (d:=17) rfl (by omega) (Bq 5 (by kernel_rfl)) rfl;simp only [Act.eval]at f17;clear hval Bq FR AG;simp [go_sem,Oper.uponIn,f17];exact hK
     ·have f16:=hval 4 (d:=16) rfl (by omega) (Bq 4 (by kernel_rfl)) rfl;have f18:=hval 6 (d:=18) rfl (by omega) (Bq 6 (by kernel_rfl)) rfl;simp only [Act.eval]at f16 f18;clear hval Bq FR AG;simp [execOp,go_sem,Oper.uponIn,f16,f18,lC,I8];exact hK
     ·have f14:=hval 2 (d:=14) rfl (by omega) (Bq 2 (by kernel_rfl)) rfl;have yW:=hval 7 (d:=19) rfl (by omega) (Bq 7 (by kernel_rfl)) rfl;simp only [Act.eval]at f14 yW;clear hval Bq FR AG;simp [execOp,go_sem,Oper.uponIn,f14,yW,Gx];exact hK
     ·have f20:=hval 8 (d:=20) rfl (by omega) (Bq 8 (by kernel_rfl)) rfl;simp only [Act.eval]at f20;clear hval Bq FR AG;simp [execOp,go_sem,Oper.uponIn,f20,y2,y3];exact hK
    ·obtain rfl:i=11:=(by omega);simp only [List.getElem?_toArray,List.getElem?_cons_zero,List.getElem?_cons_succ,As4]at ho;subst ho;have Bq:=O5 FR;have f22:=hval 10 (d:=22) rfl (by omega) (Bq 10 (by kernel_rfl)) rfl;simp only [Act.eval]at f22;clear hval Bq FR AG;simp [execOp,go_sem,Oper.uponIn,f22];exact hK
   ·intro bv listed a o Ai ho FR K hK;have hval:=fun i {d} hd hi hl {v} hv=>Ai.val (s:=12) (m:=12) (by kernel_rfl) i (d:=d) hd hi hl (v:=v) hv;have g0:=O5 FR 0;simp only [List.getElem?_toArray,List.getElem?_cons_zero,List.getElem?_cons_succ,As4]at ho;subst ho;have Bq:=O5 FR;have yU:=hval 0 (d:=12) rfl (by omega) (Bq 0 (by kernel_rfl)) rfl;have yV:=hval 1 (d:=13) rfl (by omega) (Bq 1 (by kernel_rfl)) rfl;have f21:=hval 9 (d:=21) rfl (by omega) (Bq 9 (by kernel_rfl)) rfl;simp only [Act.eval]at yU yV f21;clear hval Bq FR g0;refine⟨fun _ _=>trivial,?_⟩;rw [Oper.semAt_eq _ _ _ (fun c h=>by cases h)];simp [execOp,go_sem,Oper.uponIn,yU,yV,f21,hy];refine⟨fun _=>hn,HR.mono ?_⟩;rintro e W' ⟨b,rfl,hp⟩;exact hK b W' hp
   ·intro bv listed a w' Ai GI hall hp;have hval:=fun i {d} hd hi hl {v} hv=>Ai.val (s:=12) (m:=12) (by kernel_rfl) i (d:=d) hd hi hl (v:=v) hv;have hout:=fun {d} hd {v} hv=>Ai.out (s:=12) (m:=12) (by kernel_rfl) (d:=d) hd (v:=v) hv;have ha:=uE (a:=a) (l:=[.func (.yield l) #[] #[],.pointer (some ⟨Bs,0,none⟩),undef,.int .i64 (k:Nat),.pointer (some ⟨ba,0,none⟩),.slice (some ⟨bp,oo,none⟩) pg.length cap,.int .i64 (pg.length:Nat),.int .i64 (k:Nat),.bool true,.int .i64 (k:Nat),.pointer (some ⟨bp,oo+k*2,none⟩),.agg #[S (R a0.x),S (R a0.y)],.func (.yield l) #[] #[],.agg #[S (R a0.x),S (R a0.y)],.slice (some ⟨bp,oo,none⟩) pg.length cap,.int .i64 (k:Nat),.int .i64 ((k:Int)+1),.slice (some ⟨bp,oo,none⟩) pg.length cap,.int .i64 (pg.length:Nat),.int .i64 (q:Nat),.pointer (some ⟨bp,oo+q*2,none⟩),.agg #[S (R b0.x),S (R b0.y)],.bool bv,.bool (!bv),u24]) (by rw [Ai.sz];rfl) ?_ GI
    ·subst ha;clear hval hout Ai hall GI
     rcases hp with⟨rfl,hJ3,hk3⟩|⟨rfl,hJx3⟩
     ·gi_wp2;go_roundw
      case rel=>exact⟨k+1,hlt,by go_num,by rw [upto_succ];exact hJ3,av.trans hk3,AsA Akd hk3.below.size⟩
      case measure=>simp [intOf];omega
     ·gi_wp2;refine bodyPost_ret (results_none rfl _ _ _) rfl ?_;exact⟨⟨_,rfl⟩,.inr ⟨_,⟨k+1,hlt,by rw [upto_succ]⟩,hJx3⟩⟩
    ·intro d hd;have De:d<25:=hd
     rcases(by omega:d=0∨d=1∨d=2∨d=3∨d=4∨d=5∨d=6∨d=7∨d=8∨d=9∨d=10∨d=11∨d=24∨(12<=d/\d<24))with rfl|rfl|rfl|rfl|rfl|rfl|rfl|rfl|rfl|rfl|rfl|rfl|rfl|⟨h1,h2⟩
     case inr.inr.inr.inr.inr.inr.inr.inr.inr.inr.inr.inr.inr=>
      obtain⟨j,rfl⟩:∃j,d=12+j:=⟨d-12,by omega⟩;refine hval j rfl (by omega) (hall j (by simp;omega)) ?_
      rcases(by omega:j=0∨j=1∨j=2∨j=3∨j=4∨j=5∨j=6∨j=7∨j=8∨j=9∨j=10∨j=11)with rfl|rfl|rfl|rfl|rfl|rfl|rfl|rfl|rfl|rfl|rfl|rfl<;>rfl
     all_goals exact hout (by omega) rfl
  ·obtain rfl:k=pg.length:=(by omega);gi_wp2
   go_end0
   exact⟨⟨_,rfl⟩,.inl ⟨_,rfl,hJs⟩⟩
theorem Abf(F:Fence)(n:Nat)(hf:F.fn 130)(hro:F.round=none)(A:Option Addr)(m c:Nat)(w:World) :
  CallsIn F n Tryz.prog 130 #[.slice A m c] w fun e w'=>e=.returned (.func (.func 177) #[] #[.pointer (some ⟨w.heap.size,0,none⟩)])/\w'=w.alloc (.cells #[.slice A m c] 31):=by
 refine callsIn_of_wp Tryz.func130 rfl hf ?_ hro;simp only [Tryz.ntmps130,List.size_toArray,List.length_cons,List.length_nil,Nat.reduceAdd,Nat.reduceSub,Array.replicate_succ,Array.replicate_zero,List.push_toArray,List.append_toArray,List.nil_append,List.cons_append];gi_wp2;go_ret;exact⟨rfl,rfl⟩
theorem Abg{α:Type}(fe:α→Pt×Pt)(n:Nat)(hn:1<=n)(Bs n₀:Nat)(A:Option Addr)(cap:Nat)(pg:List Pt)(g:Nat→α)(hg:∀k,k<pg.length→fe (g k)=BE pg k)(w:World)(Aie:Bs<w.heap.size)(qp:n₀<=w.heap.size)
  (hlen:pg.length<=1000) (hc:w.cell? ⟨Bs,0,none⟩=some (.slice A pg.length cap)) (hv:∃w0,Ad w0 A (flat (Ag pg))/\w0.heap.size<=n₀/\Ab w0 w) :
  SeqStopsK Fence.wide n Tryz.prog 177 #[.pointer (some ⟨Bs,0,none⟩)] (fun x:α=>#[Af (fe x).1,Af (fe x).2]) (C3 n₀ Bs) (fun ys=>ys=upto g pg.length)
   (fun pre=>∃k,k<=pg.length/\pre=upto g k) pg.length w:=fun l J Jx W hW hJ _ hY h0=>by
 obtain⟨w0,hr,hs,hx⟩:=hv;have hsz:=hW.size;refine Anl fe n hn l Bs n₀ A cap pg g hg J Jx W hJ hY ((hW.cell (p:=⟨Bs,0,none⟩) Aie).trans hc) (by omega) (by omega) hlen ?_ h0;intro hp;obtain⟨b,o,e,h1,h2⟩:=BN hr hp;have hb:b<w0.heap.size:=World.block_lt_of_cell? w0 _ h1;refine⟨b,o,by omega,e,fun j hj=>?_⟩;obtain⟨b',o',e',h3,h4⟩:=BN hr hj;rw [e]at e';simp only [As4,Addr.mk.injEq,and_true]at e';obtain⟨rfl,rfl⟩:=e';rw [hW.cell (p:=⟨b,o+j*2,none⟩) (by show b<w.heap.size;omega),hW.cell (p:=⟨b,o+j*2+1,none⟩) (by show b<w.heap.size;omega)];exact⟨hx.cellS h3,hx.cellS h4⟩
end
theorem Lp(a b:Rat):a<b∨a=b∨b<a:=by grind
theorem O2{a b:Rat}(h:a<=b):a<b∨a=b:=by grind
def Up(x y:Rat):Prop:=0<y∨(y=0/\0<x)
theorem Anh{a b:Rat}(ha:0<a)(h:0<a*b):0<b:=by
 rcases Lp b 0 with hb|hb|hb
 ·have:=Rat.mul_pos ha (show 0 < -b by grind)
  grind
 ·subst hb;grind
 ·exact hb
theorem V8{a b:Rat}(ha:0<a)(h:0<=a*b):0<=b:=by
 rcases Lp b 0 with hb|hb|hb
 ·have:=Rat.mul_pos ha (show 0 < -b by grind)
  grind
 ·grind
 ·grind
theorem dZ{ux uy vx vy wx wy:Rat}(hu:Up ux uy)(hv:Up vx vy)(hw:Up wx wy)(h1:0<ux*vy-uy*vx)(h2:0<vx*wy-vy*wx):0<ux*wy-uy*wx:=by
 have RB:0<=uy:=(by unfold Up at hu;grind);have Vm:0<=wy:=by unfold Up at hw;grind
 rcases hv with hv|⟨hv,hv'⟩
 ·have e:vy*(ux*wy-uy*wx)=wy*(ux*vy-uy*vx)+uy*(vx*wy-vy*wx):=(by grind);refine Anh hv ?_;rw [e];have a1:=Rat.mul_nonneg Vm (Rat.le_of_lt h1);have a2:=Rat.mul_nonneg RB (Rat.le_of_lt h2)
  rcases O2 Vm with hw1|hw1
  ·have:=Rat.mul_pos hw1 h1;grind
  ·rcases O2 RB with hu1|hu1
   ·have:=Rat.mul_pos hu1 h2;grind
   ·exfalso
    have hwx:0<wx:=(by unfold Up at hw;grind);have:=Rat.mul_pos hv hwx;subst hw1;subst hu1;clear a1 a2 e
    grind
 ·exfalso
  have:=Rat.mul_nonneg RB (Rat.le_of_lt hv');subst hv
  grind
theorem xK{ux uy vx vy wx wy:Rat}(hu:Up ux uy)(hv:Up vx vy)(hw:Up wx wy)(h1:ux*vy-uy*vx<=0)(h2:vx*wy-vy*wx<=0):ux*wy-uy*wx<=0:=by
 have RB:0<=uy:=(by unfold Up at hu;grind);have Vm:0<=wy:=by unfold Up at hw;grind
 rcases hv with hv|⟨hv,hv'⟩
 ·have e:vy*(-(ux*wy-uy*wx))=wy*(-(ux*vy-uy*vx))+uy*(-(vx*wy-vy*wx)):=by grind
  have:0<=-(ux*wy-uy*wx):=by
   refine V8 hv ?_;rw [e];have a1:=Rat.mul_nonneg Vm (show 0<=-(ux*vy-uy*vx)by grind);have a2:=Rat.mul_nonneg RB (show 0<=-(vx*wy-vy*wx)by grind)
   grind
  grind
 ·subst hv
  have Akr:wy=0:=by
   rcases O2 Vm with hw1|hw1
   ·have:=Rat.mul_pos hv' hw1;grind
   ·exact hw1.symm
  have hwx:0<wx:=(by unfold Up at hw;grind);have:=Rat.mul_nonneg RB (Rat.le_of_lt hwx);subst Akr
  grind
/-! ### Directions around a place -/
theorem TB(p q:Rat):AO p q<0↔p<q:=by unfold AO;grind
theorem Xl(p q:Rat):AO p q=0↔p=q:=by unfold AO;grind
theorem TC(p q:Rat):0<AO p q↔q<p:=by unfold AO;grind
theorem AbK(q:Rat):AN q=0↔q=0:=by unfold AN;grind
theorem ZK(q:Rat):0<AN q↔0<q:=by unfold AN;grind
theorem M7(p q:Pt):Cd p q=0↔Up (q.x-p.x) (q.y-p.y):=by
 unfold Cd Kj Up;simp only [TC,Xl];constructor
 ·intro h;by_cases h1:p.y<q.y
  ·left;grind
  ·rw [if_neg h1]at h;by_cases h2:q.y=p.y
   ·rw [if_pos h2]at h;by_cases h3:p.x<q.x
    ·right;grind
    ·rw [if_neg h3]at h;cases h
   ·rw [if_neg h2]at h;cases h
 ·rintro(h|⟨h1,h2⟩)
  ·rw [if_pos (by grind)]
  ·rw [if_neg (by grind),if_pos (by grind),if_pos (by grind)]
theorem Vx(p q:Pt):Cd p q=0∨Cd p q=1:=by
 unfold Cd Kj
 (repeat' split)<;>simp
theorem Om{p q:Pt}(hne:q≠p)(h:Cd p q=1):Up (p.x-q.x) (p.y-q.y):=by
 have h0:¬Up (q.x-p.x) (q.y-p.y):=(by rw [←M7];omega);unfold Up at *;by_cases h1:q.y=p.y
 ·right
  refine⟨by grind,?_⟩;have:q.x≠p.x:=fun e=>hne (by cases p;cases q;simp_all)
  grind
 ·left;grind
def DD(p a b:Pt):Int:=if Cd p a-Cd p b≠0 then Cd p a-Cd p b else -AN (Am p a b)
theorem xY(p a b:Pt):DD p a b<0↔Cd p a<Cd p b∨(Cd p a=Cd p b/\0<Am p a b):=by
 unfold DD;have hs:=ZK (Am p a b)
 split
 ·constructor
  ·intro h;left;omega
  ·rintro(h|⟨h,_⟩)<;>omega
 ·constructor
  ·intro h;exact .inr ⟨by omega,hs.1 (by omega)⟩
  ·rintro(h|⟨_,h⟩)
   ·omega
   ·have:=hs.2 h;omega
theorem xZ(p a b:Pt):DD p a b=0↔Cd p a=Cd p b/\Am p a b=0:=by
 unfold DD;have hs:=AbK (Am p a b)
 split
 ·constructor
  ·intro h;omega
  ·rintro⟨h,_⟩;omega
 ·constructor
  ·intro h;exact⟨by omega,hs.1 (by omega)⟩
  ·rintro⟨_,h⟩;have:=hs.2 h;omega
theorem Afv(p a:Pt):Am p a a=0:=by unfold Am;grind
theorem dF(p a b:Pt):Am p b a =-Am p a b:=by unfold Am;grind
theorem dG(p a b:Pt):Am p a b=(p.x-a.x)*(p.y-b.y)-(p.y-a.y)*(p.x-b.x):=by unfold Am;grind
theorem AgQ{p a b c:Pt}(ha:a≠p)(hb:b≠p)(hc:c≠p)(h1:DD p a b<0)(h2:DD p b c<0):DD p a c<0:=by
 rw [xY]at *
 rcases h1 with h1|⟨e1,h1⟩
 ·left
  rcases h2 with h2|⟨e2,h2⟩<;>omega
 ·rcases h2 with h2|⟨e2,h2⟩
  ·left;omega
  ·right
   refine⟨by omega,?_⟩
   rcases Vx p a with ea|ea
   ·unfold Am at *;exact dZ ((M7 p a).1 ea) ((M7 p b).1 (by omega)) ((M7 p c).1 (by omega)) h1 h2
   ·rw [dG]at *;exact dZ (Om ha ea) (Om hb (by omega)) (Om hc (by omega)) h1 h2
theorem AgO{p a b c:Pt}(ha:a≠p)(hb:b≠p)(hc:c≠p)(h1:¬DD p a b<0)(h2:¬DD p b c<0):¬DD p a c<0:=by
 rw [xY]at *;rintro(h|⟨e,h⟩)
 ·have:¬Cd p a<Cd p b:=fun h=>h1 (.inl h);have:¬Cd p b<Cd p c:=fun h=>h2 (.inl h);omega
 ·have e1:¬Cd p a<Cd p b:=fun h=>h1 (.inl h);have e2:¬Cd p b<Cd p c:=fun h=>h2 (.inl h);have f1:Cd p a=Cd p b:=(by omega);have f2:Cd p b=Cd p c:=by omega
  have g1:Am p a b<=0:=by
   have:¬0<Am p a b:=fun h=>h1 (.inr ⟨f1,h⟩)
   grind
  have g2:Am p b c<=0:=by
   have:¬0<Am p b c:=fun h=>h2 (.inr ⟨f2,h⟩)
   grind
  have:Am p a c<=0:=by
   rcases Vx p a with ea|ea
   ·unfold Am at *;exact xK ((M7 p a).1 ea) ((M7 p b).1 (by omega)) ((M7 p c).1 (by omega)) g1 g2
   ·rw [dG]at *;exact xK (Om ha ea) (Om hb (by omega)) (Om hc (by omega)) g1 g2
  grind
/-! ### Segments without a common place but an end of both -/
def FO(a b z:Pt):Prop:=∃t:Rat,0<=t/\t<=1/\z.x=a.x+t*(b.x-a.x)/\z.y=a.y+t*(b.y-a.y)
theorem FO.swap{a b z:Pt}(h:FO a b z):FO b a z:=by
 obtain⟨t,h0,h1,hx,hy⟩:=h;exact⟨1-t,by grind,by grind,by grind,by grind⟩
theorem Vv(a b:Pt):AY a b<=0↔a.x<b.x∨(a.x=b.x/\a.y<=b.y):=by
 unfold AY;have h1:=Xl a.x b.x;have h2:=TB a.x b.x;have h3:=TB a.y b.y;have h4:=TC a.x b.x;have h5:=TC a.y b.y
 split
 ·constructor
  ·intro h
   left
   exact h2.1 (by omega)
  ·rintro(h|⟨h,_⟩)
   ·have:=h2.2 h;omega
   ·exact absurd (h1.2 h) (by assumption)
 ·have e:a.x=b.x:=h1.1 (by omega);constructor
  ·intro h
   right
   refine⟨e,?_⟩;have:¬b.y<a.y:=fun h6=>by have:=h5.2 h6;omega
   grind
  ·rintro(h|⟨_,h⟩)
   ·grind
   ·have:¬0<AO a.y b.y:=fun h6=>(by have:=h5.1 h6;grind);omega
theorem Als(a b:Pt):0<AY a b↔b.x<a.x∨(a.x=b.x/\b.y<a.y):=by
 have:=Vv a b;constructor
 ·intro h;have h1:¬(a.x<b.x∨(a.x=b.x/\a.y<=b.y)):=fun h2=>by have:=this.2 h2;omega
  grind
 ·intro h;have h1:¬AY a b<=0:=fun h2=>(by have:=this.1 h2;grind);omega
theorem Zh{t d:Rat}(h0:0<=t)(h1:t<=1)(hd:0<=d):0<=t*d/\t*d<=d:=by
 have a:=Rat.mul_nonneg h0 hd;have b:=Rat.mul_nonneg (show 0<=1-t by grind) hd;exact⟨a,by grind⟩
theorem MC{a b:Rat}(h:a*b=0):a=0∨b=0:=Rat.mul_eq_zero.1 h
theorem Aa7{a b z:Pt}(hz:FO a b z)(hl:AY a b<=0):Ov a b z=true:=by
 obtain⟨t,h0,h1,hx,hy⟩:=hz;rw [Vv]at hl;have ea:Am a b z=0:=by unfold Am;rw [hx,hy];grind
 have l1:AY a z<=0:=by
  rw [Vv]
  rcases hl with hl|⟨hl,hl2⟩
  ·have:=Zh h0 h1 (show 0<=b.x-a.x by grind)
   rcases O2 this.1 with h|h
   ·left;grind
   ·right
    have ht:t=0:=by rcases MC h.symm with h|h<;>grind
    subst ht;constructor<;>grind
  ·right
   have:=Zh h0 h1 (show 0<=b.y-a.y by grind);constructor<;>grind
 have l2:AY z b<=0:=by
  rw [Vv]
  rcases hl with hl|⟨hl,hl2⟩
  ·have:=Zh (show 0<=1-t by grind) (show 1-t<=1 by grind) (show 0<=b.x-a.x by grind)
   rcases O2 this.1 with h|h
   ·left;grind
   ·right
    have ht:t=1:=by rcases MC h.symm with h|h<;>grind
    subst ht;constructor<;>grind
  ·right
   have:=Zh h0 h1 (show 0<=b.y-a.y by grind);constructor<;>grind
 unfold Ov Ln;rw [(AbK _).2 ea];simp [l1,l2]
theorem Ane{a b z:Pt}(hz:FO a b z):FY a b z=true:=by
 unfold FY
 split
 ·rename_i h
  refine Aa7 hz.swap ?_;rw [Als]at h;rw [Vv]
  grind
 ·exact Aa7 hz (by omega)
structure Gf(a b c d:Pt):Prop where
 pc:FO a b c→c=a∨c=b
 pd:FO a b d→d=a∨d=b
 pa:FO c d a→a=c∨a=d
 pb:FO c d b→b=c∨b=d
 px:a≠c→a≠d→b≠c→b≠d→Am a b c*Am a b d<0→Am c d a*Am c d b<0→False
theorem Gf.symm{a b c d:Pt}(h:Gf a b c d):Gf c d a b:=
 ⟨h.pa,h.pb,h.pc,h.pd,fun h1 h2 h3 h4 h5 h6=>h.px (Ne.symm h1) (Ne.symm h3) (Ne.symm h2) (Ne.symm h4) h6 h5⟩
theorem uW(a b c:Pt):Am b a c =-Am a b c:=by unfold Am;grind
theorem Gf.left{a b c d:Pt}(h:Gf a b c d):Gf b a c d:=
 ⟨fun k=>(h.pc k.swap).symm,fun k=>(h.pd k.swap).symm,h.pb,h.pa,fun h1 h2 h3 h4 h5 h6=>h.px h3 h4 h1 h2 (by rw [uW,uW a b d]at h5;grind) (by grind)⟩
theorem Gf.right{a b c d:Pt}(h:Gf a b c d):Gf a b d c:=h.symm.left.symm
theorem AbO{p q:Rat}(h:p*q<0):AN p*AN q<0:=by
 rcases Lp p 0 with hp|hp|hp
 ·have:0<q:=by
   rcases Lp q 0 with hq|hq|hq
   ·have:=Rat.mul_pos (show 0 < -p by grind) (show 0 < -q by grind);grind
   ·subst hq;grind
   ·exact hq
  have e1:AN p = -1:=(by unfold AN;grind);have e2:AN q=1:=(by unfold AN;grind);rw [e1,e2];decide
 ·subst hp;grind
 ·have:q<0:=by
   rcases Lp q 0 with hq|hq|hq
   ·exact hq
   ·subst hq;grind
   ·have:=Rat.mul_pos hp hq;grind
  have e1:AN p=1:=(by unfold AN;grind);have e2:AN q = -1:=(by unfold AN;grind);rw [e1,e2];decide
theorem Xn{x y z:Pt}(h:LJ x y z=false)(hz:FO x y z):z=x∨z=y:=by
 unfold LJ at h;rw [Ane hz,Bool.true_and]at h;rw [Bool.and_eq_false_iff]at h
 rcases h with h|h
 ·left;exact Ca.1 (by simpa using h)
 ·right;exact Ca.1 (by simpa using h)
theorem Ama{a b c d:Pt}(h:Oy a b c d=false):Gf a b c d:=by
 unfold Oy at h;rw [Bool.or_eq_false_iff]at h;obtain⟨h1,h2⟩:=h;rw [List.any_eq_false]at h1;have m1:=h1 (c,d,a) (by simp [Jy]);have m2:=h1 (c,d,b) (by simp [Jy]);have m3:=h1 (a,b,c) (by simp [Jy]);have m4:=h1 (a,b,d) (by simp [Jy]);simp only [Bool.not_eq_true]at m1 m2 m3 m4;refine⟨Xn m3,Xn m4,Xn m1,Xn m2,?_⟩;intro k1 k2 k3 k4 k5 k6
 have hs:ZL a b c d=false:=by
  unfold ZL
  have f:∀{p q:Pt},p≠q→Aq p q=false:=fun hn=>by rw [Bool.eq_false_iff];exact fun e=>hn (Ca.1 e)
  rw [f k1,f k2,f k3,f k4];rfl
 have hp:Sf a b c d=true:=by unfold Sf Ly;rw [decide_eq_true (AbO k5),decide_eq_true (AbO k6)];rfl
 rw [hs,hp]at h2
 cases h2
theorem AgM{p a b:Pt}(h:Gf p a p b)(ha:a≠p)(hb:b≠p)(h0:DD p a b=0):a=b:=by
 rw [xZ]at h0;obtain⟨e,h0⟩:=h0
 have key:∀{ux uy vx vy:Rat},Up ux uy→Up vx vy→ux*vy-uy*vx=0→∃t:Rat,(0<=t/\t<=1/\ux=t*vx/\uy=t*vy)∨(0<=t/\t<=1/\vx=t*ux/\vy=t*uy):=by
  have half:∀{ux uy vx vy:Rat},0<vy→0<=uy→uy<=vy→ux*vy-uy*vx=0→0<=uy/vy/\uy/vy<=1/\ux=uy/vy*vx/\uy=uy/vy*vy:=by
   intro ux uy vx vy hv hu hl h;have hv0:vy≠0:=(by grind);have e:uy/vy*vy=uy:=(by rw [Rat.div_def,Rat.mul_assoc,Rat.mul_comm vy⁻¹,Rat.mul_inv_cancel _ hv0];grind);refine⟨V8 hv (by rw [Rat.mul_comm,e];exact hu),?_,?_,e.symm⟩
   ·have:=V8 (b:=1-uy/vy) hv (by grind)
    grind
   ·have h1:vy*(ux-uy/vy*vx)=0:=by generalize uy/vy=q at *;have:vy*(ux-q*vx)=vy*ux-(q*vy)*vx:=(by grind);rw [this,e];grind
    rcases MC h1 with h2|h2
    ·exact absurd h2 hv0
    ·grind
  intro ux uy vx vy hu hv h
  rcases hu with hu|⟨hu,Lf⟩
  ·rcases hv with hv|⟨hv,hv'⟩
   ·by_cases hl:uy<=vy
    ·exact⟨_,.inl (half hv (by grind) hl h)⟩
    ·exact⟨_,.inr (half hu (by grind) (by grind) (by grind))⟩
   ·exfalso
    have:=Rat.mul_pos hu hv';subst hv;grind
  ·rcases hv with hv|⟨hv,hv'⟩
   ·exfalso
    have:=Rat.mul_pos hv Lf;subst hu;grind
   ·subst hu;subst hv;by_cases hl:ux<=vx
    ·have:=half (ux:=0) (vx:=0) hv' (by grind) hl (by grind);exact⟨_,.inl ⟨this.1,this.2.1,this.2.2.2,by grind⟩⟩
    ·have:=half (ux:=0) (vx:=0) Lf (by grind) (show vx<=ux by grind) (by grind);exact⟨_,.inr ⟨this.1,this.2.1,this.2.2.2,by grind⟩⟩
 have main:∃t:Rat,(0<=t/\t<=1/\a.x-p.x=t*(b.x-p.x)/\a.y-p.y=t*(b.y-p.y))∨(0<=t/\t<=1/\b.x-p.x=t*(a.x-p.x)/\b.y-p.y=t*(a.y-p.y)):=by
  rcases Vx p a with ea|ea
  ·exact key ((M7 p a).1 ea) ((M7 p b).1 (by omega)) h0
  ·rw [dG]at h0;obtain⟨t,ht⟩:=key (Om ha ea) (Om hb (by omega)) h0;exact⟨t,ht.imp (fun ⟨h1,h2,h3,h4⟩=>⟨h1,h2,by grind,by grind⟩) (fun ⟨h1,h2,h3,h4⟩=>⟨h1,h2,by grind,by grind⟩)⟩
 obtain⟨t,⟨h1,h2,h3,h4⟩|⟨h1,h2,h3,h4⟩⟩:=main
 ·rcases h.pb ⟨t,h1,h2,by grind,by grind⟩with e|e
  ·exact absurd e ha
  ·exact e
 ·rcases h.pd ⟨t,h1,h2,by grind,by grind⟩with e|e
  ·exact absurd e hb
  ·exact e.symm
theorem xj{g:FuncId}{cb:Array Value}(eg:∀args w,(callFunc g args).run Tryz.prog w=.ok (.enter g args) w)(p:EdZ→Bool)(l:List EdZ)(A:Option Addr)(c:Nat)(w:World)(hr:Ad w A (Ar l))(hc:l.length<=c)(hcm:c<=9223372036854775807)
  (hp:∀e∈l,∀W,Ab w W→Calls Tryz.prog g (#[IZ e]++cb) W (BP (p e) W)) :
  Calls Tryz.prog 76 #[.slice A l.length c,.func (.func g) #[] cb] w (AI (Ds p l) w):=by
 obtain⟨r,hr0⟩:=Asw (Ds p l);rw [←hr0];have HR:=Asx hr0;have HP:=Asx hp;clear hr0 hp;go_enter Tryz.func76,Tryz.ntmps76;go_wp2
 go_loopw [8] (fun i wr=>∃j:Nat,i=.int .i64 (j:Nat)/\j<=l.length/\(∀q∈l.take j,p q=false)/\Ab w wr) (fun i _=>l.length-(intOf i).toNat)
 case atStart=>exact⟨0,rfl,by omega,by simp,Ab.refl _⟩
 case round=>
  obtain⟨j,rfl,hj,Ai,Ae⟩:=hrel;have HO:=Asx Ai;clear Ai;by_cases hlt:j<l.length
  ·obtain⟨b,o,rfl,hg1,hg2,hg3,hg4⟩:=MD (hr.ext Ae) hlt;obtain⟨q,hq⟩:=Asw (l[j]);have bf:=HP.out l[j] (As1 hlt) wr Ae;rw [←hq]at hg1 hg2 hg3 hg4 bf;unfold IZ at bf;have hj0:(0:Int)<=(j:Int):=(by omega);have Ay:(j:Int)<(l.length:Int):=(by omega);have HQ:=Asx hq;clear hq
   cases e0:p q
   ·have HE:=Asx e0;rw [e0]at bf;clear e0;(go_wp2_with fail);(with_reducible refine bf.mono ?_);rintro e w2 ⟨rfl,hx2⟩;go_wp2;go_roundw
    case rel=>
     refine⟨j+1,by go_num,hlt,?_,Ae.trans hx2⟩;intro x hx;rw [As3 hlt,←HQ.out]at hx
     rcases List.mem_append.1 hx with h|h
     ·exact HO.out x h
     ·simp only [AsC]at h;rw [h];exact HE.out
    case measure=>simp [intOf];omega
   ·have CZ:r=(j:Int):=(by rw [HR.out];exact nE hlt HO.out (by rw [←HQ.out];exact e0));rw [e0]at bf;clear e0;subst CZ;(go_wp2_with fail);(with_reducible refine bf.mono ?_);rintro e w2 ⟨rfl,hx2⟩;go_wp2;go_ret;exact⟨rfl,Ae.trans hx2⟩
  ·have hle:(l.length:Int)<=(j:Int):=(by omega);have CZ:r = -1:=(by rw [HR.out];exact nG (by have:=HO.out;rw [As8 (by omega)]at this;exact this));subst CZ;go_wp2;go_ret;exact⟨rfl,Ae⟩
theorem Afb{g:FuncId}{cb:Array Value}(eg:∀args w,(callFunc g args).run Tryz.prog w=.ok (.enter g args) w)(p:EdZ→Bool)(l:List EdZ)(A:Option Addr)(c:Nat)(w:World)(hr:Ad w A (Ar l))(hc:l.length<=c)(hcm:c<=9223372036854775807)
  (hp:∀e∈l,∀W,Ab w W→Calls Tryz.prog g (#[IZ e]++cb) W (BP (p e) W)) :
  Calls Tryz.prog 100 #[.slice A l.length c,.func (.func g) #[] cb] w (BP (l.any p) w):=by
 have ix:=xj eg p l A c w hr hc hcm hp;have ha:=nD p l;obtain⟨r,hr0⟩:=Asw (l.any p);rw [←hr0]at ha ⊢;generalize Ds p l=z at *;clear hr hr0 hp eg;go_enter Tryz.func100,Tryz.ntmps100;(go_wp2_with fail);(with_reducible refine ix.mono ?_);rintro e w1 ⟨rfl,hx⟩;go_wp2;go_ret;exact⟨by rw [←ha];rfl,hx⟩
def VK(t:Bs×Bs):Value:=.agg #[S t.1,S t.2]
theorem ZD{w:World}{A:Option Addr}{l:List (Bs×Bs)}(hr:Ad w A (flat l)){j:Nat}(h:j<l.length):∃b o,A=some ⟨b,o,none⟩/\w.cell? ⟨b,o+j*2,none⟩=some (S l[j].1)/\w.cell? ⟨b,o+j*2+1,none⟩=some (S l[j].2):=by
 obtain⟨b,o,e,hcs⟩:=hr.ad (by rw [flat_length];omega);obtain⟨f1,f2⟩:=flat_get l j h;have hg1:=hcs (j*2) (by rw [flat_length];omega);have hg2:=hcs (j*2+1) (by rw [flat_length];omega);rw [As5 (by rw [flat_length];omega),As4]at f1 f2;rw [f1]at hg1;rw [f2,←Nat.add_assoc]at hg2;exact⟨b,o,e,hg1,hg2⟩
theorem Ak5{g:FuncId}{cb:Array Value}(eg:∀args w,(callFunc g args).run Tryz.prog w=.ok (.enter g args) w)(p:(Bs×Bs)→Bool)(l:List (Bs×Bs))(A:Option Addr)(c:Nat)(w:World)(hr:Ad w A (flat l))(hc:l.length<=c)(hcm:c<=9223372036854775807)
  (hp:∀e∈l,∀W,Ab w W→Calls Tryz.prog g (#[VK e]++cb) W (BP (p e) W)) :
  Calls Tryz.prog 63 #[.slice A l.length c,.func (.func g) #[] cb] w (AI (Ds p l) w):=by
 obtain⟨r,hr0⟩:=Asw (Ds p l);rw [←hr0];have HR:=Asx hr0;have HP:=Asx hp;clear hr0 hp;go_enter Tryz.func63,Tryz.ntmps63;go_wp2
 go_loopw [8] (fun i wr=>∃j:Nat,i=.int .i64 (j:Nat)/\j<=l.length/\(∀q∈l.take j,p q=false)/\Ab w wr) (fun i _=>l.length-(intOf i).toNat)
 case atStart=>exact⟨0,rfl,by omega,by simp,Ab.refl _⟩
 case round=>
  obtain⟨j,rfl,hj,Ai,Ae⟩:=hrel;have HO:=Asx Ai;clear Ai;by_cases hlt:j<l.length
  ·obtain⟨b,o,rfl,hg1,hg2⟩:=ZD (hr.ext Ae) hlt;obtain⟨q,hq⟩:=Asw (l[j]);have bf:=HP.out l[j] (As1 hlt) wr Ae;rw [←hq]at hg1 hg2 bf;unfold VK at bf;have hj0:(0:Int)<=(j:Int):=(by omega);have Ay:(j:Int)<(l.length:Int):=(by omega);have HQ:=Asx hq;clear hq
   cases e0:p q
   ·have HE:=Asx e0;rw [e0]at bf;clear e0;(go_wp2_with fail);(with_reducible refine bf.mono ?_);rintro e w2 ⟨rfl,hx2⟩;go_wp2;go_roundw
    case rel=>
     refine⟨j+1,by go_num,hlt,?_,Ae.trans hx2⟩;intro x hx;rw [As3 hlt,←HQ.out]at hx
     rcases List.mem_append.1 hx with h|h
     ·exact HO.out x h
     ·simp only [AsC]at h;rw [h];exact HE.out
    case measure=>simp [intOf];omega
   ·have CZ:r=(j:Int):=(by rw [HR.out];exact nE hlt HO.out (by rw [←HQ.out];exact e0));rw [e0]at bf;clear e0;subst CZ;(go_wp2_with fail);(with_reducible refine bf.mono ?_);rintro e w2 ⟨rfl,hx2⟩;go_wp2;go_ret;exact⟨rfl,Ae.trans hx2⟩
  ·have hle:(l.length:Int)<=(j:Int):=(by omega);have CZ:r = -1:=(by rw [HR.out];exact nG (by have:=HO.out;rw [As8 (by omega)]at this;exact this));subst CZ;go_wp2;go_ret;exact⟨rfl,Ae⟩
theorem uO{g:FuncId}{cb:Array Value}(eg:∀args w,(callFunc g args).run Tryz.prog w=.ok (.enter g args) w)(p:(Bs×Bs)→Bool)(l:List (Bs×Bs))(A:Option Addr)(c:Nat)(w:World)(hr:Ad w A (flat l))(hc:l.length<=c)(hcm:c<=9223372036854775807)
  (hp:∀e∈l,∀W,Ab w W→Calls Tryz.prog g (#[VK e]++cb) W (BP (p e) W)) :
  Calls Tryz.prog 35 #[.slice A l.length c,.func (.func g) #[] cb] w (BP (l.any p) w):=by
 have ix:=Ak5 eg p l A c w hr hc hcm hp;have ha:=nD p l;obtain⟨r,hr0⟩:=Asw (l.any p);rw [←hr0]at ha ⊢;generalize Ds p l=z at *;clear hr hr0 hp eg;go_enter Tryz.func35,Tryz.ntmps35;(go_wp2_with fail);(with_reducible refine ix.mono ?_);rintro e w1 ⟨rfl,hx⟩;go_wp2;go_ret;exact⟨by rw [←ha];rfl,hx⟩
theorem yR:∀args w,(callFunc 36 args).run Tryz.prog w=.ok (.enter 36 args) w:=enters_of Tryz.func36 (by kernel_rfl) rfl
def Gn(t:Bs×Bs):Bool:=!(t.1 == []&&t.2 == [])
theorem wG(t:Bs×Bs)(w:World):Calls Tryz.prog 36 #[VK t] w (BP (Gn t) w):=by
 have hE:=(Ab.refl w).alloc (.cells #[S t.1,S t.2] 24);have hq:=Asz w (.cells #[S t.1,S t.2] 24);obtain⟨x,y⟩:=t;unfold VK Gn
 dsimp only at hE hq ⊢
 go_enter Tryz.func36,Tryz.ntmps36
 go_upto_region 1 with fail
 have q0:=Aa (o:=0) hq rfl;have q1:=Aa (o:=1) hq rfl
 cases x with
 | nil=>
  cases y with
  | nil=>
   go_wp2;go_ret;exact⟨rfl,hE⟩
  | cons b y=>
   go_wp2;go_ret;exact⟨rfl,hE⟩
 | cons a x=>go_wp2;go_ret;exact⟨rfl,hE⟩
end Go.Proofs.YtnddllipjippnaaGreatDoor
