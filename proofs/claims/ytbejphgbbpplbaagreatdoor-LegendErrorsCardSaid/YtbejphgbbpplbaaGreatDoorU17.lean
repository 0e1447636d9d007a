/- U17: ShD2A ShBM ShN1 ShN2. -/
import Derived.Test.YtbejphgbbpplbaaGreatDoorU16
import Derived.Test.YtbejphgbbpplbaaGreatDoorU15
set_option maxRecDepth 100000
set_option maxHeartbeats 4000000
namespace Go.Proofs.YtbejphgbbpplbaaGreatDoor
open Go.RowKit Kl
def MD(q:Rat):Prop:=∃a:Int,a.natAbs<=9/\q=(a:Rat)/2
structure DX(p:Pt):Prop where
 x:MD p.x
 y:MD p.y
structure G8(s:Sg):Prop where
 a:DX s.a
 b:DX s.b
def Ja(n:Nat)(q:Rat):Prop:=∃a:Int,a.natAbs<=n/\q=(a:Rat)/4
theorem Ja.sz{n K:Nat}{q:Rat}(h:Ja n q)(hn:n<10^K)(hK:0<K):Sz K q:=by
 obtain⟨a,ha,rfl⟩:=h;have:(a:Rat)/4=mkRat a 4:=(by rw [Rat.mkRat_eq_div];rfl);rw [this];have h10:10^1<=10^K:=Nat.pow_le_pow_right (by omega) (by omega);exact Sz.mkRat (by omega) (by omega) (by omega)
theorem MD.sz{K:Nat}{q:Rat}(h:MD q)(hK:1<=K):Sz K q:=by
 obtain⟨a,ha,rfl⟩:=h;have:(a:Rat)/2=mkRat a 2:=(by rw [Rat.mkRat_eq_div];rfl);rw [this];have h10:10^1<=10^K:=Nat.pow_le_pow_right (by omega) (by omega);exact Sz.mkRat (by omega) (by omega) (by omega)
theorem DX.sz{K:Nat}{p:Pt}(h:DX p)(hK:1<=K):Aq K p:=⟨h.x.sz hK,h.y.sz hK⟩
theorem G8.sz{K:Nat}{s:Sg}(h:G8 s)(hK:1<=K):Gk K s:=⟨h.a.sz hK,h.b.sz hK⟩
theorem Yn{x y:Int}{m n:Nat}(h1:x.natAbs<=m)(h2:y.natAbs<=n):(x*y).natAbs<=m*n:=by
 rw [Int.natAbs_mul];exact Nat.mul_le_mul h1 h2
theorem sV{p a b:Pt}(hp:DX p)(ha:DX a)(hb:DX b):Ja 648 (Ai p a b):=by
 obtain⟨⟨p1,ED,e1⟩,⟨p2,J2,e2⟩⟩:=hp;obtain⟨⟨a1,ha1,e3⟩,⟨a2,ha2,e4⟩⟩:=ha;obtain⟨⟨b1,hb1,e5⟩,⟨b2,hb2,e6⟩⟩:=hb;refine⟨(a1-p1)*(b2-p2)-(a2-p2)*(b1-p1),?_,?_⟩
 ·have h1:=Yn (x:=a1-p1) (y:=b2-p2) (m:=18) (n:=18) (by omega) (by omega);have h2:=Yn (x:=a2-p2) (y:=b1-p1) (m:=18) (n:=18) (by omega) (by omega);generalize (a1-p1)*(b2-p2)=X at *;generalize (a2-p2)*(b1-p1)=Y at *;omega
 ·unfold Ai;rw [e1,e2,e3,e4,e5,e6];simp only [Rat.intCast_sub,Rat.intCast_mul]
  grind
theorem Ja.add{m n:Nat}{p q:Rat}(hp:Ja m p)(hq:Ja n q):Ja (m+n) (p+q):=by
 obtain⟨a,ha,rfl⟩:=hp;obtain⟨b,hb,rfl⟩:=hq;refine⟨a+b,by omega,?_⟩;rw [Rat.intCast_add];grind
theorem Ja.mono{m n:Nat}{p:Rat}(hp:Ja m p)(h:m<=n):Ja n p:=by
 obtain⟨a,ha,rfl⟩:=hp;exact⟨a,by omega,rfl⟩
section
open Go.Shelf
attribute [local go_sem] Oper.semAt_some
theorem AgR{w w':World}(h:Aa w w')(row:Option Nat):w.grownBy w' row:=⟨h.os,h.tape,h.output,h.size,fun k hk _=>h.block k hk⟩
def BB(p:List Pt)(k:Nat):Pt×Pt:=(p.getD k ⟨0,0⟩,p.getD ((k+1)%p.length) ⟨0,0⟩)
theorem ZU{a:Act}{l:List Value}{ds:List Deferred}(hs:a.tmps.size=l.length)(h:∀d (hd:d<l.length),a.eval (.tmp d)=l[d])(hd:a.defers=ds):a = {tmps:=l.toArray,defers:=ds}:=by
 obtain⟨t,d⟩:=a;simp only at hd hs;subst hd
 congr 1
 apply Array.ext
 ·simpa using hs
 ·intro i h1 h2;have:=h i (by simpa using h2);simp only [Act.eval,Array.getD_eq_getD_getElem?,Array.getElem?_eq_getElem h1,Option.getD_some]at this
  simpa using this
section
variable {F : Fence} {n : Nat} {P : Program} {ops : Array Oper} {Q : Exit → Act → World → Prop}
theorem Apu{β:Type}(s m c:Nat)(val:β→Nat→Value)(b0:β)(R:β→World→Prop){a0:Act}{w:World}(hb:okB s m ops=true)(hB:s+m<=a0.tmps.size)
  (hval:∀(i:Nat) (o:Oper),ops[i]?=some o→i≠c→(waits o).contains c=false→∀b,val b i=val b0 i)
  (hstep:∀b listed a w' i o,De .any ops (val b) a0 listed a→ops[i]?=some o→i≠c→listed.getD i false=false→(∀e∈o.after,Region.binds .any e=true→listed.getD e.on false=true)→(listed.getD c false=false→w'=w)→
   ∀K:Act→World→Prop,K (a.put o.dst (val b i)) w'→Oper.wpIn F n P o a w' K Q)
  (TG:∀b listed a o,De .any ops (val b) a0 listed a→ops[c]?=some o→(∀e∈o.after,Region.binds .any e=true→listed.getD e.on false=true)→
   ∀K:Act→World→Prop,(∀b' w',R b' w'→K (a.put o.dst (val b' c)) w')→Oper.wpIn F n P o a w K Q)
  (hend:∀b listed a w',De .any ops (val b) a0 listed a→a.defers=a0.defers→(∀i,i<ops.size→listed.getD i false=true)→R b w'→Q .normal a w') (hc:c<ops.size) :
  wpAnyIn F n P .any ops Q ops.size (Array.replicate ops.size false) a0 w:=by
 refine Apv (fun listed a w'=>∃b,(De .any ops (val b) a0 listed a/\a.defers=a0.defers)/\(listed.getD c false=false→w'=w)/\(listed.getD c false=true→R b w')) (fun i o ho=>(Md hb i o ho).2.2) (fun i o ho=>(Md hb i o ho).2.1) ?_ ?_ _ _ _ _ ⟨b0,⟨De.start,rfl⟩,fun _=>rfl,fun h=>by rw [getD_replicate_false]at h;cases h⟩ (by simp) (si _)
 ·rintro listed a w' i o ⟨b,⟨Ah,Gu⟩,h0,h1⟩ hs Az ho hd K hK;have gj:∀v,(a.put o.dst v).defers=a0.defers:=fun v=>(by rw [←Gu];cases o.dst<;>rfl);have hi:i<ops.size:=(Array.getElem?_eq_some_iff.1 ho).1;have hr:i∈Region.ready .any ops listed:=mem_ready.2 ⟨getD_in (by omega) Az,o,ho,hd⟩;by_cases QI:i=c
  ·subst QI;obtain rfl:=h0 Az
   have jL:∀b',De .any ops (val b') a0 listed a:=fun b'=>⟨Ah.sz,Ah.lsz,fun j oj d hj hl hQ=>by
    have TU:j≠i:=fun e=>by subst e;rw [Az]at hl;cases hl
    have hw:(waits oj).contains i=false:=by
     cases e:(waits oj).contains i
     ·rfl
     ·have:=Ah.waits hj hl i e;rw [Az]at this;cases this
    rw [hval j oj hj TU hw b',←hval j oj hj TU hw b]
    exact Ah.done j oj d hj hl hQ,Ah.rest,Ah.closed⟩
   refine TG b listed a o Ah ho hd K fun b' w2 hR=>hK _ _ ⟨b',⟨(jL b').step (fun i o ho=>(Md hb i o ho).1) hB ho hr,gj _⟩,fun h=>?_,fun _=>hR⟩;rw [EU (by omega)]at h;cases h
  ·refine hstep b listed a w' i o Ah ho QI Az hd h0 K (hK _ _ ⟨b,⟨Ah.step (fun i o ho=>(Md hb i o ho).1) hB ho hr,gj _⟩,?_,?_⟩)
   ·rw [getD_set_ne false QI];exact h0
   ·rw [getD_set_ne false QI];exact h1
 ·rintro listed a w' ⟨b,⟨Ah,Gu⟩,h0,h1⟩ hall;exact hend b listed a w' Ah Gu hall (h1 (hall c hc))
end
theorem Am2{α:Type}(fe:α→Pt×Pt)(n:Nat)(hn:1<=n)(l Bs n₀:Nat)(A:Option Addr)(cap:Nat)(pg:List Pt)(g:Nat→α)(hg:∀k,k<pg.length→fe (g k)=BB pg k)(J Jx:List α→World→Prop)
  (W:World) (hJ:AbidesFrom W.heap.size J) (hY:∀pre x W,J pre W→pre.length<pg.length→YieldAt Fence.wide (n-1) Tryz.prog l #[Af (fe x).1,Af (fe x).2] W fun e W'=>
   (e=.returned (.bool true)/\J (pre ++ [x]) W'/\Cx n₀ Bs W W')∨(e=.returned (.bool false)/\Jx (pre ++ [x]) W'))
  (xX:W.cell? ⟨Bs,0,none⟩=some (.slice A pg.length cap)) (hBlt:Bs<W.heap.size) (jz:n₀<=W.heap.size) (hlen:pg.length<=1000)
  (hc:0<pg.length→∃b o,b<n₀/\A=some ⟨b,o,none⟩/\∀j (h:j<pg.length),W.cell? ⟨b,o+j*2,none⟩=some (S (R pg[j].x))/\W.cell? ⟨b,o+j*2+1,none⟩=some (S (R pg[j].y))) (h0:J [] W) :
  CallsIn Fence.wide n Tryz.prog 252 #[.func (.yield l) #[] #[],.pointer (some ⟨Bs,0,none⟩)] W fun e W'=>(∃v,e=.returned v)/\
   ((∃ys,ys=upto g pg.length/\J ys W')∨(∃pre,(∃k,k<=pg.length/\pre=upto g k)/\Jx pre W')):=by
 have hmo:Tryz.prog.follows .mixedOrders=true:=(by kernel_rfl);refine callsIn_of_wp Tryz.func252 rfl trivial ?_ rfl;simp only [Tryz.ntmps252,List.size_toArray,List.length_cons,List.length_nil,Nat.reduceAdd,Nat.reduceSub,Array.replicate_succ,Array.replicate_zero,List.push_toArray,List.append_toArray,List.nil_append,List.cons_append];gi_wp2
 gi_loopw [7] (fun i wr=>∃k:Nat,k<=pg.length/\i=.int .i64 (k:Nat)/\J (upto g k) wr/\Cx n₀ Bs W wr/\W.heap.size<=wr.heap.size)
  (fun i _=>pg.length-(intOf i).toNat)
 case atStart=>exact⟨0,Nat.zero_le _,rfl,h0,Cx.refl _ _ _,ArZ _⟩
 case round=>
  obtain⟨k,hk,rfl,hJs,GW,jX⟩:=hrel;by_cases hlt:k<pg.length
  ·obtain⟨bp,oo,hb,rfl,hcs⟩:=hc (by omega);obtain⟨q,hq⟩:=ArV ((k+1)%pg.length);have Kw:q<pg.length:=by rw [hq];exact Nat.mod_lt _ (by omega)
   have Ku:(((k:Int)+1)).tmod (pg.length:Int)=(q:Int):=by rw [Int.tmod_eq_emod_of_nonneg (by omega),hq,Int.natCast_emod];rfl
   have jf:(((k:Int)+1))%(pg.length:Int)=(q:Int):=(by rw [hq,Int.natCast_emod];rfl);have QM:¬((pg.length:Int)=0):=(by omega);have jE:¬(pg.length=0):=(by omega);have jy:((pg.length:Int) == 0)=false:=beq_false_of_ne QM;have ll:IntKind.wrap .i64 (q:Int)=(q:Int):=Asg _ (by omega);have OS:IntKind.wrap .i64 ((k:Int)+1)=(k:Int)+1:=Asg _ (by omega)
   obtain⟨a0,b0,ha0,hb0,Ee⟩:∃a0 b0,a0=pg[k]/\b0=pg[q]/\fe (g k)=(a0,b0):=⟨_,_,rfl,rfl,by
    rw [hg k hlt];unfold BB;rw [←hq];simp [List.getD_eq_getElem?_getD,Asf hlt,Asf Kw]⟩
   have ca:=hcs k hlt;have cb:=hcs q Kw;rw [←ha0]at ca;rw [←hb0]at cb;have K0:=fun (a:Addr) (v:Value) (h:a.block<n₀) (h2:W.cell? a=some v)=>(GW.below.cell (p:=a) h).trans h2;have tR:=K0 _ _ hb ca.1;have tU:=K0 _ _ hb ca.2;have aS:=K0 _ _ hb cb.1;have aT:=K0 _ _ hb cb.2;have Fc:=(World.cell?_of_block (a:=⟨Bs,0,none⟩) GW.box).trans xX;have EA:=(Aa.refl wr).alloc (.cells #[S (R a0.x),S (R a0.y)] 94);have Aw:=ArY wr (.cells #[S (R a0.x),S (R a0.y)] 94);have hJ1:=hJ _ wr _ none hJs (AgR EA.drew none) (fun r e=>by cases e);have yH:=GW.trans (Cx.of_ext (Bs:=Bs) EA.drew (Asl jz jX) (Asj hBlt jX));obtain⟨fn,tmps,assign,body,hy,hR⟩:=hY _ (g k) _ hJ1 (by rw [upto_length];exact hlt);rw [Ee]at hy;unfold Af at hy;have hk0:(0:Int)<=(k:Int):=(by omega);have BX:(k:Int)<(pg.length:Int):=(by omega);have km:(0:Int)<=(q:Int):=(by omega);have kq:(q:Int)<(pg.length:Int):=(by omega);have hm0:(0:Int)<(pg.length:Int):=(by omega);have HQ:=ArW hq;have Se:=ArW Ee
   have HR:=hR.mono (R':=fun e W'=>∃b,e=.returned (.bool b)/\((b=true/\J (upto g k ++ [g k]) W'/\Cx n₀ Bs (wr.alloc (.cells #[S (R a0.x),S (R a0.y)] 94)).drew W')∨(b=false/\Jx (upto g k ++ [g k]) W'))) (by
    rintro e W' (⟨h1,h2⟩|⟨h1,h2⟩)
    ·exact⟨true,h1,.inl ⟨rfl,h2⟩⟩
    ·exact⟨false,h1,.inr ⟨rfl,h2⟩⟩)
   clear hR hcs hc xX ca cb ha0 hb0 hq Ee K0 hJs;gi_wp2;unfold S at Aw hJ1 yH hy HR EA tR tU aS aT;generalize wr.alloc (.cells #[.string ⟨(R a0.x).toArray⟩,.string ⟨(R a0.y).toArray⟩] 94)=VA at *;obtain⟨ba,Nn⟩:=ArV wr.heap.size;rw [←Nn]at Aw ⊢;clear Nn;have x0:=Ab (o:=0) Aw rfl;have x1:=Ab (o:=1) Aw rfl;have x2:=EA.cellS aS;have x3:=EA.cellS aT;have x4:=EA.cellS Fc;have Ajg:W.heap.size<=VA.heap.size:=Asl jX EA.size;clear tR tU aS aT Fc EA Aw GW;refine wpIn_region_any hmo ?_
   change wpAnyIn _ _ _ _ _ _ _ _ _ (World.drew _)
   refine Apu 12 12 10 (fun (b:Bool) i=>#[.func (.yield l) #[] #[],.agg #[S (R a0.x),S (R a0.y)],.slice (some ⟨bp,oo,none⟩) pg.length cap,.int .i64 (k:Nat),.int .i64 ((k:Int)+1),.slice (some ⟨bp,oo,none⟩) pg.length cap,.int .i64 (pg.length:Nat),.int .i64 (q:Nat),.pointer (some ⟨bp,oo+q*2,none⟩),.agg #[S (R b0.x),S (R b0.y)],.bool b,.bool (!b)].getD i undef) true
    (fun b W'=>(b=true/\J (upto g k ++ [g k]) W'/\Cx n₀ Bs VA.drew W')∨(b=false/\Jx (upto g k ++ [g k]) W')) (by kernel_rfl) (by simp) ?_ ?_ ?_ ?_ (by simp)
   ·intro i o ho QI hw b;have hi:i<12:=(Array.getElem?_eq_some_iff.1 ho).1
    rcases(by omega:i=0∨i=1∨i=2∨i=3∨i=4∨i=5∨i=6∨i=7∨i=8∨i=9∨i=11)with rfl|rfl|rfl|rfl|rfl|rfl|rfl|rfl|rfl|rfl|rfl
    case inr.inr.inr.inr.inr.inr.inr.inr.inr.inr=>
     simp only [List.getElem?_toArray,List.getElem?_cons_zero,List.getElem?_cons_succ,Ase]at ho;subst ho;have hw2:=hw.symm.trans (show _=true by kernel_rfl)
     cases hw2
    all_goals rfl
   ·intro bv listed a w' i o Ah ho QI Az Fx hw0 K hK;have hi:i<12:=(Array.getElem?_eq_some_iff.1 ho).1;have e0:=Ah.out (s:=12) (m:=12) (by kernel_rfl) (d:=0) (by omega) rfl;have e1:=Ah.out (s:=12) (m:=12) (by kernel_rfl) (d:=1) (by omega) rfl;have e3:=Ah.out (s:=12) (m:=12) (by kernel_rfl) (d:=3) (by omega) rfl;have e4:=Ah.out (s:=12) (m:=12) (by kernel_rfl) (d:=4) (by omega) rfl;have hval:=fun i {d} hd hi hl {v} hv=>Ah.val (s:=12) (m:=12) (by kernel_rfl) i (d:=d) hd hi hl (v:=v) hv;refine⟨fun _ _=>trivial,?_⟩;rw [Oper.semAt_eq _ _ _ (wu (l:=_) (by kernel_rfl) i o ho)];by_cases AqE:i<10
    ·have h10:listed.getD 10 false=false:=by
      cases h:listed.getD 10 false
      ·rfl
      ·exfalso
       have g0:=Ah.waits (j:=10) rfl h 0 (by kernel_rfl);have g1:=Ah.waits (j:=10) rfl h 1 (by kernel_rfl);have g9:=Ah.waits (j:=10) rfl h 9 (by kernel_rfl);have g8:=Ah.waits (j:=9) rfl g9 8 (by kernel_rfl);have g2:=Ah.waits (j:=8) rfl g8 2 (by kernel_rfl);have g7:=Ah.waits (j:=8) rfl g8 7 (by kernel_rfl);have g4:=Ah.waits (j:=7) rfl g7 4 (by kernel_rfl);have g6:=Ah.waits (j:=7) rfl g7 6 (by kernel_rfl);have g3:=Ah.waits (j:=4) rfl g4 3 (by kernel_rfl);have g5:=Ah.waits (j:=6) rfl g6 5 (by kernel_rfl)
       rcases(by omega:i=0∨i=1∨i=2∨i=3∨i=4∨i=5∨i=6∨i=7∨i=8∨i=9)with rfl|rfl|rfl|rfl|rfl|rfl|rfl|rfl|rfl|rfl<;>simp_all
     obtain rfl:=hw0 h10;clear hw0 h10;have y0:VA.drew.cell? ⟨ba,0,none⟩=some (S (R a0.x)):=x0;have y1:VA.drew.cell? ⟨ba,1,none⟩=some (S (R a0.y)):=x1;have y2:VA.drew.cell? ⟨bp,oo+q*2,none⟩=some (S (R b0.x)):=x2;have y3:VA.drew.cell? ⟨bp,oo+q*2+1,none⟩=some (S (R b0.y)):=x3;have y4:VA.drew.cell? ⟨Bs,0,none⟩=some (.slice (some ⟨bp,oo,none⟩) pg.length cap):=x4
     rcases(by omega:i=0∨i=1∨i=2∨i=3∨i=4∨i=5∨i=6∨i=7∨i=8∨i=9)with rfl|rfl|rfl|rfl|rfl|rfl|rfl|rfl|rfl|rfl
     all_goals simp only [List.getElem?_toArray,List.getElem?_cons_zero,List.getElem?_cons_succ,Ase]at ho
     all_goals subst ho
     all_goals have AZ:=KR Fx
     all_goals simp only [Act.eval]at e0 e1 e3 e4
     ·clear hval AZ Fx Az;simp [execOp,go_sem,Oper.uponIn,e0];exact hK
     ·clear hval AZ Fx Az;simp [execOp,go_sem,Oper.uponIn,e4,y0,y1];exact hK
     ·clear hval AZ Fx Az;simp [execOp,go_sem,Oper.uponIn,e1,y4];exact hK
     ·clear hval AZ Fx Az;simp [execOp,go_sem,Oper.uponIn,e3];exact hK
     ·have f15:=hval 3 (d:=15) rfl (by omega) (AZ 3 (by kernel_rfl)) rfl;simp only [Act.eval]at f15;clear hval AZ Fx Az;simp [execOp,go_sem,Oper.uponIn,f15,OS];exact hK
     ·clear hval AZ Fx Az;simp [execOp,go_sem,Oper.uponIn,e1,y4];exact hK
     ·have f17:=hval 5 (d:=17) rfl (by omega) (AZ 5 (by kernel_rfl)) rfl;simp only [Act.eval]at f17;clear hval AZ Fx Az;simp [go_sem,Oper.uponIn,f17];exact hK
     ·have f16:=hval 4 (d:=16) rfl (by omega) (AZ 4 (by kernel_rfl)) rfl;have f18:=hval 6 (d:=18) rfl (by omega) (AZ 6 (by kernel_rfl)) rfl;simp only [Act.eval]at f16 f18;clear hval AZ Fx Az;simp [execOp,go_sem,Oper.uponIn,f16,f18,jE,Ku];exact hK
     ·have f14:=hval 2 (d:=14) rfl (by omega) (AZ 2 (by kernel_rfl)) rfl;have wV:=hval 7 (d:=19) rfl (by omega) (AZ 7 (by kernel_rfl)) rfl;simp only [Act.eval]at f14 wV;clear hval AZ Fx Az;simp [execOp,go_sem,Oper.uponIn,f14,wV,Kw];exact hK
     ·have f20:=hval 8 (d:=20) rfl (by omega) (AZ 8 (by kernel_rfl)) rfl;simp only [Act.eval]at f20;clear hval AZ Fx Az;simp [execOp,go_sem,Oper.uponIn,f20,y2,y3];exact hK
    ·obtain rfl:i=11:=(by omega);simp only [List.getElem?_toArray,List.getElem?_cons_zero,List.getElem?_cons_succ,Ase]at ho;subst ho;have AZ:=KR Fx;have f22:=hval 10 (d:=22) rfl (by omega) (AZ 10 (by kernel_rfl)) rfl;simp only [Act.eval]at f22;clear hval AZ Fx Az;simp [execOp,go_sem,Oper.uponIn,f22];exact hK
   ·intro bv listed a o Ah ho Fx K hK;have hval:=fun i {d} hd hi hl {v} hv=>Ah.val (s:=12) (m:=12) (by kernel_rfl) i (d:=d) hd hi hl (v:=v) hv;have g0:=KR Fx 0;simp only [List.getElem?_toArray,List.getElem?_cons_zero,List.getElem?_cons_succ,Ase]at ho;subst ho;have AZ:=KR Fx;have wT:=hval 0 (d:=12) rfl (by omega) (AZ 0 (by kernel_rfl)) rfl;have wU:=hval 1 (d:=13) rfl (by omega) (AZ 1 (by kernel_rfl)) rfl;have f21:=hval 9 (d:=21) rfl (by omega) (AZ 9 (by kernel_rfl)) rfl;simp only [Act.eval]at wT wU f21;clear hval AZ Fx g0;refine⟨fun _ _=>trivial,?_⟩;rw [Oper.semAt_eq _ _ _ (fun c h=>by cases h)];simp [execOp,go_sem,Oper.uponIn,wT,wU,f21,hy];refine⟨fun _=>hn,HR.mono ?_⟩;rintro e W' ⟨b,rfl,hp⟩;exact hK b W' hp
   ·intro bv listed a w' Ah Gu hall hp;have hval:=fun i {d} hd hi hl {v} hv=>Ah.val (s:=12) (m:=12) (by kernel_rfl) i (d:=d) hd hi hl (v:=v) hv;have hout:=fun {d} hd {v} hv=>Ah.out (s:=12) (m:=12) (by kernel_rfl) (d:=d) hd (v:=v) hv;have ha:=ZU (a:=a) (l:=[.func (.yield l) #[] #[],.pointer (some ⟨Bs,0,none⟩),undef,.int .i64 (k:Nat),.pointer (some ⟨ba,0,none⟩),.slice (some ⟨bp,oo,none⟩) pg.length cap,.int .i64 (pg.length:Nat),.int .i64 (k:Nat),.bool true,.int .i64 (k:Nat),.pointer (some ⟨bp,oo+k*2,none⟩),.agg #[S (R a0.x),S (R a0.y)],.func (.yield l) #[] #[],.agg #[S (R a0.x),S (R a0.y)],.slice (some ⟨bp,oo,none⟩) pg.length cap,.int .i64 (k:Nat),.int .i64 ((k:Int)+1),.slice (some ⟨bp,oo,none⟩) pg.length cap,.int .i64 (pg.length:Nat),.int .i64 (q:Nat),.pointer (some ⟨bp,oo+q*2,none⟩),.agg #[S (R b0.x),S (R b0.y)],.bool bv,.bool (!bv),u24]) (by rw [Ah.sz];rfl) ?_ Gu
    ·subst ha;clear hval hout Ah hall Gu
     rcases hp with⟨rfl,hJ3,hk3⟩|⟨rfl,hJx3⟩
     ·gi_wp2;go_roundw
      case rel=>exact⟨k+1,hlt,by go_num,by rw [upto_succ];exact hJ3,yH.trans hk3,Asl Ajg hk3.below.size⟩
      case measure=>simp [intOf];omega
     ·gi_wp2;refine bodyPost_ret (results_none rfl _ _ _) rfl ?_;exact⟨⟨_,rfl⟩,.inr ⟨_,⟨k+1,hlt,by rw [upto_succ]⟩,hJx3⟩⟩
    ·intro d hd;have CO:d<25:=hd
     rcases(by omega:d=0∨d=1∨d=2∨d=3∨d=4∨d=5∨d=6∨d=7∨d=8∨d=9∨d=10∨d=11∨d=24∨(12<=d/\d<24))with rfl|rfl|rfl|rfl|rfl|rfl|rfl|rfl|rfl|rfl|rfl|rfl|rfl|⟨h1,h2⟩
     case inr.inr.inr.inr.inr.inr.inr.inr.inr.inr.inr.inr.inr=>
      obtain⟨j,rfl⟩:∃j,d=12+j:=⟨d-12,by omega⟩;refine hval j rfl (by omega) (hall j (by simp;omega)) ?_
      rcases(by omega:j=0∨j=1∨j=2∨j=3∨j=4∨j=5∨j=6∨j=7∨j=8∨j=9∨j=10∨j=11)with rfl|rfl|rfl|rfl|rfl|rfl|rfl|rfl|rfl|rfl|rfl|rfl<;>rfl
     all_goals exact hout (by omega) rfl
  ·obtain rfl:k=pg.length:=(by omega);gi_wp2
   go_end0
   exact⟨⟨_,rfl⟩,.inl ⟨_,rfl,hJs⟩⟩
theorem zo(F:Fence)(n:Nat)(hf:F.fn 173)(hro:F.round=none)(A:Option Addr)(m c:Nat)(w:World) :
  CallsIn F n Tryz.prog 173 #[.slice A m c] w fun e w'=>e=.returned (.func (.func 252) #[] #[.pointer (some ⟨w.heap.size,0,none⟩)])/\w'=w.alloc (.cells #[.slice A m c] 33):=by
 refine callsIn_of_wp Tryz.func173 rfl hf ?_ hro;simp only [Tryz.ntmps173,List.size_toArray,List.length_cons,List.length_nil,Nat.reduceAdd,Nat.reduceSub,Array.replicate_succ,Array.replicate_zero,List.push_toArray,List.append_toArray,List.nil_append,List.cons_append];gi_wp2;go_ret;exact⟨rfl,rfl⟩
theorem zv{α:Type}(fe:α→Pt×Pt)(n:Nat)(hn:1<=n)(Bs n₀:Nat)(A:Option Addr)(cap:Nat)(pg:List Pt)(g:Nat→α)(hg:∀k,k<pg.length→fe (g k)=BB pg k)(w:World)(Ahc:Bs<w.heap.size)(jz:n₀<=w.heap.size)
  (hlen:pg.length<=1000) (hc:w.cell? ⟨Bs,0,none⟩=some (.slice A pg.length cap)) (hv:∃w0,Ae w0 A (flat (Ak pg))/\w0.heap.size<=n₀/\Aa w0 w) :
  SeqStopsK Fence.wide n Tryz.prog 252 #[.pointer (some ⟨Bs,0,none⟩)] (fun x:α=>#[Af (fe x).1,Af (fe x).2]) (Cx n₀ Bs) (fun ys=>ys=upto g pg.length)
   (fun pre=>∃k,k<=pg.length/\pre=upto g k) pg.length w:=fun l J Jx W hW hJ _ hY h0=>by
 obtain⟨w0,hr,hs,hx⟩:=hv;have hsz:=hW.size;refine Am2 fe n hn l Bs n₀ A cap pg g hg J Jx W hJ hY ((hW.cell (p:=⟨Bs,0,none⟩) Ahc).trans hc) (by omega) (by omega) hlen ?_ h0;intro hp;obtain⟨b,o,e,h1,h2⟩:=Ca hr hp;have hb:b<w0.heap.size:=World.block_lt_of_cell? w0 _ h1;refine⟨b,o,by omega,e,fun j hj=>?_⟩;obtain⟨b',o',e',h3,h4⟩:=Ca hr hj;rw [e]at e';simp only [Ase,Addr.mk.injEq,and_true]at e';obtain⟨rfl,rfl⟩:=e';rw [hW.cell (p:=⟨b,o+j*2,none⟩) (by show b<w.heap.size;omega),hW.cell (p:=⟨b,o+j*2+1,none⟩) (by show b<w.heap.size;omega)];exact⟨hx.cellS h3,hx.cellS h4⟩
end
theorem KD(a b:Rat):a<b∨a=b∨b<a:=by grind
theorem NU{a b:Rat}(h:a<=b):a<b∨a=b:=by grind
def Up(x y:Rat):Prop:=0<y∨(y=0/\0<x)
theorem Amz{a b:Rat}(ha:0<a)(h:0<a*b):0<b:=by
 rcases KD b 0 with hb|hb|hb
 ·have:=Rat.mul_pos ha (show 0 < -b by grind)
  grind
 ·subst hb;grind
 ·exact hb
theorem U9{a b:Rat}(ha:0<a)(h:0<=a*b):0<=b:=by
 rcases KD b 0 with hb|hb|hb
 ·have:=Rat.mul_pos ha (show 0 < -b by grind)
  grind
 ·grind
 ·grind
theorem bJ{ux uy vx vy wx wy:Rat}(hu:Up ux uy)(hv:Up vx vy)(hw:Up wx wy)(h1:0<ux*vy-uy*vx)(h2:0<vx*wy-vy*wx):0<ux*wy-uy*wx:=by
 have QT:0<=uy:=(by unfold Up at hu;grind);have Uv:0<=wy:=by unfold Up at hw;grind
 rcases hv with hv|⟨hv,hv'⟩
 ·have e:vy*(ux*wy-uy*wx)=wy*(ux*vy-uy*vx)+uy*(vx*wy-vy*wx):=(by grind);refine Amz hv ?_;rw [e];have a1:=Rat.mul_nonneg Uv (Rat.le_of_lt h1);have a2:=Rat.mul_nonneg QT (Rat.le_of_lt h2)
  rcases NU Uv with hw1|hw1
  ·have:=Rat.mul_pos hw1 h1;grind
  ·rcases NU QT with hu1|hu1
   ·have:=Rat.mul_pos hu1 h2;grind
   ·exfalso
    have hwx:0<wx:=(by unfold Up at hw;grind);have:=Rat.mul_pos hv hwx;subst hw1;subst hu1;clear a1 a2 e
    grind
 ·exfalso
  have:=Rat.mul_nonneg QT (Rat.le_of_lt hv');subst hv
  grind
theorem vG{ux uy vx vy wx wy:Rat}(hu:Up ux uy)(hv:Up vx vy)(hw:Up wx wy)(h1:ux*vy-uy*vx<=0)(h2:vx*wy-vy*wx<=0):ux*wy-uy*wx<=0:=by
 have QT:0<=uy:=(by unfold Up at hu;grind);have Uv:0<=wy:=by unfold Up at hw;grind
 rcases hv with hv|⟨hv,hv'⟩
 ·have e:vy*(-(ux*wy-uy*wx))=wy*(-(ux*vy-uy*vx))+uy*(-(vx*wy-vy*wx)):=by grind
  have:0<=-(ux*wy-uy*wx):=by
   refine U9 hv ?_;rw [e];have a1:=Rat.mul_nonneg Uv (show 0<=-(ux*vy-uy*vx)by grind);have a2:=Rat.mul_nonneg QT (show 0<=-(vx*wy-vy*wx)by grind)
   grind
  grind
 ·subst hv
  have Ajr:wy=0:=by
   rcases NU Uv with hw1|hw1
   ·have:=Rat.mul_pos hv' hw1;grind
   ·exact hw1.symm
  have hwx:0<wx:=(by unfold Up at hw;grind);have:=Rat.mul_nonneg QT (Rat.le_of_lt hwx);subst Ajr
  grind
/-! ### Directions around a place -/
theorem SE(p q:Rat):AH p q<0↔p<q:=by unfold AH;grind
theorem VQ(p q:Rat):AH p q=0↔p=q:=by unfold AH;grind
theorem SG(p q:Rat):0<AH p q↔q<p:=by unfold AH;grind
theorem AaB(q:Rat):AI q=0↔q=0:=by unfold AI;grind
theorem YN(q:Rat):0<AI q↔0<q:=by unfold AI;grind
theorem Mb(p q:Pt):BR p q=0↔Up (q.x-p.x) (q.y-p.y):=by
 unfold BR J8 Up;simp only [SG,VQ];constructor
 ·intro h;by_cases h1:p.y<q.y
  ·left;grind
  ·rw [if_neg h1]at h;by_cases h2:q.y=p.y
   ·rw [if_pos h2]at h;by_cases h3:p.x<q.x
    ·right;grind
    ·rw [if_neg h3]at h;cases h
   ·rw [if_neg h2]at h;cases h
 ·rintro(h|⟨h1,h2⟩)
  ·rw [if_pos (by grind)]
  ·rw [if_neg (by grind),if_pos (by grind),if_pos (by grind)]
theorem U5(p q:Pt):BR p q=0∨BR p q=1:=by
 unfold BR J8
 (repeat' split)<;>simp
theorem NF{p q:Pt}(hne:q≠p)(h:BR p q=1):Up (p.x-q.x) (p.y-q.y):=by
 have h0:¬Up (q.x-p.x) (q.y-p.y):=(by rw [←Mb];omega);unfold Up at *;by_cases h1:q.y=p.y
 ·right
  refine⟨by grind,?_⟩;have:q.x≠p.x:=fun e=>hne (by cases p;cases q;simp_all)
  grind
 ·left;grind
def Dv(p a b:Pt):Int:=if BR p a-BR p b≠0 then BR p a-BR p b else -AI (Ai p a b)
theorem vQ(p a b:Pt):Dv p a b<0↔BR p a<BR p b∨(BR p a=BR p b/\0<Ai p a b):=by
 unfold Dv;have hs:=YN (Ai p a b)
 split
 ·constructor
  ·intro h;left;omega
  ·rintro(h|⟨h,_⟩)<;>omega
 ·constructor
  ·intro h;exact .inr ⟨by omega,hs.1 (by omega)⟩
  ·rintro(h|⟨_,h⟩)
   ·omega
   ·have:=hs.2 h;omega
theorem vR(p a b:Pt):Dv p a b=0↔BR p a=BR p b/\Ai p a b=0:=by
 unfold Dv;have hs:=AaB (Ai p a b)
 split
 ·constructor
  ·intro h;omega
  ·rintro⟨h,_⟩;omega
 ·constructor
  ·intro h;exact⟨by omega,hs.1 (by omega)⟩
  ·rintro⟨_,h⟩;have:=hs.2 h;omega
theorem AdL(p a:Pt):Ai p a a=0:=by unfold Ai;grind
theorem aG(p a b:Pt):Ai p b a =-Ai p a b:=by unfold Ai;grind
theorem aH(p a b:Pt):Ai p a b=(p.x-a.x)*(p.y-b.y)-(p.y-a.y)*(p.x-b.x):=by unfold Ai;grind
theorem Af7{p a b c:Pt}(ha:a≠p)(hb:b≠p)(hc:c≠p)(h1:Dv p a b<0)(h2:Dv p b c<0):Dv p a c<0:=by
 rw [vQ]at *
 rcases h1 with h1|⟨e1,h1⟩
 ·left
  rcases h2 with h2|⟨e2,h2⟩<;>omega
 ·rcases h2 with h2|⟨e2,h2⟩
  ·left;omega
  ·right
   refine⟨by omega,?_⟩
   rcases U5 p a with ea|ea
   ·unfold Ai at *;exact bJ ((Mb p a).1 ea) ((Mb p b).1 (by omega)) ((Mb p c).1 (by omega)) h1 h2
   ·rw [aH]at *;exact bJ (NF ha ea) (NF hb (by omega)) (NF hc (by omega)) h1 h2
theorem Af5{p a b c:Pt}(ha:a≠p)(hb:b≠p)(hc:c≠p)(h1:¬Dv p a b<0)(h2:¬Dv p b c<0):¬Dv p a c<0:=by
 rw [vQ]at *;rintro(h|⟨e,h⟩)
 ·have:¬BR p a<BR p b:=fun h=>h1 (.inl h);have:¬BR p b<BR p c:=fun h=>h2 (.inl h);omega
 ·have e1:¬BR p a<BR p b:=fun h=>h1 (.inl h);have e2:¬BR p b<BR p c:=fun h=>h2 (.inl h);have f1:BR p a=BR p b:=(by omega);have f2:BR p b=BR p c:=by omega
  have g1:Ai p a b<=0:=by
   have:¬0<Ai p a b:=fun h=>h1 (.inr ⟨f1,h⟩)
   grind
  have g2:Ai p b c<=0:=by
   have:¬0<Ai p b c:=fun h=>h2 (.inr ⟨f2,h⟩)
   grind
  have:Ai p a c<=0:=by
   rcases U5 p a with ea|ea
   ·unfold Ai at *;exact vG ((Mb p a).1 ea) ((Mb p b).1 (by omega)) ((Mb p c).1 (by omega)) g1 g2
   ·rw [aH]at *;exact vG (NF ha ea) (NF hb (by omega)) (NF hc (by omega)) g1 g2
  grind
/-! ### Segments without a common place but an end of both -/
def Ft(a b z:Pt):Prop:=∃t:Rat,0<=t/\t<=1/\z.x=a.x+t*(b.x-a.x)/\z.y=a.y+t*(b.y-a.y)
theorem Ft.swap{a b z:Pt}(h:Ft a b z):Ft b a z:=by
 obtain⟨t,h0,h1,hx,hy⟩:=h;exact⟨1-t,by grind,by grind,by grind,by grind⟩
theorem U4(a b:Pt):AX a b<=0↔a.x<b.x∨(a.x=b.x/\a.y<=b.y):=by
 unfold AX;have h1:=VQ a.x b.x;have h2:=SE a.x b.x;have h3:=SE a.y b.y;have h4:=SG a.x b.x;have h5:=SG a.y b.y
 split
 ·constructor
  ·intro h
   left
   exact h2.1 (by omega)
  ·rintro(h|⟨h,_⟩)
   ·have:=h2.2 h;omega
   ·exact absurd (h1.2 h) (by assumption)
 ·have e:a.x=b.x:=h1.1 (by omega);constructor
  ·intro h
   right
   refine⟨e,?_⟩;have:¬b.y<a.y:=fun h6=>by have:=h5.2 h6;omega
   grind
  ·rintro(h|⟨_,h⟩)
   ·grind
   ·have:¬0<AH a.y b.y:=fun h6=>(by have:=h5.1 h6;grind);omega
theorem Akr(a b:Pt):0<AX a b↔b.x<a.x∨(a.x=b.x/\b.y<a.y):=by
 have:=U4 a b;constructor
 ·intro h;have h1:¬(a.x<b.x∨(a.x=b.x/\a.y<=b.y)):=fun h2=>by have:=this.2 h2;omega
  grind
 ·intro h;have h1:¬AX a b<=0:=fun h2=>(by have:=this.1 h2;grind);omega
theorem Yk{t d:Rat}(h0:0<=t)(h1:t<=1)(hd:0<=d):0<=t*d/\t*d<=d:=by
 have a:=Rat.mul_nonneg h0 hd;have b:=Rat.mul_nonneg (show 0<=1-t by grind) hd;exact⟨a,by grind⟩
theorem Mi{a b:Rat}(h:a*b=0):a=0∨b=0:=Rat.mul_eq_zero.1 h
theorem xw{a b z:Pt}(hz:Ft a b z)(hl:AX a b<=0):NM a b z=true:=by
 obtain⟨t,h0,h1,hx,hy⟩:=hz;rw [U4]at hl;have ea:Ai a b z=0:=by unfold Ai;rw [hx,hy];grind
 have l1:AX a z<=0:=by
  rw [U4]
  rcases hl with hl|⟨hl,hl2⟩
  ·have:=Yk h0 h1 (show 0<=b.x-a.x by grind)
   rcases NU this.1 with h|h
   ·left;grind
   ·right
    have ht:t=0:=by rcases Mi h.symm with h|h<;>grind
    subst ht;constructor<;>grind
  ·right
   have:=Yk h0 h1 (show 0<=b.y-a.y by grind);constructor<;>grind
 have l2:AX z b<=0:=by
  rw [U4]
  rcases hl with hl|⟨hl,hl2⟩
  ·have:=Yk (show 0<=1-t by grind) (show 1-t<=1 by grind) (show 0<=b.x-a.x by grind)
   rcases NU this.1 with h|h
   ·left;grind
   ·right
    have ht:t=1:=by rcases Mi h.symm with h|h<;>grind
    subst ht;constructor<;>grind
  ·right
   have:=Yk h0 h1 (show 0<=b.y-a.y by grind);constructor<;>grind
 unfold NM KA;rw [(AaB _).2 ea];simp [l1,l2]
theorem Amw{a b z:Pt}(hz:Ft a b z):Hg a b z=true:=by
 unfold Hg
 split
 ·rename_i h
  refine xw hz.swap ?_;rw [Akr]at h;rw [U4]
  grind
 ·exact xw hz (by omega)
structure FO(a b c d:Pt):Prop where
 pc:Ft a b c→c=a∨c=b
 pd:Ft a b d→d=a∨d=b
 pa:Ft c d a→a=c∨a=d
 pb:Ft c d b→b=c∨b=d
 px:a≠c→a≠d→b≠c→b≠d→Ai a b c*Ai a b d<0→Ai c d a*Ai c d b<0→False
theorem FO.symm{a b c d:Pt}(h:FO a b c d):FO c d a b:=
 ⟨h.pa,h.pb,h.pc,h.pd,fun h1 h2 h3 h4 h5 h6=>h.px (Ne.symm h1) (Ne.symm h3) (Ne.symm h2) (Ne.symm h4) h6 h5⟩
theorem sW(a b c:Pt):Ai b a c =-Ai a b c:=by unfold Ai;grind
theorem FO.left{a b c d:Pt}(h:FO a b c d):FO b a c d:=
 ⟨fun k=>(h.pc k.swap).symm,fun k=>(h.pd k.swap).symm,h.pb,h.pa,fun h1 h2 h3 h4 h5 h6=>h.px h3 h4 h1 h2 (by rw [sW,sW a b d]at h5;grind) (by grind)⟩
theorem FO.right{a b c d:Pt}(h:FO a b c d):FO a b d c:=h.symm.left.symm
theorem AaF{p q:Rat}(h:p*q<0):AI p*AI q<0:=by
 rcases KD p 0 with hp|hp|hp
 ·have:0<q:=by
   rcases KD q 0 with hq|hq|hq
   ·have:=Rat.mul_pos (show 0 < -p by grind) (show 0 < -q by grind);grind
   ·subst hq;grind
   ·exact hq
  have e1:AI p = -1:=(by unfold AI;grind);have e2:AI q=1:=(by unfold AI;grind);rw [e1,e2];decide
 ·subst hp;grind
 ·have:q<0:=by
   rcases KD q 0 with hq|hq|hq
   ·exact hq
   ·subst hq;grind
   ·have:=Rat.mul_pos hp hq;grind
  have e1:AI p=1:=(by unfold AI;grind);have e2:AI q = -1:=(by unfold AI;grind);rw [e1,e2];decide
theorem VS{x y z:Pt}(h:Lh x y z=false)(hz:Ft x y z):z=x∨z=y:=by
 unfold Lh at h;rw [Amw hz,Bool.true_and]at h;rw [Bool.and_eq_false_iff]at h
 rcases h with h|h
 ·left;exact BY.1 (by simpa using h)
 ·right;exact BY.1 (by simpa using h)
theorem Alr{a b c d:Pt}(h:NR a b c d=false):FO a b c d:=by
 unfold NR at h;rw [Bool.or_eq_false_iff]at h;obtain⟨h1,h2⟩:=h;rw [List.any_eq_false]at h1;have m1:=h1 (c,d,a) (by simp [IV]);have m2:=h1 (c,d,b) (by simp [IV]);have m3:=h1 (a,b,c) (by simp [IV]);have m4:=h1 (a,b,d) (by simp [IV]);simp only [Bool.not_eq_true]at m1 m2 m3 m4;refine⟨VS m3,VS m4,VS m1,VS m2,?_⟩;intro k1 k2 k3 k4 k5 k6
 have hs:YO a b c d=false:=by
  unfold YO
  have f:∀{p q:Pt},p≠q→An p q=false:=fun hn=>by rw [Bool.eq_false_iff];exact fun e=>hn (BY.1 e)
  rw [f k1,f k2,f k3,f k4];rfl
 have hp:Ru a b c d=true:=by unfold Ru KL;rw [decide_eq_true (AaF k5),decide_eq_true (AaF k6)];rfl
 rw [hs,hp]at h2
 cases h2
theorem Af3{p a b:Pt}(h:FO p a p b)(ha:a≠p)(hb:b≠p)(h0:Dv p a b=0):a=b:=by
 rw [vR]at h0;obtain⟨e,h0⟩:=h0
 have key:∀{ux uy vx vy:Rat},Up ux uy→Up vx vy→ux*vy-uy*vx=0→∃t:Rat,(0<=t/\t<=1/\ux=t*vx/\uy=t*vy)∨(0<=t/\t<=1/\vx=t*ux/\vy=t*uy):=by
  have half:∀{ux uy vx vy:Rat},0<vy→0<=uy→uy<=vy→ux*vy-uy*vx=0→0<=uy/vy/\uy/vy<=1/\ux=uy/vy*vx/\uy=uy/vy*vy:=by
   intro ux uy vx vy hv hu hl h;have hv0:vy≠0:=(by grind);have e:uy/vy*vy=uy:=(by rw [Rat.div_def,Rat.mul_assoc,Rat.mul_comm vy⁻¹,Rat.mul_inv_cancel _ hv0];grind);refine⟨U9 hv (by rw [Rat.mul_comm,e];exact hu),?_,?_,e.symm⟩
   ·have:=U9 (b:=1-uy/vy) hv (by grind)
    grind
   ·have h1:vy*(ux-uy/vy*vx)=0:=by generalize uy/vy=q at *;have:vy*(ux-q*vx)=vy*ux-(q*vy)*vx:=(by grind);rw [this,e];grind
    rcases Mi h1 with h2|h2
    ·exact absurd h2 hv0
    ·grind
  intro ux uy vx vy hu hv h
  rcases hu with hu|⟨hu,QR⟩
  ·rcases hv with hv|⟨hv,hv'⟩
   ·by_cases hl:uy<=vy
    ·exact⟨_,.inl (half hv (by grind) hl h)⟩
    ·exact⟨_,.inr (half hu (by grind) (by grind) (by grind))⟩
   ·exfalso
    have:=Rat.mul_pos hu hv';subst hv;grind
  ·rcases hv with hv|⟨hv,hv'⟩
   ·exfalso
    have:=Rat.mul_pos hv QR;subst hu;grind
   ·subst hu;subst hv;by_cases hl:ux<=vx
    ·have:=half (ux:=0) (vx:=0) hv' (by grind) hl (by grind);exact⟨_,.inl ⟨this.1,this.2.1,this.2.2.2,by grind⟩⟩
    ·have:=half (ux:=0) (vx:=0) QR (by grind) (show vx<=ux by grind) (by grind);exact⟨_,.inr ⟨this.1,this.2.1,this.2.2.2,by grind⟩⟩
 have main:∃t:Rat,(0<=t/\t<=1/\a.x-p.x=t*(b.x-p.x)/\a.y-p.y=t*(b.y-p.y))∨(0<=t/\t<=1/\b.x-p.x=t*(a.x-p.x)/\b.y-p.y=t*(a.y-p.y)):=by
  rcases U5 p a with ea|ea
  ·exact key ((Mb p a).1 ea) ((Mb p b).1 (by omega)) h0
  ·rw [aH]at h0;obtain⟨t,ht⟩:=key (NF ha ea) (NF hb (by omega)) h0;exact⟨t,ht.imp (fun ⟨h1,h2,h3,h4⟩=>⟨h1,h2,by grind,by grind⟩) (fun ⟨h1,h2,h3,h4⟩=>⟨h1,h2,by grind,by grind⟩)⟩
 obtain⟨t,⟨h1,h2,h3,h4⟩|⟨h1,h2,h3,h4⟩⟩:=main
 ·rcases h.pb ⟨t,h1,h2,by grind,by grind⟩with e|e
  ·exact absurd e ha
  ·exact e
 ·rcases h.pd ⟨t,h1,h2,by grind,by grind⟩with e|e
  ·exact absurd e hb
  ·exact e.symm
end Go.Proofs.YtbejphgbbpplbaaGreatDoor
