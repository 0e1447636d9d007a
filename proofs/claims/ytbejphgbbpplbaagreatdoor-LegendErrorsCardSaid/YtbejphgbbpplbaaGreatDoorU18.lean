/- U18: ShH5 ShH6 ShQ1 ShQ2 ShQ3 ShQ4 ShQ5 ShQ6 ShQ7. -/
import Derived.Test.YtbejphgbbpplbaaGreatDoorU17
set_option maxRecDepth 100000
set_option maxHeartbeats 8000000
namespace Go.Proofs.YtbejphgbbpplbaaGreatDoor
open Go.RowKit Kl
theorem Ae.of_own'{w:World}{base:Nat}{e:TypeId}{size:Nat}(_:0<size){v:Value}{n:Nat}{xs:List Value}(h:w.ownsRow base e size v n xs) :
  ∃A c,v=.slice A n c/\Ae w A xs/\n<=c/\c<=9223372036854775807:=by
 obtain⟨hl,h⟩:=h
 rcases h with⟨rfl,rfl⟩|⟨g,cap,cur,rfl,hb,hg,hn,hm,hs,ht⟩
 ·exact⟨none,0,rfl,⟨fun h1=>by omega⟩,by omega,by omega⟩
 ·refine⟨some ⟨g,0,none⟩,cap,rfl,⟨fun _=>⟨g,0,rfl,fun j hj=>?_⟩⟩,hn,by unfold maxLen at hm;omega⟩;have hh:w.ownsRow base e size (.slice (some ⟨g,0,none⟩) n cap) n xs:=⟨hl,.inr ⟨g,cap,cur,rfl,hb,hg,hn,hm,hs,ht⟩⟩;rw [Nat.zero_add,hh.cellAt j (by omega),Asf hj]
theorem RL{o:Oper}{a:Act}{K:Act→World→Prop}{Q:Exit→Act→World→Prop}(s x:Operand)(t:TypeId)(ho:o.op=.call {callee:=.builtin .append,args:=#[s,x],argTypes:=#[t,t]})
  (e:TypeId) (i:TypeInfo) (z:Value) (size bytes:Nat) (ht:Tryz.prog.underlying t=some (.slice e)) (hi:Tryz.prog.info? e=some i) (hz:i.zero=some z)
  (hsize:i.size=size) (hby:i.bytes=bytes) (hzs:z.cells.size=size) (hsz:0<size) (fO:bytes<=64)
  (wN:World) (base:Nat) (v:Value) (n:Nat) (xs:List Value) (hs:a.eval s=v) (hown:wN.ownsRow base e size v n xs) (hn:n<200000)
  (g:Nat) (cs:Array Value) (hb:wN.heap[g]?=some (.cells cs e)) (hcs:cs.size=size) (h1:∀u∈cs.toList,u.oneCell'=true)
  (hx:a.eval x=.slice (some ⟨g,0,none⟩) 1 1) (hbase:base<=wN.heap.size)
  (h:∀v' w',w'.ownsRow base e size v' (n+1) (xs++cs.toList)→(∀w0,Aa w0 wN→w0.heap.size<=base→Aa w0 w')→wN.grownBy w' v.ownBlock→K (a.put o.dst v') w') :
  o.wp Tryz.prog a wN K Q:=by
 have TD:(n+1)*bytes<=140737488355328:=Asl (Nat.mul_le_mul (show n+1<=200000 by omega) fO) (by omega);have Fz:n+1<=maxLen:=(by unfold maxLen;omega);refine wp_append_own _ s x t ho base e i z size bytes ht hi hz hsize hby hzs hsz v n xs hs hown ⟨g,0,none⟩ 1 1 cs.toList hx ?_ ?_ h1 Fz TD hbase ?_
 ·simp [hcs]
 ·intro j u hu;rw [Addr.add_lit,Nat.zero_add];refine Ab hb ?_;rw [←Array.getElem?_toList];exact hu
 ·intro v' w' h2 h3 _;refine h v' w' h2 (fun w0 he Bq=>?_) h3
  exact he.grown h3 fun k hk=>by
   rcases hown.2 with⟨rfl,_⟩|⟨g,cap,cur,rfl,hb',_⟩
   ·cases hk
   ·simp only [Value.ownBlock,Ase]at hk;omega
def Ck(l:List Sg):List Value:=l.flatMap fun s=>[S (R s.a.x),S (R s.a.y),S (R s.b.x),S (R s.b.y)]
theorem Aa7(l:List Sg)(d:Sg):Ck (l ++ [d])=Ck l ++ [S (R d.a.x),S (R d.a.y),S (R d.b.x),S (R d.b.y)]:=by unfold Ck;simp
theorem mV(l:List Pt)(d:Pt):flat (Ak (l ++ [d]))=flat (Ak l) ++ [S (R d.x),S (R d.y)]:=by unfold Ak flat;simp [Me]
theorem Tryz.infoPt:(Tryz.prog.info? 94).map (fun i=>(i.zero,i.size,i.bytes))=some (some (.agg #[S [],S []]),2,32):=by kernel_rfl
section
variable {ops : Array Oper} {rest : List Oper} {o : Oper} {a : Act} {K : Act → World → Prop} {Q : Exit → Act → World → Prop} {E : Prop}
theorem AbJ(s x:Operand)(ho:o.op=.call {callee:=.builtin .append,args:=#[s,x],argTypes:=#[33,33]})
  (wN:World) (base:Nat) (v:Value) (n:Nat) (l:List Pt) (hs:a.eval s=v) (hown:wN.ownsRow base 94 2 v n (flat (Ak l))) (hn:n<200000) (d:Pt)
  (g:Nat) (hb:wN.heap[g]?=some (.cells #[S (R d.x),S (R d.y)] 94)) (hx:a.eval x=.slice (some ⟨g,0,none⟩) 1 1) (hbase:base<=wN.heap.size)
  (h:∀v' w',w'.ownsRow base 94 2 v' (n+1) (flat (Ak (l ++ [d])))→(∀w0,Aa w0 wN→w0.heap.size<=base→Aa w0 w')→wN.grownBy w' v.ownBlock→K (a.put o.dst v') w') :
  o.wp Tryz.prog a wN K Q:=by
 obtain⟨i0,hi,hz0,hz1,hz2⟩:=info_parts Tryz.infoPt;refine RL s x 33 ho 94 i0 _ 2 32 Tryz.underlying33 hi hz0 hz1 hz2 rfl (by omega) (by omega) wN base v n _ hs hown hn g _ hb rfl ?_ hx hbase ?_
 ·intro u hu;simp only [List.mem_cons,Asm,or_false]at hu
  rcases hu with rfl|rfl<;>rfl
 ·intro v' w' h1 h2 h3;exact h v' w' (by rw [mV];exact h1) h2 h3
theorem AdF(hgd:o.guard=none)(s x:Operand)(ho:o.op=.call {callee:=.builtin .append,args:=#[s,x],argTypes:=#[33,33]})
  (wN:World) (base:Nat) (v:Value) (n:Nat) (l:List Pt) (hs:a.eval s=v) (hown:wN.ownsRow base 94 2 v n (flat (Ak l))) (hn:n<200000) (d:Pt)
  (g:Nat) (hb:wN.heap[g]?=some (.cells #[S (R d.x),S (R d.y)] 94)) (hx:a.eval x=.slice (some ⟨g,0,none⟩) 1 1) (hbase:base<=wN.heap.size)
  (h:∀v' w',w'.ownsRow base 94 2 v' (n+1) (flat (Ak (l ++ [d])))→(∀w0,Aa w0 wN→w0.heap.size<=base→Aa w0 w')→wpList Tryz.prog ops Q rest (a.put o.dst v') w') :
  wpList Tryz.prog ops Q (o::rest) a wN:=
 wpList_plain hgd fun _ hK=>AbJ s x ho wN base v n l hs hown hn d g hb hx hbase fun v' w' h1 h2 _=>hK _ _ (h v' w' h1 h2)
end
theorem Apm(a b c d:Rat){k:Nat}(ha:Sz k a)(hb:Sz k b)(hc:Sz k c)(hd:Sz k d)(hk:0<k)(hk2:k<=4)(w:World)(hw:Al w) :
  Calls Tryz.prog 325 #[S (R a),S (R b),S (R c),S (R d)] w (BK (R (a*d-b*c)) w):=by
 have m1:=Mh a d (a:=k) (b:=k) ⟨ha,hd,hk,hk,by omega⟩;have m2:=Mh b c (a:=k) (b:=k) ⟨hb,hc,hk,hk,by omega⟩;have sb:=EK (a*d) (b*c) (a:=k+k) (b:=k+k) ⟨ha.mul hd,hb.mul hc,by omega,by omega,by omega⟩;clear ha hb hc hd;go_enter Tryz.func325,Tryz.ntmps325;(go_wp2_with fail);(with_reducible refine(m1 _ hw).mono ?_);rintro e w1 ⟨rfl,hx1⟩;(go_wp2_with fail);(with_reducible refine(m2 _ (hw.ext hx1)).mono ?_);rintro e w2 ⟨rfl,hx2⟩;have Cg:=hx1.trans hx2;(go_wp2_with fail);(with_reducible refine(sb _ (hw.ext Cg)).mono ?_);rintro e w3 ⟨rfl,hx3⟩;go_wp2;go_ret;exact⟨rfl,Cg.trans hx3⟩
theorem Ab7(a b c:Pt){k:Nat}(ha:Aq k a)(hb:Aq k b)(hc:Aq k c)(hk:0<k)(hk2:k<=1)(w:World)(hw:Al w) :
  Calls Tryz.prog 265 #[Af a,Af b,Af c] w (BK (R (Ai a b c)) w):=by
 have s1:=EK b.x a.x (a:=k) (b:=k) ⟨hb.x,ha.x,hk,hk,by omega⟩;have s2:=EK b.y a.y (a:=k) (b:=k) ⟨hb.y,ha.y,hk,hk,by omega⟩;have s3:=EK c.x a.x (a:=k) (b:=k) ⟨hc.x,ha.x,hk,hk,by omega⟩;have s4:=EK c.y a.y (a:=k) (b:=k) ⟨hc.y,ha.y,hk,hk,by omega⟩;have m1:=Apm (b.x-a.x) (b.y-a.y) (c.x-a.x) (c.y-a.y) (k:=k+k+1) (hb.x.sub ha.x) (hb.y.sub ha.y) (hc.x.sub ha.x) (hc.y.sub ha.y) (by omega) (by omega);have e:Ai a b c=(b.x-a.x)*(c.y-a.y)-(b.y-a.y)*(c.x-a.x):=rfl;rw [←e]at m1;obtain⟨r,hr⟩:=ArV (Ai a b c);rw [←hr]at m1 ⊢;unfold Af;clear ha hb hc e hr;go_enter Tryz.func265,Tryz.ntmps265
 go_upto_region 1 with fail
 obtain⟨W,hW,hE,hb1,hb2,hb3⟩:=Je w (.cells #[S (R a.x),S (R a.y)] 94) (.cells #[S (R b.x),S (R b.y)] 94) (.cells #[S (R c.x),S (R c.y)] 94);rw [←hW];clear hW;have Cu:=hw.ext hE;have q1:∀q:Ac W,q.w.cell? ⟨w.heap.size,0,none⟩=some (S (R a.x)):=Ac.cell (Ab hb1 rfl);have q2:∀q:Ac W,q.w.cell? ⟨w.heap.size,1,none⟩=some (S (R a.y)):=Ac.cell (Ab hb1 rfl);have q3:∀q:Ac W,q.w.cell? ⟨w.heap.size+1,0,none⟩=some (S (R b.x)):=Ac.cell (Ab hb2 rfl);have q4:∀q:Ac W,q.w.cell? ⟨w.heap.size+1,1,none⟩=some (S (R b.y)):=Ac.cell (Ab hb2 rfl);have q5:∀q:Ac W,q.w.cell? ⟨w.heap.size+1+1,0,none⟩=some (S (R c.x)):=Ac.cell (Ab hb3 rfl);have q6:∀q:Ac W,q.w.cell? ⟨w.heap.size+1+1,1,none⟩=some (S (R c.y)):=Ac.cell (Ab hb3 rfl);clear hb1 hb2 hb3;refine Bp (by kernel_rfl) (by kernel_rfl) ?_
 repeat (go_big_quiet_step (first|(with_reducible refine Lm (s1 _ (Cu.ext (Ac.h _))))|(with_reducible refine Lm (s2 _ (Cu.ext (Ac.h _))))|(with_reducible refine Lm (s3 _ (Cu.ext (Ac.h _))))|(with_reducible refine Lm (s4 _ (Cu.ext (Ac.h _))))|(with_reducible refine Lm (m1 _ (Cu.ext (Ac.h _))))))
 refine wpQuiet_nil ?_;rintro _ ⟨q,rfl⟩;go_wp2;go_ret;exact⟨rfl,hE.trans q.h⟩
def JH(a b x:Rat):Bool:=decide (II a b<=x)&&decide (x<=IH a b)
theorem AeS(p q:Rat):AH p q<=0↔p<=q:=by unfold AH;grind
theorem AbD(a b x:Rat){k:Nat}(ha:Sz k a)(hb:Sz k b)(hx:Sz k x)(hk:0<k)(hk2:k<=4)(w:World)(hw:Al w) :
  Calls Tryz.prog 266 #[S (R a),S (R b),S (R x)] w (Bw (JH a b x) w):=by
 have mn:=AmN a b (a:=k) (b:=k) ⟨ha,hb,hk,hk,by omega⟩;have mx:=AmM a b (a:=k) (b:=k) ⟨ha,hb,hk,hk,by omega⟩;have szn:Sz k (II a b):=(by unfold II;split<;>assumption);have szx:Sz k (IH a b):=(by unfold IH;split<;>assumption);have c1:=FB (II a b) x (a:=k) (b:=k) ⟨szn,hx,hk,hk,by omega⟩;have c2:=FB x (IH a b) (a:=k) (b:=k) ⟨hx,szx,hk,hk,by omega⟩;obtain⟨r,hr⟩:=ArV (JH a b x);rw [←hr]
 have hr2:r=(decide (AH (II a b) x<=0)&&decide (AH x (IH a b)<=0)):=by rw [hr];unfold JH;simp only [AeS]
 obtain⟨u,hu⟩:=ArV (AH (II a b) x);obtain⟨v,hv⟩:=ArV (AH x (IH a b));rw [←hu]at c1 hr2;rw [←hv]at c2 hr2;obtain⟨p,hp⟩:=ArV (II a b);obtain⟨s,hs⟩:=ArV (IH a b);rw [←hp]at mn c1;rw [←hs]at mx c2;clear hr ha hb hx szn szx hp hs hu hv;by_cases h1:u<=0
 ·have d1:decide (u<=0)=true:=decide_eq_true h1;rw [d1,Bool.true_and]at hr2;have HR:=ArW hr2;clear hr2 h1;go_enter Tryz.func266,Tryz.ntmps266;(go_wp2_with fail);(with_reducible refine(mn _ hw).mono ?_);rintro e w1 ⟨rfl,hx1⟩;(go_wp2_with fail);(with_reducible refine(c1 _ (hw.ext hx1)).mono ?_);rintro e w2 ⟨rfl,hx2⟩;have Cg:=hx1.trans hx2;(go_wp2_with fail);(with_reducible refine(mx _ (hw.ext Cg)).mono ?_);rintro e w3 ⟨rfl,hx3⟩;have J5:=Cg.trans hx3;(go_wp2_with fail);(with_reducible refine(c2 _ (hw.ext J5)).mono ?_);rintro e w4 ⟨rfl,Aj⟩;go_wp2;go_ret;exact⟨by rw [HR.out];rfl,J5.trans Aj⟩
 ·have d1:decide (u<=0)=false:=decide_eq_false h1;rw [d1,Bool.false_and]at hr2;subst hr2;clear h1;go_enter Tryz.func266,Tryz.ntmps266;(go_wp2_with fail);(with_reducible refine(mn _ hw).mono ?_);rintro e w1 ⟨rfl,hx1⟩;(go_wp2_with fail);(with_reducible refine(c1 _ (hw.ext hx1)).mono ?_);rintro e w2 ⟨rfl,hx2⟩;go_wp2;go_ret;exact⟨rfl,hx1.trans hx2⟩
theorem oU(l:List Pt)(hz:∀p∈l,Aq 1 p)(A:Option Addr)(c:Nat)(w:World)(hw:Al w)(hr:Ae w A (flat (Ak l)))(hc:l.length<=c)(hcm:c<=9223372036854775807) :
  Calls Tryz.prog 200 #[.slice A l.length c] w (Av 0 w):=by
 have HL:=ArW hz;clear hz;go_enter Tryz.func200,Tryz.ntmps200
 go_upto_region 2 with fail
 go_loopw [8] (fun i wr=>∃j:Nat,i=.int .i64 (j:Nat)/\j<=l.length/\Aa w wr) (fun i _=>l.length-(intOf i).toNat)
 case atStart=>exact⟨0,rfl,by omega,Aa.refl _⟩
 case round=>
  obtain⟨j,rfl,hj,Ad⟩:=hrel;by_cases hlt:j<l.length
  ·obtain⟨b,o,rfl,hg1,hg2⟩:=Ca (hr.ext Ad) hlt;have hp:=HL.out _ (Asa hlt);obtain⟨p,LM⟩:=ArV (l[j]);rw [←LM]at hg1 hg2 hp;clear LM;have ck:=aW (R p.x) (R p.y) true (by simp [Pp hp.x (by omega) (by omega),Pp hp.y (by omega) (by omega)]) (by have:=MF (by omega) hp.x;omega) (by have:=MF (by omega) hp.y;omega);rw [Jh]at ck;have hx1:=Ad.alloc (.cells #[S (R p.x),S (R p.y)] 94);have hj0:(0:Int)<=(j:Int):=(by omega);have A7:(j:Int)<(l.length:Int):=(by omega);clear hp;(go_wp2_with fail);(with_reducible refine(ck _ (hw.ext hx1)).mono ?_);rintro e w2 ⟨rfl,hx2⟩;go_wp2;go_roundw
   case rel=>exact⟨j+1,by go_num,hlt,hx1.trans hx2⟩
   case measure=>simp [intOf];omega
  ·have hle:(l.length:Int)<=(j:Int):=(by omega);go_wp2;go_ret;exact⟨rfl,Ad⟩
def Aaq(n:Int):Value:=.tuple #[.int .i64 n,.int .i64 0]
def Aap(b:Bool):Value:=.tuple #[.bool b,.int .i64 0]
theorem Apo(a b c:Pt)(ha:Aq 1 a)(hb:Aq 1 b)(hc:Aq 1 c)(w:World)(hw:Al w) :
  Calls Tryz.prog 267 #[Af a,Af b,Af c] w (Cy (Aaq (AI (Ai a b c))) w):=by
 have ar:=Ab7 a b c ha hb hc (by omega) (by omega);have sg:=Pv (Ai a b c)
 have hl:∀p∈[a,b,c],Aq 1 p:=by
  intro p hp;simp only [List.mem_cons,Asm,or_false]at hp
  rcases hp with rfl|rfl|rfl<;>assumption
 obtain⟨r,hr⟩:=ArV (Ai a b c);rw [←hr]at ar sg ⊢;obtain⟨W,hW,hE,hb1,hb2,hb3⟩:=Je w (.cells #[S (R a.x),S (R a.y)] 94) (.cells #[S (R b.x),S (R b.y)] 94) (.cells #[S (R c.x),S (R c.y)] 94);have pt:Calls Tryz.prog 200 #[.slice (some ⟨W.heap.size,0,none⟩) 3 3] (W.alloc (.cells #[S (R a.x),S (R a.y),S (R b.x),S (R b.y),S (R c.x),S (R c.y)] 94)) (Av 0 _):=oU [a,b,c] hl (some ⟨W.heap.size,0,none⟩) 3 (W.alloc (.cells #[S (R a.x),S (R a.y),S (R b.x),S (R b.y),S (R c.x),S (R c.y)] 94)) ((hw.ext hE).ext ((Aa.refl W).alloc _)) (Ae.lit W #[S (R a.x),S (R a.y),S (R b.x),S (R b.y),S (R c.x),S (R c.y)] 94) (by simp) (by omega);have Em:=hE.alloc (.cells #[S (R a.x),S (R a.y),S (R b.x),S (R b.y),S (R c.x),S (R c.y)] 94);have Hx:=(Aa.refl W).alloc (.cells #[S (R a.x),S (R a.y),S (R b.x),S (R b.y),S (R c.x),S (R c.y)] 94);have k1:=Ab (o:=0) hb1 rfl;have k2:=Ab (o:=1) hb1 rfl;have k3:=Ab (o:=0) hb2 rfl;have k4:=Ab (o:=1) hb2 rfl;have k5:=Ab (o:=0) hb3 rfl;have k6:=Ab (o:=1) hb3 rfl;unfold Af at ar ⊢;clear ha hb hc hr hb1 hb2 hb3 hl;go_enter Tryz.func267,Tryz.ntmps267
 go_upto_region 1 with fail
 rw [←hW];clear hW;(go_wp2_with fail);(with_reducible refine pt.mono ?_);rintro e w1 ⟨rfl,hx1⟩;have hx2:=Hx.trans hx1;have hw1:=hw.ext (hE.trans hx2);replace k1:=hx2.cellS k1;replace k2:=hx2.cellS k2;replace k3:=hx2.cellS k3;replace k4:=hx2.cellS k4;replace k5:=hx2.cellS k5;replace k6:=hx2.cellS k6;have hx3:=hE.trans hx2;clear pt hE Em Hx hx1 hx2;(go_wp2_with fail);(with_reducible refine(ar _ hw1).mono ?_);rintro e w2 ⟨rfl,Aj⟩;(go_wp2_with fail);(with_reducible refine(sg _).mono ?_);rintro e w3 ⟨rfl,Ax⟩;go_wp2;go_ret2;exact⟨rfl,(hx3.trans Aj).trans Ax⟩
def PZ(a b p:Pt):Bool:=decide (Ai a b p=0)&&(JH a.x b.x p.x&&JH a.y b.y p.y)
theorem Apk(a b c:Pt)(ha:Aq 1 a)(hb:Aq 1 b)(hc:Aq 1 c)(w:World)(hw:Al w) :
  Calls Tryz.prog 192 #[Af a,Af b,Af c] w (Cy (Aap (PZ a b c)) w):=by
 have ar:=Ab7 a b c ha hb hc (by omega) (by omega);have t1:=AbD a.x b.x c.x ha.x hb.x hc.x (by omega) (by omega);have t2:=AbD a.y b.y c.y ha.y hb.y hc.y (by omega) (by omega)
 have hl:∀p∈[a,b,c],Aq 1 p:=by
  intro p hp;simp only [List.mem_cons,Asm,or_false]at hp
  rcases hp with rfl|rfl|rfl<;>assumption
 have hz:(R (Ai a b c) == [48])=decide (Ai a b c=0):=by
  by_cases h:Ai a b c=0
  ·rw [h,Ka];rfl
  ·rw [Ho h,decide_eq_false h]
 obtain⟨x,hx⟩:=ArV (PZ a b c);have hx':=hx;unfold PZ at hx';obtain⟨u,hu⟩:=ArV (decide (Ai a b c=0));obtain⟨s,hs⟩:=ArV (JH a.x b.x c.x);obtain⟨t,ht⟩:=ArV (JH a.y b.y c.y);rw [←hu]at hz hx';rw [←hs]at t1 hx';rw [←ht]at t2 hx';rw [←hx];obtain⟨r,hr⟩:=ArV (Ai a b c);rw [←hr]at ar hz;have HX:=ArW hx';obtain⟨W,hW,hE,hb1,hb2,hb3⟩:=Je w (.cells #[S (R a.x),S (R a.y)] 94) (.cells #[S (R b.x),S (R b.y)] 94) (.cells #[S (R c.x),S (R c.y)] 94);have pt:Calls Tryz.prog 200 #[.slice (some ⟨W.heap.size,0,none⟩) 3 3] (W.alloc (.cells #[S (R a.x),S (R a.y),S (R b.x),S (R b.y),S (R c.x),S (R c.y)] 94)) (Av 0 _):=oU [a,b,c] hl (some ⟨W.heap.size,0,none⟩) 3 (W.alloc (.cells #[S (R a.x),S (R a.y),S (R b.x),S (R b.y),S (R c.x),S (R c.y)] 94)) ((hw.ext hE).ext ((Aa.refl W).alloc _)) (Ae.lit W #[S (R a.x),S (R a.y),S (R b.x),S (R b.y),S (R c.x),S (R c.y)] 94) (by simp) (by omega);have Hx:=(Aa.refl W).alloc (.cells #[S (R a.x),S (R a.y),S (R b.x),S (R b.y),S (R c.x),S (R c.y)] 94);have k1:=Ab (o:=0) hb1 rfl;have k2:=Ab (o:=1) hb1 rfl;have k3:=Ab (o:=0) hb2 rfl;have k4:=Ab (o:=1) hb2 rfl;have k5:=Ab (o:=0) hb3 rfl;have k6:=Ab (o:=1) hb3 rfl;unfold Af at ar ⊢;clear ha hb hc hr hb1 hb2 hb3 hl hx hx' hu hs ht;go_enter Tryz.func192,Tryz.ntmps192
 go_upto_region 1 with fail
 rw [←hW];clear hW;(go_wp2_with fail);(with_reducible refine pt.mono ?_);rintro e w1 ⟨rfl,hx1⟩;have hx2:=Hx.trans hx1;have hw1:=hw.ext (hE.trans hx2);replace k1:=hx2.cellS k1;replace k2:=hx2.cellS k2;replace k3:=hx2.cellS k3;replace k4:=hx2.cellS k4;replace k5:=hx2.cellS k5;replace k6:=hx2.cellS k6;have hx3:=hE.trans hx2;clear pt hE Hx hx1 hx2;(go_wp2_with fail);(with_reducible refine(ar _ hw1).mono ?_);rintro e w2 ⟨rfl,Aj⟩;replace k1:=Aj.cellS k1;replace k2:=Aj.cellS k2;replace k3:=Aj.cellS k3;replace k4:=Aj.cellS k4;replace k5:=Aj.cellS k5;replace k6:=Aj.cellS k6;replace hw1:=hw1.ext Aj;replace hx3:=hx3.trans Aj;clear ar Aj
 cases u
 ·rw [Bool.false_and]at HX;have he:x=false:=HX.out;subst he;go_wp2;go_ret2;exact⟨rfl,hx3⟩
 ·rw [Bool.true_and]at HX;(go_wp2_with fail);(with_reducible refine(t1 _ hw1).mono ?_);rintro e w3 ⟨rfl,Aj⟩;replace k2:=Aj.cellS k2;replace k4:=Aj.cellS k4;replace k6:=Aj.cellS k6
  cases s
  ·rw [Bool.false_and]at HX;have he:x=false:=HX.out;subst he;go_wp2;go_ret2;exact⟨rfl,hx3.trans Aj⟩
  ·rw [Bool.true_and]at HX;(go_wp2_with fail);(with_reducible refine(t2 _ (hw1.ext Aj)).mono ?_);rintro e w4 ⟨rfl,Ax⟩;go_wp2;go_ret2;exact⟨by rw [HX.out];rfl,(hx3.trans Aj).trans Ax⟩
theorem Za(x y:Int)(hx:x.natAbs<10000000)(hy:y.natAbs<10000000)(w:World)(hw:Al w):Calls Tryz.prog 199 #[.int .i64 x,.int .i64 y] w (Cy (Af ⟨x,y⟩) w):=by
 have o1:=Aal x (by omega) (by omega);have o2:=Aal y (by omega) (by omega);have hb:=ArY w (.cells #[S [],S []] 94);have hE:=(Aa.refl w).alloc (.cells #[S [],S []] 94);unfold Af;clear hx hy;go_enter Tryz.func199,Tryz.ntmps199;(go_wp2_with fail);rw [show (⟨#[]⟩:ByteArray)=⟨([]:Bs).toArray⟩from rfl];(with_reducible refine(o1 _ (hw.ext hE)).mono ?_);rintro e w1 ⟨rfl,hx⟩;replace hb:=(hx.block _ (ArX hb)).trans hb;replace hE:=hE.trans hx;(go_wp2_with fail);(with_reducible refine(o2 _ (hw.ext hE)).mono ?_);rintro e w2 ⟨rfl,hx2⟩;replace hb:=(hx2.block _ (ArX hb)).trans hb;replace hE:=hE.trans hx2;have g1:=Ab (o:=0) hb rfl;have g2:=Ab (o:=1) hb rfl;have g3:=AB (o:=0) hb;have g4:=AB (o:=1) hb;obtain⟨e1,e2⟩:=set2 (S (R (x:Rat))) (S (R (y:Rat))) g1 g2;go_wp2;refine bodyPost_ret (v:=.agg #[S (R (x:Rat)),S (R (y:Rat))]) (by simp [results,Tryz.results199,go_sem,e1,e2]) rfl ?_;exact⟨rfl,(hE.setCell (ArZ _) _).setCell (ArZ _) _⟩
theorem Aju(z:Int)(w:World):Calls Tryz.prog 328 #[S (I z)] w (BK (D z.natAbs) w):=by
 have t:=oK (I z) [45];rw [Abw]at t;go_enter Tryz.func328,Tryz.ntmps328;(go_wp2_with fail);(with_reducible refine(t _).mono ?_);rintro e w1 ⟨rfl,hx⟩;go_wp2;go_ret;exact⟨rfl,hx⟩
theorem ue(q:Rat)(hq:Sz 7 q)(w:World)(hw:Al w):Calls Tryz.prog 269 #[S (R q)] w (Bw false w):=by
 have p:=Aaj q (by omega) (by omega) hq w hw;have ab:=Aju q.num;have l1:=Io (by omega) hq.num;have l2:=Io (by omega) hq.den;unfold Rr at p;obtain⟨n,hn⟩:=ArV (D q.num.natAbs);obtain⟨d,hd⟩:=ArV (D q.den);rw [←hn]at ab l1;rw [←hd]at p l2;have n1:¬((n.length:Int)>200):=(by omega);have n2:¬((d.length:Int)>200):=(by omega);clear hn hd l1 l2;go_enter Tryz.func269,Tryz.ntmps269;(go_wp2_with fail);(with_reducible refine p.mono ?_);rintro e w1 ⟨rfl,hx⟩;(go_wp2_with fail);(with_reducible refine(ab _).mono ?_);rintro e w2 ⟨rfl,hx2⟩;go_wp2;go_ret;exact⟨by simp [n1,n2],hx.trans hx2⟩
def UJ(p:Pt):Value:=.tuple #[Af p,.int .i64 0]
theorem Apn(x y:Rat)(hx:Sz 7 x)(hy:Sz 7 y)(w:World)(hw:Al w):Calls Tryz.prog 201 #[S (R x),S (R y)] w (Cy (UJ ⟨x,y⟩) w):=by
 have l1:=ue x hx;have l2:=ue y hy;have hb:=ArY w (.cells #[S [],S []] 94);have hE:=(Aa.refl w).alloc (.cells #[S [],S []] 94);unfold UJ Af;clear hx hy;go_enter Tryz.func201,Tryz.ntmps201;(go_wp2_with fail);rw [show (⟨#[]⟩:ByteArray)=⟨([]:Bs).toArray⟩from rfl];(with_reducible refine(l1 _ (hw.ext hE)).mono ?_);rintro e w1 ⟨rfl,hx⟩;replace hb:=(hx.block _ (ArX hb)).trans hb;replace hE:=hE.trans hx;(go_wp2_with fail);(with_reducible refine(l2 _ (hw.ext hE)).mono ?_);rintro e w2 ⟨rfl,hx2⟩;replace hb:=(hx2.block _ (ArX hb)).trans hb;replace hE:=hE.trans hx2;have g1:=Ab (o:=0) hb rfl;have g2:=Ab (o:=1) hb rfl;have g3:=AB (o:=0) hb;have g4:=AB (o:=1) hb;obtain⟨e1,e2⟩:=set2 (S (R x)) (S (R y)) g1 g2;go_wp2;refine bodyPost_ret (v:=.tuple #[.agg #[S (R x),S (R y)],.int .i64 0]) (by simp [results,Tryz.results201,go_sem,e1,e2]) rfl ?_;exact⟨rfl,(hE.setCell (ArZ _) _).setCell (ArZ _) _⟩
theorem Ab9(a b k:Rat)(ha:Sz 1 a)(hb:Sz 1 b)(hk:Sz 1 k)(w:World)(hw:Al w):Calls Tryz.prog 202 #[S (R a),S (R b),S (R k)] w (BK (R (D5 a b k)) w):=by
 have s1:=EK b a (a:=1) (b:=1) ⟨hb,ha,by omega,by omega,by omega⟩;have m1:=Mh k (b-a) (a:=1) (b:=3) ⟨hk,hb.sub ha,by omega,by omega,by omega⟩;have a1:=YB a (k*(b-a)) (a:=1) (b:=4) ⟨ha,hk.mul (hb.sub ha),by omega,by omega,by omega⟩;have e:D5 a b k=a+k*(b-a):=rfl;rw [e];clear ha hb hk e;go_enter Tryz.func202,Tryz.ntmps202;(go_wp2_with fail);(with_reducible refine(s1 _ hw).mono ?_);rintro e w1 ⟨rfl,hx1⟩;(go_wp2_with fail);(with_reducible refine(m1 _ (hw.ext hx1)).mono ?_);rintro e w2 ⟨rfl,hx2⟩;have Cg:=hx1.trans hx2;(go_wp2_with fail);(with_reducible refine(a1 _ (hw.ext Cg)).mono ?_);rintro e w3 ⟨rfl,hx3⟩;go_wp2;go_ret;exact⟨rfl,Cg.trans hx3⟩
theorem AbA(a b:Pt)(k:Rat)(ha:Aq 1 a)(hb:Aq 1 b)(hk:Sz 1 k)(w:World)(hw:Al w):Calls Tryz.prog 126 #[Af a,Af b,S (R k)] w (Cy (UJ ⟨D5 a.x b.x k,D5 a.y b.y k⟩) w):=by
 have s1:=Ab9 a.x b.x k (ha.x.mono (by omega)) (hb.x.mono (by omega)) (hk.mono (by omega));have s2:=Ab9 a.y b.y k (ha.y.mono (by omega)) (hb.y.mono (by omega)) (hk.mono (by omega));have pc:=Apn (D5 a.x b.x k) (D5 a.y b.y k) ((Abq ha.x hb.x hk).mono (by omega)) ((Abq ha.y hb.y hk).mono (by omega))
 have hl:∀p∈[a,b],Aq 1 p:=by
  intro p hp;simp only [List.mem_cons,Asm,or_false]at hp
  rcases hp with rfl|rfl
  ·exact⟨ha.x.mono (by omega),ha.y.mono (by omega)⟩
  ·exact⟨hb.x.mono (by omega),hb.y.mono (by omega)⟩
 have nb:=xg [R k] true (by simp [Yw,Pp hk (by omega) (by omega)]);obtain⟨W,hW,hE,hb1,hb2,hb3⟩:=Je w (.cells #[S (R a.x),S (R a.y)] 94) (.cells #[S (R b.x),S (R b.y)] 94) (.cells #[S [],S []] 94);have pt:Calls Tryz.prog 200 #[.slice (some ⟨W.heap.size,0,none⟩) 2 2] (W.alloc (.cells #[S (R a.x),S (R a.y),S (R b.x),S (R b.y)] 94)) (Av 0 _):=oU [a,b] hl (some ⟨W.heap.size,0,none⟩) 2 (W.alloc (.cells #[S (R a.x),S (R a.y),S (R b.x),S (R b.y)] 94)) ((hw.ext hE).ext ((Aa.refl W).alloc _)) (Ae.lit W #[S (R a.x),S (R a.y),S (R b.x),S (R b.y)] 94) (by simp) (by omega);have Hx:=(Aa.refl W).alloc (.cells #[S (R a.x),S (R a.y),S (R b.x),S (R b.y)] 94);have CP:(R k).length<=17:=(by have:=MF (by omega) hk;omega);have NJ:∀(W1:World) (hw1:Al W1),Calls Tryz.prog 146 #[.slice (some ⟨W1.heap.size,0,none⟩) 1 1] (W1.alloc (.cells #[S (R k)] 24)) (Av (FS true) _):=fun (W1:World) (hw1:Al W1)=>nb (some ⟨W1.heap.size,0,none⟩) 1 (W1.alloc (.cells #[S (R k)] 24)) (hw1.ext ((Aa.refl W1).alloc _)) (Ae.lit W1 #[S (R k)] 24) (by simp) (by omega) (by simp) (by simpa using CP);rw [Jh]at NJ;unfold UJ Af at pc ⊢;clear ha hb hk hl nb;obtain⟨p,hp⟩:=ArV (D5 a.x b.x k);obtain⟨q,hq⟩:=ArV (D5 a.y b.y k);rw [←hp]at s1 pc ⊢;rw [←hq]at s2 pc ⊢;clear hp hq;go_enter Tryz.func126,Tryz.ntmps126
 go_upto_region 1 with fail
 rw [show (⟨#[]⟩:ByteArray)=⟨([]:Bs).toArray⟩from rfl,←hW];clear hW;have k1:=Ab (o:=0) hb1 rfl;have k2:=Ab (o:=1) hb1 rfl;have k3:=Ab (o:=0) hb2 rfl;have k4:=Ab (o:=1) hb2 rfl;(go_wp2_with fail);(with_reducible refine pt.mono ?_);rintro e w1 ⟨rfl,hx1⟩;have hx2:=Hx.trans hx1;have hw1:=hw.ext (hE.trans hx2);clear k1 k2 k3 k4;(go_wp2_with fail);(with_reducible refine(NJ _ hw1).mono ?_);rintro e w2 ⟨rfl,hx3⟩;have Aj:=(hx2.alloc (.cells #[S (R k)] 24)).trans hx3;have h1:=(Aj.block _ (ArX hb1)).trans hb1;have h2:=(Aj.block _ (ArX hb2)).trans hb2;have h3:=(Aj.block _ (ArX hb3)).trans hb3;have Kh:=hE.trans Aj;have hw2:=hw.ext Kh;have k1:=Ab (o:=0) h1 rfl;have k2:=Ab (o:=1) h1 rfl;have k3:=Ab (o:=0) h2 rfl;have k4:=Ab (o:=1) h2 rfl;have X:Aa w2 w2:=Aa.refl w2
 have SO:∀w',Aa w2 w'→(w'.cell? ⟨w.heap.size,0,none⟩=some (S (R a.x))/\w'.cell? ⟨w.heap.size,1,none⟩=some (S (R a.y))/\w'.cell? ⟨w.heap.size+1,0,none⟩=some (S (R b.x))/\w'.cell? ⟨w.heap.size+1,1,none⟩=some (S (R b.y))):=fun w' h=>⟨h.cellS k1,h.cellS k2,h.cellS k3,h.cellS k4⟩
 have zY:=h3;clear h1 h2 hb1 hb2 hb3 hx1 hx2 hx3 Aj pt NJ Hx hw1 h3
 go_upto_region 7 with fail
 go_region_held3 (fun w'=>w'.cell? ⟨w.heap.size,0,none⟩=some (S (R a.x))/\w'.cell? ⟨w.heap.size,1,none⟩=some (S (R a.y))/\w'.cell? ⟨w.heap.size+1,0,none⟩=some (S (R b.x))/\w'.cell? ⟨w.heap.size+1,1,none⟩=some (S (R b.y)))
  (first|with_reducible exact SO _ X|with_reducible exact SO _ X.drew|(refine⟨?_,?_,?_,?_⟩<;>(rw [World.cell?_setCell_far _ _ _ _ (by simp only [ne_eq];omega),World.cell?_setCell_far _ _ _ _ (by simp only [ne_eq];omega)];first|exact(SO _ X).1|exact(SO _ X).2.1|exact(SO _ X).2.2.1|exact(SO _ X).2.2.2)))
  (first|((with_reducible refine(s1 _ (hw2.ext (by first|exact X|exact X.drew))).mono ?_);rintro e w3 ⟨rfl,hx1⟩;replace X:Aa w2 w3:=(by first|exact X.trans hx1|exact X.drew.trans hx1))|((with_reducible refine(s2 _ (hw2.ext (by first|exact X|exact X.drew))).mono ?_);rintro e w3 ⟨rfl,hx1⟩;replace X:Aa w2 w3:=(by first|exact X.trans hx1|exact X.drew.trans hx1))|((with_reducible refine(pc _ (hw2.ext (by first|exact X|exact X.drew))).mono ?_);rintro e w3 ⟨rfl,hx1⟩;replace X:Aa w2 w3:=(by first|exact X.trans hx1|exact X.drew.trans hx1);have hb3:=(X.block _ (ArX zY)).trans zY;have g1:=Ab (o:=0) hb3 rfl;have g2:=Ab (o:=1) hb3 rfl;have g3:=AB (o:=0) hb3;have g4:=AB (o:=1) hb3))
 obtain⟨e1,e2⟩:=set2 (S (R p)) (S (R q)) g1 g2;go_wp2;refine bodyPost_ret (v:=.tuple #[.agg #[S (R p),S (R q)],.int .i64 0]) (by simp [results,Tryz.results126,go_sem,e1,e2]) rfl ?_;exact⟨rfl,((Kh.trans X).setCell (by show w.heap.size<=w.heap.size+1+1;omega) _).setCell (by show w.heap.size<=w.heap.size+1+1;omega) _⟩
def gp(u:Int×Int):Pt:=⟨(u.1:Rat)/2,(u.2:Rat)/2⟩
structure Ol(u:Int×Int):Prop where
 x0:0<=u.1
 x1:u.1<=6
 y0:0<=u.2
 y1:u.2<=6
theorem Ol.on{u:Int×Int}(h:Ol u):DX (gp u):=⟨⟨u.1,by have:=h.x0;have:=h.x1;omega,rfl⟩,⟨u.2,by have:=h.y0;have:=h.y1;omega,rfl⟩⟩
theorem Ol.sz{u:Int×Int}(h:Ol u):Aq 1 (gp u):=h.on.sz (by omega)
theorem Ol.sz2{u:Int×Int}(h:Ol u):Aq 1 (gp u):=h.on.sz (by omega)
theorem Ah6{a b:Int} : (a:Rat)/2<=(b:Rat)/2↔a<=b:=by
 constructor
 ·intro h;have:(a:Rat)<=(b:Rat):=(by grind);exact Rat.intCast_le_intCast.1 this
 ·intro h;have:(a:Rat)<=(b:Rat):=Rat.intCast_le_intCast.2 h
  grind
theorem AgP(x y:Int):gp (2*x,2*y)=⟨x,y⟩:=by
 unfold gp;simp only [Pt.mk.injEq,Rat.intCast_mul];constructor<;>grind
theorem vg(a b m:Int)(h:a+b=2*m):D5 ((a:Rat)/2) ((b:Rat)/2) (1/2)=(m:Rat)/2:=by
 unfold D5
 have:(a:Rat)+(b:Rat)=2*(m:Rat):=by rw [←Rat.intCast_add,h,Rat.intCast_mul];rfl
 grind
theorem xI(u v m:Int×Int)(h1:u.1+v.1=2*m.1)(h2:u.2+v.2=2*m.2):(⟨D5 (gp u).x (gp v).x (1/2),D5 (gp u).y (gp v).y (1/2)⟩:Pt)=gp m:=by
 unfold gp;simp only [vg _ _ _ h1,vg _ _ _ h2]
theorem Abp:Sz 1 (1/2:Rat):=by
 have:(1/2:Rat)=mkRat 1 2:=(by decide +kernel);rw [this];exact Sz.mkRat (by omega) (by decide) (by decide)
def Bi(n:Nat):Bs:=if n%4=0 then [97] else if n%4=1 then [98] else if n%4=2 then [99] else [100]
theorem Ab2(n:Nat)(hn:n<256)(w:World):Calls Tryz.prog 125 #[.int .u8 (n:Nat)] w (BK (Bi n) w):=by
 have hE:=(Aa.refl w).alloc (.cells #[S [97],S [98],S [99],S [100]] 9);obtain⟨r,hr⟩:=ArV (n%4:Nat);have hw8:((n:Int).tmod 4)=(r:Int):=(by rw [Int.tmod_eq_emod_of_nonneg (by omega)];omega);have hr4:r<4:=by omega
 have hu:Bi n=if r=0 then [97] else if r=1 then [98] else if r=2 then [99] else [100]:=by unfold Bi;rw [hr]
 rw [hu];clear hu hr;go_enter Tryz.func125,Tryz.ntmps125
 go_upto_region 1 with fail
 rcases(show r=0∨r=1∨r=2∨r=3 by omega)with h|h|h|h
 all_goals (
  subst h;go_wp2;go_ret
  exact⟨rfl,hE⟩)
theorem PX{w:World}{b:Nat}{a0 a1 a2:Value}{t:TypeId}(v0 v1 v2:Value)(h:w.heap[b]?=some (.cells #[a0,a1,a2] t)) :
  (((w.setCell ⟨b,0,none⟩ v0).setCell ⟨b,1,none⟩ v1).setCell ⟨b,2,none⟩ v2).heap[b]?=some (.cells #[v0,v1,v2] t):=by
 simp only [World.setCell,Array.getElem?_modify,h];simp
def YT(x y:Int):List (Int×Int):=[(2*x,2*y),(2*x+2,2*y),(2*x+2,2*y+2),(2*x,2*y+2)]
def We(l:List (Int×Int)):List Value:=flat (Ak (l.map gp))
theorem Aop(x y:Int):We (YT x y) = [S (R (x:Rat)),S (R (y:Rat)),S (R ((x+1:Int):Rat)),S (R (y:Rat)),S (R ((x+1:Int):Rat)),S (R ((y+1:Int):Rat)),S (R (x:Rat)),S (R ((y+1:Int):Rat))]:=by
 have e1:(2*x+2:Int)=2*(x+1):=(by omega);have e2:(2*y+2:Int)=2*(y+1):=(by omega);unfold We YT;rw [e1,e2];simp only [List.map_cons,List.map_nil,AgP]
 rfl
theorem Aos(x y:Int)(hx:0<=x)(hx2:x<=2)(hy:0<=y)(hy2:y<=2)(u:Bs)(w:World)(hw:Al w):Calls Tryz.prog 124 #[.int .i64 x,.int .i64 y,S u] w fun e w'=>
  ∃b,e=.returned (.agg #[.slice (some ⟨b,0,none⟩) 4 4,S u,.slice none 0 0])/\w.heap.size<=b/\w'.heap[b]?=some (.cells (We (YT x y)).toArray 94)/\Aa w w':=by
 have a1:=Za x y (by omega) (by omega);have a2:=Za (x+1) y (by omega) (by omega);have a3:=Za (x+1) (y+1) (by omega) (by omega);have a4:=Za x (y+1) (by omega) (by omega);have v1:IntKind.wrap .i64 (x+1)=x+1:=Asg _ (by omega);have v2:IntKind.wrap .i64 (y+1)=y+1:=Asg _ (by omega);rw [Aop];have hb:=ArY w (.cells #[.slice none 0 0,S [],.slice none 0 0] 97);have hE:=(Aa.refl w).alloc (.cells #[.slice none 0 0,S [],.slice none 0 0] 97);unfold Af at a1 a2 a3 a4;simp only at a1 a2 a3 a4;obtain⟨p,hp⟩:=ArV (R (x:Rat));obtain⟨q,hq⟩:=ArV (R (y:Rat));obtain⟨r,hr⟩:=ArV (R ((x+1:Int):Rat));obtain⟨s,hs⟩:=ArV (R ((y+1:Int):Rat));rw [←hp,←hq]at a1;rw [←hr,←hq]at a2;rw [←hr,←hs]at a3;rw [←hp,←hs]at a4;rw [←hp,←hq,←hr,←hs];clear hp hq hr hs hx hx2 hy hy2;go_enter Tryz.func124,Tryz.ntmps124;(go_wp2_with fail);rw [show (⟨#[]⟩:ByteArray)=⟨([]:Bs).toArray⟩from rfl];(with_reducible refine(a1 _ (hw.ext hE)).mono ?_);rintro e w1 ⟨rfl,hx⟩;replace hb:=(hx.block _ (ArX hb)).trans hb;replace hE:=hE.trans hx;clear hx;(go_wp2_with fail);(with_reducible refine(a2 _ (hw.ext hE)).mono ?_);rintro e w2 ⟨rfl,hx⟩;replace hb:=(hx.block _ (ArX hb)).trans hb;replace hE:=hE.trans hx;clear hx;(go_wp2_with fail);(with_reducible refine(a3 _ (hw.ext hE)).mono ?_);rintro e w3 ⟨rfl,hx⟩;replace hb:=(hx.block _ (ArX hb)).trans hb;replace hE:=hE.trans hx;clear hx;(go_wp2_with fail);(with_reducible refine(a4 _ (hw.ext hE)).mono ?_);rintro e w4 ⟨rfl,hx⟩;replace hb:=(hx.block _ (ArX hb)).trans hb;replace hE:=hE.trans hx;clear hx;have Fc:=ArY w4 (.cells #[S p,S q,S r,S q,S r,S s,S p,S s] 94);have Uj:=hE.size;have Gn:=(Aa.refl w4).alloc (.cells #[S p,S q,S r,S q,S r,S s,S p,S s] 94);have hlt:=ArX hb;have k1:w4.cell? ⟨w.heap.size,0,none⟩=some (.slice none 0 0):=Ab hb rfl;have k2:w4.cell? ⟨w.heap.size,1,none⟩=some (S []):=Ab hb rfl;have k3:w4.cell? ⟨w.heap.size,2,none⟩=some (.slice none 0 0):=Ab hb rfl;have k4:=AB (o:=0) hb;have k5:=AB (o:=1) hb;have k6:=AB (o:=2) hb;have hE6:=hE.trans Gn;go_wp2;have Fw:=PX (.slice (some ⟨w4.heap.size,0,none⟩) 4 4) (S u) (.slice none 0 0) hb;have dO:=((hE.setCell (p:=⟨w.heap.size,0,none⟩) (ArZ _) (.slice (some ⟨w4.heap.size,0,none⟩) 4 4)).setCell (p:=⟨w.heap.size,1,none⟩) (ArZ _) (S u)).setCell (p:=⟨w.heap.size,2,none⟩) (ArZ _) (.slice none 0 0);have XL:(((w4.setCell ⟨w.heap.size,0,none⟩ (.slice (some ⟨w4.heap.size,0,none⟩) 4 4)).setCell ⟨w.heap.size,1,none⟩ (S u)).setCell ⟨w.heap.size,2,none⟩ (.slice none 0 0)).heap.size=w4.heap.size:=(by simp);unfold S at Fw dO XL;generalize (((w4.setCell ⟨w.heap.size,0,none⟩ (.slice (some ⟨w4.heap.size,0,none⟩) 4 4)).setCell ⟨w.heap.size,1,none⟩ (.string ⟨u.toArray⟩)).setCell ⟨w.heap.size,2,none⟩ (.slice none 0 0))=w9 at *;obtain⟨b0,hb0⟩:=ArV w.heap.size;have Aiy:=ArX Fw;rw [←hb0]at Fw Aiy ⊢;have Hx:=(Aa.refl w9).alloc (.cells #[S p,S q,S r,S q,S r,S s,S p,S s] 94);have fM:=(Hx.block _ (ArX Fw)).trans Fw;have e1:=Ab (o:=0) fM rfl;have e2:=Ab (o:=1) fM rfl;have e3:=Ab (o:=2) fM rfl;have hnew:=ArY w9 (.cells #[S p,S q,S r,S q,S r,S s,S p,S s] 94)
 rw [XL]at hnew;have Wq:=dO.alloc (.cells #[S p,S q,S r,S q,S r,S s,S p,S s] 94);generalize w9.alloc (.cells #[S p,S q,S r,S q,S r,S s,S p,S s] 94)=w10 at *;refine bodyPost_ret (v:=.agg #[.slice (some ⟨w4.heap.size,0,none⟩) 4 4,.string ⟨u.toArray⟩,.slice none 0 0]) (by simp [results,Tryz.results124,go_sem,e1,e2,e3]) rfl ?_;exact⟨w4.heap.size,rfl,by rw [hb0];exact Uj,hnew,Wq⟩
def C3(p:Pt):Prop:=∃u,Ol u/\p=gp u
theorem C3.on{p:Pt}(h:C3 p):DX p:=by obtain⟨u,hu,rfl⟩:=h;exact hu.on
theorem C3.sz{p:Pt}(h:C3 p):Aq 1 p:=h.on.sz (by omega)
theorem C3.sz2{p:Pt}(h:C3 p):Aq 1 p:=h.on.sz (by omega)
structure Hf where
 a:Pt
 b:Pt
 l:Int
def Gw(h:Hf):Value:=.agg #[S (R h.a.x),S (R h.a.y),S (R h.b.x),S (R h.b.y),.int .i64 h.l]
def Bd(l:List Hf):List Value:=l.flatMap fun h=>[S (R h.a.x),S (R h.a.y),S (R h.b.x),S (R h.b.y),.int .i64 h.l]
theorem fj(l:List Hf):(Bd l).length=l.length*5:=by
 induction l with
 | nil=>rfl
 | cons h l ih=>simp [Bd]at ih ⊢;omega
theorem Q9:∀(l:List Hf) (j:Nat) (h:j<l.length),(Bd l)[j*5]?=some (S (R l[j].a.x))/\(Bd l)[j*5+1]?=some (S (R l[j].a.y))/\(Bd l)[j*5+2]?=some (S (R l[j].b.x))/\(Bd l)[j*5+3]?=some (S (R l[j].b.y))/\(Bd l)[j*5+4]?=some (.int .i64 l[j].l)
 | e::l,0,_=>⟨rfl,rfl,rfl,rfl,rfl⟩
 | e::l,j+1,h=>by
  have ih:=Q9 l j (by simpa using h);have e0:Bd (e::l)=S (R e.a.x)::S (R e.a.y)::S (R e.b.x)::S (R e.b.y) :: .int .i64 e.l::Bd l:=rfl;rw [e0];have e1:(j+1)*5=j*5+1+1+1+1+1:=(by omega);rw [e1]
  simpa using ih
structure JS(w:World)(b o:Nat)(h:Hf):Prop where
 c0:w.cell? ⟨b,o,none⟩=some (S (R h.a.x))
 c1:w.cell? ⟨b,o+1,none⟩=some (S (R h.a.y))
 c2:w.cell? ⟨b,o+2,none⟩=some (S (R h.b.x))
 c3:w.cell? ⟨b,o+3,none⟩=some (S (R h.b.y))
 c4:w.cell? ⟨b,o+4,none⟩=some (.int .i64 h.l)
theorem JS.ext{w w':World}{b o:Nat}{h:Hf}(k:JS w b o h)(hx:Aa w w'):JS w' b o h:=⟨hx.cellS k.c0,hx.cellS k.c1,hx.cellS k.c2,hx.cellS k.c3,hx.cellS k.c4⟩
theorem Mj{w:World}{A:Option Addr}{l:List Hf}(hr:Ae w A (Bd l)){j:Nat}(h:j<l.length):∃b o,A=some ⟨b,o,none⟩/\JS w b (o+j*5) l[j]:=by
 have hl:=fj l;obtain⟨b,o,e,hcs⟩:=hr.ad (by omega);obtain⟨f1,f2,f3,f4,f5⟩:=Q9 l j h;have g1:=hcs (j*5) (by omega);have g2:=hcs (j*5+1) (by omega);have g3:=hcs (j*5+2) (by omega);have g4:=hcs (j*5+3) (by omega);have g5:=hcs (j*5+4) (by omega);rw [Asf (by omega),Ase]at f1 f2 f3 f4 f5;rw [f1]at g1;rw [f2,←Nat.add_assoc]at g2;rw [f3,←Nat.add_assoc]at g3;rw [f4,←Nat.add_assoc]at g4;rw [f5,←Nat.add_assoc]at g5;exact⟨b,o,e,g1,g2,g3,g4,g5⟩
def J7(h x:Hf):Bool:=An x.a h.b&&An x.b h.a
def Ek(l:List Hf)(h:Hf):Int:=match l.find? (J7 h)with|some x=>x.l|none=>-1
theorem AdY{l:List Hf}{h:Hf}{j:Nat}(hj:j<l.length)(hno:∀q∈l.take j,J7 h q=false)(he:J7 h l[j]=true):Ek l h=l[j].l:=by
 unfold Ek
 have:l.find? (J7 h)=some l[j]:=by rw [List.find?_eq_some_iff_getElem];exact⟨he,j,hj,rfl,fun i hi=>by rw [hno l[i] (by rw [List.mem_take_iff_getElem];exact⟨i,by omega,rfl⟩)];rfl⟩
 rw [this]
theorem Aea{l:List Hf}{h:Hf}(hno:∀q∈l,J7 h q=false):Ek l h = -1:=by
 unfold Ek;rw [List.find?_eq_none.2 (fun q hq=>by rw [hno q hq];simp)]
theorem AdZ(l:List Hf)(h:Hf):Ek l h = -1∨∃x∈l,Ek l h=x.l:=by
 unfold Ek
 cases hf:l.find? (J7 h)with
 | none=>exact .inl rfl
 | some x=>exact .inr ⟨x,List.mem_of_find?_eq_some hf,rfl⟩
theorem VJ(l:List Hf)(h:Hf)(A:Option Addr)(c:Nat)(w:World)(hr:Ae w A (Bd l))(hc:l.length<=c)(hcm:c<=9223372036854775807) :
  Calls Tryz.prog 121 #[.slice A l.length c,Gw h] w (Av (Ek l h) w):=by
 have pe:=Px;have hb0:=ArY w (.cells #[S (R h.a.x),S (R h.a.y),S (R h.b.x),S (R h.b.y),.int .i64 h.l] 176);have hE:=(Aa.refl w).alloc (.cells #[S (R h.a.x),S (R h.a.y),S (R h.b.x),S (R h.b.y),.int .i64 h.l] 176);obtain⟨r,hr0⟩:=ArV (Ek l h);rw [←hr0];have HR:=ArW hr0;unfold Gw;clear hr0;go_enter Tryz.func121,Tryz.ntmps121
 go_upto_region 2 with fail
 generalize w.alloc (.cells #[S (R h.a.x),S (R h.a.y),S (R h.b.x),S (R h.b.y),.int .i64 h.l] 176)=V at *;obtain⟨bp,AK⟩:=ArV w.heap.size;rw [←AK]at hb0 ⊢;clear AK
 go_loopw [5] (fun i wr=>∃j:Nat,i=.int .i64 (j:Nat)/\j<=l.length/\(∀q∈l.take j,J7 h q=false)/\Aa V wr) (fun i _=>l.length-(intOf i).toNat)
 case atStart=>exact⟨0,rfl,by omega,by simp,Aa.refl _⟩
 case round=>
  obtain⟨j,rfl,hj,Ah,Ad⟩:=hrel;have HO:=ArW Ah;clear Ah;have hbr:=(Ad.block _ (ArX hb0)).trans hb0;have k1:∀q:Ac wr,q.w.cell? ⟨bp,0,none⟩=some (S (R h.a.x)):=Ac.cell (Ab (o:=0) hbr rfl);have k2:∀q:Ac wr,q.w.cell? ⟨bp,1,none⟩=some (S (R h.a.y)):=Ac.cell (Ab (o:=1) hbr rfl);have k3:∀q:Ac wr,q.w.cell? ⟨bp,2,none⟩=some (S (R h.b.x)):=Ac.cell (Ab (o:=2) hbr rfl);have k4:∀q:Ac wr,q.w.cell? ⟨bp,3,none⟩=some (S (R h.b.y)):=Ac.cell (Ab (o:=3) hbr rfl);clear hbr;by_cases hlt:j<l.length
  ·obtain⟨b,o,rfl,hf⟩:=Mj (hr.ext (hE.trans Ad)) hlt;obtain⟨x,hx⟩:=ArV (l[j]);rw [←hx]at hf;obtain⟨f0,f1,f2,f3,f4⟩:=hf;have j0:∀q:Ac wr,q.w.cell? ⟨b,o+j*5,none⟩=some (S (R x.a.x)):=Ac.cell f0;have j1:∀q:Ac wr,q.w.cell? ⟨b,o+j*5+1,none⟩=some (S (R x.a.y)):=Ac.cell f1;have j2:∀q:Ac wr,q.w.cell? ⟨b,o+j*5+2,none⟩=some (S (R x.b.x)):=Ac.cell f2;have j3:∀q:Ac wr,q.w.cell? ⟨b,o+j*5+3,none⟩=some (S (R x.b.y)):=Ac.cell f3;have j4:∀q:Ac wr,q.w.cell? ⟨b,o+j*5+4,none⟩=some (.int .i64 x.l):=Ac.cell f4;have hj0:(0:Int)<=(j:Int):=(by omega);have A7:(j:Int)<(l.length:Int):=(by omega);have HQ:=ArW hx;clear hx f0 f1 f2 f3 f4
   cases e0:J7 h x
   ·have HE:=ArW e0
    have rel:∀q∈l.take (j+1),J7 h q=false:=by
     intro y hy;rw [Asd hlt,←HQ.out]at hy
     rcases List.mem_append.1 hy with h|h
     ·exact HO.out y h
     ·simp only [Asn]at h;rw [h];exact HE.out
    have qM:=ArW rel;clear rel;unfold J7 at e0
    cases e1:An x.a h.b
    ·go_upto_region 4 with fail
     refine Bp (by kernel_rfl) (by kernel_rfl) ?_
     repeat (go_big_quiet_step (fail))
     refine wpQuiet_nil ?_;rintro _ ⟨q,rfl⟩;go_wp2;go_roundw
     case rel=>exact⟨j+1,by go_num,hlt,qM.out,Ad.trans q.h⟩
     case measure=>simp [intOf];omega
    ·rw [e1,Bool.true_and]at e0
     go_upto_region 4 with fail
     refine Bp (by kernel_rfl) (by kernel_rfl) ?_
     repeat (go_big_quiet_step (fail))
     refine wpQuiet_nil ?_;rintro _ ⟨q,rfl⟩;go_wp2;go_roundw
     case rel=>exact⟨j+1,by go_num,hlt,qM.out,Ad.trans q.h⟩
     case measure=>simp [intOf];omega
   ·have Ct:r=x.l:=(by rw [HR.out,AdY hlt HO.out (by rw [←HQ.out];exact e0),←HQ.out]);subst Ct;unfold J7 at e0;rw [Bool.and_eq_true]at e0;obtain⟨e1,e2⟩:=e0
    go_upto_region 4 with fail
    refine Bp (by kernel_rfl) (by kernel_rfl) ?_
    repeat (go_big_quiet_step (fail))
    refine wpQuiet_nil ?_;rintro _ ⟨q,rfl⟩;go_wp2;go_ret;exact⟨rfl,(hE.trans Ad).trans q.h⟩
  ·have hle:(l.length:Int)<=(j:Int):=(by omega);have Ct:r = -1:=(by rw [HR.out];exact Aea (by have:=HO.out;rw [Asi (by omega)]at this;exact this));subst Ct;clear k1 k2 k3 k4;go_wp2;go_ret;exact⟨rfl,hE.trans Ad⟩
theorem lD(a b:Pt)(ha:Aq 1 a)(hb:Aq 1 b)(w:World)(hw:Al w):Calls Tryz.prog 197 #[Af a,Af b] w (Av (AX a b) w):=by
 have c1:=FB a.x b.x (a:=1) (b:=1) ⟨ha.x,hb.x,by omega,by omega,by omega⟩;have c2:=FB a.y b.y (a:=1) (b:=1) ⟨ha.y,hb.y,by omega,by omega,by omega⟩;have k1:=ArY w (.cells #[S (R a.x),S (R a.y)] 94);have hE:=((Aa.refl w).alloc (.cells #[S (R a.x),S (R a.y)] 94)).alloc (.cells #[S (R b.x),S (R b.y)] 94);have hb1:=(Below.heap_alloc (w.alloc (.cells #[S (R a.x),S (R a.y)] 94)) (.cells #[S (R b.x),S (R b.y)] 94) w.heap.size (by simp)).trans k1;have hb2:=ArY (w.alloc (.cells #[S (R a.x),S (R a.y)] 94)) (.cells #[S (R b.x),S (R b.y)] 94);rw [Ash]at hb2
 have hl:AX a b=if AH a.x b.x≠0 then AH a.x b.x else AH a.y b.y:=rfl
 rw [hl];obtain⟨u,hu⟩:=ArV (AH a.x b.x);obtain⟨v,hv⟩:=ArV (AH a.y b.y);rw [←hu]at c1 ⊢;rw [←hv]at c2 ⊢;obtain⟨r,hr⟩:=ArV (if u≠0 then u else v);rw [←hr];have HR:=ArW hr;unfold Af;clear hr hu hv hl k1 ha hb;go_enter Tryz.func197,Tryz.ntmps197
 go_upto_region 1 with fail
 generalize (w.alloc (.cells #[S (R a.x),S (R a.y)] 94)).alloc (.cells #[S (R b.x),S (R b.y)] 94)=V at *;obtain⟨bp,AK⟩:=ArV w.heap.size;rw [←AK]at hb1 hb2 ⊢;clear AK;have q1:=Ab (o:=0) hb1 rfl;have q2:=Ab (o:=0) hb2 rfl;have q3:=Ab (o:=1) hb1 rfl;have q4:=Ab (o:=1) hb2 rfl;(go_wp2_with fail);(with_reducible refine(c1 _ (hw.ext hE)).mono ?_);rintro e w1 ⟨rfl,hx1⟩;have hw1:=hw.ext (hE.trans hx1);replace q3:=hx1.cellS q3;replace q4:=hx1.cellS q4;by_cases h0:u=0
 ·subst h0;obtain rfl:r=v:=(by rw [HR.out,if_neg (by omega)]);(go_wp2_with fail);(with_reducible refine(c2 _ hw1).mono ?_);rintro e w2 ⟨rfl,hx2⟩;go_wp2;go_ret;exact⟨rfl,(hE.trans hx1).trans hx2⟩
 ·obtain rfl:r=u:=(by rw [HR.out,if_pos h0]);go_wp2;go_ret;exact⟨rfl,hE.trans hx1⟩
theorem Aaa(p q:Pt):An p q=An q p:=by
 cases h:An q p
 ·rw [Bool.eq_false_iff]at h ⊢;exact fun k=>h (BY.2 (BY.1 k).symm)
 ·exact BY.2 (BY.1 h).symm
def Yb(a b:Hf):Bool:=decide (AX a.a b.a<0)||(decide (AX a.a b.a=0)&&decide (AX a.b b.b<0))
theorem Akq(a b:Hf)(h1:Aq 1 a.a)(h2:Aq 1 a.b)(h3:Aq 1 b.a)(h4:Aq 1 b.b)(w:World)(hw:Al w):Calls Tryz.prog 195 #[Gw a,Gw b] w (Bw (Yb a b) w):=by
 have c1:=lD a.a b.a h1 h3;have c2:=lD a.b b.b h2 h4;have k1:=ArY w (.cells #[S (R a.a.x),S (R a.a.y),S (R a.b.x),S (R a.b.y),.int .i64 a.l] 176);have hE:=((Aa.refl w).alloc (.cells #[S (R a.a.x),S (R a.a.y),S (R a.b.x),S (R a.b.y),.int .i64 a.l] 176)).alloc (.cells #[S (R b.a.x),S (R b.a.y),S (R b.b.x),S (R b.b.y),.int .i64 b.l] 176);have hb1:=(Below.heap_alloc (w.alloc (.cells #[S (R a.a.x),S (R a.a.y),S (R a.b.x),S (R a.b.y),.int .i64 a.l] 176)) (.cells #[S (R b.a.x),S (R b.a.y),S (R b.b.x),S (R b.b.y),.int .i64 b.l] 176) w.heap.size (by simp)).trans k1;have hb2:=ArY (w.alloc (.cells #[S (R a.a.x),S (R a.a.y),S (R a.b.x),S (R a.b.y),.int .i64 a.l] 176)) (.cells #[S (R b.a.x),S (R b.a.y),S (R b.b.x),S (R b.b.y),.int .i64 b.l] 176);rw [Ash]at hb2;obtain⟨r,hr⟩:=ArV (Yb a b);rw [←hr];unfold Yb at hr;obtain⟨u,hu⟩:=ArV (AX a.a b.a);obtain⟨v,hv⟩:=ArV (AX a.b b.b);rw [←hu]at c1 hr;rw [←hv]at c2 hr;unfold Gw;unfold Af at c1 c2;clear hu hv k1 h1 h2 h3 h4;go_enter Tryz.func195,Tryz.ntmps195
 go_upto_region 1 with fail
 generalize (w.alloc (.cells #[S (R a.a.x),S (R a.a.y),S (R a.b.x),S (R a.b.y),.int .i64 a.l] 176)).alloc (.cells #[S (R b.a.x),S (R b.a.y),S (R b.b.x),S (R b.b.y),.int .i64 b.l] 176)=V at *;obtain⟨bp,AK⟩:=ArV w.heap.size;rw [←AK]at hb1 hb2 ⊢;clear AK;have q1:=Ab (o:=0) hb1 rfl;have q2:=Ab (o:=1) hb1 rfl;have q3:=Ab (o:=2) hb1 rfl;have q4:=Ab (o:=3) hb1 rfl;have p1:=Ab (o:=0) hb2 rfl;have p2:=Ab (o:=1) hb2 rfl;have p3:=Ab (o:=2) hb2 rfl;have p4:=Ab (o:=3) hb2 rfl;(go_wp2_with fail);(with_reducible refine(c1 _ (hw.ext hE)).mono ?_);rintro e w1 ⟨rfl,hx1⟩;have hx:=hE.trans hx1;have hw1:=hw.ext hx;replace q3:=hx1.cellS q3;replace q4:=hx1.cellS q4;replace p3:=hx1.cellS p3;replace p4:=hx1.cellS p4;clear q1 q2 p1 p2 hb1 hb2 hE hx1 c1;by_cases g1:u<0
 ·rw [decide_eq_true g1,Bool.true_or]at hr;subst hr;go_wp2;go_ret;exact⟨rfl,hx⟩
 ·have d1:decide (u<0)=false:=decide_eq_false g1;rw [d1,Bool.false_or]at hr;by_cases g2:u=0
  ·subst g2;rw [decide_eq_true rfl,Bool.true_and]at hr;have HR:=ArW hr;clear hr d1 g1;(go_wp2_with fail);(with_reducible refine(c2 _ hw1).mono ?_);rintro e w2 ⟨rfl,hx2⟩;go_wp2;go_ret;exact⟨by rw [HR.out];rfl,hx.trans hx2⟩
  ·have d2:decide (u=0)=false:=decide_eq_false g2;rw [d2,Bool.false_and]at hr;subst hr;go_wp2;go_ret;exact⟨rfl,hx⟩
theorem tq(l:List Pt)(p:Pt)(A:Option Addr)(c:Nat)(v1 v2:Value)(w:World)(hr:Ae w A (flat (Ak l)))(hc:l.length<=c)(hcm:c<=9223372036854775807) :
  Calls Tryz.prog 198 #[.agg #[.slice A l.length c,v1,v2],Af p] w (Av (Fh l p) w):=by
 have pe:=Px;have k1:=ArY w (.cells #[.slice A l.length c,v1,v2] 36);have hE:=((Aa.refl w).alloc (.cells #[.slice A l.length c,v1,v2] 36)).alloc (.cells #[S (R p.x),S (R p.y)] 94);have hb1:=(Below.heap_alloc (w.alloc (.cells #[.slice A l.length c,v1,v2] 36)) (.cells #[S (R p.x),S (R p.y)] 94) w.heap.size (by simp)).trans k1;have hb2:=ArY (w.alloc (.cells #[.slice A l.length c,v1,v2] 36)) (.cells #[S (R p.x),S (R p.y)] 94);rw [Ash]at hb2;obtain⟨r,hr0⟩:=ArV (Fh l p);rw [←hr0];have HR:=ArW hr0;unfold Af;clear hr0 k1;go_enter Tryz.func198,Tryz.ntmps198
 go_upto_region 2 with fail
 generalize (w.alloc (.cells #[.slice A l.length c,v1,v2] 36)).alloc (.cells #[S (R p.x),S (R p.y)] 94)=V at *;obtain⟨bp,AK⟩:=ArV w.heap.size;rw [←AK]at hb1 hb2 ⊢;clear AK
 go_loopw [5] (fun i wr=>∃j:Nat,i=.int .i64 (j:Nat)/\j<=l.length/\(∀q∈l.take j,An p q=false)/\Aa V wr) (fun i _=>l.length-(intOf i).toNat)
 case atStart=>exact⟨0,rfl,by omega,by simp,Aa.refl _⟩
 case round=>
  obtain⟨j,rfl,hj,Ah,Ad⟩:=hrel;have HO:=ArW Ah;clear Ah;have hbr:=(Ad.block _ (ArX hb1)).trans hb1;have fY:=(Ad.block _ (ArX hb2)).trans hb2;have m0:=Ab (o:=0) hbr rfl;have n0:∀q:Ac wr,q.w.cell? ⟨bp,0,none⟩=some (.slice A l.length c):=Ac.cell m0;have n1:∀q:Ac wr,q.w.cell? ⟨bp+1,0,none⟩=some (S (R p.x)):=Ac.cell (Ab (o:=0) fY rfl);have n2:∀q:Ac wr,q.w.cell? ⟨bp+1,1,none⟩=some (S (R p.y)):=Ac.cell (Ab (o:=1) fY rfl);clear hbr fY;by_cases hlt:j<l.length
  ·obtain⟨b,o,hA,hg1,hg2⟩:=Ca (hr.ext (hE.trans Ad)) hlt;obtain⟨q,hq⟩:=ArV (l[j]);rw [←hq]at hg1 hg2;have j1:∀z:Ac wr,z.w.cell? ⟨b,o+j*2,none⟩=some (S (R q.x)):=Ac.cell hg1;have j2:∀z:Ac wr,z.w.cell? ⟨b,o+j*2+1,none⟩=some (S (R q.y)):=Ac.cell hg2;have hj0:(0:Int)<=(j:Int):=(by omega);have A7:(j:Int)<(l.length:Int):=(by omega);have HQ:=ArW hq;subst hA;clear hq hg1 hg2
   cases e0:An p q
   ·have HE:=ArW e0;have e1:An q p=false:=(by rw [←e0];exact Aaa q p);clear e0
    go_upto_region 4 with fail
    refine Bp (by kernel_rfl) (by kernel_rfl) ?_
    repeat (go_big_quiet_step (fail))
    refine wpQuiet_nil ?_;rintro _ ⟨z,rfl⟩;go_wp2;go_roundw
    case rel=>
     refine⟨j+1,by go_num,hlt,?_,Ad.trans z.h⟩;intro x hx;rw [Asd hlt,←HQ.out]at hx
     rcases List.mem_append.1 hx with h|h
     ·exact HO.out x h
     ·simp only [Asn]at h;rw [h];exact HE.out
    case measure=>simp [intOf];omega
   ·have Ct:r=(j:Int):=(by rw [HR.out];exact qs hlt HO.out (by rw [←HQ.out];exact e0));have e1:An q p=true:=(by rw [←e0];exact Aaa q p);clear e0;subst Ct
    go_upto_region 4 with fail
    refine Bp (by kernel_rfl) (by kernel_rfl) ?_
    repeat (go_big_quiet_step (fail))
    refine wpQuiet_nil ?_;rintro _ ⟨z,rfl⟩;go_wp2;go_ret;exact⟨rfl,(hE.trans Ad).trans z.h⟩
  ·have hle:(l.length:Int)<=(j:Int):=(by omega);have Ct:r = -1:=(by rw [HR.out];exact qu (by have:=HO.out;rw [Asi (by omega)]at this;exact this));subst Ct;clear n0 n1 n2;go_wp2;go_ret;exact⟨rfl,hE.trans Ad⟩
def qW(l:List Hf):Prop:=∀h∈l,C3 h.a/\C3 h.b
def I2(l:List Hf)(p:Pt):Nat:=l.countP (fun h=>An h.a p)
theorem Alj(l:List Hf)(hl:qW l)(hlen:l.length<=100000)(i:Nat)(hi:i<l.length)(A:Option Addr)(c:Nat)(w:World)(hw:Al w)(hr:Ae w A (Bd l))(hc:l.length<=c)(hcm:c<=9223372036854775807) :
  Calls Tryz.prog 193 #[.slice A l.length c,.int .i64 (i:Nat)] w fun e w'=>∃k:Int,e=.returned (.int .i64 k)/\Aa w w'/\(k<0∨∃kk,∃h:kk<l.length,k=(kk:Int)/\I2 l l[i].b=2/\An l[i].a l[kk].b=false):=by
 have pe:=Px;have pn:=RA;obtain⟨h0,TQ⟩:=ArV (l[i]);have hs0:=hl _ (Asa hi);rw [←TQ]at hs0;have HH0:=ArW TQ;have HL:=ArW hl;rw [←TQ];have GR:(0:Int)<=(i:Int):=(by omega);have Jw:(i:Int)<(l.length:Int):=by omega
 have hat:∀wr,Aa w wr→∃b o,A=some ⟨b,o,none⟩/\JS wr b (o+i*5) h0:=fun wr hx=>by obtain⟨b,o,e,h⟩:=Mj (hr.ext hx) hi;exact⟨b,o,e,by rw [TQ];exact h⟩
 clear hl TQ;obtain⟨bA,oA,rfl,-⟩:=hat w (Aa.refl w)
 have hat':∀wr,Aa w wr→JS wr bA (oA+i*5) h0:=fun wr hx=>by obtain⟨b,o,e,h⟩:=hat wr hx;simp only [Ase,Addr.mk.injEq,and_true]at e;obtain⟨rfl,rfl⟩:=e;exact h
 clear hat;go_enter Tryz.func193,Tryz.ntmps193
 go_upto_region 3 with fail
 go_loopw [5,6,7] (fun cv nv iv wr=>∃(j:Nat) (nx:Int),iv=.int .i64 (j:Nat)/\cv=.int .i64 ((I2 (l.take j) h0.b:Nat):Int)/\nv=.int .i64 nx/\j<=l.length/\Aa w wr/\(nx = -1∨∃kk:Nat,kk<l.length/\nx=(kk:Int))) (fun _ _ iv _=>l.length-(intOf iv).toNat)
 case atStart=>exact⟨0,-1,rfl,rfl,rfl,by omega,Aa.refl _,.inl rfl⟩
 case round=>
  obtain⟨j,nx,rfl,rfl,rfl,hj,Ad,GW⟩:=hrel;have HN:=ArW GW;have O2:=hat' wr Ad;obtain⟨a0,a1,a2,a3,a4⟩:=O2;have b0:∀q:Ac wr,q.w.cell? ⟨bA,oA+i*5,none⟩=some (S (R h0.a.x)):=Ac.cell a0;have b1:∀q:Ac wr,q.w.cell? ⟨bA,oA+i*5+1,none⟩=some (S (R h0.a.y)):=Ac.cell a1;have b2:∀q:Ac wr,q.w.cell? ⟨bA,oA+i*5+2,none⟩=some (S (R h0.b.x)):=Ac.cell a2;have b3:∀q:Ac wr,q.w.cell? ⟨bA,oA+i*5+3,none⟩=some (S (R h0.b.y)):=Ac.cell a3;have b4:∀q:Ac wr,q.w.cell? ⟨bA,oA+i*5+4,none⟩=some (.int .i64 h0.l):=Ac.cell a4;clear GW;by_cases hlt:j<l.length
  ·obtain⟨VH,Yu,e,f0,f1,f2,f3,f4⟩:=Mj (hr.ext Ad) hlt;simp only [Ase,Addr.mk.injEq,and_true]at e;obtain⟨rfl,rfl⟩:=e;obtain⟨x,hx⟩:=ArV (l[j]);rw [←hx]at f0 f1 f2 f3 f4;have j0:∀q:Ac wr,q.w.cell? ⟨bA,oA+j*5,none⟩=some (S (R x.a.x)):=Ac.cell f0;have j1:∀q:Ac wr,q.w.cell? ⟨bA,oA+j*5+1,none⟩=some (S (R x.a.y)):=Ac.cell f1;have j2:∀q:Ac wr,q.w.cell? ⟨bA,oA+j*5+2,none⟩=some (S (R x.b.x)):=Ac.cell f2;have j3:∀q:Ac wr,q.w.cell? ⟨bA,oA+j*5+3,none⟩=some (S (R x.b.y)):=Ac.cell f3;have hj0:(0:Int)<=(j:Int):=(by omega);have A7:(j:Int)<(l.length:Int):=by omega
   have Bl:I2 (l.take (j+1)) h0.b=I2 (l.take j) h0.b+if An x.a h0.b=true then 1 else 0:=by unfold I2;rw [Asd hlt,List.countP_append,←hx,List.countP_singleton]
   have AhO:I2 (l.take j) h0.b<=l.length:=Asl List.countP_le_length (by rw [List.length_take];omega);have hcw:IntKind.wrap .i64 (((I2 (l.take j) h0.b:Nat):Int)+1)=((I2 (l.take j) h0.b:Nat):Int)+1:=Asg _ (by omega);clear f0 f1 f2 f3 f4 a0 a1 a2 a3 a4;obtain⟨cn,fo⟩:=ArV (I2 (l.take j) h0.b);rw [←fo]at Bl hcw ⊢;have HC:=ArW Bl;clear Bl fo hx AhO
   cases e0:An x.a h0.b
   ·go_upto_region 5 with fail
    refine Bp (by kernel_rfl) (by kernel_rfl) ?_
    repeat (go_big_quiet_step (fail))
    refine wpQuiet_nil ?_;rintro _ ⟨q,rfl⟩;go_wp2;go_roundw
    case rel=>exact⟨j+1,nx,by go_num,by rw [HC.out,e0];rfl,rfl,hlt,Ad.trans q.h,HN.out⟩
    case measure=>simp [intOf];omega
   ·cases e1:An x.b h0.a
    ·go_upto_region 5 with fail
     refine Bp (by kernel_rfl) (by kernel_rfl) ?_
     repeat (go_big_quiet_step (fail))
     refine wpQuiet_nil ?_;rintro _ ⟨q,rfl⟩
     go_upto_region 7 with fail
     obtain⟨W1,hx1⟩:=q;have i0:∀q:Ac W1,q.w.cell? ⟨bA,oA+i*5,none⟩=some (S (R h0.a.x)):=fun q=>b0 ⟨q.w,hx1.trans q.h⟩;have i1:∀q:Ac W1,q.w.cell? ⟨bA,oA+i*5+1,none⟩=some (S (R h0.a.y)):=fun q=>b1 ⟨q.w,hx1.trans q.h⟩;have i2:∀q:Ac W1,q.w.cell? ⟨bA,oA+j*5+2,none⟩=some (S (R x.b.x)):=fun q=>j2 ⟨q.w,hx1.trans q.h⟩;have i3:∀q:Ac W1,q.w.cell? ⟨bA,oA+j*5+3,none⟩=some (S (R x.b.y)):=fun q=>j3 ⟨q.w,hx1.trans q.h⟩;clear b0 b1 b2 b3 b4 j0 j1 j2 j3;refine Bp (by kernel_rfl) (by kernel_rfl) ?_
     repeat (go_big_quiet_step (fail))
     refine wpQuiet_nil ?_;rintro _ ⟨q,rfl⟩;go_wp2;go_roundw
     case rel=>exact⟨j+1,(j:Int),by go_num,by rw [HC.out,e0];go_num,rfl,hlt,Ad.trans (hx1.trans q.h),.inr ⟨j,hlt,rfl⟩⟩
     case measure=>simp [intOf];omega
    ·go_upto_region 5 with fail
     refine Bp (by kernel_rfl) (by kernel_rfl) ?_
     repeat (go_big_quiet_step (fail))
     refine wpQuiet_nil ?_;rintro _ ⟨q,rfl⟩
     go_upto_region 7 with fail
     obtain⟨W1,hx1⟩:=q;have i0:∀q:Ac W1,q.w.cell? ⟨bA,oA+i*5,none⟩=some (S (R h0.a.x)):=fun q=>b0 ⟨q.w,hx1.trans q.h⟩;have i1:∀q:Ac W1,q.w.cell? ⟨bA,oA+i*5+1,none⟩=some (S (R h0.a.y)):=fun q=>b1 ⟨q.w,hx1.trans q.h⟩;have i2:∀q:Ac W1,q.w.cell? ⟨bA,oA+j*5+2,none⟩=some (S (R x.b.x)):=fun q=>j2 ⟨q.w,hx1.trans q.h⟩;have i3:∀q:Ac W1,q.w.cell? ⟨bA,oA+j*5+3,none⟩=some (S (R x.b.y)):=fun q=>j3 ⟨q.w,hx1.trans q.h⟩;clear b0 b1 b2 b3 b4 j0 j1 j2 j3;refine Bp (by kernel_rfl) (by kernel_rfl) ?_
     repeat (go_big_quiet_step (fail))
     refine wpQuiet_nil ?_;rintro _ ⟨q,rfl⟩;go_wp2;go_roundw
     case rel=>exact⟨j+1,nx,by go_num,by rw [HC.out,e0];go_num,rfl,hlt,Ad.trans (hx1.trans q.h),HN.out⟩
     case measure=>simp [intOf];omega
  ·have Dl:j=l.length:=(by omega);subst Dl;have hnl:(l.length:Int)<=(l.length:Int):=(by omega);obtain⟨cn,Bl⟩:=ArV (I2 (l.take l.length) h0.b);rw [←Bl];have HCN:=ArW (show cn=I2 l h0.b by rw [Bl,List.take_length]);clear Bl;by_cases h2:cn=2
   ·subst h2
    rcases HN.out with rfl|⟨kk,Bf,rfl⟩
    ·go_upto_region 9 with fail
     refine Bp (by kernel_rfl) (by kernel_rfl) ?_
     repeat (go_big_quiet_step (fail))
     refine wpQuiet_nil ?_;rintro _ ⟨q,rfl⟩;go_wp2;go_ret;exact⟨-1,rfl,Ad.trans q.h,.inl (by omega)⟩
    ·obtain⟨VH,Yu,e,f0,f1,f2,f3,f4⟩:=Mj (hr.ext Ad) Bf;simp only [Ase,Addr.mk.injEq,and_true]at e;obtain⟨rfl,rfl⟩:=e;have Ig:=HL.out _ (Asa Bf);obtain⟨y,hy⟩:=ArV (l[kk]);rw [←hy]at f0 f1 f2 f3 f4 Ig;have HY:=ArW hy;have j2:∀q:Ac wr,q.w.cell? ⟨bA,oA+kk*5+2,none⟩=some (S (R y.b.x)):=Ac.cell f2;have j3:∀q:Ac wr,q.w.cell? ⟨bA,oA+kk*5+3,none⟩=some (S (R y.b.y)):=Ac.cell f3;have j4:∀q:Ac wr,q.w.cell? ⟨bA,oA+kk*5+4,none⟩=some (.int .i64 y.l):=Ac.cell f4;have hk0:(0:Int)<=(kk:Int):=(by omega);have BX:(kk:Int)<(l.length:Int):=(by omega);have iQ:decide ((kk:Int)<0)=false:=decide_eq_false (by omega);clear hy f0 f1 f2 f3 f4 a0 a1 a2 a3 a4;by_cases XR:y.l=h0.l
     ·have hyn:(y.l != h0.l)=false:=by rw [XR];simp
      go_upto_region 9 with fail
      refine Bp (by kernel_rfl) (by kernel_rfl) ?_
      repeat (go_big_quiet_step (fail))
      refine wpQuiet_nil ?_;rintro W1 ⟨q,hq⟩;have hx1:Aa wr W1:=hq▸q.h;clear hq q;have i0:∀q:Ac W1,q.w.cell? ⟨bA,oA+i*5,none⟩=some (S (R h0.a.x)):=fun q=>b0 ⟨q.w,hx1.trans q.h⟩;have i1:∀q:Ac W1,q.w.cell? ⟨bA,oA+i*5+1,none⟩=some (S (R h0.a.y)):=fun q=>b1 ⟨q.w,hx1.trans q.h⟩;have i2:∀q:Ac W1,q.w.cell? ⟨bA,oA+i*5+2,none⟩=some (S (R h0.b.x)):=fun q=>b2 ⟨q.w,hx1.trans q.h⟩;have i3:∀q:Ac W1,q.w.cell? ⟨bA,oA+i*5+3,none⟩=some (S (R h0.b.y)):=fun q=>b3 ⟨q.w,hx1.trans q.h⟩;have k2:∀q:Ac W1,q.w.cell? ⟨bA,oA+kk*5+2,none⟩=some (S (R y.b.x)):=fun q=>j2 ⟨q.w,hx1.trans q.h⟩;have k3:∀q:Ac W1,q.w.cell? ⟨bA,oA+kk*5+3,none⟩=some (S (R y.b.y)):=fun q=>j3 ⟨q.w,hx1.trans q.h⟩;have hw1:=hw.ext (Ad.trans hx1);have tc:=fun (q:Ac W1)=>Apo h0.a h0.b y.b hs0.1.sz2 hs0.2.sz2 Ig.2.sz2 q.w (hw1.ext q.h);obtain⟨sg,Er⟩:=ArV (AI (Ai h0.a h0.b y.b));rw [←Er]at tc;unfold Af Aaq at tc;clear b0 b1 b2 b3 b4 j2 j3 j4 Er
      go_upto_region 11 with fail
      refine Bp (by kernel_rfl) (by kernel_rfl) ?_
      repeat (go_big_quiet_step (with_reducible refine Agm (tc _)))
      refine wpQuiet_nil ?_;rintro W2 ⟨q,hq⟩;have hx2:Aa W1 W2:=hq▸q.h;clear hq q;have n0:∀q:Ac W2,q.w.cell? ⟨bA,oA+i*5,none⟩=some (S (R h0.a.x)):=fun q=>i0 ⟨q.w,hx2.trans q.h⟩;have n1:∀q:Ac W2,q.w.cell? ⟨bA,oA+i*5+1,none⟩=some (S (R h0.a.y)):=fun q=>i1 ⟨q.w,hx2.trans q.h⟩;have n2:∀q:Ac W2,q.w.cell? ⟨bA,oA+kk*5+2,none⟩=some (S (R y.b.x)):=fun q=>k2 ⟨q.w,hx2.trans q.h⟩;have n3:∀q:Ac W2,q.w.cell? ⟨bA,oA+kk*5+3,none⟩=some (S (R y.b.y)):=fun q=>k3 ⟨q.w,hx2.trans q.h⟩;clear i0 i1 i2 i3 k2 k3 tc;have BN:=Ad.trans (hx1.trans hx2);by_cases hs:sg=0
      ·subst hs
       cases e1:An h0.a y.b
       ·have Zs:=ArW e1
        go_upto_region 12 with fail
        refine Bp (by kernel_rfl) (by kernel_rfl) ?_
        repeat (go_big_quiet_step (fail))
        refine wpQuiet_nil ?_;rintro _ ⟨q,rfl⟩;go_wp2;go_ret;exact⟨(kk:Int),rfl,BN.trans q.h,.inr ⟨kk,Bf,rfl,HCN.out.symm,by rw [←HY.out];exact Zs.out⟩⟩
       ·go_upto_region 12 with fail
        refine Bp (by kernel_rfl) (by kernel_rfl) ?_
        repeat (go_big_quiet_step (fail))
        refine wpQuiet_nil ?_;rintro _ ⟨q,rfl⟩;go_wp2;go_ret;exact⟨-1,rfl,BN.trans q.h,.inl (by omega)⟩
      ·have Cf:(sg != 0)=true:=by rw [bne,beq_false_of_ne hs];rfl
       go_upto_region 12 with fail
       refine Bp (by kernel_rfl) (by kernel_rfl) ?_
       repeat (go_big_quiet_step (fail))
       refine wpQuiet_nil ?_;rintro _ ⟨q,rfl⟩;go_wp2;go_ret;exact⟨-1,rfl,BN.trans q.h,.inl (by omega)⟩
     ·have hyn:(y.l != h0.l)=true:=by rw [bne,beq_false_of_ne XR];rfl
      go_upto_region 9 with fail
      refine Bp (by kernel_rfl) (by kernel_rfl) ?_
      repeat (go_big_quiet_step (fail))
      refine wpQuiet_nil ?_;rintro _ ⟨q,rfl⟩;go_wp2;go_ret;exact⟨-1,rfl,Ad.trans q.h,.inl (by omega)⟩
   ·have xO:¬((cn:Int)=2):=(by omega);have h2n:((cn:Int) != 2)=true:=(by rw [bne,beq_false_of_ne xO];rfl);clear a0 a1 a2 a3 a4
    go_upto_region 9 with fail
    refine Bp (by kernel_rfl) (by kernel_rfl) ?_
    repeat (go_big_quiet_step (fail))
    refine wpQuiet_nil ?_;rintro _ ⟨q,rfl⟩;go_wp2;go_ret;exact⟨-1,rfl,Ad.trans q.h,.inl (by omega)⟩
end Go.Proofs.YtbejphgbbpplbaaGreatDoor
