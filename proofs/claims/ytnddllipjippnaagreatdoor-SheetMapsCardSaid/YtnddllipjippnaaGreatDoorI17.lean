/- I17: ShH5 ShH6 ShQ1 ShQ2 ShQ3 ShQ4 ShQ5 ShQ6 ShQ7. -/
import Derived.Test.YtnddllipjippnaaGreatDoorI16
set_option maxRecDepth 100000
set_option maxHeartbeats 4000000
namespace Go.Proofs.YtnddllipjippnaaGreatDoor
section
open Go.RowKit Kl
theorem Ad.of_own'{w:World}{base:Nat}{e:TypeId}{size:Nat}(_:0<size){v:Value}{n:Nat}{xs:List Value}(h:w.ownsRow base e size v n xs) :
  ∃A c,v=.slice A n c/\Ad w A xs/\n<=c/\c<=9223372036854775807:=by
 obtain⟨hl,h⟩:=h
 rcases h with⟨rfl,rfl⟩|⟨g,cap,cur,rfl,hb,hg,hn,hm,hs,ht⟩
 ·exact⟨none,0,rfl,⟨fun h1=>by omega⟩,by omega,by omega⟩
 ·refine⟨some ⟨g,0,none⟩,cap,rfl,⟨fun _=>⟨g,0,rfl,fun j hj=>?_⟩⟩,hn,by unfold maxLen at hm;omega⟩;have hh:w.ownsRow base e size (.slice (some ⟨g,0,none⟩) n cap) n xs:=⟨hl,.inr ⟨g,cap,cur,rfl,hb,hg,hn,hm,hs,ht⟩⟩;rw [Nat.zero_add,hh.cellAt j (by omega),As5 hj]
theorem VY{o:Oper}{a:Act}{K:Act→World→Prop}{Q:Exit→Act→World→Prop}(s x:Operand)(t:TypeId)(ho:o.op=.call {callee:=.builtin .append,args:=#[s,x],argTypes:=#[t,t]})
  (e:TypeId) (i:TypeInfo) (z:Value) (size bytes:Nat) (ht:Tryz.prog.underlying t=some (.slice e)) (hi:Tryz.prog.info? e=some i) (hz:i.zero=some z)
  (hsize:i.size=size) (hby:i.bytes=bytes) (hzs:z.cells.size=size) (hsz:0<size) (iW:bytes<=64)
  (wN:World) (base:Nat) (v:Value) (n:Nat) (xs:List Value) (hs:a.eval s=v) (hown:wN.ownsRow base e size v n xs) (hn:n<200000)
  (g:Nat) (cs:Array Value) (hb:wN.heap[g]?=some (.cells cs e)) (hcs:cs.size=size) (h1:∀u∈cs.toList,u.oneCell'=true)
  (hx:a.eval x=.slice (some ⟨g,0,none⟩) 1 1) (hbase:base<=wN.heap.size)
  (h:∀v' w',w'.ownsRow base e size v' (n+1) (xs++cs.toList)→(∀w0,Ab w0 wN→w0.heap.size<=base→Ab w0 w')→wN.grownBy w' v.ownBlock→K (a.put o.dst v') w') :
  o.wp Tryz.prog a wN K Q:=by
 have U0:(n+1)*bytes<=140737488355328:=AsA (Nat.mul_le_mul (show n+1<=200000 by omega) iW) (by omega);have FT:n+1<=maxLen:=(by unfold maxLen;omega);refine wp_append_own _ s x t ho base e i z size bytes ht hi hz hsize hby hzs hsz v n xs hs hown ⟨g,0,none⟩ 1 1 cs.toList hx ?_ ?_ h1 FT U0 hbase ?_
 ·simp [hcs]
 ·intro j u hu;rw [Addr.add_lit,Nat.zero_add];refine Aa hb ?_;rw [←Array.getElem?_toList];exact hu
 ·intro v' w' h2 h3 _;refine h v' w' h2 (fun w0 he AZ=>?_) h3
  exact he.grown h3 fun k hk=>by
   rcases hown.2 with⟨rfl,_⟩|⟨g,cap,cur,rfl,hb',_⟩
   ·cases hk
   ·simp only [Value.ownBlock,As4]at hk;omega
def Cw(l:List Sg):List Value:=l.flatMap fun s=>[S (R s.a.x),S (R s.a.y),S (R s.b.x),S (R s.b.y)]
theorem AbG(l:List Sg)(d:Sg):Cw (l ++ [d])=Cw l ++ [S (R d.a.x),S (R d.a.y),S (R d.b.x),S (R d.b.y)]:=by unfold Cw;simp
theorem pN(l:List Pt)(d:Pt):flat (Ag (l ++ [d]))=flat (Ag l) ++ [S (R d.x),S (R d.y)]:=by unfold Ag flat;simp [Lo]
theorem Tryz.infoPt:(Tryz.prog.info? 24).map (fun i=>(i.zero,i.size,i.bytes))=some (some (.agg #[S [],S []]),2,32):=by kernel_rfl
section
variable {ops : Array Oper} {rest : List Oper} {o : Oper} {a : Act} {K : Act → World → Prop} {Q : Exit → Act → World → Prop} {E : Prop}
theorem rC(s x:Operand)(ho:o.op=.call {callee:=.builtin .append,args:=#[s,x],argTypes:=#[31,31]})
  (wN:World) (base:Nat) (v:Value) (n:Nat) (l:List Pt) (hs:a.eval s=v) (hown:wN.ownsRow base 24 2 v n (flat (Ag l))) (hn:n<200000) (d:Pt)
  (g:Nat) (hb:wN.heap[g]?=some (.cells #[S (R d.x),S (R d.y)] 24)) (hx:a.eval x=.slice (some ⟨g,0,none⟩) 1 1) (hbase:base<=wN.heap.size)
  (h:∀v' w',w'.ownsRow base 24 2 v' (n+1) (flat (Ag (l ++ [d])))→(∀w0,Ab w0 wN→w0.heap.size<=base→Ab w0 w')→wN.grownBy w' v.ownBlock→K (a.put o.dst v') w') :
  o.wp Tryz.prog a wN K Q:=by
 obtain⟨i0,hi,hz0,hz1,hz2⟩:=info_parts Tryz.infoPt;refine VY s x 31 ho 24 i0 _ 2 32 Tryz.underlying31 hi hz0 hz1 hz2 rfl (by omega) (by omega) wN base v n _ hs hown hn g _ hb rfl ?_ hx hbase ?_
 ·intro u hu;simp only [List.mem_cons,AsB,or_false]at hu
  rcases hu with rfl|rfl<;>rfl
 ·intro v' w' h1 h2 h3;exact h v' w' (by rw [pN];exact h1) h2 h3
theorem Afj(hgd:o.guard=none)(s x:Operand)(ho:o.op=.call {callee:=.builtin .append,args:=#[s,x],argTypes:=#[31,31]})
  (wN:World) (base:Nat) (v:Value) (n:Nat) (l:List Pt) (hs:a.eval s=v) (hown:wN.ownsRow base 24 2 v n (flat (Ag l))) (hn:n<200000) (d:Pt)
  (g:Nat) (hb:wN.heap[g]?=some (.cells #[S (R d.x),S (R d.y)] 24)) (hx:a.eval x=.slice (some ⟨g,0,none⟩) 1 1) (hbase:base<=wN.heap.size)
  (h:∀v' w',w'.ownsRow base 24 2 v' (n+1) (flat (Ag (l ++ [d])))→(∀w0,Ab w0 wN→w0.heap.size<=base→Ab w0 w')→wpList Tryz.prog ops Q rest (a.put o.dst v') w') :
  wpList Tryz.prog ops Q (o::rest) a wN:=
 wpList_plain hgd fun _ hK=>rC s x ho wN base v n l hs hown hn d g hb hx hbase fun v' w' h1 h2 _=>hK _ _ (h v' w' h1 h2)
theorem Ape(hgd:o.guard=none)(s x:Operand)(ho:o.op=.call {callee:=.builtin .append,args:=#[s,x],argTypes:=#[31,31]})
  (wN:World) (base:Nat) (v:Value) (n:Nat) (l:List Pt) (hs:a.eval s=v) (hown:wN.ownsRow base 24 2 v n (flat (Ag l))) (hn:n<200000) (d:Pt)
  (g:Nat) (hb:wN.heap[g]?=some (.cells #[S (R d.x),S (R d.y)] 24)) (hx:a.eval x=.slice (some ⟨g,0,none⟩) 1 1) (hbase:base<=wN.heap.size)
  (h:∀v' w',w'.ownsRow base 24 2 v' (n+1) (flat (Ag (l ++ [d])))→(∀w0,Ab w0 wN→w0.heap.size<=base→Ab w0 w')→wN.grownBy w' v.ownBlock→K (a.put o.dst v') w') :
  if Region.wanted o (yielded ops a.tmps)=true then Oper.wp Tryz.prog o a wN K Q else E:=by
 have hw:Region.wanted o (yielded ops a.tmps)=true:=(by simp [Region.wanted,hgd]);rw [if_pos hw];exact rC s x ho wN base v n l hs hown hn d g hb hx hbase h
end
end
section
open Go.RowKit Kl
theorem Ap0(a b c d:Rat){k:Nat}(ha:Sz k a)(hb:Sz k b)(hc:Sz k c)(hd:Sz k d)(hk:0<k)(hk2:k<=4)(w:World)(hw:Aj w) :
  Calls Tryz.prog 216 #[S (R a),S (R b),S (R c),S (R d)] w (BW (R (a*d-b*c)) w):=by
 have m1:=MB a d (a:=k) (b:=k) ⟨ha,hd,hk,hk,by omega⟩;have m2:=MB b c (a:=k) (b:=k) ⟨hb,hc,hk,hk,by omega⟩;have sb:=Ff (a*d) (b*c) (a:=k+k) (b:=k+k) ⟨ha.mul hd,hb.mul hc,by omega,by omega,by omega⟩;clear ha hb hc hd;go_enter Tryz.func216,Tryz.ntmps216;(go_wp2_with fail);(with_reducible refine(m1 _ hw).mono ?_);rintro e w1 ⟨rfl,hx1⟩;(go_wp2_with fail);(with_reducible refine(m2 _ (hw.ext hx1)).mono ?_);rintro e w2 ⟨rfl,hx2⟩;have Cc:=hx1.trans hx2;(go_wp2_with fail);(with_reducible refine(sb _ (hw.ext Cc)).mono ?_);rintro e w3 ⟨rfl,hx3⟩;go_wp2;go_ret;exact⟨rfl,Cc.trans hx3⟩
theorem AcB(a b c:Pt){k:Nat}(ha:Aw k a)(hb:Aw k b)(hc:Aw k c)(hk:0<k)(hk2:k<=1)(w:World)(hw:Aj w) :
  Calls Tryz.prog 173 #[Af a,Af b,Af c] w (BW (R (Am a b c)) w):=by
 have s1:=Ff b.x a.x (a:=k) (b:=k) ⟨hb.x,ha.x,hk,hk,by omega⟩;have s2:=Ff b.y a.y (a:=k) (b:=k) ⟨hb.y,ha.y,hk,hk,by omega⟩;have s3:=Ff c.x a.x (a:=k) (b:=k) ⟨hc.x,ha.x,hk,hk,by omega⟩;have s4:=Ff c.y a.y (a:=k) (b:=k) ⟨hc.y,ha.y,hk,hk,by omega⟩;have m1:=Ap0 (b.x-a.x) (b.y-a.y) (c.x-a.x) (c.y-a.y) (k:=k+k+1) (hb.x.sub ha.x) (hb.y.sub ha.y) (hc.x.sub ha.x) (hc.y.sub ha.y) (by omega) (by omega);have e:Am a b c=(b.x-a.x)*(c.y-a.y)-(b.y-a.y)*(c.x-a.x):=rfl;rw [←e]at m1;obtain⟨r,hr⟩:=Asw (Am a b c);rw [←hr]at m1 ⊢;unfold Af;clear ha hb hc e hr;go_enter Tryz.func173,Tryz.ntmps173
 go_upto_region 1 with fail
 obtain⟨W,hW,hE,hb1,hb2,hb3⟩:=J9 w (.cells #[S (R a.x),S (R a.y)] 24) (.cells #[S (R b.x),S (R b.y)] 24) (.cells #[S (R c.x),S (R c.y)] 24);rw [←hW];clear hW;have C0:=hw.ext hE;have q1:∀q:Ac W,q.w.cell? ⟨w.heap.size,0,none⟩=some (S (R a.x)):=Ac.cell (Aa hb1 rfl);have q2:∀q:Ac W,q.w.cell? ⟨w.heap.size,1,none⟩=some (S (R a.y)):=Ac.cell (Aa hb1 rfl);have q3:∀q:Ac W,q.w.cell? ⟨w.heap.size+1,0,none⟩=some (S (R b.x)):=Ac.cell (Aa hb2 rfl);have q4:∀q:Ac W,q.w.cell? ⟨w.heap.size+1,1,none⟩=some (S (R b.y)):=Ac.cell (Aa hb2 rfl);have q5:∀q:Ac W,q.w.cell? ⟨w.heap.size+1+1,0,none⟩=some (S (R c.x)):=Ac.cell (Aa hb3 rfl);have q6:∀q:Ac W,q.w.cell? ⟨w.heap.size+1+1,1,none⟩=some (S (R c.y)):=Ac.cell (Aa hb3 rfl);clear hb1 hb2 hb3;refine Bh (by kernel_rfl) (by kernel_rfl) ?_
 repeat (go_big_quiet_step (first|(with_reducible refine LN (s1 _ (C0.ext (Ac.h _))))|(with_reducible refine LN (s2 _ (C0.ext (Ac.h _))))|(with_reducible refine LN (s3 _ (C0.ext (Ac.h _))))|(with_reducible refine LN (s4 _ (C0.ext (Ac.h _))))|(with_reducible refine LN (m1 _ (C0.ext (Ac.h _))))))
 refine wpQuiet_nil ?_;rintro _ ⟨q,rfl⟩;go_wp2;go_ret;exact⟨rfl,hE.trans q.h⟩
def Kv(a b x:Rat):Bool:=decide (Km a b<=x)&&decide (x<=Kk a b)
theorem Agq(p q:Rat):AO p q<=0↔p<=q:=by unfold AO;grind
theorem AcH(a b x:Rat){k:Nat}(ha:Sz k a)(hb:Sz k b)(hx:Sz k x)(hk:0<k)(hk2:k<=4)(w:World)(hw:Aj w) :
  Calls Tryz.prog 174 #[S (R a),S (R b),S (R x)] w (BP (Kv a b x) w):=by
 have mn:=An9 a b (a:=k) (b:=k) ⟨ha,hb,hk,hk,by omega⟩;have mx:=An8 a b (a:=k) (b:=k) ⟨ha,hb,hk,hk,by omega⟩;have szn:Sz k (Km a b):=(by unfold Km;split<;>assumption);have szx:Sz k (Kk a b):=(by unfold Kk;split<;>assumption);have c1:=G0 (Km a b) x (a:=k) (b:=k) ⟨szn,hx,hk,hk,by omega⟩;have c2:=G0 x (Kk a b) (a:=k) (b:=k) ⟨hx,szx,hk,hk,by omega⟩;obtain⟨r,hr⟩:=Asw (Kv a b x);rw [←hr]
 have hr2:r=(decide (AO (Km a b) x<=0)&&decide (AO x (Kk a b)<=0)):=by rw [hr];unfold Kv;simp only [Agq]
 obtain⟨u,hu⟩:=Asw (AO (Km a b) x);obtain⟨v,hv⟩:=Asw (AO x (Kk a b));rw [←hu]at c1 hr2;rw [←hv]at c2 hr2;obtain⟨p,hp⟩:=Asw (Km a b);obtain⟨s,hs⟩:=Asw (Kk a b);rw [←hp]at mn c1;rw [←hs]at mx c2;clear hr ha hb hx szn szx hp hs hu hv;by_cases h1:u<=0
 ·have d1:decide (u<=0)=true:=decide_eq_true h1;rw [d1,Bool.true_and]at hr2;have HR:=Asx hr2;clear hr2 h1;go_enter Tryz.func174,Tryz.ntmps174;(go_wp2_with fail);(with_reducible refine(mn _ hw).mono ?_);rintro e w1 ⟨rfl,hx1⟩;(go_wp2_with fail);(with_reducible refine(c1 _ (hw.ext hx1)).mono ?_);rintro e w2 ⟨rfl,hx2⟩;have Cc:=hx1.trans hx2;(go_wp2_with fail);(with_reducible refine(mx _ (hw.ext Cc)).mono ?_);rintro e w3 ⟨rfl,hx3⟩;have Kd:=Cc.trans hx3;(go_wp2_with fail);(with_reducible refine(c2 _ (hw.ext Kd)).mono ?_);rintro e w4 ⟨rfl,Ao⟩;go_wp2;go_ret;exact⟨by rw [HR.out];rfl,Kd.trans Ao⟩
 ·have d1:decide (u<=0)=false:=decide_eq_false h1;rw [d1,Bool.false_and]at hr2;subst hr2;clear h1;go_enter Tryz.func174,Tryz.ntmps174;(go_wp2_with fail);(with_reducible refine(mn _ hw).mono ?_);rintro e w1 ⟨rfl,hx1⟩;(go_wp2_with fail);(with_reducible refine(c1 _ (hw.ext hx1)).mono ?_);rintro e w2 ⟨rfl,hx2⟩;go_wp2;go_ret;exact⟨rfl,hx1.trans hx2⟩
end
section
open Go.RowKit Kl
theorem qX(l:List Pt)(hz:∀p∈l,Aw 1 p)(A:Option Addr)(c:Nat)(w:World)(hw:Aj w)(hr:Ad w A (flat (Ag l)))(hc:l.length<=c)(hcm:c<=9223372036854775807) :
  Calls Tryz.prog 115 #[.slice A l.length c] w (AI 0 w):=by
 have HL:=Asx hz;clear hz;go_enter Tryz.func115,Tryz.ntmps115
 go_upto_region 2 with fail
 go_loopw [8] (fun i wr=>∃j:Nat,i=.int .i64 (j:Nat)/\j<=l.length/\Ab w wr) (fun i _=>l.length-(intOf i).toNat)
 case atStart=>exact⟨0,rfl,by omega,Ab.refl _⟩
 case round=>
  obtain⟨j,rfl,hj,Ae⟩:=hrel;by_cases hlt:j<l.length
  ·obtain⟨b,o,rfl,hg1,hg2⟩:=BN (hr.ext Ae) hlt;have hp:=HL.out _ (As1 hlt);obtain⟨p,Jn⟩:=Asw (l[j]);rw [←Jn]at hg1 hg2 hp;clear Jn;have ck:=Ns (R p.x) (R p.y) true (by simp [Kp hp.x (by omega) (by omega),Kp hp.y (by omega) (by omega)]) (by have:=Nm (by omega) hp.x;omega) (by have:=Nm (by omega) hp.y;omega);rw [Iv]at ck;have hx1:=Ae.alloc (.cells #[S (R p.x),S (R p.y)] 24);have hj0:(0:Int)<=(j:Int):=(by omega);have Ay:(j:Int)<(l.length:Int):=(by omega);clear hp;(go_wp2_with fail);(with_reducible refine(ck _ (hw.ext hx1)).mono ?_);rintro e w2 ⟨rfl,hx2⟩;go_wp2;go_roundw
   case rel=>exact⟨j+1,by go_num,hlt,hx1.trans hx2⟩
   case measure=>simp [intOf];omega
  ·have hle:(l.length:Int)<=(j:Int):=(by omega);go_wp2;go_ret;exact⟨rfl,Ae⟩
def Ab1(n:Int):Value:=.tuple #[.int .i64 n,.int .i64 0]
def Ab0(b:Bool):Value:=.tuple #[.bool b,.int .i64 0]
theorem Ap2(a b c:Pt)(ha:Aw 1 a)(hb:Aw 1 b)(hc:Aw 1 c)(w:World)(hw:Aj w) :
  Calls Tryz.prog 189 #[Af a,Af b,Af c] w (BA (Ab1 (AN (Am a b c))) w):=by
 have ar:=AcB a b c ha hb hc (by omega) (by omega);have sg:=PU (Am a b c)
 have hl:∀p∈[a,b,c],Aw 1 p:=by
  intro p hp;simp only [List.mem_cons,AsB,or_false]at hp
  rcases hp with rfl|rfl|rfl<;>assumption
 obtain⟨r,hr⟩:=Asw (Am a b c);rw [←hr]at ar sg ⊢;obtain⟨W,hW,hE,hb1,hb2,hb3⟩:=J9 w (.cells #[S (R a.x),S (R a.y)] 24) (.cells #[S (R b.x),S (R b.y)] 24) (.cells #[S (R c.x),S (R c.y)] 24);have pt:Calls Tryz.prog 115 #[.slice (some ⟨W.heap.size,0,none⟩) 3 3] (W.alloc (.cells #[S (R a.x),S (R a.y),S (R b.x),S (R b.y),S (R c.x),S (R c.y)] 24)) (AI 0 _):=qX [a,b,c] hl (some ⟨W.heap.size,0,none⟩) 3 (W.alloc (.cells #[S (R a.x),S (R a.y),S (R b.x),S (R b.y),S (R c.x),S (R c.y)] 24)) ((hw.ext hE).ext ((Ab.refl W).alloc _)) (Ad.lit W #[S (R a.x),S (R a.y),S (R b.x),S (R b.y),S (R c.x),S (R c.y)] 24) (by simp) (by omega);have DF:=hE.alloc (.cells #[S (R a.x),S (R a.y),S (R b.x),S (R b.y),S (R c.x),S (R c.y)] 24);have I0:=(Ab.refl W).alloc (.cells #[S (R a.x),S (R a.y),S (R b.x),S (R b.y),S (R c.x),S (R c.y)] 24);have k1:=Aa (o:=0) hb1 rfl;have k2:=Aa (o:=1) hb1 rfl;have k3:=Aa (o:=0) hb2 rfl;have k4:=Aa (o:=1) hb2 rfl;have k5:=Aa (o:=0) hb3 rfl;have k6:=Aa (o:=1) hb3 rfl;unfold Af at ar ⊢;clear ha hb hc hr hb1 hb2 hb3 hl;go_enter Tryz.func189,Tryz.ntmps189
 go_upto_region 1 with fail
 rw [←hW];clear hW;(go_wp2_with fail);(with_reducible refine pt.mono ?_);rintro e w1 ⟨rfl,hx1⟩;have hx2:=I0.trans hx1;have hw1:=hw.ext (hE.trans hx2);replace k1:=hx2.cellS k1;replace k2:=hx2.cellS k2;replace k3:=hx2.cellS k3;replace k4:=hx2.cellS k4;replace k5:=hx2.cellS k5;replace k6:=hx2.cellS k6;have hx3:=hE.trans hx2;clear pt hE DF I0 hx1 hx2;(go_wp2_with fail);(with_reducible refine(ar _ hw1).mono ?_);rintro e w2 ⟨rfl,Ao⟩;(go_wp2_with fail);(with_reducible refine(sg _).mono ?_);rintro e w3 ⟨rfl,As⟩;go_wp2;go_ret2;exact⟨rfl,(hx3.trans Ao).trans As⟩
def KF(a b p:Pt):Bool:=decide (Am a b p=0)&&(Kv a.x b.x p.x&&Kv a.y b.y p.y)
theorem Apx(a b c:Pt)(ha:Aw 1 a)(hb:Aw 1 b)(hc:Aw 1 c)(w:World)(hw:Aj w) :
  Calls Tryz.prog 122 #[Af a,Af b,Af c] w (BA (Ab0 (KF a b c)) w):=by
 have ar:=AcB a b c ha hb hc (by omega) (by omega);have t1:=AcH a.x b.x c.x ha.x hb.x hc.x (by omega) (by omega);have t2:=AcH a.y b.y c.y ha.y hb.y hc.y (by omega) (by omega)
 have hl:∀p∈[a,b,c],Aw 1 p:=by
  intro p hp;simp only [List.mem_cons,AsB,or_false]at hp
  rcases hp with rfl|rfl|rfl<;>assumption
 have hz:(R (Am a b c) == [48])=decide (Am a b c=0):=by
  by_cases h:Am a b c=0
  ·rw [h,KD];rfl
  ·rw [Ip h,decide_eq_false h]
 obtain⟨x,hx⟩:=Asw (KF a b c);have hx':=hx;unfold KF at hx';obtain⟨u,hu⟩:=Asw (decide (Am a b c=0));obtain⟨s,hs⟩:=Asw (Kv a.x b.x c.x);obtain⟨t,ht⟩:=Asw (Kv a.y b.y c.y);rw [←hu]at hz hx';rw [←hs]at t1 hx';rw [←ht]at t2 hx';rw [←hx];obtain⟨r,hr⟩:=Asw (Am a b c);rw [←hr]at ar hz;have HX:=Asx hx';obtain⟨W,hW,hE,hb1,hb2,hb3⟩:=J9 w (.cells #[S (R a.x),S (R a.y)] 24) (.cells #[S (R b.x),S (R b.y)] 24) (.cells #[S (R c.x),S (R c.y)] 24);have pt:Calls Tryz.prog 115 #[.slice (some ⟨W.heap.size,0,none⟩) 3 3] (W.alloc (.cells #[S (R a.x),S (R a.y),S (R b.x),S (R b.y),S (R c.x),S (R c.y)] 24)) (AI 0 _):=qX [a,b,c] hl (some ⟨W.heap.size,0,none⟩) 3 (W.alloc (.cells #[S (R a.x),S (R a.y),S (R b.x),S (R b.y),S (R c.x),S (R c.y)] 24)) ((hw.ext hE).ext ((Ab.refl W).alloc _)) (Ad.lit W #[S (R a.x),S (R a.y),S (R b.x),S (R b.y),S (R c.x),S (R c.y)] 24) (by simp) (by omega);have I0:=(Ab.refl W).alloc (.cells #[S (R a.x),S (R a.y),S (R b.x),S (R b.y),S (R c.x),S (R c.y)] 24);have k1:=Aa (o:=0) hb1 rfl;have k2:=Aa (o:=1) hb1 rfl;have k3:=Aa (o:=0) hb2 rfl;have k4:=Aa (o:=1) hb2 rfl;have k5:=Aa (o:=0) hb3 rfl;have k6:=Aa (o:=1) hb3 rfl;unfold Af at ar ⊢;clear ha hb hc hr hb1 hb2 hb3 hl hx hx' hu hs ht;go_enter Tryz.func122,Tryz.ntmps122
 go_upto_region 1 with fail
 rw [←hW];clear hW;(go_wp2_with fail);(with_reducible refine pt.mono ?_);rintro e w1 ⟨rfl,hx1⟩;have hx2:=I0.trans hx1;have hw1:=hw.ext (hE.trans hx2);replace k1:=hx2.cellS k1;replace k2:=hx2.cellS k2;replace k3:=hx2.cellS k3;replace k4:=hx2.cellS k4;replace k5:=hx2.cellS k5;replace k6:=hx2.cellS k6;have hx3:=hE.trans hx2;clear pt hE I0 hx1 hx2;(go_wp2_with fail);(with_reducible refine(ar _ hw1).mono ?_);rintro e w2 ⟨rfl,Ao⟩;replace k1:=Ao.cellS k1;replace k2:=Ao.cellS k2;replace k3:=Ao.cellS k3;replace k4:=Ao.cellS k4;replace k5:=Ao.cellS k5;replace k6:=Ao.cellS k6;replace hw1:=hw1.ext Ao;replace hx3:=hx3.trans Ao;clear ar Ao
 cases u
 ·rw [Bool.false_and]at HX;have he:x=false:=HX.out;subst he;go_wp2;go_ret2;exact⟨rfl,hx3⟩
 ·rw [Bool.true_and]at HX;(go_wp2_with fail);(with_reducible refine(t1 _ hw1).mono ?_);rintro e w3 ⟨rfl,Ao⟩;replace k2:=Ao.cellS k2;replace k4:=Ao.cellS k4;replace k6:=Ao.cellS k6
  cases s
  ·rw [Bool.false_and]at HX;have he:x=false:=HX.out;subst he;go_wp2;go_ret2;exact⟨rfl,hx3.trans Ao⟩
  ·rw [Bool.true_and]at HX;(go_wp2_with fail);(with_reducible refine(t2 _ (hw1.ext Ao)).mono ?_);rintro e w4 ⟨rfl,As⟩;go_wp2;go_ret2;exact⟨by rw [HX.out];rfl,(hx3.trans Ao).trans As⟩
end
section
open Go.RowKit Kl
theorem ZU(x y:Int)(hx:x.natAbs<10000000)(hy:y.natAbs<10000000)(w:World)(hw:Aj w):Calls Tryz.prog 149 #[.int .i64 x,.int .i64 y] w (BA (Af ⟨x,y⟩) w):=by
 have o1:=Abv x (by omega) (by omega);have o2:=Abv y (by omega) (by omega);have hb:=Asz w (.cells #[S [],S []] 24);have hE:=(Ab.refl w).alloc (.cells #[S [],S []] 24);unfold Af;clear hx hy;go_enter Tryz.func149,Tryz.ntmps149;(go_wp2_with fail);rw [show (⟨#[]⟩:ByteArray)=⟨([]:Bs).toArray⟩from rfl];(with_reducible refine(o1 _ (hw.ext hE)).mono ?_);rintro e w1 ⟨rfl,hx⟩;replace hb:=(hx.block _ (Asy hb)).trans hb;replace hE:=hE.trans hx;(go_wp2_with fail);(with_reducible refine(o2 _ (hw.ext hE)).mono ?_);rintro e w2 ⟨rfl,hx2⟩;replace hb:=(hx2.block _ (Asy hb)).trans hb;replace hE:=hE.trans hx2;have g1:=Aa (o:=0) hb rfl;have g2:=Aa (o:=1) hb rfl;have g3:=Ah (o:=0) hb;have g4:=Ah (o:=1) hb;obtain⟨e1,e2⟩:=set2 (S (R (x:Rat))) (S (R (y:Rat))) g1 g2;go_wp2;refine bodyPost_ret (v:=.agg #[S (R (x:Rat)),S (R (y:Rat))]) (by simp [results,Tryz.results149,go_sem,e1,e2]) rfl ?_;exact⟨rfl,(hE.setCell (As0 _) _).setCell (As0 _) _⟩
theorem Akv(z:Int)(w:World):Calls Tryz.prog 210 #[S (I z)] w (BW (D z.natAbs) w):=by
 have t:=qO (I z) [45];rw [Ac1]at t;go_enter Tryz.func210,Tryz.ntmps210;(go_wp2_with fail);(with_reducible refine(t _).mono ?_);rintro e w1 ⟨rfl,hx⟩;go_wp2;go_ret;exact⟨rfl,hx⟩
theorem zt(q:Rat)(hq:Sz 7 q)(w:World)(hw:Aj w):Calls Tryz.prog 167 #[S (R q)] w (BP false w):=by
 have p:=Abt q (by omega) (by omega) hq w hw;have ab:=Akv q.num;have l1:=II (by omega) hq.num;have l2:=II (by omega) hq.den;unfold Sb at p;obtain⟨n,hn⟩:=Asw (D q.num.natAbs);obtain⟨d,hd⟩:=Asw (D q.den);rw [←hn]at ab l1;rw [←hd]at p l2;have n1:¬((n.length:Int)>200):=(by omega);have n2:¬((d.length:Int)>200):=(by omega);clear hn hd l1 l2;go_enter Tryz.func167,Tryz.ntmps167;(go_wp2_with fail);(with_reducible refine p.mono ?_);rintro e w1 ⟨rfl,hx⟩;(go_wp2_with fail);(with_reducible refine(ab _).mono ?_);rintro e w2 ⟨rfl,hx2⟩;go_wp2;go_ret;exact⟨by simp [n1,n2],hx.trans hx2⟩
def PV(p:Pt):Value:=.tuple #[Af p,.int .i64 0]
theorem Ap1(x y:Rat)(hx:Sz 7 x)(hy:Sz 7 y)(w:World)(hw:Aj w):Calls Tryz.prog 116 #[S (R x),S (R y)] w (BA (PV ⟨x,y⟩) w):=by
 have l1:=zt x hx;have l2:=zt y hy;have hb:=Asz w (.cells #[S [],S []] 24);have hE:=(Ab.refl w).alloc (.cells #[S [],S []] 24);unfold PV Af;clear hx hy;go_enter Tryz.func116,Tryz.ntmps116;(go_wp2_with fail);rw [show (⟨#[]⟩:ByteArray)=⟨([]:Bs).toArray⟩from rfl];(with_reducible refine(l1 _ (hw.ext hE)).mono ?_);rintro e w1 ⟨rfl,hx⟩;replace hb:=(hx.block _ (Asy hb)).trans hb;replace hE:=hE.trans hx;(go_wp2_with fail);(with_reducible refine(l2 _ (hw.ext hE)).mono ?_);rintro e w2 ⟨rfl,hx2⟩;replace hb:=(hx2.block _ (Asy hb)).trans hb;replace hE:=hE.trans hx2;have g1:=Aa (o:=0) hb rfl;have g2:=Aa (o:=1) hb rfl;have g3:=Ah (o:=0) hb;have g4:=Ah (o:=1) hb;obtain⟨e1,e2⟩:=set2 (S (R x)) (S (R y)) g1 g2;go_wp2;refine bodyPost_ret (v:=.tuple #[.agg #[S (R x),S (R y)],.int .i64 0]) (by simp [results,Tryz.results116,go_sem,e1,e2]) rfl ?_;exact⟨rfl,(hE.setCell (As0 _) _).setCell (As0 _) _⟩
theorem AcE(a b k:Rat)(ha:Sz 1 a)(hb:Sz 1 b)(hk:Sz 1 k)(w:World)(hw:Aj w):Calls Tryz.prog 117 #[S (R a),S (R b),S (R k)] w (BW (R (Di a b k)) w):=by
 have s1:=Ff b a (a:=1) (b:=1) ⟨hb,ha,by omega,by omega,by omega⟩;have m1:=MB k (b-a) (a:=1) (b:=3) ⟨hk,hb.sub ha,by omega,by omega,by omega⟩;have a1:=ZC a (k*(b-a)) (a:=1) (b:=4) ⟨ha,hk.mul (hb.sub ha),by omega,by omega,by omega⟩;have e:Di a b k=a+k*(b-a):=rfl;rw [e];clear ha hb hk e;go_enter Tryz.func117,Tryz.ntmps117;(go_wp2_with fail);(with_reducible refine(s1 _ hw).mono ?_);rintro e w1 ⟨rfl,hx1⟩;(go_wp2_with fail);(with_reducible refine(m1 _ (hw.ext hx1)).mono ?_);rintro e w2 ⟨rfl,hx2⟩;have Cc:=hx1.trans hx2;(go_wp2_with fail);(with_reducible refine(a1 _ (hw.ext Cc)).mono ?_);rintro e w3 ⟨rfl,hx3⟩;go_wp2;go_ret;exact⟨rfl,Cc.trans hx3⟩
theorem qY(a b:Pt)(k:Rat)(ha:Aw 1 a)(hb:Aw 1 b)(hk:Sz 1 k)(w:World)(hw:Aj w):Calls Tryz.prog 64 #[Af a,Af b,S (R k)] w (BA (PV ⟨Di a.x b.x k,Di a.y b.y k⟩) w):=by
 have s1:=AcE a.x b.x k (ha.x.mono (by omega)) (hb.x.mono (by omega)) (hk.mono (by omega));have s2:=AcE a.y b.y k (ha.y.mono (by omega)) (hb.y.mono (by omega)) (hk.mono (by omega));have pc:=Ap1 (Di a.x b.x k) (Di a.y b.y k) ((Acy ha.x hb.x hk).mono (by omega)) ((Acy ha.y hb.y hk).mono (by omega))
 have hl:∀p∈[a,b],Aw 1 p:=by
  intro p hp;simp only [List.mem_cons,AsB,or_false]at hp
  rcases hp with rfl|rfl
  ·exact⟨ha.x.mono (by omega),ha.y.mono (by omega)⟩
  ·exact⟨hb.x.mono (by omega),hb.y.mono (by omega)⟩
 have nb:=Aay [R k] true (by simp [Zw,Kp hk (by omega) (by omega)]);obtain⟨W,hW,hE,hb1,hb2,hb3⟩:=J9 w (.cells #[S (R a.x),S (R a.y)] 24) (.cells #[S (R b.x),S (R b.y)] 24) (.cells #[S [],S []] 24);have pt:Calls Tryz.prog 115 #[.slice (some ⟨W.heap.size,0,none⟩) 2 2] (W.alloc (.cells #[S (R a.x),S (R a.y),S (R b.x),S (R b.y)] 24)) (AI 0 _):=qX [a,b] hl (some ⟨W.heap.size,0,none⟩) 2 (W.alloc (.cells #[S (R a.x),S (R a.y),S (R b.x),S (R b.y)] 24)) ((hw.ext hE).ext ((Ab.refl W).alloc _)) (Ad.lit W #[S (R a.x),S (R a.y),S (R b.x),S (R b.y)] 24) (by simp) (by omega);have I0:=(Ab.refl W).alloc (.cells #[S (R a.x),S (R a.y),S (R b.x),S (R b.y)] 24);have C6:(R k).length<=17:=(by have:=Nm (by omega) hk;omega);have Oo:∀(W1:World) (hw1:Aj W1),Calls Tryz.prog 61 #[.slice (some ⟨W1.heap.size,0,none⟩) 1 1] (W1.alloc (.cells #[S (R k)] 22)) (AI (Gj true) _):=fun (W1:World) (hw1:Aj W1)=>nb (some ⟨W1.heap.size,0,none⟩) 1 (W1.alloc (.cells #[S (R k)] 22)) (hw1.ext ((Ab.refl W1).alloc _)) (Ad.lit W1 #[S (R k)] 22) (by simp) (by omega) (by simp) (by simpa using C6);rw [Iv]at Oo;unfold PV Af at pc ⊢;clear ha hb hk hl nb;obtain⟨p,hp⟩:=Asw (Di a.x b.x k);obtain⟨q,hq⟩:=Asw (Di a.y b.y k);rw [←hp]at s1 pc ⊢;rw [←hq]at s2 pc ⊢;clear hp hq;go_enter Tryz.func64,Tryz.ntmps64
 go_upto_region 1 with fail
 rw [show (⟨#[]⟩:ByteArray)=⟨([]:Bs).toArray⟩from rfl,←hW];clear hW;have k1:=Aa (o:=0) hb1 rfl;have k2:=Aa (o:=1) hb1 rfl;have k3:=Aa (o:=0) hb2 rfl;have k4:=Aa (o:=1) hb2 rfl;(go_wp2_with fail);(with_reducible refine pt.mono ?_);rintro e w1 ⟨rfl,hx1⟩;have hx2:=I0.trans hx1;have hw1:=hw.ext (hE.trans hx2);clear k1 k2 k3 k4;(go_wp2_with fail);(with_reducible refine(Oo _ hw1).mono ?_);rintro e w2 ⟨rfl,hx3⟩;have Ao:=(hx2.alloc (.cells #[S (R k)] 22)).trans hx3;have h1:=(Ao.block _ (Asy hb1)).trans hb1;have h2:=(Ao.block _ (Asy hb2)).trans hb2;have h3:=(Ao.block _ (Asy hb3)).trans hb3;have KO:=hE.trans Ao;have hw2:=hw.ext KO;have k1:=Aa (o:=0) h1 rfl;have k2:=Aa (o:=1) h1 rfl;have k3:=Aa (o:=0) h2 rfl;have k4:=Aa (o:=1) h2 rfl;have X:Ab w2 w2:=Ab.refl w2
 have SO:∀w',Ab w2 w'→(w'.cell? ⟨w.heap.size,0,none⟩=some (S (R a.x))/\w'.cell? ⟨w.heap.size,1,none⟩=some (S (R a.y))/\w'.cell? ⟨w.heap.size+1,0,none⟩=some (S (R b.x))/\w'.cell? ⟨w.heap.size+1,1,none⟩=some (S (R b.y))):=fun w' h=>⟨h.cellS k1,h.cellS k2,h.cellS k3,h.cellS k4⟩
 have gq:=h3;clear h1 h2 hb1 hb2 hb3 hx1 hx2 hx3 Ao pt Oo I0 hw1 h3
 go_upto_region 7 with fail
 go_region_held3 (fun w'=>w'.cell? ⟨w.heap.size,0,none⟩=some (S (R a.x))/\w'.cell? ⟨w.heap.size,1,none⟩=some (S (R a.y))/\w'.cell? ⟨w.heap.size+1,0,none⟩=some (S (R b.x))/\w'.cell? ⟨w.heap.size+1,1,none⟩=some (S (R b.y)))
  (first|with_reducible exact SO _ X|with_reducible exact SO _ X.drew|(refine⟨?_,?_,?_,?_⟩<;>(rw [World.cell?_setCell_far _ _ _ _ (by simp only [ne_eq];omega),World.cell?_setCell_far _ _ _ _ (by simp only [ne_eq];omega)];first|exact(SO _ X).1|exact(SO _ X).2.1|exact(SO _ X).2.2.1|exact(SO _ X).2.2.2)))
  (first|((with_reducible refine(s1 _ (hw2.ext (by first|exact X|exact X.drew))).mono ?_);rintro e w3 ⟨rfl,hx1⟩;replace X:Ab w2 w3:=(by first|exact X.trans hx1|exact X.drew.trans hx1))|((with_reducible refine(s2 _ (hw2.ext (by first|exact X|exact X.drew))).mono ?_);rintro e w3 ⟨rfl,hx1⟩;replace X:Ab w2 w3:=(by first|exact X.trans hx1|exact X.drew.trans hx1))|((with_reducible refine(pc _ (hw2.ext (by first|exact X|exact X.drew))).mono ?_);rintro e w3 ⟨rfl,hx1⟩;replace X:Ab w2 w3:=(by first|exact X.trans hx1|exact X.drew.trans hx1);have hb3:=(X.block _ (Asy gq)).trans gq;have g1:=Aa (o:=0) hb3 rfl;have g2:=Aa (o:=1) hb3 rfl;have g3:=Ah (o:=0) hb3;have g4:=Ah (o:=1) hb3))
 obtain⟨e1,e2⟩:=set2 (S (R p)) (S (R q)) g1 g2;go_wp2;refine bodyPost_ret (v:=.tuple #[.agg #[S (R p),S (R q)],.int .i64 0]) (by simp [results,Tryz.results64,go_sem,e1,e2]) rfl ?_;exact⟨rfl,((KO.trans X).setCell (by show w.heap.size<=w.heap.size+1+1;omega) _).setCell (by show w.heap.size<=w.heap.size+1+1;omega) _⟩
end
section
open Go.RowKit Kl
def gp(u:Int×Int):Pt:=⟨(u.1:Rat)/2,(u.2:Rat)/2⟩
structure bX(u:Int×Int):Prop where
 x0:0<=u.1
 x1:u.1<=6
 y0:0<=u.2
 y1:u.2<=6
theorem bX.on{u:Int×Int}(h:bX u):Ce (gp u):=⟨⟨u.1,by have:=h.x0;have:=h.x1;omega,rfl⟩,⟨u.2,by have:=h.y0;have:=h.y1;omega,rfl⟩⟩
theorem AiA{a b:Int} : (a:Rat)/2<=(b:Rat)/2↔a<=b:=by
 constructor
 ·intro h;have:(a:Rat)<=(b:Rat):=(by grind);exact Rat.intCast_le_intCast.1 this
 ·intro h;have:(a:Rat)<=(b:Rat):=Rat.intCast_le_intCast.2 h
  grind
theorem AhU(x y:Int):gp (2*x,2*y)=⟨x,y⟩:=by
 unfold gp;simp only [Pt.mk.injEq,Rat.intCast_mul];constructor<;>grind
theorem Aai(a b m:Int)(h:a+b=2*m):Di ((a:Rat)/2) ((b:Rat)/2) (1/2)=(m:Rat)/2:=by
 unfold Di
 have:(a:Rat)+(b:Rat)=2*(m:Rat):=by rw [←Rat.intCast_add,h,Rat.intCast_mul];rfl
 grind
theorem XA(u v m:Int×Int)(h1:u.1+v.1=2*m.1)(h2:u.2+v.2=2*m.2):(⟨Di (gp u).x (gp v).x (1/2),Di (gp u).y (gp v).y (1/2)⟩:Pt)=gp m:=by
 unfold gp;simp only [Aai _ _ _ h1,Aai _ _ _ h2]
theorem Acx:Sz 1 (1/2:Rat):=by
 have:(1/2:Rat)=mkRat 1 2:=(by decide +kernel);rw [this];exact Sz.mkRat (by omega) (by decide) (by decide)
def Bt(n:Nat):Bs:=if n%4=0 then [97] else if n%4=1 then [98] else if n%4=2 then [99] else [100]
theorem Ac6(n:Nat)(hn:n<256)(w:World):Calls Tryz.prog 98 #[.int .u8 (n:Nat)] w (BW (Bt n) w):=by
 have hE:=(Ab.refl w).alloc (.cells #[S [97],S [98],S [99],S [100]] 9);obtain⟨r,hr⟩:=Asw (n%4:Nat);have hw8:((n:Int).tmod 4)=(r:Int):=(by rw [Int.tmod_eq_emod_of_nonneg (by omega)];omega);have hr4:r<4:=by omega
 have hu:Bt n=if r=0 then [97] else if r=1 then [98] else if r=2 then [99] else [100]:=by unfold Bt;rw [hr]
 rw [hu];clear hu hr;go_enter Tryz.func98,Tryz.ntmps98
 go_upto_region 1 with fail
 rcases(show r=0∨r=1∨r=2∨r=3 by omega)with h|h|h|h
 all_goals (
  subst h;go_wp2;go_ret
  exact⟨rfl,hE⟩)
theorem Dd{w:World}{b:Nat}{a0 a1 a2:Value}{t:TypeId}(v0 v1 v2:Value)(h:w.heap[b]?=some (.cells #[a0,a1,a2] t)) :
  (((w.setCell ⟨b,0,none⟩ v0).setCell ⟨b,1,none⟩ v1).setCell ⟨b,2,none⟩ v2).heap[b]?=some (.cells #[v0,v1,v2] t):=by
 simp only [World.setCell,Array.getElem?_modify,h];simp
def ZQ(x y:Int):List (Int×Int):=[(2*x,2*y),(2*x+2,2*y),(2*x+2,2*y+2),(2*x,2*y+2)]
def X9(l:List (Int×Int)):List Value:=flat (Ag (l.map gp))
theorem AoQ(x y:Int):X9 (ZQ x y) = [S (R (x:Rat)),S (R (y:Rat)),S (R ((x+1:Int):Rat)),S (R (y:Rat)),S (R ((x+1:Int):Rat)),S (R ((y+1:Int):Rat)),S (R (x:Rat)),S (R ((y+1:Int):Rat))]:=by
 have e1:(2*x+2:Int)=2*(x+1):=(by omega);have e2:(2*y+2:Int)=2*(y+1):=(by omega);unfold X9 ZQ;rw [e1,e2];simp only [List.map_cons,List.map_nil,AhU]
 rfl
theorem AoS(x y:Int)(hx:0<=x)(hx2:x<=2)(hy:0<=y)(hy2:y<=2)(u:Bs)(w:World)(hw:Aj w):Calls Tryz.prog 97 #[.int .i64 x,.int .i64 y,S u] w fun e w'=>
  ∃b,e=.returned (.agg #[.slice (some ⟨b,0,none⟩) 4 4,S u,.slice none 0 0])/\w.heap.size<=b/\w'.heap[b]?=some (.cells (X9 (ZQ x y)).toArray 24)/\Ab w w':=by
 have a1:=ZU x y (by omega) (by omega);have a2:=ZU (x+1) y (by omega) (by omega);have a3:=ZU (x+1) (y+1) (by omega) (by omega);have a4:=ZU x (y+1) (by omega) (by omega);have v1:IntKind.wrap .i64 (x+1)=x+1:=As6 _ (by omega);have v2:IntKind.wrap .i64 (y+1)=y+1:=As6 _ (by omega);rw [AoQ];have hb:=Asz w (.cells #[.slice none 0 0,S [],.slice none 0 0] 84);have hE:=(Ab.refl w).alloc (.cells #[.slice none 0 0,S [],.slice none 0 0] 84);unfold Af at a1 a2 a3 a4;simp only at a1 a2 a3 a4;obtain⟨p,hp⟩:=Asw (R (x:Rat));obtain⟨q,hq⟩:=Asw (R (y:Rat));obtain⟨r,hr⟩:=Asw (R ((x+1:Int):Rat));obtain⟨s,hs⟩:=Asw (R ((y+1:Int):Rat));rw [←hp,←hq]at a1;rw [←hr,←hq]at a2;rw [←hr,←hs]at a3;rw [←hp,←hs]at a4;rw [←hp,←hq,←hr,←hs];clear hp hq hr hs hx hx2 hy hy2;go_enter Tryz.func97,Tryz.ntmps97;(go_wp2_with fail);rw [show (⟨#[]⟩:ByteArray)=⟨([]:Bs).toArray⟩from rfl];(with_reducible refine(a1 _ (hw.ext hE)).mono ?_);rintro e w1 ⟨rfl,hx⟩;replace hb:=(hx.block _ (Asy hb)).trans hb;replace hE:=hE.trans hx;clear hx;(go_wp2_with fail);(with_reducible refine(a2 _ (hw.ext hE)).mono ?_);rintro e w2 ⟨rfl,hx⟩;replace hb:=(hx.block _ (Asy hb)).trans hb;replace hE:=hE.trans hx;clear hx;(go_wp2_with fail);(with_reducible refine(a3 _ (hw.ext hE)).mono ?_);rintro e w3 ⟨rfl,hx⟩;replace hb:=(hx.block _ (Asy hb)).trans hb;replace hE:=hE.trans hx;clear hx;(go_wp2_with fail);(with_reducible refine(a4 _ (hw.ext hE)).mono ?_);rintro e w4 ⟨rfl,hx⟩;replace hb:=(hx.block _ (Asy hb)).trans hb;replace hE:=hE.trans hx;clear hx;have Bz:=Asz w4 (.cells #[S p,S q,S r,S q,S r,S s,S p,S s] 24);have UZ:=hE.size;have GG:=(Ab.refl w4).alloc (.cells #[S p,S q,S r,S q,S r,S s,S p,S s] 24);have hlt:=Asy hb;have k1:w4.cell? ⟨w.heap.size,0,none⟩=some (.slice none 0 0):=Aa hb rfl;have k2:w4.cell? ⟨w.heap.size,1,none⟩=some (S []):=Aa hb rfl;have k3:w4.cell? ⟨w.heap.size,2,none⟩=some (.slice none 0 0):=Aa hb rfl;have k4:=Ah (o:=0) hb;have k5:=Ah (o:=1) hb;have k6:=Ah (o:=2) hb;have LV:=hE.trans GG;go_wp2;have Dn:=Dd (.slice (some ⟨w4.heap.size,0,none⟩) 4 4) (S u) (.slice none 0 0) hb;have fM:=((hE.setCell (p:=⟨w.heap.size,0,none⟩) (As0 _) (.slice (some ⟨w4.heap.size,0,none⟩) 4 4)).setCell (p:=⟨w.heap.size,1,none⟩) (As0 _) (S u)).setCell (p:=⟨w.heap.size,2,none⟩) (As0 _) (.slice none 0 0);have YS:(((w4.setCell ⟨w.heap.size,0,none⟩ (.slice (some ⟨w4.heap.size,0,none⟩) 4 4)).setCell ⟨w.heap.size,1,none⟩ (S u)).setCell ⟨w.heap.size,2,none⟩ (.slice none 0 0)).heap.size=w4.heap.size:=(by simp);unfold S at Dn fM YS;generalize (((w4.setCell ⟨w.heap.size,0,none⟩ (.slice (some ⟨w4.heap.size,0,none⟩) 4 4)).setCell ⟨w.heap.size,1,none⟩ (.string ⟨u.toArray⟩)).setCell ⟨w.heap.size,2,none⟩ (.slice none 0 0))=w9 at *;obtain⟨b0,hb0⟩:=Asw w.heap.size;have Aj0:=Asy Dn;rw [←hb0]at Dn Aj0 ⊢;have I0:=(Ab.refl w9).alloc (.cells #[S p,S q,S r,S q,S r,S s,S p,S s] 24);have iU:=(I0.block _ (Asy Dn)).trans Dn;have e1:=Aa (o:=0) iU rfl;have e2:=Aa (o:=1) iU rfl;have e3:=Aa (o:=2) iU rfl;have hnew:=Asz w9 (.cells #[S p,S q,S r,S q,S r,S s,S p,S s] 24)
 rw [YS]at hnew;have XJ:=fM.alloc (.cells #[S p,S q,S r,S q,S r,S s,S p,S s] 24);generalize w9.alloc (.cells #[S p,S q,S r,S q,S r,S s,S p,S s] 24)=w10 at *;refine bodyPost_ret (v:=.agg #[.slice (some ⟨w4.heap.size,0,none⟩) 4 4,.string ⟨u.toArray⟩,.slice none 0 0]) (by simp [results,Tryz.results97,go_sem,e1,e2,e3]) rfl ?_;exact⟨w4.heap.size,rfl,by rw [hb0];exact UZ,hnew,XJ⟩
end
section
open Go.RowKit Kl
def CB(p:Pt):Prop:=∃u,bX u/\p=gp u
theorem CB.on{p:Pt}(h:CB p):Ce p:=by obtain⟨u,hu,rfl⟩:=h;exact hu.on
theorem CB.sz{p:Pt}(h:CB p):Aw 1 p:=h.on.sz (by omega)
theorem CB.sz2{p:Pt}(h:CB p):Aw 1 p:=h.on.sz (by omega)
structure Hf where
 a:Pt
 b:Pt
 l:Int
def GL(h:Hf):Value:=.agg #[S (R h.a.x),S (R h.a.y),S (R h.b.x),S (R h.b.y),.int .i64 h.l]
def Bn(l:List Hf):List Value:=l.flatMap fun h=>[S (R h.a.x),S (R h.a.y),S (R h.b.x),S (R h.b.y),.int .i64 h.l]
theorem j8(l:List Hf):(Bn l).length=l.length*5:=by
 induction l with
 | nil=>rfl
 | cons h l ih=>simp [Bn]at ih ⊢;omega
theorem Ra:∀(l:List Hf) (j:Nat) (h:j<l.length),(Bn l)[j*5]?=some (S (R l[j].a.x))/\(Bn l)[j*5+1]?=some (S (R l[j].a.y))/\(Bn l)[j*5+2]?=some (S (R l[j].b.x))/\(Bn l)[j*5+3]?=some (S (R l[j].b.y))/\(Bn l)[j*5+4]?=some (.int .i64 l[j].l)
 | e::l,0,_=>⟨rfl,rfl,rfl,rfl,rfl⟩
 | e::l,j+1,h=>by
  have ih:=Ra l j (by simpa using h);have e0:Bn (e::l)=S (R e.a.x)::S (R e.a.y)::S (R e.b.x)::S (R e.b.y) :: .int .i64 e.l::Bn l:=rfl;rw [e0];have e1:(j+1)*5=j*5+1+1+1+1+1:=(by omega);rw [e1]
  simpa using ih
structure OH(w:World)(b o:Nat)(h:Hf):Prop where
 c0:w.cell? ⟨b,o,none⟩=some (S (R h.a.x))
 c1:w.cell? ⟨b,o+1,none⟩=some (S (R h.a.y))
 c2:w.cell? ⟨b,o+2,none⟩=some (S (R h.b.x))
 c3:w.cell? ⟨b,o+3,none⟩=some (S (R h.b.y))
 c4:w.cell? ⟨b,o+4,none⟩=some (.int .i64 h.l)
theorem ME{w:World}{A:Option Addr}{l:List Hf}(hr:Ad w A (Bn l)){j:Nat}(h:j<l.length):∃b o,A=some ⟨b,o,none⟩/\OH w b (o+j*5) l[j]:=by
 have hl:=j8 l;obtain⟨b,o,e,hcs⟩:=hr.ad (by omega);obtain⟨f1,f2,f3,f4,f5⟩:=Ra l j h;have g1:=hcs (j*5) (by omega);have g2:=hcs (j*5+1) (by omega);have g3:=hcs (j*5+2) (by omega);have g4:=hcs (j*5+3) (by omega);have g5:=hcs (j*5+4) (by omega);rw [As5 (by omega),As4]at f1 f2 f3 f4 f5;rw [f1]at g1;rw [f2,←Nat.add_assoc]at g2;rw [f3,←Nat.add_assoc]at g3;rw [f4,←Nat.add_assoc]at g4;rw [f5,←Nat.add_assoc]at g5;exact⟨b,o,e,g1,g2,g3,g4,g5⟩
def Kg(h x:Hf):Bool:=Aq x.a h.b&&Aq x.b h.a
def C4(l:List Hf)(h:Hf):Int:=match l.find? (Kg h)with|some x=>x.l|none=>-1
theorem Af8{l:List Hf}{h:Hf}{j:Nat}(hj:j<l.length)(hno:∀q∈l.take j,Kg h q=false)(he:Kg h l[j]=true):C4 l h=l[j].l:=by
 unfold C4
 have:l.find? (Kg h)=some l[j]:=by rw [List.find?_eq_some_iff_getElem];exact⟨he,j,hj,rfl,fun i hi=>by rw [hno l[i] (by rw [List.mem_take_iff_getElem];exact⟨i,by omega,rfl⟩)];rfl⟩
 rw [this]
theorem AfA{l:List Hf}{h:Hf}(hno:∀q∈l,Kg h q=false):C4 l h = -1:=by
 unfold C4;rw [List.find?_eq_none.2 (fun q hq=>by rw [hno q hq];simp)]
theorem Af9(l:List Hf)(h:Hf):C4 l h = -1∨∃x∈l,C4 l h=x.l:=by
 unfold C4
 cases hf:l.find? (Kg h)with
 | none=>exact .inl rfl
 | some x=>exact .inr ⟨x,List.mem_of_find?_eq_some hf,rfl⟩
theorem Xe(l:List Hf)(h:Hf)(A:Option Addr)(c:Nat)(w:World)(hr:Ad w A (Bn l))(hc:l.length<=c)(hcm:c<=9223372036854775807) :
  Calls Tryz.prog 94 #[.slice A l.length c,GL h] w (AI (C4 l h) w):=by
 have pe:=PY;have hb0:=Asz w (.cells #[S (R h.a.x),S (R h.a.y),S (R h.b.x),S (R h.b.y),.int .i64 h.l] 156);have hE:=(Ab.refl w).alloc (.cells #[S (R h.a.x),S (R h.a.y),S (R h.b.x),S (R h.b.y),.int .i64 h.l] 156);obtain⟨r,hr0⟩:=Asw (C4 l h);rw [←hr0];have HR:=Asx hr0;unfold GL;clear hr0;go_enter Tryz.func94,Tryz.ntmps94
 go_upto_region 2 with fail
 generalize w.alloc (.cells #[S (R h.a.x),S (R h.a.y),S (R h.b.x),S (R h.b.y),.int .i64 h.l] 156)=V at *;obtain⟨bp,Ap⟩:=Asw w.heap.size;rw [←Ap]at hb0 ⊢;clear Ap
 go_loopw [5] (fun i wr=>∃j:Nat,i=.int .i64 (j:Nat)/\j<=l.length/\(∀q∈l.take j,Kg h q=false)/\Ab V wr) (fun i _=>l.length-(intOf i).toNat)
 case atStart=>exact⟨0,rfl,by omega,by simp,Ab.refl _⟩
 case round=>
  obtain⟨j,rfl,hj,Ai,Ae⟩:=hrel;have HO:=Asx Ai;clear Ai;have hbr:=(Ae.block _ (Asy hb0)).trans hb0;have k1:∀q:Ac wr,q.w.cell? ⟨bp,0,none⟩=some (S (R h.a.x)):=Ac.cell (Aa (o:=0) hbr rfl);have k2:∀q:Ac wr,q.w.cell? ⟨bp,1,none⟩=some (S (R h.a.y)):=Ac.cell (Aa (o:=1) hbr rfl);have k3:∀q:Ac wr,q.w.cell? ⟨bp,2,none⟩=some (S (R h.b.x)):=Ac.cell (Aa (o:=2) hbr rfl);have k4:∀q:Ac wr,q.w.cell? ⟨bp,3,none⟩=some (S (R h.b.y)):=Ac.cell (Aa (o:=3) hbr rfl);clear hbr;by_cases hlt:j<l.length
  ·obtain⟨b,o,rfl,hf⟩:=ME (hr.ext (hE.trans Ae)) hlt;obtain⟨x,hx⟩:=Asw (l[j]);rw [←hx]at hf;obtain⟨f0,f1,f2,f3,f4⟩:=hf;have j0:∀q:Ac wr,q.w.cell? ⟨b,o+j*5,none⟩=some (S (R x.a.x)):=Ac.cell f0;have j1:∀q:Ac wr,q.w.cell? ⟨b,o+j*5+1,none⟩=some (S (R x.a.y)):=Ac.cell f1;have j2:∀q:Ac wr,q.w.cell? ⟨b,o+j*5+2,none⟩=some (S (R x.b.x)):=Ac.cell f2;have j3:∀q:Ac wr,q.w.cell? ⟨b,o+j*5+3,none⟩=some (S (R x.b.y)):=Ac.cell f3;have j4:∀q:Ac wr,q.w.cell? ⟨b,o+j*5+4,none⟩=some (.int .i64 x.l):=Ac.cell f4;have hj0:(0:Int)<=(j:Int):=(by omega);have Ay:(j:Int)<(l.length:Int):=(by omega);have HQ:=Asx hx;clear hx f0 f1 f2 f3 f4
   cases e0:Kg h x
   ·have HE:=Asx e0
    have rel:∀q∈l.take (j+1),Kg h q=false:=by
     intro y hy;rw [As3 hlt,←HQ.out]at hy
     rcases List.mem_append.1 hy with h|h
     ·exact HO.out y h
     ·simp only [AsC]at h;rw [h];exact HE.out
    have sZ:=Asx rel;clear rel;unfold Kg at e0
    cases e1:Aq x.a h.b
    ·go_upto_region 4 with fail
     refine Bh (by kernel_rfl) (by kernel_rfl) ?_
     repeat (go_big_quiet_step (fail))
     refine wpQuiet_nil ?_;rintro _ ⟨q,rfl⟩;go_wp2;go_roundw
     case rel=>exact⟨j+1,by go_num,hlt,sZ.out,Ae.trans q.h⟩
     case measure=>simp [intOf];omega
    ·rw [e1,Bool.true_and]at e0
     go_upto_region 4 with fail
     refine Bh (by kernel_rfl) (by kernel_rfl) ?_
     repeat (go_big_quiet_step (fail))
     refine wpQuiet_nil ?_;rintro _ ⟨q,rfl⟩;go_wp2;go_roundw
     case rel=>exact⟨j+1,by go_num,hlt,sZ.out,Ae.trans q.h⟩
     case measure=>simp [intOf];omega
   ·have CZ:r=x.l:=(by rw [HR.out,Af8 hlt HO.out (by rw [←HQ.out];exact e0),←HQ.out]);subst CZ;unfold Kg at e0;rw [Bool.and_eq_true]at e0;obtain⟨e1,e2⟩:=e0
    go_upto_region 4 with fail
    refine Bh (by kernel_rfl) (by kernel_rfl) ?_
    repeat (go_big_quiet_step (fail))
    refine wpQuiet_nil ?_;rintro _ ⟨q,rfl⟩;go_wp2;go_ret;exact⟨rfl,(hE.trans Ae).trans q.h⟩
  ·have hle:(l.length:Int)<=(j:Int):=(by omega);have CZ:r = -1:=(by rw [HR.out];exact AfA (by have:=HO.out;rw [As8 (by omega)]at this;exact this));subst CZ;clear k1 k2 k3 k4;go_wp2;go_ret;exact⟨rfl,hE.trans Ae⟩
end
section
open Go.RowKit Kl
theorem nM(a b:Pt)(ha:Aw 1 a)(hb:Aw 1 b)(w:World)(hw:Aj w):Calls Tryz.prog 147 #[Af a,Af b] w (AI (AY a b) w):=by
 have c1:=G0 a.x b.x (a:=1) (b:=1) ⟨ha.x,hb.x,by omega,by omega,by omega⟩;have c2:=G0 a.y b.y (a:=1) (b:=1) ⟨ha.y,hb.y,by omega,by omega,by omega⟩;have k1:=Asz w (.cells #[S (R a.x),S (R a.y)] 24);have hE:=((Ab.refl w).alloc (.cells #[S (R a.x),S (R a.y)] 24)).alloc (.cells #[S (R b.x),S (R b.y)] 24);have hb1:=(Below.heap_alloc (w.alloc (.cells #[S (R a.x),S (R a.y)] 24)) (.cells #[S (R b.x),S (R b.y)] 24) w.heap.size (by simp)).trans k1;have hb2:=Asz (w.alloc (.cells #[S (R a.x),S (R a.y)] 24)) (.cells #[S (R b.x),S (R b.y)] 24);rw [As7]at hb2
 have hl:AY a b=if AO a.x b.x≠0 then AO a.x b.x else AO a.y b.y:=rfl
 rw [hl];obtain⟨u,hu⟩:=Asw (AO a.x b.x);obtain⟨v,hv⟩:=Asw (AO a.y b.y);rw [←hu]at c1 ⊢;rw [←hv]at c2 ⊢;obtain⟨r,hr⟩:=Asw (if u≠0 then u else v);rw [←hr];have HR:=Asx hr;unfold Af;clear hr hu hv hl k1 ha hb;go_enter Tryz.func147,Tryz.ntmps147
 go_upto_region 1 with fail
 generalize (w.alloc (.cells #[S (R a.x),S (R a.y)] 24)).alloc (.cells #[S (R b.x),S (R b.y)] 24)=V at *;obtain⟨bp,Ap⟩:=Asw w.heap.size;rw [←Ap]at hb1 hb2 ⊢;clear Ap;have q1:=Aa (o:=0) hb1 rfl;have q2:=Aa (o:=0) hb2 rfl;have q3:=Aa (o:=1) hb1 rfl;have q4:=Aa (o:=1) hb2 rfl;(go_wp2_with fail);(with_reducible refine(c1 _ (hw.ext hE)).mono ?_);rintro e w1 ⟨rfl,hx1⟩;have hw1:=hw.ext (hE.trans hx1);replace q3:=hx1.cellS q3;replace q4:=hx1.cellS q4;by_cases h0:u=0
 ·subst h0;obtain rfl:r=v:=(by rw [HR.out,if_neg (by omega)]);(go_wp2_with fail);(with_reducible refine(c2 _ hw1).mono ?_);rintro e w2 ⟨rfl,hx2⟩;go_wp2;go_ret;exact⟨rfl,(hE.trans hx1).trans hx2⟩
 ·obtain rfl:r=u:=(by rw [HR.out,if_pos h0]);go_wp2;go_ret;exact⟨rfl,hE.trans hx1⟩
theorem Abi(p q:Pt):Aq p q=Aq q p:=by
 cases h:Aq q p
 ·rw [Bool.eq_false_iff]at h ⊢;exact fun k=>h (Ca.2 (Ca.1 k).symm)
 ·exact Ca.2 (Ca.1 h).symm
def Ol(a b:Hf):Bool:=decide (AY a.a b.a<0)||(decide (AY a.a b.a=0)&&decide (AY a.b b.b<0))
theorem Alr(a b:Hf)(h1:Aw 1 a.a)(h2:Aw 1 a.b)(h3:Aw 1 b.a)(h4:Aw 1 b.b)(w:World)(hw:Aj w):Calls Tryz.prog 145 #[GL a,GL b] w (BP (Ol a b) w):=by
 have c1:=nM a.a b.a h1 h3;have c2:=nM a.b b.b h2 h4;have k1:=Asz w (.cells #[S (R a.a.x),S (R a.a.y),S (R a.b.x),S (R a.b.y),.int .i64 a.l] 156);have hE:=((Ab.refl w).alloc (.cells #[S (R a.a.x),S (R a.a.y),S (R a.b.x),S (R a.b.y),.int .i64 a.l] 156)).alloc (.cells #[S (R b.a.x),S (R b.a.y),S (R b.b.x),S (R b.b.y),.int .i64 b.l] 156);have hb1:=(Below.heap_alloc (w.alloc (.cells #[S (R a.a.x),S (R a.a.y),S (R a.b.x),S (R a.b.y),.int .i64 a.l] 156)) (.cells #[S (R b.a.x),S (R b.a.y),S (R b.b.x),S (R b.b.y),.int .i64 b.l] 156) w.heap.size (by simp)).trans k1;have hb2:=Asz (w.alloc (.cells #[S (R a.a.x),S (R a.a.y),S (R a.b.x),S (R a.b.y),.int .i64 a.l] 156)) (.cells #[S (R b.a.x),S (R b.a.y),S (R b.b.x),S (R b.b.y),.int .i64 b.l] 156);rw [As7]at hb2;obtain⟨r,hr⟩:=Asw (Ol a b);rw [←hr];unfold Ol at hr;obtain⟨u,hu⟩:=Asw (AY a.a b.a);obtain⟨v,hv⟩:=Asw (AY a.b b.b);rw [←hu]at c1 hr;rw [←hv]at c2 hr;unfold GL;unfold Af at c1 c2;clear hu hv k1 h1 h2 h3 h4;go_enter Tryz.func145,Tryz.ntmps145
 go_upto_region 1 with fail
 generalize (w.alloc (.cells #[S (R a.a.x),S (R a.a.y),S (R a.b.x),S (R a.b.y),.int .i64 a.l] 156)).alloc (.cells #[S (R b.a.x),S (R b.a.y),S (R b.b.x),S (R b.b.y),.int .i64 b.l] 156)=V at *;obtain⟨bp,Ap⟩:=Asw w.heap.size;rw [←Ap]at hb1 hb2 ⊢;clear Ap;have q1:=Aa (o:=0) hb1 rfl;have q2:=Aa (o:=1) hb1 rfl;have q3:=Aa (o:=2) hb1 rfl;have q4:=Aa (o:=3) hb1 rfl;have p1:=Aa (o:=0) hb2 rfl;have p2:=Aa (o:=1) hb2 rfl;have p3:=Aa (o:=2) hb2 rfl;have p4:=Aa (o:=3) hb2 rfl;(go_wp2_with fail);(with_reducible refine(c1 _ (hw.ext hE)).mono ?_);rintro e w1 ⟨rfl,hx1⟩;have hx:=hE.trans hx1;have hw1:=hw.ext hx;replace q3:=hx1.cellS q3;replace q4:=hx1.cellS q4;replace p3:=hx1.cellS p3;replace p4:=hx1.cellS p4;clear q1 q2 p1 p2 hb1 hb2 hE hx1 c1;by_cases g1:u<0
 ·rw [decide_eq_true g1,Bool.true_or]at hr;subst hr;go_wp2;go_ret;exact⟨rfl,hx⟩
 ·have d1:decide (u<0)=false:=decide_eq_false g1;rw [d1,Bool.false_or]at hr;by_cases g2:u=0
  ·subst g2;rw [decide_eq_true rfl,Bool.true_and]at hr;have HR:=Asx hr;clear hr d1 g1;(go_wp2_with fail);(with_reducible refine(c2 _ hw1).mono ?_);rintro e w2 ⟨rfl,hx2⟩;go_wp2;go_ret;exact⟨by rw [HR.out];rfl,hx.trans hx2⟩
  ·have d2:decide (u=0)=false:=decide_eq_false g2;rw [d2,Bool.false_and]at hr;subst hr;go_wp2;go_ret;exact⟨rfl,hx⟩
theorem zb(l:List Pt)(p:Pt)(A:Option Addr)(c:Nat)(v1 v2:Value)(w:World)(hr:Ad w A (flat (Ag l)))(hc:l.length<=c)(hcm:c<=9223372036854775807) :
  Calls Tryz.prog 148 #[.agg #[.slice A l.length c,v1,v2],Af p] w (AI (CW l p) w):=by
 have pe:=PY;have k1:=Asz w (.cells #[.slice A l.length c,v1,v2] 35);have hE:=((Ab.refl w).alloc (.cells #[.slice A l.length c,v1,v2] 35)).alloc (.cells #[S (R p.x),S (R p.y)] 24);have hb1:=(Below.heap_alloc (w.alloc (.cells #[.slice A l.length c,v1,v2] 35)) (.cells #[S (R p.x),S (R p.y)] 24) w.heap.size (by simp)).trans k1;have hb2:=Asz (w.alloc (.cells #[.slice A l.length c,v1,v2] 35)) (.cells #[S (R p.x),S (R p.y)] 24);rw [As7]at hb2;obtain⟨r,hr0⟩:=Asw (CW l p);rw [←hr0];have HR:=Asx hr0;unfold Af;clear hr0 k1;go_enter Tryz.func148,Tryz.ntmps148
 go_upto_region 2 with fail
 generalize (w.alloc (.cells #[.slice A l.length c,v1,v2] 35)).alloc (.cells #[S (R p.x),S (R p.y)] 24)=V at *;obtain⟨bp,Ap⟩:=Asw w.heap.size;rw [←Ap]at hb1 hb2 ⊢;clear Ap
 go_loopw [5] (fun i wr=>∃j:Nat,i=.int .i64 (j:Nat)/\j<=l.length/\(∀q∈l.take j,Aq p q=false)/\Ab V wr) (fun i _=>l.length-(intOf i).toNat)
 case atStart=>exact⟨0,rfl,by omega,by simp,Ab.refl _⟩
 case round=>
  obtain⟨j,rfl,hj,Ai,Ae⟩:=hrel;have HO:=Asx Ai;clear Ai;have hbr:=(Ae.block _ (Asy hb1)).trans hb1;have jJ:=(Ae.block _ (Asy hb2)).trans hb2;have m0:=Aa (o:=0) hbr rfl;have n0:∀q:Ac wr,q.w.cell? ⟨bp,0,none⟩=some (.slice A l.length c):=Ac.cell m0;have n1:∀q:Ac wr,q.w.cell? ⟨bp+1,0,none⟩=some (S (R p.x)):=Ac.cell (Aa (o:=0) jJ rfl);have n2:∀q:Ac wr,q.w.cell? ⟨bp+1,1,none⟩=some (S (R p.y)):=Ac.cell (Aa (o:=1) jJ rfl);clear hbr jJ;by_cases hlt:j<l.length
  ·obtain⟨b,o,hA,hg1,hg2⟩:=BN (hr.ext (hE.trans Ae)) hlt;obtain⟨q,hq⟩:=Asw (l[j]);rw [←hq]at hg1 hg2;have j1:∀z:Ac wr,z.w.cell? ⟨b,o+j*2,none⟩=some (S (R q.x)):=Ac.cell hg1;have j2:∀z:Ac wr,z.w.cell? ⟨b,o+j*2+1,none⟩=some (S (R q.y)):=Ac.cell hg2;have hj0:(0:Int)<=(j:Int):=(by omega);have Ay:(j:Int)<(l.length:Int):=(by omega);have HQ:=Asx hq;subst hA;clear hq hg1 hg2
   cases e0:Aq p q
   ·have HE:=Asx e0;have e1:Aq q p=false:=(by rw [←e0];exact Abi q p);clear e0
    go_upto_region 4 with fail
    refine Bh (by kernel_rfl) (by kernel_rfl) ?_
    repeat (go_big_quiet_step (fail))
    refine wpQuiet_nil ?_;rintro _ ⟨z,rfl⟩;go_wp2;go_roundw
    case rel=>
     refine⟨j+1,by go_num,hlt,?_,Ae.trans z.h⟩;intro x hx;rw [As3 hlt,←HQ.out]at hx
     rcases List.mem_append.1 hx with h|h
     ·exact HO.out x h
     ·simp only [AsC]at h;rw [h];exact HE.out
    case measure=>simp [intOf];omega
   ·have CZ:r=(j:Int):=(by rw [HR.out];exact xk hlt HO.out (by rw [←HQ.out];exact e0));have e1:Aq q p=true:=(by rw [←e0];exact Abi q p);clear e0;subst CZ
    go_upto_region 4 with fail
    refine Bh (by kernel_rfl) (by kernel_rfl) ?_
    repeat (go_big_quiet_step (fail))
    refine wpQuiet_nil ?_;rintro _ ⟨z,rfl⟩;go_wp2;go_ret;exact⟨rfl,(hE.trans Ae).trans z.h⟩
  ·have hle:(l.length:Int)<=(j:Int):=(by omega);have CZ:r = -1:=(by rw [HR.out];exact xm (by have:=HO.out;rw [As8 (by omega)]at this;exact this));subst CZ;clear n0 n1 n2;go_wp2;go_ret;exact⟨rfl,hE.trans Ae⟩
end
section
open Go.RowKit Kl
def tL(l:List Hf):Prop:=∀h∈l,CB h.a/\CB h.b
def IY(l:List Hf)(p:Pt):Nat:=l.countP (fun h=>Aq h.a p)
end
end Go.Proofs.YtnddllipjippnaaGreatDoor
