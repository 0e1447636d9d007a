/- J21: H5 H6 Q1 Q2 Q3 Q4 Q5 QA. -/
import Derived.Test.YtnddllipjippnaaGreatDoorJ20
set_option maxRecDepth 100000
set_option maxHeartbeats 4000000
namespace Go.Proofs.YtnddllipjippnaaGreatDoor
section
open Go.RowKit Kl
theorem Af.of_own'{w:World}{base:Nat}{e:TypeId}{size:Nat}(_:0<size){v:Value}{n:Nat}{xs:List Value}(h:w.ownsRow base e size v n xs) :
  ∃A c,v=.slice A n c/\Af w A xs/\n<=c/\c<=9223372036854775807:=by
 obtain⟨hl,h⟩:=h
 rcases h with⟨rfl,rfl⟩|⟨g,cap,cur,rfl,hb,hg,hn,hm,hs,ht⟩
 ·exact⟨none,0,rfl,⟨fun h1=>by omega⟩,by omega,by omega⟩
 ·refine⟨some ⟨g,0,none⟩,cap,rfl,⟨fun _=>⟨g,0,rfl,fun j hj=>?_⟩⟩,hn,by unfold maxLen at hm;omega⟩;have hh:w.ownsRow base e size (.slice (some ⟨g,0,none⟩) n cap) n xs:=⟨hl,.inr ⟨g,cap,cur,rfl,hb,hg,hn,hm,hs,ht⟩⟩;rw [Nat.zero_add,hh.cellAt j (by omega),AoC hj]
theorem UF{o:Oper}{a:Act}{K:Act→World→Prop}{Q:Exit→Act→World→Prop}(s x:Operand)(t:TypeId)(ho:o.op=.call {callee:=.builtin .append,args:=#[s,x],argTypes:=#[t,t]})
  (e:TypeId) (i:TypeInfo) (z:Value) (size bytes:Nat) (ht:Tryz.prog.underlying t=some (.slice e)) (hi:Tryz.prog.info? e=some i) (hz:i.zero=some z)
  (hsize:i.size=size) (hby:i.bytes=bytes) (hzs:z.cells.size=size) (hsz:0<size) (dH:bytes<=64)
  (wN:World) (base:Nat) (v:Value) (n:Nat) (xs:List Value) (hs:a.eval s=v) (hown:wN.ownsRow base e size v n xs) (hn:n<200000)
  (g:Nat) (cs:Array Value) (hb:wN.heap[g]?=some (.cells cs e)) (hcs:cs.size=size) (h1:∀u∈cs.toList,u.oneCell'=true)
  (hx:a.eval x=.slice (some ⟨g,0,none⟩) 1 1) (hbase:base<=wN.heap.size)
  (h:∀v' w',w'.ownsRow base e size v' (n+1) (xs++cs.toList)→(∀w0,Ab w0 wN→w0.heap.size<=base→Ab w0 w')→wN.grownBy w' v.ownBlock→K (a.put o.dst v') w') :
  o.wp Tryz.prog a wN K Q:=by
 have To:(n+1)*bytes<=140737488355328:=AoH (Nat.mul_le_mul (show n+1<=200000 by omega) dH) (by omega);have De:n+1<=maxLen:=(by unfold maxLen;omega);refine wp_append_own _ s x t ho base e i z size bytes ht hi hz hsize hby hzs hsz v n xs hs hown ⟨g,0,none⟩ 1 1 cs.toList hx ?_ ?_ h1 De To hbase ?_
 ·simp [hcs]
 ·intro j u hu;rw [Addr.add_lit,Nat.zero_add];refine Aa hb ?_;rw [←Array.getElem?_toList];exact hu
 ·intro v' w' h2 h3 _;refine h v' w' h2 (fun w0 he Br=>?_) h3
  exact he.grown h3 fun k hk=>by
   rcases hown.2 with⟨rfl,_⟩|⟨g,cap,cur,rfl,hb',_⟩
   ·cases hk
   ·simp only [Value.ownBlock,AoB]at hk;omega
def Cu(l:List Sg):List Value:=l.flatMap fun s=>[S (R s.a.x),S (R s.a.y),S (R s.b.x),S (R s.b.y)]
theorem r7(l:List Sg)(d:Sg):Cu (l ++ [d])=Cu l ++ [S (R d.a.x),S (R d.a.y),S (R d.b.x),S (R d.b.y)]:=by unfold Cu;simp
theorem kY(l:List Pt)(d:Pt):flat (Aq (l ++ [d]))=flat (Aq l) ++ [S (R d.x),S (R d.y)]:=by unfold Aq flat;simp [Ma]
theorem Tryz.infoPt:(Tryz.prog.info? 24).map (fun i=>(i.zero,i.size,i.bytes))=some (some (.agg #[S [],S []]),2,32):=by kernel_rfl
section
variable {ops : Array Oper} {rest : List Oper} {o : Oper} {a : Act} {K : Act → World → Prop} {Q : Exit → Act → World → Prop} {E : Prop}
theorem xl(s x:Operand)(ho:o.op=.call {callee:=.builtin .append,args:=#[s,x],argTypes:=#[31,31]})
  (wN:World) (base:Nat) (v:Value) (n:Nat) (l:List Pt) (hs:a.eval s=v) (hown:wN.ownsRow base 24 2 v n (flat (Aq l))) (hn:n<200000) (d:Pt)
  (g:Nat) (hb:wN.heap[g]?=some (.cells #[S (R d.x),S (R d.y)] 24)) (hx:a.eval x=.slice (some ⟨g,0,none⟩) 1 1) (hbase:base<=wN.heap.size)
  (h:∀v' w',w'.ownsRow base 24 2 v' (n+1) (flat (Aq (l ++ [d])))→(∀w0,Ab w0 wN→w0.heap.size<=base→Ab w0 w')→wN.grownBy w' v.ownBlock→K (a.put o.dst v') w') :
  o.wp Tryz.prog a wN K Q:=by
 obtain⟨i0,hi,hz0,hz1,hz2⟩:=info_parts Tryz.infoPt;refine UF s x 31 ho 24 i0 _ 2 32 Tryz.underlying31 hi hz0 hz1 hz2 rfl (by omega) (by omega) wN base v n _ hs hown hn g _ hb rfl ?_ hx hbase ?_
 ·intro u hu;simp only [List.mem_cons,AoI,or_false]at hu
  rcases hu with rfl|rfl<;>rfl
 ·intro v' w' h1 h2 h3;exact h v' w' (by rw [kY];exact h1) h2 h3
theorem Ab9(hgd:o.guard=none)(s x:Operand)(ho:o.op=.call {callee:=.builtin .append,args:=#[s,x],argTypes:=#[31,31]})
  (wN:World) (base:Nat) (v:Value) (n:Nat) (l:List Pt) (hs:a.eval s=v) (hown:wN.ownsRow base 24 2 v n (flat (Aq l))) (hn:n<200000) (d:Pt)
  (g:Nat) (hb:wN.heap[g]?=some (.cells #[S (R d.x),S (R d.y)] 24)) (hx:a.eval x=.slice (some ⟨g,0,none⟩) 1 1) (hbase:base<=wN.heap.size)
  (h:∀v' w',w'.ownsRow base 24 2 v' (n+1) (flat (Aq (l ++ [d])))→(∀w0,Ab w0 wN→w0.heap.size<=base→Ab w0 w')→wpList Tryz.prog ops Q rest (a.put o.dst v') w') :
  wpList Tryz.prog ops Q (o::rest) a wN:=
 wpList_plain hgd fun _ hK=>xl s x ho wN base v n l hs hown hn d g hb hx hbase fun v' w' h1 h2 _=>hK _ _ (h v' w' h1 h2)
theorem Alk(hgd:o.guard=none)(s x:Operand)(ho:o.op=.call {callee:=.builtin .append,args:=#[s,x],argTypes:=#[31,31]})
  (wN:World) (base:Nat) (v:Value) (n:Nat) (l:List Pt) (hs:a.eval s=v) (hown:wN.ownsRow base 24 2 v n (flat (Aq l))) (hn:n<200000) (d:Pt)
  (g:Nat) (hb:wN.heap[g]?=some (.cells #[S (R d.x),S (R d.y)] 24)) (hx:a.eval x=.slice (some ⟨g,0,none⟩) 1 1) (hbase:base<=wN.heap.size)
  (h:∀v' w',w'.ownsRow base 24 2 v' (n+1) (flat (Aq (l ++ [d])))→(∀w0,Ab w0 wN→w0.heap.size<=base→Ab w0 w')→wN.grownBy w' v.ownBlock→K (a.put o.dst v') w') :
  if Region.wanted o (yielded ops a.tmps)=true then Oper.wp Tryz.prog o a wN K Q else E:=by
 have hw:Region.wanted o (yielded ops a.tmps)=true:=(by simp [Region.wanted,hgd]);rw [if_pos hw];exact xl s x ho wN base v n l hs hown hn d g hb hx hbase h
end
end
section
open Go.RowKit Kl
theorem AlJ(l:List Pt)(hz:∀p∈l,Az 200 p)(A:Option Addr)(c:Nat)(w:World)(hw:Am w)(hr:Af w A (flat (Aq l)))(hc:l.length<=c)(hcm:c<=9223372036854775807) :
  Calls Tryz.prog 115 #[.slice A l.length c] w (AI 0 w):=by
 have HL:=Ao4 hz;clear hz;go_enter Tryz.func115,Tryz.ntmps115
 go_upto_region 2 with fail
 go_loopw [8] (fun i wr=>∃j:Nat,i=.int .i64 (j:Nat)/\j<=l.length/\Ab w wr) (fun i _=>l.length-(intOf i).toNat)
 case atStart=>exact⟨0,rfl,by omega,Ab.refl _⟩
 case round=>
  obtain⟨j,rfl,hj,Ac⟩:=hrel;by_cases hlt:j<l.length
  ·obtain⟨b,o,rfl,hg1,hg2⟩:=Co (hr.ext Ac) hlt;have hp:=HL.out _ (Ao8 hlt);obtain⟨p,TQ⟩:=Ao3 (l[j]);rw [←TQ]at hg1 hg2 hp;clear TQ;have ck:=GF (R p.x) (R p.y) true (by simp [LX hp.x (by omega) (by omega),LX hp.y (by omega) (by omega)]) (by have:=MC (by omega) hp.x;omega) (by have:=MC (by omega) hp.y;omega);rw [Ek]at ck;have hx1:=Ac.alloc (.cells #[S (R p.x),S (R p.y)] 24);have hj0:(0:Int)<=(j:Int):=(by omega);have Bc:(j:Int)<(l.length:Int):=(by omega);clear hp;(go_wp2_with fail);(with_reducible refine(ck _ (hw.ext hx1)).mono ?_);rintro e w2 ⟨rfl,hx2⟩;go_wp2;go_roundw
   case rel=>exact⟨j+1,by go_num,hlt,hx1.trans hx2⟩
   case measure=>simp [intOf];omega
  ·have hle:(l.length:Int)<=(j:Int):=(by omega);go_wp2;go_ret;exact⟨rfl,Ac⟩
end
section
open Go.RowKit Kl
theorem AgC(z:Int)(w:World):Calls Tryz.prog 210 #[S (I z)] w (By (D z.natAbs) w):=by
 have t:=mA (I z) [45];rw [lZ]at t;go_enter Tryz.func210,Tryz.ntmps210;(go_wp2_with fail);(with_reducible refine(t _).mono ?_);rintro e w1 ⟨rfl,hx⟩;go_wp2;go_ret;exact⟨rfl,hx⟩
theorem kx(q:Rat)(hq:Sz 200 q)(w:World)(hw:Am w):Calls Tryz.prog 167 #[S (R q)] w (BF false w):=by
 have p:=qw q (by omega) (by omega) hq w hw;have ab:=AgC q.num;have l1:=GA (by omega) hq.num;have l2:=GA (by omega) hq.den;unfold QS at p;obtain⟨n,hn⟩:=Ao3 (D q.num.natAbs);obtain⟨d,hd⟩:=Ao3 (D q.den);rw [←hn]at ab l1;rw [←hd]at p l2;have n1:¬((n.length:Int)>200):=(by omega);have n2:¬((d.length:Int)>200):=(by omega);clear hn hd l1 l2;go_enter Tryz.func167,Tryz.ntmps167;(go_wp2_with fail);(with_reducible refine p.mono ?_);rintro e w1 ⟨rfl,hx⟩;(go_wp2_with fail);(with_reducible refine(ab _).mono ?_);rintro e w2 ⟨rfl,hx2⟩;go_wp2;go_ret;exact⟨by simp [n1,n2],hx.trans hx2⟩
def Rc(p:Pt):Value:=.tuple #[Ak p,.int .i64 0]
theorem AlI(x y:Rat)(hx:Sz 200 x)(hy:Sz 200 y)(w:World)(hw:Am w):Calls Tryz.prog 116 #[S (R x),S (R y)] w (BG (Rc ⟨x,y⟩) w):=by
 have l1:=kx x hx;have l2:=kx y hy;have hb:=Ao6 w (.cells #[S [],S []] 24);have hE:=(Ab.refl w).alloc (.cells #[S [],S []] 24);unfold Rc Ak;clear hx hy;go_enter Tryz.func116,Tryz.ntmps116;(go_wp2_with fail);rw [show (⟨#[]⟩:ByteArray)=⟨([]:Bs).toArray⟩from rfl];(with_reducible refine(l1 _ (hw.ext hE)).mono ?_);rintro e w1 ⟨rfl,hx⟩;replace hb:=(hx.block _ (Ao5 hb)).trans hb;replace hE:=hE.trans hx;(go_wp2_with fail);(with_reducible refine(l2 _ (hw.ext hE)).mono ?_);rintro e w2 ⟨rfl,hx2⟩;replace hb:=(hx2.block _ (Ao5 hb)).trans hb;replace hE:=hE.trans hx2;have g1:=Aa (o:=0) hb rfl;have g2:=Aa (o:=1) hb rfl;have g3:=Aj (o:=0) hb;have g4:=Aj (o:=1) hb;obtain⟨e1,e2⟩:=set2 (S (R x)) (S (R y)) g1 g2;go_wp2;refine bodyPost_ret (v:=.tuple #[.agg #[S (R x),S (R y)],.int .i64 0]) (by simp [results,Tryz.results116,go_sem,e1,e2]) rfl ?_;exact⟨rfl,(hE.setCell (Ao7 _) _).setCell (Ao7 _) _⟩
theorem ww(a b k:Rat)(ha:Sz 50 a)(hb:Sz 50 b)(hk:Sz 50 k)(w:World)(hw:Am w):Calls Tryz.prog 117 #[S (R a),S (R b),S (R k)] w (By (R (KH a b k)) w):=by
 have s1:=Hi b a (a:=50) (b:=50) ⟨hb,ha,by omega,by omega,by omega⟩;have m1:=Pe k (b-a) (a:=50) (b:=101) ⟨hk,hb.sub ha,by omega,by omega,by omega⟩;have a1:=Yl a (k*(b-a)) (a:=50) (b:=151) ⟨ha,hk.mul (hb.sub ha),by omega,by omega,by omega⟩;have e:KH a b k=a+k*(b-a):=rfl;rw [e];clear ha hb hk e;go_enter Tryz.func117,Tryz.ntmps117;(go_wp2_with fail);(with_reducible refine(s1 _ hw).mono ?_);rintro e w1 ⟨rfl,hx1⟩;(go_wp2_with fail);(with_reducible refine(m1 _ (hw.ext hx1)).mono ?_);rintro e w2 ⟨rfl,hx2⟩;have Ca:=hx1.trans hx2;(go_wp2_with fail);(with_reducible refine(a1 _ (hw.ext Ca)).mono ?_);rintro e w3 ⟨rfl,hx3⟩;go_wp2;go_ret;exact⟨rfl,Ca.trans hx3⟩
theorem AlK(a b:Pt)(k:Rat)(ha:Az 20 a)(hb:Az 20 b)(hk:Sz 20 k)(w:World)(hw:Am w):Calls Tryz.prog 64 #[Ak a,Ak b,S (R k)] w (BG (Rc ⟨KH a.x b.x k,KH a.y b.y k⟩) w):=by
 have s1:=ww a.x b.x k (ha.x.mono (by omega)) (hb.x.mono (by omega)) (hk.mono (by omega));have s2:=ww a.y b.y k (ha.y.mono (by omega)) (hb.y.mono (by omega)) (hk.mono (by omega));have pc:=AlI (KH a.x b.x k) (KH a.y b.y k) ((vn ha.x hb.x hk).mono (by omega)) ((vn ha.y hb.y hk).mono (by omega))
 have hl:∀p∈[a,b],Az 200 p:=by
  intro p hp;simp only [List.mem_cons,AoI,or_false]at hp
  rcases hp with rfl|rfl
  ·exact⟨ha.x.mono (by omega),ha.y.mono (by omega)⟩
  ·exact⟨hb.x.mono (by omega),hb.y.mono (by omega)⟩
 have nb:=mq [R k] true (by simp [XX,LX hk (by omega) (by omega)]);obtain⟨W,hW,hE,hb1,hb2,hb3⟩:=Oe w (.cells #[S (R a.x),S (R a.y)] 24) (.cells #[S (R b.x),S (R b.y)] 24) (.cells #[S [],S []] 24);have pt:Calls Tryz.prog 115 #[.slice (some ⟨W.heap.size,0,none⟩) 2 2] (W.alloc (.cells #[S (R a.x),S (R a.y),S (R b.x),S (R b.y)] 24)) (AI 0 _):=AlJ [a,b] hl (some ⟨W.heap.size,0,none⟩) 2 (W.alloc (.cells #[S (R a.x),S (R a.y),S (R b.x),S (R b.y)] 24)) ((hw.ext hE).ext ((Ab.refl W).alloc _)) (Af.lit W #[S (R a.x),S (R a.y),S (R b.x),S (R b.y)] 24) (by simp) (by omega);have SI:=(Ab.refl W).alloc (.cells #[S (R a.x),S (R a.y),S (R b.x),S (R b.y)] 24);have Ce:(R k).length<100000:=(by have:=MC (by omega) hk;omega);have NA:∀(W1:World) (hw1:Am W1),Calls Tryz.prog 61 #[.slice (some ⟨W1.heap.size,0,none⟩) 1 1] (W1.alloc (.cells #[S (R k)] 22)) (AI (FY true) _):=fun (W1:World) (hw1:Am W1)=>nb (some ⟨W1.heap.size,0,none⟩) 1 (W1.alloc (.cells #[S (R k)] 22)) (hw1.ext ((Ab.refl W1).alloc _)) (Af.lit W1 #[S (R k)] 22) (by simp) (by omega) (by simp) (by simpa using Ce);rw [Ek]at NA;unfold Rc Ak at pc ⊢;clear ha hb hk hl nb;obtain⟨p,hp⟩:=Ao3 (KH a.x b.x k);obtain⟨q,hq⟩:=Ao3 (KH a.y b.y k);rw [←hp]at s1 pc ⊢;rw [←hq]at s2 pc ⊢;clear hp hq;go_enter Tryz.func64,Tryz.ntmps64
 go_upto_region 1 with fail
 rw [show (⟨#[]⟩:ByteArray)=⟨([]:Bs).toArray⟩from rfl,←hW];clear hW;have k1:=Aa (o:=0) hb1 rfl;have k2:=Aa (o:=1) hb1 rfl;have k3:=Aa (o:=0) hb2 rfl;have k4:=Aa (o:=1) hb2 rfl;(go_wp2_with fail);(with_reducible refine pt.mono ?_);rintro e w1 ⟨rfl,hx1⟩;have hx2:=SI.trans hx1;have hw1:=hw.ext (hE.trans hx2);clear k1 k2 k3 k4;(go_wp2_with fail);(with_reducible refine(NA _ hw1).mono ?_);rintro e w2 ⟨rfl,hx3⟩;have Ag:=(hx2.alloc (.cells #[S (R k)] 22)).trans hx3;have h1:=(Ag.block _ (Ao5 hb1)).trans hb1;have h2:=(Ag.block _ (Ao5 hb2)).trans hb2;have h3:=(Ag.block _ (Ao5 hb3)).trans hb3;have EU:=hE.trans Ag;have hw2:=hw.ext EU;have k1:=Aa (o:=0) h1 rfl;have k2:=Aa (o:=1) h1 rfl;have k3:=Aa (o:=0) h2 rfl;have k4:=Aa (o:=1) h2 rfl;have X:Ab w2 w2:=Ab.refl w2
 have SO:∀w',Ab w2 w'→(w'.cell? ⟨w.heap.size,0,none⟩=some (S (R a.x))/\w'.cell? ⟨w.heap.size,1,none⟩=some (S (R a.y))/\w'.cell? ⟨w.heap.size+1,0,none⟩=some (S (R b.x))/\w'.cell? ⟨w.heap.size+1,1,none⟩=some (S (R b.y))):=fun w' h=>⟨h.cellS k1,h.cellS k2,h.cellS k3,h.cellS k4⟩
 have xC:=h3;clear h1 h2 hb1 hb2 hb3 hx1 hx2 hx3 Ag pt NA SI hw1 h3
 go_upto_region 7 with fail
 go_region_held3 (fun w'=>w'.cell? ⟨w.heap.size,0,none⟩=some (S (R a.x))/\w'.cell? ⟨w.heap.size,1,none⟩=some (S (R a.y))/\w'.cell? ⟨w.heap.size+1,0,none⟩=some (S (R b.x))/\w'.cell? ⟨w.heap.size+1,1,none⟩=some (S (R b.y)))
  (first|with_reducible exact SO _ X|with_reducible exact SO _ X.drew|(refine⟨?_,?_,?_,?_⟩<;>(rw [World.cell?_setCell_far _ _ _ _ (by simp only [ne_eq];omega),World.cell?_setCell_far _ _ _ _ (by simp only [ne_eq];omega)];first|exact(SO _ X).1|exact(SO _ X).2.1|exact(SO _ X).2.2.1|exact(SO _ X).2.2.2)))
  (first|((with_reducible refine(s1 _ (hw2.ext (by first|exact X|exact X.drew))).mono ?_);rintro e w3 ⟨rfl,hx1⟩;replace X:Ab w2 w3:=(by first|exact X.trans hx1|exact X.drew.trans hx1))|((with_reducible refine(s2 _ (hw2.ext (by first|exact X|exact X.drew))).mono ?_);rintro e w3 ⟨rfl,hx1⟩;replace X:Ab w2 w3:=(by first|exact X.trans hx1|exact X.drew.trans hx1))|((with_reducible refine(pc _ (hw2.ext (by first|exact X|exact X.drew))).mono ?_);rintro e w3 ⟨rfl,hx1⟩;replace X:Ab w2 w3:=(by first|exact X.trans hx1|exact X.drew.trans hx1);have hb3:=(X.block _ (Ao5 xC)).trans xC;have g1:=Aa (o:=0) hb3 rfl;have g2:=Aa (o:=1) hb3 rfl;have g3:=Aj (o:=0) hb3;have g4:=Aj (o:=1) hb3))
 obtain⟨e1,e2⟩:=set2 (S (R p)) (S (R q)) g1 g2;go_wp2;refine bodyPost_ret (v:=.tuple #[.agg #[S (R p),S (R q)],.int .i64 0]) (by simp [results,Tryz.results64,go_sem,e1,e2]) rfl ?_;exact⟨rfl,((EU.trans X).setCell (by show w.heap.size<=w.heap.size+1+1;omega) _).setCell (by show w.heap.size<=w.heap.size+1+1;omega) _⟩
end
section
open Go.RowKit Kl
theorem DT{w:World}{b:Nat}{a0 a1 a2:Value}{t:TypeId}(v0 v1 v2:Value)(h:w.heap[b]?=some (.cells #[a0,a1,a2] t)) :
  (((w.setCell ⟨b,0,none⟩ v0).setCell ⟨b,1,none⟩ v1).setCell ⟨b,2,none⟩ v2).heap[b]?=some (.cells #[v0,v1,v2] t):=by
 simp only [World.setCell,Array.getElem?_modify,h];simp
end
section
open Go.RowKit Kl
theorem IK{w:World}{B B':Nat}{e:TypeId}{size:Nat}{v:Value}{n:Nat}{xs:List Value}(h:w.ownsRow B e size v n xs)(hB:B'<=B):w.ownsRow B' e size v n xs:=by
 refine⟨h.1,?_⟩
 rcases h.2 with h'|⟨g,cap,cur,h1,h2,h3⟩
 ·exact .inl h'
 ·exact .inr ⟨g,cap,cur,h1,AoH hB h2,h3⟩
theorem XK{a b:World}(_:Ab a b):∃x,x=b:=⟨b,rfl⟩
theorem mI{o:Oper}{a:Act}{K:Act→World→Prop}{Q:Exit→Act→World→Prop}(s x:Operand)(t:TypeId)(ho:o.op=.call {callee:=.builtin .append,args:=#[s,x],argTypes:=#[t,t]})
  (e:TypeId) (i:TypeInfo) (z:Value) (size bytes m:Nat) (ht:Tryz.prog.underlying t=some (.slice e)) (hi:Tryz.prog.info? e=some i) (hz:i.zero=some z)
  (hsize:i.size=size) (hby:i.bytes=bytes) (hzs:z.cells.size=size) (hsz:0<size) (dH:bytes<=512) (hm:m<=10)
  (wN:World) (base:Nat) (v:Value) (n:Nat) (xs:List Value) (hs:a.eval s=v) (hown:wN.ownsRow base e size v n xs) (hn:n<200000)
  (g:Nat) (cs:Array Value) (hb:wN.heap[g]?=some (.cells cs e)) (hcs:cs.size=m*size) (h1:∀u∈cs.toList,u.oneCell'=true)
  (hx:a.eval x=.slice (some ⟨g,0,none⟩) m m) (hbase:base<=wN.heap.size)
  (h:∀v' w',w'.ownsRow base e size v' (n+m) (xs++cs.toList)→(∀w0,Ab w0 wN→w0.heap.size<=base→Ab w0 w')→wN.grownBy w' v.ownBlock→K (a.put o.dst v') w') :
  o.wp Tryz.prog a wN K Q:=by
 have To:(n+m)*bytes<=140737488355328:=AoH (Nat.mul_le_mul (show n+m<=200010 by omega) dH) (by omega);have De:n+m<=maxLen:=(by unfold maxLen;omega);refine wp_append_own _ s x t ho base e i z size bytes ht hi hz hsize hby hzs hsz v n xs hs hown ⟨g,0,none⟩ m m cs.toList hx ?_ ?_ h1 De To hbase ?_
 ·simp [hcs]
 ·intro j u hu;rw [Addr.add_lit,Nat.zero_add];refine Aa hb ?_;rw [←Array.getElem?_toList];exact hu
 ·intro v' w' h2 h3 _;refine h v' w' h2 (fun w0 he Br=>?_) h3
  exact he.grown h3 fun k hk=>by
   rcases hown.2 with⟨rfl,_⟩|⟨g,cap,cur,rfl,hb',_⟩
   ·cases hk
   ·simp only [Value.ownBlock,AoB]at hk;omega
theorem Tryz.infoEd:(Tryz.prog.info? 51).map (fun i=>(i.zero,i.size,i.bytes))=some (some (.agg #[.int .i64 0,.int .i64 0,.int .i64 0,.int .i64 0]),4,32):=by kernel_rfl
end
end Go.Proofs.YtnddllipjippnaaGreatDoor
