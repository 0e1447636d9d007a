/- K17: ShH5 ShH6 ShQ1 ShQ2 ShQ3 ShQ4 ShQ5 ShQA. -/
import Derived.Test.YtgnejnampofhoaaGreatDoorK16
set_option maxRecDepth 100000
set_option maxHeartbeats 4000000
namespace Go.Proofs.YtgnejnampofhoaaGreatDoor
section
open Go.RowKit Kl
theorem Ae.of_own'{w:World}{base:Nat}{e:TypeId}{size:Nat}(_:0<size){v:Value}{n:Nat}{xs:List Value}(h:w.ownsRow base e size v n xs) :
  ∃A c,v=.slice A n c/\Ae w A xs/\n<=c/\c<=9223372036854775807:=by
 obtain⟨hl,h⟩:=h
 rcases h with⟨rfl,rfl⟩|⟨g,cap,cur,rfl,hb,hg,hn,hm,hs,ht⟩
 ·exact⟨none,0,rfl,⟨fun h1=>by omega⟩,by omega,by omega⟩
 ·refine⟨some ⟨g,0,none⟩,cap,rfl,⟨fun _=>⟨g,0,rfl,fun j hj=>?_⟩⟩,hn,by unfold maxLen at hm;omega⟩;have hh:w.ownsRow base e size (.slice (some ⟨g,0,none⟩) n cap) n xs:=⟨hl,.inr ⟨g,cap,cur,rfl,hb,hg,hn,hm,hs,ht⟩⟩;rw [Nat.zero_add,hh.cellAt j (by omega),Aj4 hj]
theorem Sx{o:Oper}{a:Act}{K:Act→World→Prop}{Q:Exit→Act→World→Prop}(s x:Operand)(t:TypeId)(ho:o.op=.call {callee:=.builtin .append,args:=#[s,x],argTypes:=#[t,t]})
  (e:TypeId) (i:TypeInfo) (z:Value) (size bytes:Nat) (ht:Tryz.prog.underlying t=some (.slice e)) (hi:Tryz.prog.info? e=some i) (hz:i.zero=some z)
  (hsize:i.size=size) (hby:i.bytes=bytes) (hzs:z.cells.size=size) (hsz:0<size) (YA:bytes<=64)
  (wN:World) (base:Nat) (v:Value) (n:Nat) (xs:List Value) (hs:a.eval s=v) (hown:wN.ownsRow base e size v n xs) (hn:n<200000)
  (g:Nat) (cs:Array Value) (hb:wN.heap[g]?=some (.cells cs e)) (hcs:cs.size=size) (h1:∀u∈cs.toList,u.oneCell'=true)
  (hx:a.eval x=.slice (some ⟨g,0,none⟩) 1 1) (hbase:base<=wN.heap.size)
  (h:∀v' w',w'.ownsRow base e size v' (n+1) (xs++cs.toList)→(∀w0,Ac w0 wN→w0.heap.size<=base→Ac w0 w')→wN.grownBy w' v.ownBlock→K (a.put o.dst v') w') :
  o.wp Tryz.prog a wN K Q:=by
 have QY:(n+1)*bytes<=140737488355328:=Aj9 (Nat.mul_le_mul (show n+1<=200000 by omega) YA) (by omega);have Ch:n+1<=maxLen:=(by unfold maxLen;omega);refine wp_append_own _ s x t ho base e i z size bytes ht hi hz hsize hby hzs hsz v n xs hs hown ⟨g,0,none⟩ 1 1 cs.toList hx ?_ ?_ h1 Ch QY hbase ?_
 ·simp [hcs]
 ·intro j u hu;rw [Addr.add_lit,Nat.zero_add];refine Aa hb ?_;rw [←Array.getElem?_toList];exact hu
 ·intro v' w' h2 h3 _;refine h v' w' h2 (fun w0 he Bf=>?_) h3
  exact he.grown h3 fun k hk=>by
   rcases hown.2 with⟨rfl,_⟩|⟨g,cap,cur,rfl,hb',_⟩
   ·cases hk
   ·simp only [Value.ownBlock,Aj3]at hk;omega
def Cb(l:List Sg):List Value:=l.flatMap fun s=>[S (R s.a.x),S (R s.a.y),S (R s.b.x),S (R s.b.y)]
theorem yW(l:List Sg)(d:Sg):Cb (l ++ [d])=Cb l ++ [S (R d.a.x),S (R d.a.y),S (R d.b.x),S (R d.b.y)]:=by unfold Cb;simp
theorem bY(l:List Pt)(d:Pt):flat (Ai (l ++ [d]))=flat (Ai l) ++ [S (R d.x),S (R d.y)]:=by unfold Ai flat;simp [KR]
theorem Tryz.infoPt:(Tryz.prog.info? 27).map (fun i=>(i.zero,i.size,i.bytes))=some (some (.agg #[S [],S []]),2,32):=by kernel_rfl
section
variable {ops : Array Oper} {rest : List Oper} {o : Oper} {a : Act} {K : Act → World → Prop} {Q : Exit → Act → World → Prop} {E : Prop}
theorem eh(s x:Operand)(ho:o.op=.call {callee:=.builtin .append,args:=#[s,x],argTypes:=#[31,31]})
  (wN:World) (base:Nat) (v:Value) (n:Nat) (l:List Pt) (hs:a.eval s=v) (hown:wN.ownsRow base 27 2 v n (flat (Ai l))) (hn:n<200000) (d:Pt)
  (g:Nat) (hb:wN.heap[g]?=some (.cells #[S (R d.x),S (R d.y)] 27)) (hx:a.eval x=.slice (some ⟨g,0,none⟩) 1 1) (hbase:base<=wN.heap.size)
  (h:∀v' w',w'.ownsRow base 27 2 v' (n+1) (flat (Ai (l ++ [d])))→(∀w0,Ac w0 wN→w0.heap.size<=base→Ac w0 w')→wN.grownBy w' v.ownBlock→K (a.put o.dst v') w') :
  o.wp Tryz.prog a wN K Q:=by
 obtain⟨i0,hi,hz0,hz1,hz2⟩:=info_parts Tryz.infoPt;refine Sx s x 31 ho 27 i0 _ 2 32 Tryz.underlying31 hi hz0 hz1 hz2 rfl (by omega) (by omega) wN base v n _ hs hown hn g _ hb rfl ?_ hx hbase ?_
 ·intro u hu;simp only [List.mem_cons,AjA,or_false]at hu
  rcases hu with rfl|rfl<;>rfl
 ·intro v' w' h1 h2 h3;exact h v' w' (by rw [bY];exact h1) h2 h3
theorem ox(hgd:o.guard=none)(s x:Operand)(ho:o.op=.call {callee:=.builtin .append,args:=#[s,x],argTypes:=#[31,31]})
  (wN:World) (base:Nat) (v:Value) (n:Nat) (l:List Pt) (hs:a.eval s=v) (hown:wN.ownsRow base 27 2 v n (flat (Ai l))) (hn:n<200000) (d:Pt)
  (g:Nat) (hb:wN.heap[g]?=some (.cells #[S (R d.x),S (R d.y)] 27)) (hx:a.eval x=.slice (some ⟨g,0,none⟩) 1 1) (hbase:base<=wN.heap.size)
  (h:∀v' w',w'.ownsRow base 27 2 v' (n+1) (flat (Ai (l ++ [d])))→(∀w0,Ac w0 wN→w0.heap.size<=base→Ac w0 w')→wpList Tryz.prog ops Q rest (a.put o.dst v') w') :
  wpList Tryz.prog ops Q (o::rest) a wN:=
 wpList_plain hgd fun _ hK=>eh s x ho wN base v n l hs hown hn d g hb hx hbase fun v' w' h1 h2 _=>hK _ _ (h v' w' h1 h2)
theorem AgE(hgd:o.guard=none)(s x:Operand)(ho:o.op=.call {callee:=.builtin .append,args:=#[s,x],argTypes:=#[31,31]})
  (wN:World) (base:Nat) (v:Value) (n:Nat) (l:List Pt) (hs:a.eval s=v) (hown:wN.ownsRow base 27 2 v n (flat (Ai l))) (hn:n<200000) (d:Pt)
  (g:Nat) (hb:wN.heap[g]?=some (.cells #[S (R d.x),S (R d.y)] 27)) (hx:a.eval x=.slice (some ⟨g,0,none⟩) 1 1) (hbase:base<=wN.heap.size)
  (h:∀v' w',w'.ownsRow base 27 2 v' (n+1) (flat (Ai (l ++ [d])))→(∀w0,Ac w0 wN→w0.heap.size<=base→Ac w0 w')→wN.grownBy w' v.ownBlock→K (a.put o.dst v') w') :
  if Region.wanted o (yielded ops a.tmps)=true then Oper.wp Tryz.prog o a wN K Q else E:=by
 have hw:Region.wanted o (yielded ops a.tmps)=true:=(by simp [Region.wanted,hgd]);rw [if_pos hw];exact eh s x ho wN base v n l hs hown hn d g hb hx hbase h
end
end
section
open Go.RowKit Kl
theorem Ahc(l:List Pt)(hz:∀p∈l,Az 1 p)(A:Option Addr)(c:Nat)(w:World)(hw:Ao w)(hr:Ae w A (flat (Ai l)))(hc:l.length<=c)(hcm:c<=9223372036854775807) :
  Calls Tryz.prog 230 #[.slice A l.length c] w (AK 0 w):=by
 have HL:=Ajw hz;clear hz;go_enter Tryz.func230,Tryz.ntmps230
 go_upto_region 2 with fail
 go_loopw [8] (fun i wr=>∃j:Nat,i=.int .i64 (j:Nat)/\j<=l.length/\Ac w wr) (fun i _=>l.length-(intOf i).toNat)
 case atStart=>exact⟨0,rfl,by omega,Ac.refl _⟩
 case round=>
  obtain⟨j,rfl,hj,Ag⟩:=hrel;by_cases hlt:j<l.length
  ·obtain⟨b,o,rfl,hg1,hg2⟩:=BW (hr.ext Ag) hlt;have hp:=HL.out _ (Aj0 hlt);obtain⟨p,Rz⟩:=Ajv (l[j]);rw [←Rz]at hg1 hg2 hp;clear Rz;have ck:=MO (R p.x) (R p.y) true (by simp [KO hp.x (by omega) (by omega),KO hp.y (by omega) (by omega)]) (by have:=Lx (by omega) hp.x;omega) (by have:=Lx (by omega) hp.y;omega);rw [GI]at ck;have hx1:=Ag.alloc (.cells #[S (R p.x),S (R p.y)] 27);have hj0:(0:Int)<=(j:Int):=(by omega);have AP:(j:Int)<(l.length:Int):=(by omega);clear hp;(go_wp2_with fail);(with_reducible refine(ck _ (hw.ext hx1)).mono ?_);rintro e w2 ⟨rfl,hx2⟩;go_wp2;go_roundw
   case rel=>exact⟨j+1,by go_num,hlt,hx1.trans hx2⟩
   case measure=>simp [intOf];omega
  ·have hle:(l.length:Int)<=(j:Int):=(by omega);go_wp2;go_ret;exact⟨rfl,Ag⟩
end
section
open Go.RowKit Kl
theorem Acs(z:Int)(w:World):Calls Tryz.prog 340 #[S (I z)] w (Cc (D z.natAbs) w):=by
 have t:=dN (I z) [45];rw [ak]at t;go_enter Tryz.func340,Tryz.ntmps340;(go_wp2_with fail);(with_reducible refine(t _).mono ?_);rintro e w1 ⟨rfl,hx⟩;go_wp2;go_ret;exact⟨rfl,hx⟩
theorem vE(q:Rat)(hq:Sz 7 q)(w:World)(hw:Ao w):Calls Tryz.prog 290 #[S (R q)] w (By false w):=by
 have p:=yC q (by omega) (by omega) hq w hw;have ab:=Acs q.num;have l1:=Hf (by omega) hq.num;have l2:=Hf (by omega) hq.den;unfold Pk at p;obtain⟨n,hn⟩:=Ajv (D q.num.natAbs);obtain⟨d,hd⟩:=Ajv (D q.den);rw [←hn]at ab l1;rw [←hd]at p l2;have n1:¬((n.length:Int)>200):=(by omega);have n2:¬((d.length:Int)>200):=(by omega);clear hn hd l1 l2;go_enter Tryz.func290,Tryz.ntmps290;(go_wp2_with fail);(with_reducible refine p.mono ?_);rintro e w1 ⟨rfl,hx⟩;(go_wp2_with fail);(with_reducible refine(ab _).mono ?_);rintro e w2 ⟨rfl,hx2⟩;go_wp2;go_ret;exact⟨by simp [n1,n2],hx.trans hx2⟩
def Pv(p:Pt):Value:=.tuple #[Ak p,.int .i64 0]
theorem Ahb(x y:Rat)(hx:Sz 7 x)(hy:Sz 7 y)(w:World)(hw:Ao w):Calls Tryz.prog 231 #[S (R x),S (R y)] w (Bp (Pv ⟨x,y⟩) w):=by
 have l1:=vE x hx;have l2:=vE y hy;have hb:=Ajy w (.cells #[S [],S []] 27);have hE:=(Ac.refl w).alloc (.cells #[S [],S []] 27);unfold Pv Ak;clear hx hy;go_enter Tryz.func231,Tryz.ntmps231;(go_wp2_with fail);rw [show (⟨#[]⟩:ByteArray)=⟨([]:Bs).toArray⟩from rfl];(with_reducible refine(l1 _ (hw.ext hE)).mono ?_);rintro e w1 ⟨rfl,hx⟩;replace hb:=(hx.block _ (Ajx hb)).trans hb;replace hE:=hE.trans hx;(go_wp2_with fail);(with_reducible refine(l2 _ (hw.ext hE)).mono ?_);rintro e w2 ⟨rfl,hx2⟩;replace hb:=(hx2.block _ (Ajx hb)).trans hb;replace hE:=hE.trans hx2;have g1:=Aa (o:=0) hb rfl;have g2:=Aa (o:=1) hb rfl;have g3:=Aj (o:=0) hb;have g4:=Aj (o:=1) hb;obtain⟨e1,e2⟩:=set2 (S (R x)) (S (R y)) g1 g2;go_wp2;refine bodyPost_ret (v:=.tuple #[.agg #[S (R x),S (R y)],.int .i64 0]) (by simp [results,Tryz.results231,go_sem,e1,e2]) rfl ?_;exact⟨rfl,(hE.setCell (Ajz _) _).setCell (Ajz _) _⟩
theorem di(a b k:Rat)(ha:Sz 1 a)(hb:Sz 1 b)(hk:Sz 1 k)(w:World)(hw:Ao w):Calls Tryz.prog 232 #[S (R a),S (R b),S (R k)] w (Cc (R (JC a b k)) w):=by
 have s1:=G1 b a (a:=1) (b:=1) ⟨hb,ha,by omega,by omega,by omega⟩;have m1:=NE k (b-a) (a:=1) (b:=3) ⟨hk,hb.sub ha,by omega,by omega,by omega⟩;have a1:=Vm a (k*(b-a)) (a:=1) (b:=4) ⟨ha,hk.mul (hb.sub ha),by omega,by omega,by omega⟩;have e:JC a b k=a+k*(b-a):=rfl;rw [e];clear ha hb hk e;go_enter Tryz.func232,Tryz.ntmps232;(go_wp2_with fail);(with_reducible refine(s1 _ hw).mono ?_);rintro e w1 ⟨rfl,hx1⟩;(go_wp2_with fail);(with_reducible refine(m1 _ (hw.ext hx1)).mono ?_);rintro e w2 ⟨rfl,hx2⟩;have Cm:=hx1.trans hx2;(go_wp2_with fail);(with_reducible refine(a1 _ (hw.ext Cm)).mono ?_);rintro e w3 ⟨rfl,hx3⟩;go_wp2;go_ret;exact⟨rfl,Cm.trans hx3⟩
theorem Ahd(a b:Pt)(k:Rat)(ha:Az 1 a)(hb:Az 1 b)(hk:Sz 1 k)(w:World)(hw:Ao w):Calls Tryz.prog 136 #[Ak a,Ak b,S (R k)] w (Bp (Pv ⟨JC a.x b.x k,JC a.y b.y k⟩) w):=by
 have s1:=di a.x b.x k (ha.x.mono (by omega)) (hb.x.mono (by omega)) (hk.mono (by omega));have s2:=di a.y b.y k (ha.y.mono (by omega)) (hb.y.mono (by omega)) (hk.mono (by omega));have pc:=Ahb (JC a.x b.x k) (JC a.y b.y k) ((ai ha.x hb.x hk).mono (by omega)) ((ai ha.y hb.y hk).mono (by omega))
 have hl:∀p∈[a,b],Az 1 p:=by
  intro p hp;simp only [List.mem_cons,AjA,or_false]at hp
  rcases hp with rfl|rfl
  ·exact⟨ha.x.mono (by omega),ha.y.mono (by omega)⟩
  ·exact⟨hb.x.mono (by omega),hb.y.mono (by omega)⟩
 have nb:=wA [R k] true (by simp [Vd,KO hk (by omega) (by omega)]);obtain⟨W,hW,hE,hb1,hb2,hb3⟩:=MN w (.cells #[S (R a.x),S (R a.y)] 27) (.cells #[S (R b.x),S (R b.y)] 27) (.cells #[S [],S []] 27);have pt:Calls Tryz.prog 230 #[.slice (some ⟨W.heap.size,0,none⟩) 2 2] (W.alloc (.cells #[S (R a.x),S (R a.y),S (R b.x),S (R b.y)] 27)) (AK 0 _):=Ahc [a,b] hl (some ⟨W.heap.size,0,none⟩) 2 (W.alloc (.cells #[S (R a.x),S (R a.y),S (R b.x),S (R b.y)] 27)) ((hw.ext hE).ext ((Ac.refl W).alloc _)) (Ae.lit W #[S (R a.x),S (R a.y),S (R b.x),S (R b.y)] 27) (by simp) (by omega);have Q8:=(Ac.refl W).alloc (.cells #[S (R a.x),S (R a.y),S (R b.x),S (R b.y)] 27);have CB:(R k).length<=17:=(by have:=Lx (by omega) hk;omega);have Mv:∀(W1:World) (hw1:Ao W1),Calls Tryz.prog 186 #[.slice (some ⟨W1.heap.size,0,none⟩) 1 1] (W1.alloc (.cells #[S (R k)] 25)) (AK (Fa true) _):=fun (W1:World) (hw1:Ao W1)=>nb (some ⟨W1.heap.size,0,none⟩) 1 (W1.alloc (.cells #[S (R k)] 25)) (hw1.ext ((Ac.refl W1).alloc _)) (Ae.lit W1 #[S (R k)] 25) (by simp) (by omega) (by simp) (by simpa using CB);rw [GI]at Mv;unfold Pv Ak at pc ⊢;clear ha hb hk hl nb;obtain⟨p,hp⟩:=Ajv (JC a.x b.x k);obtain⟨q,hq⟩:=Ajv (JC a.y b.y k);rw [←hp]at s1 pc ⊢;rw [←hq]at s2 pc ⊢;clear hp hq;go_enter Tryz.func136,Tryz.ntmps136
 go_upto_region 1 with fail
 rw [show (⟨#[]⟩:ByteArray)=⟨([]:Bs).toArray⟩from rfl,←hW];clear hW;have k1:=Aa (o:=0) hb1 rfl;have k2:=Aa (o:=1) hb1 rfl;have k3:=Aa (o:=0) hb2 rfl;have k4:=Aa (o:=1) hb2 rfl;(go_wp2_with fail);(with_reducible refine pt.mono ?_);rintro e w1 ⟨rfl,hx1⟩;have hx2:=Q8.trans hx1;have hw1:=hw.ext (hE.trans hx2);clear k1 k2 k3 k4;(go_wp2_with fail);(with_reducible refine(Mv _ hw1).mono ?_);rintro e w2 ⟨rfl,hx3⟩;have Aq:=(hx2.alloc (.cells #[S (R k)] 25)).trans hx3;have h1:=(Aq.block _ (Ajx hb1)).trans hb1;have h2:=(Aq.block _ (Ajx hb2)).trans hb2;have h3:=(Aq.block _ (Ajx hb3)).trans hb3;have Jd:=hE.trans Aq;have hw2:=hw.ext Jd;have k1:=Aa (o:=0) h1 rfl;have k2:=Aa (o:=1) h1 rfl;have k3:=Aa (o:=0) h2 rfl;have k4:=Aa (o:=1) h2 rfl;have X:Ac w2 w2:=Ac.refl w2
 have SO:∀w',Ac w2 w'→(w'.cell? ⟨w.heap.size,0,none⟩=some (S (R a.x))/\w'.cell? ⟨w.heap.size,1,none⟩=some (S (R a.y))/\w'.cell? ⟨w.heap.size+1,0,none⟩=some (S (R b.x))/\w'.cell? ⟨w.heap.size+1,1,none⟩=some (S (R b.y))):=fun w' h=>⟨h.cellS k1,h.cellS k2,h.cellS k3,h.cellS k4⟩
 have pJ:=h3;clear h1 h2 hb1 hb2 hb3 hx1 hx2 hx3 Aq pt Mv Q8 hw1 h3
 go_upto_region 7 with fail
 go_region_held3 (fun w'=>w'.cell? ⟨w.heap.size,0,none⟩=some (S (R a.x))/\w'.cell? ⟨w.heap.size,1,none⟩=some (S (R a.y))/\w'.cell? ⟨w.heap.size+1,0,none⟩=some (S (R b.x))/\w'.cell? ⟨w.heap.size+1,1,none⟩=some (S (R b.y)))
  (first|with_reducible exact SO _ X|with_reducible exact SO _ X.drew|(refine⟨?_,?_,?_,?_⟩<;>(rw [World.cell?_setCell_far _ _ _ _ (by simp only [ne_eq];omega),World.cell?_setCell_far _ _ _ _ (by simp only [ne_eq];omega)];first|exact(SO _ X).1|exact(SO _ X).2.1|exact(SO _ X).2.2.1|exact(SO _ X).2.2.2)))
  (first|((with_reducible refine(s1 _ (hw2.ext (by first|exact X|exact X.drew))).mono ?_);rintro e w3 ⟨rfl,hx1⟩;replace X:Ac w2 w3:=(by first|exact X.trans hx1|exact X.drew.trans hx1))|((with_reducible refine(s2 _ (hw2.ext (by first|exact X|exact X.drew))).mono ?_);rintro e w3 ⟨rfl,hx1⟩;replace X:Ac w2 w3:=(by first|exact X.trans hx1|exact X.drew.trans hx1))|((with_reducible refine(pc _ (hw2.ext (by first|exact X|exact X.drew))).mono ?_);rintro e w3 ⟨rfl,hx1⟩;replace X:Ac w2 w3:=(by first|exact X.trans hx1|exact X.drew.trans hx1);have hb3:=(X.block _ (Ajx pJ)).trans pJ;have g1:=Aa (o:=0) hb3 rfl;have g2:=Aa (o:=1) hb3 rfl;have g3:=Aj (o:=0) hb3;have g4:=Aj (o:=1) hb3))
 obtain⟨e1,e2⟩:=set2 (S (R p)) (S (R q)) g1 g2;go_wp2;refine bodyPost_ret (v:=.tuple #[.agg #[S (R p),S (R q)],.int .i64 0]) (by simp [results,Tryz.results136,go_sem,e1,e2]) rfl ?_;exact⟨rfl,((Jd.trans X).setCell (by show w.heap.size<=w.heap.size+1+1;omega) _).setCell (by show w.heap.size<=w.heap.size+1+1;omega) _⟩
end
section
open Go.RowKit Kl
theorem Ck{w:World}{b:Nat}{a0 a1 a2:Value}{t:TypeId}(v0 v1 v2:Value)(h:w.heap[b]?=some (.cells #[a0,a1,a2] t)) :
  (((w.setCell ⟨b,0,none⟩ v0).setCell ⟨b,1,none⟩ v1).setCell ⟨b,2,none⟩ v2).heap[b]?=some (.cells #[v0,v1,v2] t):=by
 simp only [World.setCell,Array.getElem?_modify,h];simp
end
section
open Go.RowKit Kl
theorem Ig{w:World}{B B':Nat}{e:TypeId}{size:Nat}{v:Value}{n:Nat}{xs:List Value}(h:w.ownsRow B e size v n xs)(hB:B'<=B):w.ownsRow B' e size v n xs:=by
 refine⟨h.1,?_⟩
 rcases h.2 with h'|⟨g,cap,cur,h1,h2,h3⟩
 ·exact .inl h'
 ·exact .inr ⟨g,cap,cur,h1,Aj9 hB h2,h3⟩
theorem aQ{a b:World}(_:Ac a b):∃x,x=b:=⟨b,rfl⟩
theorem Sy{o:Oper}{a:Act}{K:Act→World→Prop}{Q:Exit→Act→World→Prop}(s x:Operand)(t:TypeId)(ho:o.op=.call {callee:=.builtin .append,args:=#[s,x],argTypes:=#[t,t]})
  (e:TypeId) (i:TypeInfo) (z:Value) (size bytes m:Nat) (ht:Tryz.prog.underlying t=some (.slice e)) (hi:Tryz.prog.info? e=some i) (hz:i.zero=some z)
  (hsize:i.size=size) (hby:i.bytes=bytes) (hzs:z.cells.size=size) (hsz:0<size) (YA:bytes<=512) (hm:m<=10)
  (wN:World) (base:Nat) (v:Value) (n:Nat) (xs:List Value) (hs:a.eval s=v) (hown:wN.ownsRow base e size v n xs) (hn:n<200000)
  (g:Nat) (cs:Array Value) (hb:wN.heap[g]?=some (.cells cs e)) (hcs:cs.size=m*size) (h1:∀u∈cs.toList,u.oneCell'=true)
  (hx:a.eval x=.slice (some ⟨g,0,none⟩) m m) (hbase:base<=wN.heap.size)
  (h:∀v' w',w'.ownsRow base e size v' (n+m) (xs++cs.toList)→(∀w0,Ac w0 wN→w0.heap.size<=base→Ac w0 w')→wN.grownBy w' v.ownBlock→K (a.put o.dst v') w') :
  o.wp Tryz.prog a wN K Q:=by
 have QY:(n+m)*bytes<=140737488355328:=Aj9 (Nat.mul_le_mul (show n+m<=200010 by omega) YA) (by omega);have Ch:n+m<=maxLen:=(by unfold maxLen;omega);refine wp_append_own _ s x t ho base e i z size bytes ht hi hz hsize hby hzs hsz v n xs hs hown ⟨g,0,none⟩ m m cs.toList hx ?_ ?_ h1 Ch QY hbase ?_
 ·simp [hcs]
 ·intro j u hu;rw [Addr.add_lit,Nat.zero_add];refine Aa hb ?_;rw [←Array.getElem?_toList];exact hu
 ·intro v' w' h2 h3 _;refine h v' w' h2 (fun w0 he Bf=>?_) h3
  exact he.grown h3 fun k hk=>by
   rcases hown.2 with⟨rfl,_⟩|⟨g,cap,cur,rfl,hb',_⟩
   ·cases hk
   ·simp only [Value.ownBlock,Aj3]at hk;omega
theorem Tryz.infoEd:(Tryz.prog.info? 118).map (fun i=>(i.zero,i.size,i.bytes))=some (some (.agg #[.int .i64 0,.int .i64 0,.int .i64 0,.int .i64 0]),4,32):=by kernel_rfl
end
end Go.Proofs.YtgnejnampofhoaaGreatDoor
