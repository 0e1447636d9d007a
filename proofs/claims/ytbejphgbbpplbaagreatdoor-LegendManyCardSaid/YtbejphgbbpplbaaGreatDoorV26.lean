/- V26: LG7 LGM LGC LGF BB. -/
import Derived.Test.YtbejphgbbpplbaaGreatDoorV24
import Derived.Test.YtbejphgbbpplbaaGreatDoorV25
import Derived.Sort.MapsRangeIn
set_option maxRecDepth 100000
set_option maxHeartbeats 16000000
namespace Go.Proofs.YtbejphgbbpplbaaGreatDoor
open Go.RowKit Kl
theorem fZ{w:World}{B:Nat}{e:TypeId}{s n:Nat}{v:Value}{xs:List Value}(hs:0<s)(h:w.ownsRow B e s v n xs):∃A c,v=.slice A n c:=by
 obtain⟨A,c,e,_⟩:=Ae.of_own' hs h;exact⟨A,c,e⟩
theorem Acd(l:List En)(e:En):Bz (l ++ [e])=Bz l ++ [S e.u,S e.s,.int .i64 e.p,S e.t]:=by unfold Bz;simp
theorem AjQ(l:List Bs)(d:Bs):(l ++ [d]).map S=l.map S ++ [S d]:=by simp
theorem Tryz.infoEn:(Tryz.prog.info? 40).map (fun i=>(i.zero,i.size,i.bytes))=some (some (.agg #[S [],S [],.int .i64 0,S []]),4,56):=by kernel_rfl
theorem Tryz.infoSt:(Tryz.prog.info? 9).map (fun i=>(i.zero,i.size,i.bytes))=some (some (S []),1,16):=by kernel_rfl
section
variable {ops : Array Oper} {rest : List Oper} {o : Oper} {a : Act} {K : Act → World → Prop} {Q : Exit → Act → World → Prop} {E : Prop}
theorem AkF(s x:Operand)(ho:o.op=.call {callee:=.builtin .append,args:=#[s,x],argTypes:=#[26,26]})
  (wN:World) (base:Nat) (v:Value) (n:Nat) (l:List En) (hs:a.eval s=v) (hown:wN.ownsRow base 40 4 v n (Bz l)) (hn:n<200000) (d:En)
  (g:Nat) (hb:wN.heap[g]?=some (.cells #[S d.u,S d.s,.int .i64 d.p,S d.t] 40)) (hx:a.eval x=.slice (some ⟨g,0,none⟩) 1 1) (hbase:base<=wN.heap.size)
  (h:∀v' w',w'.ownsRow base 40 4 v' (n+1) (Bz (l ++ [d]))→(∀w0,Aa w0 wN→w0.heap.size<=base→Aa w0 w')→wN.grownBy w' v.ownBlock→K (a.put o.dst v') w') :
  o.wp Tryz.prog a wN K Q:=by
 obtain⟨i0,hi,hz0,hz1,hz2⟩:=info_parts Tryz.infoEn;refine Tx s x 26 ho 40 i0 _ 4 56 Tryz.underlying26 hi hz0 hz1 hz2 rfl (by omega) (by omega) wN base v n _ hs hown hn g _ hb rfl ?_ hx hbase ?_
 ·intro u hu;simp only [List.mem_cons,Anj,or_false]at hu
  rcases hu with rfl|rfl|rfl|rfl<;>rfl
 ·intro v' w' h1 h2 h3;exact h v' w' (by rw [Acd];exact h1) h2 h3
theorem zj(hgd:o.guard=none)(s x:Operand)(ho:o.op=.call {callee:=.builtin .append,args:=#[s,x],argTypes:=#[26,26]})
  (wN:World) (base:Nat) (v:Value) (n:Nat) (l:List En) (hs:a.eval s=v) (hown:wN.ownsRow base 40 4 v n (Bz l)) (hn:n<200000) (d:En)
  (g:Nat) (hb:wN.heap[g]?=some (.cells #[S d.u,S d.s,.int .i64 d.p,S d.t] 40)) (hx:a.eval x=.slice (some ⟨g,0,none⟩) 1 1) (hbase:base<=wN.heap.size)
  (h:∀v' w',w'.ownsRow base 40 4 v' (n+1) (Bz (l ++ [d]))→(∀w0,Aa w0 wN→w0.heap.size<=base→Aa w0 w')→wpList Tryz.prog ops Q rest (a.put o.dst v') w') :
  wpList Tryz.prog ops Q (o::rest) a wN:=
 wpList_plain hgd fun _ hK=>AkF s x ho wN base v n l hs hown hn d g hb hx hbase fun v' w' h1 h2 _=>hK _ _ (h v' w' h1 h2)
theorem AkI(s x:Operand)(ho:o.op=.call {callee:=.builtin .append,args:=#[s,x],argTypes:=#[23,23]})
  (wN:World) (base:Nat) (v:Value) (n:Nat) (l:List Bs) (hs:a.eval s=v) (hown:wN.ownsRow base 9 1 v n (l.map S)) (hn:n<200000) (d:Bs)
  (g:Nat) (hb:wN.heap[g]?=some (.cells #[S d] 9)) (hx:a.eval x=.slice (some ⟨g,0,none⟩) 1 1) (hbase:base<=wN.heap.size)
  (h:∀v' w',w'.ownsRow base 9 1 v' (n+1) ((l ++ [d]).map S)→(∀w0,Aa w0 wN→w0.heap.size<=base→Aa w0 w')→wN.grownBy w' v.ownBlock→K (a.put o.dst v') w') :
  o.wp Tryz.prog a wN K Q:=by
 obtain⟨i0,hi,hz0,hz1,hz2⟩:=info_parts Tryz.infoSt;refine Tx s x 23 ho 9 i0 _ 1 16 Tryz.underlying23 hi hz0 hz1 hz2 rfl (by omega) (by omega) wN base v n _ hs hown hn g _ hb rfl ?_ hx hbase ?_
 ·intro u hu;simp only [List.mem_cons,Anj,or_false]at hu
  rcases hu with rfl<;>rfl
 ·intro v' w' h1 h2 h3;exact h v' w' (by rw [AjQ];exact h1) h2 h3
theorem Yq(hgd:o.guard=none)(s x:Operand)(ho:o.op=.call {callee:=.builtin .append,args:=#[s,x],argTypes:=#[23,23]})
  (wN:World) (base:Nat) (v:Value) (n:Nat) (l:List Bs) (hs:a.eval s=v) (hown:wN.ownsRow base 9 1 v n (l.map S)) (hn:n<200000) (d:Bs)
  (g:Nat) (hb:wN.heap[g]?=some (.cells #[S d] 9)) (hx:a.eval x=.slice (some ⟨g,0,none⟩) 1 1) (hbase:base<=wN.heap.size)
  (h:∀v' w',w'.ownsRow base 9 1 v' (n+1) ((l ++ [d]).map S)→(∀w0,Aa w0 wN→w0.heap.size<=base→Aa w0 w')→wpList Tryz.prog ops Q rest (a.put o.dst v') w') :
  wpList Tryz.prog ops Q (o::rest) a wN:=
 wpList_plain hgd fun _ hK=>AkI s x ho wN base v n l hs hown hn d g hb hx hbase fun v' w' h1 h2 _=>hK _ _ (h v' w' h1 h2)
end
theorem AfQ(l:List La)(i:Nat):Cr (l.take i)=(Cr l).take (i*3):=by
 induction l generalizing i with
 | nil=>simp [Cr]
 | cons e l ih=>
  cases i with
  | zero=>simp [Cr]
  | succ i=>have e0:∀l,Cr (e::l)=S e.u::S e.mn::S e.mx::Cr l:=fun _=>rfl;rw [List.take_succ_cons,e0,e0,ih];have e1:(i+1)*3=i*3+1+1+1:=(by omega);rw [e1];simp
theorem Aag(x:La)(u:Bs)(b:Nat)(w:World)(hb:w.cell? ⟨b,0,none⟩=some (S u)) :
  Calls Tryz.prog 141 #[Le x,.pointer (some ⟨b,0,none⟩)] w (BC (x.u == u) w):=by
 have hx:=(Aa.refl w).alloc (.cells #[S x.u,S x.mn,S x.mx] 31);have j1:=hx.cellS hb;unfold Le;clear hb;go_enter Tryz.func141,Tryz.ntmps141;go_wp2;go_ret;exact⟨rfl,hx⟩
theorem Acg:∀args w,(callFunc 141 args).run Tryz.prog w=.ok (.enter 141 args) w:=enters_of Tryz.func141 (by kernel_rfl) rfl
theorem Abj(c:List La)(u:Bs)(A:Option Addr)(cc:Nat)(w:World)(hr:Ae w A (Cr c))(h1:c.length<=cc)(h2:cc<=9223372036854775807) :
  Calls Tryz.prog 74 #[.slice A c.length cc,S u] w (AA (BF c u) w):=by
 have hb:=AmW w (.cells #[S u] 9);have hE:=(Aa.refl w).alloc (.cells #[S u] 9)
 have ix:=zT (cb:=#[.pointer (some ⟨w.heap.size,0,none⟩)]) Acg (fun e=>e.u == u) c A cc (w.alloc (.cells #[S u] 9)) (hr.ext hE) h1 h2
  (fun e _ W hx=>Aag e u _ W (Ab (o:=0) ((hx.block _ (AmV hb)).trans hb) rfl))
 unfold BF;clear hr hb;go_enter Tryz.func74,Tryz.ntmps74;(go_wp2_with fail);(with_reducible refine ix.mono ?_);rintro e w1 ⟨rfl,hx⟩;go_wp2;go_ret;exact⟨rfl,hE.trans hx⟩
open Classical in
noncomputable def Lf(x:La):Int:=if ¬BK x.mn then 2 else if x.mx≠[]/\¬BK x.mx then 2 else 0
open Classical in
theorem AfR(x:La)(h1:x.mn.length<100000)(h2:x.mx.length<100000)(w:World)(hw:An w):Calls Tryz.prog 73 #[Le x] w (AA (Lf x) w):=by
 have hb:=AmW w (.cells #[S x.u,S x.mn,S x.mx] 31);have hE:=(Aa.refl w).alloc (.cells #[S x.u,S x.mn,S x.mx] 31);have c1:=iD x.mn h1 (w.alloc (.cells #[S x.u,S x.mn,S x.mx] 31)) (hw.ext hE);have c2:=iD x.mx h2;unfold Le;obtain⟨r,hr0⟩:=AmT (Lf x);rw [←hr0];have HR:=AmU hr0;clear hr0;go_enter Tryz.func73,Tryz.ntmps73
 go_upto_region 1 with fail
 generalize w.alloc (.cells #[S x.u,S x.mn,S x.mx] 31)=V at *;obtain⟨b,Bl⟩:=AmT w.heap.size;rw [←Bl]at hb ⊢;clear Bl;have k1:=Ab (o:=1) hb rfl;by_cases o1:BK x.mn
 ·rw [decide_eq_true o1,Kr]at c1;(go_wp2_with fail);(with_reducible refine c1.mono ?_);rintro e w1 ⟨rfl,hx1⟩;have X1:=hE.trans hx1;have hb1:=(hx1.block _ (AmV hb)).trans hb;have k2:=Ab (o:=2) hb1 rfl;have O1:=AmU (show ¬¬BK x.mn from fun h=>h o1);clear k1 hb hx1 o1;by_cases e0:x.mx = []
  ·have HH:=AmU (show r=0 by rw [HR.out];unfold Lf;rw [if_neg O1.out,if_neg (by rintro⟨h,_⟩;exact h e0)]);have t1:(x.mx == [])=true:=(by rw [e0];rfl);rw [e0]at k2;clear e0 t1;go_wp2;go_ret;exact⟨Be HH.out,X1⟩
  ·have t1:(x.mx == [])=false:=beq_false_of_ne e0
   have t2:x.mx.isEmpty=false:=by cases hm:x.mx with|nil=>exact absurd hm e0|cons a b=>rfl
   have c3:=c2 w1 (hw.ext X1);have E0:=AmU e0;by_cases o2:BK x.mx
   ·rw [decide_eq_true o2,Kr]at c3;have HH:=AmU (show r=0 by rw [HR.out];unfold Lf;rw [if_neg O1.out,if_neg (by rintro⟨_,h⟩;exact h o2)]);clear o2;(go_wp2_with fail);(with_reducible refine c3.mono ?_);rintro e w2 ⟨rfl,hx2⟩;go_wp2;go_ret;exact⟨Be HH.out,X1.trans hx2⟩
   ·rw [decide_eq_false o2,Np]at c3;have HH:=AmU (show r=2 by rw [HR.out];unfold Lf;rw [if_neg O1.out,if_pos ⟨e0,o2⟩]);clear o2;(go_wp2_with fail);(with_reducible refine c3.mono ?_);rintro e w2 ⟨rfl,hx2⟩;go_wp2;go_ret;exact⟨Be HH.out,X1.trans hx2⟩
 ·rw [decide_eq_false o1,Np]at c1;have HH:=AmU (show r=2 by rw [HR.out];unfold Lf;rw [if_pos o1]);clear o1;(go_wp2_with fail);(with_reducible refine c1.mono ?_);rintro e w1 ⟨rfl,hx1⟩;go_wp2;go_ret;exact⟨Be HH.out,hE.trans hx1⟩
theorem oy{l:Bs}(h:BK l):Sz 200 (rv l):=by
 obtain⟨_,h1,h2⟩:=iQ h;exact⟨Lh h1,Lh h2⟩
def Wj(x:La):Prop:=x.u.length<1000000/\x.mn.length<100000/\x.mx.length<100000
theorem YH(l:List La)(A:Option Addr)(c:Nat)(w:World)(hw:An w)(hr:Ae w A (Cr l))(hc:l.length<=c)(hcm:c<=9223372036854775807)(hl:∀e∈l,Wj e) :
  Calls Tryz.prog 32 #[.slice A l.length c] w (AA (Ht l) w):=by
 have HL:=AmU hl;have Gg:=AmU hr;obtain⟨r,hr0⟩:=AmT (Ht l);rw [←hr0];have HR:=AmU hr0;obtain⟨n,hn⟩:=AmT l.length;rw [←hn]at hc ⊢;have HN:=AmU hn;clear hl hr hr0 hn;by_cases h0:n=0
 ·have HH:=AmU (show r=13 by rw [HR.out];unfold Ht;rw [if_pos (by rw [←HN.out];exact h0)]);subst h0;go_enter Tryz.func32,Tryz.ntmps32;go_wp2;go_ret;exact⟨Be HH.out,Aa.refl _⟩
 have t0:((n:Int) == 0)=false:=beq_false_of_ne (by omega);by_cases Zf:60<n
 ·have HH:=AmU (show r=4 by rw [HR.out];unfold Ht;rw [if_neg (by rw [←HN.out];exact h0),if_pos (by rw [←HN.out];exact Zf)]);have t2:(60:Int)<(n:Int):=(by omega);go_enter Tryz.func32,Tryz.ntmps32;go_wp2;go_ret;exact⟨Be HH.out,Aa.refl _⟩
 have HC:=AmU (show r=I4 [] l by rw [HR.out];unfold Ht;rw [if_neg (by rw [←HN.out];exact h0),if_neg (by rw [←HN.out];exact Zf)]);have t2:¬(60:Int)<(n:Int):=(by omega);clear h0 HR;go_enter Tryz.func32,Tryz.ntmps32
 go_upto_region 6 with fail
 go_loopw [16] (fun kv wr=>∃(k:Nat),kv=.int .i64 (k:Nat)/\k<=n/\r=I4 (l.take k) (l.drop k)/\Aa w wr) (fun kv _=>n-(intOf kv).toNat)
 case atStart=>exact⟨0,rfl,by omega,by rw [List.take_zero,List.drop_zero];exact HC.out,Aa.refl _⟩
 case round=>
  obtain⟨k,rfl,hk,hck,Ac⟩:=hrel;have Q0:=AmU hck;clear hck;by_cases hkn:k<n
  ·have CN:k<l.length:=(by rw [←HN.out];exact hkn);obtain⟨b,o,rfl,hg1,hg2,hg3⟩:=iF (Gg.out.ext Ac) CN;have hst:=Abk CN rfl;rw [←Q0.out]at hst;obtain⟨m1,m2,m3⟩:=HL.out l[k] (AmY CN);obtain⟨x,hx⟩:=AmT (l[k]);rw [←hx]at hg1 hg2 hg3 hst m1 m2 m3;have HST:=AmU hst;have Ef:(l.take k).length=k:=(by rw [List.length_take];omega);have hk0:(0:Int)<=(k:Int):=(by omega);have Ci:(k:Int)<(n:Int):=(by omega);have hk2:(k:Int)<=(c:Int):=(by omega);have v1:IntKind.wrap .i64 ((k:Int)+1)=(k:Int)+1:=Ane _ (by omega);have hxb:=AmW wr (.cells #[S x.u,S x.mn,S x.mx] 31);have hx1:=(Aa.refl wr).alloc (.cells #[S x.u,S x.mn,S x.mx] 31);have hE:=Ac.trans hx1;have la:=fun W (hw:An W)=>AfR x m2 m3 W hw;unfold Le at la;have at_:=fun W (hx:Aa w W)=>Abj (l.take k) x.u (some ⟨b,o,none⟩) c W (by rw [AfQ];exact(Gg.out.ext hx).take _) (by omega) hcm;rw [Ef]at at_;have nm:=eA x.u m1;clear hx hst Ef Ac
   go_upto_region 8 with fail
   generalize wr.alloc (.cells #[S x.u,S x.mn,S x.mx] 31)=V at *;obtain⟨bx,Ay⟩:=AmT wr.heap.size;rw [←Ay]at hxb ⊢;clear Ay hg1 hg2 hg3 hx1;have k1:=Ab (o:=0) hxb rfl;have k2:=Ab (o:=1) hxb rfl;have k3:=Ab (o:=2) hxb rfl;have eH:=la V (hw.ext hE);obtain⟨z,hz⟩:=AmT (Lf x);rw [←hz]at eH;have HZ:=AmU hz;clear la hz;(go_wp2_with fail);(with_reducible refine eH.mono ?_);rintro e w1 ⟨rfl,hx1⟩;have hb1:=(hx1.block _ (AmV hxb)).trans hxb;have X1:=hE.trans hx1;clear eH k1 k2 k3 hxb hx1;by_cases hz0:z=0
   ·subst hz0
    obtain⟨o1,o2⟩:BK x.mn/\(x.mx = []∨BK x.mx):=by
     have h3:=HZ.out;unfold Lf at h3
     split at h3
     ·cases h3
     ·rename_i h4
      refine⟨Classical.not_not.1 h4,?_⟩
      split at h3
      ·cases h3
      ·rename_i h5
       by_cases h6:x.mx = []
       ·exact .inl h6
       ·exact .inr (Classical.not_not.1 fun h=>h5 ⟨h6,h⟩)
    obtain⟨e1,-,-⟩:=iQ o1;have s1:=oy o1;obtain⟨p,hp⟩:=AmT (rv x.mn);rw [←hp]at e1 s1;have sg:∀W,Calls Tryz.prog 75 #[S x.mn] W (AA (AD p) W):=by intro W;rw [e1];exact Qg p W
    have hcs:colS (l.take k) x=if nameB x.u=false then 8 else if 0<=BF (l.take k) x.u then 9 else if p<0 then 3 else if x.mx≠[]/\rv x.mx<p then 6 else 0:=by unfold colS;rw [if_neg (fun h=>h o1),if_neg (by rintro⟨h,h'⟩;rcases o2 with e|e;exact h e;exact h' e),←hp]
    have Gf:=AmU hcs;have O0:=AmU o2;have GA:=AmU e1;clear hcs o1 o2 e1 hp;have k4:=Ab (o:=0) hb1 rfl;have JK:=nm w1;clear nm
    cases a1:nameB x.u
    ·have HH:=AmU (show r=8 by
      have h2:colS (l.take k) x=8:=by rw [Gf.out,if_pos a1]
      rw [HST.out,if_neg (by rw [h2];omega),h2])
     rw [a1]at JK;clear a1;(go_wp2_with fail);(with_reducible refine JK.mono ?_);rintro e w2 ⟨rfl,hx2⟩;go_wp2;go_ret;exact⟨Be HH.out,X1.trans hx2⟩
    have A1:=AmU (show ¬(nameB x.u=false)by rw [a1];simp);rw [a1]at JK;clear a1;(go_wp2_with fail);(with_reducible refine JK.mono ?_);rintro e w2 ⟨rfl,hx2⟩;have hb2:=(hx2.block _ (AmV hb1)).trans hb1;have X2:=X1.trans hx2;have O3:=AmU X2;clear JK k4 hb1 hx2;have f1:∀q:Af w2,q.w.cell? ⟨bx,0,none⟩=some (S x.u):=Af.cell (Ab hb2 rfl);have Nn:=fun q:Af w2=>at_ q.w (O3.out.trans q.h);obtain⟨y,hy⟩:=AmT (BF (l.take k) x.u);rw [←hy]at Nn;have HY:=AmU hy;clear hy at_ X2
    go_upto_region 13 with fail
    refine F3 (by kernel_rfl) (by kernel_rfl) ?_
    repeat (go_big_quiet_step (with_reducible refine El (Nn _)))
    refine wpQuiet_nil ?_;rintro _ ⟨q,rfl⟩;have X3:=O3.out.trans q.h;have hb3:=(q.h.block _ (AmV hb2)).trans hb2;have CY:=AmU X3;clear f1 Nn;by_cases a2:0<=y
    ·have HH:=AmU (show r=9 by
      have h2:colS (l.take k) x=9:=by rw [Gf.out,if_neg A1.out,if_pos (by rw [←HY.out];exact a2)]
      rw [HST.out,if_neg (by rw [h2];omega),h2])
     go_wp2;go_ret;exact⟨Be HH.out,CY.out⟩
    have yn:=Int.not_le.1 a2;have A2:=AmU (show BF (l.take k) x.u<0 by rw [←HY.out];exact yn);have k4:=Ab (o:=1) hb3 rfl;have WU:=sg q.w;have hw3:=hw.ext X3;generalize q.w=w3 at *;clear sg a2;have Tu:AD p<0↔p<0:=(by unfold AD;grind);obtain⟨s,hs⟩:=AmT (AD p);rw [←hs]at WU Tu;clear hs;by_cases a3:s<0
    ·have HH:=AmU (show r=3 by
      have h2:colS (l.take k) x=3:=by rw [Gf.out,if_neg A1.out,if_neg (Int.not_le.2 A2.out),if_pos (Tu.1 a3)]
      rw [HST.out,if_neg (by rw [h2];omega),h2])
     clear Tu;(go_wp2_with fail);(with_reducible refine WU.mono ?_);rintro e w4 ⟨rfl,Ai⟩;go_wp2;go_ret;exact⟨Be HH.out,CY.out.trans Ai⟩
    have A3:=AmU (show ¬(p<0)from fun h=>a3 (Tu.2 h));clear Tu;(go_wp2_with fail);(with_reducible refine WU.mono ?_);rintro e w4 ⟨rfl,Ai⟩;have hb4:=(Ai.block _ (AmV hb3)).trans hb3;have X4:=CY.out.trans Ai;have hw4:=hw.ext X4;have Q5:=AmU X4;clear hb3 Ai k4 WU X4 CY;have k5:=Ab (o:=2) hb4 rfl;have k6:=Ab (o:=1) hb4 rfl;by_cases e0:x.mx = []
    ·have HH:=AmU (show r=I4 (l.take (k+1)) (l.drop (k+1))by
      have h2:colS (l.take k) x=0:=by rw [Gf.out,if_neg A1.out,if_neg (Int.not_le.2 A2.out),if_neg A3.out,if_neg (by rintro⟨h,_⟩;exact h e0)]
      rw [HST.out,if_pos h2])
     rw [e0]at k5;clear e0;go_wp2;go_roundw
     case rel=>exact⟨k+1,by go_num,hkn,HH.out,Q5.out⟩
     case measure=>simp [intOf];omega
    ·have t1:(x.mx == [])=false:=beq_false_of_ne e0
     have t3:x.mx.isEmpty=false:=by cases hm:x.mx with|nil=>exact absurd hm e0|cons a b=>rfl
     have o3:BK x.mx:=O0.out.resolve_left e0;have s2:=oy o3;obtain⟨e2,-,-⟩:=iQ o3;obtain⟨p2,KT⟩:=AmT (rv x.mx);rw [←KT]at e2 s2
     have cp:Calls Tryz.prog 76 #[S x.mx,S x.mn] w4 (AA (AN p2 p) w4):=by rw [e2,GA.out];exact Jd p2 p ⟨s2,s1,by omega,by omega,by omega⟩ w4 hw4
     have QX:AN p2 p<0↔p2<p:=(by unfold AN;grind);have kV:=AmU KT;have E0:=AmU e0;obtain⟨s,hs⟩:=AmT (AN p2 p);rw [←hs]at cp QX;clear hs o3 e2 KT;by_cases a4:s<0
     ·have HH:=AmU (show r=6 by
       have h2:colS (l.take k) x=6:=by rw [Gf.out,if_neg A1.out,if_neg (Int.not_le.2 A2.out),if_neg A3.out,if_pos ⟨E0.out,by rw [←kV.out];exact QX.1 a4⟩]
       rw [HST.out,if_neg (by rw [h2];omega),h2])
      clear QX;(go_wp2_with fail);(with_reducible refine cp.mono ?_);rintro e w5 ⟨rfl,Ad⟩;go_wp2;go_ret;exact⟨Be HH.out,Q5.out.trans Ad⟩
     ·have HH:=AmU (show r=I4 (l.take (k+1)) (l.drop (k+1))by
       have h2:colS (l.take k) x=0:=by rw [Gf.out,if_neg A1.out,if_neg (Int.not_le.2 A2.out),if_neg A3.out,if_neg (by rintro⟨_,h⟩;rw [←kV.out]at h;exact a4 (QX.2 h))]
       rw [HST.out,if_pos h2])
      clear QX;(go_wp2_with fail);(with_reducible refine cp.mono ?_);rintro e w5 ⟨rfl,Ad⟩;go_wp2;go_roundw
      case rel=>exact⟨k+1,by go_num,hkn,HH.out,Q5.out.trans Ad⟩
      case measure=>simp [intOf];omega
   ·have HH:=AmU (show r=z by
     have h2:colS (l.take k) x=z:=by
      have h3:=HZ.out;unfold Lf at h3;unfold colS
      split at h3
      ·rename_i h4;rw [if_pos h4];exact h3.symm
      ·rename_i h4
       rw [if_neg h4]
       split at h3
       ·rename_i h5;rw [if_pos h5];exact h3.symm
       ·exact absurd h3 hz0
     rw [HST.out,if_neg (by rw [h2];exact hz0),h2])
    have t1:(z != 0)=true:=(by rw [bne_iff_ne];exact hz0);clear hz0;go_wp2;go_ret;exact⟨Be HH.out,X1⟩
  ·have B6:k=n:=(by omega);subst B6;have HH:=AmU (show r=0 by rw [Q0.out,HN.out,List.drop_length];rfl);go_wp2;go_ret;exact⟨Be HH.out,Ac⟩
theorem Acs(l:List Bs)(A B:Option Addr)(c d:Nat)(w:World)(hA:Ae w A (l.map S))(hB:Ae w B (l.map S))(hl:l.length<=100000) :
  Calls Tryz.prog 30 #[.slice A l.length c,.slice B l.length d] w (BC true w):=by
 have rj:=AmU hA;have Xp:=AmU hB;obtain⟨n,hn⟩:=AmT l.length;rw [←hn]at hl ⊢;have HN:=AmU hn;clear hA hB hn;go_enter Tryz.func30,Tryz.ntmps30
 go_upto_region 4 with fail
 go_loopw [13] (fun i wr=>∃j:Nat,i=.int .i64 (j:Nat)/\j<=n/\Aa w wr) (fun i _=>n-(intOf i).toNat)
 case atStart=>exact⟨0,rfl,Nat.zero_le _,Aa.refl _⟩
 case round=>
  obtain⟨j,rfl,hj,Ac⟩:=hrel;by_cases hlt:j<n
  ·have AV:j<(l.map S).length:=(by rw [List.length_map,←HN.out];exact hlt);obtain⟨b,o,rfl,hc1⟩:=(rj.out.ext Ac).ad (by omega);obtain⟨b',o',rfl,hc2⟩:=(Xp.out.ext Ac).ad (by omega);have g1:=hc1 j AV;have g2:=hc2 j AV;rw [List.getElem_map]at g1 g2;generalize l[j]'(by rw [List.length_map]at AV;exact AV)=s at *;have hj0:(0:Int)<=(j:Int):=(by omega);have Ms:(j:Int)<(n:Int):=(by omega);have v1:IntKind.wrap .i64 ((j:Int)+1)=(j:Int)+1:=Ane _ (by omega);clear hc1 hc2 AV
   go_upto_region 6 with fail
   go_quiet (fail)
   go_wp2;go_roundw
   case rel=>exact⟨j+1,by go_num,hlt,Ac.drewN _⟩
   case measure=>simp [intOf];omega
  ·have hle:(n:Int)<=(j:Int):=(by omega);go_wp2;go_ret;exact⟨rfl,Ac⟩
theorem Ajj{α β:Type}(E:List (α×β)){seen:List Nat}(Cj:seen.Nodup)(hlt:∀i∈seen,i<E.length)(hlen:seen.length=E.length):(seen.filterMap (fun i=>E[i]?.map (·.1))).Perm (E.map (·.1)):=by
 have hmem:∀i,i<E.length→i∈seen:=by
  intro i hi;refine Classical.byContradiction fun hn=>?_;have h1:(i::seen).Nodup:=List.nodup_cons.2 ⟨hn,Cj⟩
  have h2:(i::seen) ⊆ List.range E.length:=by
   intro j hj
   rcases List.mem_cons.1 hj with rfl|hj
   ·simpa using hi
   ·simpa using hlt j hj
  have:=h1.length_le_of_subset h2;simp at this;omega
 have hp:seen.Perm (List.range E.length):=by
  rw [List.perm_iff_count];intro i;rw [Cj.count,(List.nodup_range).count];by_cases hi:i<E.length
  ·rw [if_pos (hmem i hi),if_pos (by simpa using hi)]
  ·rw [if_neg (fun h=>hi (hlt i h)),if_neg (by simpa using hi)]
 refine(hp.filterMap _).trans ?_;have e1:(List.range E.length).filterMap (fun i=>E[i]?.map (·.1))=((List.range E.length).filterMap (fun i=>E[i]?)).map (·.1):=(by rw [List.map_filterMap]);rw [e1,kf E]
theorem bj(mb:Option Nat)(w:World) :
  Calls Tryz.prog 186 #[.map mb] w fun e w'=>e=.returned (.func (.func 263) #[] #[.pointer (some ⟨w.heap.size,0,none⟩)])/\w'=w.alloc (.cells #[.map mb] 132):=by
 go_enter Tryz.func186,Tryz.ntmps186;go_wp2;go_ret;exact⟨rfl,rfl⟩
theorem AfJ(F:Fence)(n:Nat)(h10:F.fn 263)(hro:F.round=none)(hn:1<=n)(l Bm b:Nat)(E:List (Pt×Value×Nat))(hst:∀i (h:i<E.length),E[i].2.2=i)(J:List Pt→World→Prop)
  (hY:∀pre x W,J pre W→pre.length<E.length→YieldAt F (n-1) Tryz.prog l #[Ak x] W fun e W'=>e=.returned (.bool true)/\J (pre ++ [x]) W'/\KeepsWalks W W')
  (W:World) (hJ:AbidesFrom W.heap.size J) (hm:W.cell? ⟨Bm,0,none⟩=some (.map (some b))) (hb:W.heap[b]?=some (.map (Aw Ak E).toArray E.length)) (h0:J [] W) :
  CallsIn F n Tryz.prog 263 #[.func (.yield l) #[] #[],.pointer (some ⟨Bm,0,none⟩)] W fun e W'=>(∃v,e=.returned v)/\∃ss:List Pt,ss.Perm (E.map (·.1))/\J ss W':=by
 have hlt:=AmV hb;obtain⟨hr1,hr2⟩:=C5.range (enc:=Ak) (E:=E) (t:=132) Tryz.underlying132 (W:=W) (b:=b) hb;have hG:=(Aa.refl W).alloc (.mapIter (some b) E.length #[] E.length);have hJ1:=hJ [] W _ none h0 (Gj hG none) (fun r e=>by cases e);have hb1:=(hG.block b hlt).trans hb;refine callsIn_of_wp Tryz.func263 rfl h10 ?_ hro;simp only [Tryz.ntmps263,List.size_toArray,List.length_cons,List.length_nil,Nat.reduceAdd,Nat.reduceSub,Array.replicate_succ,Array.replicate_zero,List.push_toArray,List.append_toArray,List.nil_append,List.cons_append];gi_wp2;generalize W.alloc (.mapIter (some b) E.length #[] E.length)=V at *;obtain⟨r,hr⟩:=AmT W.heap.size;rw [←hr]at hr2 hlt hJ ⊢;clear hr hr1 hG hb hm h0
 gi_loopw [3] (fun _ wr=>∃seen:List Nat,C5 wr r b E seen/\wr.heap[b]?=some (.map (Aw Ak E).toArray E.length)/\J (seen.filterMap (fun i=>E[i]?.map (·.1))) wr)
  (fun _ wr=>E.length-(wr.iterSeen r).size)
 case atStart=>exact⟨[],hr2,hb1,hJ1⟩
 case round=>
  obtain⟨seen,hI,hbr,hJs⟩:=hrel
  rcases C5.next Ak hI hbr hst (by omega) 0 with⟨hlen,hrun⟩|⟨i,hi,Gx,W1,FI,hG1,hs1,hrun,hen⟩
  ·have hP:=Ajj E hI.nd hI.lt hlen;gi_wp2
   go_end0
   exact⟨⟨_,rfl⟩,_,hP,hJs⟩
  ·have KJ:=hi
   have hstep:(seen ++ [i]).filterMap (fun i=>E[i]?.map (·.1))=seen.filterMap (fun i=>E[i]?.map (·.1)) ++ [(E[i]).1]:=by rw [List.filterMap_append];simp only [List.filterMap_cons,List.filterMap_nil,Anc KJ,Option.map_some]
   have hlen':seen.length<E.length:=by
    have h2:(i::seen) ⊆ List.range E.length:=by
     intro j hj
     rcases List.mem_cons.1 hj with rfl|hj
     ·simpa using KJ
     ·simpa using hI.lt j hj
    have:=(List.nodup_cons.2 ⟨Gx,hI.nd⟩).length_le_of_subset h2;simp at this;omega
   have Dn:=Ey hI;have hJ2:=hJ _ wr W1 (some r) hJs hG1 (fun r' e=>by cases e;exact⟨AmX _,_,hI.it,rfl⟩);have hb2:=(hG1.block b (AmV hbr) (by simp;omega)).trans hbr;have Gs:=hen W1 rfl rfl;obtain⟨s,hs⟩:=AmT ((E[i]).1);obtain⟨z,hz⟩:=AmT ((E[i]).2.1);rw [←hs,←hz]at Gs hrun;rw [←hs]at hstep;have E3:=(Aa.refl W1).alloc (.cells #[S (R s.x),S (R s.y)] 94);have Er:=AmW W1 (.cells #[S (R s.x),S (R s.y)] 94);have Ry:=hJ _ W1 _ none hJ2 (Gj E3 none) (fun r' e=>by cases e);have hpl:(seen.filterMap (fun i=>E[i]?.map (·.1))).length<E.length:=Nat.lt_of_le_of_lt (List.length_filterMap_le _ _) hlen';obtain⟨fn,tmps,assign,body,hy,hR⟩:=hY _ s _ Ry hpl;have Dj:=FI.keep (E3.block r (AmV FI.it));have hb4:=(E3.block b (AmV hb2)).trans hb2;have g0:=Ab (o:=0) Er rfl;have g1:=Ab (o:=1) Er rfl;clear hs1 hen hs hz Er E3 Ry hJ2;unfold Ak at Gs hrun hy;unfold S at hy Gs hrun g0 g1 Dj hb4 hR;gi_wp2;refine hR.mono ?_;rintro e W3 ⟨rfl,hJ3,hk3⟩;gi_wp2;go_roundw
   case rel=>exact⟨seen ++ [i],⟨hk3.same r _ Dj.it rfl,Dj.nd,Dj.lt⟩,hk3.same b _ hb4 rfl,by rw [hstep];exact hJ3⟩
   case measure=>rw [Dn,Ey (W:=W3) (b:=b) (E:=E) (seen:=seen ++ [i]) ⟨hk3.same r _ Dj.it rfl,Dj.nd,Dj.lt⟩,List.length_append,List.length_singleton];omega
theorem AfK(F:Fence)(n:Nat)(h10:F.fn 263)(hro:F.round=none)(hn:1<=n)(Bm b:Nat)(E:List (Pt×Value×Nat))(hst:∀i (h:i<E.length),E[i].2.2=i)(w:World)(hBm:Bm<w.heap.size)
  (hm:w.cell? ⟨Bm,0,none⟩=some (.map (some b))) (hb:w.heap[b]?=some (.map (Aw Ak E).toArray E.length)) :
  SeqGives F n Tryz.prog 263 #[.pointer (some ⟨Bm,0,none⟩)] Ak (fun ss=>ss.Perm (E.map (·.1))) E.length w:=fun l J W hW hJ hY h0=>
 AfJ F n h10 hro hn l Bm b E hst J hY W hJ ((hW.cell (p:=⟨Bm,0,none⟩) hBm).trans hm) ((hW.block b (AmV hb)).trans hb) h0
end Go.Proofs.YtbejphgbbpplbaaGreatDoor
