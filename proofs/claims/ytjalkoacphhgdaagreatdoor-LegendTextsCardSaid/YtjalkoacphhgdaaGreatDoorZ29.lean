/- Z29: LG7 LGM LGC LGF BB. -/
import Derived.Test.YtjalkoacphhgdaaGreatDoorZ27
import Derived.Test.YtjalkoacphhgdaaGreatDoorZ28
import Derived.Sort.MapsRangeIn
set_option maxRecDepth 100000
set_option maxHeartbeats 16000000
namespace Go.Proofs.YtjalkoacphhgdaaGreatDoor
open Go.RowKit Kl
theorem WQ{w:World}{B:Nat}{e:TypeId}{s n:Nat}{v:Value}{xs:List Value}(hs:0<s)(h:w.ownsRow B e s v n xs):∃A c,v=.slice A n c:=by
 obtain⟨A,c,e,_⟩:=Ae.of_own' hs h;exact⟨A,c,e⟩
theorem Acc(l:List En)(e:En):B5 (l ++ [e])=B5 l ++ [S e.u,S e.s,.int .i64 e.p,S e.t]:=by unfold B5;simp
theorem Akj(l:List Bs)(d:Bs):(l ++ [d]).map S=l.map S ++ [S d]:=by simp
theorem Tryz.infoEn:(Tryz.prog.info? 40).map (fun i=>(i.zero,i.size,i.bytes))=some (some (.agg #[S [],S [],.int .i64 0,S []]),4,56):=by kernel_rfl
theorem Tryz.infoSt:(Tryz.prog.info? 9).map (fun i=>(i.zero,i.size,i.bytes))=some (some (S []),1,16):=by kernel_rfl
section
variable {ops : Array Oper} {rest : List Oper} {o : Oper} {a : Act} {K : Act → World → Prop} {Q : Exit → Act → World → Prop} {E : Prop}
theorem AkV(s x:Operand)(ho:o.op=.call {callee:=.builtin .append,args:=#[s,x],argTypes:=#[26,26]})
  (wN:World) (base:Nat) (v:Value) (n:Nat) (l:List En) (hs:a.eval s=v) (hown:wN.ownsRow base 40 4 v n (B5 l)) (hn:n<200000) (d:En)
  (g:Nat) (hb:wN.heap[g]?=some (.cells #[S d.u,S d.s,.int .i64 d.p,S d.t] 40)) (hx:a.eval x=.slice (some ⟨g,0,none⟩) 1 1) (hbase:base<=wN.heap.size)
  (h:∀v' w',w'.ownsRow base 40 4 v' (n+1) (B5 (l ++ [d]))→(∀w0,Aa w0 wN→w0.heap.size<=base→Aa w0 w')→wN.grownBy w' v.ownBlock→K (a.put o.dst v') w') :
  o.wp Tryz.prog a wN K Q:=by
 obtain⟨i0,hi,hz0,hz1,hz2⟩:=info_parts Tryz.infoEn;refine Ty s x 26 ho 40 i0 _ 4 56 Tryz.underlying26 hi hz0 hz1 hz2 rfl (by omega) (by omega) wN base v n _ hs hown hn g _ hb rfl ?_ hx hbase ?_
 ·intro u hu;simp only [List.mem_cons,An0,or_false]at hu
  rcases hu with rfl|rfl|rfl|rfl<;>rfl
 ·intro v' w' h1 h2 h3;exact h v' w' (by rw [Acc];exact h1) h2 h3
theorem mQ(hgd:o.guard=none)(s x:Operand)(ho:o.op=.call {callee:=.builtin .append,args:=#[s,x],argTypes:=#[26,26]})
  (wN:World) (base:Nat) (v:Value) (n:Nat) (l:List En) (hs:a.eval s=v) (hown:wN.ownsRow base 40 4 v n (B5 l)) (hn:n<200000) (d:En)
  (g:Nat) (hb:wN.heap[g]?=some (.cells #[S d.u,S d.s,.int .i64 d.p,S d.t] 40)) (hx:a.eval x=.slice (some ⟨g,0,none⟩) 1 1) (hbase:base<=wN.heap.size)
  (h:∀v' w',w'.ownsRow base 40 4 v' (n+1) (B5 (l ++ [d]))→(∀w0,Aa w0 wN→w0.heap.size<=base→Aa w0 w')→wpList Tryz.prog ops Q rest (a.put o.dst v') w') :
  wpList Tryz.prog ops Q (o::rest) a wN:=
 wpList_plain hgd fun _ hK=>AkV s x ho wN base v n l hs hown hn d g hb hx hbase fun v' w' h1 h2 _=>hK _ _ (h v' w' h1 h2)
theorem AkY(s x:Operand)(ho:o.op=.call {callee:=.builtin .append,args:=#[s,x],argTypes:=#[23,23]})
  (wN:World) (base:Nat) (v:Value) (n:Nat) (l:List Bs) (hs:a.eval s=v) (hown:wN.ownsRow base 9 1 v n (l.map S)) (hn:n<200000) (d:Bs)
  (g:Nat) (hb:wN.heap[g]?=some (.cells #[S d] 9)) (hx:a.eval x=.slice (some ⟨g,0,none⟩) 1 1) (hbase:base<=wN.heap.size)
  (h:∀v' w',w'.ownsRow base 9 1 v' (n+1) ((l ++ [d]).map S)→(∀w0,Aa w0 wN→w0.heap.size<=base→Aa w0 w')→wN.grownBy w' v.ownBlock→K (a.put o.dst v') w') :
  o.wp Tryz.prog a wN K Q:=by
 obtain⟨i0,hi,hz0,hz1,hz2⟩:=info_parts Tryz.infoSt;refine Ty s x 23 ho 9 i0 _ 1 16 Tryz.underlying23 hi hz0 hz1 hz2 rfl (by omega) (by omega) wN base v n _ hs hown hn g _ hb rfl ?_ hx hbase ?_
 ·intro u hu;simp only [List.mem_cons,An0,or_false]at hu
  rcases hu with rfl<;>rfl
 ·intro v' w' h1 h2 h3;exact h v' w' (by rw [Akj];exact h1) h2 h3
theorem Ui(hgd:o.guard=none)(s x:Operand)(ho:o.op=.call {callee:=.builtin .append,args:=#[s,x],argTypes:=#[23,23]})
  (wN:World) (base:Nat) (v:Value) (n:Nat) (l:List Bs) (hs:a.eval s=v) (hown:wN.ownsRow base 9 1 v n (l.map S)) (hn:n<200000) (d:Bs)
  (g:Nat) (hb:wN.heap[g]?=some (.cells #[S d] 9)) (hx:a.eval x=.slice (some ⟨g,0,none⟩) 1 1) (hbase:base<=wN.heap.size)
  (h:∀v' w',w'.ownsRow base 9 1 v' (n+1) ((l ++ [d]).map S)→(∀w0,Aa w0 wN→w0.heap.size<=base→Aa w0 w')→wpList Tryz.prog ops Q rest (a.put o.dst v') w') :
  wpList Tryz.prog ops Q (o::rest) a wN:=
 wpList_plain hgd fun _ hK=>AkY s x ho wN base v n l hs hown hn d g hb hx hbase fun v' w' h1 h2 _=>hK _ _ (h v' w' h1 h2)
end
def Wv:Array Value:=#[S [65],S [66],S [67],S [68],S [69],S [70],S [97],S [98],S [99],S [100],S [120],S [121]]
def lU(k:Nat)(s:Bs)(w:World)(e:Ending)(w':World):Prop:=∃g,e=.returned (.slice (some ⟨g,0,none⟩) 12 12)/\w'.cell? ⟨g,k,none⟩=some (S s)/\g<w'.heap.size/\Aa w w'
theorem Ahb:∀k,k<12→Wv[k]?=some (S (MG.getD k [])):=by
 intro k hk
 rcases(by omega:k=0∨k=1∨k=2∨k=3∨k=4∨k=5∨k=6∨k=7∨k=8∨k=9∨k=10∨k=11)with rfl|rfl|rfl|rfl|rfl|rfl|rfl|rfl|rfl|rfl|rfl|rfl<;>rfl
theorem Ahc(k:Nat)(hk:k<12)(w:World):Calls Tryz.prog 46 #[] w (lU k (MG.getD k []) w):=by
 have hb:=Ann w (.cells Wv 9);have hE:=(Aa.refl w).alloc (.cells Wv 9);have AS:lU k (MG.getD k []) w (.returned (.slice (some ⟨w.heap.size,0,none⟩) 12 12)) (w.alloc (.cells Wv 9)):=⟨_,rfl,Ab hb (Ahb k hk),Anm hb,hE⟩;have HF:=Anl AS;clear AS hb hE;go_enter Tryz.func46,Tryz.ntmps46;go_wp2;go_ret;exact HF.out
def G9(l:List Dr):List Value:=l.flatMap (fun e=>[.int .u8 (e.u.toNat:Nat),.int .u8 (e.s.toNat:Nat),.int .u8 (e.p.toNat:Nat),.int .u8 (e.t.toNat:Nat)])
theorem pT(l:List Dr):(G9 l).length=l.length*4:=by
 induction l with
 | nil=>rfl
 | cons e l ih=>unfold G9 at *;simp only [List.flatMap_cons,List.length_append,ih,List.length_cons,List.length_nil];omega
theorem YW:∀(l:List Dr) (j:Nat) (h:j<l.length),(G9 l)[j*4]?=some (.int .u8 (l[j].u.toNat:Nat))/\(G9 l)[j*4+1]?=some (.int .u8 (l[j].s.toNat:Nat))/\(G9 l)[j*4+2]?=some (.int .u8 (l[j].p.toNat:Nat))/\(G9 l)[j*4+3]?=some (.int .u8 (l[j].t.toNat:Nat))
 | e::l,0,_=>⟨rfl,rfl,rfl,rfl⟩
 | e::l,j+1,h=>by
  have ih:=YW l j (by simpa using h);have e0:G9 (e::l)=.int .u8 (e.u.toNat:Nat) :: .int .u8 (e.s.toNat:Nat) :: .int .u8 (e.p.toNat:Nat) :: .int .u8 (e.t.toNat:Nat)::G9 l:=rfl;rw [e0];have e1:(j+1)*4=j*4+1+1+1+1:=(by omega);rw [e1]
  simpa using ih
theorem AiJ{w:World}{A:Option Addr}{l:List Dr}(hr:Ae w A (G9 l)){j:Nat}(h:j<l.length):∃b o,A=some ⟨b,o,none⟩/\w.cell? ⟨b,o+j*4,none⟩=some (.int .u8 (l[j].u.toNat:Nat))/\w.cell? ⟨b,o+j*4+1,none⟩=some (.int .u8 (l[j].s.toNat:Nat))/\w.cell? ⟨b,o+j*4+2,none⟩=some (.int .u8 (l[j].p.toNat:Nat))/\w.cell? ⟨b,o+j*4+3,none⟩=some (.int .u8 (l[j].t.toNat:Nat)):=by
 have hl:=pT l;obtain⟨b,o,e,hcs⟩:=hr.ad (by omega);obtain⟨f0,f1,f2,f3⟩:=YW l j h;have g0:=hcs (j*4) (by omega);have g1:=hcs (j*4+1) (by omega);have g2:=hcs (j*4+2) (by omega);have g3:=hcs (j*4+3) (by omega);rw [Ant (by omega),Ans]at f0 f1 f2 f3;rw [f0]at g0;rw [f1,←Nat.add_assoc]at g1;rw [f2,←Nat.add_assoc]at g2;rw [f3,←Nat.add_assoc]at g3;exact⟨b,o,e,g0,g1,g2,g3⟩
theorem AgD(y e:En)(b:Nat)(w:World)(hb:w.heap[b]?=some (.cells #[S e.u,S e.s,.int .i64 e.p,S e.t] 40)) :
  Calls Tryz.prog 48 #[Gb y,.pointer (some ⟨b,0,none⟩)] w (B7 (y.u == e.u||y.s == e.s) w):=by
 have hx:=(Aa.refl w).alloc (.cells #[S y.u,S y.s,.int .i64 y.p,S y.t] 40);have j0:=hx.cellS (Ab (o:=0) hb rfl);have j1:=hx.cellS (Ab (o:=1) hb rfl);unfold Gb;clear hb;obtain⟨r,hr⟩:=Ank ((y.u == e.u||y.s == e.s));rw [←hr]
 cases h1:(y.u == e.u)
 ·have HR:=Anl (show r=(y.s == e.s)by rw [hr,h1,Bool.false_or]);clear hr;go_enter Tryz.func48,Tryz.ntmps48;go_wp2;go_ret;exact⟨by rw [HR.out];rfl,hx⟩
 ·have HR:=Anl (show r=true by rw [hr,h1,Bool.true_or]);clear hr;go_enter Tryz.func48,Tryz.ntmps48;go_wp2;go_ret;exact⟨by rw [HR.out];rfl,hx⟩
theorem Acn:∀args w,(callFunc 48 args).run Tryz.prog w=.ok (.enter 48 args) w:=enters_of Tryz.func48 (by kernel_rfl) rfl
theorem Agd(l:List La)(i:Nat):CP (l.take i)=(CP l).take (i*3):=by
 induction l generalizing i with
 | nil=>simp [CP]
 | cons e l ih=>
  cases i with
  | zero=>simp [CP]
  | succ i=>have e0:∀l,CP (e::l)=S e.u::S e.mn::S e.mx::CP l:=fun _=>rfl;rw [List.take_succ_cons,e0,e0,ih];have e1:(i+1)*3=i*3+1+1+1:=(by omega);rw [e1];simp
theorem Aag(x:La)(u:Bs)(b:Nat)(w:World)(hb:w.cell? ⟨b,0,none⟩=some (S u)) :
  Calls Tryz.prog 142 #[Lc x,.pointer (some ⟨b,0,none⟩)] w (B7 (x.u == u) w):=by
 have hx:=(Aa.refl w).alloc (.cells #[S x.u,S x.mn,S x.mx] 31);have j1:=hx.cellS hb;unfold Lc;clear hb;go_enter Tryz.func142,Tryz.ntmps142;go_wp2;go_ret;exact⟨rfl,hx⟩
theorem Acg:∀args w,(callFunc 142 args).run Tryz.prog w=.ok (.enter 142 args) w:=enters_of Tryz.func142 (by kernel_rfl) rfl
theorem Abj(c:List La)(u:Bs)(A:Option Addr)(cc:Nat)(w:World)(hr:Ae w A (CP c))(h1:c.length<=cc)(h2:cc<=9223372036854775807) :
  Calls Tryz.prog 74 #[.slice A c.length cc,S u] w (AA (BD c u) w):=by
 have hb:=Ann w (.cells #[S u] 9);have hE:=(Aa.refl w).alloc (.cells #[S u] 9)
 have ix:=zR (cb:=#[.pointer (some ⟨w.heap.size,0,none⟩)]) Acg (fun e=>e.u == u) c A cc (w.alloc (.cells #[S u] 9)) (hr.ext hE) h1 h2
  (fun e _ W hx=>Aag e u _ W (Ab (o:=0) ((hx.block _ (Anm hb)).trans hb) rfl))
 unfold BD;clear hr hb;go_enter Tryz.func74,Tryz.ntmps74;(go_wp2_with fail);(with_reducible refine ix.mono ?_);rintro e w1 ⟨rfl,hx⟩;go_wp2;go_ret;exact⟨rfl,hE.trans hx⟩
open Classical in
noncomputable def Ld(x:La):Int:=if ¬BJ x.mn then 2 else if x.mx≠[]/\¬BJ x.mx then 2 else 0
open Classical in
theorem Agg(x:La)(h1:x.mn.length<100000)(h2:x.mx.length<100000)(w:World)(hw:An w):Calls Tryz.prog 73 #[Lc x] w (AA (Ld x) w):=by
 have hb:=Ann w (.cells #[S x.u,S x.mn,S x.mx] 31);have hE:=(Aa.refl w).alloc (.cells #[S x.u,S x.mn,S x.mx] 31);have c1:=iF x.mn h1 (w.alloc (.cells #[S x.u,S x.mn,S x.mx] 31)) (hw.ext hE);have c2:=iF x.mx h2;unfold Lc;obtain⟨r,hr0⟩:=Ank (Ld x);rw [←hr0];have HR:=Anl hr0;clear hr0;go_enter Tryz.func73,Tryz.ntmps73
 go_upto_region 1 with fail
 generalize w.alloc (.cells #[S x.u,S x.mn,S x.mx] 31)=V at *;obtain⟨b,Bl⟩:=Ank w.heap.size;rw [←Bl]at hb ⊢;clear Bl;have k1:=Ab (o:=1) hb rfl;by_cases o1:BJ x.mn
 ·rw [decide_eq_true o1,Km]at c1;(go_wp2_with fail);(with_reducible refine c1.mono ?_);rintro e w1 ⟨rfl,hx1⟩;have X1:=hE.trans hx1;have hb1:=(hx1.block _ (Anm hb)).trans hb;have k2:=Ab (o:=2) hb1 rfl;have O1:=Anl (show ¬¬BJ x.mn from fun h=>h o1);clear k1 hb hx1 o1;by_cases e0:x.mx = []
  ·have HH:=Anl (show r=0 by rw [HR.out];unfold Ld;rw [if_neg O1.out,if_neg (by rintro⟨h,_⟩;exact h e0)]);have t1:(x.mx == [])=true:=(by rw [e0];rfl);rw [e0]at k2;clear e0 t1;go_wp2;go_ret;exact⟨Bd HH.out,X1⟩
  ·have t1:(x.mx == [])=false:=beq_false_of_ne e0
   have t2:x.mx.isEmpty=false:=by cases hm:x.mx with|nil=>exact absurd hm e0|cons a b=>rfl
   have c3:=c2 w1 (hw.ext X1);have E0:=Anl e0;by_cases o2:BJ x.mx
   ·rw [decide_eq_true o2,Km]at c3;have HH:=Anl (show r=0 by rw [HR.out];unfold Ld;rw [if_neg O1.out,if_neg (by rintro⟨_,h⟩;exact h o2)]);clear o2;(go_wp2_with fail);(with_reducible refine c3.mono ?_);rintro e w2 ⟨rfl,hx2⟩;go_wp2;go_ret;exact⟨Bd HH.out,X1.trans hx2⟩
   ·rw [decide_eq_false o2,Np]at c3;have HH:=Anl (show r=2 by rw [HR.out];unfold Ld;rw [if_neg O1.out,if_pos ⟨e0,o2⟩]);clear o2;(go_wp2_with fail);(with_reducible refine c3.mono ?_);rintro e w2 ⟨rfl,hx2⟩;go_wp2;go_ret;exact⟨Bd HH.out,X1.trans hx2⟩
 ·rw [decide_eq_false o1,Np]at c1;have HH:=Anl (show r=2 by rw [HR.out];unfold Ld;rw [if_pos o1]);clear o1;(go_wp2_with fail);(with_reducible refine c1.mono ?_);rintro e w1 ⟨rfl,hx1⟩;go_wp2;go_ret;exact⟨Bd HH.out,hE.trans hx1⟩
theorem ot{l:Bs}(h:BJ l):Sz 200 (rv l):=by
 obtain⟨_,h1,h2⟩:=iR h;exact⟨Lf h1,Lf h2⟩
def Agq(x:La):Prop:=x.u.length<1000000/\x.mn.length<100000/\x.mx.length<100000
theorem oQ(l:List La)(A:Option Addr)(c:Nat)(w:World)(hw:An w)(hr:Ae w A (CP l))(hc:l.length<=c)(hcm:c<=9223372036854775807)(hl:∀e∈l,Agq e) :
  Calls Tryz.prog 32 #[.slice A l.length c] w (AA (Nq l) w):=by
 have HL:=Anl hl;have Fb:=Anl hr;obtain⟨r,hr0⟩:=Ank (Nq l);rw [←hr0];have HR:=Anl hr0;obtain⟨n,hn⟩:=Ank l.length;rw [←hn]at hc ⊢;have HN:=Anl hn;clear hl hr hr0 hn;by_cases h0:n=0
 ·have HH:=Anl (show r=13 by rw [HR.out];unfold Nq;rw [if_pos (by rw [←HN.out];exact h0)]);subst h0;go_enter Tryz.func32,Tryz.ntmps32;go_wp2;go_ret;exact⟨Bd HH.out,Aa.refl _⟩
 have t0:((n:Int) == 0)=false:=beq_false_of_ne (by omega);by_cases Zm:60<n
 ·have HH:=Anl (show r=4 by rw [HR.out];unfold Nq;rw [if_neg (by rw [←HN.out];exact h0),if_pos (by rw [←HN.out];exact Zm)]);have t2:(60:Int)<(n:Int):=(by omega);go_enter Tryz.func32,Tryz.ntmps32;go_wp2;go_ret;exact⟨Bd HH.out,Aa.refl _⟩
 have HC:=Anl (show r=Ko [] l by rw [HR.out];unfold Nq;rw [if_neg (by rw [←HN.out];exact h0),if_neg (by rw [←HN.out];exact Zm)]);have t2:¬(60:Int)<(n:Int):=(by omega);clear h0 HR;go_enter Tryz.func32,Tryz.ntmps32
 go_upto_region 6 with fail
 go_loopw [16] (fun kv wr=>∃(k:Nat),kv=.int .i64 (k:Nat)/\k<=n/\r=Ko (l.take k) (l.drop k)/\Aa w wr) (fun kv _=>n-(intOf kv).toNat)
 case atStart=>exact⟨0,rfl,by omega,by rw [List.take_zero,List.drop_zero];exact HC.out,Aa.refl _⟩
 case round=>
  obtain⟨k,rfl,hk,hck,Ac⟩:=hrel;have LC:=Anl hck;clear hck;by_cases hkn:k<n
  ·have BL:k<l.length:=(by rw [←HN.out];exact hkn);obtain⟨b,o,rfl,hg1,hg2,hg3⟩:=iH (Fb.out.ext Ac) BL;have hst:=Abk BL rfl;rw [←LC.out]at hst;obtain⟨m1,m2,m3⟩:=HL.out l[k] (Anp BL);obtain⟨x,hx⟩:=Ank (l[k]);rw [←hx]at hg1 hg2 hg3 hst m1 m2 m3;have HST:=Anl hst;have EN:(l.take k).length=k:=(by rw [List.length_take];omega);have hk0:(0:Int)<=(k:Int):=(by omega);have Ca:(k:Int)<(n:Int):=(by omega);have hk2:(k:Int)<=(c:Int):=(by omega);have v1:IntKind.wrap .i64 ((k:Int)+1)=(k:Int)+1:=Anu _ (by omega);have hxb:=Ann wr (.cells #[S x.u,S x.mn,S x.mx] 31);have hx1:=(Aa.refl wr).alloc (.cells #[S x.u,S x.mn,S x.mx] 31);have hE:=Ac.trans hx1;have la:=fun W (hw:An W)=>Agg x m2 m3 W hw;unfold Lc at la;have at_:=fun W (hx:Aa w W)=>Abj (l.take k) x.u (some ⟨b,o,none⟩) c W (by rw [Agd];exact(Fb.out.ext hx).take _) (by omega) hcm;rw [EN]at at_;have nm:=eE x.u m1;clear hx hst EN Ac
   go_upto_region 8 with fail
   generalize wr.alloc (.cells #[S x.u,S x.mn,S x.mx] 31)=V at *;obtain⟨bx,Aw⟩:=Ank wr.heap.size;rw [←Aw]at hxb ⊢;clear Aw hg1 hg2 hg3 hx1;have k1:=Ab (o:=0) hxb rfl;have k2:=Ab (o:=1) hxb rfl;have k3:=Ab (o:=2) hxb rfl;have eL:=la V (hw.ext hE);obtain⟨z,hz⟩:=Ank (Ld x);rw [←hz]at eL;have HZ:=Anl hz;clear la hz;(go_wp2_with fail);(with_reducible refine eL.mono ?_);rintro e w1 ⟨rfl,hx1⟩;have hb1:=(hx1.block _ (Anm hxb)).trans hxb;have X1:=hE.trans hx1;clear eL k1 k2 k3 hxb hx1;by_cases hz0:z=0
   ·subst hz0
    obtain⟨o1,o2⟩:BJ x.mn/\(x.mx = []∨BJ x.mx):=by
     have h3:=HZ.out;unfold Ld at h3
     split at h3
     ·cases h3
     ·rename_i h4
      refine⟨Classical.not_not.1 h4,?_⟩
      split at h3
      ·cases h3
      ·rename_i h5
       by_cases h6:x.mx = []
       ·exact .inl h6
       ·exact .inr (Classical.not_not.1 fun h=>h5 ⟨h6,h⟩)
    obtain⟨e1,-,-⟩:=iR o1;have s1:=ot o1;obtain⟨p,hp⟩:=Ank (rv x.mn);rw [←hp]at e1 s1;have sg:∀W,Calls Tryz.prog 75 #[S x.mn] W (AA (AE p) W):=by intro W;rw [e1];exact Qa p W
    have hcs:colS (l.take k) x=if nameB x.u=false then 8 else if 0<=BD (l.take k) x.u then 9 else if p<0 then 3 else if x.mx≠[]/\rv x.mx<p then 6 else 0:=by unfold colS;rw [if_neg (fun h=>h o1),if_neg (by rintro⟨h,h'⟩;rcases o2 with e|e;exact h e;exact h' e),←hp]
    have FY:=Anl hcs;have Oy:=Anl o2;have G3:=Anl e1;clear hcs o1 o2 e1 hp;have k4:=Ab (o:=0) hb1 rfl;have JE:=nm w1;clear nm
    cases a1:nameB x.u
    ·have HH:=Anl (show r=8 by
      have h2:colS (l.take k) x=8:=by rw [FY.out,if_pos a1]
      rw [HST.out,if_neg (by rw [h2];omega),h2])
     rw [a1]at JE;clear a1;(go_wp2_with fail);(with_reducible refine JE.mono ?_);rintro e w2 ⟨rfl,hx2⟩;go_wp2;go_ret;exact⟨Bd HH.out,X1.trans hx2⟩
    have A1:=Anl (show ¬(nameB x.u=false)by rw [a1];simp);rw [a1]at JE;clear a1;(go_wp2_with fail);(with_reducible refine JE.mono ?_);rintro e w2 ⟨rfl,hx2⟩;have hb2:=(hx2.block _ (Anm hb1)).trans hb1;have X2:=X1.trans hx2;have O0:=Anl X2;clear JE k4 hb1 hx2;have f1:∀q:Af w2,q.w.cell? ⟨bx,0,none⟩=some (S x.u):=Af.cell (Ab hb2 rfl);have Nn:=fun q:Af w2=>at_ q.w (O0.out.trans q.h);obtain⟨y,hy⟩:=Ank (BD (l.take k) x.u);rw [←hy]at Nn;have HY:=Anl hy;clear hy at_ X2
    go_upto_region 13 with fail
    refine Ft (by kernel_rfl) (by kernel_rfl) ?_
    repeat (go_big_quiet_step (with_reducible refine Eg (Nn _)))
    refine wpQuiet_nil ?_;rintro _ ⟨q,rfl⟩;have X3:=O0.out.trans q.h;have hb3:=(q.h.block _ (Anm hb2)).trans hb2;have CX:=Anl X3;clear f1 Nn;by_cases a2:0<=y
    ·have HH:=Anl (show r=9 by
      have h2:colS (l.take k) x=9:=by rw [FY.out,if_neg A1.out,if_pos (by rw [←HY.out];exact a2)]
      rw [HST.out,if_neg (by rw [h2];omega),h2])
     go_wp2;go_ret;exact⟨Bd HH.out,CX.out⟩
    have yo:=Int.not_le.1 a2;have A2:=Anl (show BD (l.take k) x.u<0 by rw [←HY.out];exact yo);have k4:=Ab (o:=1) hb3 rfl;have Xc:=sg q.w;have hw3:=hw.ext X3;generalize q.w=w3 at *;clear sg a2;have Tv:AE p<0↔p<0:=(by unfold AE;grind);obtain⟨s,hs⟩:=Ank (AE p);rw [←hs]at Xc Tv;clear hs;by_cases a3:s<0
    ·have HH:=Anl (show r=3 by
      have h2:colS (l.take k) x=3:=by rw [FY.out,if_neg A1.out,if_neg (Int.not_le.2 A2.out),if_pos (Tv.1 a3)]
      rw [HST.out,if_neg (by rw [h2];omega),h2])
     clear Tv;(go_wp2_with fail);(with_reducible refine Xc.mono ?_);rintro e w4 ⟨rfl,Ai⟩;go_wp2;go_ret;exact⟨Bd HH.out,CX.out.trans Ai⟩
    have A3:=Anl (show ¬(p<0)from fun h=>a3 (Tv.2 h));clear Tv;(go_wp2_with fail);(with_reducible refine Xc.mono ?_);rintro e w4 ⟨rfl,Ai⟩;have hb4:=(Ai.block _ (Anm hb3)).trans hb3;have X4:=CX.out.trans Ai;have hw4:=hw.ext X4;have Qz:=Anl X4;clear hb3 Ai k4 Xc X4 CX;have k5:=Ab (o:=2) hb4 rfl;have k6:=Ab (o:=1) hb4 rfl;by_cases e0:x.mx = []
    ·have HH:=Anl (show r=Ko (l.take (k+1)) (l.drop (k+1))by
      have h2:colS (l.take k) x=0:=by rw [FY.out,if_neg A1.out,if_neg (Int.not_le.2 A2.out),if_neg A3.out,if_neg (by rintro⟨h,_⟩;exact h e0)]
      rw [HST.out,if_pos h2])
     rw [e0]at k5;clear e0;go_wp2;go_roundw
     case rel=>exact⟨k+1,by go_num,hkn,HH.out,Qz.out⟩
     case measure=>simp [intOf];omega
    ·have t1:(x.mx == [])=false:=beq_false_of_ne e0
     have t3:x.mx.isEmpty=false:=by cases hm:x.mx with|nil=>exact absurd hm e0|cons a b=>rfl
     have o3:BJ x.mx:=Oy.out.resolve_left e0;have s2:=ot o3;obtain⟨e2,-,-⟩:=iR o3;obtain⟨p2,KQ⟩:=Ank (rv x.mx);rw [←KQ]at e2 s2
     have cp:Calls Tryz.prog 76 #[S x.mx,S x.mn] w4 (AA (AN p2 p) w4):=by rw [e2,G3.out];exact IZ p2 p ⟨s2,s1,by omega,by omega,by omega⟩ w4 hw4
     have QU:AN p2 p<0↔p2<p:=(by unfold AN;grind);have lB:=Anl KQ;have E0:=Anl e0;obtain⟨s,hs⟩:=Ank (AN p2 p);rw [←hs]at cp QU;clear hs o3 e2 KQ;by_cases a4:s<0
     ·have HH:=Anl (show r=6 by
       have h2:colS (l.take k) x=6:=by rw [FY.out,if_neg A1.out,if_neg (Int.not_le.2 A2.out),if_neg A3.out,if_pos ⟨E0.out,by rw [←lB.out];exact QU.1 a4⟩]
       rw [HST.out,if_neg (by rw [h2];omega),h2])
      clear QU;(go_wp2_with fail);(with_reducible refine cp.mono ?_);rintro e w5 ⟨rfl,Ad⟩;go_wp2;go_ret;exact⟨Bd HH.out,Qz.out.trans Ad⟩
     ·have HH:=Anl (show r=Ko (l.take (k+1)) (l.drop (k+1))by
       have h2:colS (l.take k) x=0:=by rw [FY.out,if_neg A1.out,if_neg (Int.not_le.2 A2.out),if_neg A3.out,if_neg (by rintro⟨_,h⟩;rw [←lB.out]at h;exact a4 (QU.2 h))]
       rw [HST.out,if_pos h2])
      clear QU;(go_wp2_with fail);(with_reducible refine cp.mono ?_);rintro e w5 ⟨rfl,Ad⟩;go_wp2;go_roundw
      case rel=>exact⟨k+1,by go_num,hkn,HH.out,Qz.out.trans Ad⟩
      case measure=>simp [intOf];omega
   ·have HH:=Anl (show r=z by
     have h2:colS (l.take k) x=z:=by
      have h3:=HZ.out;unfold Ld at h3;unfold colS
      split at h3
      ·rename_i h4;rw [if_pos h4];exact h3.symm
      ·rename_i h4
       rw [if_neg h4]
       split at h3
       ·rename_i h5;rw [if_pos h5];exact h3.symm
       ·exact absurd h3 hz0
     rw [HST.out,if_neg (by rw [h2];exact hz0),h2])
    have t1:(z != 0)=true:=(by rw [bne_iff_ne];exact hz0);clear hz0;go_wp2;go_ret;exact⟨Bd HH.out,X1⟩
  ·have Bu:k=n:=(by omega);subst Bu;have HH:=Anl (show r=0 by rw [LC.out,HN.out,List.drop_length];rfl);go_wp2;go_ret;exact⟨Bd HH.out,Ac⟩
def Rk(z:Int):Value:=if 0<=z then .tuple #[.int .i64 z,.bool true,.int .i64 0] else .tuple #[.int .i64 0,.bool false,.int .i64 0]
theorem find_ok(l:List En)(u:Bs)(A:Option Addr)(c:Nat)(w:World)(hr:Ae w A (B5 l))(hc:l.length<=c)(hcm:c<=9223372036854775807)(hl:∀e∈l,MD e)(h:DN l=0) :
  Calls Tryz.prog 14 #[.slice A l.length c,S u] w (CC (Rk (GA l u)) w):=by
 have ck:=YJ l A c w hr hc hcm hl;rw [h]at ck;have fd:=fun W (hx:Aa w W)=>rE l u A c W (hr.ext hx) hc hcm;generalize GA l u=z at *;clear hr h;by_cases h0:0<=z
 ·have e:Rk z=.tuple #[.int .i64 z,.bool true,.int .i64 0]:=if_pos h0;rw [e];clear e;go_enter Tryz.func14,Tryz.ntmps14;(go_wp2_with fail);(with_reducible refine ck.mono ?_);rintro e w1 ⟨rfl,hx1⟩;(go_wp2_with fail);(with_reducible refine(fd w1 hx1).mono ?_);rintro e w2 ⟨rfl,hx2⟩;go_wp2;refine bodyPost_ret (v:=.tuple #[.int .i64 z,.bool true,.int .i64 0]) (by simp [results,Tryz.results14,go_sem]) rfl ?_;exact⟨rfl,hx1.trans hx2⟩
 ·have e:Rk z=.tuple #[.int .i64 0,.bool false,.int .i64 0]:=if_neg h0;rw [e];have h1:=Int.not_le.1 h0;clear e h0;go_enter Tryz.func14,Tryz.ntmps14;(go_wp2_with fail);(with_reducible refine ck.mono ?_);rintro e w1 ⟨rfl,hx1⟩;(go_wp2_with fail);(with_reducible refine(fd w1 hx1).mono ?_);rintro e w2 ⟨rfl,hx2⟩;go_wp2;refine bodyPost_ret (v:=.tuple #[.int .i64 0,.bool false,.int .i64 0]) (by simp [results,Tryz.results14,go_sem]) rfl ?_;exact⟨rfl,hx1.trans hx2⟩
theorem Age(x:En)(u:Bs)(b:Nat)(w:World)(hb:w.cell? ⟨b,0,none⟩=some (S u)) :
  Calls Tryz.prog 51 #[Gb x,.pointer (some ⟨b,0,none⟩)] w (B7 (x.u == u) w):=by
 have hx:=(Aa.refl w).alloc (.cells #[S x.u,S x.s,.int .i64 x.p,S x.t] 40);have j1:=hx.cellS hb;unfold Gb;clear hb;go_enter Tryz.func51,Tryz.ntmps51;go_wp2;go_ret;exact⟨rfl,hx⟩
theorem Acm:∀args w,(callFunc 51 args).run Tryz.prog w=.ok (.enter 51 args) w:=enters_of Tryz.func51 (by kernel_rfl) rfl
theorem Agf(l:List En)(u:Bs)(A:Option Addr)(c:Nat)(w:World)(hr:Ae w A (B5 l))(hc:l.length<=c)(hcm:c<=9223372036854775807) :
  Calls Tryz.prog 16 #[.slice A l.length c,S u] w (AA (GA l u) w):=by
 have hb:=Ann w (.cells #[S u] 9);have hE:=(Aa.refl w).alloc (.cells #[S u] 9)
 have ix:=eB (cb:=#[.pointer (some ⟨w.heap.size,0,none⟩)]) Acm (fun e=>e.u == u) l A c (w.alloc (.cells #[S u] 9)) (hr.ext hE) hc hcm
  (fun e _ W hx=>Age e u _ W (Ab (o:=0) ((hx.block _ (Anm hb)).trans hb) rfl))
 unfold GA;clear hr hb;go_enter Tryz.func16,Tryz.ntmps16;(go_wp2_with fail);(with_reducible refine ix.mono ?_);rintro e w1 ⟨rfl,hx⟩;go_wp2;go_ret;exact⟨rfl,hE.trans hx⟩
theorem qJ(l:List Bs)(A B:Option Addr)(c d:Nat)(w:World)(hA:Ae w A (l.map S))(hB:Ae w B (l.map S))(hl:l.length<=100000) :
  Calls Tryz.prog 17 #[.slice A l.length c,.slice B l.length d] w (B7 true w):=by
 have rh:=Anl hA;have X9:=Anl hB;obtain⟨n,hn⟩:=Ank l.length;rw [←hn]at hl ⊢;have HN:=Anl hn;clear hA hB hn;go_enter Tryz.func17,Tryz.ntmps17
 go_upto_region 4 with fail
 go_loopw [13] (fun i wr=>∃j:Nat,i=.int .i64 (j:Nat)/\j<=n/\Aa w wr) (fun i _=>n-(intOf i).toNat)
 case atStart=>exact⟨0,rfl,Nat.zero_le _,Aa.refl _⟩
 case round=>
  obtain⟨j,rfl,hj,Ac⟩:=hrel;by_cases hlt:j<n
  ·have AW:j<(l.map S).length:=(by rw [List.length_map,←HN.out];exact hlt);obtain⟨b,o,rfl,hc1⟩:=(rh.out.ext Ac).ad (by omega);obtain⟨b',o',rfl,hc2⟩:=(X9.out.ext Ac).ad (by omega);have g1:=hc1 j AW;have g2:=hc2 j AW;rw [List.getElem_map]at g1 g2;generalize l[j]'(by rw [List.length_map]at AW;exact AW)=s at *;have hj0:(0:Int)<=(j:Int):=(by omega);have Mr:(j:Int)<(n:Int):=(by omega);have v1:IntKind.wrap .i64 ((j:Int)+1)=(j:Int)+1:=Anu _ (by omega);clear hc1 hc2 AW
   go_upto_region 6 with fail
   go_quiet (fail)
   go_wp2;go_roundw
   case rel=>exact⟨j+1,by go_num,hlt,Ac.drewN _⟩
   case measure=>simp [intOf];omega
  ·have hle:(n:Int)<=(j:Int):=(by omega);go_wp2;go_ret;exact⟨rfl,Ac⟩
theorem Aj1{α β:Type}(E:List (α×β)){seen:List Nat}(BU:seen.Nodup)(hlt:∀i∈seen,i<E.length)(hlen:seen.length=E.length):(seen.filterMap (fun i=>E[i]?.map (·.1))).Perm (E.map (·.1)):=by
 have hmem:∀i,i<E.length→i∈seen:=by
  intro i hi;refine Classical.byContradiction fun hn=>?_;have h1:(i::seen).Nodup:=List.nodup_cons.2 ⟨hn,BU⟩
  have h2:(i::seen) ⊆ List.range E.length:=by
   intro j hj
   rcases List.mem_cons.1 hj with rfl|hj
   ·simpa using hi
   ·simpa using hlt j hj
  have:=h1.length_le_of_subset h2;simp at this;omega
 have hp:seen.Perm (List.range E.length):=by
  rw [List.perm_iff_count];intro i;rw [BU.count,(List.nodup_range).count];by_cases hi:i<E.length
  ·rw [if_pos (hmem i hi),if_pos (by simpa using hi)]
  ·rw [if_neg (fun h=>hi (hlt i h)),if_neg (by simpa using hi)]
 refine(hp.filterMap _).trans ?_;have e1:(List.range E.length).filterMap (fun i=>E[i]?.map (·.1))=((List.range E.length).filterMap (fun i=>E[i]?)).map (·.1):=(by rw [List.map_filterMap]);rw [e1,kh E]
theorem ay(mb:Option Nat)(w:World) :
  Calls Tryz.prog 195 #[.map mb] w fun e w'=>e=.returned (.func (.func 267) #[] #[.pointer (some ⟨w.heap.size,0,none⟩)])/\w'=w.alloc (.cells #[.map mb] 132):=by
 go_enter Tryz.func195,Tryz.ntmps195;go_wp2;go_ret;exact⟨rfl,rfl⟩
theorem AfW(F:Fence)(n:Nat)(h10:F.fn 267)(hro:F.round=none)(hn:1<=n)(l Bm b:Nat)(E:List (Pt×Value×Nat))(hst:∀i (h:i<E.length),E[i].2.2=i)(J:List Pt→World→Prop)
  (hY:∀pre x W,J pre W→pre.length<E.length→YieldAt F (n-1) Tryz.prog l #[Ak x] W fun e W'=>e=.returned (.bool true)/\J (pre ++ [x]) W'/\KeepsWalks W W')
  (W:World) (hJ:AbidesFrom W.heap.size J) (hm:W.cell? ⟨Bm,0,none⟩=some (.map (some b))) (hb:W.heap[b]?=some (.map (Ay Ak E).toArray E.length)) (h0:J [] W) :
  CallsIn F n Tryz.prog 267 #[.func (.yield l) #[] #[],.pointer (some ⟨Bm,0,none⟩)] W fun e W'=>(∃v,e=.returned v)/\∃ss:List Pt,ss.Perm (E.map (·.1))/\J ss W':=by
 have hlt:=Anm hb;obtain⟨hr1,hr2⟩:=Cz.range (enc:=Ak) (E:=E) (t:=132) Tryz.underlying132 (W:=W) (b:=b) hb;have hG:=(Aa.refl W).alloc (.mapIter (some b) E.length #[] E.length);have hJ1:=hJ [] W _ none h0 (Gd hG none) (fun r e=>by cases e);have hb1:=(hG.block b hlt).trans hb;refine callsIn_of_wp Tryz.func267 rfl h10 ?_ hro;simp only [Tryz.ntmps267,List.size_toArray,List.length_cons,List.length_nil,Nat.reduceAdd,Nat.reduceSub,Array.replicate_succ,Array.replicate_zero,List.push_toArray,List.append_toArray,List.nil_append,List.cons_append];gi_wp2;generalize W.alloc (.mapIter (some b) E.length #[] E.length)=V at *;obtain⟨r,hr⟩:=Ank W.heap.size;rw [←hr]at hr2 hlt hJ ⊢;clear hr hr1 hG hb hm h0
 gi_loopw [3] (fun _ wr=>∃seen:List Nat,Cz wr r b E seen/\wr.heap[b]?=some (.map (Ay Ak E).toArray E.length)/\J (seen.filterMap (fun i=>E[i]?.map (·.1))) wr)
  (fun _ wr=>E.length-(wr.iterSeen r).size)
 case atStart=>exact⟨[],hr2,hb1,hJ1⟩
 case round=>
  obtain⟨seen,hI,hbr,hJs⟩:=hrel
  rcases Cz.next Ak hI hbr hst (by omega) 0 with⟨hlen,hrun⟩|⟨i,hi,Gn,W1,F8,hG1,hs1,hrun,hen⟩
  ·have hP:=Aj1 E hI.nd hI.lt hlen;gi_wp2
   go_end0
   exact⟨⟨_,rfl⟩,_,hP,hJs⟩
  ·have KH:=hi
   have hstep:(seen ++ [i]).filterMap (fun i=>E[i]?.map (·.1))=seen.filterMap (fun i=>E[i]?.map (·.1)) ++ [(E[i]).1]:=by rw [List.filterMap_append];simp only [List.filterMap_cons,List.filterMap_nil,Ant KH,Option.map_some]
   have hlen':seen.length<E.length:=by
    have h2:(i::seen) ⊆ List.range E.length:=by
     intro j hj
     rcases List.mem_cons.1 hj with rfl|hj
     ·simpa using KH
     ·simpa using hI.lt j hj
    have:=(List.nodup_cons.2 ⟨Gn,hI.nd⟩).length_le_of_subset h2;simp at this;omega
   have Dl:=Es hI;have hJ2:=hJ _ wr W1 (some r) hJs hG1 (fun r' e=>by cases e;exact⟨Ano _,_,hI.it,rfl⟩);have hb2:=(hG1.block b (Anm hbr) (by simp;omega)).trans hbr;have Gk:=hen W1 rfl rfl;obtain⟨s,hs⟩:=Ank ((E[i]).1);obtain⟨z,hz⟩:=Ank ((E[i]).2.1);rw [←hs,←hz]at Gk hrun;rw [←hs]at hstep;have E3:=(Aa.refl W1).alloc (.cells #[S (R s.x),S (R s.y)] 92);have Ek:=Ann W1 (.cells #[S (R s.x),S (R s.y)] 92);have Rv:=hJ _ W1 _ none hJ2 (Gd E3 none) (fun r' e=>by cases e);have hpl:(seen.filterMap (fun i=>E[i]?.map (·.1))).length<E.length:=Nat.lt_of_le_of_lt (List.length_filterMap_le _ _) hlen';obtain⟨fn,tmps,assign,body,hy,hR⟩:=hY _ s _ Rv hpl;have Dh:=F8.keep (E3.block r (Anm F8.it));have hb4:=(E3.block b (Anm hb2)).trans hb2;have g0:=Ab (o:=0) Ek rfl;have g1:=Ab (o:=1) Ek rfl;clear hs1 hen hs hz Ek E3 Rv hJ2;unfold Ak at Gk hrun hy;unfold S at hy Gk hrun g0 g1 Dh hb4 hR;gi_wp2;refine hR.mono ?_;rintro e W3 ⟨rfl,hJ3,hk3⟩;gi_wp2;go_roundw
   case rel=>exact⟨seen ++ [i],⟨hk3.same r _ Dh.it rfl,Dh.nd,Dh.lt⟩,hk3.same b _ hb4 rfl,by rw [hstep];exact hJ3⟩
   case measure=>rw [Dl,Es (W:=W3) (b:=b) (E:=E) (seen:=seen ++ [i]) ⟨hk3.same r _ Dh.it rfl,Dh.nd,Dh.lt⟩,List.length_append,List.length_singleton];omega
theorem AfX(F:Fence)(n:Nat)(h10:F.fn 267)(hro:F.round=none)(hn:1<=n)(Bm b:Nat)(E:List (Pt×Value×Nat))(hst:∀i (h:i<E.length),E[i].2.2=i)(w:World)(hBm:Bm<w.heap.size)
  (hm:w.cell? ⟨Bm,0,none⟩=some (.map (some b))) (hb:w.heap[b]?=some (.map (Ay Ak E).toArray E.length)) :
  SeqGives F n Tryz.prog 267 #[.pointer (some ⟨Bm,0,none⟩)] Ak (fun ss=>ss.Perm (E.map (·.1))) E.length w:=fun l J W hW hJ hY h0=>
 AfW F n h10 hro hn l Bm b E hst J hY W hJ ((hW.cell (p:=⟨Bm,0,none⟩) hBm).trans hm) ((hW.block b (Anm hb)).trans hb) h0
end Go.Proofs.YtjalkoacphhgdaaGreatDoor
