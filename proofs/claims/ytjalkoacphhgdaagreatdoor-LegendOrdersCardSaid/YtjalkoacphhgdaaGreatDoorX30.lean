/- X30: LG7 LGM LGC LO2 LGF BB. -/
import Derived.Test.YtjalkoacphhgdaaGreatDoorX28
import Derived.Test.YtjalkoacphhgdaaGreatDoorX29
import Derived.Sort.MapsRangeIn
set_option maxRecDepth 100000
set_option maxHeartbeats 16000000
namespace Go.Proofs.YtjalkoacphhgdaaGreatDoor
open Go.RowKit Kl
theorem Uc{w:World}{B:Nat}{e:TypeId}{s n:Nat}{v:Value}{xs:List Value}(hs:0<s)(h:w.ownsRow B e s v n xs):∃A c,v=.slice A n c:=by
 obtain⟨A,c,e,_⟩:=Ad.of_own' hs h;exact⟨A,c,e⟩
theorem AeC(l:List En)(e:En):AQ (l ++ [e])=AQ l ++ [S e.u,S e.s,.int .i64 e.p,S e.t]:=by unfold AQ;simp
theorem AnB(l:List Bs)(d:Bs):(l ++ [d]).map S=l.map S ++ [S d]:=by simp
theorem Tryz.infoEn:(Tryz.prog.info? 40).map (fun i=>(i.zero,i.size,i.bytes))=some (some (.agg #[S [],S [],.int .i64 0,S []]),4,56):=by kernel_rfl
theorem Tryz.infoSt:(Tryz.prog.info? 9).map (fun i=>(i.zero,i.size,i.bytes))=some (some (S []),1,16):=by kernel_rfl
section
variable {ops : Array Oper} {rest : List Oper} {o : Oper} {a : Act} {K : Act → World → Prop} {Q : Exit → Act → World → Prop} {E : Prop}
theorem Aow(s x:Operand)(ho:o.op=.call {callee:=.builtin .append,args:=#[s,x],argTypes:=#[26,26]})
  (wN:World) (base:Nat) (v:Value) (n:Nat) (l:List En) (hs:a.eval s=v) (hown:wN.ownsRow base 40 4 v n (AQ l)) (hn:n<200000) (d:En)
  (g:Nat) (hb:wN.heap[g]?=some (.cells #[S d.u,S d.s,.int .i64 d.p,S d.t] 40)) (hx:a.eval x=.slice (some ⟨g,0,none⟩) 1 1) (hbase:base<=wN.heap.size)
  (h:∀v' w',w'.ownsRow base 40 4 v' (n+1) (AQ (l ++ [d]))→(∀w0,Aa w0 wN→w0.heap.size<=base→Aa w0 w')→wN.grownBy w' v.ownBlock→K (a.put o.dst v') w') :
  o.wp Tryz.prog a wN K Q:=by
 obtain⟨i0,hi,hz0,hz1,hz2⟩:=info_parts Tryz.infoEn;refine QX s x 26 ho 40 i0 _ 4 56 Tryz.underlying26 hi hz0 hz1 hz2 rfl (by omega) (by omega) wN base v n _ hs hown hn g _ hb rfl ?_ hx hbase ?_
 ·intro u hu;simp only [List.mem_cons,AqV,or_false]at hu
  rcases hu with rfl|rfl|rfl|rfl<;>rfl
 ·intro v' w' h1 h2 h3;exact h v' w' (by rw [AeC];exact h1) h2 h3
theorem qR(hgd:o.guard=none)(s x:Operand)(ho:o.op=.call {callee:=.builtin .append,args:=#[s,x],argTypes:=#[26,26]})
  (wN:World) (base:Nat) (v:Value) (n:Nat) (l:List En) (hs:a.eval s=v) (hown:wN.ownsRow base 40 4 v n (AQ l)) (hn:n<200000) (d:En)
  (g:Nat) (hb:wN.heap[g]?=some (.cells #[S d.u,S d.s,.int .i64 d.p,S d.t] 40)) (hx:a.eval x=.slice (some ⟨g,0,none⟩) 1 1) (hbase:base<=wN.heap.size)
  (h:∀v' w',w'.ownsRow base 40 4 v' (n+1) (AQ (l ++ [d]))→(∀w0,Aa w0 wN→w0.heap.size<=base→Aa w0 w')→wpList Tryz.prog ops Q rest (a.put o.dst v') w') :
  wpList Tryz.prog ops Q (o::rest) a wN:=
 wpList_plain hgd fun _ hK=>Aow s x ho wN base v n l hs hown hn d g hb hx hbase fun v' w' h1 h2 _=>hK _ _ (h v' w' h1 h2)
theorem Ao0(s x:Operand)(ho:o.op=.call {callee:=.builtin .append,args:=#[s,x],argTypes:=#[23,23]})
  (wN:World) (base:Nat) (v:Value) (n:Nat) (l:List Bs) (hs:a.eval s=v) (hown:wN.ownsRow base 9 1 v n (l.map S)) (hn:n<200000) (d:Bs)
  (g:Nat) (hb:wN.heap[g]?=some (.cells #[S d] 9)) (hx:a.eval x=.slice (some ⟨g,0,none⟩) 1 1) (hbase:base<=wN.heap.size)
  (h:∀v' w',w'.ownsRow base 9 1 v' (n+1) ((l ++ [d]).map S)→(∀w0,Aa w0 wN→w0.heap.size<=base→Aa w0 w')→wN.grownBy w' v.ownBlock→K (a.put o.dst v') w') :
  o.wp Tryz.prog a wN K Q:=by
 obtain⟨i0,hi,hz0,hz1,hz2⟩:=info_parts Tryz.infoSt;refine QX s x 23 ho 9 i0 _ 1 16 Tryz.underlying23 hi hz0 hz1 hz2 rfl (by omega) (by omega) wN base v n _ hs hown hn g _ hb rfl ?_ hx hbase ?_
 ·intro u hu;simp only [List.mem_cons,AqV,or_false]at hu
  rcases hu with rfl<;>rfl
 ·intro v' w' h1 h2 h3;exact h v' w' (by rw [AnB];exact h1) h2 h3
theorem qT(hgd:o.guard=none)(s x:Operand)(ho:o.op=.call {callee:=.builtin .append,args:=#[s,x],argTypes:=#[23,23]})
  (wN:World) (base:Nat) (v:Value) (n:Nat) (l:List Bs) (hs:a.eval s=v) (hown:wN.ownsRow base 9 1 v n (l.map S)) (hn:n<200000) (d:Bs)
  (g:Nat) (hb:wN.heap[g]?=some (.cells #[S d] 9)) (hx:a.eval x=.slice (some ⟨g,0,none⟩) 1 1) (hbase:base<=wN.heap.size)
  (h:∀v' w',w'.ownsRow base 9 1 v' (n+1) ((l ++ [d]).map S)→(∀w0,Aa w0 wN→w0.heap.size<=base→Aa w0 w')→wpList Tryz.prog ops Q rest (a.put o.dst v') w') :
  wpList Tryz.prog ops Q (o::rest) a wN:=
 wpList_plain hgd fun _ hK=>Ao0 s x ho wN base v n l hs hown hn d g hb hx hbase fun v' w' h1 h2 _=>hK _ _ (h v' w' h1 h2)
end
def XH:Array Value:=#[S [65],S [66],S [67],S [68],S [69],S [70],S [97],S [98],S [99],S [100],S [120],S [121]]
def pU(k:Nat)(s:Bs)(w:World)(e:Ending)(w':World):Prop:=∃g,e=.returned (.slice (some ⟨g,0,none⟩) 12 12)/\w'.cell? ⟨g,k,none⟩=some (S s)/\g<w'.heap.size/\Aa w w'
theorem Akc:∀k,k<12→XH[k]?=some (S (N1.getD k [])):=by
 intro k hk
 rcases(by omega:k=0∨k=1∨k=2∨k=3∨k=4∨k=5∨k=6∨k=7∨k=8∨k=9∨k=10∨k=11)with rfl|rfl|rfl|rfl|rfl|rfl|rfl|rfl|rfl|rfl|rfl|rfl<;>rfl
theorem Akd(k:Nat)(hk:k<12)(w:World):Calls Tryz.prog 46 #[] w (pU k (N1.getD k []) w):=by
 have hb:=AqJ w (.cells XH 9);have hE:=(Aa.refl w).alloc (.cells XH 9);have AS:pU k (N1.getD k []) w (.returned (.slice (some ⟨w.heap.size,0,none⟩) 12 12)) (w.alloc (.cells XH 9)):=⟨_,rfl,Ab hb (Akc k hk),AqI hb,hE⟩;have HF:=AqH AS;clear AS hb hE;go_enter Tryz.func46,Tryz.ntmps46;go_wp2;go_ret;exact HF.out
def Hl(l:List Dr):List Value:=l.flatMap (fun e=>[.int .u8 (e.u.toNat:Nat),.int .u8 (e.s.toNat:Nat),.int .u8 (e.p.toNat:Nat),.int .u8 (e.t.toNat:Nat)])
theorem uA(l:List Dr):(Hl l).length=l.length*4:=by
 induction l with
 | nil=>rfl
 | cons e l ih=>unfold Hl at *;simp only [List.flatMap_cons,List.length_append,ih,List.length_cons,List.length_nil];omega
theorem aF:∀(l:List Dr) (j:Nat) (h:j<l.length),(Hl l)[j*4]?=some (.int .u8 (l[j].u.toNat:Nat))/\(Hl l)[j*4+1]?=some (.int .u8 (l[j].s.toNat:Nat))/\(Hl l)[j*4+2]?=some (.int .u8 (l[j].p.toNat:Nat))/\(Hl l)[j*4+3]?=some (.int .u8 (l[j].t.toNat:Nat))
 | e::l,0,_=>⟨rfl,rfl,rfl,rfl⟩
 | e::l,j+1,h=>by
  have ih:=aF l j (by simpa using h);have e0:Hl (e::l)=.int .u8 (e.u.toNat:Nat) :: .int .u8 (e.s.toNat:Nat) :: .int .u8 (e.p.toNat:Nat) :: .int .u8 (e.t.toNat:Nat)::Hl l:=rfl;rw [e0];have e1:(j+1)*4=j*4+1+1+1+1:=(by omega);rw [e1]
  simpa using ih
theorem AlX{w:World}{A:Option Addr}{l:List Dr}(hr:Ad w A (Hl l)){j:Nat}(h:j<l.length):∃b o,A=some ⟨b,o,none⟩/\w.cell? ⟨b,o+j*4,none⟩=some (.int .u8 (l[j].u.toNat:Nat))/\w.cell? ⟨b,o+j*4+1,none⟩=some (.int .u8 (l[j].s.toNat:Nat))/\w.cell? ⟨b,o+j*4+2,none⟩=some (.int .u8 (l[j].p.toNat:Nat))/\w.cell? ⟨b,o+j*4+3,none⟩=some (.int .u8 (l[j].t.toNat:Nat)):=by
 have hl:=uA l;obtain⟨b,o,e,hcs⟩:=hr.ad (by omega);obtain⟨f0,f1,f2,f3⟩:=aF l j h;have g0:=hcs (j*4) (by omega);have g1:=hcs (j*4+1) (by omega);have g2:=hcs (j*4+2) (by omega);have g3:=hcs (j*4+3) (by omega);rw [AqP (by omega),AqO]at f0 f1 f2 f3;rw [f0]at g0;rw [f1,←Nat.add_assoc]at g1;rw [f2,←Nat.add_assoc]at g2;rw [f3,←Nat.add_assoc]at g3;exact⟨b,o,e,g0,g1,g2,g3⟩
theorem Aj9(y e:En)(b:Nat)(w:World)(hb:w.heap[b]?=some (.cells #[S e.u,S e.s,.int .i64 e.p,S e.t] 40)) :
  Calls Tryz.prog 48 #[Dq y,.pointer (some ⟨b,0,none⟩)] w (Bv (y.u == e.u||y.s == e.s) w):=by
 have hx:=(Aa.refl w).alloc (.cells #[S y.u,S y.s,.int .i64 y.p,S y.t] 40);have j0:=hx.cellS (Ab (o:=0) hb rfl);have j1:=hx.cellS (Ab (o:=1) hb rfl);unfold Dq;clear hb;obtain⟨r,hr⟩:=AqG ((y.u == e.u||y.s == e.s));rw [←hr]
 cases h1:(y.u == e.u)
 ·have HR:=AqH (show r=(y.s == e.s)by rw [hr,h1,Bool.false_or]);clear hr;go_enter Tryz.func48,Tryz.ntmps48;go_wp2;go_ret;exact⟨by rw [HR.out];rfl,hx⟩
 ·have HR:=AqH (show r=true by rw [hr,h1,Bool.true_or]);clear hr;go_enter Tryz.func48,Tryz.ntmps48;go_wp2;go_ret;exact⟨by rw [HR.out];rfl,hx⟩
theorem AeO:∀args w,(callFunc 48 args).run Tryz.prog w=.ok (.enter 48 args) w:=enters_of Tryz.func48 (by kernel_rfl) rfl
theorem AiV(l:List La)(i:Nat):Bo (l.take i)=(Bo l).take (i*3):=by
 induction l generalizing i with
 | nil=>simp [Bo]
 | cons e l ih=>
  cases i with
  | zero=>simp [Bo]
  | succ i=>have e0:∀l,Bo (e::l)=S e.u::S e.mn::S e.mx::Bo l:=fun _=>rfl;rw [List.take_succ_cons,e0,e0,ih];have e1:(i+1)*3=i*3+1+1+1:=(by omega);rw [e1];simp
theorem Ac2(x:La)(u:Bs)(b:Nat)(w:World)(hb:w.cell? ⟨b,0,none⟩=some (S u)) :
  Calls Tryz.prog 142 #[FN x,.pointer (some ⟨b,0,none⟩)] w (Bv (x.u == u) w):=by
 have hx:=(Aa.refl w).alloc (.cells #[S x.u,S x.mn,S x.mx] 31);have j1:=hx.cellS hb;unfold FN;clear hb;go_enter Tryz.func142,Tryz.ntmps142;go_wp2;go_ret;exact⟨rfl,hx⟩
theorem AeG:∀args w,(callFunc 142 args).run Tryz.prog w=.ok (.enter 142 args) w:=enters_of Tryz.func142 (by kernel_rfl) rfl
theorem AdH(c:List La)(u:Bs)(A:Option Addr)(cc:Nat)(w:World)(hr:Ad w A (Bo c))(h1:c.length<=cc)(h2:cc<=9223372036854775807) :
  Calls Tryz.prog 74 #[.slice A c.length cc,S u] w (Ax (AP c u) w):=by
 have hb:=AqJ w (.cells #[S u] 9);have hE:=(Aa.refl w).alloc (.cells #[S u] 9)
 have ix:=TI (cb:=#[.pointer (some ⟨w.heap.size,0,none⟩)]) AeG (fun e=>e.u == u) c A cc (w.alloc (.cells #[S u] 9)) (hr.ext hE) h1 h2
  (fun e _ W hx=>Ac2 e u _ W (Ab (o:=0) ((hx.block _ (AqI hb)).trans hb) rfl))
 unfold AP;clear hr hb;go_enter Tryz.func74,Tryz.ntmps74;(go_wp2_with fail);(with_reducible refine ix.mono ?_);rintro e w1 ⟨rfl,hx⟩;go_wp2;go_ret;exact⟨rfl,hE.trans hx⟩
open Classical in
noncomputable def LJ(x:La):Int:=if ¬BO x.mn then 2 else if x.mx≠[]/\¬BO x.mx then 2 else 0
open Classical in
theorem AiY(x:La)(h1:x.mn.length<100000)(h2:x.mx.length<100000)(w:World)(hw:Am w):Calls Tryz.prog 73 #[FN x] w (Ax (LJ x) w):=by
 have hb:=AqJ w (.cells #[S x.u,S x.mn,S x.mx] 31);have hE:=(Aa.refl w).alloc (.cells #[S x.u,S x.mn,S x.mx] 31);have c1:=lM x.mn h1 (w.alloc (.cells #[S x.u,S x.mn,S x.mx] 31)) (hw.ext hE);have c2:=lM x.mx h2;unfold FN;obtain⟨r,hr0⟩:=AqG (LJ x);rw [←hr0];have HR:=AqH hr0;clear hr0;go_enter Tryz.func73,Tryz.ntmps73
 go_upto_region 1 with fail
 generalize w.alloc (.cells #[S x.u,S x.mn,S x.mx] 31)=V at *;obtain⟨b,Br⟩:=AqG w.heap.size;rw [←Br]at hb ⊢;clear Br;have k1:=Ab (o:=1) hb rfl;by_cases o1:BO x.mn
 ·rw [decide_eq_true o1,KU]at c1;(go_wp2_with fail);(with_reducible refine c1.mono ?_);rintro e w1 ⟨rfl,hx1⟩;have X1:=hE.trans hx1;have hb1:=(hx1.block _ (AqI hb)).trans hb;have k2:=Ab (o:=2) hb1 rfl;have O1:=AqH (show ¬¬BO x.mn from fun h=>h o1);clear k1 hb hx1 o1;by_cases e0:x.mx = []
  ·have HH:=AqH (show r=0 by rw [HR.out];unfold LJ;rw [if_neg O1.out,if_neg (by rintro⟨h,_⟩;exact h e0)]);have t1:(x.mx == [])=true:=(by rw [e0];rfl);rw [e0]at k2;clear e0 t1;go_wp2;go_ret;exact⟨Bf HH.out,X1⟩
  ·have t1:(x.mx == [])=false:=beq_false_of_ne e0
   have t2:x.mx.isEmpty=false:=by cases hm:x.mx with|nil=>exact absurd hm e0|cons a b=>rfl
   have c3:=c2 w1 (hw.ext X1);have E0:=AqH e0;by_cases o2:BO x.mx
   ·rw [decide_eq_true o2,KU]at c3;have HH:=AqH (show r=0 by rw [HR.out];unfold LJ;rw [if_neg O1.out,if_neg (by rintro⟨_,h⟩;exact h o2)]);clear o2;(go_wp2_with fail);(with_reducible refine c3.mono ?_);rintro e w2 ⟨rfl,hx2⟩;go_wp2;go_ret;exact⟨Bf HH.out,X1.trans hx2⟩
   ·rw [decide_eq_false o2,NX]at c3;have HH:=AqH (show r=2 by rw [HR.out];unfold LJ;rw [if_neg O1.out,if_pos ⟨e0,o2⟩]);clear o2;(go_wp2_with fail);(with_reducible refine c3.mono ?_);rintro e w2 ⟨rfl,hx2⟩;go_wp2;go_ret;exact⟨Bf HH.out,X1.trans hx2⟩
 ·rw [decide_eq_false o1,NX]at c1;have HH:=AqH (show r=2 by rw [HR.out];unfold LJ;rw [if_pos o1]);clear o1;(go_wp2_with fail);(with_reducible refine c1.mono ?_);rintro e w1 ⟨rfl,hx1⟩;go_wp2;go_ret;exact⟨Bf HH.out,hE.trans hx1⟩
theorem yz{l:Bs}(h:BO l):Sz 200 (rv l):=by
 obtain⟨_,h1,h2⟩:=lY h;exact⟨Ko h1,Ko h2⟩
def TM(x:La):Prop:=x.u.length<1000000/\x.mn.length<100000/\x.mx.length<100000
theorem ZU(l:List La)(A:Option Addr)(c:Nat)(w:World)(hw:Am w)(hr:Ad w A (Bo l))(hc:l.length<=c)(hcm:c<=9223372036854775807)(hl:∀e∈l,TM e) :
  Calls Tryz.prog 32 #[.slice A l.length c] w (Ax (KW l) w):=by
 have HL:=AqH hl;have Ev:=AqH hr;obtain⟨r,hr0⟩:=AqG (KW l);rw [←hr0];have HR:=AqH hr0;obtain⟨n,hn⟩:=AqG l.length;rw [←hn]at hc ⊢;have HN:=AqH hn;clear hl hr hr0 hn;by_cases h0:n=0
 ·have HH:=AqH (show r=13 by rw [HR.out];unfold KW;rw [if_pos (by rw [←HN.out];exact h0)]);subst h0;go_enter Tryz.func32,Tryz.ntmps32;go_wp2;go_ret;exact⟨Bf HH.out,Aa.refl _⟩
 have t0:((n:Int) == 0)=false:=beq_false_of_ne (by omega);by_cases aZ:60<n
 ·have HH:=AqH (show r=4 by rw [HR.out];unfold KW;rw [if_neg (by rw [←HN.out];exact h0),if_pos (by rw [←HN.out];exact aZ)]);have t2:(60:Int)<(n:Int):=(by omega);go_enter Tryz.func32,Tryz.ntmps32;go_wp2;go_ret;exact⟨Bf HH.out,Aa.refl _⟩
 have HC:=AqH (show r=Ez [] l by rw [HR.out];unfold KW;rw [if_neg (by rw [←HN.out];exact h0),if_neg (by rw [←HN.out];exact aZ)]);have t2:¬(60:Int)<(n:Int):=(by omega);clear h0 HR;go_enter Tryz.func32,Tryz.ntmps32
 go_upto_region 6 with fail
 go_loopw [16] (fun kv wr=>∃(k:Nat),kv=.int .i64 (k:Nat)/\k<=n/\r=Ez (l.take k) (l.drop k)/\Aa w wr) (fun kv _=>n-(intOf kv).toNat)
 case atStart=>exact⟨0,rfl,by omega,by rw [List.take_zero,List.drop_zero];exact HC.out,Aa.refl _⟩
 case round=>
  obtain⟨k,rfl,hk,hck,Ac⟩:=hrel;have GY:=AqH hck;clear hck;by_cases hkn:k<n
  ·have Cz:k<l.length:=(by rw [←HN.out];exact hkn);obtain⟨b,o,rfl,hg1,hg2,hg3⟩:=lO (Ev.out.ext Ac) Cz;have hst:=AdI Cz rfl;rw [←GY.out]at hst;obtain⟨m1,m2,m3⟩:=HL.out l[k] (AqL Cz);obtain⟨x,hx⟩:=AqG (l[k]);rw [←hx]at hg1 hg2 hg3 hst m1 m2 m3;have HST:=AqH hst;have Fq:(l.take k).length=k:=(by rw [List.length_take];omega);have hk0:(0:Int)<=(k:Int):=(by omega);have BH:(k:Int)<(n:Int):=(by omega);have hk2:(k:Int)<=(c:Int):=(by omega);have v1:IntKind.wrap .i64 ((k:Int)+1)=(k:Int)+1:=AqQ _ (by omega);have hxb:=AqJ wr (.cells #[S x.u,S x.mn,S x.mx] 31);have hx1:=(Aa.refl wr).alloc (.cells #[S x.u,S x.mn,S x.mx] 31);have hE:=Ac.trans hx1;have la:=fun W (hw:Am W)=>AiY x m2 m3 W hw;unfold FN at la;have at_:=fun W (hx:Aa w W)=>AdH (l.take k) x.u (some ⟨b,o,none⟩) c W (by rw [AiV];exact(Ev.out.ext hx).take _) (by omega) hcm;rw [Fq]at at_;have nm:=jC x.u m1;clear hx hst Fq Ac
   go_upto_region 8 with fail
   generalize wr.alloc (.cells #[S x.u,S x.mn,S x.mx] 31)=V at *;obtain⟨bx,AA⟩:=AqG wr.heap.size;rw [←AA]at hxb ⊢;clear AA hg1 hg2 hg3 hx1;have k1:=Ab (o:=0) hxb rfl;have k2:=Ab (o:=1) hxb rfl;have k3:=Ab (o:=2) hxb rfl;have jJ:=la V (hw.ext hE);obtain⟨z,hz⟩:=AqG (LJ x);rw [←hz]at jJ;have HZ:=AqH hz;clear la hz;(go_wp2_with fail);(with_reducible refine jJ.mono ?_);rintro e w1 ⟨rfl,hx1⟩;have hb1:=(hx1.block _ (AqI hxb)).trans hxb;have X1:=hE.trans hx1;clear jJ k1 k2 k3 hxb hx1;by_cases hz0:z=0
   ·subst hz0
    obtain⟨o1,o2⟩:BO x.mn/\(x.mx = []∨BO x.mx):=by
     have h3:=HZ.out;unfold LJ at h3
     split at h3
     ·cases h3
     ·rename_i h4
      refine⟨Classical.not_not.1 h4,?_⟩
      split at h3
      ·cases h3
      ·rename_i h5
       by_cases h6:x.mx = []
       ·exact .inl h6
       ·exact .inr (Classical.not_not.1 fun h=>h5 ⟨h6,h⟩)
    obtain⟨e1,-,-⟩:=lY o1;have s1:=yz o1;obtain⟨p,hp⟩:=AqG (rv x.mn);rw [←hp]at e1 s1;have sg:∀W,Calls Tryz.prog 75 #[S x.mn] W (Ax (AH p) W):=by intro W;rw [e1];exact QN p W
    have hcs:colS (l.take k) x=if nameB x.u=false then 8 else if 0<=AP (l.take k) x.u then 9 else if p<0 then 3 else if x.mx≠[]/\rv x.mx<p then 6 else 0:=by unfold colS;rw [if_neg (fun h=>h o1),if_neg (by rintro⟨h,h'⟩;rcases o2 with e|e;exact h e;exact h' e),←hp]
    have Gw:=AqH hcs;have Pg:=AqH o2;have Ha:=AqH e1;clear hcs o1 o2 e1 hp;have k4:=Ab (o:=0) hb1 rfl;have Kp:=nm w1;clear nm
    cases a1:nameB x.u
    ·have HH:=AqH (show r=8 by
      have h2:colS (l.take k) x=8:=by rw [Gw.out,if_pos a1]
      rw [HST.out,if_neg (by rw [h2];omega),h2])
     rw [a1]at Kp;clear a1;(go_wp2_with fail);(with_reducible refine Kp.mono ?_);rintro e w2 ⟨rfl,hx2⟩;go_wp2;go_ret;exact⟨Bf HH.out,X1.trans hx2⟩
    have A1:=AqH (show ¬(nameB x.u=false)by rw [a1];simp);rw [a1]at Kp;clear a1;(go_wp2_with fail);(with_reducible refine Kp.mono ?_);rintro e w2 ⟨rfl,hx2⟩;have hb2:=(hx2.block _ (AqI hb1)).trans hb1;have X2:=X1.trans hx2;have JG:=AqH X2;clear Kp k4 hb1 hx2;have f1:∀q:Af w2,q.w.cell? ⟨bx,0,none⟩=some (S x.u):=Af.cell (Ab hb2 rfl);have NU:=fun q:Af w2=>at_ q.w (JG.out.trans q.h);obtain⟨y,hy⟩:=AqG (AP (l.take k) x.u);rw [←hy]at NU;have HY:=AqH hy;clear hy at_ X2
    go_upto_region 13 with fail
    refine F5 (by kernel_rfl) (by kernel_rfl) ?_
    repeat (go_big_quiet_step (with_reducible refine Ei (NU _)))
    refine wpQuiet_nil ?_;rintro _ ⟨q,rfl⟩;have X3:=JG.out.trans q.h;have hb3:=(q.h.block _ (AqI hb2)).trans hb2;have Di:=AqH X3;clear f1 NU;by_cases a2:0<=y
    ·have HH:=AqH (show r=9 by
      have h2:colS (l.take k) x=9:=by rw [Gw.out,if_neg A1.out,if_pos (by rw [←HY.out];exact a2)]
      rw [HST.out,if_neg (by rw [h2];omega),h2])
     go_wp2;go_ret;exact⟨Bf HH.out,Di.out⟩
    have a2':=Int.not_le.1 a2;have A2:=AqH (show AP (l.take k) x.u<0 by rw [←HY.out];exact a2');have k4:=Ab (o:=1) hb3 rfl;have Yn:=sg q.w;have hw3:=hw.ext X3;generalize q.w=w3 at *;clear sg a2;have Ur:AH p<0↔p<0:=(by unfold AH;grind);obtain⟨s,hs⟩:=AqG (AH p);rw [←hs]at Yn Ur;clear hs;by_cases a3:s<0
    ·have HH:=AqH (show r=3 by
      have h2:colS (l.take k) x=3:=by rw [Gw.out,if_neg A1.out,if_neg (Int.not_le.2 A2.out),if_pos (Ur.1 a3)]
      rw [HST.out,if_neg (by rw [h2];omega),h2])
     clear Ur;(go_wp2_with fail);(with_reducible refine Yn.mono ?_);rintro e w4 ⟨rfl,Ai⟩;go_wp2;go_ret;exact⟨Bf HH.out,Di.out.trans Ai⟩
    have A3:=AqH (show ¬(p<0)from fun h=>a3 (Ur.2 h));clear Ur;(go_wp2_with fail);(with_reducible refine Yn.mono ?_);rintro e w4 ⟨rfl,Ai⟩;have hb4:=(Ai.block _ (AqI hb3)).trans hb3;have X4:=Di.out.trans Ai;have hw4:=hw.ext X4;have Ij:=AqH X4;clear hb3 Ai k4 Yn X4 Di;have k5:=Ab (o:=2) hb4 rfl;have k6:=Ab (o:=1) hb4 rfl;by_cases e0:x.mx = []
    ·have HH:=AqH (show r=Ez (l.take (k+1)) (l.drop (k+1))by
      have h2:colS (l.take k) x=0:=by rw [Gw.out,if_neg A1.out,if_neg (Int.not_le.2 A2.out),if_neg A3.out,if_neg (by rintro⟨h,_⟩;exact h e0)]
      rw [HST.out,if_pos h2])
     rw [e0]at k5;clear e0;go_wp2;go_roundw
     case rel=>exact⟨k+1,by go_num,hkn,HH.out,Ij.out⟩
     case measure=>simp [intOf];omega
    ·have t1:(x.mx == [])=false:=beq_false_of_ne e0
     have t3:x.mx.isEmpty=false:=by cases hm:x.mx with|nil=>exact absurd hm e0|cons a b=>rfl
     have o3:BO x.mx:=Pg.out.resolve_left e0;have s2:=yz o3;obtain⟨e2,-,-⟩:=lY o3;obtain⟨p2,I7⟩:=AqG (rv x.mx);rw [←I7]at e2 s2
     have cp:Calls Tryz.prog 76 #[S x.mx,S x.mn] w4 (Ax (AU p2 p) w4):=by rw [e2,Ha.out];exact J0 p2 p ⟨s2,s1,by omega,by omega,by omega⟩ w4 hw4
     have RY:AU p2 p<0↔p2<p:=(by unfold AU;grind);have oS:=AqH I7;have E0:=AqH e0;obtain⟨s,hs⟩:=AqG (AU p2 p);rw [←hs]at cp RY;clear hs o3 e2 I7;by_cases a4:s<0
     ·have HH:=AqH (show r=6 by
       have h2:colS (l.take k) x=6:=by rw [Gw.out,if_neg A1.out,if_neg (Int.not_le.2 A2.out),if_neg A3.out,if_pos ⟨E0.out,by rw [←oS.out];exact RY.1 a4⟩]
       rw [HST.out,if_neg (by rw [h2];omega),h2])
      clear RY;(go_wp2_with fail);(with_reducible refine cp.mono ?_);rintro e w5 ⟨rfl,Ae⟩;go_wp2;go_ret;exact⟨Bf HH.out,Ij.out.trans Ae⟩
     ·have HH:=AqH (show r=Ez (l.take (k+1)) (l.drop (k+1))by
       have h2:colS (l.take k) x=0:=by rw [Gw.out,if_neg A1.out,if_neg (Int.not_le.2 A2.out),if_neg A3.out,if_neg (by rintro⟨_,h⟩;rw [←oS.out]at h;exact a4 (RY.2 h))]
       rw [HST.out,if_pos h2])
      clear RY;(go_wp2_with fail);(with_reducible refine cp.mono ?_);rintro e w5 ⟨rfl,Ae⟩;go_wp2;go_roundw
      case rel=>exact⟨k+1,by go_num,hkn,HH.out,Ij.out.trans Ae⟩
      case measure=>simp [intOf];omega
   ·have HH:=AqH (show r=z by
     have h2:colS (l.take k) x=z:=by
      have h3:=HZ.out;unfold LJ at h3;unfold colS
      split at h3
      ·rename_i h4;rw [if_pos h4];exact h3.symm
      ·rename_i h4
       rw [if_neg h4]
       split at h3
       ·rename_i h5;rw [if_pos h5];exact h3.symm
       ·exact absurd h3 hz0
     rw [HST.out,if_neg (by rw [h2];exact hz0),h2])
    have t1:(z != 0)=true:=(by rw [bne_iff_ne];exact hz0);clear hz0;go_wp2;go_ret;exact⟨Bf HH.out,X1⟩
  ·have Bt:k=n:=(by omega);subst Bt;have HH:=AqH (show r=0 by rw [GY.out,HN.out,List.drop_length];rfl);go_wp2;go_ret;exact⟨Bf HH.out,Ac⟩
theorem tu(c:List La)(u:Bs):-1<=AP c u:=Xn _ _
theorem tq(c:List La)(u:Bs):AP c u<c.length:=ky _ _
theorem ml(c:List La)(A:Option Addr)(cc:Nat)(w:World)(hr:Ad w A (Bo c))(h1:c.length<=cc)(h2:cc<=9223372036854775807)(a b:Bs)(ha:a.length<=1000000)(hb:b.length<=1000000) :
  Calls Tryz.prog 21 #[.slice A c.length cc,S a,S b] w (Ax (JU c a b) w):=by
 have hB1:=AqJ w (.cells #[S a] 9);have Cf:=(Aa.refl w).alloc (.cells #[S a] 9);obtain⟨w1,hw1⟩:=AqG (w.alloc (.cells #[S a] 9));rw [←hw1]at hB1 Cf;have hB2:=AqJ w1 (.cells #[S b] 9);have Cq:=(Aa.refl w1).alloc (.cells #[S b] 9);have B5:=(Cq.block _ (AqI hB1)).trans hB1;have hE:=Cf.trans Cq;have hr2:=hr.ext hE
 have k1:=fun (W:World) (hx:Aa (w1.alloc (.cells #[S b] 9)) W)=>TI (cb:=#[.pointer (some ⟨w.heap.size,0,none⟩)]) AeM (fun e=>e.u == a) c A cc W (hr2.ext hx) h1 h2
  (fun e _ W' hx'=>AiW e a _ W' (Ab (o:=0) (((hx.trans hx').block _ (AqI B5)).trans B5) rfl))
 have k2:=fun (W:World) (hx:Aa (w1.alloc (.cells #[S b] 9)) W)=>TI (cb:=#[.pointer (some ⟨w1.heap.size,0,none⟩)]) AeN (fun e=>e.u == b) c A cc W (hr2.ext hx) h1 h2
  (fun e _ W' hx'=>AiX e b _ W' (Ab (o:=0) (((hx.trans hx').block _ (AqI hB2)).trans hB2) rfl))
 have l1:=tu c a;have l2:=tu c b;have u1:=tq c a;have u2:=tq c b;obtain⟨r,hr0⟩:=AqG (JU c a b);rw [←hr0]
 have HR:r=if 0<=AP c a∨0<=AP c b then AP c b-AP c a else Lib.compareBytes a b:=hr0
 clear hr0;have k1:∀(W:World),Aa (w1.alloc (.cells #[S b] 9)) W→Calls Tryz.prog 59 #[.slice A c.length cc,.func (.func 60) #[] #[.pointer (some ⟨w.heap.size,0,none⟩)]] W (Ax (AP c a) W):=k1;have k2:∀(W:World),Aa (w1.alloc (.cells #[S b] 9)) W→Calls Tryz.prog 59 #[.slice A c.length cc,.func (.func 61) #[] #[.pointer (some ⟨w1.heap.size,0,none⟩)]] W (Ax (AP c b) W):=k2;have hsz:w1.heap.size=w.heap.size+1:=(by rw [hw1,AqR]);rw [hsz]at k2;generalize AP c a=z1 at *;generalize AP c b=z2 at *;have Ev:=AqH HR;clear HR hr hr2;subst hw1;go_enter Tryz.func21,Tryz.ntmps21;(go_wp2_with fail);(with_reducible refine(k1 _ (Aa.refl _)).mono ?_);rintro e w2 ⟨rfl,hx1⟩;(go_wp2_with fail);(with_reducible refine(k2 _ hx1).mono ?_);rintro e w3 ⟨rfl,hx2⟩;replace hx1:=hx1.trans hx2;have f1:w3.cell? ⟨w.heap.size,0,none⟩=some (S a):=Ab ((hx1.block _ (AqI B5)).trans B5) rfl
 have f2:w3.cell? ⟨w.heap.size+1,0,none⟩=some (S b):=by have Fb:=AqJ (w.alloc (.cells #[S a] 9)) (.cells #[S b] 9);have JY:=(hx1.block _ (AqI Fb)).trans Fb;rw [hsz]at JY;exact Ab JY rfl
 obtain⟨W4,cA,zN,Xk,Wo⟩:=mV w3 a;have f3:=Xk.cellS f2;obtain⟨W5,cB,zO,ju,hcB⟩:=mV W4 b
 have r1:Ad W5 (some ⟨w3.heap.size,0,none⟩) (a.map byV):=by
  refine Ad.ext ⟨fun h=>⟨w3.heap.size,0,rfl,fun j hj=>?_⟩⟩ ju;rw [List.getElem_map];rw [List.length_map]at hj;unfold byV
  simpa using Wo j hj
 have r2:Ad W5 (some ⟨W4.heap.size,0,none⟩) (b.map byV):=by
  refine⟨fun h=>⟨W4.heap.size,0,rfl,fun j hj=>?_⟩⟩;rw [List.getElem_map];rw [List.length_map]at hj;unfold byV
  simpa using hcB j hj
 have sl:=AmP a b (some ⟨w3.heap.size,0,none⟩) (some ⟨W4.heap.size,0,none⟩) cA cB W5 r1 r2 ha hb;clear k1 k2
 rcases Int.lt_or_le z1 0 with g1|g1
 ·rcases Int.lt_or_le z2 0 with g2|g2
  ·have hq:r=Lib.compareBytes a b:=(by rw [Ev.out,if_neg (by omega)]);have HW:=AqH hq;clear hq Wo hcB hB1 hB2 B5;have HQ:=AqH hE;(go_wp2_with fail);(with_reducible refine sl.mono ?_);rintro e w6 ⟨rfl,Ay⟩;go_wp2;go_ret;exact⟨by rw [HW.out];rfl,HQ.out.trans (hx1.trans (Xk.trans (ju.trans Ay)))⟩
  ·have hq:r=z2-z1:=(by rw [Ev.out,if_pos (by omega)]);have v1:IntKind.wrap .i64 (z2-z1)=z2-z1:=AqQ _ (by omega);have HW:=AqH hq;clear hq Wo hcB hB1 hB2 B5 zN zO sl;have HQ:=AqH hE;go_wp2;go_ret;exact⟨by rw [HW.out];rfl,HQ.out.trans hx1⟩
 ·have hq:r=z2-z1:=(by rw [Ev.out,if_pos (by omega)]);have v1:IntKind.wrap .i64 (z2-z1)=z2-z1:=AqQ _ (by omega);have HW:=AqH hq;clear hq Wo hcB hB1 hB2 B5 zN zO sl;have HQ:=AqH hE;go_wp2;go_ret;exact⟨by rw [HW.out];rfl,HQ.out.trans hx1⟩
theorem AeY(l:List Bs)(A B:Option Addr)(c d:Nat)(w:World)(hA:Ad w A (l.map S))(hB:Ad w B (l.map S))(hl:l.length<=100000) :
  Calls Tryz.prog 17 #[.slice A l.length c,.slice B l.length d] w (Bv true w):=by
 have Rk:=AqH hA;have JC:=AqH hB;obtain⟨n,hn⟩:=AqG l.length;rw [←hn]at hl ⊢;have HN:=AqH hn;clear hA hB hn;go_enter Tryz.func17,Tryz.ntmps17
 go_upto_region 4 with fail
 go_loopw [13] (fun i wr=>∃j:Nat,i=.int .i64 (j:Nat)/\j<=n/\Aa w wr) (fun i _=>n-(intOf i).toNat)
 case atStart=>exact⟨0,rfl,Nat.zero_le _,Aa.refl _⟩
 case round=>
  obtain⟨j,rfl,hj,Ac⟩:=hrel;by_cases hlt:j<n
  ·have AV:j<(l.map S).length:=(by rw [List.length_map,←HN.out];exact hlt);obtain⟨b,o,rfl,hc1⟩:=(Rk.out.ext Ac).ad (by omega);obtain⟨b',o',rfl,hc2⟩:=(JC.out.ext Ac).ad (by omega);have g1:=hc1 j AV;have g2:=hc2 j AV;rw [List.getElem_map]at g1 g2;generalize l[j]'(by rw [List.length_map]at AV;exact AV)=s at *;have hj0:(0:Int)<=(j:Int):=(by omega);have Gh:(j:Int)<(n:Int):=(by omega);have v1:IntKind.wrap .i64 ((j:Int)+1)=(j:Int)+1:=AqQ _ (by omega);clear hc1 hc2 AV
   go_upto_region 6 with fail
   go_quiet (fail)
   go_wp2;go_roundw
   case rel=>exact⟨j+1,by go_num,hlt,Ac.drewN _⟩
   case measure=>simp [intOf];omega
  ·have hle:(n:Int)<=(j:Int):=(by omega);go_wp2;go_ret;exact⟨rfl,Ac⟩
theorem AmI{α β:Type}(E:List (α×β)){seen:List Nat}(Cc:seen.Nodup)(hlt:∀i∈seen,i<E.length)(hlen:seen.length=E.length):(seen.filterMap (fun i=>E[i]?.map (·.1))).Perm (E.map (·.1)):=by
 have hmem:∀i,i<E.length→i∈seen:=by
  intro i hi;refine Classical.byContradiction fun hn=>?_;have h1:(i::seen).Nodup:=List.nodup_cons.2 ⟨hn,Cc⟩
  have h2:(i::seen) ⊆ List.range E.length:=by
   intro j hj
   rcases List.mem_cons.1 hj with rfl|hj
   ·simpa using hi
   ·simpa using hlt j hj
  have:=h1.length_le_of_subset h2;simp at this;omega
 have hp:seen.Perm (List.range E.length):=by
  rw [List.perm_iff_count];intro i;rw [Cc.count,(List.nodup_range).count];by_cases hi:i<E.length
  ·rw [if_pos (hmem i hi),if_pos (by simpa using hi)]
  ·rw [if_neg (fun h=>hi (hlt i h)),if_neg (by simpa using hi)]
 refine(hp.filterMap _).trans ?_;have e1:(List.range E.length).filterMap (fun i=>E[i]?.map (·.1))=((List.range E.length).filterMap (fun i=>E[i]?)).map (·.1):=(by rw [List.map_filterMap]);rw [e1,vh E]
theorem mg(mb:Option Nat)(w:World) :
  Calls Tryz.prog 195 #[.map mb] w fun e w'=>e=.returned (.func (.func 267) #[] #[.pointer (some ⟨w.heap.size,0,none⟩)])/\w'=w.alloc (.cells #[.map mb] 132):=by
 go_enter Tryz.func195,Tryz.ntmps195;go_wp2;go_ret;exact⟨rfl,rfl⟩
theorem AiK(F:Fence)(n:Nat)(h10:F.fn 267)(hro:F.round=none)(hn:1<=n)(l Bm b:Nat)(E:List (Pt×Value×Nat))(hst:∀i (h:i<E.length),E[i].2.2=i)(J:List Pt→World→Prop)
  (hY:∀pre x W,J pre W→pre.length<E.length→YieldAt F (n-1) Tryz.prog l #[Ak x] W fun e W'=>e=.returned (.bool true)/\J (pre ++ [x]) W'/\KeepsWalks W W')
  (W:World) (hJ:AbidesFrom W.heap.size J) (hm:W.cell? ⟨Bm,0,none⟩=some (.map (some b))) (hb:W.heap[b]?=some (.map (AB Ak E).toArray E.length)) (h0:J [] W) :
  CallsIn F n Tryz.prog 267 #[.func (.yield l) #[] #[],.pointer (some ⟨Bm,0,none⟩)] W fun e W'=>(∃v,e=.returned v)/\∃ss:List Pt,ss.Perm (E.map (·.1))/\J ss W':=by
 have hlt:=AqI hb;obtain⟨hr1,hr2⟩:=CC.range (enc:=Ak) (E:=E) (t:=132) Tryz.underlying132 (W:=W) (b:=b) hb;have hG:=(Aa.refl W).alloc (.mapIter (some b) E.length #[] E.length);have hJ1:=hJ [] W _ none h0 (G0 hG none) (fun r e=>by cases e);have hb1:=(hG.block b hlt).trans hb;refine callsIn_of_wp Tryz.func267 rfl h10 ?_ hro;simp only [Tryz.ntmps267,List.size_toArray,List.length_cons,List.length_nil,Nat.reduceAdd,Nat.reduceSub,Array.replicate_succ,Array.replicate_zero,List.push_toArray,List.append_toArray,List.nil_append,List.cons_append];gi_wp2;generalize W.alloc (.mapIter (some b) E.length #[] E.length)=V at *;obtain⟨r,hr⟩:=AqG W.heap.size;rw [←hr]at hr2 hlt hJ ⊢;clear hr hr1 hG hb hm h0
 gi_loopw [3] (fun _ wr=>∃seen:List Nat,CC wr r b E seen/\wr.heap[b]?=some (.map (AB Ak E).toArray E.length)/\J (seen.filterMap (fun i=>E[i]?.map (·.1))) wr)
  (fun _ wr=>E.length-(wr.iterSeen r).size)
 case atStart=>exact⟨[],hr2,hb1,hJ1⟩
 case round=>
  obtain⟨seen,hI,hbr,hJs⟩:=hrel
  rcases CC.next Ak hI hbr hst (by omega) 0 with⟨hlen,hrun⟩|⟨i,hi,GA,W1,Gd,hG1,hs1,hrun,hen⟩
  ·have hP:=AmI E hI.nd hI.lt hlen;gi_wp2
   go_end0
   exact⟨⟨_,rfl⟩,_,hP,hJs⟩
  ·have Lv:=hi
   have hstep:(seen ++ [i]).filterMap (fun i=>E[i]?.map (·.1))=seen.filterMap (fun i=>E[i]?.map (·.1)) ++ [(E[i]).1]:=by rw [List.filterMap_append];simp only [List.filterMap_cons,List.filterMap_nil,AqP Lv,Option.map_some]
   have hlen':seen.length<E.length:=by
    have h2:(i::seen) ⊆ List.range E.length:=by
     intro j hj
     rcases List.mem_cons.1 hj with rfl|hj
     ·simpa using Lv
     ·simpa using hI.lt j hj
    have:=(List.nodup_cons.2 ⟨GA,hI.nd⟩).length_le_of_subset h2;simp at this;omega
   have Dy:=EO hI;have hJ2:=hJ _ wr W1 (some r) hJs hG1 (fun r' e=>by cases e;exact⟨AqK _,_,hI.it,rfl⟩);have hb2:=(hG1.block b (AqI hbr) (by simp;omega)).trans hbr;have G7:=hen W1 rfl rfl;obtain⟨s,hs⟩:=AqG ((E[i]).1);obtain⟨z,hz⟩:=AqG ((E[i]).2.1);rw [←hs,←hz]at G7 hrun;rw [←hs]at hstep;have E3:=(Aa.refl W1).alloc (.cells #[S (R s.x),S (R s.y)] 92);have EF:=AqJ W1 (.cells #[S (R s.x),S (R s.y)] 92);have S3:=hJ _ W1 _ none hJ2 (G0 E3 none) (fun r' e=>by cases e);have hpl:(seen.filterMap (fun i=>E[i]?.map (·.1))).length<E.length:=Nat.lt_of_le_of_lt (List.length_filterMap_le _ _) hlen';obtain⟨fn,tmps,assign,body,hy,hR⟩:=hY _ s _ S3 hpl;have Dt:=Gd.keep (E3.block r (AqI Gd.it));have hb4:=(E3.block b (AqI hb2)).trans hb2;have g0:=Ab (o:=0) EF rfl;have g1:=Ab (o:=1) EF rfl;clear hs1 hen hs hz EF E3 S3 hJ2;unfold Ak at G7 hrun hy;unfold S at hy G7 hrun g0 g1 Dt hb4 hR;gi_wp2;refine hR.mono ?_;rintro e W3 ⟨rfl,hJ3,hk3⟩;gi_wp2;go_roundw
   case rel=>exact⟨seen ++ [i],⟨hk3.same r _ Dt.it rfl,Dt.nd,Dt.lt⟩,hk3.same b _ hb4 rfl,by rw [hstep];exact hJ3⟩
   case measure=>rw [Dy,EO (W:=W3) (b:=b) (E:=E) (seen:=seen ++ [i]) ⟨hk3.same r _ Dt.it rfl,Dt.nd,Dt.lt⟩,List.length_append,List.length_singleton];omega
theorem AiL(F:Fence)(n:Nat)(h10:F.fn 267)(hro:F.round=none)(hn:1<=n)(Bm b:Nat)(E:List (Pt×Value×Nat))(hst:∀i (h:i<E.length),E[i].2.2=i)(w:World)(hBm:Bm<w.heap.size)
  (hm:w.cell? ⟨Bm,0,none⟩=some (.map (some b))) (hb:w.heap[b]?=some (.map (AB Ak E).toArray E.length)) :
  SeqGives F n Tryz.prog 267 #[.pointer (some ⟨Bm,0,none⟩)] Ak (fun ss=>ss.Perm (E.map (·.1))) E.length w:=fun l J W hW hJ hY h0=>
 AiK F n h10 hro hn l Bm b E hst J hY W hJ ((hW.cell (p:=⟨Bm,0,none⟩) hBm).trans hm) ((hW.block b (AqI hb)).trans hb) h0
end Go.Proofs.YtjalkoacphhgdaaGreatDoor
