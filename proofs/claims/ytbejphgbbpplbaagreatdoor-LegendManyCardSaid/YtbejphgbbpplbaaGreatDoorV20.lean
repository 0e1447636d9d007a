/- V20: H5 H6 Q1 Q2 Q3 Q4 BA BJ. -/
import Derived.Test.YtbejphgbbpplbaaGreatDoorV19
set_option maxRecDepth 100000
set_option maxHeartbeats 8000000
namespace Go.Proofs.YtbejphgbbpplbaaGreatDoor
open Go.RowKit Kl
theorem Ae.of_own'{w:World}{base:Nat}{e:TypeId}{size:Nat}(_:0<size){v:Value}{n:Nat}{xs:List Value}(h:w.ownsRow base e size v n xs) :
  ∃A c,v=.slice A n c/\Ae w A xs/\n<=c/\c<=9223372036854775807:=by
 obtain⟨hl,h⟩:=h
 rcases h with⟨rfl,rfl⟩|⟨g,cap,cur,rfl,hb,hg,hn,hm,hs,ht⟩
 ·exact⟨none,0,rfl,⟨fun h1=>by omega⟩,by omega,by omega⟩
 ·refine⟨some ⟨g,0,none⟩,cap,rfl,⟨fun _=>⟨g,0,rfl,fun j hj=>?_⟩⟩,hn,by unfold maxLen at hm;omega⟩;have hh:w.ownsRow base e size (.slice (some ⟨g,0,none⟩) n cap) n xs:=⟨hl,.inr ⟨g,cap,cur,rfl,hb,hg,hn,hm,hs,ht⟩⟩;rw [Nat.zero_add,hh.cellAt j (by omega),Anc hj]
theorem Tx{o:Oper}{a:Act}{K:Act→World→Prop}{Q:Exit→Act→World→Prop}(s x:Operand)(t:TypeId)(ho:o.op=.call {callee:=.builtin .append,args:=#[s,x],argTypes:=#[t,t]})
  (e:TypeId) (i:TypeInfo) (z:Value) (size bytes:Nat) (ht:Tryz.prog.underlying t=some (.slice e)) (hi:Tryz.prog.info? e=some i) (hz:i.zero=some z)
  (hsize:i.size=size) (hby:i.bytes=bytes) (hzs:z.cells.size=size) (hsz:0<size) (ZV:bytes<=64)
  (wN:World) (base:Nat) (v:Value) (n:Nat) (xs:List Value) (hs:a.eval s=v) (hown:wN.ownsRow base e size v n xs) (hn:n<200000)
  (g:Nat) (cs:Array Value) (hb:wN.heap[g]?=some (.cells cs e)) (hcs:cs.size=size) (h1:∀u∈cs.toList,u.oneCell'=true)
  (hx:a.eval x=.slice (some ⟨g,0,none⟩) 1 1) (hbase:base<=wN.heap.size)
  (h:∀v' w',w'.ownsRow base e size v' (n+1) (xs++cs.toList)→(∀w0,Aa w0 wN→w0.heap.size<=base→Aa w0 w')→wN.grownBy w' v.ownBlock→K (a.put o.dst v') w') :
  o.wp Tryz.prog a wN K Q:=by
 have RS:(n+1)*bytes<=140737488355328:=Ani (Nat.mul_le_mul (show n+1<=200000 by omega) ZV) (by omega);have BX:n+1<=maxLen:=(by unfold maxLen;omega);refine wp_append_own _ s x t ho base e i z size bytes ht hi hz hsize hby hzs hsz v n xs hs hown ⟨g,0,none⟩ 1 1 cs.toList hx ?_ ?_ h1 BX RS hbase ?_
 ·simp [hcs]
 ·intro j u hu;rw [Addr.add_lit,Nat.zero_add];refine Ab hb ?_;rw [←Array.getElem?_toList];exact hu
 ·intro v' w' h2 h3 _;refine h v' w' h2 (fun w0 he Bl=>?_) h3
  exact he.grown h3 fun k hk=>by
   rcases hown.2 with⟨rfl,_⟩|⟨g,cap,cur,rfl,hb',_⟩
   ·cases hk
   ·simp only [Value.ownBlock,Anb]at hk;omega
def BN(l:List Sg):List Value:=l.flatMap fun s=>[S (R s.a.x),S (R s.a.y),S (R s.b.x),S (R s.b.y)]
theorem lm(l:List Sg)(d:Sg):BN (l ++ [d])=BN l ++ [S (R d.a.x),S (R d.a.y),S (R d.b.x),S (R d.b.y)]:=by unfold BN;simp
theorem gY(l:List Pt)(d:Pt):flat (Ao (l ++ [d]))=flat (Ao l) ++ [S (R d.x),S (R d.y)]:=by unfold Ao flat;simp [Lm]
theorem Tryz.infoPt:(Tryz.prog.info? 94).map (fun i=>(i.zero,i.size,i.bytes))=some (some (.agg #[S [],S []]),2,32):=by kernel_rfl
section
variable {ops : Array Oper} {rest : List Oper} {o : Oper} {a : Act} {K : Act → World → Prop} {Q : Exit → Act → World → Prop} {E : Prop}
theorem AkG(s x:Operand)(ho:o.op=.call {callee:=.builtin .append,args:=#[s,x],argTypes:=#[33,33]})
  (wN:World) (base:Nat) (v:Value) (n:Nat) (l:List Pt) (hs:a.eval s=v) (hown:wN.ownsRow base 94 2 v n (flat (Ao l))) (hn:n<200000) (d:Pt)
  (g:Nat) (hb:wN.heap[g]?=some (.cells #[S (R d.x),S (R d.y)] 94)) (hx:a.eval x=.slice (some ⟨g,0,none⟩) 1 1) (hbase:base<=wN.heap.size)
  (h:∀v' w',w'.ownsRow base 94 2 v' (n+1) (flat (Ao (l ++ [d])))→(∀w0,Aa w0 wN→w0.heap.size<=base→Aa w0 w')→wN.grownBy w' v.ownBlock→K (a.put o.dst v') w') :
  o.wp Tryz.prog a wN K Q:=by
 obtain⟨i0,hi,hz0,hz1,hz2⟩:=info_parts Tryz.infoPt;refine Tx s x 33 ho 94 i0 _ 2 32 Tryz.underlying33 hi hz0 hz1 hz2 rfl (by omega) (by omega) wN base v n _ hs hown hn g _ hb rfl ?_ hx hbase ?_
 ·intro u hu;simp only [List.mem_cons,Anj,or_false]at hu
  rcases hu with rfl|rfl<;>rfl
 ·intro v' w' h1 h2 h3;exact h v' w' (by rw [gY];exact h1) h2 h3
theorem zk(hgd:o.guard=none)(s x:Operand)(ho:o.op=.call {callee:=.builtin .append,args:=#[s,x],argTypes:=#[33,33]})
  (wN:World) (base:Nat) (v:Value) (n:Nat) (l:List Pt) (hs:a.eval s=v) (hown:wN.ownsRow base 94 2 v n (flat (Ao l))) (hn:n<200000) (d:Pt)
  (g:Nat) (hb:wN.heap[g]?=some (.cells #[S (R d.x),S (R d.y)] 94)) (hx:a.eval x=.slice (some ⟨g,0,none⟩) 1 1) (hbase:base<=wN.heap.size)
  (h:∀v' w',w'.ownsRow base 94 2 v' (n+1) (flat (Ao (l ++ [d])))→(∀w0,Aa w0 wN→w0.heap.size<=base→Aa w0 w')→wpList Tryz.prog ops Q rest (a.put o.dst v') w') :
  wpList Tryz.prog ops Q (o::rest) a wN:=
 wpList_plain hgd fun _ hK=>AkG s x ho wN base v n l hs hown hn d g hb hx hbase fun v' w' h1 h2 _=>hK _ _ (h v' w' h1 h2)
end
def gp(u:Int×Int):Pt:=⟨(u.1:Rat)/2,(u.2:Rat)/2⟩
structure QA(u:Int×Int):Prop where
 x0:0<=u.1
 x1:u.1<=6
 y0:0<=u.2
 y1:u.2<=6
theorem QA.on{u:Int×Int}(h:QA u):D4 (gp u):=⟨⟨u.1,by have:=h.x0;have:=h.x1;omega,rfl⟩,⟨u.2,by have:=h.y0;have:=h.y1;omega,rfl⟩⟩
theorem QA.sz{u:Int×Int}(h:QA u):Ar 20 (gp u):=h.on.sz (by omega)
def Ako(n:Nat):Bs:=if n%4=0 then [97] else if n%4=1 then [98] else if n%4=2 then [99] else [100]
theorem Yy{w:World}{b:Nat}{a0 a1 a2:Value}{t:TypeId}(v0 v1 v2:Value)(h:w.heap[b]?=some (.cells #[a0,a1,a2] t)) :
  (((w.setCell ⟨b,0,none⟩ v0).setCell ⟨b,1,none⟩ v1).setCell ⟨b,2,none⟩ v2).heap[b]?=some (.cells #[v0,v1,v2] t):=by
 simp only [World.setCell,Array.getElem?_modify,h];simp
section
open Go.Lib
instance instInhPt:Inhabited Pt:=⟨⟨0,0⟩⟩
instance instDecPt:DecidableEq Pt:=fun a b=>if h:Ap a b=true then isTrue (Cx.1 h)else isFalse fun e=>h (Cx.2 e)
theorem qR{w0:World}(b:Nat)(hb:w0.heap.size<=b):∀(vs:List Value) (o:Nat) (w:World),Aa w0 w→Aa w0 (w.setCells b o vs)
 | [],_,_,h=>h
 | v::r,o,_,h=>qR b hb r (o+1) _ (h.setCell (p:=⟨b,o,none⟩) hb v)
theorem PV{w:World}{base g n cap:Nat}{e:TypeId}{d:Array Pt}(h:w.ownsRow base e 2 (.slice (some ⟨g,0,none⟩) n cap) n (flat (Ao d.toList)))(hs:d.size=n){j:Nat}(hj:j<n) :
  w.cell? ⟨g,j*2,none⟩=some (S (R d[j]!.x))/\w.cell? ⟨g,j*2+1,none⟩=some (S (R d[j]!.y)):=by
 have hl:(Ao d.toList).length=n:=(by simp [Ao,hs]);have hd:d[j]! = d.toList[j]'(by simpa [hs]using hj):=(by rw [getElem!_pos d j (by omega)];simp);obtain⟨f1,f2⟩:=flat_get (Ao d.toList) j (by omega);rw [h.cellAt (j*2) (by omega),h.cellAt (j*2+1) (by omega),hd,f1,f2];simp [Ao,Lm]
theorem rI:∀(l:List (Bs×Bs)) (k:Nat) (u:Bs×Bs),((flat l).set (k*2) (S u.1)).set (k*2+1) (S u.2)=flat (l.set k u)
 | [],_,_=>by simp [flat]
 | p::l,0,_=>rfl
 | p::l,k+1,u=>by
  have e:flat (p::l)=S p.1::S p.2::flat l:=rfl;have e1:(k+1)*2=k*2+1+1:=(by omega);rw [e,e1,List.set_cons_succ,List.set_cons_succ,List.set_cons_succ,List.set_cons_succ,rI l k u]
  rfl
theorem AhG{w:World}{base g n cap:Nat}{e:TypeId}{d:Array Pt}(h:w.ownsRow base e 2 (.slice (some ⟨g,0,none⟩) n cap) n (flat (Ao d.toList)))(k:Nat)(u:Pt) :
  ((w.setCell ⟨g,k*2,none⟩ (S (R u.x))).setCell ⟨g,k*2+1,none⟩ (S (R u.y))).ownsRow base e 2 (.slice (some ⟨g,0,none⟩) n cap) n (flat (Ao (d.setIfInBounds k u).toList)):=by
 have h2:=((h.stored (k*2) (S (R u.x))).1.stored (k*2+1) (S (R u.y))).1;have e2:=rI (Ao d.toList) k (Lm u);simp only [Lm]at e2;rw [e2]at h2;rw [Array.toList_setIfInBounds];have e3:Ao (d.toList.set k u)=(Ao d.toList).set k (R u.x,R u.y):=(by unfold Ao;rw [List.map_set];rfl);rw [e3];exact h2
theorem AiU(w:World)(b o n c:Nat)(hn:0<n)(hc:∀j,j<n*2→(w.cell? ⟨b,o+j,none⟩).isSome=true)(hf:∀j,j<n*2→w.frozen? ⟨b,o+j,none⟩=false) :
  ∃vs:List Value,vs.length=n*2/\∀ty,(Builtin.clear_ #[33] ty #[.slice (some ⟨b,o,none⟩) n c]).run Tryz.prog w=.ok (.tuple #[]) (w.setCells b o vs):=by
 obtain⟨i0,hi,hz0,hz1,hz2⟩:=info_parts Tryz.infoPt;have hv:∀w,(zeroValue 94).run Tryz.prog w=.ok (.agg #[S [],S []]) w:=fun w=>(by simp [zeroValue,typeInfo,hi,hz0]);have vD:(Value.agg #[S [],S []]).cells=#[S [],S []]:=(by kernel_rfl);have hl:(Builtin.zeroCells #[S [],S []] n).toList.length=n*2:=(by simp [Builtin.zeroCells]);refine⟨(Builtin.zeroCells #[S [],S []] n).toList,hl,fun ty=>?_⟩
 have hst:=run_storeCells_cells (P:=Tryz.prog) b o (Builtin.zeroCells #[S [],S []] n).toList 0 w (by rw [hl];simpa using hc) (by rw [hl];simpa using hf) (by
  intro v hv';simp only [Builtin.zeroCells]at hv';simp at hv';obtain⟨j,_,e⟩:=hv';have:j%2=0∨j%2=1:=by omega
  rcases this with h|h<;>(rw [h]at e;simp at e;subst e;rfl))
 simp only [Nat.add_zero]at hst;obtain⟨m,rfl⟩:∃m,n=m+1:=⟨n-1,by omega⟩;simp [Builtin.clear_,run_underlying Tryz.underlying33,hv,vD,hst]
def XT(w:World)(base:Nat)(wr:World):Prop:=∀w0,Aa w0 w→w0.heap.size<=base→Aa w0 wr
def ye(l:List Pt)(w:World)(base:Nat)(e:Ending)(w':World):Prop:=
 ∃A k,e=.returned (.slice A l.length k)/\Ae w' A (flat (Ao l))/\l.length<=k/\k<=9223372036854775807/\XT w base w'
theorem Ai9{w:World}{g:Nat}{l:List Pt}(h:∀j (hj:j<l.length),w.cell? ⟨g,j*2,none⟩=some (S (R l[j].x))/\w.cell? ⟨g,j*2+1,none⟩=some (S (R l[j].y))):Ae w (some ⟨g,0,none⟩) (flat (Ao l)):=by
 refine⟨fun _=>⟨g,0,rfl,fun j hj=>?_⟩⟩;have hj':=hj;rw [flat_length,show (Ao l).length=l.length by simp [Ao]]at hj';obtain⟨q,hq⟩:∃q,j=q*2∨j=q*2+1:=⟨j/2,by omega⟩;obtain⟨f1,f2⟩:=h q (by omega);obtain⟨e1,e2⟩:=flat_get (Ao l) q (by simp [Ao];omega);simp only [Ao,List.getElem_map,Lm]at e1 e2;rw [Nat.zero_add,←Anc hj]
 rcases hq with rfl|rfl
 ·rw [f1];exact e1.symm
 ·rw [f2];exact e2.symm
theorem WH{w:World}{base:Nat}{e:TypeId}{size:Nat}{v:Value}{n:Nat}{xs:List Value}(h:w.ownsRow base e size v n xs)(k:Nat):(w.drewN k).ownsRow base e size v n xs:=AH h ((Aa.refl w).drewN k)
theorem Abz{L:List Pt}(h:L.length<2):compact L=L:=compact_all L fun j hj=>keeps_lt_one _ j (by omega)
theorem Abw(L:List Pt)(v:Value)(w:World)(base:Nat)(hown:w.ownsRow base 94 2 v L.length (flat (Ao L))) :
  Calls Tryz.prog 179 #[v] w (ye (compact L) w base):=by
 by_cases h2:L.length<2
 ·rw [Abz h2];obtain⟨A,c,rfl,hr,hc1,hc2⟩:=Ae.of_own' (by omega) hown;have h2':(L.length:Int)<2:=(by omega);have HR:=AmU hr;clear hown hr;go_enter Tryz.func179,Tryz.ntmps179;go_wp2;go_ret;exact⟨A,c,rfl,HR.out,hc1,hc2,fun _ h _=>h⟩
 ·obtain⟨g,cap,rfl,hc1,hc2⟩:∃g cap,v=.slice (some ⟨g,0,none⟩) L.length cap/\L.length<=cap/\cap<=9223372036854775807:=by
   rcases hown.2 with⟨_,h'⟩|⟨g,cap,cur,hv,hb,hg,hnc,hcm,hcs,htake⟩
   ·omega
   ·exact⟨g,cap,hv,hnc,by unfold maxLen at hcm;omega⟩
  have hbg:=fV hown g rfl;obtain⟨d,hd⟩:=AmT L.toArray;obtain⟨n,hn⟩:=AmT L.length;have DG:d.size=n:=(by rw [hd,hn];simp);have KA:compact L=compactUpTo d n:=(by unfold compact;rw [hd,hn]);rw [←hn]at hown h2 hc1 ⊢;rw [KA];rw [show L=d.toList by rw [hd]]at hown;clear hd hn KA;have h2a:(2:Int)<=(n:Int):=(by omega);clear h2;go_enter Tryz.func179,Tryz.ntmps179;go_wp2
  go_loopw [3] (fun s3 wr=>∃k:Nat,s3=.int .i64 k/\1<=k/\k<=n/\(∀j,j<k→keeps d j=true)/\wr.ownsRow base 94 2 (.slice (some ⟨g,0,none⟩) n cap) n (flat (Ao d.toList))/\XT w base wr) (fun s3 _=>n-(RowKit.intOf s3).toNat)
  case atStart=>exact⟨1,rfl,by omega,by omega,keeps_lt_one d,hown,fun _ h _=>h⟩
  case round=>
   obtain⟨k,rfl,Ci,hk,hall,hown1,hex⟩:=hrel;have jZ:=AmU hall;by_cases hlt:k<n
   ·have hk0:(0:Int)<=(k:Int):=(by omega);have AlW:(1:Int)<=(k:Int):=(by omega);have hkn:(k:Int)<(n:Int):=(by omega);obtain⟨g1,g2⟩:=PV hown1 DG hlt;obtain⟨g3,g4⟩:=PV hown1 DG (j:=k-1) (by omega);obtain⟨x,hx⟩:=AmT (d[k]!);obtain⟨y,hy⟩:=AmT (d[k-1]!);rw [←hx]at g1 g2;rw [←hy]at g3 g4;have Jq:=AmU (And.intro hx hy);have Sl:((k:Int)-1).toNat=k-1:=(by omega);have So:IntKind.i64.wrap ((k:Int)-1)=(k:Int)-1:=Ane _ (by omega);have wM:((k:Int)-1)<(n:Int):=(by omega);have wO:(0:Int)<=((k:Int)-1):=(by omega);clear hx hy hall;have he:=iO x y
    cases hb:Ap x y
    ·rw [hb]at he;have hdec:keeps d k=true:=keeps_pos (by rw [←Jq.out.1,←Jq.out.2];intro e;rw [Cx.2 e]at hb;cases hb)
     have tX:∀j,j<k+1→keeps d j=true:=fun j hj=>by
      by_cases e:j=k
      ·subst e;exact hdec
      ·exact jZ.out j (by omega)
     have rp:=AmU tX;clear tX hdec hb;(go_wp2_with fail)
     go_quiet (fail)
     go_wp2;go_roundw
     case rel=>exact⟨k+1,by go_num,by omega,by omega,rp.out,WH hown1 _,fun w0 h h'=>(hex w0 h h').drewN _⟩
     case measure=>simp [RowKit.intOf];omega
    ·rw [hb]at he;have wL:keeps d k=false:=keeps_neg (by omega) (by rw [←Jq.out.1,←Jq.out.2];exact Cx.1 hb);have ut:=AmU wL;clear wL hb;(go_wp2_with fail)
     go_quiet (fail)
     clear g1 g2 g3 g4 Sl So wM wO hlt he;have AlH:cap-k<=cap:=(by omega);go_wp2
     go_loopw [3,5] (fun s3 s5 wr2=>∃(kk k2:Nat) (dk:Array Pt),s3=.int .i64 kk/\s5=.int .i64 k2/\1<=k2/\k+k2<=n/\wr2.ownsRow base 94 2 (.slice (some ⟨g,0,none⟩) n cap) n (flat (Ao dk.toList))/\CompInv d (k+k2) kk dk/\XT w base wr2) (fun _ s5 _=>n-k-(RowKit.intOf s5).toNat)
     case atStart=>exact⟨k,1,d,rfl,rfl,by omega,by omega,WH hown1 _,CompInv.start jZ.out ut.out,fun w0 h h'=>(hex w0 h h').drewN _⟩
     case round=>
      clear hown1 hex;obtain⟨kk,k2,dk,rfl,rfl,hk2,hle,hown2,hI,hex⟩:=hrel;have B6:=hI.lt;have Vo:dk.size=n:=(by rw [hI.size,DG]);have HI:=AmU hI;have AE:(0:Int)<=(kk:Int):=(by omega);have AQ:(1:Int)<=(k2:Int):=(by omega);have Bp:(0:Int)<=(k2:Int):=(by omega);by_cases hlt2:k+k2<n
      ·have S2:(k2:Int)<((n-k:Nat):Int):=(by omega);obtain⟨g1,g2⟩:=PV hown2 Vo hlt2;obtain⟨g3,g4⟩:=PV hown2 Vo (j:=k+(k2-1)) (by omega);obtain⟨g5,g6⟩:=PV hown2 Vo (j:=kk) (by omega);have f5:=hown2.frozenAt (kk*2);have f6:=hown2.frozenAt (kk*2+1);rw [hI.high (k+k2) (by omega),show (k+k2)*2=k*2+k2*2 by omega]at g1 g2;rw [hI.high (k+(k2-1)) (by omega),show (k+(k2-1))*2=k*2+(k2-1)*2 by omega]at g3 g4;obtain⟨x,hx⟩:=AmT (d[k+k2]!);obtain⟨y,hy⟩:=AmT (d[k+(k2-1)]!);obtain⟨z,hz⟩:=AmT (dk[kk]!);rw [←hx]at g1 g2;rw [←hy]at g3 g4;rw [←hz]at g5 g6;rw [show k+(k2-1)=k+k2-1 by omega]at hy;have Jq:=AmU (And.intro hx hy);have Sl:((k2:Int)-1).toNat=k2-1:=(by omega);have So:IntKind.i64.wrap ((k2:Int)-1)=(k2:Int)-1:=Ane _ (by omega);have wM:((k2:Int)-1)<((n-k:Nat):Int):=(by omega);have wO:(0:Int)<=((k2:Int)-1):=(by omega);have Aek:(kk:Int)<(n:Int):=(by omega);clear hx hy hz hI;have he:=lh x y
       cases hb:Ap x y
       ·rw [hb,Bool.not_false]at he
        have LZ:CompInv d (k+(k2+1)) (kk+1) (dk.setIfInBounds kk x):=by have:=HI.out.keep (by omega) (keeps_pos (by rw [←Jq.out.1,←Jq.out.2];intro e;rw [Cx.2 e]at hb;cases hb));rw [←Jq.out.1]at this;exact this
        have Xu:=AmU LZ;clear LZ hb;(go_wp2_with fail)
        go_quiet (fail)
        go_wp2;go_roundw
        case rel=>exact⟨kk+1,k2+1,dk.setIfInBounds kk x,by go_num,by go_num,by omega,by omega,AhG (WH hown2 _) kk x,Xu.out,fun w0 h h'=>(((hex w0 h h').drewN _).setCell (p:=⟨g,kk*2,none⟩) (Ani h' hbg) _).setCell (p:=⟨g,kk*2+1,none⟩) (Ani h' hbg) _⟩
        case measure=>simp [RowKit.intOf];omega
       ·rw [hb,Bool.not_true]at he;have LZ:CompInv d (k+(k2+1)) kk dk:=HI.out.skip (keeps_neg (by omega) (by rw [←Jq.out.1,←Jq.out.2];exact Cx.1 hb));have Xu:=AmU LZ;clear LZ hb;(go_wp2_with fail)
        go_quiet (fail)
        go_wp2;go_roundw
        case rel=>exact⟨kk,k2+1,dk,rfl,by go_num,by omega,by omega,WH hown2 _,Xu.out,fun w0 h h'=>(hex w0 h h').drewN _⟩
        case measure=>simp [RowKit.intOf];omega
      ·have hend:k+k2=n:=(by omega);have S2:((n-k:Nat):Int)<=(k2:Int):=(by omega);have Aek:(kk:Int)<=(n:Int):=(by omega);have AlZ:(kk:Int)<=(cap:Int):=(by omega);obtain⟨vs,IW,hcl⟩:=AiU wr g (kk*2) (n-kk) (cap-kk) (by omega) (fun j hj=>by rw [hown2.cellAt _ (by omega),Anc (by rw [hown2.1];omega)];rfl) (fun j hj=>hown2.frozenAt _)
       have hpre:∀j (hj:j<(compactUpTo d n).length),(wr.setCells g (kk*2) vs).cell? ⟨g,j*2,none⟩=some (S (R (compactUpTo d n)[j].x))/\(wr.setCells g (kk*2) vs).cell? ⟨g,j*2+1,none⟩=some (S (R (compactUpTo d n)[j].y)):=by intro j hj;rw [hend]at hI;have hj':j<kk:=(by rw [←hI.len];exact hj);have Sq:=hI.low j hj';rw [Anc hj,Anb]at Sq;rw [World.cell?_setCells_out _ _ _ _ _ (fun _ _=>.inl (by simp only [];omega)),World.cell?_setCells_out _ _ _ _ _ (fun _ _=>.inl (by simp only [];omega)),Sq];exact PV hown2 Vo (by omega)
       have vv:=AmU hpre;have hlen:(compactUpTo d n).length=kk:=(by have:=hI.len;rw [hend]at this;exact this);clear hI hpre;go_wp2;go_ret;exact⟨some ⟨g,0,none⟩,cap,by rw [hlen];rfl,Ai9 vv.out,by omega,hc2,fun w0 h h'=>qR g (Ani h' hbg) _ _ _ (hex w0 h h')⟩
   ·have hle:(n:Int)<=(k:Int):=by omega
    have he:compactUpTo d n=d.toList:=by have hr:=range_map_get d;rw [DG]at hr;rw [compactUpTo_all _ _ (fun j hj=>hall j (by omega)),hr]
    have hl:(compactUpTo d n).length=n:=(by rw [he];simp [DG]);go_wp2;go_ret;refine⟨some ⟨g,0,none⟩,cap,by rw [hl];rfl,?_,by omega,hc2,hex⟩;obtain⟨A,c,e,hr,_,_⟩:=Ae.of_own' (by omega) hown1;rw [he]
    cases e;exact hr
end
theorem AiM{l:List Int}{k:Nat}(hk:k<l.length)(hl:l[k]=(k:Int)){A:Option Addr}{c:Nat}{w:World}(hr:Ae w A (l.map (Value.int .i64))) :
  Calls Tryz.prog 105 #[.slice A l.length c,.int .i64 (k:Nat)] w (AA k w):=by
 obtain⟨b,o,rfl,hcell⟩:=hr.ad (by simp;omega);have f:=hcell k (by simp;omega);rw [List.getElem_map,hl]at f;have hk0:(0:Int)<=(k:Int):=(by omega);have Ci:(k:Int)<(l.length:Int):=(by omega);clear hcell hr hl;go_enter Tryz.func105,Tryz.ntmps105;go_wp2
 go_loopw [1] (fun v wr=>v=.int .i64 (k:Nat)/\wr=w) (fun _ _=>0)
 case atStart=>exact⟨rfl,rfl⟩
 case round=>obtain⟨rfl,rfl⟩:=hrel;go_wp2;go_ret;exact⟨rfl,Aa.refl _⟩
theorem AiK{w:World}{base g cap:Nat}{x y:Pt}(h:w.ownsRow base 94 2 (.slice (some ⟨g,0,none⟩) 2 cap) 2 (flat (Ao [x,y]))) :
  ((((w.setCell ⟨g,0,none⟩ (S (R y.x))).setCell ⟨g,1,none⟩ (S (R y.y))).setCell ⟨g,2,none⟩ (S (R x.x))).setCell ⟨g,3,none⟩ (S (R x.y))).drew.ownsRow base 94 2 (.slice (some ⟨g,0,none⟩) 2 cap) 2 (flat (Ao [y,x]))
   /\w.grownBy ((((w.setCell ⟨g,0,none⟩ (S (R y.x))).setCell ⟨g,1,none⟩ (S (R y.y))).setCell ⟨g,2,none⟩ (S (R x.x))).setCell ⟨g,3,none⟩ (S (R x.y))).drew (some g):=by
 have h1:=((((h.stored 0 (S (R y.x))).1.stored 1 (S (R y.y))).1.stored 2 (S (R x.x))).1.stored 3 (S (R x.y))).1;refine⟨AH h1 (Aa.refl _).drew,⟨rfl,rfl,rfl,by simp,fun k hk hne=>?_⟩⟩;have V7:k≠g:=fun e=>hne (by rw [e]);exact(Below.heap_setCell _ _ _ k V7).trans ((Below.heap_setCell _ _ _ k V7).trans ((Below.heap_setCell _ _ _ k V7).trans (Below.heap_setCell _ _ _ k V7)))
theorem AiL(x y:Pt)(g cap base:Nat)(w:World)(h:w.ownsRow base 94 2 (.slice (some ⟨g,0,none⟩) 2 cap) 2 (flat (Ao [x,y]))) :
  Calls Tryz.prog 180 #[.slice (some ⟨g,0,none⟩) 2 cap] w fun e w'=>
   e=.returned (.tuple #[])/\w'.ownsRow base 94 2 (.slice (some ⟨g,0,none⟩) 2 cap) 2 (flat (Ao [y,x]))/\w.grownBy w' (some g):=by
 have f0:=h.cellAt 0 (by omega);have f1:=h.cellAt 1 (by omega);have f2:=h.cellAt 2 (by omega);have f3:=h.cellAt 3 (by omega);simp only [Ao,Lm,flat,List.map_cons,List.map_nil,List.flatMap_cons,List.flatMap_nil,List.append_nil,List.cons_append,List.nil_append,List.getElem?_cons_zero,List.getElem?_cons_succ]at f0 f1 f2 f3;have z0:=h.frozenAt 0;have z1:=h.frozenAt 1;have z2:=h.frozenAt 2;have z3:=h.frozenAt 3;have H:=AmU h;clear h;go_enter Tryz.func180,Tryz.ntmps180;go_wp2
 go_loopw [2,3] (fun i j wr=>(i=.int .i64 0/\j=.int .i64 1/\wr=w)∨(i=.int .i64 1/\j=.int .i64 0/\wr.ownsRow base 94 2 (.slice (some ⟨g,0,none⟩) 2 cap) 2 (flat (Ao [y,x]))/\w.grownBy wr (some g))) (fun i _ _=>1-(intOf i).toNat)
 case atStart=>exact .inl ⟨rfl,rfl,rfl⟩
 case round=>
  rcases hrel with⟨rfl,rfl,rfl⟩|⟨rfl,rfl,ho,hg⟩
  ·go_upto_region 3 with fail
   have HR:=AmU (AiK H.out);unfold S at f0 f1 f2 f3 HR
   go_region
   go_wp2;go_roundw
   case rel=>exact .inr ⟨rfl,rfl,HR.out.1,HR.out.2⟩
   case measure=>simp [intOf]
  ·go_wp2
   go_end0
   exact⟨rfl,ho,hg⟩
end Go.Proofs.YtbejphgbbpplbaaGreatDoor
