/- U39: ShLGL ShLGN ShLE5. -/
import Derived.Test.YtbejphgbbpplbaaGreatDoorU32
import Derived.Test.YtbejphgbbpplbaaGreatDoorU38
set_option maxRecDepth 100000
set_option maxHeartbeats 16000000
namespace Go.Proofs.YtbejphgbbpplbaaGreatDoor
open Go.RowKit Kl Go.Shelf
def Y0:List (Op×Option Nat):=[
 (.call {callee:=.value (.func 65),args:=#[],argTypes:=#[]},some 17),
 (.fieldAddr 113 (.tmp 5) 0,some 18),
 (.load 5 (.tmp 18),some 19),
 (.binOp .rem 5 (.tmp 19) (.const (.int .u8 12)) 5,some 20),
 (.indexAddr 23 (.tmp 17) (.tmp 20),some 21),
 (.load 9 (.tmp 21),some 22),
 (.fieldAddr 113 (.tmp 5) 1,some 23),
 (.load 5 (.tmp 23),some 24),
 (.binOp .rem 5 (.tmp 24) (.const (.int .u8 90)) 5,some 25),
 (.binOp .add 5 (.const (.int .u8 33)) (.tmp 25) 5,some 26),
 (.buildSlice 42 1 #[(0,.tmp 26)],some 27),
 (.convert 42 9 (.tmp 27),some 28),
 (.fieldAddr 113 (.tmp 5) 2,some 29),
 (.load 5 (.tmp 29),some 30),
 (.binOp .rem 5 (.tmp 30) (.const (.int .u8 5)) 5,some 31),
 (.convert 5 3 (.tmp 31),some 32),
 (.binOp .add 3 (.const (.int .i64 1)) (.tmp 32) 3,some 33),
 (.buildSlice 23 4 #[(0,.const (S [])),(1,.const (S [115,97,110,100])),(2,.const (S [97,32,98])),(3,.const (S [49,47,50,32,116,111,32,51]))],some 34),
 (.fieldAddr 113 (.tmp 5) 3,some 35),
 (.load 5 (.tmp 35),some 36),
 (.binOp .rem 5 (.tmp 36) (.const (.int .u8 4)) 5,some 37),
 (.indexAddr 23 (.tmp 34) (.tmp 37),some 38),
 (.load 9 (.tmp 38),some 39),
 (.build 40 #[(0,.tmp 22),(1,.tmp 28),(2,.tmp 33),(3,.tmp 39)],some 40),
 (.alloc 40,some 6),
 (.store 40 (.tmp 6) (.tmp 40),none)]
def SQ:List (Nat×Nat):=[(25,24),(25,23),(23,5),(23,11),(23,16),(23,22),(5,4),(4,0),(4,3),(3,2),(2,1),(11,10),(10,9),(9,8),(8,7),(7,6),(16,15),(15,14),(14,13),(13,12),(22,21),(21,17),(21,20),(20,19),(19,18)]
def IT(i:Nat):Nat:=if i=24 then 6 else 17+i
structure CM where
 x:Dr
 bx:Nat
 ku:Nat
 ks:Nat
 kp:Nat
 kt:Nat
 sy:UInt8
 nm:Bs
 tx:Bs
structure CM.Ok(X:CM):Prop where
 u:X.ku=X.x.u.toNat%12
 s:X.ks=X.x.s.toNat%90
 p:X.kp=X.x.p.toNat%5
 t:X.kt=X.x.t.toNat%4
 y:(X.sy.toNat:Int)=33+(X.ks:Int)
 n:X.nm=NI.getD X.ku []
 x':X.tx=P4.getD X.kt []
def PC(X:CM)(B:Nat)(w:World):Nat→Value→Prop
 | 0,v=>∃g,v=.slice (some ⟨g,0,none⟩) 12 12/\w.cell? ⟨g,X.ku,none⟩=some (S X.nm)
 | 1,v=>v=.pointer (some ⟨X.bx,0,none⟩)
 | 2,v=>v=.int .u8 (X.x.u.toNat:Nat)
 | 3,v=>v=.int .u8 (X.ku:Nat)
 | 4,v=>∃g,v=.pointer (some ⟨g,X.ku,none⟩)/\w.cell? ⟨g,X.ku,none⟩=some (S X.nm)
 | 5,v=>v=S X.nm
 | 6,v=>v=.pointer (some ⟨X.bx,1,none⟩)
 | 7,v=>v=.int .u8 (X.x.s.toNat:Nat)
 | 8,v=>v=.int .u8 (X.ks:Nat)
 | 9,v=>v=.int .u8 (X.sy.toNat:Nat)
 | 10,v=>∃g,v=.slice (some ⟨g,0,none⟩) 1 1/\w.cell? ⟨g,0,none⟩=some (.int .u8 (X.sy.toNat:Nat))
 | 11,v=>v=S [X.sy]
 | 12,v=>v=.pointer (some ⟨X.bx,2,none⟩)
 | 13,v=>v=.int .u8 (X.x.p.toNat:Nat)
 | 14,v=>v=.int .u8 (X.kp:Nat)
 | 15,v=>v=.int .i64 (X.kp:Nat)
 | 16,v=>v=.int .i64 (1+(X.kp:Int))
 | 17,v=>∃g,v=.slice (some ⟨g,0,none⟩) 4 4/\w.cell? ⟨g,X.kt,none⟩=some (S X.tx)
 | 18,v=>v=.pointer (some ⟨X.bx,3,none⟩)
 | 19,v=>v=.int .u8 (X.x.t.toNat:Nat)
 | 20,v=>v=.int .u8 (X.kt:Nat)
 | 21,v=>∃g,v=.pointer (some ⟨g,X.kt,none⟩)/\w.cell? ⟨g,X.kt,none⟩=some (S X.tx)
 | 22,v=>v=S X.tx
 | 23,v=>v=.agg #[S X.nm,S [X.sy],.int .i64 (1+(X.kp:Int)),S X.tx]
 | 24,v=>∃g,v=.pointer (some ⟨g,0,none⟩)/\w.heap[g]?=some (.cells #[S [],S [],.int .i64 0,S []] 40)/\B<=g
 | _,_=>True
theorem PC.ext{X:CM}{B:Nat}{w w':World}(hx:Aa w w'){i:Nat}(hi:i<25){v:Value}(h:PC X B w i v):PC X B w' i v:=by
 rcases(by omega:i=0∨i=1∨i=2∨i=3∨i=4∨i=5∨i=6∨i=7∨i=8∨i=9∨i=10∨i=11∨i=12∨i=13∨i=14∨i=15∨i=16∨i=17∨i=18∨i=19∨i=20∨i=21∨i=22∨i=23∨i=24)with rfl|rfl|rfl|rfl|rfl|rfl|rfl|rfl|rfl|rfl|rfl|rfl|rfl|rfl|rfl|rfl|rfl|rfl|rfl|rfl|rfl|rfl|rfl|rfl|rfl
 ·obtain⟨g,h1,h2⟩:=h;exact⟨g,h1,hx.cellS h2⟩
 ·exact h
 ·exact h
 ·exact h
 ·obtain⟨g,h1,h2⟩:=h;exact⟨g,h1,hx.cellS h2⟩
 ·exact h
 ·exact h
 ·exact h
 ·exact h
 ·exact h
 ·obtain⟨g,h1,h2⟩:=h;exact⟨g,h1,hx.cellS h2⟩
 ·exact h
 ·exact h
 ·exact h
 ·exact h
 ·exact h
 ·exact h
 ·obtain⟨g,h1,h2⟩:=h;exact⟨g,h1,hx.cellS h2⟩
 ·exact h
 ·exact h
 ·exact h
 ·obtain⟨g,h1,h2⟩:=h;exact⟨g,h1,hx.cellS h2⟩
 ·exact h
 ·exact h
 ·obtain⟨g,h1,h2,h3⟩:=h;exact⟨g,h1,(hx.block _ (ArX h2)).trans h2,h3⟩
structure JM(X:CM)(V:World)(a0:Act)(ops:Array Oper)(l:Array Bool)(a:Act)(w:World):Prop where
 fr:DO (fun d=>d=6∨(17<=d/\d<=40)) a0 a
 cl:∀j k,SQ.contains (j,k)=true→l.getD j false=true→l.getD k false=true
 ext:l.getD 25 false=false→Aa V w
 fc:l.getD 25 false=false→∀i,i<25→l.getD i false=true→PC X V.heap.size w i (a.eval (.tmp (IT i)))
 fin:l.getD 25 false=true→∃g,a.eval (.tmp 6)=.pointer (some ⟨g,0,none⟩)/\w.heap[g]?=some (.cells #[S X.nm,S [X.sy],.int .i64 (1+(X.kp:Int)),S X.tx] 40)/\Aa V w
theorem AnN{i j:Nat}(hi:i<25)(hj:j<25)(h:i≠j):IT j≠IT i:=by unfold IT;split<;>split<;>omega
theorem AnO{i:Nat}(hi:i<25):IT i<=40:=by unfold IT;split<;>omega
theorem AnM{i:Nat}(hi:i<25):IT i=6∨(17<=IT i/\IT i<=40):=by unfold IT;split<;>omega
theorem eval_put{a:Act}{d:Nat}(v:Value)(h:d<a.tmps.size):(a.put (some d) v).eval (.tmp d)=v:=by
 simp only [Act.eval,Act.put,Array.getD_eq_getD_getElem?];rw [Array.getElem?_setIfInBounds_self_of_lt h]
 rfl
section
variable {X : CM} {V : World} {a0 a : Act} {ops : Array Oper} {l : Array Bool} {w : World}
theorem JM.before(h:JM X V a0 ops l a w)(xN:l.getD 25 false=true):∀i,i<25→l.getD i false=true:=by
 intro i hi;have k24:=h.cl 25 24 (by decide) xN;have XV:=h.cl 25 23 (by decide) xN;have k5:=h.cl 23 5 (by decide) XV;have rf:=h.cl 23 11 (by decide) XV;have rh:=h.cl 23 16 (by decide) XV;have k22:=h.cl 23 22 (by decide) XV;have k4:=h.cl 5 4 (by decide) k5;have k0:=h.cl 4 0 (by decide) k4;have k3:=h.cl 4 3 (by decide) k4;have k2:=h.cl 3 2 (by decide) k3;have k1:=h.cl 2 1 (by decide) k2;have rb:=h.cl 11 10 (by decide) rf;have k9:=h.cl 10 9 (by decide) rb;have k8:=h.cl 9 8 (by decide) k9;have k7:=h.cl 8 7 (by decide) k8;have k6:=h.cl 7 6 (by decide) k7;have kZ:=h.cl 16 15 (by decide) rh;have kY:=h.cl 15 14 (by decide) kZ;have kX:=h.cl 14 13 (by decide) kY;have k12:=h.cl 13 12 (by decide) kX;have XU:=h.cl 22 21 (by decide) k22;have ri:=h.cl 21 17 (by decide) XU;have Re:=h.cl 21 20 (by decide) XU;have XT:=h.cl 20 19 (by decide) Re;have lA:=h.cl 19 18 (by decide) XT
 rcases(by omega:i=0∨i=1∨i=2∨i=3∨i=4∨i=5∨i=6∨i=7∨i=8∨i=9∨i=10∨i=11∨i=12∨i=13∨i=14∨i=15∨i=16∨i=17∨i=18∨i=19∨i=20∨i=21∨i=22∨i=23∨i=24)with rfl|rfl|rfl|rfl|rfl|rfl|rfl|rfl|rfl|rfl|rfl|rfl|rfl|rfl|rfl|rfl|rfl|rfl|rfl|rfl|rfl|rfl|rfl|rfl|rfl<;>assumption
theorem JM.put(h:JM X V a0 ops l a w)(hs:l.size=26)(hz:51<=a0.tmps.size){i:Nat}(hi:i<25)(Az:l.getD i false=false)(hd:∀k,SQ.contains (i,k)=true→l.getD k false=true){v:Value}{w':World}(hx:Aa w w')(hf:PC X V.heap.size w' i v):JM X V a0 ops (l.setIfInBounds i true) (a.put (some (IT i)) v) w':=by
 have n25:l.getD 25 false=false:=by
  cases e:l.getD 25 false
  ·rfl
  ·have:=h.before e i hi;rw [Az]at this;cases this
 have m25:(l.setIfInBounds i true).getD 25 false=false:=(by rw [getD_set_ne false (show i≠25 by omega)];exact n25);refine⟨h.fr.put (AnM hi) v,?_,fun _=>(h.ext n25).trans hx,?_,fun e=>by rw [m25]at e;cases e⟩
 ·intro j k hjk hj
  have hk:l.getD k false=true:=by
   by_cases e:i=j
   ·subst e;exact hd k hjk
   ·rw [getD_set_ne false e]at hj;exact h.cl j k hjk hj
  by_cases e:i=k
  ·subst e;rw [EU (by omega)]
  ·rw [getD_set_ne false e];exact hk
 ·intro _ j hj hl;by_cases e:i=j
  ·subst e;rw [eval_put v (by rw [h.fr.size];have:=AnO hi;omega)];exact hf
  ·rw [getD_set_ne false e]at hl;rw [BC v (AnN hi hj e)];exact(h.fc n25 j hj hl).ext hx hj
end
theorem JM.not25{X:CM}{V:World}{a0 a:Act}{ops:Array Oper}{l:Array Bool}{w:World}(h:JM X V a0 ops l a w){i:Nat}(hi:i<25)(Az:l.getD i false=false):l.getD 25 false=false:=by
 cases e:l.getD 25 false
 ·rfl
 ·have:=h.before e i hi;rw [Az]at this;cases this
theorem Ap1{P:Program}{Q:Exit→Act→World→Prop}{o:Oper}{a:Act}{w:World}{K:Act→World→Prop}{f:FuncId}{ts:Array TypeId}(ho:o.op=.call {callee:=.value (.func f),args:=#[],argTypes:=ts})(hen:Enters P f)
  {R:Ending→World→Prop} (hc:Calls P f #[] w R) (hR:∀e w'',R e w''→∃u,e=.returned u/\K (a.put o.dst u) w''):o.wp P a w K Q:=by
 have h2:(execOp a.eval o).run P w=.ok (.enter f #[]) w:=by unfold execOp;simp [ho,resolve,invoke,Act.eval,go_sem];exact hen _ w
 unfold Oper.wp;rw [h2,Oper.upon_enter];refine hc.mono fun e w'' h=>?_;obtain⟨u,rfl,hk⟩:=hR e w'' h;exact hk
theorem AoK:∀k,k<4→(#[S [],S [115,97,110,100],S [97,32,98],S [49,47,50,32,116,111,32,51]]:Array Value)[k]?=some (S (P4.getD k [])):=by
 intro k hk
 rcases(by omega:k=0∨k=1∨k=2∨k=3)with rfl|rfl|rfl|rfl<;>rfl
theorem Ag9(b:Nat)(w:World):(Instr.fieldAt 113 (.pointer (some ⟨b,0,none⟩)) 0).run Tryz.prog w=.ok (.pointer (some ⟨b,0,none⟩)) w:=by simp [go_sem]
theorem AgA(b:Nat)(w:World):(Instr.fieldAt 113 (.pointer (some ⟨b,0,none⟩)) 1).run Tryz.prog w=.ok (.pointer (some ⟨b,1,none⟩)) w:=by simp [go_sem]
theorem AgB(b:Nat)(w:World):(Instr.fieldAt 113 (.pointer (some ⟨b,0,none⟩)) 2).run Tryz.prog w=.ok (.pointer (some ⟨b,2,none⟩)) w:=by simp [go_sem]
theorem AgC(b:Nat)(w:World):(Instr.fieldAt 113 (.pointer (some ⟨b,0,none⟩)) 3).run Tryz.prog w=.ok (.pointer (some ⟨b,3,none⟩)) w:=by simp [go_sem]
theorem Yc{w:World}{b o:Nat}{n:Int}(h:w.cell? ⟨b,o,none⟩=some (.int .u8 n)):(Instr.loadAt 5 (.pointer (some ⟨b,o,none⟩))).run Tryz.prog w=.ok (.int .u8 n) w:=by simp [go_sem,h]
theorem tz{w:World}{b o:Nat}{s:Bs}(h:w.cell? ⟨b,o,none⟩=some (S s)):(Instr.loadAt 9 (.pointer (some ⟨b,o,none⟩))).run Tryz.prog w=.ok (S s) w:=by simp [go_sem,h]
theorem Aev(n:Int)(w:World):(Instr.buildSlice 42 1 #[(0,.int .u8 n)]).run Tryz.prog w=.ok (.slice (some ⟨w.heap.size,0,none⟩) 1 1) (w.alloc (.cells #[.int .u8 n] 5)):=by simp [go_sem]
theorem Aex(w:World):(Instr.buildSlice 23 4 #[(0,S []),(1,S [115,97,110,100]),(2,S [97,32,98]),(3,S [49,47,50,32,116,111,32,51])]).run Tryz.prog w=.ok (.slice (some ⟨w.heap.size,0,none⟩) 4 4) (w.alloc (.cells #[S [],S [115,97,110,100],S [97,32,98],S [49,47,50,32,116,111,32,51]] 9)):=by simp [go_sem]
theorem Aew(u s t:Bs)(p:Int)(w:World):(Instr.build 40 #[(0,S u),(1,S s),(2,.int .i64 p),(3,S t)]).run Tryz.prog w=.ok (.agg #[S u,S s,.int .i64 p,S t]) w:=by simp [go_sem]
theorem Afp{w:World}{g:Nat}{y:UInt8}(h:w.cell? ⟨g,0,none⟩=some (.int .u8 (y.toNat:Nat))):(convert 42 9 (.slice (some ⟨g,0,none⟩) 1 1)).run Tryz.prog w=.ok (S [y]) w:=
 run_convert_bytes_back (P:=Tryz.prog) w 42 9 5 ⟨g,0,none⟩ 1 [y] Tryz.underlying42 Tryz.underlying5 Tryz.underlying9 (by
  intro j hj;have:j=0:=(by simpa using hj);subst this;rw [Addr.add_lit]
  exact h)
theorem Afo(k:Nat)(h:k<5)(w:World):(convert 5 3 (.int .u8 (k:Nat))).run Tryz.prog w=.ok (.int .i64 (k:Nat)) w:=by
 have h1:IntKind.wrap .i64 (k:Int)=k:=Asg _ (by omega);simp [go_sem,h1]
theorem YC(n k:Nat)(q:Nat)(hq:q<256)(hk:k=n%q)(AW:0<q):((n:Int).tmod (q:Int))=(k:Int)/\IntKind.wrap .u8 (k:Int)=(k:Int):=by
 have h0:k<q:=(by rw [hk];exact Nat.mod_lt _ AW);refine⟨by rw [Int.tmod_eq_emod_of_nonneg (by omega),hk];exact(Int.natCast_emod n q).symm,?_⟩;simp [IntKind.wrap,IntKind.bits,IntKind.signed];omega
theorem Anj(n k:Nat)(hk:k=n%12)(x y:Operand)(w:World):((do eqGuard .rem 5 x y (.int .u8 (n:Nat)) (.int .u8 12);binOp .rem 5 (.int .u8 (n:Nat)) (.int .u8 12)):Sem Value).run Tryz.prog w=.ok (.int .u8 (k:Nat)) w:=by
 obtain⟨h1,-⟩:=YC n k 12 (by omega) hk (by omega);have h1':(n:Int).tmod 12=(k:Int):=h1;simp [go_sem,h1']
theorem Anm(n k:Nat)(hk:k=n%90)(x y:Operand)(w:World):((do eqGuard .rem 5 x y (.int .u8 (n:Nat)) (.int .u8 90);binOp .rem 5 (.int .u8 (n:Nat)) (.int .u8 90)):Sem Value).run Tryz.prog w=.ok (.int .u8 (k:Nat)) w:=by
 obtain⟨h1,-⟩:=YC n k 90 (by omega) hk (by omega);have h1':(n:Int).tmod 90=(k:Int):=h1;simp [go_sem,h1']
theorem Anl(n k:Nat)(hk:k=n%5)(x y:Operand)(w:World):((do eqGuard .rem 5 x y (.int .u8 (n:Nat)) (.int .u8 5);binOp .rem 5 (.int .u8 (n:Nat)) (.int .u8 5)):Sem Value).run Tryz.prog w=.ok (.int .u8 (k:Nat)) w:=by
 obtain⟨h1,-⟩:=YC n k 5 (by omega) hk (by omega);have h1':(n:Int).tmod 5=(k:Int):=h1;simp [go_sem,h1']
theorem Ank(n k:Nat)(hk:k=n%4)(x y:Operand)(w:World):((do eqGuard .rem 5 x y (.int .u8 (n:Nat)) (.int .u8 4);binOp .rem 5 (.int .u8 (n:Nat)) (.int .u8 4)):Sem Value).run Tryz.prog w=.ok (.int .u8 (k:Nat)) w:=by
 obtain⟨h1,-⟩:=YC n k 4 (by omega) hk (by omega);have h1':(n:Int).tmod 4=(k:Int):=h1;simp [go_sem,h1']
theorem Ad1(k:Nat)(y:UInt8)(hk:k<90)(hy:(y.toNat:Int)=33+(k:Int))(p q:Operand)(w:World):((do eqGuard .add 5 p q (.int .u8 33) (.int .u8 (k:Nat));binOp .add 5 (.int .u8 33) (.int .u8 (k:Nat))):Sem Value).run Tryz.prog w=.ok (.int .u8 (y.toNat:Nat)) w:=by
 have h2:IntKind.wrap .u8 (33+(k:Int))=(y.toNat:Int):=(by rw [hy];simp [IntKind.wrap,IntKind.bits,IntKind.signed];omega);simp [go_sem,h2]
theorem Ad0(k:Nat)(hk:k<5)(p q:Operand)(w:World):((do eqGuard .add 3 p q (.int .i64 1) (.int .i64 (k:Nat));binOp .add 3 (.int .i64 1) (.int .i64 (k:Nat))):Sem Value).run Tryz.prog w=.ok (.int .i64 (1+(k:Int))) w:=by
 have h2:IntKind.wrap .i64 (1+(k:Int))=1+(k:Int):=Asg _ (by omega);simp [go_sem,h2]
theorem qw(g k n:Nat)(hk:k<n)(w:World):(Instr.indexAt 23 (.slice (some ⟨g,0,none⟩) n n) (.int .u8 (k:Nat))).run Tryz.prog w=.ok (.pointer (some ⟨g,k,none⟩)) w:=by
 have h0:(0:Int)<=(k:Int):=(by omega);have h1:(k:Int)<(n:Int):=(by omega);simp [go_sem,hk]
theorem RN{P:Program}{o:Oper}{a:Act}{w w':World}{v:Value}{K:Act→World→Prop}{Q:Exit→Act→World→Prop}{op:BinOp}{t t2:TypeId}{x y:Operand}{D:Option Nat}(p:.binOp op t x y t2=o.op)(d:D=o.dst)(h:((do eqGuard op t x y (a.eval x) (a.eval y);binOp op t (a.eval x) (a.eval y)):Sem Value).run P w=.ok v w')(hk:K (a.put D v) w'):o.wp P a w K Q:=
 Hk (do eqGuard op t x y (a.eval x) (a.eval y);binOp op t (a.eval x) (a.eval y)) (by unfold execOp;rw [←p]) h (d▸hk)
theorem AbM{P:Program}{o:Oper}{a:Act}{w w':World}{v:Value}{K:Act→World→Prop}{Q:Exit→Act→World→Prop}{t:TypeId}{x y:Operand}{D:Option Nat}(p:.indexAddr t x y=o.op)(d:D=o.dst)(h:(Instr.indexAt t (a.eval x) (a.eval y)).run P w=.ok v w')(hk:K (a.put D v) w'):o.wp P a w K Q:=
 Hk (Instr.indexAt t (a.eval x) (a.eval y)) (by unfold execOp;rw [←p]) h (d▸hk)
theorem Aoz{w:World}{g:Nat}{u s t:Bs}{p:Int}(h:w.heap[g]?=some (.cells #[S [],S [],.int .i64 0,S []] 40))(B:Nat)(hB:B<=g) :
  ∃W2,(Instr.storeAt 40 (.pointer (some ⟨g,0,none⟩)) (.agg #[S u,S s,.int .i64 p,S t])).run Tryz.prog w=.ok () W2/\W2.heap[g]?=some (.cells #[S u,S s,.int .i64 p,S t] 40)/\∀w0,Aa w0 w→w0.heap.size<=B→Aa w0 W2:=by
 have h0:=Ab (o:=0) h rfl;have h1:=Ab (o:=1) h rfl;have h2:=Ab (o:=2) h rfl;have h3:=Ab (o:=3) h rfl;have z0:=AB (o:=0) h;have z1:=AB (o:=1) h;have z2:=AB (o:=2) h;have z3:=AB (o:=3) h;refine⟨(((w.setCell ⟨g,0,none⟩ (S u)).setCell ⟨g,1,none⟩ (S s)).setCell ⟨g,2,none⟩ (.int .i64 p)).setCell ⟨g,3,none⟩ (S t),by simp [go_sem,h0,h1,h2,h3,z0,z1,z2,z3],?_,fun w0 hx h0=>?_⟩
 ·simp only [World.setCell,Array.getElem?_modify,h];simp
 ·have hg:w0.heap.size<=g:=(by omega);exact(((hx.setCell (p:=⟨g,0,none⟩) hg _).setCell (p:=⟨g,1,none⟩) hg _).setCell (p:=⟨g,2,none⟩) hg _).setCell (p:=⟨g,3,none⟩) hg _
theorem Ang{X:CM}(ok:X.Ok){V:World}(hb:V.heap[X.bx]?=some (.cells #[.int .u8 (X.x.u.toNat:Nat),.int .u8 (X.x.s.toNat:Nat),.int .u8 (X.x.p.toNat:Nat),.int .u8 (X.x.t.toNat:Nat)] 113))
  {a0:Act} {ops:Array Oper} (hop:ops.toList.map (fun o=>(o.op,o.dst))=Y0) (AZ:bN ops SQ=true) (zQ:V9 ops=true) (hz:51<=a0.tmps.size) (e5:a0.eval (.tmp 5)=.pointer (some ⟨X.bx,0,none⟩)) {id:Nat} {Q:Exit→Act→World→Prop}
  (hend:∀(u:Nat→Value) (g:Nat) w,w.heap[g]?=some (.cells #[S X.nm,S [X.sy],.int .i64 (1+(X.kp:Int)),S X.tx] 40)→Aa V w→
   Q .normal ⟨(a0.tmps.toList.take 6++(.pointer (some ⟨g,0,none⟩)::((a0.tmps.toList.drop 7).take 10++((List.range 24).map u++a0.tmps.toList.drop 41)))).toArray,a0.defers⟩ w) :
  (Code.region id ops true).wp Tryz.prog Q a0 V:=by
 have eg:Enters Tryz.prog 65:=enters_of Tryz.func65 (by kernel_rfl) rfl
 have AiV:ops.size=26:=by
  have:=congrArg List.length hop
  simpa [Y0]using this
 refine Zd (JM X V a0 ops) (by kernel_rfl) (fun i o ho=>(PV zQ i o ho).2) (fun i o ho=>(PV zQ i o ho).1) ?_ ?_ ?_
 ·refine⟨DO.refl _ _,?_,fun _=>(Aa.refl V).drew,?_,?_⟩
  ·intro j k _ h;rw [getD_replicate_false]at h;cases h
  ·intro _ i _ h;rw [getD_replicate_false]at h;cases h
  ·intro h;rw [getD_replicate_false]at h;cases h
 ·intro l a w i o hJ hs Az ho hd;rw [AiV]at hs;have hi:i<26:=(by have:=(Array.getElem?_eq_some_iff.1 ho).1;omega);have hL:=mH hop ho;have GO:=KR hd
  have dep:∀j k,SQ.contains (j,k)=true→j=i→l.getD k false=true:=by rintro j k hjk rfl;have h1:=List.all_eq_true.1 AZ (j,k) (by simpa using hjk);rw [ho]at h1;exact GO k h1
  have dp:∀k,SQ.contains (i,k)=true→l.getD k false=true:=fun k hk=>dep i k hk rfl;have E5:a.eval (.tmp 5)=.pointer (some ⟨X.bx,0,none⟩):=(by rw [hJ.fr.eval (by omega)];exact e5);by_cases iw:i<25
  ·have n25:=hJ.not25 iw Az;have hE:=hJ.ext n25;have Co:=(hE.block _ (ArX hb)).trans hb;have c0:=Ab (o:=0) Co rfl;have c1:=Ab (o:=1) Co rfl;have c2:=Ab (o:=2) Co rfl;have c3:=Ab (o:=3) Co rfl;have F:=fun k (hk:k<25) (hl:l.getD k false=true)=>hJ.fc n25 k hk hl;have fin:∀v w',Aa w w'→PC X V.heap.size w' i v→JM X V a0 ops (l.setIfInBounds i true) (a.put (some (IT i)) v) w':=fun v w' hx hf=>hJ.put hs hz iw Az dp hx hf;have b1:X.ku<12:=(by have:=ok.u;omega);have b2:X.ks<90:=(by have:=ok.s;omega);have b3:X.kp<5:=(by have:=ok.p;omega);have b4:X.kt<4:=by have:=ok.t;omega
   rcases(by omega:i=0∨i=1∨i=2∨i=3∨i=4∨i=5∨i=6∨i=7∨i=8∨i=9∨i=10∨i=11∨i=12∨i=13∨i=14∨i=15∨i=16∨i=17∨i=18∨i=19∨i=20∨i=21∨i=22∨i=23∨i=24)with rfl|rfl|rfl|rfl|rfl|rfl|rfl|rfl|rfl|rfl|rfl|rfl|rfl|rfl|rfl|rfl|rfl|rfl|rfl|rfl|rfl|rfl|rfl|rfl|rfl
   all_goals
    simp only [Y0,List.getElem?_cons_zero,List.getElem?_cons_succ,Ase,Prod.mk.injEq]at hL;obtain⟨p,d⟩:=hL
   ·refine Ap1 p.symm eg (Ald X.ku b1 w) ?_;rintro e w'' ⟨g,rfl,h1,-,h2⟩;refine⟨_,rfl,?_⟩;rw [←d];exact fin _ _ h2 ⟨g,rfl,by rw [ok.n];exact h1⟩
   ·refine Il p d (by rw [E5];exact Ag9 _ _) ?_;exact fin _ _ (Aa.refl w) rfl
   ·have s1:=F 1 (by omega) (dep 2 1 (by decide) rfl);replace s1:a.eval (.tmp 18)=_:=s1;refine FH p d (by rw [s1];exact Yc c0) ?_;exact fin _ _ (Aa.refl w) rfl
   ·have s2:=F 2 (by omega) (dep 3 2 (by decide) rfl);replace s2:a.eval (.tmp 19)=_:=s2;refine RN p d (by rw [s2];exact Anj _ _ ok.u _ _ w) ?_;exact fin _ _ (Aa.refl w) rfl
   ·obtain⟨g,s0,g0⟩:=F 0 (by omega) (dep 4 0 (by decide) rfl);replace s0:a.eval (.tmp 17)=_:=s0;have s3:=F 3 (by omega) (dep 4 3 (by decide) rfl);replace s3:a.eval (.tmp 20)=_:=s3;refine AbM p d (by rw [s0,s3];exact qw _ _ 12 b1 w) ?_;exact fin _ _ (Aa.refl w) ⟨g,rfl,g0⟩
   ·obtain⟨g,s4,g4⟩:=F 4 (by omega) (dep 5 4 (by decide) rfl);replace s4:a.eval (.tmp 21)=_:=s4;refine FH p d (by rw [s4];exact tz g4) ?_;exact fin _ _ (Aa.refl w) rfl
   ·refine Il p d (by rw [E5];exact AgA _ _) ?_;exact fin _ _ (Aa.refl w) rfl
   ·have s6:=F 6 (by omega) (dep 7 6 (by decide) rfl);replace s6:a.eval (.tmp 23)=_:=s6;refine FH p d (by rw [s6];exact Yc c1) ?_;exact fin _ _ (Aa.refl w) rfl
   ·have s7:=F 7 (by omega) (dep 8 7 (by decide) rfl);replace s7:a.eval (.tmp 24)=_:=s7;refine RN p d (by rw [s7];exact Anm _ _ ok.s _ _ w) ?_;exact fin _ _ (Aa.refl w) rfl
   ·have s8:=F 8 (by omega) (dep 9 8 (by decide) rfl);replace s8:a.eval (.tmp 25)=_:=s8;refine RN p d (by rw [s8];exact Ad1 _ _ b2 ok.y _ _ w) ?_;exact fin _ _ (Aa.refl w) rfl
   ·have s9:=F 9 (by omega) (dep 10 9 (by decide) rfl);replace s9:a.eval (.tmp 26)=_:=s9;refine Hk (Instr.buildSlice 42 1 #[(0,.int .u8 (X.sy.toNat:Nat))]) (by unfold execOp;rw [←p];simp [s9]) (Aev _ w) ?_;rw [←d];exact fin _ _ ((Aa.refl w).alloc _) ⟨w.heap.size,rfl,Ab (ArY w _) rfl⟩
   ·obtain⟨g,Py,g10⟩:=F 10 (by omega) (dep 11 10 (by decide) rfl);replace Py:a.eval (.tmp 27)=_:=Py;refine Hk (convert 42 9 (.slice (some ⟨g,0,none⟩) 1 1)) (by unfold execOp;rw [←p];simp [Py]) (Afp g10) ?_;rw [←d];exact fin _ _ (Aa.refl w) rfl
   ·refine Il p d (by rw [E5];exact AgB _ _) ?_;exact fin _ _ (Aa.refl w) rfl
   ·have s12:=F 12 (by omega) (dep 13 12 (by decide) rfl);replace s12:a.eval (.tmp 29)=_:=s12;refine FH p d (by rw [s12];exact Yc c2) ?_;exact fin _ _ (Aa.refl w) rfl
   ·have nL:=F 13 (by omega) (dep 14 13 (by decide) rfl);replace nL:a.eval (.tmp 30)=_:=nL;refine RN p d (by rw [nL];exact Anl _ _ ok.p _ _ w) ?_;exact fin _ _ (Aa.refl w) rfl
   ·have nM:=F 14 (by omega) (dep 15 14 (by decide) rfl);replace nM:a.eval (.tmp 31)=_:=nM;refine Hk (convert 5 3 (.int .u8 (X.kp:Nat))) (by unfold execOp;rw [←p];simp [nM]) (Afo _ b3 w) ?_;rw [←d];exact fin _ _ (Aa.refl w) rfl
   ·have P0:=F 15 (by omega) (dep 16 15 (by decide) rfl);replace P0:a.eval (.tmp 32)=_:=P0;refine RN p d (by rw [P0];exact Ad0 _ b3 _ _ w) ?_;exact fin _ _ (Aa.refl w) rfl
   ·refine Hk (Instr.buildSlice 23 4 #[(0,S []),(1,S [115,97,110,100]),(2,S [97,32,98]),(3,S [49,47,50,32,116,111,32,51])]) (by unfold execOp;rw [←p];simp [Act.eval]) (Aex w) ?_;rw [←d];exact fin _ _ ((Aa.refl w).alloc _) ⟨w.heap.size,rfl,Ab (ArY w _) (by rw [ok.x'];exact AoK _ b4)⟩
   ·refine Il p d (by rw [E5];exact AgC _ _) ?_;exact fin _ _ (Aa.refl w) rfl
   ·have nO:=F 18 (by omega) (dep 19 18 (by decide) rfl);replace nO:a.eval (.tmp 35)=_:=nO;refine FH p d (by rw [nO];exact Yc c3) ?_;exact fin _ _ (Aa.refl w) rfl
   ·have nP:=F 19 (by omega) (dep 20 19 (by decide) rfl);replace nP:a.eval (.tmp 36)=_:=nP;refine RN p d (by rw [nP];exact Ank _ _ ok.t _ _ w) ?_;exact fin _ _ (Aa.refl w) rfl
   ·obtain⟨g,nN,g17⟩:=F 17 (by omega) (dep 21 17 (by decide) rfl);replace nN:a.eval (.tmp 34)=_:=nN;have nQ:=F 20 (by omega) (dep 21 20 (by decide) rfl);replace nQ:a.eval (.tmp 37)=_:=nQ;refine AbM p d (by rw [nN,nQ];exact qw _ _ 4 b4 w) ?_;exact fin _ _ (Aa.refl w) ⟨g,rfl,g17⟩
   ·obtain⟨g,nR,g21⟩:=F 21 (by omega) (dep 22 21 (by decide) rfl);replace nR:a.eval (.tmp 38)=_:=nR;refine FH p d (by rw [nR];exact tz g21) ?_;exact fin _ _ (Aa.refl w) rfl
   ·have s5:=F 5 (by omega) (dep 23 5 (by decide) rfl);replace s5:a.eval (.tmp 22)=_:=s5;have nK:=F 11 (by omega) (dep 23 11 (by decide) rfl);replace nK:a.eval (.tmp 28)=_:=nK;have P1:=F 16 (by omega) (dep 23 16 (by decide) rfl);replace P1:a.eval (.tmp 33)=_:=P1;have nS:=F 22 (by omega) (dep 23 22 (by decide) rfl);replace nS:a.eval (.tmp 39)=_:=nS;refine Hk (Instr.build 40 #[(0,S X.nm),(1,S [X.sy]),(2,.int .i64 (1+(X.kp:Int))),(3,S X.tx)]) (by unfold execOp;rw [←p];simp [s5,nK,P1,nS]) (Aew _ _ _ _ w) ?_;rw [←d];exact fin _ _ (Aa.refl w) rfl
   ·obtain⟨i0,GR,hz0,-,-⟩:=info_parts Tryz.infoEn;refine AbG p.symm GR hz0 ?_;rw [←d];exact fin _ _ ((Aa.refl w).alloc _) ⟨w.heap.size,rfl,ArY w _,hE.size⟩
  ·obtain rfl:i=25:=(by omega);simp only [Y0,List.getElem?_cons_zero,List.getElem?_cons_succ,Ase,Prod.mk.injEq]at hL;obtain⟨p,d⟩:=hL;have hE:=hJ.ext Az;have s23:a.eval (.tmp 40)=_:=hJ.fc Az 23 (by omega) (dep 25 23 (by decide) rfl);obtain⟨g,YI,h24,hg⟩:=hJ.fc Az 24 (by omega) (dep 25 24 (by decide) rfl);replace YI:a.eval (.tmp 6)=_:=YI;have hst:=Aoz (u:=X.nm) (s:=[X.sy]) (p:=1+(X.kp:Int)) (t:=X.tx) h24;obtain⟨W2,Aja,Ajb,Ajc⟩:=hst V.heap.size hg
   have hrun:(execOp a.eval o).run Tryz.prog w=.ok .skip W2:=by unfold execOp;rw [←p];show (do Instr.storeAt 40 (a.eval (.tmp 6)) (a.eval (.tmp 40));pure Next.skip:Sem Next).run Tryz.prog w=_;rw [YI,s23];simp [Aja]
   unfold Oper.wp;rw [hrun,Oper.upon_skip,←d];show JM X V a0 ops (l.setIfInBounds 25 true) a W2;have t25:(l.setIfInBounds 25 true).getD 25 false=true:=EU (by omega);refine⟨hJ.fr,?_,fun e=>(by rw [t25]at e;cases e),fun e=>(by rw [t25]at e;cases e),fun _=>⟨g,YI,Ajb,Ajc V hE (ArZ _)⟩⟩;intro j k hjk hj
   have hk:l.getD k false=true:=by
    by_cases e:25=j
    ·subst e;exact dp k hjk
    ·rw [getD_set_ne false e]at hj;exact hJ.cl j k hjk hj
   by_cases e:25=k
   ·subst e;exact t25
   ·rw [getD_set_ne false e];exact hk
 ·intro l a w hJ hall;obtain⟨g,h1,h2,h3⟩:=hJ.fin (hall 25 (by omega))
  have Ua:a=⟨(a0.tmps.toList.take 6++(.pointer (some ⟨g,0,none⟩)::((a0.tmps.toList.drop 7).take 10++((List.range 24).map (fun k=>a.eval (.tmp (17+k)))++a0.tmps.toList.drop 41)))).toArray,a0.defers⟩:=by
   refine ZU ?_ ?_ hJ.fr.defers
   ·rw [hJ.fr.size];simp only [List.length_append,List.length_take,List.length_cons,List.length_map,List.length_range,List.length_drop,Array.length_toList];omega
   ·intro e he;simp only [List.length_append,List.length_take,List.length_cons,List.length_map,List.length_range,List.length_drop,Array.length_toList]at he;have hlt:e<a0.tmps.size:=by omega
    have out:¬(e=6∨(17<=e/\e<=40))→a.eval (.tmp e)=a0.tmps.toList[e]'(by simpa using hlt):=fun h=>by rw [hJ.fr.eval h];simp [Act.eval,Array.getD_eq_getD_getElem?,Array.getElem?_eq_getElem hlt]
    by_cases c1:e<6
    ·rw [List.getElem_append_left (by simp;omega),List.getElem_take];exact out (by omega)
    rw [List.getElem_append_right (by simp;omega)];simp only [List.length_take,Array.length_toList,Nat.min_eq_left (show 6<=a0.tmps.size by omega)];by_cases c2:e=6
    ·subst c2;exact h1
    obtain⟨f,hf⟩:∃f,e=f+7:=⟨e-7,by omega⟩;subst hf;have e1:f+7-6=f+1:=(by omega);simp only [e1,List.getElem_cons_succ];by_cases c3:f<10
    ·rw [List.getElem_append_left (by simp;omega),List.getElem_take,List.getElem_drop];rw [out (by omega)]
     congr 1;omega
    rw [List.getElem_append_right (by simp;omega)];have e2:((a0.tmps.toList.drop 7).take 10).length=10:=(by simp;omega);simp only [e2];by_cases c4:f<34
    ·rw [List.getElem_append_left (by simp;omega)];simp only [List.getElem_map,List.getElem_range];rw [show 17+(f-10)=f+7 by omega]
    rw [List.getElem_append_right (by simp;omega)];simp only [List.length_map,List.length_range,List.getElem_drop];rw [out (by omega)]
    congr 1
    omega
  rw [Ua];exact hend _ g w h2 h3
end Go.Proofs.YtbejphgbbpplbaaGreatDoor
namespace Go.Proofs.YtbejphgbbpplbaaGreatDoor
open Go.RowKit Kl
theorem An6{P:Program}{w:World}(ts:Array TypeId)(t:TypeId)(k:IntKind)(a b:Int):(Builtin.min_ ts t #[.int k a,.int k b]).run P w=.ok (.int k (min a b)) w:=by
 have m:∀x y:Int,(if y<x then y else x)=min x y:=(by intro x y;split<;>omega);simp only [Builtin.min_,List.foldlM_cons,List.foldlM_nil,Builtin.min2];simp [m]
def rK(l:List En)(w:World)(e:Ending)(w':World):Prop:=∃A c,e=.returned (.slice A l.length c)/\Ae w' A (AN l)/\l.length<=c/\c<=9223372036854775807/\Aa w w'
theorem AkF(d:List Dr)(A:Option Addr)(c:Nat)(w:World)(hr:Ae w A (Hu d))(hc:d.length<=c)(hcm:c<=9223372036854775807) :
  Calls Tryz.prog 24 #[.slice A d.length c] w (rK (IJ d) w):=by
 have Aar:=@An6 Tryz.prog;have ER:=ArW hr;obtain⟨n,hn⟩:=ArV (min d.length 8);have hmn:min (d.length:Int) 8=(n:Int):=(by rw [hn];omega);have jC:n<=8:=(by omega);have Cr:n<=d.length:=(by omega);have Ara:(n:Int)<=(d.length:Int):=(by omega);have XA:(n:Int)<=(c:Int):=(by omega);have Ef:(0:Int)<=(n:Int):=by omega
 have Si:=ArW (show IJ d=(d.take n).foldl Gc [] by
  unfold IJ
  rw [hn,show d.take 8=d.take (min d.length 8)by by_cases h:8<=d.length;rw [Nat.min_eq_right h];rw [Asi (by omega),Asi (by omega)]])
 have Vi:=ArW Cr;clear hr hn;go_enter Tryz.func24,Tryz.ntmps24
 go_upto_region 3 with fail
 clear hmn Aar
 go_loopw [3,13] (fun ov kv wr=>∃(k:Nat) (l:List En),kv=.int .i64 (k:Nat)/\k<=n/\l=(d.take k).foldl Gc []/\l.length<=k/\wr.ownsRow w.heap.size 40 4 ov l.length (AN l)/\Aa w wr) (fun _ kv _=>n-(intOf kv).toNat)
 case atStart=>exact⟨0,[],rfl,by omega,by simp,by simp,⟨rfl,.inl ⟨rfl,rfl⟩⟩,Aa.refl _⟩
 case round=>
  obtain⟨k,l,rfl,hk,hl,hlk,hown,Ad⟩:=hrel;have HL:=ArW hl;clear hl;by_cases hkn:k<n
  ·have C0:k<d.length:=(by omega);obtain⟨b,o,rfl,hg1,hg2,hg3,hg4⟩:=AmT (ER.out.ext Ad) C0;obtain⟨x,hx⟩:=ArV (d[k]);rw [←hx]at hg1 hg2 hg3 hg4;have HX:=ArW hx;have hk0:(0:Int)<=(k:Int):=(by omega);have BX:(k:Int)<(n:Int):=(by omega);have v1:IntKind.wrap .i64 ((k:Int)+1)=(k:Int)+1:=Asg _ (by omega);have hxb:=ArY wr (.cells #[.int .u8 (x.u.toNat:Nat),.int .u8 (x.s.toNat:Nat),.int .u8 (x.p.toNat:Nat),.int .u8 (x.t.toNat:Nat)] 113);have hx1:=(Aa.refl wr).alloc (.cells #[.int .u8 (x.u.toNat:Nat),.int .u8 (x.s.toNat:Nat),.int .u8 (x.p.toNat:Nat),.int .u8 (x.t.toNat:Nat)] 113);clear hx;have hE:=Ad.trans hx1;have hown1:=Ao hown hx1;have Sm:=ArW hown1;have HE:=ArW hE;obtain⟨oP,oc,rfl⟩:=UE (by omega) hown
   go_upto_region 5 with fail
   generalize wr.alloc (.cells #[.int .u8 (x.u.toNat:Nat),.int .u8 (x.s.toNat:Nat),.int .u8 (x.p.toNat:Nat),.int .u8 (x.t.toNat:Nat)] 113)=V at *;obtain⟨bx,Ap⟩:=ArV wr.heap.size;rw [←Ap]at hxb ⊢;clear Ap hg1 hg2 hg3 hg4 hx1 hown Ad hown1 hE
   go_cut [6] (fun v wx=>∃eb,v=.pointer (some ⟨eb,0,none⟩)/\wx.heap[eb]?=some (.cells #[S (F6 x).u,S (F6 x).s,.int .i64 (F6 x).p,S (F6 x).t] 40)/\Aa V wx)
   case first=>
    obtain⟨sy,Ig⟩:=ArV (33+x.s%90:UInt8)
    have Ajf:(sy.toNat:Int)=33+((x.s.toNat%90:Nat):Int):=by have h1:(x.s%90).toNat=x.s.toNat%90:=(by rw [UInt8.toNat_mod];rfl);have h2:x.s.toNat%90<90:=Nat.mod_lt _ (by decide);rw [Ig,UInt8.toNat_add,h1];show (((33+x.s.toNat%90)%256:Nat):Int)=_;omega
    have HME:=ArW (show F6 x=⟨NI.getD (x.u.toNat%12) [],[sy],1+((x.p.toNat%5:Nat):Int),P4.getD (x.t.toNat%4) []⟩by rw [Ig];rfl);refine Ang (X:=⟨x,bx,x.u.toNat%12,x.s.toNat%90,x.p.toNat%5,x.t.toNat%4,sy,NI.getD (x.u.toNat%12) [],P4.getD (x.t.toNat%4) []⟩) ⟨rfl,rfl,rfl,rfl,Ajf,rfl,rfl⟩ hxb rfl (by kernel_rfl) (by kernel_rfl) (by simp) rfl ?_;intro uu g w9 h9 Ff;simp only [List.take_succ_cons,List.take_zero,List.drop_succ_cons,List.drop_zero,List.cons_append,List.nil_append,show List.range 24 = [0,1,2,3,4,5,6,7,8,9,10,11,12,13,14,15,16,17,18,19,20,21,22,23] from rfl,List.map_cons,List.map_nil];go_wp2;go_meet;exact⟨g,rfl,by rw [HME.out];exact h9,Ff⟩
   case rest=>
    obtain⟨eb,rfl,Xe,hx2⟩:=hcut;have hX:=HE.out.trans hx2;have hown2:=Ao Sm.out hx2
    have an:=sM (cb:=#[.pointer (some ⟨eb,0,none⟩)]) AfX (fun y=>y.u == (F6 x).u||y.s == (F6 x).s) l oP oc wc (by
     obtain⟨A',c',e',r',-,-⟩:=Ae.of_own' (by omega) hown2
     cases e';exact r') (by
     obtain⟨A',c',e',-,r',-⟩:=Ae.of_own' (by omega) hown2
     cases e';exact r') (by
     obtain⟨A',c',e',-,-,r'⟩:=Ae.of_own' (by omega) hown2
     cases e';exact r') (fun y _ W hx=>AkD y (F6 x) eb W ((hx.block _ (ArX Xe)).trans Xe))
    have hstep:(d.take (k+1)).foldl Gc []=Gc l x:=by rw [Asd C0,List.foldl_append,←HL.out,←HX.out];rfl
    have HST:=ArW hstep;have pT:=ArW Xe;have hb2:=hX.size;clear hstep Xe hxb
    cases h1:l.any (fun y=>y.u == (F6 x).u||y.s == (F6 x).s)
    ·rw [h1]at an;have HN:=ArW (show Gc l x=l ++ [F6 x] by unfold Gc;rw [if_neg (by rw [h1];simp)]);clear h1;(go_wp2_with fail);(with_reducible refine an.mono ?_);rintro e w3 ⟨rfl,hx3⟩;have CQ:=Ao hown2 hx3;have TK:=(hx3.block _ (ArX pT.out)).trans pT.out;have X3:=hX.trans hx3;have q1:=Ab (o:=0) TK rfl;have q2:=Ab (o:=1) TK rfl;have q3:=Ab (o:=2) TK rfl;have q4:=Ab (o:=3) TK rfl
     go_wp2_with (at_builtin;go_loud (refine sP rfl _ _ rfl _ w.heap.size (.slice oP l.length oc) l.length l rfl (Ao CQ ((Aa.refl w3).alloc _)) (by omega) (F6 x) w3.heap.size (ArY _ _) rfl (Asl X3.size ((Aa.refl w3).alloc _).size) ?_);intro v9 w9 Bc Bu)
     have hnew:=Bu w (X3.trans ((Aa.refl w3).alloc _)) (ArZ _);have AP:=ArW (And.intro Bc hnew);clear Bc hnew Bu q1 q2 q3 q4 TK CQ;go_wp2;go_roundw
     case rel=>exact⟨k+1,l ++ [F6 x],by go_num,hkn,by rw [HST.out,HN.out],by simp;omega,by rw [List.length_append];exact AP.out.1,AP.out.2⟩
     case measure=>simp [intOf];omega
    ·rw [h1]at an;have HN:=ArW (show Gc l x=l by unfold Gc;rw [if_pos h1]);clear h1;(go_wp2_with fail);(with_reducible refine an.mono ?_);rintro e w3 ⟨rfl,hx3⟩;have CQ:=Ao hown2 hx3;have X3:=hX.trans hx3;go_wp2;go_roundw
     case rel=>exact⟨k+1,l,by go_num,hkn,by rw [HST.out,HN.out],by omega,CQ,X3⟩
     case measure=>simp [intOf];omega
  ·have Bf:k=n:=(by omega);subst Bf;obtain⟨A9,c9,rfl,r9,s9,t9⟩:=Ae.of_own' (by omega) hown;have ID:l=IJ d:=by rw [HL.out,Si.out]
   have Ay:rK (IJ d) w (.returned (.slice A9 l.length c9)) wr:=by rw [←ID];exact⟨A9,c9,rfl,r9,s9,t9,Ad⟩
   have HF:=ArW Ay;clear Ay r9 hown ID;go_wp2;go_ret;exact HF.out
section
open Go.Shelf
def Pj:Value→Bool
 | .slice ..=>true
 | _=>false
theorem wK(l:List En):∀v∈AN l,Pj v=false:=by
 intro x hx;unfold AN at hx;rw [List.mem_flatMap]at hx;obtain⟨e,-,hx⟩:=hx;simp only [List.mem_cons,Asm,or_false]at hx
 rcases hx with rfl|rfl|rfl|rfl<;>rfl
theorem Alo{cs:List Value}(h:∀v∈cs,Pj v=false):∀v∈cs,v≠.slice none 0 0:=by
 intro v hv e;have:=h v hv;rw [e]at this
 cases this
def U7:Array Value:=#[.slice none 0 0,.slice none 0 0,.slice none 0 0]
def K2(A B F:Option Addr)(m:Bz)(c d g:Nat):Array Value:=#[.slice A m.pts.length c,.slice B m.eds.length d,.slice F m.nf g]
def KE(d:Nat):Prop:=d=7∨d=8∨d=25∨d=26∨d=27∨d=28
def Mf(b:Nat):Value:=.pointer (some ⟨b,0,none⟩)
theorem Aad{a b:Nat}(h:Mf a=Mf b):a=b:=by
 unfold Mf at h
 simpa using h
def PN(A B F:Option Addr)(ca cb cf n:Nat)(units:List Bs)(m:Bz)(fa:List Bs)(w:World):Prop:=n<=18/\MapAt w n units A B F ca cb cf m fa/\∀u∈units,∃k:Nat,u=Bi k
structure JE(l:List En)(dv pv:Value)(a0:Act)(W:World)(l0 l1 l2 l3 l4 l5 l6:Bool)(a:Act)(w:World):Prop where
 fr:DO KE a0 a
 ext:Aa W w
 s0:l0=true→a.eval (.tmp 25)=dv
 s1:l1=true→∃A c,a.eval (.tmp 26)=.slice A l.length c/\Ae w A (AN l)/\l.length<=c/\c<=9223372036854775807
 s2:l2=true→a.eval (.tmp 27)=pv
 c5:l5=true→l1=true
 c6:l6=true→l3=true/\l4=true
 s3:l3=true→∃A B F ca cb cf n units m fa,a.eval (.tmp 28)=Bv A B F m ca cb cf/\PN A B F ca cb cf n units m fa w/\(l6=true→∀b,a.eval (.tmp 8)=Mf b→w.heap[b]?=some (.cells (K2 A B F m ca cb cf) 36))
 s4:l4=true→∃b,a.eval (.tmp 8)=Mf b/\W.heap.size<=b/\∃cs,w.heap[b]?=some (.cells cs 36)/\(l6=false→cs=U7)
 s5:l5=true→a.eval (.tmp 7)=a.eval (.tmp 26)
section
variable {l : List En} {dv pv : Value} {a0 : Act} {W : World} {l0 l1 l2 l3 l4 l5 l6 : Bool} {a : Act} {w : World}
theorem JE.sz(h:JE l dv pv a0 W l0 l1 l2 l3 l4 l5 l6 a w)(hs:28<a0.tmps.size){d:Nat}(hd:d<=28):d<a.tmps.size:=by rw [h.fr.size];omega
theorem PN.ext{A B F:Option Addr}{ca cb cf n:Nat}{units:List Bs}{m:Bz}{fa:List Bs}{w':World}(h:PN A B F ca cb cf n units m fa w)(hx:Aa w w'):PN A B F ca cb cf n units m fa w':=⟨h.1,h.2.1.ext hx,h.2.2⟩
theorem JE.grow(h:JE l dv pv a0 W l0 l1 l2 l3 l4 l5 l6 a w){w':World}(hx:Aa w w'):JE l dv pv a0 W l0 l1 l2 l3 l4 l5 l6 a w':=by
 refine⟨h.fr,h.ext.trans hx,h.s0,fun e=>?_,h.s2,h.c5,h.c6,fun e=>?_,fun e=>?_,h.s5⟩
 ·obtain⟨A,c,h1,h2,h3⟩:=h.s1 e;exact⟨A,c,h1,h2.ext hx,h3⟩
 ·obtain⟨A,B,F,ca,cb,cf,n,units,m,fa,h1,h2,h3⟩:=h.s3 e;exact⟨A,B,F,ca,cb,cf,n,units,m,fa,h1,h2.ext hx,fun e6 b hb=>(hx.block _ (ArX (h3 e6 b hb))).trans (h3 e6 b hb)⟩
 ·obtain⟨b,h1,h2,cs,h3,h4⟩:=h.s4 e;exact⟨b,h1,h2,cs,(hx.block _ (ArX h3)).trans h3,h4⟩
theorem JE.t0(h:JE l dv pv a0 W l0 l1 l2 l3 l4 l5 l6 a w)(hs:28<a0.tmps.size):JE l dv pv a0 W true l1 l2 l3 l4 l5 l6 (a.put (some 25) dv) w:=by
 refine⟨h.fr.put (by unfold KE;omega) _,h.ext,fun _=>eval_put_same (h.sz hs (by omega)),?_,?_,h.c5,h.c6,?_,?_,?_⟩
 ·rw [BC _ (by omega)];exact h.s1
 ·rw [BC _ (by omega)];exact h.s2
 ·rw [BC _ (by omega),BC _ (by omega)];exact h.s3
 ·rw [BC _ (by omega)];exact h.s4
 ·rw [BC _ (by omega),BC _ (by omega)];exact h.s5
theorem JE.t1(h:JE l dv pv a0 W l0 false l2 l3 l4 l5 l6 a w)(hs:28<a0.tmps.size){A:Option Addr}{c:Nat}(h1:Ae w A (AN l))(h2:l.length<=c)(h3:c<=9223372036854775807):JE l dv pv a0 W l0 true l2 l3 l4 l5 l6 (a.put (some 26) (.slice A l.length c)) w:=by
 refine⟨h.fr.put (by unfold KE;omega) _,h.ext,?_,fun _=>⟨A,c,eval_put_same (h.sz hs (by omega)),h1,h2,h3⟩,?_,fun _=>rfl,h.c6,?_,?_,fun e=>(by have:=h.c5 e;cases this)⟩
 ·rw [BC _ (by omega)];exact h.s0
 ·rw [BC _ (by omega)];exact h.s2
 ·rw [BC _ (by omega),BC _ (by omega)];exact h.s3
 ·rw [BC _ (by omega)];exact h.s4
theorem JE.t2(h:JE l dv pv a0 W l0 l1 l2 l3 l4 l5 l6 a w)(hs:28<a0.tmps.size):JE l dv pv a0 W l0 l1 true l3 l4 l5 l6 (a.put (some 27) pv) w:=by
 refine⟨h.fr.put (by unfold KE;omega) _,h.ext,?_,?_,fun _=>eval_put_same (h.sz hs (by omega)),h.c5,h.c6,?_,?_,?_⟩
 ·rw [BC _ (by omega)];exact h.s0
 ·rw [BC _ (by omega)];exact h.s1
 ·rw [BC _ (by omega),BC _ (by omega)];exact h.s3
 ·rw [BC _ (by omega)];exact h.s4
 ·rw [BC _ (by omega),BC _ (by omega)];exact h.s5
theorem JE.t3(h:JE l dv pv a0 W l0 l1 l2 false l4 l5 l6 a w)(hs:28<a0.tmps.size){A B F:Option Addr}{ca cb cf n:Nat}{units:List Bs}{m:Bz}{fa:List Bs}(hM:PN A B F ca cb cf n units m fa w):JE l dv pv a0 W l0 l1 l2 true l4 l5 l6 (a.put (some 28) (Bv A B F m ca cb cf)) w:=by
 refine⟨h.fr.put (by unfold KE;omega) _,h.ext,?_,?_,?_,h.c5,fun e=>⟨rfl,(h.c6 e).2⟩,fun _=>⟨A,B,F,ca,cb,cf,n,units,m,fa,eval_put_same (h.sz hs (by omega)),hM,fun e=>(by have:=(h.c6 e).1;cases this)⟩,?_,?_⟩
 ·rw [BC _ (by omega)];exact h.s0
 ·rw [BC _ (by omega)];exact h.s1
 ·rw [BC _ (by omega)];exact h.s2
 ·rw [BC _ (by omega)];exact h.s4
 ·rw [BC _ (by omega),BC _ (by omega)];exact h.s5
theorem JE.t4(h:JE l dv pv a0 W l0 l1 l2 l3 false l5 l6 a w)(hs:28<a0.tmps.size):JE l dv pv a0 W l0 l1 l2 l3 true l5 l6 (a.put (some 8) (Mf w.heap.size)) (w.alloc (.cells U7 36)):=by
 have g:=h.grow ((Aa.refl w).alloc (.cells U7 36))
 have h6:l6=false:=by
  cases e:l6
  ·rfl
  ·have:=(h.c6 e).2;cases this
 subst h6;refine⟨g.fr.put (by unfold KE;omega) _,g.ext,?_,?_,?_,g.c5,(fun e=>by cases e),fun e=>?_,fun _=>⟨w.heap.size,eval_put_same (h.sz hs (by omega)),h.ext.size,U7,ArY w _,fun _=>rfl⟩,?_⟩
 ·rw [BC _ (by omega)];exact g.s0
 ·rw [BC _ (by omega)];exact g.s1
 ·rw [BC _ (by omega)];exact g.s2
 ·obtain⟨A,B,F,ca,cb,cf,n,units,m,fa,h1,h2,-⟩:=g.s3 e;exact⟨A,B,F,ca,cb,cf,n,units,m,fa,(by rw [BC _ (by omega)];exact h1),h2,fun e=>by cases e⟩
 ·rw [BC _ (by omega),BC _ (by omega)];exact g.s5
theorem JE.t5(h:JE l dv pv a0 W l0 true l2 l3 l4 l5 l6 a w)(hs:28<a0.tmps.size):JE l dv pv a0 W l0 true l2 l3 l4 true l6 (a.put (some 7) (a.eval (.tmp 26))) w:=by
 refine⟨h.fr.put (by unfold KE;omega) _,h.ext,?_,?_,?_,fun _=>rfl,h.c6,?_,?_,fun _=>(by rw [eval_put_same (h.sz hs (by omega)),BC _ (by omega)])⟩
 ·rw [BC _ (by omega)];exact h.s0
 ·rw [BC _ (by omega)];exact h.s1
 ·rw [BC _ (by omega)];exact h.s2
 ·rw [BC _ (by omega),BC _ (by omega)];exact h.s3
 ·rw [BC _ (by omega)];exact h.s4
theorem JE.t6(h:JE l dv pv a0 W l0 l1 l2 true true l5 false a w){b:Nat}(hb:a.eval (.tmp 8)=Mf b){A B F:Option Addr}{ca cb cf:Nat}{m:Bz}(hv:a.eval (.tmp 28)=Bv A B F m ca cb cf):JE l dv pv a0 W l0 l1 l2 true true l5 true a (w.setRow b (K2 A B F m ca cb cf)):=by
 obtain⟨b',h1,h2,cs,h3,h4⟩:=h.s4 rfl;obtain rfl:=Aad (h1.symm.trans hb);obtain rfl:=h4 rfl;have Ec:∀q,q≠b'→(w.setRow b' (K2 A B F m ca cb cf)).heap[q]?=w.heap[q]?:=fun q hq=>setRow_other _ _ _ _ hq;refine⟨h.fr,below_setRow h.ext h2 _,h.s0,fun e=>?_,h.s2,h.c5,fun _=>⟨rfl,rfl⟩,fun _=>?_,fun _=>⟨b',hb,h2,_,setRow_heap _ _ _ _ _ _ h3,fun e=>by cases e⟩,h.s5⟩
 ·obtain⟨A2,c,k1,k2,k3⟩:=h.s1 e;exact⟨A2,c,k1,k2.far h3 (Alo (wK l)) Ec,k3⟩
 ·obtain⟨A',B',F',tQ,tX,uA,n,units,m',fa,k1,⟨k2,k3,k4⟩,-⟩:=h.s3 rfl;refine⟨A',B',F',tQ,tX,uA,n,units,m',fa,k1,⟨k2,k3.far h3 Ec,k4⟩,fun _ b8 DF=>?_⟩;obtain rfl:=Aad (h1.symm.trans DF)
  have e2:K2 A B F m ca cb cf=K2 A' B' F' m' tQ tX uA:=by
   have e1:=hv.symm.trans k1;unfold Bv at e1
   simpa [K2]using e1
  rw [e2];exact setRow_heap _ _ _ _ _ _ h3
end
theorem DO.litE{a0 a:Act}(h:DO KE a0 a)(hs:28<a0.tmps.size):a=((((((a0.put (some 7) (a.eval (.tmp 7))).put (some 8) (a.eval (.tmp 8))).put (some 25) (a.eval (.tmp 25))).put (some 26) (a.eval (.tmp 26))).put (some 27) (a.eval (.tmp 27))).put (some 28) (a.eval (.tmp 28))):=by
 have hd:=h.defers
 have ht:a.tmps=((((((a0.put (some 7) (a.eval (.tmp 7))).put (some 8) (a.eval (.tmp 8))).put (some 25) (a.eval (.tmp 25))).put (some 26) (a.eval (.tmp 26))).put (some 27) (a.eval (.tmp 27))).put (some 28) (a.eval (.tmp 28))).tmps:=by
  apply Array.ext_getElem?;intro d
  have hv:∀e:Nat,e<=28→a.tmps[e]?=some (a.eval (.tmp e)):=by intro e he;have hlt:e<a.tmps.size:=(by rw [h.size];omega);simp only [Act.eval,Array.getD_eq_getD_getElem?,Array.getElem?_eq_getElem hlt,Option.getD_some]
  simp only [Act.put,Array.getElem?_setIfInBounds,Array.size_setIfInBounds];by_cases k1:28=d
  ·subst k1;rw [if_pos rfl,if_pos hs];exact hv 28 (by decide)
  by_cases k2:27=d
  ·subst k2;rw [if_neg k1,if_pos rfl,if_pos (by omega)];exact hv 27 (by decide)
  by_cases k3:26=d
  ·subst k3;rw [if_neg k1,if_neg k2,if_pos rfl,if_pos (by omega)];exact hv 26 (by decide)
  by_cases k4:25=d
  ·subst k4;rw [if_neg k1,if_neg k2,if_neg k3,if_pos rfl,if_pos (by omega)];exact hv 25 (by decide)
  by_cases k5:8=d
  ·subst k5;rw [if_neg k1,if_neg k2,if_neg k3,if_neg k4,if_pos rfl,if_pos (by omega)];exact hv 8 (by decide)
  by_cases k6:7=d
  ·subst k6;rw [if_neg k1,if_neg k2,if_neg k3,if_neg k4,if_neg k5,if_pos rfl,if_pos (by omega)];exact hv 7 (by decide)
  rw [if_neg k1,if_neg k2,if_neg k3,if_neg k4,if_neg k5,if_neg k6];exact h.same d (by unfold KE;omega)
 obtain⟨t1,d1⟩:=a;obtain⟨t0,d0⟩:=a0;simp only at hd ht;simp only [Act.put]at ht ⊢;rw [←ht,hd]
def YK(l:List En)(dv pv:Value)(a0:Act)(W:World)(listed:Array Bool)(a:Act)(w:World):Prop:=
 JE l dv pv a0 W (listed.getD 0 false) (listed.getD 1 false) (listed.getD 2 false) (listed.getD 3 false) (listed.getD 4 false) (listed.getD 5 false) (listed.getD 6 false) a w
theorem AkG:(Tryz.prog.info? 36).map (fun i=>(i.zero,i.size,i.bytes))=some (some (.agg U7),3,72):=by kernel_rfl
theorem Anf{id:Nat}{o0 o1 o2 o3 o4 o5 o6:Oper}{a0:Act}{W:World}{Q:Exit→Act→World→Prop}(l:List En)(dv pv:Value)(cs:Array Value)(hpv:pv=.agg cs)(bp:Nat)(AK:W.heap[bp]?=some (.cells cs 51))(hin:(Tryz.prog.info? 51).map (·.size)=some cs.size)
  (mk:∀w,Aa W w→Calls Tryz.prog 24 #[dv] w (fun e w'=>∃A c,e=.returned (.slice A l.length c)/\Ae w' A (AN l)/\l.length<=c/\c<=9223372036854775807/\Aa w w'))
  (mm:∀w,Aa W w→Calls Tryz.prog 14 #[pv] w (rB w))
  (e0:a0.eval (.tmp 0)=dv) (e5:a0.eval (.tmp 5)=Mf bp) (hs:28<a0.tmps.size)
  (p0:o0.op=.move (.tmp 0)) (d0:o0.dst=some 25)
  (p1:o1.op=.call {callee:=.value (.func 24),args:=#[.tmp 25],argTypes:=#[65]}) (d1:o1.dst=some 26) (x1:(waits o1).contains 0=true)
  (p2:o2.op=.load 51 (.tmp 5)) (d2:o2.dst=some 27)
  (p3:o3.op=.call {callee:=.value (.func 14),args:=#[.tmp 27],argTypes:=#[51]}) (d3:o3.dst=some 28) (x3:(waits o3).contains 2=true)
  (p4:o4.op=.alloc 36) (d4:o4.dst=some 8)
  (p5:o5.op=.assign (.tmp 26)) (d5:o5.dst=some 7) (x5:(waits o5).contains 1=true)
  (p6:o6.op=.store 36 (.tmp 8) (.tmp 28)) (d6:o6.dst=none) (x6:(waits o6).contains 3=true) (x6':(waits o6).contains 4=true)
  (hB:V9 #[o0,o1,o2,o3,o4,o5,o6]=true)
  (hend:∀a w,JE l dv pv a0 W true true true true true true true a w→Q .normal a w) :
  (Code.region id #[o0,o1,o2,o3,o4,o5,o6] true).wp Tryz.prog Q a0 W:=by
 have Qh:Enters Tryz.prog 24:=enters_of Tryz.func24 (by kernel_rfl) rfl;have cH:Enters Tryz.prog 14:=enters_of Tryz.func14 (by kernel_rfl) rfl;obtain⟨im,iz,hmz,CB,-⟩:=info_parts AkG;refine Zd (YK l dv pv a0 W) (by kernel_rfl) (fun i o ho=>(PV hB i o ho).2) (fun i o ho=>(PV hB i o ho).1) ?_ ?_ ?_
 ·unfold YK;simp only [getD_replicate_false];exact⟨DO.refl _ _,(Aa.refl W).drew,(fun e=>by cases e),(fun e=>by cases e),(fun e=>by cases e),(fun e=>by cases e),(fun e=>by cases e),(fun e=>by cases e),(fun e=>by cases e),(fun e=>by cases e)⟩
 ·intro listed a w i o hJ hsz Az ho AZ;have hi:i<7:=(Array.getElem?_eq_some_iff.1 ho).1;have h7:listed.size=7:=hsz;have GO:=KR AZ;have Ad:=hJ.ext;unfold YK at hJ ⊢
  rcases(by omega:i=0∨i=1∨i=2∨i=3∨i=4∨i=5∨i=6)with rfl|rfl|rfl|rfl|rfl|rfl|rfl
  all_goals simp only [List.getElem?_toArray,List.getElem?_cons_zero,List.getElem?_cons_succ,Ase]at ho
  all_goals subst ho
  ·simp only [EU (show 0<listed.size by omega),getD_set_ne false (show (0:Nat)≠1 by omega),getD_set_ne false (show (0:Nat)≠2 by omega),getD_set_ne false (show (0:Nat)≠3 by omega),getD_set_ne false (show (0:Nat)≠4 by omega),getD_set_ne false (show (0:Nat)≠5 by omega),getD_set_ne false (show (0:Nat)≠6 by omega)];refine Zc (v:=dv) (w':=w) (by have h0:a.eval (.tmp 0)=dv:=(hJ.fr.eval (by unfold KE;omega)).trans e0;unfold execOp;simp [p0,go_sem];simpa [Act.eval,Array.getD_eq_getD_getElem?]using h0) ?_;rw [d0];exact hJ.t0 hs
  ·have Fe:=Az;rw [Fe]at hJ;simp only [EU (show 1<listed.size by omega),getD_set_ne false (show (1:Nat)≠0 by omega),getD_set_ne false (show (1:Nat)≠2 by omega),getD_set_ne false (show (1:Nat)≠3 by omega),getD_set_ne false (show (1:Nat)≠4 by omega),getD_set_ne false (show (1:Nat)≠5 by omega),getD_set_ne false (show (1:Nat)≠6 by omega)];refine oZ p1 Qh (hJ.s0 (GO 0 x1)) (mk w Ad) ?_;rintro e w'' ⟨A,c,rfl,h1,h2,h3,hx⟩;refine⟨_,rfl,?_⟩;rw [d1];exact(hJ.grow hx).t1 hs h1 h2 h3
  ·simp only [EU (show 2<listed.size by omega),getD_set_ne false (show (2:Nat)≠0 by omega),getD_set_ne false (show (2:Nat)≠1 by omega),getD_set_ne false (show (2:Nat)≠3 by omega),getD_set_ne false (show (2:Nat)≠4 by omega),getD_set_ne false (show (2:Nat)≠5 by omega),getD_set_ne false (show (2:Nat)≠6 by omega)];refine wp_load_row _ _ p2 bp ((hJ.fr.eval (by unfold KE;omega)).trans e5) _ _ (0,0) _ ((Ad.block _ (ArX AK)).trans AK) Tryz.underlying51 rfl hin ?_;rw [d2,←hpv];exact hJ.t2 hs
  ·have hl3:=Az;rw [hl3]at hJ;simp only [EU (show 3<listed.size by omega),getD_set_ne false (show (3:Nat)≠0 by omega),getD_set_ne false (show (3:Nat)≠1 by omega),getD_set_ne false (show (3:Nat)≠2 by omega),getD_set_ne false (show (3:Nat)≠4 by omega),getD_set_ne false (show (3:Nat)≠5 by omega),getD_set_ne false (show (3:Nat)≠6 by omega)];refine oZ p3 cH (hJ.s2 (GO 2 x3)) (mm w Ad) ?_;rintro e w'' ⟨n,units,A,B,F,ca,cb,cf,m,fa,hn,rfl,hM,hx,-,XQ⟩;refine⟨_,rfl,?_⟩;rw [d3];exact(hJ.grow hx).t3 hs ⟨hn,hM,XQ⟩
  ·have hl4:=Az;rw [hl4]at hJ;simp only [EU (show 4<listed.size by omega),getD_set_ne false (show (4:Nat)≠0 by omega),getD_set_ne false (show (4:Nat)≠1 by omega),getD_set_ne false (show (4:Nat)≠2 by omega),getD_set_ne false (show (4:Nat)≠3 by omega),getD_set_ne false (show (4:Nat)≠5 by omega),getD_set_ne false (show (4:Nat)≠6 by omega)];refine AbG p4 iz hmz ?_;rw [d4];exact hJ.t4 hs
  ·simp only [EU (show 5<listed.size by omega),getD_set_ne false (show (5:Nat)≠0 by omega),getD_set_ne false (show (5:Nat)≠1 by omega),getD_set_ne false (show (5:Nat)≠2 by omega),getD_set_ne false (show (5:Nat)≠3 by omega),getD_set_ne false (show (5:Nat)≠4 by omega),getD_set_ne false (show (5:Nat)≠6 by omega)];refine Zc (v:=a.eval (.tmp 26)) (w':=w) (by unfold execOp;simp [p5,go_sem]) ?_;rw [d5];rw [GO 1 x5]at hJ ⊢;exact hJ.t5 hs
  ·have hl6:=Az;rw [hl6,GO 3 x6,GO 4 x6']at hJ;simp only [EU (show 6<listed.size by omega),getD_set_ne false (show (6:Nat)≠0 by omega),getD_set_ne false (show (6:Nat)≠1 by omega),getD_set_ne false (show (6:Nat)≠2 by omega),getD_set_ne false (show (6:Nat)≠3 by omega),getD_set_ne false (show (6:Nat)≠4 by omega),getD_set_ne false (show (6:Nat)≠5 by omega)];rw [GO 3 x6,GO 4 x6'];obtain⟨b,k1,k2,SN,k3,k4⟩:=hJ.s4 rfl;obtain⟨A,B,F,ca,cb,cf,n,units,m,fa,j1,-,-⟩:=hJ.s3 rfl;have AhQ:=k4 rfl;subst AhQ;refine wp_store_row _ _ _ p6 b (K2 A B F m ca cb cf) k1 j1 _ _ k3 (by rw [iz];simp [CB,K2]) rfl (by simp [K2,Value.oneCell']) ?_;rw [d6];exact hJ.t6 k1 j1
 ·intro listed a w hJ hall;unfold YK at hJ;have Fv:=fun i (hi:i<7)=>hall i hi;rw [Fv 0 (by omega),Fv 1 (by omega),Fv 2 (by omega),Fv 3 (by omega),Fv 4 (by omega),Fv 5 (by omega),Fv 6 (by omega)]at hJ;exact hend a w hJ
end
end Go.Proofs.YtbejphgbbpplbaaGreatDoor
