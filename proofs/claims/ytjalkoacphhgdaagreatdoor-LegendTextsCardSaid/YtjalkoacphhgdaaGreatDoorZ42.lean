/- Z42: LGL LGN. -/
import Derived.Test.YtjalkoacphhgdaaGreatDoorZ38
set_option maxRecDepth 100000
set_option maxHeartbeats 16000000
namespace Go.Proofs.YtjalkoacphhgdaaGreatDoor
open Go.RowKit Kl Go.Shelf
def WH:List (Op×Option Nat):=[
 (.call {callee:=.value (.func 46),args:=#[],argTypes:=#[]},some 17),
 (.fieldAddr 99 (.tmp 5) 0,some 18),
 (.load 5 (.tmp 18),some 19),
 (.binOp .rem 5 (.tmp 19) (.const (.int .u8 12)) 5,some 20),
 (.indexAddr 23 (.tmp 17) (.tmp 20),some 21),
 (.load 9 (.tmp 21),some 22),
 (.fieldAddr 99 (.tmp 5) 1,some 23),
 (.load 5 (.tmp 23),some 24),
 (.binOp .rem 5 (.tmp 24) (.const (.int .u8 90)) 5,some 25),
 (.binOp .add 5 (.const (.int .u8 33)) (.tmp 25) 5,some 26),
 (.buildSlice 52 1 #[(0,.tmp 26)],some 27),
 (.convert 52 9 (.tmp 27),some 28),
 (.fieldAddr 99 (.tmp 5) 2,some 29),
 (.load 5 (.tmp 29),some 30),
 (.binOp .rem 5 (.tmp 30) (.const (.int .u8 5)) 5,some 31),
 (.convert 5 3 (.tmp 31),some 32),
 (.binOp .add 3 (.const (.int .i64 1)) (.tmp 32) 3,some 33),
 (.buildSlice 23 4 #[(0,.const (S [])),(1,.const (S [115,97,110,100])),(2,.const (S [97,32,98])),(3,.const (S [49,47,50,32,116,111,32,51]))],some 34),
 (.fieldAddr 99 (.tmp 5) 3,some 35),
 (.load 5 (.tmp 35),some 36),
 (.binOp .rem 5 (.tmp 36) (.const (.int .u8 4)) 5,some 37),
 (.indexAddr 23 (.tmp 34) (.tmp 37),some 38),
 (.load 9 (.tmp 38),some 39),
 (.build 40 #[(0,.tmp 22),(1,.tmp 28),(2,.tmp 33),(3,.tmp 39)],some 40),
 (.alloc 40,some 6),
 (.store 40 (.tmp 6) (.tmp 40),none)]
def QW:List (Nat×Nat):=[(25,24),(25,23),(23,5),(23,11),(23,16),(23,22),(5,4),(4,0),(4,3),(3,2),(2,1),(11,10),(10,9),(9,8),(8,7),(7,6),(16,15),(15,14),(14,13),(13,12),(22,21),(21,17),(21,20),(20,19),(19,18)]
def Il(i:Nat):Nat:=if i=24 then 6 else 17+i
structure CM where
 x:Dr
 bx:Nat
 ku:Nat
 ks:Nat
 kp:Nat
 kt:Nat
 sy:UInt8
 nm:Bs
 tx:Bs
structure CM.Ok(X:CM):Prop where
 u:X.ku=X.x.u.toNat%12
 s:X.ks=X.x.s.toNat%90
 p:X.kp=X.x.p.toNat%5
 t:X.kt=X.x.t.toNat%4
 y:(X.sy.toNat:Int)=33+(X.ks:Int)
 n:X.nm=MG.getD X.ku []
 x':X.tx=Oh.getD X.kt []
def Ot(X:CM)(B:Nat)(w:World):Nat→Value→Prop
 | 0,v=>∃g,v=.slice (some ⟨g,0,none⟩) 12 12/\w.cell? ⟨g,X.ku,none⟩=some (S X.nm)
 | 1,v=>v=.pointer (some ⟨X.bx,0,none⟩)
 | 2,v=>v=.int .u8 (X.x.u.toNat:Nat)
 | 3,v=>v=.int .u8 (X.ku:Nat)
 | 4,v=>∃g,v=.pointer (some ⟨g,X.ku,none⟩)/\w.cell? ⟨g,X.ku,none⟩=some (S X.nm)
 | 5,v=>v=S X.nm
 | 6,v=>v=.pointer (some ⟨X.bx,1,none⟩)
 | 7,v=>v=.int .u8 (X.x.s.toNat:Nat)
 | 8,v=>v=.int .u8 (X.ks:Nat)
 | 9,v=>v=.int .u8 (X.sy.toNat:Nat)
 | 10,v=>∃g,v=.slice (some ⟨g,0,none⟩) 1 1/\w.cell? ⟨g,0,none⟩=some (.int .u8 (X.sy.toNat:Nat))
 | 11,v=>v=S [X.sy]
 | 12,v=>v=.pointer (some ⟨X.bx,2,none⟩)
 | 13,v=>v=.int .u8 (X.x.p.toNat:Nat)
 | 14,v=>v=.int .u8 (X.kp:Nat)
 | 15,v=>v=.int .i64 (X.kp:Nat)
 | 16,v=>v=.int .i64 (1+(X.kp:Int))
 | 17,v=>∃g,v=.slice (some ⟨g,0,none⟩) 4 4/\w.cell? ⟨g,X.kt,none⟩=some (S X.tx)
 | 18,v=>v=.pointer (some ⟨X.bx,3,none⟩)
 | 19,v=>v=.int .u8 (X.x.t.toNat:Nat)
 | 20,v=>v=.int .u8 (X.kt:Nat)
 | 21,v=>∃g,v=.pointer (some ⟨g,X.kt,none⟩)/\w.cell? ⟨g,X.kt,none⟩=some (S X.tx)
 | 22,v=>v=S X.tx
 | 23,v=>v=.agg #[S X.nm,S [X.sy],.int .i64 (1+(X.kp:Int)),S X.tx]
 | 24,v=>∃g,v=.pointer (some ⟨g,0,none⟩)/\w.heap[g]?=some (.cells #[S [],S [],.int .i64 0,S []] 40)/\B<=g
 | _,_=>True
theorem Ot.ext{X:CM}{B:Nat}{w w':World}(hx:Aa w w'){i:Nat}(hi:i<25){v:Value}(h:Ot X B w i v):Ot X B w' i v:=by
 rcases(by omega:i=0∨i=1∨i=2∨i=3∨i=4∨i=5∨i=6∨i=7∨i=8∨i=9∨i=10∨i=11∨i=12∨i=13∨i=14∨i=15∨i=16∨i=17∨i=18∨i=19∨i=20∨i=21∨i=22∨i=23∨i=24)with rfl|rfl|rfl|rfl|rfl|rfl|rfl|rfl|rfl|rfl|rfl|rfl|rfl|rfl|rfl|rfl|rfl|rfl|rfl|rfl|rfl|rfl|rfl|rfl|rfl
 ·obtain⟨g,h1,h2⟩:=h;exact⟨g,h1,hx.cellS h2⟩
 ·exact h
 ·exact h
 ·exact h
 ·obtain⟨g,h1,h2⟩:=h;exact⟨g,h1,hx.cellS h2⟩
 ·exact h
 ·exact h
 ·exact h
 ·exact h
 ·exact h
 ·obtain⟨g,h1,h2⟩:=h;exact⟨g,h1,hx.cellS h2⟩
 ·exact h
 ·exact h
 ·exact h
 ·exact h
 ·exact h
 ·exact h
 ·obtain⟨g,h1,h2⟩:=h;exact⟨g,h1,hx.cellS h2⟩
 ·exact h
 ·exact h
 ·exact h
 ·obtain⟨g,h1,h2⟩:=h;exact⟨g,h1,hx.cellS h2⟩
 ·exact h
 ·exact h
 ·obtain⟨g,h1,h2,h3⟩:=h;exact⟨g,h1,(hx.block _ (Anm h2)).trans h2,h3⟩
structure JM(X:CM)(V:World)(a0:Act)(ops:Array Oper)(l:Array Bool)(a:Act)(w:World):Prop where
 fr:G2 (fun d=>d=6∨(17<=d/\d<=40)) a0 a
 cl:∀j k,QW.contains (j,k)=true→l.getD j false=true→l.getD k false=true
 ext:l.getD 25 false=false→Aa V w
 fc:l.getD 25 false=false→∀i,i<25→l.getD i false=true→Ot X V.heap.size w i (a.eval (.tmp (Il i)))
 fin:l.getD 25 false=true→∃g,a.eval (.tmp 6)=.pointer (some ⟨g,0,none⟩)/\w.heap[g]?=some (.cells #[S X.nm,S [X.sy],.int .i64 (1+(X.kp:Int)),S X.tx] 40)/\Aa V w
theorem Aj9{i j:Nat}(hi:i<25)(hj:j<25)(h:i≠j):Il j≠Il i:=by unfold Il;split<;>split<;>omega
theorem AjA{i:Nat}(hi:i<25):Il i<=40:=by unfold Il;split<;>omega
theorem Aj8{i:Nat}(hi:i<25):Il i=6∨(17<=Il i/\Il i<=40):=by unfold Il;split<;>omega
theorem eval_put{a:Act}{d:Nat}(v:Value)(h:d<a.tmps.size):(a.put (some d) v).eval (.tmp d)=v:=by
 simp only [Act.eval,Act.put,Array.getD_eq_getD_getElem?];rw [Array.getElem?_setIfInBounds_self_of_lt h]
 rfl
section
variable {X : CM} {V : World} {a0 a : Act} {ops : Array Oper} {l : Array Bool} {w : World}
theorem JM.before(h:JM X V a0 ops l a w)(rQ:l.getD 25 false=true):∀i,i<25→l.getD i false=true:=by
 intro i hi;have k24:=h.cl 25 24 (by decide) rQ;have We:=h.cl 25 23 (by decide) rQ;have k5:=h.cl 23 5 (by decide) We;have ah:=h.cl 23 11 (by decide) We;have ai:=h.cl 23 16 (by decide) We;have k22:=h.cl 23 22 (by decide) We;have k4:=h.cl 5 4 (by decide) k5;have k0:=h.cl 4 0 (by decide) k4;have k3:=h.cl 4 3 (by decide) k4;have k2:=h.cl 3 2 (by decide) k3;have k1:=h.cl 2 1 (by decide) k2;have ae:=h.cl 11 10 (by decide) ah;have k9:=h.cl 10 9 (by decide) ae;have k8:=h.cl 9 8 (by decide) k9;have k7:=h.cl 8 7 (by decide) k8;have k6:=h.cl 7 6 (by decide) k7;have eI:=h.cl 16 15 (by decide) ai;have eH:=h.cl 15 14 (by decide) eI;have eG:=h.cl 14 13 (by decide) eH;have k12:=h.cl 13 12 (by decide) eG;have Wd:=h.cl 22 21 (by decide) k22;have aj:=h.cl 21 17 (by decide) Wd;have PE:=h.cl 21 20 (by decide) Wd;have Wc:=h.cl 20 19 (by decide) PE;have eJ:=h.cl 19 18 (by decide) Wc
 rcases(by omega:i=0∨i=1∨i=2∨i=3∨i=4∨i=5∨i=6∨i=7∨i=8∨i=9∨i=10∨i=11∨i=12∨i=13∨i=14∨i=15∨i=16∨i=17∨i=18∨i=19∨i=20∨i=21∨i=22∨i=23∨i=24)with rfl|rfl|rfl|rfl|rfl|rfl|rfl|rfl|rfl|rfl|rfl|rfl|rfl|rfl|rfl|rfl|rfl|rfl|rfl|rfl|rfl|rfl|rfl|rfl|rfl<;>assumption
theorem JM.put(h:JM X V a0 ops l a w)(hs:l.size=26)(hz:51<=a0.tmps.size){i:Nat}(hi:i<25)(Au:l.getD i false=false)(hd:∀k,QW.contains (i,k)=true→l.getD k false=true){v:Value}{w':World}(hx:Aa w w')(hf:Ot X V.heap.size w' i v):JM X V a0 ops (l.setIfInBounds i true) (a.put (some (Il i)) v) w':=by
 have n25:l.getD 25 false=false:=by
  cases e:l.getD 25 false
  ·rfl
  ·have:=h.before e i hi;rw [Au]at this;cases this
 have m25:(l.setIfInBounds i true).getD 25 false=false:=(by rw [getD_set_ne false (show i≠25 by omega)];exact n25);refine⟨h.fr.put (Aj8 hi) v,?_,fun _=>(h.ext n25).trans hx,?_,fun e=>by rw [m25]at e;cases e⟩
 ·intro j k hjk hj
  have hk:l.getD k false=true:=by
   by_cases e:i=j
   ·subst e;exact hd k hjk
   ·rw [getD_set_ne false e]at hj;exact h.cl j k hjk hj
  by_cases e:i=k
  ·subst e;rw [Hp (by omega)]
  ·rw [getD_set_ne false e];exact hk
 ·intro _ j hj hl;by_cases e:i=j
  ·subst e;rw [eval_put v (by rw [h.fr.size];have:=AjA hi;omega)];exact hf
  ·rw [getD_set_ne false e]at hl;rw [qK v (Aj9 hi hj e)];exact(h.fc n25 j hj hl).ext hx hj
end
theorem JM.not25{X:CM}{V:World}{a0 a:Act}{ops:Array Oper}{l:Array Bool}{w:World}(h:JM X V a0 ops l a w){i:Nat}(hi:i<25)(Au:l.getD i false=false):l.getD 25 false=false:=by
 cases e:l.getD 25 false
 ·rfl
 ·have:=h.before e i hi;rw [Au]at this;cases this
theorem Ala{P:Program}{Q:Exit→Act→World→Prop}{o:Oper}{a:Act}{w:World}{K:Act→World→Prop}{f:FuncId}{ts:Array TypeId}(ho:o.op=.call {callee:=.value (.func f),args:=#[],argTypes:=ts})(hen:Enters P f)
  {R:Ending→World→Prop} (hc:Calls P f #[] w R) (hR:∀e w'',R e w''→∃u,e=.returned u/\K (a.put o.dst u) w''):o.wp P a w K Q:=by
 have h2:(execOp a.eval o).run P w=.ok (.enter f #[]) w:=by unfold execOp;simp [ho,resolve,invoke,Act.eval,go_sem];exact hen _ w
 unfold Oper.wp;rw [h2,Oper.upon_enter];refine hc.mono fun e w'' h=>?_;obtain⟨u,rfl,hk⟩:=hR e w'' h;exact hk
theorem Akt:∀k,k<4→(#[S [],S [115,97,110,100],S [97,32,98],S [49,47,50,32,116,111,32,51]]:Array Value)[k]?=some (S (Oh.getD k [])):=by
 intro k hk
 rcases(by omega:k=0∨k=1∨k=2∨k=3)with rfl|rfl|rfl|rfl<;>rfl
theorem AcB(b:Nat)(w:World):(Instr.fieldAt 99 (.pointer (some ⟨b,0,none⟩)) 0).run Tryz.prog w=.ok (.pointer (some ⟨b,0,none⟩)) w:=by simp [go_sem]
theorem AcC(b:Nat)(w:World):(Instr.fieldAt 99 (.pointer (some ⟨b,0,none⟩)) 1).run Tryz.prog w=.ok (.pointer (some ⟨b,1,none⟩)) w:=by simp [go_sem]
theorem AcD(b:Nat)(w:World):(Instr.fieldAt 99 (.pointer (some ⟨b,0,none⟩)) 2).run Tryz.prog w=.ok (.pointer (some ⟨b,2,none⟩)) w:=by simp [go_sem]
theorem AcE(b:Nat)(w:World):(Instr.fieldAt 99 (.pointer (some ⟨b,0,none⟩)) 3).run Tryz.prog w=.ok (.pointer (some ⟨b,3,none⟩)) w:=by simp [go_sem]
theorem Wk{w:World}{b o:Nat}{n:Int}(h:w.cell? ⟨b,o,none⟩=some (.int .u8 n)):(Instr.loadAt 5 (.pointer (some ⟨b,o,none⟩))).run Tryz.prog w=.ok (.int .u8 n) w:=by simp [go_sem,h]
theorem df{w:World}{b o:Nat}{s:Bs}(h:w.cell? ⟨b,o,none⟩=some (S s)):(Instr.loadAt 9 (.pointer (some ⟨b,o,none⟩))).run Tryz.prog w=.ok (S s) w:=by simp [go_sem,h]
theorem Aa9(n:Int)(w:World):(Instr.buildSlice 52 1 #[(0,.int .u8 n)]).run Tryz.prog w=.ok (.slice (some ⟨w.heap.size,0,none⟩) 1 1) (w.alloc (.cells #[.int .u8 n] 5)):=by simp [go_sem]
theorem AaC(w:World):(Instr.buildSlice 23 4 #[(0,S []),(1,S [115,97,110,100]),(2,S [97,32,98]),(3,S [49,47,50,32,116,111,32,51])]).run Tryz.prog w=.ok (.slice (some ⟨w.heap.size,0,none⟩) 4 4) (w.alloc (.cells #[S [],S [115,97,110,100],S [97,32,98],S [49,47,50,32,116,111,32,51]] 9)):=by simp [go_sem]
theorem AaA(u s t:Bs)(p:Int)(w:World):(Instr.build 40 #[(0,S u),(1,S s),(2,.int .i64 p),(3,S t)]).run Tryz.prog w=.ok (.agg #[S u,S s,.int .i64 p,S t]) w:=by simp [go_sem]
theorem Ab1{w:World}{g:Nat}{y:UInt8}(h:w.cell? ⟨g,0,none⟩=some (.int .u8 (y.toNat:Nat))):(convert 52 9 (.slice (some ⟨g,0,none⟩) 1 1)).run Tryz.prog w=.ok (S [y]) w:=
 run_convert_bytes_back (P:=Tryz.prog) w 52 9 5 ⟨g,0,none⟩ 1 [y] Tryz.underlying52 Tryz.underlying5 Tryz.underlying9 (by
  intro j hj;have:j=0:=(by simpa using hj);subst this;rw [Addr.add_lit]
  exact h)
theorem Ab0(k:Nat)(h:k<5)(w:World):(convert 5 3 (.int .u8 (k:Nat))).run Tryz.prog w=.ok (.int .i64 (k:Nat)) w:=by
 have h1:IntKind.wrap .i64 (k:Int)=k:=Anu _ (by omega);simp [go_sem,h1]
theorem WW(n k:Nat)(q:Nat)(hq:q<256)(hk:k=n%q)(AD:0<q):((n:Int).tmod (q:Int))=(k:Int)/\IntKind.wrap .u8 (k:Int)=(k:Int):=by
 have h0:k<q:=(by rw [hk];exact Nat.mod_lt _ AD);refine⟨by rw [Int.tmod_eq_emod_of_nonneg (by omega),hk];exact(Int.natCast_emod n q).symm,?_⟩;simp [IntKind.wrap,IntKind.bits,IntKind.signed];omega
theorem AiW(n k:Nat)(hk:k=n%12)(x y:Operand)(w:World):((do eqGuard .rem 5 x y (.int .u8 (n:Nat)) (.int .u8 12);binOp .rem 5 (.int .u8 (n:Nat)) (.int .u8 12)):Sem Value).run Tryz.prog w=.ok (.int .u8 (k:Nat)) w:=by
 obtain⟨h1,-⟩:=WW n k 12 (by omega) hk (by omega);have h1':(n:Int).tmod 12=(k:Int):=h1;simp [go_sem,h1']
theorem AiZ(n k:Nat)(hk:k=n%90)(x y:Operand)(w:World):((do eqGuard .rem 5 x y (.int .u8 (n:Nat)) (.int .u8 90);binOp .rem 5 (.int .u8 (n:Nat)) (.int .u8 90)):Sem Value).run Tryz.prog w=.ok (.int .u8 (k:Nat)) w:=by
 obtain⟨h1,-⟩:=WW n k 90 (by omega) hk (by omega);have h1':(n:Int).tmod 90=(k:Int):=h1;simp [go_sem,h1']
theorem AiY(n k:Nat)(hk:k=n%5)(x y:Operand)(w:World):((do eqGuard .rem 5 x y (.int .u8 (n:Nat)) (.int .u8 5);binOp .rem 5 (.int .u8 (n:Nat)) (.int .u8 5)):Sem Value).run Tryz.prog w=.ok (.int .u8 (k:Nat)) w:=by
 obtain⟨h1,-⟩:=WW n k 5 (by omega) hk (by omega);have h1':(n:Int).tmod 5=(k:Int):=h1;simp [go_sem,h1']
theorem AiX(n k:Nat)(hk:k=n%4)(x y:Operand)(w:World):((do eqGuard .rem 5 x y (.int .u8 (n:Nat)) (.int .u8 4);binOp .rem 5 (.int .u8 (n:Nat)) (.int .u8 4)):Sem Value).run Tryz.prog w=.ok (.int .u8 (k:Nat)) w:=by
 obtain⟨h1,-⟩:=WW n k 4 (by omega) hk (by omega);have h1':(n:Int).tmod 4=(k:Int):=h1;simp [go_sem,h1']
theorem yr(k:Nat)(y:UInt8)(hk:k<90)(hy:(y.toNat:Int)=33+(k:Int))(p q:Operand)(w:World):((do eqGuard .add 5 p q (.int .u8 33) (.int .u8 (k:Nat));binOp .add 5 (.int .u8 33) (.int .u8 (k:Nat))):Sem Value).run Tryz.prog w=.ok (.int .u8 (y.toNat:Nat)) w:=by
 have h2:IntKind.wrap .u8 (33+(k:Int))=(y.toNat:Int):=(by rw [hy];simp [IntKind.wrap,IntKind.bits,IntKind.signed];omega);simp [go_sem,h2]
theorem yq(k:Nat)(hk:k<5)(p q:Operand)(w:World):((do eqGuard .add 3 p q (.int .i64 1) (.int .i64 (k:Nat));binOp .add 3 (.int .i64 1) (.int .i64 (k:Nat))):Sem Value).run Tryz.prog w=.ok (.int .i64 (1+(k:Int))) w:=by
 have h2:IntKind.wrap .i64 (1+(k:Int))=1+(k:Int):=Anu _ (by omega);simp [go_sem,h2]
theorem zS(g k n:Nat)(hk:k<n)(w:World):(Instr.indexAt 23 (.slice (some ⟨g,0,none⟩) n n) (.int .u8 (k:Nat))).run Tryz.prog w=.ok (.pointer (some ⟨g,k,none⟩)) w:=by
 have h0:(0:Int)<=(k:Int):=(by omega);have h1:(k:Int)<(n:Int):=(by omega);simp [go_sem,hk]
theorem Ql{P:Program}{o:Oper}{a:Act}{w w':World}{v:Value}{K:Act→World→Prop}{Q:Exit→Act→World→Prop}{op:BinOp}{t t2:TypeId}{x y:Operand}{D:Option Nat}(p:.binOp op t x y t2=o.op)(d:D=o.dst)(h:((do eqGuard op t x y (a.eval x) (a.eval y);binOp op t (a.eval x) (a.eval y)):Sem Value).run P w=.ok v w')(hk:K (a.put D v) w'):o.wp P a w K Q:=
 Ir (do eqGuard op t x y (a.eval x) (a.eval y);binOp op t (a.eval x) (a.eval y)) (by unfold execOp;rw [←p]) h (d▸hk)
theorem qq{P:Program}{o:Oper}{a:Act}{w w':World}{v:Value}{K:Act→World→Prop}{Q:Exit→Act→World→Prop}{t:TypeId}{x y:Operand}{D:Option Nat}(p:.indexAddr t x y=o.op)(d:D=o.dst)(h:(Instr.indexAt t (a.eval x) (a.eval y)).run P w=.ok v w')(hk:K (a.put D v) w'):o.wp P a w K Q:=
 Ir (Instr.indexAt t (a.eval x) (a.eval y)) (by unfold execOp;rw [←p]) h (d▸hk)
theorem AjZ{w:World}{g:Nat}{u s t:Bs}{p:Int}(h:w.heap[g]?=some (.cells #[S [],S [],.int .i64 0,S []] 40))(B:Nat)(hB:B<=g) :
  ∃W2,(Instr.storeAt 40 (.pointer (some ⟨g,0,none⟩)) (.agg #[S u,S s,.int .i64 p,S t])).run Tryz.prog w=.ok () W2/\W2.heap[g]?=some (.cells #[S u,S s,.int .i64 p,S t] 40)/\∀w0,Aa w0 w→w0.heap.size<=B→Aa w0 W2:=by
 have h0:=Ab (o:=0) h rfl;have h1:=Ab (o:=1) h rfl;have h2:=Ab (o:=2) h rfl;have h3:=Ab (o:=3) h rfl;have z0:=AO (o:=0) h;have z1:=AO (o:=1) h;have z2:=AO (o:=2) h;have z3:=AO (o:=3) h;refine⟨(((w.setCell ⟨g,0,none⟩ (S u)).setCell ⟨g,1,none⟩ (S s)).setCell ⟨g,2,none⟩ (.int .i64 p)).setCell ⟨g,3,none⟩ (S t),by simp [go_sem,h0,h1,h2,h3,z0,z1,z2,z3],?_,fun w0 hx h0=>?_⟩
 ·simp only [World.setCell,Array.getElem?_modify,h];simp
 ·have hg:w0.heap.size<=g:=(by omega);exact(((hx.setCell (p:=⟨g,0,none⟩) hg _).setCell (p:=⟨g,1,none⟩) hg _).setCell (p:=⟨g,2,none⟩) hg _).setCell (p:=⟨g,3,none⟩) hg _
theorem AiT{X:CM}(ok:X.Ok){V:World}(hb:V.heap[X.bx]?=some (.cells #[.int .u8 (X.x.u.toNat:Nat),.int .u8 (X.x.s.toNat:Nat),.int .u8 (X.x.p.toNat:Nat),.int .u8 (X.x.t.toNat:Nat)] 99))
  {a0:Act} {ops:Array Oper} (hop:ops.toList.map (fun o=>(o.op,o.dst))=WH) (AL:YU ops QW=true) (tW:Yp ops=true) (hz:51<=a0.tmps.size) (e5:a0.eval (.tmp 5)=.pointer (some ⟨X.bx,0,none⟩)) {id:Nat} {Q:Exit→Act→World→Prop}
  (hend:∀(u:Nat→Value) (g:Nat) w,w.heap[g]?=some (.cells #[S X.nm,S [X.sy],.int .i64 (1+(X.kp:Int)),S X.tx] 40)→Aa V w→
   Q .normal ⟨(a0.tmps.toList.take 6++(.pointer (some ⟨g,0,none⟩)::((a0.tmps.toList.drop 7).take 10++((List.range 24).map u++a0.tmps.toList.drop 41)))).toArray,a0.defers⟩ w) :
  (Code.region id ops true).wp Tryz.prog Q a0 V:=by
 have eg:Enters Tryz.prog 46:=enters_of Tryz.func46 (by kernel_rfl) rfl
 have AeV:ops.size=26:=by
  have:=congrArg List.length hop
  simpa [WH]using this
 refine qw (JM X V a0 ops) (by kernel_rfl) (fun i o ho=>(mB tW i o ho).2) (fun i o ho=>(mB tW i o ho).1) ?_ ?_ ?_
 ·refine⟨G2.refl _ _,?_,fun _=>(Aa.refl V).drew,?_,?_⟩
  ·intro j k _ h;rw [getD_replicate_false]at h;cases h
  ·intro _ i _ h;rw [getD_replicate_false]at h;cases h
  ·intro h;rw [getD_replicate_false]at h;cases h
 ·intro l a w i o hJ hs Au ho hd;rw [AeV]at hs;have hi:i<26:=(by have:=(Array.getElem?_eq_some_iff.1 ho).1;omega);have hL:=io hop ho;have Vp:=Jf hd
  have dep:∀j k,QW.contains (j,k)=true→j=i→l.getD k false=true:=by rintro j k hjk rfl;have h1:=List.all_eq_true.1 AL (j,k) (by simpa using hjk);rw [ho]at h1;exact Vp k h1
  have dp:∀k,QW.contains (i,k)=true→l.getD k false=true:=fun k hk=>dep i k hk rfl;have E5:a.eval (.tmp 5)=.pointer (some ⟨X.bx,0,none⟩):=(by rw [hJ.fr.eval (by omega)];exact e5);by_cases wE:i<25
  ·have n25:=hJ.not25 wE Au;have hE:=hJ.ext n25;have CZ:=(hE.block _ (Anm hb)).trans hb;have c0:=Ab (o:=0) CZ rfl;have c1:=Ab (o:=1) CZ rfl;have c2:=Ab (o:=2) CZ rfl;have c3:=Ab (o:=3) CZ rfl;have F:=fun k (hk:k<25) (hl:l.getD k false=true)=>hJ.fc n25 k hk hl;have fin:∀v w',Aa w w'→Ot X V.heap.size w' i v→JM X V a0 ops (l.setIfInBounds i true) (a.put (some (Il i)) v) w':=fun v w' hx hf=>hJ.put hs hz wE Au dp hx hf;have b1:X.ku<12:=(by have:=ok.u;omega);have b2:X.ks<90:=(by have:=ok.s;omega);have b3:X.kp<5:=(by have:=ok.p;omega);have b4:X.kt<4:=by have:=ok.t;omega
   rcases(by omega:i=0∨i=1∨i=2∨i=3∨i=4∨i=5∨i=6∨i=7∨i=8∨i=9∨i=10∨i=11∨i=12∨i=13∨i=14∨i=15∨i=16∨i=17∨i=18∨i=19∨i=20∨i=21∨i=22∨i=23∨i=24)with rfl|rfl|rfl|rfl|rfl|rfl|rfl|rfl|rfl|rfl|rfl|rfl|rfl|rfl|rfl|rfl|rfl|rfl|rfl|rfl|rfl|rfl|rfl|rfl|rfl
   all_goals
    simp only [WH,List.getElem?_cons_zero,List.getElem?_cons_succ,Ans,Prod.mk.injEq]at hL;obtain⟨p,d⟩:=hL
   ·refine Ala p.symm eg (Ahc X.ku b1 w) ?_;rintro e w'' ⟨g,rfl,h1,-,h2⟩;refine⟨_,rfl,?_⟩;rw [←d];exact fin _ _ h2 ⟨g,rfl,by rw [ok.n];exact h1⟩
   ·refine Lz p d (by rw [E5];exact AcB _ _) ?_;exact fin _ _ (Aa.refl w) rfl
   ·have s1:=F 1 (by omega) (dep 2 1 (by decide) rfl);replace s1:a.eval (.tmp 18)=_:=s1;refine Jg p d (by rw [s1];exact Wk c0) ?_;exact fin _ _ (Aa.refl w) rfl
   ·have s2:=F 2 (by omega) (dep 3 2 (by decide) rfl);replace s2:a.eval (.tmp 19)=_:=s2;refine Ql p d (by rw [s2];exact AiW _ _ ok.u _ _ w) ?_;exact fin _ _ (Aa.refl w) rfl
   ·obtain⟨g,s0,g0⟩:=F 0 (by omega) (dep 4 0 (by decide) rfl);replace s0:a.eval (.tmp 17)=_:=s0;have s3:=F 3 (by omega) (dep 4 3 (by decide) rfl);replace s3:a.eval (.tmp 20)=_:=s3;refine qq p d (by rw [s0,s3];exact zS _ _ 12 b1 w) ?_;exact fin _ _ (Aa.refl w) ⟨g,rfl,g0⟩
   ·obtain⟨g,s4,g4⟩:=F 4 (by omega) (dep 5 4 (by decide) rfl);replace s4:a.eval (.tmp 21)=_:=s4;refine Jg p d (by rw [s4];exact df g4) ?_;exact fin _ _ (Aa.refl w) rfl
   ·refine Lz p d (by rw [E5];exact AcC _ _) ?_;exact fin _ _ (Aa.refl w) rfl
   ·have s6:=F 6 (by omega) (dep 7 6 (by decide) rfl);replace s6:a.eval (.tmp 23)=_:=s6;refine Jg p d (by rw [s6];exact Wk c1) ?_;exact fin _ _ (Aa.refl w) rfl
   ·have s7:=F 7 (by omega) (dep 8 7 (by decide) rfl);replace s7:a.eval (.tmp 24)=_:=s7;refine Ql p d (by rw [s7];exact AiZ _ _ ok.s _ _ w) ?_;exact fin _ _ (Aa.refl w) rfl
   ·have s8:=F 8 (by omega) (dep 9 8 (by decide) rfl);replace s8:a.eval (.tmp 25)=_:=s8;refine Ql p d (by rw [s8];exact yr _ _ b2 ok.y _ _ w) ?_;exact fin _ _ (Aa.refl w) rfl
   ·have s9:=F 9 (by omega) (dep 10 9 (by decide) rfl);replace s9:a.eval (.tmp 26)=_:=s9;refine Ir (Instr.buildSlice 52 1 #[(0,.int .u8 (X.sy.toNat:Nat))]) (by unfold execOp;rw [←p];simp [s9]) (Aa9 _ w) ?_;rw [←d];exact fin _ _ ((Aa.refl w).alloc _) ⟨w.heap.size,rfl,Ab (Ann w _) rfl⟩
   ·obtain⟨g,Tq,g10⟩:=F 10 (by omega) (dep 11 10 (by decide) rfl);replace Tq:a.eval (.tmp 27)=_:=Tq;refine Ir (convert 52 9 (.slice (some ⟨g,0,none⟩) 1 1)) (by unfold execOp;rw [←p];simp [Tq]) (Ab1 g10) ?_;rw [←d];exact fin _ _ (Aa.refl w) rfl
   ·refine Lz p d (by rw [E5];exact AcD _ _) ?_;exact fin _ _ (Aa.refl w) rfl
   ·have s12:=F 12 (by omega) (dep 13 12 (by decide) rfl);replace s12:a.eval (.tmp 29)=_:=s12;refine Jg p d (by rw [s12];exact Wk c2) ?_;exact fin _ _ (Aa.refl w) rfl
   ·have iT:=F 13 (by omega) (dep 14 13 (by decide) rfl);replace iT:a.eval (.tmp 30)=_:=iT;refine Ql p d (by rw [iT];exact AiY _ _ ok.p _ _ w) ?_;exact fin _ _ (Aa.refl w) rfl
   ·have iU:=F 14 (by omega) (dep 15 14 (by decide) rfl);replace iU:a.eval (.tmp 31)=_:=iU;refine Ir (convert 5 3 (.int .u8 (X.kp:Nat))) (by unfold execOp;rw [←p];simp [iU]) (Ab0 _ b3 w) ?_;rw [←d];exact fin _ _ (Aa.refl w) rfl
   ·have Tr:=F 15 (by omega) (dep 16 15 (by decide) rfl);replace Tr:a.eval (.tmp 32)=_:=Tr;refine Ql p d (by rw [Tr];exact yq _ b3 _ _ w) ?_;exact fin _ _ (Aa.refl w) rfl
   ·refine Ir (Instr.buildSlice 23 4 #[(0,S []),(1,S [115,97,110,100]),(2,S [97,32,98]),(3,S [49,47,50,32,116,111,32,51])]) (by unfold execOp;rw [←p];simp [Act.eval]) (AaC w) ?_;rw [←d];exact fin _ _ ((Aa.refl w).alloc _) ⟨w.heap.size,rfl,Ab (Ann w _) (by rw [ok.x'];exact Akt _ b4)⟩
   ·refine Lz p d (by rw [E5];exact AcE _ _) ?_;exact fin _ _ (Aa.refl w) rfl
   ·have iW:=F 18 (by omega) (dep 19 18 (by decide) rfl);replace iW:a.eval (.tmp 35)=_:=iW;refine Jg p d (by rw [iW];exact Wk c3) ?_;exact fin _ _ (Aa.refl w) rfl
   ·have iY:=F 19 (by omega) (dep 20 19 (by decide) rfl);replace iY:a.eval (.tmp 36)=_:=iY;refine Ql p d (by rw [iY];exact AiX _ _ ok.t _ _ w) ?_;exact fin _ _ (Aa.refl w) rfl
   ·obtain⟨g,iV,g17⟩:=F 17 (by omega) (dep 21 17 (by decide) rfl);replace iV:a.eval (.tmp 34)=_:=iV;have iZ:=F 20 (by omega) (dep 21 20 (by decide) rfl);replace iZ:a.eval (.tmp 37)=_:=iZ;refine qq p d (by rw [iV,iZ];exact zS _ _ 4 b4 w) ?_;exact fin _ _ (Aa.refl w) ⟨g,rfl,g17⟩
   ·obtain⟨g,jA,g21⟩:=F 21 (by omega) (dep 22 21 (by decide) rfl);replace jA:a.eval (.tmp 38)=_:=jA;refine Jg p d (by rw [jA];exact df g21) ?_;exact fin _ _ (Aa.refl w) rfl
   ·have s5:=F 5 (by omega) (dep 23 5 (by decide) rfl);replace s5:a.eval (.tmp 22)=_:=s5;have iS:=F 11 (by omega) (dep 23 11 (by decide) rfl);replace iS:a.eval (.tmp 28)=_:=iS;have Ts:=F 16 (by omega) (dep 23 16 (by decide) rfl);replace Ts:a.eval (.tmp 33)=_:=Ts;have jB:=F 22 (by omega) (dep 23 22 (by decide) rfl);replace jB:a.eval (.tmp 39)=_:=jB;refine Ir (Instr.build 40 #[(0,S X.nm),(1,S [X.sy]),(2,.int .i64 (1+(X.kp:Int))),(3,S X.tx)]) (by unfold execOp;rw [←p];simp [s5,iS,Ts,jB]) (AaA _ _ _ _ w) ?_;rw [←d];exact fin _ _ (Aa.refl w) rfl
   ·obtain⟨i0,KF,hz0,-,-⟩:=info_parts Tryz.infoEn;refine AkT p.symm KF hz0 ?_;rw [←d];exact fin _ _ ((Aa.refl w).alloc _) ⟨w.heap.size,rfl,Ann w _,hE.size⟩
  ·obtain rfl:i=25:=(by omega);simp only [WH,List.getElem?_cons_zero,List.getElem?_cons_succ,Ans,Prod.mk.injEq]at hL;obtain⟨p,d⟩:=hL;have hE:=hJ.ext Au;have s23:a.eval (.tmp 40)=_:=hJ.fc Au 23 (by omega) (dep 25 23 (by decide) rfl);obtain⟨g,Xa,h24,hg⟩:=hJ.fc Au 24 (by omega) (dep 25 24 (by decide) rfl);replace Xa:a.eval (.tmp 6)=_:=Xa;have hst:=AjZ (u:=X.nm) (s:=[X.sy]) (p:=1+(X.kp:Int)) (t:=X.tx) h24;obtain⟨W2,Afa,VN,Afb⟩:=hst V.heap.size hg
   have hrun:(execOp a.eval o).run Tryz.prog w=.ok .skip W2:=by unfold execOp;rw [←p];show (do Instr.storeAt 40 (a.eval (.tmp 6)) (a.eval (.tmp 40));pure Next.skip:Sem Next).run Tryz.prog w=_;rw [Xa,s23];simp [Afa]
   unfold Oper.wp;rw [hrun,Oper.upon_skip,←d];show JM X V a0 ops (l.setIfInBounds 25 true) a W2;have t25:(l.setIfInBounds 25 true).getD 25 false=true:=Hp (by omega);refine⟨hJ.fr,?_,fun e=>(by rw [t25]at e;cases e),fun e=>(by rw [t25]at e;cases e),fun _=>⟨g,Xa,VN,Afb V hE (Ano _)⟩⟩;intro j k hjk hj
   have hk:l.getD k false=true:=by
    by_cases e:25=j
    ·subst e;exact dp k hjk
    ·rw [getD_set_ne false e]at hj;exact hJ.cl j k hjk hj
   by_cases e:25=k
   ·subst e;exact t25
   ·rw [getD_set_ne false e];exact hk
 ·intro l a w hJ hall;obtain⟨g,h1,h2,h3⟩:=hJ.fin (hall 25 (by omega))
  have H8:a=⟨(a0.tmps.toList.take 6++(.pointer (some ⟨g,0,none⟩)::((a0.tmps.toList.drop 7).take 10++((List.range 24).map (fun k=>a.eval (.tmp (17+k)))++a0.tmps.toList.drop 41)))).toArray,a0.defers⟩:=by
   refine Yq ?_ ?_ hJ.fr.defers
   ·rw [hJ.fr.size];simp only [List.length_append,List.length_take,List.length_cons,List.length_map,List.length_range,List.length_drop,Array.length_toList];omega
   ·intro e he;simp only [List.length_append,List.length_take,List.length_cons,List.length_map,List.length_range,List.length_drop,Array.length_toList]at he;have hlt:e<a0.tmps.size:=by omega
    have out:¬(e=6∨(17<=e/\e<=40))→a.eval (.tmp e)=a0.tmps.toList[e]'(by simpa using hlt):=fun h=>by rw [hJ.fr.eval h];simp [Act.eval,Array.getD_eq_getD_getElem?,Array.getElem?_eq_getElem hlt]
    by_cases c1:e<6
    ·rw [List.getElem_append_left (by simp;omega),List.getElem_take];exact out (by omega)
    rw [List.getElem_append_right (by simp;omega)];simp only [List.length_take,Array.length_toList,Nat.min_eq_left (show 6<=a0.tmps.size by omega)];by_cases c2:e=6
    ·subst c2;exact h1
    obtain⟨f,hf⟩:∃f,e=f+7:=⟨e-7,by omega⟩;subst hf;have e1:f+7-6=f+1:=(by omega);simp only [e1,List.getElem_cons_succ];by_cases c3:f<10
    ·rw [List.getElem_append_left (by simp;omega),List.getElem_take,List.getElem_drop];rw [out (by omega)]
     congr 1;omega
    rw [List.getElem_append_right (by simp;omega)];have e2:((a0.tmps.toList.drop 7).take 10).length=10:=(by simp;omega);simp only [e2];by_cases c4:f<34
    ·rw [List.getElem_append_left (by simp;omega)];simp only [List.getElem_map,List.getElem_range];rw [show 17+(f-10)=f+7 by omega]
    rw [List.getElem_append_right (by simp;omega)];simp only [List.length_map,List.length_range,List.getElem_drop];rw [out (by omega)]
    congr 1
    omega
  rw [H8];exact hend _ g w h2 h3
end Go.Proofs.YtjalkoacphhgdaaGreatDoor
namespace Go.Proofs.YtjalkoacphhgdaaGreatDoor
open Go.RowKit Kl
theorem Ajt{P:Program}{w:World}(ts:Array TypeId)(t:TypeId)(k:IntKind)(a b:Int):(Builtin.min_ ts t #[.int k a,.int k b]).run P w=.ok (.int k (min a b)) w:=by
 have m:∀x y:Int,(if y<x then y else x)=min x y:=(by intro x y;split<;>omega);simp only [Builtin.min_,List.foldlM_cons,List.foldlM_nil,Builtin.min2];simp [m]
def lT(l:List En)(w:World)(e:Ending)(w':World):Prop:=∃A c,e=.returned (.slice A l.length c)/\Ae w' A (B5 l)/\l.length<=c/\c<=9223372036854775807/\Aa w w'
theorem AgE(d:List Dr)(A:Option Addr)(c:Nat)(w:World)(hr:Ae w A (G9 d))(hc:d.length<=c)(hcm:c<=9223372036854775807) :
  Calls Tryz.prog 13 #[.slice A d.length c] w (lT (IT d) w):=by
 have ko:=@Ajt Tryz.prog;have Fy:=Anl hr;obtain⟨n,hn⟩:=Ank (min d.length 8);have hmn:min (d.length:Int) 8=(n:Int):=(by rw [hn];omega);have hn8:n<=8:=(by omega);have BU:n<=d.length:=(by omega);have Amz:(n:Int)<=(d.length:Int):=(by omega);have VG:(n:Int)<=(c:Int):=(by omega);have FO:(0:Int)<=(n:Int):=by omega
 have Qx:=Anl (show IT d=(d.take n).foldl Fp [] by
  unfold IT
  rw [hn,show d.take 8=d.take (min d.length 8)by by_cases h:8<=d.length;rw [Nat.min_eq_right h];rw [Anw (by omega),Anw (by omega)]])
 have TK:=Anl BU;clear hr hn;go_enter Tryz.func13,Tryz.ntmps13
 go_upto_region 3 with fail
 clear hmn ko
 go_loopw [3,13] (fun ov kv wr=>∃(k:Nat) (l:List En),kv=.int .i64 (k:Nat)/\k<=n/\l=(d.take k).foldl Fp []/\l.length<=k/\wr.ownsRow w.heap.size 40 4 ov l.length (B5 l)/\Aa w wr) (fun _ kv _=>n-(intOf kv).toNat)
 case atStart=>exact⟨0,[],rfl,by omega,by simp,by simp,⟨rfl,.inl ⟨rfl,rfl⟩⟩,Aa.refl _⟩
 case round=>
  obtain⟨k,l,rfl,hk,hl,hlk,hown,Ac⟩:=hrel;have HL:=Anl hl;clear hl;by_cases hkn:k<n
  ·have BL:k<d.length:=(by omega);obtain⟨b,o,rfl,hg1,hg2,hg3,hg4⟩:=AiJ (Fy.out.ext Ac) BL;obtain⟨x,hx⟩:=Ank (d[k]);rw [←hx]at hg1 hg2 hg3 hg4;have HX:=Anl hx;have hk0:(0:Int)<=(k:Int):=(by omega);have Ca:(k:Int)<(n:Int):=(by omega);have v1:IntKind.wrap .i64 ((k:Int)+1)=(k:Int)+1:=Anu _ (by omega);have hxb:=Ann wr (.cells #[.int .u8 (x.u.toNat:Nat),.int .u8 (x.s.toNat:Nat),.int .u8 (x.p.toNat:Nat),.int .u8 (x.t.toNat:Nat)] 99);have hx1:=(Aa.refl wr).alloc (.cells #[.int .u8 (x.u.toNat:Nat),.int .u8 (x.s.toNat:Nat),.int .u8 (x.p.toNat:Nat),.int .u8 (x.t.toNat:Nat)] 99);clear hx;have hE:=Ac.trans hx1;have hown1:=Az hown hx1;have MZ:=Anl hown1;have HE:=Anl hE;obtain⟨oP,oc,rfl⟩:=WQ (by omega) hown
   go_upto_region 5 with fail
   generalize wr.alloc (.cells #[.int .u8 (x.u.toNat:Nat),.int .u8 (x.s.toNat:Nat),.int .u8 (x.p.toNat:Nat),.int .u8 (x.t.toNat:Nat)] 99)=V at *;obtain⟨bx,Aw⟩:=Ank wr.heap.size;rw [←Aw]at hxb ⊢;clear Aw hg1 hg2 hg3 hg4 hx1 hown Ac hown1 hE
   go_cut [6] (fun v wx=>∃eb,v=.pointer (some ⟨eb,0,none⟩)/\wx.heap[eb]?=some (.cells #[S (ER x).u,S (ER x).s,.int .i64 (ER x).p,S (ER x).t] 40)/\Aa V wx)
   case first=>
    obtain⟨sy,Dm⟩:=Ank (33+x.s%90:UInt8)
    have Afe:(sy.toNat:Int)=33+((x.s.toNat%90:Nat):Int):=by have h1:(x.s%90).toNat=x.s.toNat%90:=(by rw [UInt8.toNat_mod];rfl);have h2:x.s.toNat%90<90:=Nat.mod_lt _ (by decide);rw [Dm,UInt8.toNat_add,h1];show (((33+x.s.toNat%90)%256:Nat):Int)=_;omega
    have uz:=Anl (show ER x=⟨MG.getD (x.u.toNat%12) [],[sy],1+((x.p.toNat%5:Nat):Int),Oh.getD (x.t.toNat%4) []⟩by rw [Dm];rfl);refine AiT (X:=⟨x,bx,x.u.toNat%12,x.s.toNat%90,x.p.toNat%5,x.t.toNat%4,sy,MG.getD (x.u.toNat%12) [],Oh.getD (x.t.toNat%4) []⟩) ⟨rfl,rfl,rfl,rfl,Afe,rfl,rfl⟩ hxb rfl (by kernel_rfl) (by kernel_rfl) (by simp) rfl ?_;intro uu g w9 h9 BM;simp only [List.take_succ_cons,List.take_zero,List.drop_succ_cons,List.drop_zero,List.cons_append,List.nil_append,show List.range 24 = [0,1,2,3,4,5,6,7,8,9,10,11,12,13,14,15,16,17,18,19,20,21,22,23] from rfl,List.map_cons,List.map_nil];go_wp2;go_meet;exact⟨g,rfl,by rw [uz.out];exact h9,BM⟩
   case rest=>
    obtain⟨eb,rfl,Vq,hx2⟩:=hcut;have hX:=HE.out.trans hx2;have hown2:=Az MZ.out hx2
    have an:=mN (cb:=#[.pointer (some ⟨eb,0,none⟩)]) Acn (fun y=>y.u == (ER x).u||y.s == (ER x).s) l oP oc wc (by
     obtain⟨A',c',e',r',-,-⟩:=Ae.of_own' (by omega) hown2
     cases e';exact r') (by
     obtain⟨A',c',e',-,r',-⟩:=Ae.of_own' (by omega) hown2
     cases e';exact r') (by
     obtain⟨A',c',e',-,-,r'⟩:=Ae.of_own' (by omega) hown2
     cases e';exact r') (fun y _ W hx=>AgD y (ER x) eb W ((hx.block _ (Anm Vq)).trans Vq))
    have hstep:(d.take (k+1)).foldl Fp []=Fp l x:=by rw [Anr BL,List.foldl_append,←HL.out,←HX.out];rfl
    have HST:=Anl hstep;have kN:=Anl Vq;have hb2:=hX.size;clear hstep Vq hxb
    cases h1:l.any (fun y=>y.u == (ER x).u||y.s == (ER x).s)
    ·rw [h1]at an;have HN:=Anl (show Fp l x=l ++ [ER x] by unfold Fp;rw [if_neg (by rw [h1];simp)]);clear h1;(go_wp2_with fail);(with_reducible refine an.mono ?_);rintro e w3 ⟨rfl,hx3⟩;have C4:=Az hown2 hx3;have RR:=(hx3.block _ (Anm kN.out)).trans kN.out;have X3:=hX.trans hx3;have q1:=Ab (o:=0) RR rfl;have q2:=Ab (o:=1) RR rfl;have q3:=Ab (o:=2) RR rfl;have q4:=Ab (o:=3) RR rfl
     go_wp2_with (at_builtin;go_loud (refine mQ rfl _ _ rfl _ w.heap.size (.slice oP l.length oc) l.length l rfl (Az C4 ((Aa.refl w3).alloc _)) (by omega) (ER x) w3.heap.size (Ann _ _) rfl (Anz X3.size ((Aa.refl w3).alloc _).size) ?_);intro v9 w9 hown9 hext9)
     have hnew:=hext9 w (X3.trans ((Aa.refl w3).alloc _)) (Ano _);have BI:=Anl (And.intro hown9 hnew);clear hown9 hnew hext9 q1 q2 q3 q4 RR C4;go_wp2;go_roundw
     case rel=>exact⟨k+1,l ++ [ER x],by go_num,hkn,by rw [HST.out,HN.out],by simp;omega,by rw [List.length_append];exact BI.out.1,BI.out.2⟩
     case measure=>simp [intOf];omega
    ·rw [h1]at an;have HN:=Anl (show Fp l x=l by unfold Fp;rw [if_pos h1]);clear h1;(go_wp2_with fail);(with_reducible refine an.mono ?_);rintro e w3 ⟨rfl,hx3⟩;have C4:=Az hown2 hx3;have X3:=hX.trans hx3;go_wp2;go_roundw
     case rel=>exact⟨k+1,l,by go_num,hkn,by rw [HST.out,HN.out],by omega,C4,X3⟩
     case measure=>simp [intOf];omega
  ·have Bu:k=n:=(by omega);subst Bu;obtain⟨A9,c9,rfl,r9,s9,t9⟩:=Ae.of_own' (by omega) hown;have DW:l=IT d:=by rw [HL.out,Qx.out]
   have AS:lT (IT d) w (.returned (.slice A9 l.length c9)) wr:=by rw [←DW];exact⟨A9,c9,rfl,r9,s9,t9,Ac⟩
   have HF:=Anl AS;clear AS r9 hown DW;go_wp2;go_ret;exact HF.out
end Go.Proofs.YtjalkoacphhgdaaGreatDoor
