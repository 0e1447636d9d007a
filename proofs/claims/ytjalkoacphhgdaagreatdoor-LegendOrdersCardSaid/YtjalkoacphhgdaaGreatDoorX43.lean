/- X43: LGL LGN. -/
import Derived.Test.YtjalkoacphhgdaaGreatDoorX39
set_option maxRecDepth 100000
set_option maxHeartbeats 16000000
namespace Go.Proofs.YtjalkoacphhgdaaGreatDoor
open Go.RowKit Kl Go.Shelf
def XS:List (Op×Option Nat):=[
 (.call {callee:=.value (.func 46),args:=#[],argTypes:=#[]},some 17),
 (.fieldAddr 99 (.tmp 5) 0,some 18),
 (.load 5 (.tmp 18),some 19),
 (.binOp .rem 5 (.tmp 19) (.const (.int .u8 12)) 5,some 20),
 (.indexAddr 23 (.tmp 17) (.tmp 20),some 21),
 (.load 9 (.tmp 21),some 22),
 (.fieldAddr 99 (.tmp 5) 1,some 23),
 (.load 5 (.tmp 23),some 24),
 (.binOp .rem 5 (.tmp 24) (.const (.int .u8 90)) 5,some 25),
 (.binOp .add 5 (.const (.int .u8 33)) (.tmp 25) 5,some 26),
 (.buildSlice 52 1 #[(0,.tmp 26)],some 27),
 (.convert 52 9 (.tmp 27),some 28),
 (.fieldAddr 99 (.tmp 5) 2,some 29),
 (.load 5 (.tmp 29),some 30),
 (.binOp .rem 5 (.tmp 30) (.const (.int .u8 5)) 5,some 31),
 (.convert 5 3 (.tmp 31),some 32),
 (.binOp .add 3 (.const (.int .i64 1)) (.tmp 32) 3,some 33),
 (.buildSlice 23 4 #[(0,.const (S [])),(1,.const (S [115,97,110,100])),(2,.const (S [97,32,98])),(3,.const (S [49,47,50,32,116,111,32,51]))],some 34),
 (.fieldAddr 99 (.tmp 5) 3,some 35),
 (.load 5 (.tmp 35),some 36),
 (.binOp .rem 5 (.tmp 36) (.const (.int .u8 4)) 5,some 37),
 (.indexAddr 23 (.tmp 34) (.tmp 37),some 38),
 (.load 9 (.tmp 38),some 39),
 (.build 40 #[(0,.tmp 22),(1,.tmp 28),(2,.tmp 33),(3,.tmp 39)],some 40),
 (.alloc 40,some 6),
 (.store 40 (.tmp 6) (.tmp 40),none)]
def Sb:List (Nat×Nat):=[(25,24),(25,23),(23,5),(23,11),(23,16),(23,22),(5,4),(4,0),(4,3),(3,2),(2,1),(11,10),(10,9),(9,8),(8,7),(7,6),(16,15),(15,14),(14,13),(13,12),(22,21),(21,17),(21,20),(20,19),(19,18)]
def IJ(i:Nat):Nat:=if i=24 then 6 else 17+i
structure CM where
 x:Dr
 bx:Nat
 ku:Nat
 ks:Nat
 kp:Nat
 kt:Nat
 sy:UInt8
 nm:Bs
 tx:Bs
structure CM.Ok(X:CM):Prop where
 u:X.ku=X.x.u.toNat%12
 s:X.ks=X.x.s.toNat%90
 p:X.kp=X.x.p.toNat%5
 t:X.kt=X.x.t.toNat%4
 y:(X.sy.toNat:Int)=33+(X.ks:Int)
 n:X.nm=N1.getD X.ku []
 x':X.tx=OT.getD X.kt []
def Pb(X:CM)(B:Nat)(w:World):Nat→Value→Prop
 | 0,v=>∃g,v=.slice (some ⟨g,0,none⟩) 12 12/\w.cell? ⟨g,X.ku,none⟩=some (S X.nm)
 | 1,v=>v=.pointer (some ⟨X.bx,0,none⟩)
 | 2,v=>v=.int .u8 (X.x.u.toNat:Nat)
 | 3,v=>v=.int .u8 (X.ku:Nat)
 | 4,v=>∃g,v=.pointer (some ⟨g,X.ku,none⟩)/\w.cell? ⟨g,X.ku,none⟩=some (S X.nm)
 | 5,v=>v=S X.nm
 | 6,v=>v=.pointer (some ⟨X.bx,1,none⟩)
 | 7,v=>v=.int .u8 (X.x.s.toNat:Nat)
 | 8,v=>v=.int .u8 (X.ks:Nat)
 | 9,v=>v=.int .u8 (X.sy.toNat:Nat)
 | 10,v=>∃g,v=.slice (some ⟨g,0,none⟩) 1 1/\w.cell? ⟨g,0,none⟩=some (.int .u8 (X.sy.toNat:Nat))
 | 11,v=>v=S [X.sy]
 | 12,v=>v=.pointer (some ⟨X.bx,2,none⟩)
 | 13,v=>v=.int .u8 (X.x.p.toNat:Nat)
 | 14,v=>v=.int .u8 (X.kp:Nat)
 | 15,v=>v=.int .i64 (X.kp:Nat)
 | 16,v=>v=.int .i64 (1+(X.kp:Int))
 | 17,v=>∃g,v=.slice (some ⟨g,0,none⟩) 4 4/\w.cell? ⟨g,X.kt,none⟩=some (S X.tx)
 | 18,v=>v=.pointer (some ⟨X.bx,3,none⟩)
 | 19,v=>v=.int .u8 (X.x.t.toNat:Nat)
 | 20,v=>v=.int .u8 (X.kt:Nat)
 | 21,v=>∃g,v=.pointer (some ⟨g,X.kt,none⟩)/\w.cell? ⟨g,X.kt,none⟩=some (S X.tx)
 | 22,v=>v=S X.tx
 | 23,v=>v=.agg #[S X.nm,S [X.sy],.int .i64 (1+(X.kp:Int)),S X.tx]
 | 24,v=>∃g,v=.pointer (some ⟨g,0,none⟩)/\w.heap[g]?=some (.cells #[S [],S [],.int .i64 0,S []] 40)/\B<=g
 | _,_=>True
theorem Pb.ext{X:CM}{B:Nat}{w w':World}(hx:Aa w w'){i:Nat}(hi:i<25){v:Value}(h:Pb X B w i v):Pb X B w' i v:=by
 rcases(by omega:i=0∨i=1∨i=2∨i=3∨i=4∨i=5∨i=6∨i=7∨i=8∨i=9∨i=10∨i=11∨i=12∨i=13∨i=14∨i=15∨i=16∨i=17∨i=18∨i=19∨i=20∨i=21∨i=22∨i=23∨i=24)with rfl|rfl|rfl|rfl|rfl|rfl|rfl|rfl|rfl|rfl|rfl|rfl|rfl|rfl|rfl|rfl|rfl|rfl|rfl|rfl|rfl|rfl|rfl|rfl|rfl
 ·obtain⟨g,h1,h2⟩:=h;exact⟨g,h1,hx.cellS h2⟩
 ·exact h
 ·exact h
 ·exact h
 ·obtain⟨g,h1,h2⟩:=h;exact⟨g,h1,hx.cellS h2⟩
 ·exact h
 ·exact h
 ·exact h
 ·exact h
 ·exact h
 ·obtain⟨g,h1,h2⟩:=h;exact⟨g,h1,hx.cellS h2⟩
 ·exact h
 ·exact h
 ·exact h
 ·exact h
 ·exact h
 ·exact h
 ·obtain⟨g,h1,h2⟩:=h;exact⟨g,h1,hx.cellS h2⟩
 ·exact h
 ·exact h
 ·exact h
 ·obtain⟨g,h1,h2⟩:=h;exact⟨g,h1,hx.cellS h2⟩
 ·exact h
 ·exact h
 ·obtain⟨g,h1,h2,h3⟩:=h;exact⟨g,h1,(hx.block _ (AqI h2)).trans h2,h3⟩
structure JM(X:CM)(V:World)(a0:Act)(ops:Array Oper)(l:Array Bool)(a:Act)(w:World):Prop where
 fr:GX (fun d=>d=6∨(17<=d/\d<=40)) a0 a
 cl:∀j k,Sb.contains (j,k)=true→l.getD j false=true→l.getD k false=true
 ext:l.getD 25 false=false→Aa V w
 fc:l.getD 25 false=false→∀i,i<25→l.getD i false=true→Pb X V.heap.size w i (a.eval (.tmp (IJ i)))
 fin:l.getD 25 false=true→∃g,a.eval (.tmp 6)=.pointer (some ⟨g,0,none⟩)/\w.heap[g]?=some (.cells #[S X.nm,S [X.sy],.int .i64 (1+(X.kp:Int)),S X.tx] 40)/\Aa V w
theorem AmR{i j:Nat}(hi:i<25)(hj:j<25)(h:i≠j):IJ j≠IJ i:=by unfold IJ;split<;>split<;>omega
theorem AmS{i:Nat}(hi:i<25):IJ i<=40:=by unfold IJ;split<;>omega
theorem AmQ{i:Nat}(hi:i<25):IJ i=6∨(17<=IJ i/\IJ i<=40):=by unfold IJ;split<;>omega
theorem eval_put{a:Act}{d:Nat}(v:Value)(h:d<a.tmps.size):(a.put (some d) v).eval (.tmp d)=v:=by
 simp only [Act.eval,Act.put,Array.getD_eq_getD_getElem?];rw [Array.getElem?_setIfInBounds_self_of_lt h]
 rfl
section
variable {X : CM} {V : World} {a0 a : Act} {ops : Array Oper} {l : Array Bool} {w : World}
theorem JM.before(h:JM X V a0 ops l a w)(wC:l.getD 25 false=true):∀i,i<25→l.getD i false=true:=by
 intro i hi;have k24:=h.cl 25 24 (by decide) wC;have Xq:=h.cl 25 23 (by decide) wC;have k5:=h.cl 23 5 (by decide) Xq;have l4:=h.cl 23 11 (by decide) Xq;have l5:=h.cl 23 16 (by decide) Xq;have k22:=h.cl 23 22 (by decide) Xq;have k4:=h.cl 5 4 (by decide) k5;have k0:=h.cl 4 0 (by decide) k4;have k3:=h.cl 4 3 (by decide) k4;have k2:=h.cl 3 2 (by decide) k3;have k1:=h.cl 2 1 (by decide) k2;have lz:=h.cl 11 10 (by decide) l4;have k9:=h.cl 10 9 (by decide) lz;have k8:=h.cl 9 8 (by decide) k9;have k7:=h.cl 8 7 (by decide) k8;have k6:=h.cl 7 6 (by decide) k7;have jG:=h.cl 16 15 (by decide) l5;have jF:=h.cl 15 14 (by decide) jG;have jE:=h.cl 14 13 (by decide) jF;have k12:=h.cl 13 12 (by decide) jE;have Xp:=h.cl 22 21 (by decide) k22;have l6:=h.cl 21 17 (by decide) Xp;have Qx:=h.cl 21 20 (by decide) Xp;have Xo:=h.cl 20 19 (by decide) Qx;have jH:=h.cl 19 18 (by decide) Xo
 rcases(by omega:i=0∨i=1∨i=2∨i=3∨i=4∨i=5∨i=6∨i=7∨i=8∨i=9∨i=10∨i=11∨i=12∨i=13∨i=14∨i=15∨i=16∨i=17∨i=18∨i=19∨i=20∨i=21∨i=22∨i=23∨i=24)with rfl|rfl|rfl|rfl|rfl|rfl|rfl|rfl|rfl|rfl|rfl|rfl|rfl|rfl|rfl|rfl|rfl|rfl|rfl|rfl|rfl|rfl|rfl|rfl|rfl<;>assumption
theorem JM.put(h:JM X V a0 ops l a w)(hs:l.size=26)(hz:51<=a0.tmps.size){i:Nat}(hi:i<25)(Av:l.getD i false=false)(hd:∀k,Sb.contains (i,k)=true→l.getD k false=true){v:Value}{w':World}(hx:Aa w w')(hf:Pb X V.heap.size w' i v):JM X V a0 ops (l.setIfInBounds i true) (a.put (some (IJ i)) v) w':=by
 have n25:l.getD 25 false=false:=by
  cases e:l.getD 25 false
  ·rfl
  ·have:=h.before e i hi;rw [Av]at this;cases this
 have m25:(l.setIfInBounds i true).getD 25 false=false:=(by rw [getD_set_ne false (show i≠25 by omega)];exact n25);refine⟨h.fr.put (AmQ hi) v,?_,fun _=>(h.ext n25).trans hx,?_,fun e=>by rw [m25]at e;cases e⟩
 ·intro j k hjk hj
  have hk:l.getD k false=true:=by
   by_cases e:i=j
   ·subst e;exact hd k hjk
   ·rw [getD_set_ne false e]at hj;exact h.cl j k hjk hj
  by_cases e:i=k
  ·subst e;rw [Iv (by omega)]
  ·rw [getD_set_ne false e];exact hk
 ·intro _ j hj hl;by_cases e:i=j
  ·subst e;rw [eval_put v (by rw [h.fr.size];have:=AmS hi;omega)];exact hf
  ·rw [getD_set_ne false e]at hl;rw [uT v (AmR hi hj e)];exact(h.fc n25 j hj hl).ext hx hj
end
theorem JM.not25{X:CM}{V:World}{a0 a:Act}{ops:Array Oper}{l:Array Bool}{w:World}(h:JM X V a0 ops l a w){i:Nat}(hi:i<25)(Av:l.getD i false=false):l.getD 25 false=false:=by
 cases e:l.getD 25 false
 ·rfl
 ·have:=h.before e i hi;rw [Av]at this;cases this
theorem Ao2{P:Program}{Q:Exit→Act→World→Prop}{o:Oper}{a:Act}{w:World}{K:Act→World→Prop}{f:FuncId}{ts:Array TypeId}(ho:o.op=.call {callee:=.value (.func f),args:=#[],argTypes:=ts})(hen:Enters P f)
  {R:Ending→World→Prop} (hc:Calls P f #[] w R) (hR:∀e w'',R e w''→∃u,e=.returned u/\K (a.put o.dst u) w''):o.wp P a w K Q:=by
 have h2:(execOp a.eval o).run P w=.ok (.enter f #[]) w:=by unfold execOp;simp [ho,resolve,invoke,Act.eval,go_sem];exact hen _ w
 unfold Oper.wp;rw [h2,Oper.upon_enter];refine hc.mono fun e w'' h=>?_;obtain⟨u,rfl,hk⟩:=hR e w'' h;exact hk
theorem AnM:∀k,k<4→(#[S [],S [115,97,110,100],S [97,32,98],S [49,47,50,32,116,111,32,51]]:Array Value)[k]?=some (S (OT.getD k [])):=by
 intro k hk
 rcases(by omega:k=0∨k=1∨k=2∨k=3)with rfl|rfl|rfl|rfl<;>rfl
theorem Afs(b:Nat)(w:World):(Instr.fieldAt 99 (.pointer (some ⟨b,0,none⟩)) 0).run Tryz.prog w=.ok (.pointer (some ⟨b,0,none⟩)) w:=by simp [go_sem]
theorem Aft(b:Nat)(w:World):(Instr.fieldAt 99 (.pointer (some ⟨b,0,none⟩)) 1).run Tryz.prog w=.ok (.pointer (some ⟨b,1,none⟩)) w:=by simp [go_sem]
theorem Afu(b:Nat)(w:World):(Instr.fieldAt 99 (.pointer (some ⟨b,0,none⟩)) 2).run Tryz.prog w=.ok (.pointer (some ⟨b,2,none⟩)) w:=by simp [go_sem]
theorem Afv(b:Nat)(w:World):(Instr.fieldAt 99 (.pointer (some ⟨b,0,none⟩)) 3).run Tryz.prog w=.ok (.pointer (some ⟨b,3,none⟩)) w:=by simp [go_sem]
theorem Xw{w:World}{b o:Nat}{n:Int}(h:w.cell? ⟨b,o,none⟩=some (.int .u8 n)):(Instr.loadAt 5 (.pointer (some ⟨b,o,none⟩))).run Tryz.prog w=.ok (.int .u8 n) w:=by simp [go_sem,h]
theorem mz{w:World}{b o:Nat}{s:Bs}(h:w.cell? ⟨b,o,none⟩=some (S s)):(Instr.loadAt 9 (.pointer (some ⟨b,o,none⟩))).run Tryz.prog w=.ok (S s) w:=by simp [go_sem,h]
theorem AcY(n:Int)(w:World):(Instr.buildSlice 52 1 #[(0,.int .u8 n)]).run Tryz.prog w=.ok (.slice (some ⟨w.heap.size,0,none⟩) 1 1) (w.alloc (.cells #[.int .u8 n] 5)):=by simp [go_sem]
theorem Adb(w:World):(Instr.buildSlice 23 4 #[(0,S []),(1,S [115,97,110,100]),(2,S [97,32,98]),(3,S [49,47,50,32,116,111,32,51])]).run Tryz.prog w=.ok (.slice (some ⟨w.heap.size,0,none⟩) 4 4) (w.alloc (.cells #[S [],S [115,97,110,100],S [97,32,98],S [49,47,50,32,116,111,32,51]] 9)):=by simp [go_sem]
theorem AcZ(u s t:Bs)(p:Int)(w:World):(Instr.build 40 #[(0,S u),(1,S s),(2,.int .i64 p),(3,S t)]).run Tryz.prog w=.ok (.agg #[S u,S s,.int .i64 p,S t]) w:=by simp [go_sem]
theorem AdY{w:World}{g:Nat}{y:UInt8}(h:w.cell? ⟨g,0,none⟩=some (.int .u8 (y.toNat:Nat))):(convert 52 9 (.slice (some ⟨g,0,none⟩) 1 1)).run Tryz.prog w=.ok (S [y]) w:=
 run_convert_bytes_back (P:=Tryz.prog) w 52 9 5 ⟨g,0,none⟩ 1 [y] Tryz.underlying52 Tryz.underlying5 Tryz.underlying9 (by
  intro j hj;have:j=0:=(by simpa using hj);subst this;rw [Addr.add_lit]
  exact h)
theorem AdX(k:Nat)(h:k<5)(w:World):(convert 5 3 (.int .u8 (k:Nat))).run Tryz.prog w=.ok (.int .i64 (k:Nat)) w:=by
 have h1:IntKind.wrap .i64 (k:Int)=k:=AqQ _ (by omega);simp [go_sem,h1]
theorem Yh(n k:Nat)(q:Nat)(hq:q<256)(hk:k=n%q)(AG:0<q):((n:Int).tmod (q:Int))=(k:Int)/\IntKind.wrap .u8 (k:Int)=(k:Int):=by
 have h0:k<q:=(by rw [hk];exact Nat.mod_lt _ AG);refine⟨by rw [Int.tmod_eq_emod_of_nonneg (by omega),hk];exact(Int.natCast_emod n q).symm,?_⟩;simp [IntKind.wrap,IntKind.bits,IntKind.signed];omega
theorem Amm(n k:Nat)(hk:k=n%12)(x y:Operand)(w:World):((do eqGuard .rem 5 x y (.int .u8 (n:Nat)) (.int .u8 12);binOp .rem 5 (.int .u8 (n:Nat)) (.int .u8 12)):Sem Value).run Tryz.prog w=.ok (.int .u8 (k:Nat)) w:=by
 obtain⟨h1,-⟩:=Yh n k 12 (by omega) hk (by omega);have h1':(n:Int).tmod 12=(k:Int):=h1;simp [go_sem,h1']
theorem Amp(n k:Nat)(hk:k=n%90)(x y:Operand)(w:World):((do eqGuard .rem 5 x y (.int .u8 (n:Nat)) (.int .u8 90);binOp .rem 5 (.int .u8 (n:Nat)) (.int .u8 90)):Sem Value).run Tryz.prog w=.ok (.int .u8 (k:Nat)) w:=by
 obtain⟨h1,-⟩:=Yh n k 90 (by omega) hk (by omega);have h1':(n:Int).tmod 90=(k:Int):=h1;simp [go_sem,h1']
theorem Amo(n k:Nat)(hk:k=n%5)(x y:Operand)(w:World):((do eqGuard .rem 5 x y (.int .u8 (n:Nat)) (.int .u8 5);binOp .rem 5 (.int .u8 (n:Nat)) (.int .u8 5)):Sem Value).run Tryz.prog w=.ok (.int .u8 (k:Nat)) w:=by
 obtain⟨h1,-⟩:=Yh n k 5 (by omega) hk (by omega);have h1':(n:Int).tmod 5=(k:Int):=h1;simp [go_sem,h1']
theorem Amn(n k:Nat)(hk:k=n%4)(x y:Operand)(w:World):((do eqGuard .rem 5 x y (.int .u8 (n:Nat)) (.int .u8 4);binOp .rem 5 (.int .u8 (n:Nat)) (.int .u8 4)):Sem Value).run Tryz.prog w=.ok (.int .u8 (k:Nat)) w:=by
 obtain⟨h1,-⟩:=Yh n k 4 (by omega) hk (by omega);have h1':(n:Int).tmod 4=(k:Int):=h1;simp [go_sem,h1']
theorem AbU(k:Nat)(y:UInt8)(hk:k<90)(hy:(y.toNat:Int)=33+(k:Int))(p q:Operand)(w:World):((do eqGuard .add 5 p q (.int .u8 33) (.int .u8 (k:Nat));binOp .add 5 (.int .u8 33) (.int .u8 (k:Nat))):Sem Value).run Tryz.prog w=.ok (.int .u8 (y.toNat:Nat)) w:=by
 have h2:IntKind.wrap .u8 (33+(k:Int))=(y.toNat:Int):=(by rw [hy];simp [IntKind.wrap,IntKind.bits,IntKind.signed];omega);simp [go_sem,h2]
theorem AbT(k:Nat)(hk:k<5)(p q:Operand)(w:World):((do eqGuard .add 3 p q (.int .i64 1) (.int .i64 (k:Nat));binOp .add 3 (.int .i64 1) (.int .i64 (k:Nat))):Sem Value).run Tryz.prog w=.ok (.int .i64 (1+(k:Int))) w:=by
 have h2:IntKind.wrap .i64 (1+(k:Int))=1+(k:Int):=AqQ _ (by omega);simp [go_sem,h2]
theorem kr(g k n:Nat)(hk:k<n)(w:World):(Instr.indexAt 23 (.slice (some ⟨g,0,none⟩) n n) (.int .u8 (k:Nat))).run Tryz.prog w=.ok (.pointer (some ⟨g,k,none⟩)) w:=by
 have h0:(0:Int)<=(k:Int):=(by omega);have h1:(k:Int)<(n:Int):=(by omega);simp [go_sem,hk]
theorem QY{P:Program}{o:Oper}{a:Act}{w w':World}{v:Value}{K:Act→World→Prop}{Q:Exit→Act→World→Prop}{op:BinOp}{t t2:TypeId}{x y:Operand}{D:Option Nat}(p:.binOp op t x y t2=o.op)(d:D=o.dst)(h:((do eqGuard op t x y (a.eval x) (a.eval y);binOp op t (a.eval x) (a.eval y)):Sem Value).run P w=.ok v w')(hk:K (a.put D v) w'):o.wp P a w K Q:=
 IO (do eqGuard op t x y (a.eval x) (a.eval y);binOp op t (a.eval x) (a.eval y)) (by unfold execOp;rw [←p]) h (d▸hk)
theorem Aal{P:Program}{o:Oper}{a:Act}{w w':World}{v:Value}{K:Act→World→Prop}{Q:Exit→Act→World→Prop}{t:TypeId}{x y:Operand}{D:Option Nat}(p:.indexAddr t x y=o.op)(d:D=o.dst)(h:(Instr.indexAt t (a.eval x) (a.eval y)).run P w=.ok v w')(hk:K (a.put D v) w'):o.wp P a w K Q:=
 IO (Instr.indexAt t (a.eval x) (a.eval y)) (by unfold execOp;rw [←p]) h (d▸hk)
theorem An2{w:World}{g:Nat}{u s t:Bs}{p:Int}(h:w.heap[g]?=some (.cells #[S [],S [],.int .i64 0,S []] 40))(B:Nat)(hB:B<=g) :
  ∃W2,(Instr.storeAt 40 (.pointer (some ⟨g,0,none⟩)) (.agg #[S u,S s,.int .i64 p,S t])).run Tryz.prog w=.ok () W2/\W2.heap[g]?=some (.cells #[S u,S s,.int .i64 p,S t] 40)/\∀w0,Aa w0 w→w0.heap.size<=B→Aa w0 W2:=by
 have h0:=Ab (o:=0) h rfl;have h1:=Ab (o:=1) h rfl;have h2:=Ab (o:=2) h rfl;have h3:=Ab (o:=3) h rfl;have z0:=AK (o:=0) h;have z1:=AK (o:=1) h;have z2:=AK (o:=2) h;have z3:=AK (o:=3) h;refine⟨(((w.setCell ⟨g,0,none⟩ (S u)).setCell ⟨g,1,none⟩ (S s)).setCell ⟨g,2,none⟩ (.int .i64 p)).setCell ⟨g,3,none⟩ (S t),by simp [go_sem,h0,h1,h2,h3,z0,z1,z2,z3],?_,fun w0 hx h0=>?_⟩
 ·simp only [World.setCell,Array.getElem?_modify,h];simp
 ·have hg:w0.heap.size<=g:=(by omega);exact(((hx.setCell (p:=⟨g,0,none⟩) hg _).setCell (p:=⟨g,1,none⟩) hg _).setCell (p:=⟨g,2,none⟩) hg _).setCell (p:=⟨g,3,none⟩) hg _
theorem Amj{X:CM}(ok:X.Ok){V:World}(hb:V.heap[X.bx]?=some (.cells #[.int .u8 (X.x.u.toNat:Nat),.int .u8 (X.x.s.toNat:Nat),.int .u8 (X.x.p.toNat:Nat),.int .u8 (X.x.t.toNat:Nat)] 99))
  {a0:Act} {ops:Array Oper} (hop:ops.toList.map (fun o=>(o.op,o.dst))=XS) (AM:aB ops Sb=true) (yD:Zy ops=true) (hz:51<=a0.tmps.size) (e5:a0.eval (.tmp 5)=.pointer (some ⟨X.bx,0,none⟩)) {id:Nat} {Q:Exit→Act→World→Prop}
  (hend:∀(u:Nat→Value) (g:Nat) w,w.heap[g]?=some (.cells #[S X.nm,S [X.sy],.int .i64 (1+(X.kp:Int)),S X.tx] 40)→Aa V w→
   Q .normal ⟨(a0.tmps.toList.take 6++(.pointer (some ⟨g,0,none⟩)::((a0.tmps.toList.drop 7).take 10++((List.range 24).map u++a0.tmps.toList.drop 41)))).toArray,a0.defers⟩ w) :
  (Code.region id ops true).wp Tryz.prog Q a0 V:=by
 have eg:Enters Tryz.prog 46:=enters_of Tryz.func46 (by kernel_rfl) rfl
 have AhN:ops.size=26:=by
  have:=congrArg List.length hop
  simpa [XS]using this
 refine Aan (JM X V a0 ops) (by kernel_rfl) (fun i o ho=>(qC yD i o ho).2) (fun i o ho=>(qC yD i o ho).1) ?_ ?_ ?_
 ·refine⟨GX.refl _ _,?_,fun _=>(Aa.refl V).drew,?_,?_⟩
  ·intro j k _ h;rw [getD_replicate_false]at h;cases h
  ·intro _ i _ h;rw [getD_replicate_false]at h;cases h
  ·intro h;rw [getD_replicate_false]at h;cases h
 ·intro l a w i o hJ hs Av ho hd;rw [AhN]at hs;have hi:i<26:=(by have:=(Array.getElem?_eq_some_iff.1 ho).1;omega);have hL:=qy hop ho;have Ww:=J6 hd
  have dep:∀j k,Sb.contains (j,k)=true→j=i→l.getD k false=true:=by rintro j k hjk rfl;have h1:=List.all_eq_true.1 AM (j,k) (by simpa using hjk);rw [ho]at h1;exact Ww k h1
  have dp:∀k,Sb.contains (i,k)=true→l.getD k false=true:=fun k hk=>dep i k hk rfl;have E5:a.eval (.tmp 5)=.pointer (some ⟨X.bx,0,none⟩):=(by rw [hJ.fr.eval (by omega)];exact e5);by_cases ay:i<25
  ·have n25:=hJ.not25 ay Av;have hE:=hJ.ext n25;have Dj:=(hE.block _ (AqI hb)).trans hb;have c0:=Ab (o:=0) Dj rfl;have c1:=Ab (o:=1) Dj rfl;have c2:=Ab (o:=2) Dj rfl;have c3:=Ab (o:=3) Dj rfl;have F:=fun k (hk:k<25) (hl:l.getD k false=true)=>hJ.fc n25 k hk hl;have fin:∀v w',Aa w w'→Pb X V.heap.size w' i v→JM X V a0 ops (l.setIfInBounds i true) (a.put (some (IJ i)) v) w':=fun v w' hx hf=>hJ.put hs hz ay Av dp hx hf;have b1:X.ku<12:=(by have:=ok.u;omega);have b2:X.ks<90:=(by have:=ok.s;omega);have b3:X.kp<5:=(by have:=ok.p;omega);have b4:X.kt<4:=by have:=ok.t;omega
   rcases(by omega:i=0∨i=1∨i=2∨i=3∨i=4∨i=5∨i=6∨i=7∨i=8∨i=9∨i=10∨i=11∨i=12∨i=13∨i=14∨i=15∨i=16∨i=17∨i=18∨i=19∨i=20∨i=21∨i=22∨i=23∨i=24)with rfl|rfl|rfl|rfl|rfl|rfl|rfl|rfl|rfl|rfl|rfl|rfl|rfl|rfl|rfl|rfl|rfl|rfl|rfl|rfl|rfl|rfl|rfl|rfl|rfl
   all_goals
    simp only [XS,List.getElem?_cons_zero,List.getElem?_cons_succ,AqO,Prod.mk.injEq]at hL;obtain⟨p,d⟩:=hL
   ·refine Ao2 p.symm eg (Akd X.ku b1 w) ?_;rintro e w'' ⟨g,rfl,h1,-,h2⟩;refine⟨_,rfl,?_⟩;rw [←d];exact fin _ _ h2 ⟨g,rfl,by rw [ok.n];exact h1⟩
   ·refine Mg p d (by rw [E5];exact Afs _ _) ?_;exact fin _ _ (Aa.refl w) rfl
   ·have s1:=F 1 (by omega) (dep 2 1 (by decide) rfl);replace s1:a.eval (.tmp 18)=_:=s1;refine J7 p d (by rw [s1];exact Xw c0) ?_;exact fin _ _ (Aa.refl w) rfl
   ·have s2:=F 2 (by omega) (dep 3 2 (by decide) rfl);replace s2:a.eval (.tmp 19)=_:=s2;refine QY p d (by rw [s2];exact Amm _ _ ok.u _ _ w) ?_;exact fin _ _ (Aa.refl w) rfl
   ·obtain⟨g,s0,g0⟩:=F 0 (by omega) (dep 4 0 (by decide) rfl);replace s0:a.eval (.tmp 17)=_:=s0;have s3:=F 3 (by omega) (dep 4 3 (by decide) rfl);replace s3:a.eval (.tmp 20)=_:=s3;refine Aal p d (by rw [s0,s3];exact kr _ _ 12 b1 w) ?_;exact fin _ _ (Aa.refl w) ⟨g,rfl,g0⟩
   ·obtain⟨g,s4,g4⟩:=F 4 (by omega) (dep 5 4 (by decide) rfl);replace s4:a.eval (.tmp 21)=_:=s4;refine J7 p d (by rw [s4];exact mz g4) ?_;exact fin _ _ (Aa.refl w) rfl
   ·refine Mg p d (by rw [E5];exact Aft _ _) ?_;exact fin _ _ (Aa.refl w) rfl
   ·have s6:=F 6 (by omega) (dep 7 6 (by decide) rfl);replace s6:a.eval (.tmp 23)=_:=s6;refine J7 p d (by rw [s6];exact Xw c1) ?_;exact fin _ _ (Aa.refl w) rfl
   ·have s7:=F 7 (by omega) (dep 8 7 (by decide) rfl);replace s7:a.eval (.tmp 24)=_:=s7;refine QY p d (by rw [s7];exact Amp _ _ ok.s _ _ w) ?_;exact fin _ _ (Aa.refl w) rfl
   ·have s8:=F 8 (by omega) (dep 9 8 (by decide) rfl);replace s8:a.eval (.tmp 25)=_:=s8;refine QY p d (by rw [s8];exact AbU _ _ b2 ok.y _ _ w) ?_;exact fin _ _ (Aa.refl w) rfl
   ·have s9:=F 9 (by omega) (dep 10 9 (by decide) rfl);replace s9:a.eval (.tmp 26)=_:=s9;refine IO (Instr.buildSlice 52 1 #[(0,.int .u8 (X.sy.toNat:Nat))]) (by unfold execOp;rw [←p];simp [s9]) (AcY _ w) ?_;rw [←d];exact fin _ _ ((Aa.refl w).alloc _) ⟨w.heap.size,rfl,Ab (AqJ w _) rfl⟩
   ·obtain⟨g,Ul,g10⟩:=F 10 (by omega) (dep 11 10 (by decide) rfl);replace Ul:a.eval (.tmp 27)=_:=Ul;refine IO (convert 52 9 (.slice (some ⟨g,0,none⟩) 1 1)) (by unfold execOp;rw [←p];simp [Ul]) (AdY g10) ?_;rw [←d];exact fin _ _ (Aa.refl w) rfl
   ·refine Mg p d (by rw [E5];exact Afu _ _) ?_;exact fin _ _ (Aa.refl w) rfl
   ·have s12:=F 12 (by omega) (dep 13 12 (by decide) rfl);replace s12:a.eval (.tmp 29)=_:=s12;refine J7 p d (by rw [s12];exact Xw c2) ?_;exact fin _ _ (Aa.refl w) rfl
   ·have mA:=F 13 (by omega) (dep 14 13 (by decide) rfl);replace mA:a.eval (.tmp 30)=_:=mA;refine QY p d (by rw [mA];exact Amo _ _ ok.p _ _ w) ?_;exact fin _ _ (Aa.refl w) rfl
   ·have mB:=F 14 (by omega) (dep 15 14 (by decide) rfl);replace mB:a.eval (.tmp 31)=_:=mB;refine IO (convert 5 3 (.int .u8 (X.kp:Nat))) (by unfold execOp;rw [←p];simp [mB]) (AdX _ b3 w) ?_;rw [←d];exact fin _ _ (Aa.refl w) rfl
   ·have Um:=F 15 (by omega) (dep 16 15 (by decide) rfl);replace Um:a.eval (.tmp 32)=_:=Um;refine QY p d (by rw [Um];exact AbT _ b3 _ _ w) ?_;exact fin _ _ (Aa.refl w) rfl
   ·refine IO (Instr.buildSlice 23 4 #[(0,S []),(1,S [115,97,110,100]),(2,S [97,32,98]),(3,S [49,47,50,32,116,111,32,51])]) (by unfold execOp;rw [←p];simp [Act.eval]) (Adb w) ?_;rw [←d];exact fin _ _ ((Aa.refl w).alloc _) ⟨w.heap.size,rfl,Ab (AqJ w _) (by rw [ok.x'];exact AnM _ b4)⟩
   ·refine Mg p d (by rw [E5];exact Afv _ _) ?_;exact fin _ _ (Aa.refl w) rfl
   ·have mD:=F 18 (by omega) (dep 19 18 (by decide) rfl);replace mD:a.eval (.tmp 35)=_:=mD;refine J7 p d (by rw [mD];exact Xw c3) ?_;exact fin _ _ (Aa.refl w) rfl
   ·have mE:=F 19 (by omega) (dep 20 19 (by decide) rfl);replace mE:a.eval (.tmp 36)=_:=mE;refine QY p d (by rw [mE];exact Amn _ _ ok.t _ _ w) ?_;exact fin _ _ (Aa.refl w) rfl
   ·obtain⟨g,mC,g17⟩:=F 17 (by omega) (dep 21 17 (by decide) rfl);replace mC:a.eval (.tmp 34)=_:=mC;have mF:=F 20 (by omega) (dep 21 20 (by decide) rfl);replace mF:a.eval (.tmp 37)=_:=mF;refine Aal p d (by rw [mC,mF];exact kr _ _ 4 b4 w) ?_;exact fin _ _ (Aa.refl w) ⟨g,rfl,g17⟩
   ·obtain⟨g,mG,g21⟩:=F 21 (by omega) (dep 22 21 (by decide) rfl);replace mG:a.eval (.tmp 38)=_:=mG;refine J7 p d (by rw [mG];exact mz g21) ?_;exact fin _ _ (Aa.refl w) rfl
   ·have s5:=F 5 (by omega) (dep 23 5 (by decide) rfl);replace s5:a.eval (.tmp 22)=_:=s5;have lZ:=F 11 (by omega) (dep 23 11 (by decide) rfl);replace lZ:a.eval (.tmp 28)=_:=lZ;have Un:=F 16 (by omega) (dep 23 16 (by decide) rfl);replace Un:a.eval (.tmp 33)=_:=Un;have s22:=F 22 (by omega) (dep 23 22 (by decide) rfl);replace s22:a.eval (.tmp 39)=_:=s22;refine IO (Instr.build 40 #[(0,S X.nm),(1,S [X.sy]),(2,.int .i64 (1+(X.kp:Int))),(3,S X.tx)]) (by unfold execOp;rw [←p];simp [s5,lZ,Un,s22]) (AcZ _ _ _ _ w) ?_;rw [←d];exact fin _ _ (Aa.refl w) rfl
   ·obtain⟨i0,Lt,hz0,-,-⟩:=info_parts Tryz.infoEn;refine Aou p.symm Lt hz0 ?_;rw [←d];exact fin _ _ ((Aa.refl w).alloc _) ⟨w.heap.size,rfl,AqJ w _,hE.size⟩
  ·obtain rfl:i=25:=(by omega);simp only [XS,List.getElem?_cons_zero,List.getElem?_cons_succ,AqO,Prod.mk.injEq]at hL;obtain⟨p,d⟩:=hL;have hE:=hJ.ext Av;have s23:a.eval (.tmp 40)=_:=hJ.fc Av 23 (by omega) (dep 25 23 (by decide) rfl);obtain⟨g,Yl,h24,hg⟩:=hJ.fc Av 24 (by omega) (dep 25 24 (by decide) rfl);replace Yl:a.eval (.tmp 6)=_:=Yl;have hst:=An2 (u:=X.nm) (s:=[X.sy]) (p:=1+(X.kp:Int)) (t:=X.tx) h24;obtain⟨W2,AhS,Xa,AhT⟩:=hst V.heap.size hg
   have hrun:(execOp a.eval o).run Tryz.prog w=.ok .skip W2:=by unfold execOp;rw [←p];show (do Instr.storeAt 40 (a.eval (.tmp 6)) (a.eval (.tmp 40));pure Next.skip:Sem Next).run Tryz.prog w=_;rw [Yl,s23];simp [AhS]
   unfold Oper.wp;rw [hrun,Oper.upon_skip,←d];show JM X V a0 ops (l.setIfInBounds 25 true) a W2;have t25:(l.setIfInBounds 25 true).getD 25 false=true:=Iv (by omega);refine⟨hJ.fr,?_,fun e=>(by rw [t25]at e;cases e),fun e=>(by rw [t25]at e;cases e),fun _=>⟨g,Yl,Xa,AhT V hE (AqK _)⟩⟩;intro j k hjk hj
   have hk:l.getD k false=true:=by
    by_cases e:25=j
    ·subst e;exact dp k hjk
    ·rw [getD_set_ne false e]at hj;exact hJ.cl j k hjk hj
   by_cases e:25=k
   ·subst e;exact t25
   ·rw [getD_set_ne false e];exact hk
 ·intro l a w hJ hall;obtain⟨g,h1,h2,h3⟩:=hJ.fin (hall 25 (by omega))
  have I5:a=⟨(a0.tmps.toList.take 6++(.pointer (some ⟨g,0,none⟩)::((a0.tmps.toList.drop 7).take 10++((List.range 24).map (fun k=>a.eval (.tmp (17+k)))++a0.tmps.toList.drop 41)))).toArray,a0.defers⟩:=by
   refine Zz ?_ ?_ hJ.fr.defers
   ·rw [hJ.fr.size];simp only [List.length_append,List.length_take,List.length_cons,List.length_map,List.length_range,List.length_drop,Array.length_toList];omega
   ·intro e he;simp only [List.length_append,List.length_take,List.length_cons,List.length_map,List.length_range,List.length_drop,Array.length_toList]at he;have hlt:e<a0.tmps.size:=by omega
    have out:¬(e=6∨(17<=e/\e<=40))→a.eval (.tmp e)=a0.tmps.toList[e]'(by simpa using hlt):=fun h=>by rw [hJ.fr.eval h];simp [Act.eval,Array.getD_eq_getD_getElem?,Array.getElem?_eq_getElem hlt]
    by_cases c1:e<6
    ·rw [List.getElem_append_left (by simp;omega),List.getElem_take];exact out (by omega)
    rw [List.getElem_append_right (by simp;omega)];simp only [List.length_take,Array.length_toList,Nat.min_eq_left (show 6<=a0.tmps.size by omega)];by_cases c2:e=6
    ·subst c2;exact h1
    obtain⟨f,hf⟩:∃f,e=f+7:=⟨e-7,by omega⟩;subst hf;have e1:f+7-6=f+1:=(by omega);simp only [e1,List.getElem_cons_succ];by_cases c3:f<10
    ·rw [List.getElem_append_left (by simp;omega),List.getElem_take,List.getElem_drop];rw [out (by omega)]
     congr 1;omega
    rw [List.getElem_append_right (by simp;omega)];have e2:((a0.tmps.toList.drop 7).take 10).length=10:=(by simp;omega);simp only [e2];by_cases c4:f<34
    ·rw [List.getElem_append_left (by simp;omega)];simp only [List.getElem_map,List.getElem_range];rw [show 17+(f-10)=f+7 by omega]
    rw [List.getElem_append_right (by simp;omega)];simp only [List.length_map,List.length_range,List.getElem_drop];rw [out (by omega)]
    congr 1
    omega
  rw [I5];exact hend _ g w h2 h3
end Go.Proofs.YtjalkoacphhgdaaGreatDoor
namespace Go.Proofs.YtjalkoacphhgdaaGreatDoor
open Go.RowKit Kl
theorem AmA{P:Program}{w:World}(ts:Array TypeId)(t:TypeId)(k:IntKind)(a b:Int):(Builtin.min_ ts t #[.int k a,.int k b]).run P w=.ok (.int k (min a b)) w:=by
 have m:∀x y:Int,(if y<x then y else x)=min x y:=(by intro x y;split<;>omega);simp only [Builtin.min_,List.foldlM_cons,List.foldlM_nil,Builtin.min2];simp [m]
def pT(l:List En)(w:World)(e:Ending)(w':World):Prop:=∃A c,e=.returned (.slice A l.length c)/\Ad w' A (AQ l)/\l.length<=c/\c<=9223372036854775807/\Aa w w'
theorem AjD(d:List Dr)(A:Option Addr)(c:Nat)(w:World)(hr:Ad w A (Hl d))(hc:d.length<=c)(hcm:c<=9223372036854775807) :
  Calls Tryz.prog 13 #[.slice A d.length c] w (pT (GL d) w):=by
 have vv:=@AmA Tryz.prog;have FA:=AqH hr;obtain⟨n,hn⟩:=AqG (min d.length 8);have hmn:min (d.length:Int) 8=(n:Int):=(by rw [hn];omega);have hn8:n<=8:=(by omega);have Cc:n<=d.length:=(by omega);have ApV:(n:Int)<=(d.length:Int):=(by omega);have WQ:(n:Int)<=(c:Int):=(by omega);have Gk:(0:Int)<=(n:Int):=by omega
 have Rr:=AqH (show GL d=(d.take n).foldl FQ [] by
  unfold GL
  rw [hn,show d.take 8=d.take (min d.length 8)by by_cases h:8<=d.length;rw [Nat.min_eq_right h];rw [AqS (by omega),AqS (by omega)]])
 have U9:=AqH Cc;clear hr hn;go_enter Tryz.func13,Tryz.ntmps13
 go_upto_region 3 with fail
 clear hmn vv
 go_loopw [3,13] (fun ov kv wr=>∃(k:Nat) (l:List En),kv=.int .i64 (k:Nat)/\k<=n/\l=(d.take k).foldl FQ []/\l.length<=k/\wr.ownsRow w.heap.size 40 4 ov l.length (AQ l)/\Aa w wr) (fun _ kv _=>n-(intOf kv).toNat)
 case atStart=>exact⟨0,[],rfl,by omega,by simp,by simp,⟨rfl,.inl ⟨rfl,rfl⟩⟩,Aa.refl _⟩
 case round=>
  obtain⟨k,l,rfl,hk,hl,hlk,hown,Ac⟩:=hrel;have HL:=AqH hl;clear hl;by_cases hkn:k<n
  ·have Cz:k<d.length:=(by omega);obtain⟨b,o,rfl,hg1,hg2,hg3,hg4⟩:=AlX (FA.out.ext Ac) Cz;obtain⟨x,hx⟩:=AqG (d[k]);rw [←hx]at hg1 hg2 hg3 hg4;have HX:=AqH hx;have hk0:(0:Int)<=(k:Int):=(by omega);have BH:(k:Int)<(n:Int):=(by omega);have v1:IntKind.wrap .i64 ((k:Int)+1)=(k:Int)+1:=AqQ _ (by omega);have hxb:=AqJ wr (.cells #[.int .u8 (x.u.toNat:Nat),.int .u8 (x.s.toNat:Nat),.int .u8 (x.p.toNat:Nat),.int .u8 (x.t.toNat:Nat)] 99);have hx1:=(Aa.refl wr).alloc (.cells #[.int .u8 (x.u.toNat:Nat),.int .u8 (x.s.toNat:Nat),.int .u8 (x.p.toNat:Nat),.int .u8 (x.t.toNat:Nat)] 99);clear hx;have hE:=Ac.trans hx1;have hown1:=AC hown hx1;have Rs:=AqH hown1;have HE:=AqH hE;obtain⟨oP,oc,rfl⟩:=Uc (by omega) hown
   go_upto_region 5 with fail
   generalize wr.alloc (.cells #[.int .u8 (x.u.toNat:Nat),.int .u8 (x.s.toNat:Nat),.int .u8 (x.p.toNat:Nat),.int .u8 (x.t.toNat:Nat)] 99)=V at *;obtain⟨bx,AA⟩:=AqG wr.heap.size;rw [←AA]at hxb ⊢;clear AA hg1 hg2 hg3 hg4 hx1 hown Ac hown1 hE
   go_cut [6] (fun v wx=>∃eb,v=.pointer (some ⟨eb,0,none⟩)/\wx.heap[eb]?=some (.cells #[S (Fv x).u,S (Fv x).s,.int .i64 (Fv x).p,S (Fv x).t] 40)/\Aa V wx)
   case first=>
    obtain⟨sy,Dz⟩:=AqG (33+x.s%90:UInt8)
    have AhW:(sy.toNat:Int)=33+((x.s.toNat%90:Nat):Int):=by have h1:(x.s%90).toNat=x.s.toNat%90:=(by rw [UInt8.toNat_mod];rfl);have h2:x.s.toNat%90<90:=Nat.mod_lt _ (by decide);rw [Dz,UInt8.toNat_add,h1];show (((33+x.s.toNat%90)%256:Nat):Int)=_;omega
    have HME:=AqH (show Fv x=⟨N1.getD (x.u.toNat%12) [],[sy],1+((x.p.toNat%5:Nat):Int),OT.getD (x.t.toNat%4) []⟩by rw [Dz];rfl);refine Amj (X:=⟨x,bx,x.u.toNat%12,x.s.toNat%90,x.p.toNat%5,x.t.toNat%4,sy,N1.getD (x.u.toNat%12) [],OT.getD (x.t.toNat%4) []⟩) ⟨rfl,rfl,rfl,rfl,AhW,rfl,rfl⟩ hxb rfl (by kernel_rfl) (by kernel_rfl) (by simp) rfl ?_;intro uu g w9 h9 BM;simp only [List.take_succ_cons,List.take_zero,List.drop_succ_cons,List.drop_zero,List.cons_append,List.nil_append,show List.range 24 = [0,1,2,3,4,5,6,7,8,9,10,11,12,13,14,15,16,17,18,19,20,21,22,23] from rfl,List.map_cons,List.map_nil];go_wp2;go_meet;exact⟨g,rfl,by rw [HME.out];exact h9,BM⟩
   case rest=>
    obtain⟨eb,rfl,Wx,hx2⟩:=hcut;have hX:=HE.out.trans hx2;have hown2:=AC Rs.out hx2
    have an:=qO (cb:=#[.pointer (some ⟨eb,0,none⟩)]) AeO (fun y=>y.u == (Fv x).u||y.s == (Fv x).s) l oP oc wc (by
     obtain⟨A',c',e',r',-,-⟩:=Ad.of_own' (by omega) hown2
     cases e';exact r') (by
     obtain⟨A',c',e',-,r',-⟩:=Ad.of_own' (by omega) hown2
     cases e';exact r') (by
     obtain⟨A',c',e',-,-,r'⟩:=Ad.of_own' (by omega) hown2
     cases e';exact r') (fun y _ W hx=>Aj9 y (Fv x) eb W ((hx.block _ (AqI Wx)).trans Wx))
    have hstep:(d.take (k+1)).foldl FQ []=FQ l x:=by rw [AqN Cz,List.foldl_append,←HL.out,←HX.out];rfl
    have HST:=AqH hstep;have nW:=AqH Wx;have hb2:=hX.size;clear hstep Wx hxb
    cases h1:l.any (fun y=>y.u == (Fv x).u||y.s == (Fv x).s)
    ·rw [h1]at an;have HN:=AqH (show FQ l x=l ++ [Fv x] by unfold FQ;rw [if_neg (by rw [h1];simp)]);clear h1;(go_wp2_with fail);(with_reducible refine an.mono ?_);rintro e w3 ⟨rfl,hx3⟩;have CL:=AC hown2 hx3;have SU:=(hx3.block _ (AqI nW.out)).trans nW.out;have X3:=hX.trans hx3;have q1:=Ab (o:=0) SU rfl;have q2:=Ab (o:=1) SU rfl;have q3:=Ab (o:=2) SU rfl;have q4:=Ab (o:=3) SU rfl
     go_wp2_with (at_builtin;go_loud (refine qR rfl _ _ rfl _ w.heap.size (.slice oP l.length oc) l.length l rfl (AC CL ((Aa.refl w3).alloc _)) (by omega) (Fv x) w3.heap.size (AqJ _ _) rfl (AqU X3.size ((Aa.refl w3).alloc _).size) ?_);intro v9 w9 BQ hext9)
     have hnew:=hext9 w (X3.trans ((Aa.refl w3).alloc _)) (AqK _);have BN:=AqH (And.intro BQ hnew);clear BQ hnew hext9 q1 q2 q3 q4 SU CL;go_wp2;go_roundw
     case rel=>exact⟨k+1,l ++ [Fv x],by go_num,hkn,by rw [HST.out,HN.out],by simp;omega,by rw [List.length_append];exact BN.out.1,BN.out.2⟩
     case measure=>simp [intOf];omega
    ·rw [h1]at an;have HN:=AqH (show FQ l x=l by unfold FQ;rw [if_pos h1]);clear h1;(go_wp2_with fail);(with_reducible refine an.mono ?_);rintro e w3 ⟨rfl,hx3⟩;have CL:=AC hown2 hx3;have X3:=hX.trans hx3;go_wp2;go_roundw
     case rel=>exact⟨k+1,l,by go_num,hkn,by rw [HST.out,HN.out],by omega,CL,X3⟩
     case measure=>simp [intOf];omega
  ·have Bt:k=n:=(by omega);subst Bt;obtain⟨A9,c9,rfl,r9,s9,t9⟩:=Ad.of_own' (by omega) hown;have Gi:l=GL d:=by rw [HL.out,Rr.out]
   have AS:pT (GL d) w (.returned (.slice A9 l.length c9)) wr:=by rw [←Gi];exact⟨A9,c9,rfl,r9,s9,t9,Ac⟩
   have HF:=AqH AS;clear AS r9 hown Gi;go_wp2;go_ret;exact HF.out
end Go.Proofs.YtjalkoacphhgdaaGreatDoor
