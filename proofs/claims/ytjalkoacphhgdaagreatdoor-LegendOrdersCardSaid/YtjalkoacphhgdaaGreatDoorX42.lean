/- X42: BS BT BU. -/
import Derived.Test.YtjalkoacphhgdaaGreatDoorX41
import Derived.Test.YtjalkoacphhgdaaGreatDoorX40
set_option maxRecDepth 100000
set_option maxHeartbeats 16000000
namespace Go.Proofs.YtjalkoacphhgdaaGreatDoor
open Go.RowKit Kl Go.Shelf
def kQ:List (Op×Option Nat):=[
 (.fieldAddr 36 (.tmp 5) 1,some 64),(.load 34 (.tmp 64),some 65),(.move (.tmp 6),some 66),(.fieldAddr 155 (.tmp 12) 0,some 67),(.load 92 (.tmp 67),some 68),
 (.lookup 252 (.tmp 66) (.tmp 68) false,some 69),(.move (.tmp 6),some 70),(.fieldAddr 155 (.tmp 12) 1,some 71),(.load 92 (.tmp 71),some 72),
 (.lookup 252 (.tmp 70) (.tmp 72) false,some 73),(.move (.tmp 13),some 74),(.move (.tmp 10),some 75),(.move (.tmp 0),some 76),(.nilCheck (.tmp 76),some 77),(.fieldAddr 134 (.tmp 77) 0,some 78),
 (.load 131 (.tmp 78),some 79),(.load 155 (.tmp 12),some 80),
 (.call {callee:=.value (.func 104),args:=#[.tmp 80],argTypes:=#[155]},some 81),(.lookup 131 (.tmp 79) (.tmp 81) false,some 82),
 (.call {callee:=.value (.tmp 75),args:=#[.tmp 82],argTypes:=#[3]},some 83),
 (.build 126 #[(0,.tmp 69),(1,.tmp 73),(2,.tmp 74),(3,.tmp 83)],some 84),(.buildSlice 34 1 #[(0,.tmp 84)],some 85),
 (.call {callee:=.builtin .append,args:=#[.tmp 65,.tmp 85],argTypes:=#[34,34]},some 86),(.fieldAddr 36 (.tmp 5) 1,some 87),(.store 34 (.tmp 87) (.tmp 86),none)]
def aC:List (Nat×Nat):=[(1,0),(4,3),(5,2),(5,4),(8,7),(9,6),(9,8),(13,12),(14,13),(15,14),(17,16),(18,15),(18,17),(19,11),(19,18),(20,5),(20,9),(20,10),(20,19),(21,20),(22,1),(22,21),(24,22),(24,23)]
def Mf(c:Cn)(E:Value)(Co:Nat)(x:Sg)(zl i1 i2 lr zr:Int)(g:Nat×Value):Nat→Value
 | 0=>.pointer (some ⟨c.bm,1,none⟩)
 | 1=>E
 | 2=>.map (some c.bi)
 | 3=>.pointer (some ⟨Co,0,none⟩)
 | 4=>Ak x.a
 | 5=>.int .i64 i1
 | 6=>.map (some c.bi)
 | 7=>.pointer (some ⟨Co,2,none⟩)
 | 8=>Ak x.b
 | 9=>.int .i64 i2
 | 10=>.int .i64 zl
 | 11=>c.fn
 | 12=>.pointer (some ⟨c.r,0,none⟩)
 | 13=>.pointer (some ⟨c.r,0,none⟩)
 | 14=>.pointer (some ⟨c.r,0,none⟩)
 | 15=>.map (some c.b1)
 | 16=>As x
 | 17=>As (AW x)
 | 18=>.int .i64 lr
 | 19=>.int .i64 zr
 | 20=>.agg #[.int .i64 i1,.int .i64 i2,.int .i64 zl,.int .i64 zr]
 | 21=>.slice (some ⟨g.1,0,none⟩) 1 1
 | 22=>g.2
 | _=>.pointer (some ⟨c.bm,1,none⟩)
structure Pq(c:Cn)(W:World)(E:Value)(eds:List Az)(d:Az)(FR:List (Int×Int))(Bp:List Bs)(Co:Nat)(x:Sg)(g:Nat×Value)(l:Array Bool)(w:World):Prop where
 way:JQ w Co x
 kb:KB c.B W w
 sA:l.getD 19 false=false→Aa W w
 sB:l.getD 19 false=true→l.getD 22 false=false→∃F',Cs c E F' FR Bp eds w
 sG:l.getD 21 false=true→l.getD 22 false=false→w.heap[g.1]?=some (.cells #[.int .i64 d.f,.int .i64 d.t,.int .i64 d.l,.int .i64 d.r] 126)
 sC:l.getD 22 false=true→l.getD 24 false=false→∃F',w.heap[c.bm]?=some (.cells #[c.P,E,F'] 36)/\(∃A k d,g.2=.slice A k d)/\Cs c g.2 F' FR Bp (eds ++ [d]) (w.setCell ⟨c.bm,1,none⟩ g.2)
 sD:l.getD 24 false=true→∃F',Cs c g.2 F' FR Bp (eds ++ [d]) w
theorem Afx(b:Nat)(w:World):(Instr.fieldAt 155 (.pointer (some ⟨b,0,none⟩)) 0).run Tryz.prog w=.ok (.pointer (some ⟨b,0,none⟩)) w:=by simp [go_sem]
theorem Afy(b:Nat)(w:World):(Instr.fieldAt 155 (.pointer (some ⟨b,0,none⟩)) 1).run Tryz.prog w=.ok (.pointer (some ⟨b,2,none⟩)) w:=by simp [go_sem]
theorem Afw(b:Nat)(w:World):(Instr.fieldAt 134 (.pointer (some ⟨b,0,none⟩)) 0).run Tryz.prog w=.ok (.pointer (some ⟨b,0,none⟩)) w:=by simp [go_sem]
theorem Ajo{w:World}{b:Nat}{x:Sg}(h:JQ w b x):(Instr.loadAt 155 (.pointer (some ⟨b,0,none⟩))).run Tryz.prog w=.ok (As x) w:=by
 have h0:=Ab (o:=0) h rfl;have h1:=Ab (o:=1) h rfl;have h2:=Ab (o:=2) h rfl;have h3:=Ab (o:=3) h rfl;simp [go_sem,h0,h1,h2,h3,As]
theorem Ajn{w:World}{b:Nat}{u v:Value}(h:w.heap[b]?=some (.cells #[u,v] 134)):(Instr.loadAt 131 (.pointer (some ⟨b,0,none⟩))).run Tryz.prog w=.ok u w:=by
 have h0:=Ab (o:=0) h rfl;simp [go_sem,h0]
theorem nD{P:Program}{o:Oper}{a:Act}{w:World}{v:Value}{K:Act→World→Prop}{Q:Exit→Act→World→Prop}{t:TypeId}{x y:Operand}{b:Bool}{D:Option Nat}(p:.lookup t x y b=o.op)(d:D=o.dst)(h:(Instr.lookup t (a.eval x) (a.eval y) b).run P w=.ok v w)(hk:K (a.put D v) w):o.wp P a w K Q:=
 IO (Instr.lookup t (a.eval x) (a.eval y) b) (by unfold execOp;rw [←p]) h (d▸hk)
section
variable {c : Cn} {W : World} {E : Value} {eds : List Az} {d : Az} {FR : List (Int × Int)} {Bp : List Bs} {Co : Nat} {x : Sg} {g : Nat × Value} {l : Array Bool} {w : World}
theorem Pq.put(h:Pq c W E eds d FR Bp Co x g l w){i:Nat}(hi:i≠19/\i≠21/\i≠22/\i≠24):Pq c W E eds d FR Bp Co x g (l.setIfInBounds i true) w:=by
 refine⟨h.way,h.kb,?_,?_,?_,?_,?_⟩
 all_goals simp only [getD_set_ne false hi.1,getD_set_ne false hi.2.1,getD_set_ne false hi.2.2.1,getD_set_ne false hi.2.2.2]
 ·exact h.sA
 ·exact h.sB
 ·exact h.sG
 ·exact h.sC
 ·exact h.sD
end
theorem Ami{c:Cn}(ok:c.Ok){W:World}{E F:Value}{nm FR:List (Int×Int)}{An Bp:List Bs}{eds:List Az}(h0:Cs c E F nm An eds W){Co:Nat}{x:Sg}(hx:JQ W Co x)(hel:eds.length<200000)(zl i1 i2 lr zr:Int)
  (Qf:GK x.a c.idx=i1) (Lu:GK x.b c.idx=i2) (dx:AI (AW x) c.L=lr)
  (Wz:∀w F,Cs c E F nm An eds w→Calls Tryz.prog 196 #[.int .i64 lr,.pointer (some ⟨c.bx,0,none⟩),.pointer (some ⟨c.bm,0,none⟩),.pointer (some ⟨c.bu,0,none⟩)] w (Pd w c.B c.bx c.bn c.bm c.bu c.U c.cu c.units c.P E F zr FR Bp))
  {a0:Act} {ops:Array Oper} (hop:ops.toList.map (fun o=>(o.op,o.dst))=kQ) (AM:aB ops aC=true) (WU:okB 64 24 ops=true) (hsz:88<=a0.tmps.size)
  (e5:a0.eval (.tmp 5)=.pointer (some ⟨c.bm,0,none⟩)) (e6:a0.eval (.tmp 6)=.map (some c.bi)) (e12:a0.eval (.tmp 12)=.pointer (some ⟨Co,0,none⟩)) (aH:a0.eval (.tmp 13)=.int .i64 zl) (e10:a0.eval (.tmp 10)=c.fn) (e0:a0.eval (.tmp 0)=.pointer (some ⟨c.r,0,none⟩))
  {id:Nat} {Q:Exit→Act→World→Prop}
  (hend:∀(v:Nat→Value) w E' F',Cs c E' F' FR Bp (eds ++ [⟨i1,i2,zl,zr⟩]) w→KB c.B W w→Q .normal ⟨(a0.tmps.toList.take 64++((List.range 24).map v++a0.tmps.toList.drop 88)).toArray,a0.defers⟩ w) :
  (Code.region id ops true).wp Tryz.prog Q a0 W:=by
 have eg1:Enters Tryz.prog 104:=enters_of Tryz.func104 (by kernel_rfl) rfl;have eg3:Enters Tryz.prog 196:=enters_of Tryz.func196 (by kernel_rfl) rfl
 have Aqi:ops.size=25:=by
  have:=congrArg List.length hop
  simpa [kQ]using this
 refine Ao5 64 24 (Mf c E Co x zl i1 i2 lr zr) (fun g l w=>Pq c W E eds ⟨i1,i2,zl,zr⟩ FR Bp Co x g l w) (0,.slice none 0 0) (by kernel_rfl) WU (by omega) ?_ ?_ ?_
 ·refine⟨(Aa.refl W).drew.block _ (AqI hx) |>.trans hx,KB.ext (Aa.refl W).drew h0.size,fun _=>(Aa.refl W).drew,?_,?_,?_,?_⟩
  all_goals (rw [getD_replicate_false];intro e;cases e)
 ·intro b l a w i o Aj hst ho Qk Av hd;have hi:i<25:=(by have:=(Array.getElem?_eq_some_iff.1 ho).1;omega);have hL:=qy hop ho;have Ww:=J6 hd;have ev:=fun (d:Nat) {v:Value} (e:a0.eval (.tmp d)=v) (hd:d<64)=>Aj.out WU (.inl hd) e;replace e5:=ev 5 e5 (by omega);replace e6:=ev 6 e6 (by omega);replace e12:=ev 12 e12 (by omega);replace aH:=ev 13 aH (by omega);replace e10:=ev 10 e10 (by omega);replace e0:=ev 0 e0 (by omega)
  have dep:∀j k,aC.contains (j,k)=true→j=i→l.getD k false=true:=by rintro j k hjk rfl;have h1:=List.all_eq_true.1 AM (j,k) (by simpa using hjk);rw [ho]at h1;exact Ww k h1
  have need:∀j k,aC.contains (j,k)=true→l.getD j false=true→l.getD k false=true:=by
   intro j k hjk hl;have h1:=List.all_eq_true.1 AM (j,k) (by simpa using hjk)
   cases fW:ops[j]? with
   | none=>rw [fW]at h1;cases h1
   | some oj=>rw [fW]at h1;exact Aj.waits fW hl k h1
  have sl:=fun (k:Nat) (hk:k<24) (hl:l.getD k false=true)=>Aj.val WU k (d:=64+k) rfl hk hl (v:=Mf c E Co x zl i1 i2 lr zr b k) rfl
  have ZL:l.getD 22 false=true→∀k,k<22→k≠0∨k=0→l.getD k false=true:=by
   intro Le k hk _;have k1:=need 22 1 (by decide) Le;have Xp:=need 22 21 (by decide) Le;have Qx:=need 21 20 (by decide) Xp;have k5:=need 20 5 (by decide) Qx;have k9:=need 20 9 (by decide) Qx;have lz:=need 20 10 (by decide) Qx;have Xo:=need 20 19 (by decide) Qx;have k0:=need 1 0 (by decide) k1;have k2:=need 5 2 (by decide) k5;have k4:=need 5 4 (by decide) k5;have k3:=need 4 3 (by decide) k4;have k6:=need 9 6 (by decide) k9;have k8:=need 9 8 (by decide) k9;have k7:=need 8 7 (by decide) k8;have l4:=need 19 11 (by decide) Xo;have jH:=need 19 18 (by decide) Xo;have jG:=need 18 15 (by decide) jH;have l6:=need 18 17 (by decide) jH;have l5:=need 17 16 (by decide) l6;have jF:=need 15 14 (by decide) jG;have jE:=need 14 13 (by decide) jF;have k12:=need 13 12 (by decide) jE
   rcases(by omega:k=0∨k=1∨k=2∨k=3∨k=4∨k=5∨k=6∨k=7∨k=8∨k=9∨k=10∨k=11∨k=12∨k=13∨k=14∨k=15∨k=16∨k=17∨k=18∨k=19∨k=20∨k=21)with rfl|rfl|rfl|rfl|rfl|rfl|rfl|rfl|rfl|rfl|rfl|rfl|rfl|rfl|rfl|rfl|rfl|rfl|rfl|rfl|rfl|rfl<;>assumption
  have n22:i<22→l.getD 22 false=false:=fun h=>by
   cases e:l.getD 22 false
   ·rfl
   ·have:=ZL e i h (by omega);rw [Av]at this;cases this
  have cs:i<22→∃F nm An,Cs c E F nm An eds w:=fun h=>by
   cases e:l.getD 19 false
   ·exact⟨_,_,_,h0.ext (hst.sA e)⟩
   ·obtain⟨F',h'⟩:=hst.sB e (n22 h);exact⟨F',_,_,h'⟩
  have fin:(i≠19/\i≠21/\i≠22/\i≠24)→∀v,v=Mf c E Co x zl i1 i2 lr zr b i→∃b',a.put o.dst v=a.put o.dst (Mf c E Co x zl i1 i2 lr zr b' i)/\(∀j,l.getD j false=true→Mf c E Co x zl i1 i2 lr zr b' j=Mf c E Co x zl i1 i2 lr zr b j)/\Pq c W E eds ⟨i1,i2,zl,zr⟩ FR Bp Co x b' (l.setIfInBounds i true) w:=
   fun hne v hv=>⟨b,by rw [hv],fun _ _=>rfl,hst.put hne⟩
  rcases(by omega:i=0∨i=1∨i=2∨i=3∨i=4∨i=5∨i=6∨i=7∨i=8∨i=9∨i=10∨i=11∨i=12∨i=13∨i=14∨i=15∨i=16∨i=17∨i=18∨i=19∨i=20∨i=21∨i=22∨i=23∨i=24)with rfl|rfl|rfl|rfl|rfl|rfl|rfl|rfl|rfl|rfl|rfl|rfl|rfl|rfl|rfl|rfl|rfl|rfl|rfl|rfl|rfl|rfl|rfl|rfl|rfl
  all_goals
   simp only [kQ,List.getElem?_cons_zero,List.getElem?_cons_succ,AqO,Prod.mk.injEq]at hL;obtain⟨p,d⟩:=hL
  ·refine Mg p d (by rw [e5];exact vV _ _) ?_;rw [d];exact fin (by omega) _ rfl
  ·obtain⟨F1,Kp,Vv,hc⟩:=cs (by omega);refine J7 p d (by rw [show a.eval (.tmp 64)=_ from sl 0 (by omega) (dep 1 0 (by decide) rfl)];exact Ajm (Ab hc.fc.cM rfl)) ?_;rw [d];exact fin (by omega) _ rfl
  ·refine Ux _ p.symm ?_;rw [e6];exact fin (by omega) _ rfl
  ·refine Mg p d (by rw [e12];exact Afx _ _) ?_;rw [d];exact fin (by omega) _ rfl
  ·refine J7 p d (by rw [show a.eval (.tmp 67)=_ from sl 3 (by omega) (dep 4 3 (by decide) rfl)];exact m7 (Ab (o:=0) hst.way rfl) (Ab (o:=1) hst.way rfl)) ?_;rw [d];exact fin (by omega) _ rfl
  ·obtain⟨F1,Kp,Vv,hc⟩:=cs (by omega);refine nD p d (by rw [show a.eval (.tmp 66)=_ from sl 2 (by omega) (dep 5 2 (by decide) rfl),show a.eval (.tmp 68)=_ from sl 4 (by omega) (dep 5 4 (by decide) rfl)];exact hc.rd.idx.look x.a) ?_;rw [d];exact fin (by omega) _ (by rw [Qf];rfl)
  ·refine Ux _ p.symm ?_;rw [e6];exact fin (by omega) _ rfl
  ·refine Mg p d (by rw [e12];exact Afy _ _) ?_;rw [d];exact fin (by omega) _ rfl
  ·refine J7 p d (by rw [show a.eval (.tmp 71)=_ from sl 7 (by omega) (dep 8 7 (by decide) rfl)];exact m7 (Ab (o:=2) hst.way rfl) (Ab (o:=3) hst.way rfl)) ?_;rw [d];exact fin (by omega) _ rfl
  ·obtain⟨F1,Kp,Vv,hc⟩:=cs (by omega);refine nD p d (by rw [show a.eval (.tmp 70)=_ from sl 6 (by omega) (dep 9 6 (by decide) rfl),show a.eval (.tmp 72)=_ from sl 8 (by omega) (dep 9 8 (by decide) rfl)];exact hc.rd.idx.look x.b) ?_;rw [d];exact fin (by omega) _ (by rw [Lu];rfl)
  ·refine Ux _ p.symm ?_;rw [aH];exact fin (by omega) _ rfl
  ·refine Ux _ p.symm ?_;rw [e10];exact fin (by omega) _ rfl
  ·refine Ux _ p.symm ?_;rw [e0];exact fin (by omega) _ rfl
  ·have s12:a.eval (.tmp 76)=.pointer (some ⟨c.r,0,none⟩):=sl 12 (by omega) (dep 13 12 (by decide) rfl);refine Aam (v:=.pointer (some ⟨c.r,0,none⟩)) (w':=w) ?_ (fin (by omega) _ rfl);unfold execOp;rw [←p];simp [s12]
  ·refine Mg p d (by rw [show a.eval (.tmp 77)=_ from sl 13 (by omega) (dep 14 13 (by decide) rfl)];exact Afw _ _) ?_;rw [d];exact fin (by omega) _ rfl
  ·obtain⟨F1,Kp,Vv,hc⟩:=cs (by omega);refine J7 p d (by rw [show a.eval (.tmp 78)=_ from sl 14 (by omega) (dep 15 14 (by decide) rfl)];exact Ajn hc.rd.net) ?_;rw [d];exact fin (by omega) _ rfl
  ·refine J7 p d (by rw [e12];exact Ajo hst.way) ?_;rw [d];exact fin (by omega) _ rfl
  ·have n19:l.getD 19 false=false:=by
    cases e:l.getD 19 false
    ·rfl
    ·have:=need 18 17 (by decide) (need 19 18 (by decide) e);rw [Av]at this;cases this
   have n21:l.getD 21 false=false:=by
    cases e:l.getD 21 false
    ·rfl
    ·have:=need 20 19 (by decide) (need 21 20 (by decide) e);rw [n19]at this;cases this
   have n24:l.getD 24 false=false:=by
    cases e:l.getD 24 false
    ·rfl
    ·have:=need 24 22 (by decide) e;rw [n22 (by omega)]at this;cases this
   refine Ao3 p.symm eg1 (show a.eval (.tmp 80)=_ from sl 16 (by omega) (dep 17 16 (by decide) rfl)) (UY x w) ?_;rintro e w'' ⟨rfl,hX⟩;refine⟨_,rfl,b,rfl,fun _ _=>rfl,?_⟩;refine Pq.put ⟨(hX.block _ (AqI hst.way)).trans hst.way,hst.kb.trans (KB.ext hX (h0.ext (hst.sA n19)).size),fun e=>(hst.sA e).trans hX,fun e=>?_,fun e=>?_,fun e=>?_,fun e=>?_⟩ (by omega)
   ·rw [n19]at e;cases e
   ·rw [n21]at e;cases e
   ·rw [n22 (by omega)]at e;cases e
   ·rw [n24]at e;cases e
  ·obtain⟨F1,Kp,Vv,hc⟩:=cs (by omega);refine nD p d (by rw [show a.eval (.tmp 79)=_ from sl 15 (by omega) (dep 18 15 (by decide) rfl),show a.eval (.tmp 81)=_ from sl 17 (by omega) (dep 18 17 (by decide) rfl)];exact QP _ _ hc.rd.left) ?_;rw [d];exact fin (by omega) _ (by rw [dx];rfl)
  ·have n21:l.getD 21 false=false:=by
    cases e:l.getD 21 false
    ·rfl
    ·have:=need 20 19 (by decide) (need 21 20 (by decide) e);rw [Av]at this;cases this
   have n24:l.getD 24 false=false:=by
    cases e:l.getD 24 false
    ·rfl
    ·have:=need 24 22 (by decide) e;rw [n22 (by omega)]at this;cases this
   have hC:=h0.ext (hst.sA Av);refine Ao4 p.symm eg3 (show a.eval (.tmp 75)=_ from sl 11 (by omega) (dep 19 11 (by decide) rfl)) (show a.eval (.tmp 82)=_ from sl 18 (by omega) (dep 19 18 (by decide) rfl)) (Wz w F hC) ?_;rintro e w'' ⟨F',rfl,hF,hB⟩;refine⟨_,rfl,b,rfl,fun _ _=>rfl,?_⟩
   have hw:JQ w'' Co x:=(hB.block _ (AqI hst.way) (by
    rintro(e|e|e)
    ·exact M5 hst.way hC.fc.num e
    ·exact Eg hst.way hC.fc.cM (by decide) e
    ·exact Bu hC.fc.fac hst.way (by decide) e)).trans hst.way
   refine⟨hw,hst.kb.trans (KB.named ok hC hB),?_,?_,?_,?_,?_⟩
   all_goals simp only [Iv (show 19<l.size by omega),getD_set_ne false (show (19:Nat)≠21 by omega),getD_set_ne false (show (19:Nat)≠22 by omega),getD_set_ne false (show (19:Nat)≠24 by omega)]
   ·intro e;cases e
   ·intro _ _;exact⟨F',hC.named ok hF hB⟩
   ·intro e;rw [n21]at e;cases e
   ·intro e;rw [n22 (by omega)]at e;cases e
   ·intro e;rw [n24]at e;cases e
  ·have s5:a.eval (.tmp 69)=.int .i64 i1:=sl 5 (by omega) (dep 20 5 (by decide) rfl);have s9:a.eval (.tmp 73)=.int .i64 i2:=sl 9 (by omega) (dep 20 9 (by decide) rfl);have Ul:a.eval (.tmp 74)=.int .i64 zl:=sl 10 (by omega) (dep 20 10 (by decide) rfl);have Um:a.eval (.tmp 83)=.int .i64 zr:=sl 19 (by omega) (dep 20 19 (by decide) rfl);refine IO (Instr.build 126 #[(0,.int .i64 i1),(1,.int .i64 i2),(2,.int .i64 zl),(3,.int .i64 zr)]) (by unfold execOp;rw [←p];simp [s5,s9,Ul,Um]) (Adc _ _ _ _ _) ?_;exact fin (by omega) _ rfl
  ·have FI:=dep 21 20 (by decide) rfl;have MD:=need 20 19 (by decide) FI
   have n24:l.getD 24 false=false:=by
    cases e:l.getD 24 false
    ·rfl
    ·have:=need 24 22 (by decide) e;rw [n22 (by omega)]at this;cases this
   have Un:a.eval (.tmp 84)=.agg #[.int .i64 i1,.int .i64 i2,.int .i64 zl,.int .i64 zr]:=sl 20 (by omega) FI;refine IO (Instr.buildSlice 34 1 #[(0,.agg #[.int .i64 i1,.int .i64 i2,.int .i64 zl,.int .i64 zr])]) (by unfold execOp;rw [←p];simp [Un]) (Ada _ _ _ _ _) ?_;have hX:=(Aa.refl w).alloc (.cells #[.int .i64 i1,.int .i64 i2,.int .i64 zl,.int .i64 zr] 126);refine⟨(w.heap.size,b.2),rfl,fun j hj=>?_,?_⟩
   ·have:j≠21:=(by rintro rfl;rw [Av]at hj;cases hj);unfold Mf
    split<;>first|rfl|omega
   ·obtain⟨F1,h1⟩:=hst.sB MD (n22 (by omega));refine⟨(hX.block _ (AqI hst.way)).trans hst.way,hst.kb.trans (KB.ext hX h1.size),?_,?_,?_,?_,?_⟩
    all_goals simp only [Iv (show 21<l.size by omega),getD_set_ne false (show (21:Nat)≠19 by omega),getD_set_ne false (show (21:Nat)≠22 by omega),getD_set_ne false (show (21:Nat)≠24 by omega)]
    ·intro e;rw [MD]at e;cases e
    ·intro _ e;obtain⟨F',h'⟩:=hst.sB MD e;exact⟨F',h'.ext hX⟩
    ·intro _ _;exact AqJ w _
    ·intro e;rw [n22 (by omega)]at e;cases e
    ·intro e;rw [n24]at e;cases e
  ·have Vz:=dep 22 21 (by decide) rfl;have MD:=need 20 19 (by decide) (need 21 20 (by decide) Vz)
   have n24:l.getD 24 false=false:=by
    cases e:l.getD 24 false
    ·rfl
    ·have:=need 24 22 (by decide) e;rw [Av]at this;cases this
   obtain⟨F',hC⟩:=hst.sB MD Av;refine Aov _ _ p.symm w c.B E eds.length eds (show a.eval (.tmp 65)=_ from sl 1 (by omega) (dep 22 1 (by decide) rfl)) hC.own hel ⟨i1,i2,zl,zr⟩ b.1 (hst.sG Vz Av) (show a.eval (.tmp 85)=_ from sl 21 (by omega) Vz) hC.size ?_;intro v' w' k1 k2;obtain⟨m1,m2⟩:=hC.app ok (d:=⟨i1,i2,zl,zr⟩) k2 k1;obtain⟨A,dd,rfl,-,-,-⟩:=Ad.of_own' (show 0<4 by omega) k1;refine⟨(b.1,.slice A (eds.length+1) dd),rfl,fun j hj=>?_,?_⟩
   ·have:j≠22:=(by rintro rfl;rw [Av]at hj;cases hj);unfold Mf
    split<;>first|rfl|omega
   ·have hw:JQ w' Co x:=(k2.block _ (AqI hst.way) (fun e=>Bu hC.own hst.way (by decide) e.symm)).trans hst.way;refine⟨hw,hst.kb.trans (KB.app hC k2),?_,?_,?_,?_,?_⟩
    all_goals simp only [Iv (show 22<l.size by omega),getD_set_ne false (show (22:Nat)≠19 by omega),getD_set_ne false (show (22:Nat)≠21 by omega),getD_set_ne false (show (22:Nat)≠24 by omega)]
    ·intro e;rw [MD]at e;cases e
    ·intro _ e;cases e
    ·intro _ e;cases e
    ·intro _ _;exact⟨F',m1,⟨_,_,_,rfl⟩,m2⟩
    ·intro e;rw [n24]at e;cases e
  ·refine Mg p d (by rw [e5];exact vV _ _) ?_;rw [d];exact fin (by omega) _ rfl
  ·have Le:=dep 24 22 (by decide) rfl;have MD:=ZL Le 19 (by omega) (by omega);have Vz:=ZL Le 21 (by omega) (by omega);obtain⟨F',k1,k2,k3⟩:=hst.sC Le Av
   have hrun:(execOp a.eval o).run Tryz.prog w=.ok .skip (w.setCell ⟨c.bm,1,none⟩ b.2):=by unfold execOp;rw [←p];show (do Instr.storeAt 34 (a.eval (.tmp 87)) (a.eval (.tmp 86));pure Next.skip:Sem Next).run Tryz.prog w=_;rw [show a.eval (.tmp 87)=_ from sl 23 (by omega) (dep 24 23 (by decide) rfl),show a.eval (.tmp 86)=_ from sl 22 (by omega) Le];have:=An3 k2 k1;simp [Mf,this]
   unfold Oper.wp;rw [hrun];refine⟨b,?_,fun _ _=>rfl,?_⟩
   ·rw [←d];rfl
   ·have hw:JQ (w.setCell ⟨c.bm,1,none⟩ b.2) Co x:=(DX (by show Co≠c.bm;exact Eg hst.way k1 (by decide))).trans hst.way;refine⟨hw,hst.kb.trans (KB.set ok k1 _),?_,?_,?_,?_,?_⟩
    all_goals simp only [Iv (show 24<l.size by omega),getD_set_ne false (show (24:Nat)≠19 by omega),getD_set_ne false (show (24:Nat)≠21 by omega),getD_set_ne false (show (24:Nat)≠22 by omega)]
    ·intro e;rw [MD]at e;cases e
    ·intro _ e;rw [Le]at e;cases e
    ·intro _ e;rw [Le]at e;cases e
    ·intro _ e;cases e
    ·intro _;exact⟨F',k3⟩
 ·intro b l a w Aj Gg hall hst;obtain⟨F',hF⟩:=hst.sD (hall 24 (by omega));have:=Aj.lit WU (by omega) (by omega) hall Gg;rw [this];exact hend _ w _ F' hF hst.kb
def Bz(units:List Bs)(nm:List (Int×Int))(fa:List Bs)(f:Int):Int×List (Int×Int)×List Bs:=match C6 f nm with
 | some z=>(z,nm,fa)
 | none=>((fa.length:Int),nm ++ [(f,(fa.length:Int))],fa ++ [units.getD f.toNat []])
structure GT where
 nm:List (Int×Int)
 fa:List Bs
 ed:List Az
def M4(units:List Bs)(idx:List (Pt×Int))(L:List (Sg×Int))(st:GT)(s:Sg):GT:=
 ⟨(Bz units (Bz units st.nm st.fa (AI s L)).2.1 (Bz units st.nm st.fa (AI s L)).2.2 (AI (AW s) L)).2.1,(Bz units (Bz units st.nm st.fa (AI s L)).2.1 (Bz units st.nm st.fa (AI s L)).2.2 (AI (AW s) L)).2.2,
  st.ed ++ [⟨GK s.a idx,GK s.b idx,(Bz units st.nm st.fa (AI s L)).1,(Bz units (Bz units st.nm st.fa (AI s L)).2.1 (Bz units st.nm st.fa (AI s L)).2.2 (AI (AW s) L)).1⟩]⟩
def KT(units:List Bs)(idx:List (Pt×Int))(L:List (Sg×Int))(st:GT)(s:Sg):GT:=if Be s.a s.b<0 then M4 units idx L st s else st
def IW(units:List Bs)(idx:List (Pt×Int))(L:List (Sg×Int))(ws:List Sg):GT:=ws.foldl (KT units idx L) ⟨[(-1,-1)],[],[]⟩
def BR(l:List Pt):List (Pt×Int):=l.zipIdx.map fun e=>(e.1,(e.2:Int))
theorem Ai2(l:List Pt)(p:Pt):BR (l ++ [p])=BR l ++ [(p,(l.length:Int))]:=by simp [BR,List.zipIdx_append]
theorem Ai1(l:List Pt):(BR l).map (·.1)=l:=by
 unfold BR;rw [List.map_map];have:((fun x:Pt×Int=>x.1) ∘ fun e:Pt×Nat=>(e.1,(e.2:Int)))=Prod.fst:=rfl;rw [this,List.zipIdx_map_fst]
theorem jV(units:List Bs)(nm:List (Int×Int))(fa:List Bs)(f:Int):(Bz units nm fa f).2.2.length<=fa.length+1:=by
 unfold Bz;split<;>simp
theorem jU(units:List Bs){nm:List (Int×Int)}(fa:List Bs)(f:Int)(h:C6 (-1) nm=some (-1)):C6 (-1) (Bz units nm fa f).2.1=some (-1):=by
 unfold Bz
 split
 ·exact h
 ·unfold C6 at h ⊢;simp only;rw [List.find?_append]
  cases hq:nm.find? (fun e=>(-1:Int) == e.1)with
  | none=>rw [hq]at h;cases h
  | some e=>rw [hq]at h;simpa using h
structure Rc(k:Nat)(st:GT):Prop where
 h:C6 (-1) st.nm=some (-1)
 fa:st.fa.length<=2*k
 ed:st.ed.length<=k
theorem Rc.step{k:Nat}{st:GT}(h:Rc k st)(units:List Bs)(idx:List (Pt×Int))(L:List (Sg×Int))(s:Sg):Rc (k+1) (KT units idx L st s):=by
 unfold KT
 split
 ·unfold M4;refine⟨jU _ _ _ (jU _ _ _ h.h),?_,?_⟩
  ·have h1:=jV units st.nm st.fa (AI s L);have h2:=jV units (Bz units st.nm st.fa (AI s L)).2.1 (Bz units st.nm st.fa (AI s L)).2.2 (AI (AW s) L);have:=h.fa;simp only;omega
  ·have:=h.ed;simp only [List.length_append,List.length_singleton];omega
 ·exact⟨h.h,by have:=h.fa;omega,by have:=h.ed;omega⟩
theorem Adf(units:List Bs)(idx:List (Pt×Int))(L:List (Sg×Int))(ws:List Sg)(s:Sg):IW units idx L (ws ++ [s])=KT units idx L (IW units idx L ws) s:=by simp [IW]
theorem vJ{c:Cn}(ok:c.Ok){E F:Value}{nm:List (Int×Int)}{An:List Bs}{eds:List Az}{w:World}(h:Cs c E F nm An eds w)(hh:C6 (-1) nm=some (-1))(f:Int)(hf0:-1<=f)(zY:f<(c.units.length:Int))(Kk:c.units.length<=100000)(Ox:An.length<=100000) :
  Calls Tryz.prog 196 #[.int .i64 f,.pointer (some ⟨c.bx,0,none⟩),.pointer (some ⟨c.bm,0,none⟩),.pointer (some ⟨c.bu,0,none⟩)] w (Pd w c.B c.bx c.bn c.bm c.bu c.U c.cu c.units c.P E F (Bz c.units nm An f).1 (Bz c.units nm An f).2.1 (Bz c.units nm An f).2.2):=by
 cases hl:C6 f nm with
 | some z=>
  have e:Bz c.units nm An f=(z,nm,An):=(by unfold Bz;rw [hl]);rw [e];exact Afe h.fc f z hl
 | none=>
  have hne:f≠-1:=(by rintro rfl;rw [hh]at hl;cases hl);obtain⟨m,rfl⟩:∃m:Nat,f=(m:Int):=⟨f.toNat,by omega⟩;have hm:m<c.units.length:=by omega
  have e:Bz c.units nm An (m:Int)=((An.length:Int),nm ++ [((m:Int),(An.length:Int))],An ++ [c.units[m]]):=by unfold Bz;rw [hl];simp [List.getD_eq_getElem?_getD,AqP hm]
  rw [e];exact Afd h.fc h.size ok.bn ok.bm m hl hm Kk Ox
def nH(w:World)(m:Cw)(An:List Bs)(e:Ending)(w':World):Prop:=
 ∃A Bk F c d g,e=.returned (DK A Bk F m c d g)/\K3 m c d g/\Ad w' A (flat (Ao m.pts))/\Ad w' Bk (B7 m.eds)/\Ad w' F (An.map S)/\m.nf=An.length/\Aa w w'
theorem AcP{w:World}{b:Nat}{a0 a1 a2:Value}{t:TypeId}(v:Value)(h:w.heap[b]?=some (.cells #[a0,a1,a2] t)):(w.setCell ⟨b,0,none⟩ v).heap[b]?=some (.cells #[v,a1,a2] t):=by
 simp only [World.setCell,Array.getElem?_modify,h];simp
theorem AcT{w:World}{b o:Nat}{cs:Array Value}{t:TypeId}{fz:Nat×Nat}{v:Value}(h:w.heap[b]?=some (.cells cs t fz))(hc:w.cell? ⟨b,o,none⟩=some v):cs[o]?=some v:=by
 cases e:cs[o]? with
 | some u=>
  have h2:=hc;simp [World.cell?,h,e]at h2;rw [←h2]
 | none=>simp [World.cell?,h,e]at hc
theorem vU{l:List Pt}{j:Nat}(hj:j<(flat (Ao l)).length):∃s,(flat (Ao l))[j]=S s:=by
 have:=AqL hj;unfold flat at this;rw [List.mem_flatMap]at this;obtain⟨p,_,h⟩:=this;simp only [List.mem_cons,AqV,or_false]at h
 rcases h with h|h
 ·exact⟨_,h⟩
 ·exact⟨_,h⟩
theorem AjZ{c:Cn}{E F:Value}{nm:List (Int×Int)}{An:List Bs}{eds:List Az}{w:World}(_:Cs c E F nm An eds w):∃x,x=w:=⟨w,rfl⟩
theorem N6{w:World}{B:Nat}{e:TypeId}{s n c:Nat}{A:Option Addr}{xs:List Value}(hs:0<s)(h:w.ownsRow B e s (.slice A n c) n xs):Ad w A xs:=by
 obtain⟨A',c',e',h1,-,-⟩:=Ad.of_own' hs h;simp only [Value.slice.injEq]at e';rw [e'.1];exact h1
theorem rp{B B':Nat}{w w':World}{e:TypeId}{s n:Nat}{v:Value}{xs:List Value}(h:w.ownsRow B' e s v n xs)(hk:KB B w w')(h1:e≠36)(h2:e≠9)(h3:e≠126):w'.ownsRow B' e s v n xs:=by
 refine⟨h.1,?_⟩
 rcases h.2 with h'|⟨g,cap,cur,e1,e2,hgb,e4⟩
 ·exact .inl h'
 ·exact .inr ⟨g,cap,cur,e1,e2,hk.kp g cur e (0,0) h1 h2 h3 hgb,e4⟩
theorem Ai7{pts:List Pt}(Cc:pts.Nodup){k:Nat}(hk:k<pts.length):∀e∈BR (pts.take k),Ap pts[k] e.1=false:=by
 intro e he
 have h1:e.1∈pts.take k:=by
  have:=List.mem_map_of_mem (f:=(·.1)) he
  rwa [Ai1]at this
 refine uq.2 fun h2=>?_;obtain⟨j,hj,h3⟩:=List.getElem_of_mem h1;rw [List.getElem_take]at h3;have hj':j<k:=(by rw [List.length_take]at hj;omega);have:=(List.getElem_inj (h₀:=by omega) (h₁:=hk) Cc).1 (h3.trans h2.symm);omega
theorem Adg{w0 w:World}(hw:Am w0)(hx:Aa w0 w){B0 r b1 b2:Nat}{L:List (Sg×Int)}{E:List (Pt×Value×Nat)}{R0:List (Pt×List Pt)}(h:Bw B0 w r b1 b2 L E R0)
  (hz:∀e∈R0,Ar 200 e.1/\∀p∈e.2,Ar 200 p) (hlen:R0.length<=100000) (hrl:∀e∈R0,e.2.length<100000) (Cc:(R0.map (·.1)).Nodup) (hno:∀e∈R0,∀p q,e.2 = [p,q]→AH (Al p e.1 q)≠0)
  (hL:∀e∈L,Ex 200 e.1) (hLl:L.length<=40000) (hback:∀e∈L,∃e'∈L,e'.1=AW e.1) (U:Option Addr) (cu:Nat) (units:List Bs) (hU:Ad w U (units.map S)) (LC:∀x,U=some x→x.block<w.heap.size) (Kk:units.length<=100000)
  (O7:∀x∈L,-1<=x.2/\x.2<(units.length:Int)) {pts:List Pt} (OA:pts=ES (R0.map (·.1))) {ws:List Sg} (OH:ws=BA (L.map (·.1))) {st:GT} (hst:st=IW units (BR pts) L ws) :
  Calls Tryz.prog 112 #[.pointer (some ⟨r,0,none⟩),.slice U units.length cu] w (nH w ⟨pts,st.ed,st.fa.length⟩ st.fa):=by
 have hmm:=@run_makeMap Tryz.prog;have Aqg:=AqI h.cell;have Apn:=AqI h.left;have fo:pts.Nodup:=(by rw [OA];exact(Ky _).nodup_iff.2 Cc);have Ah9:pts.length=R0.length:=(by rw [OA,(Ky _).length_eq];simp);have E1:=((Aa.refl w).alloc (.cells #[.slice U units.length cu] 23)).alloc (.cells #[.slice none 0 0,.slice none 0 0,.slice none 0 0] 36);have Ll:=AqJ w (.cells #[.slice U units.length cu] 23);have hbr:=AqJ (w.alloc (.cells #[.slice U units.length cu] 23)) (.cells #[.slice none 0 0,.slice none 0 0,.slice none 0 0] 36);rw [AqR]at hbr;have zA:=(Below.heap_alloc (w.alloc (.cells #[.slice U units.length cu] 23)) (.cells #[.slice none 0 0,.slice none 0 0,.slice none 0 0] 36) w.heap.size (by simp)).trans Ll;have lv:=Aja hw (hx.trans E1) (h.ext E1) hz hlen hrl Cc hno;have JZ:=h.ar.len;have DY:=h.ar.keys;have Abe:=AqH (fun i (hi:i<E.length)=>(h.ar.row i hi (by rw [←JZ];exact hi)).2.1)
 have wR:∀e∈E,Ar 200 e.1:=fun e he=>by have:e.1∈R0.map (·.1):=(by rw [←DY];exact List.mem_map_of_mem he);obtain⟨e',he',h1⟩:=List.mem_map.1 this;rw [←h1];exact(hz e' he').1
 have Ig:=AqH h;have HEZ:=AqH wR;have HST:=AqH hst;have Mq:=AqH OH;have UC:=AqH OA;have HKE:=AqH DY;have Pe:=AqH (show E.length=pts.length by omega);have HU:=AqH hU;have HU2:=AqH LC;have HL:=AqH hL;have HBK:=AqH hback;have oM:=AqH O7;have HPN:=AqH fo;have hpl:pts.length<=100000:=(by omega);clear Ll h wR hst OH OA DY JZ hU LC hL hback O7 fo Ah9 hz hlen hrl Cc hno;go_enter Tryz.func112,Tryz.ntmps112;have hs1:((w.alloc (.cells #[.slice U units.length cu] 23)).alloc (.cells #[.slice none 0 0,.slice none 0 0,.slice none 0 0] 36)).heap.size=w.heap.size+2:=by simp only [AqR]
 go_upto_region 1 with fail
 generalize (w.alloc (.cells #[.slice U units.length cu] 23)).alloc (.cells #[.slice none 0 0,.slice none 0 0,.slice none 0 0] 36)=W1 at *;(go_wp2_with fail);(with_reducible refine lv.mono ?_);rintro e w2 ⟨rfl,hx2⟩;clear lv;have CH:=E1.trans hx2;have cV:=(hx2.block _ (AqI zA)).trans zA;have hR2:=(hx2.block _ (AqI hbr)).trans hbr;have hs2:=hx2.size;have Kb:=Ig.out.ext CH;have m1:=Ab (o:=1) Kb.cell rfl;obtain⟨bm,Dv⟩:=AqG w2.heap.size;have kp:=fun W=>mg (some b2) W;have E3:=(Aa.refl w2).alloc (.cells #[.slice none 0 0,.slice none 0 0,.slice none 0 0] 36);have Ho:=AqJ w2 (.cells #[.slice none 0 0,.slice none 0 0,.slice none 0 0] 36);have m3:=E3.cellS m1
 go_upto_region 3 with fail
 rw [←Dv]at Ho ⊢;generalize w2.alloc (.cells #[.slice none 0 0,.slice none 0 0,.slice none 0 0] 36)=W3 at *;have Di:=CH.trans E3;have G2:=Ig.out.ext Di;have Ag5:w.heap.size+2<=bm:=(by omega);have yU:w.heap.size<=bm:=(by omega);have PR:=(E3.block _ (AqI cV)).trans cV;have cP:=(E3.block _ (AqI hR2)).trans hR2;clear Dv m1 Kb hx2 cV hR2 hs2;have E4:=(Aa.refl W3).alloc (.cells #[.map (some b2)] 132);have BU:=AqJ W3 (.cells #[.map (some b2)] 132);have sk:=yn hw ((hx.trans Di).trans E4) W3.heap.size b2 E Abe.out (AqI BU) (Ab BU rfl) (G2.ext E4).ar.blk HEZ.out (by have:=Pe.out;omega);rw [HKE.out,←UC.out,Pe.out]at sk;(go_wp2_with fail);(with_reducible refine(kp _).mono ?_);rintro e w4 ⟨rfl,rfl⟩;(go_wp2_with fail);(with_reducible refine sk.mono ?_);rintro e w5 ⟨sv,rfl,Db,PH⟩;obtain⟨pA,pc,rfl,hP5,Ah6,Ah7⟩:=Ad.of_own' (by omega) Db;have Pa:=E4.trans PH;have S6:=(Pa.block _ (AqI Ho)).trans Ho;have y0:=Ab (o:=0) S6 rfl;have y1:=AK (o:=0) S6;have xP:=(Pa.block _ (AqI PR)).trans PR;have xJ:=(Pa.block _ (AqI cP)).trans cP;clear sk kp BU E4 PH Ho m3 PR cP
 go_upto_region 5 with fail
 have bY:=AcP (.slice pA pts.length pc) S6;have Xs5:Aa W3 w5:=Pa;have SB:=Di.trans Pa;have xY:Aa w (w5.setCell ⟨bm,0,none⟩ (.slice pA pts.length pc)):=SB.setCell (p:=⟨bm,0,none⟩) yU _;have xF:=CB (K:=fun k=>k=bm) Db ((Au.refl (fun k=>k=bm) w5).setCell (p:=⟨bm,0,none⟩) (.inl rfl) (.slice pA pts.length pc)) (fun k hk e=>by subst e;exact Bu Db S6 (by decide) hk);have EI:=(Aa.refl (w5.setCell ⟨bm,0,none⟩ (.slice pA pts.length pc))).alloc (.map #[] 0)
 have Oj:Il ((w5.setCell ⟨bm,0,none⟩ (.slice pA pts.length pc)).alloc (.map #[] 0)) w5.heap.size (BR (pts.take 0)):=by have:=AqJ (w5.setCell ⟨bm,0,none⟩ (.slice pA pts.length pc)) (.map #[] 0);rw [World.size_setCell]at this;exact this
 have Lg:=(EI.block _ (AqI bY)).trans bY;have MP:=xY.trans EI;have PP:=AC xF EI;have cX:=(DX (w:=w5) (p:=⟨bm,0,none⟩) (v:=.slice pA pts.length pc) (show w.heap.size≠bm by omega)).trans xP;have cQ:=(DX (w:=w5) (p:=⟨bm,0,none⟩) (v:=.slice pA pts.length pc) (show w.heap.size+1≠bm by omega)).trans xJ;have VS:=(EI.block _ (AqI cX)).trans cX;have ML:=(EI.block _ (AqI cQ)).trans cQ;obtain⟨bi,I1⟩:=AqG w5.heap.size;rw [←I1]at Oj ⊢;have yR:w.heap.size<=bi:=(by have:=SB.size;omega);generalize (w5.setCell ⟨bm,0,none⟩ (.slice pA pts.length pc)).alloc (.map #[] 0)=W6 at *;clear S6 y0 y1 bY Xs5 SB xY xF EI hP5 Pa I1 G2 Di Db xP xJ cX cQ;have z0:=Ab (o:=0) Lg rfl;have hl0:(0:Int)<=(pts.length:Int):=by omega
 go_upto_region 6 with fail
 clear z0
 go_loopw [27] (fun iv wr=>∃k:Nat,iv=.int .i64 (k:Nat)/\k<=pts.length/\Il wr bi (BR (pts.take k))/\Au (fun q=>q=bi) W6 wr) (fun iv _=>pts.length-(intOf iv).toNat)
 case atStart=>exact⟨0,rfl,by omega,Oj,Au.refl _ _⟩
 case round=>
  obtain⟨k,rfl,hk,hI,hB⟩:=hrel;have cK:=CB PP hB (fun k hk e=>by subst e;exact Ya PP Oj hk);have xG:Ad wr pA (flat (Ao pts)):=N6 (by omega) cK;by_cases hkn:k<pts.length
  ·obtain⟨b,o,rfl,f1,f2⟩:=C2 xG hkn;have hnew:=Ai7 HPN.out hkn
   have CO:BR (pts.take (k+1))=BR (pts.take k) ++ [(pts[k],(k:Int))]:=by rw [AqN hkn,Ai2,List.length_take,Nat.min_eq_left (by omega)]
   obtain⟨p,hp⟩:=AqG (pts[k]);rw [←hp]at f1 f2 hnew CO;have EA:=(Aa.refl wr).alloc (.cells #[S (R p.x),S (R p.y)] 92);have Aq:=AqJ wr (.cells #[S (R p.x),S (R p.y)] 92);obtain⟨W8,hput,Ka,eT,-⟩:=(hI.ext EA).put p hnew (k:Int);rw [←CO]at Ka;unfold Ak at hput;have hk0:(0:Int)<=(k:Int):=(by omega);have BH:(k:Int)<(pts.length:Int):=(by omega);have q1:=Ab (o:=0) Aq rfl;have q2:=Ab (o:=1) Aq rfl;have Ii:=AqH CO;clear hp hnew CO
   go_upto_region 8 with fail
   unfold S at Aq q1 q2 hput eT EA;have VD:=(hB.ext EA).grown eT (fun q e=>by cases e;exact .inl rfl);generalize wr.alloc (.cells #[.string ⟨(R p.x).toArray⟩,.string ⟨(R p.y).toArray⟩] 92)=V at *;clear Aq EA eT;go_wp2;go_roundw
   case rel=>exact⟨k+1,by go_num,hkn,Ka,VD⟩
   case measure=>simp [intOf];omega
  ·have Bt:k=pts.length:=(by omega);subst Bt;have hd:decide (pts.length<pts.length)=false:=(by simp);have BP:decide ((pts.length:Int)<(pts.length:Int))=false:=(by simp);rw [List.take_length]at hI;have wZ:bm≠bi:=fun e=>M5 Lg Oj e;have EE:=(hB.block _ (AqI Lg) wZ).trans Lg;have dC:=(hB.block _ (AqI VS) (fun e=>M5 VS Oj e)).trans VS;have PQ:=(hB.block _ (AqI ML) (fun e=>M5 ML Oj e)).trans ML;have BL:Aa w wr:=hB.toExt MP (fun q e=>by subst e;exact yR);have yQ:=AqI hI;have E9:=(Aa.refl wr).alloc (.map #[] 0);have wU:FX (wr.alloc (.map #[] 0)) wr.heap.size []:=AqJ wr (.map #[] 0);obtain⟨Pw,hput,bT,aj,gW⟩:=wU.put (-1) (-1) rfl;have Mj:=(Aa.refl Pw).alloc (.cells #[.map (some wr.heap.size)] 212);have AA:=AqJ Pw (.cells #[.map (some wr.heap.size)] 212);rw [AqR]at gW;have PS:Au (fun j=>j=wr.heap.size) wr Pw:=((Au.refl _ wr).ext E9).grown aj (fun k e=>by cases e;exact .inl rfl);have wO:Aa wr Pw:=PS.toExt (Aa.refl wr) (fun k e=>by subst e;exact AqK _);have NF:=wO.trans Mj
   go_upto_region 10 with fail
   go_upto_region 12 with fail
   rw [gW]at AA;have cG:FX (Pw.alloc (.cells #[.map (some wr.heap.size)] 212)) wr.heap.size [(-1,-1)]:=(Mj.block _ (AqI bT)).trans bT;have S4:=(NF.block _ (AqI EE)).trans EE;have xO:=(NF.block _ (AqI dC)).trans dC;have VO:=(NF.block _ (AqI PQ)).trans PQ;have Lf:=hI.ext NF;have xE:=AC cK NF;have On:=BL.trans NF;have VR:=AqI PQ;have AhK:=On.size;clear wU hput bT aj Mj PS wO EE dC PQ hI cK BL E9 xG hB Lg Oj MP PP VS ML wZ;clear hmm gW NF;generalize Pw.alloc (.cells #[.map (some wr.heap.size)] 212)=W11 at *;obtain⟨bn,Ca⟩:=AqG wr.heap.size;rw [←Ca]at AA cG yQ VR ⊢;clear Ca;have S8:=Ig.out.ext On;have PR:Ad W11 U (units.map S):=HU.out.ext On;have wI:w.heap.size+2<=W11.heap.size:=(by have:=AqI VO;omega);obtain⟨c,hc⟩:=AqG (⟨w.heap.size+2,bn+1,bn,bm,w.heap.size,bi,r,b1,b2,U,cu,units,.slice pA pts.length pc,BR pts,L⟩:Cn)
   have ok:c.Ok:=by subst hc;exact⟨show r<w.heap.size+2 by omega,show b1<w.heap.size+2 by omega,show w.heap.size+2<=bn by omega,show w.heap.size+2<=bm by omega,show bi≠bn by omega⟩
   have wJ:Cs c (.slice none 0 0) (.slice none 0 0) [(-1,-1)] [] [] W11:=by subst hc;exact⟨⟨AA,cG,S4,⟨rfl,.inl ⟨rfl,rfl⟩⟩,xO,PR,fun x hx=>by have:=HU2.out x hx;simp only;omega⟩,⟨S8.cell,S8.left,Lf⟩,⟨rfl,.inl ⟨rfl,rfl⟩⟩,wI⟩
   have m11:=Ab (o:=0) S8.cell rfl;have kw:=fun W=>jI (some b1) W;have U4:=(Aa.refl W11).alloc (.cells #[.map (some b1)] 131);have BU:=AqJ W11 (.cells #[.map (some b1)] 131);have sk:=mO hw ((hx.trans On).trans U4) W11.heap.size b1 L (AqI BU) (Ab BU rfl) (S8.ext U4).left HL.out (by omega);rw [←Mq.out]at sk;have hwl:ws.length=L.length:=by rw [Mq.out,(J4 _).length_eq];simp
   have jq:∀s∈ws,∃e∈L,e.1=s:=fun s hs=>by rw [Mq.out]at hs;obtain⟨e,he,h1⟩:=List.mem_map.1 ((J4 _).mem_iff.1 hs);exact⟨e,he,h1⟩
   rw [←hwl]at sk hLl;have Zf:=AqH jq;have HC:=AqH hc;clear hwl jq hc AA cG S4 xO Lf PR;(go_wp2_with fail);(with_reducible refine(kw _).mono ?_);rintro e Uw ⟨rfl,rfl⟩;(go_wp2_with fail);(with_reducible refine sk.mono ?_);rintro e w13 ⟨sv,rfl,hS13,Ja⟩;obtain⟨sA,sc,rfl,-,-,-⟩:=Ad.of_own' (by omega) hS13;have Rh:=U4.trans Ja;have AfU:=wJ.ext Rh;have xW:=On.trans Rh;have Agj:=AC xE Rh;have Agm:=(Rh.block _ (AqI VO)).trans VO;have hf0:(⟨[(-1,-1)],[],[]⟩:GT)=IW units (BR pts) L (ws.take 0):=rfl;have hk0:Rc 0 (⟨[(-1,-1)],[],[]⟩:GT):=⟨rfl,AqK _,AqK _⟩;clear kw sk BU U4 Ja m11 wJ On S8 xE VO Rh wI Ag5 yU yR yQ VR AhK hd BP;have hl2:(0:Int)<=(ws.length:Int):=by omega
   go_upto_region 13 with fail
   go_loopw [46] (fun iv wr=>∃(k:Nat) (E F:Value) (s:GT),iv=.int .i64 (k:Nat)/\k<=ws.length/\s=IW units (BR pts) L (ws.take k)/\Rc k s/\Cs c E F s.nm s.fa s.ed wr/\KB c.B w13 wr) (fun iv _=>ws.length-(intOf iv).toNat)
   case atStart=>exact⟨0,_,_,_,rfl,by omega,hf0,hk0,AfU,KB.refl _ _⟩
   case round=>
    obtain⟨k,E,F,s,rfl,hk,hs,Aj,hC,hK⟩:=hrel;have MN:=rp hS13 hK (by decide) (by decide) (by decide);by_cases hkn:k<ws.length
    ·obtain⟨b,o,rfl,f1,f2,f3,f4⟩:=NC (N6 (by omega) MN) hkn;obtain⟨e1,Lq,Kd⟩:=Zf.out _ (AqL hkn);have hsz:Ex 200 ws[k]:=by rw [←Kd];exact HL.out e1 Lq
     have fH:-1<=AI ws[k] L/\AI ws[k] L<(units.length:Int):=by obtain⟨e2,I3,h2⟩:=Xy (s:=ws[k]) (L:=L) (by rw [←Kd];exact List.mem_map_of_mem Lq);rw [h2];exact oM.out e2 I3
     have fJ:-1<=AI (AW ws[k]) L/\AI (AW ws[k]) L<(units.length:Int):=by obtain⟨e3,Hw,h3⟩:=HBK.out e1 Lq;obtain⟨e2,I3,h2⟩:=Xy (s:=AW ws[k]) (L:=L) (by rw [←Kd,←h3];exact List.mem_map_of_mem Hw);rw [h2];exact oM.out e2 I3
     have CO:IW units (BR pts) L (ws.take (k+1))=KT units (BR pts) L s ws[k]:=by rw [AqN hkn,Adf,←hs]
     have Tq:=Aj.step units (BR pts) L ws[k];obtain⟨x,hxx⟩:=AqG (ws[k]);rw [←hxx]at f1 f2 f3 f4 hsz fH fJ CO Tq;have Ii:=AqH CO;have HS:=AqH hs;have ApF:(0:Int)<=(k:Int):=(by omega);have BH:(k:Int)<(ws.length:Int):=(by omega);have EA:=(Aa.refl wr).alloc (.cells #[S (R x.a.x),S (R x.a.y),S (R x.b.x),S (R x.b.y)] 155);have Aq:=AqJ wr (.cells #[S (R x.a.x),S (R x.a.y),S (R x.b.x),S (R x.b.y)] 155);have BL:Aa w wr:=xW.trans_below hK.bl (by have:=HC.out;rw [this];simp only;omega);have QG:=fun (V:World) (hV:Aa wr V)=>IE x.a x.b hsz.a hsz.b (by omega) (by omega) V (hw.ext ((hx.trans BL).trans hV));clear hxx CO hs Kd Lq e1
     go_upto_region 15 with fail
     unfold S at Aq EA;have VW:JQ (wr.alloc (.cells #[.string ⟨(R x.a.x).toArray⟩,.string ⟨(R x.a.y).toArray⟩,.string ⟨(R x.b.x).toArray⟩,.string ⟨(R x.b.y).toArray⟩] 155)) wr.heap.size x:=Aq;generalize wr.alloc (.cells #[.string ⟨(R x.a.x).toArray⟩,.string ⟨(R x.a.y).toArray⟩,.string ⟨(R x.b.x).toArray⟩,.string ⟨(R x.b.y).toArray⟩] 155)=V at *;obtain⟨Co,yJ⟩:=AqG wr.heap.size;rw [←yJ]at Aq VW ⊢;clear yJ f1 f2 f3 f4;have y0:=Ab (o:=0) Aq rfl;have y1:=Ab (o:=1) Aq rfl;have y2:=Ab (o:=2) Aq rfl;have y3:=Ab (o:=3) Aq rfl;have p1:=QG V EA;obtain⟨z,hz⟩:=AqG (Be x.a x.b);rw [←hz]at p1;unfold Ak S at p1;(go_wp2_with fail);(with_reducible refine p1.mono ?_);rintro e w3 ⟨rfl,hx3⟩;have X3:=EA.trans hx3;have VG:=hC.ext X3;have hK3:=hK.trans (KB.ext X3 hC.size);have hW3:JQ w3 Co x:=(hx3.block _ (AqI VW)).trans VW;clear p1 QG y0 y1 y2 y3 Aq VW;by_cases L1:z<0
     ·have hce:KT units (BR pts) L s x=M4 units (BR pts) L s x:=(by unfold KT;rw [if_pos (by rw [←hz];exact L1)]);rw [hce]at Tq;have Ml:=AqH hce;have hfa:=Aj.fa;have SV:=Aj.ed;have Av:c.units=units:=(by rw [HC.out]);have aR:=fun (V:World) (F':Value) (h:Cs c E F' s.nm s.fa s.ed V)=>vJ ok h Aj.h (AI x L) fH.1 (by rw [Av];exact fH.2) (by rw [Av];exact Kk) (by omega);have Ep:=jV units s.nm s.fa (AI x L);have hh1:=jU units s.fa (AI x L) Aj.h;have vN:=fun (V:World) (F':Value) (h:Cs c E F' (Bz units s.nm s.fa (AI x L)).2.1 (Bz units s.nm s.fa (AI x L)).2.2 s.ed V)=>vJ ok h hh1 (AI (AW x) L) fJ.1 (by rw [Av];exact fJ.2) (by rw [Av];exact Kk) (by omega);rw [Av]at aR vN
      have vM:∀(V:World) (F':Value) (h:Cs c E F' s.nm s.fa s.ed V),Calls Tryz.prog 196 #[.int .i64 (AI x L),.pointer (some ⟨bn+1,0,none⟩),.pointer (some ⟨bm,0,none⟩),.pointer (some ⟨w.heap.size,0,none⟩)] V (Pd V c.B c.bx c.bn c.bm c.bu c.U c.cu c.units c.P E F' (Bz units s.nm s.fa (AI x L)).1 (Bz units s.nm s.fa (AI x L)).2.1 (Bz units s.nm s.fa (AI x L)).2.2):=by intro V F' h;have t:=aR V F' h;rw [←Av]at t;rw [←Av];have hc:=HC.out;rw [show (bn+1)=c.bx by rw [hc],show bm=c.bm by rw [hc],show w.heap.size=c.bu by rw [hc]];exact t
      have Zd:=AqH Av;have HFM:=AqH vN;have PG:=VG.ext (Aa.refl w3).drew;have lk:=QP x L (W:=w3.drew) (by have:=PG.rd.left;rw [HC.out]at this;exact this);have WS:=PG.rd.net;rw [HC.out]at WS;simp only at WS;have m1:=Ab (o:=0) WS rfl;have hwd:JQ w3.drew Co x:=hW3;have g0:=Ab (o:=0) hwd rfl;have g1:=Ab (o:=1) hwd rfl;have g2:=Ab (o:=2) hwd rfl;have g3:=Ab (o:=3) hwd rfl;unfold As at lk;have aQ:=vM _ F PG;have Aij:w3.drew.heap[Co]?=some (.cells #[S (R x.a.x),S (R x.a.y),S (R x.b.x),S (R x.b.y)] 155 (0,0)):=hW3;clear aR vM Ep Av WS hwd hce;obtain⟨zl,hzl⟩:=AqG ((Bz units s.nm s.fa (AI x L)).1);rw [←hzl]at aQ;have HZL:=AqH hzl;clear hzl
      go_upto_region 16 with fail
      go_cut [13] (fun v13 wx=>v13=.int .i64 zl/\∃F',Cs c E F' (Bz units s.nm s.fa (AI x L)).2.1 (Bz units s.nm s.fa (AI x L)).2.2 s.ed wx/\KB c.B w13 wx/\JQ wx Co x)
      case first=>
       go_region_with ((with_reducible refine aQ.mono ?_);rintro e w4 ⟨F4,rfl,hF4,Fb⟩)
       all_goals go_wp2
       all_goals go_meet
       all_goals (
        have Hq:=KB.named ok PG Fb
        refine⟨rfl,F4,PG.named ok (by rw [Zd.out]at hF4 ⊢;exact hF4) Fb,(hK3.trans (KB.ext (Aa.refl w3).drew VG.size)).trans Hq,Hq.kp Co _ _ _ (by decide) (by decide) (by decide) Aij⟩)
      case rest=>
       obtain⟨rfl,F4,wK,hK4,dG⟩:=hcut;obtain⟨W9,rfl⟩:=AjZ wK;have ac:=HFM.out
       have Wz:∀(V:World) (F':Value),Cs c E F' (Bz units s.nm s.fa (AI x L)).2.1 (Bz units s.nm s.fa (AI x L)).2.2 s.ed V→Calls Tryz.prog 196 #[.int .i64 (AI (AW x) L),.pointer (some ⟨c.bx,0,none⟩),.pointer (some ⟨c.bm,0,none⟩),.pointer (some ⟨c.bu,0,none⟩)] V (Pd V c.B c.bx c.bn c.bm c.bu c.U c.cu c.units c.P E F' (Bz units (Bz units s.nm s.fa (AI x L)).2.1 (Bz units s.nm s.fa (AI x L)).2.2 (AI (AW x) L)).1 (Bz units (Bz units s.nm s.fa (AI x L)).2.1 (Bz units s.nm s.fa (AI x L)).2.2 (AI (AW x) L)).2.1 (Bz units (Bz units s.nm s.fa (AI x L)).2.1 (Bz units s.nm s.fa (AI x L)).2.2 (AI (AW x) L)).2.2):=by intro V F' h';have t:=ac V F' h';rw [←Zd.out]at t;rw [←Zd.out];exact t
       clear ac lk m1 g0 g1 g2 g3 aQ PG VG hK3 hW3;have hel:s.ed.length<200000:=by omega
       go_upto_region 17 with fail
       refine Ami (c:=c) ok wK dG hel zl (GK x.a (BR pts)) (GK x.b (BR pts)) (AI (AW x) L) _ (by rw [HC.out]) (by rw [HC.out]) (by rw [HC.out]) Wz rfl (by kernel_rfl) (by kernel_rfl) (by simp) (by rw [HC.out];rfl) (by rw [HC.out];rfl) rfl rfl (by rw [HC.out];rfl) (by rw [HC.out];rfl) ?_;intro v w9 E9 F9 bO hK9;simp only [List.take_succ_cons,List.take_zero,List.drop_succ_cons,List.drop_zero,List.cons_append,List.nil_append,show List.range 24 = [0,1,2,3,4,5,6,7,8,9,10,11,12,13,14,15,16,17,18,19,20,21,22,23] from rfl,List.map_cons,List.map_nil];clear Wz;have YH:=AqH (show M4 units (BR pts) L s x=IW units (BR pts) L (ws.take (k+1))by rw [Ii.out,Ml.out])
       have AfV:Cs c E9 F9 (M4 units (BR pts) L s x).nm (M4 units (BR pts) L s x).fa (M4 units (BR pts) L s x).ed w9:=by have hz:=HZL.out;rw [hz]at bO;exact bO
       clear bO;go_wp2;go_roundw
       case rel=>exact⟨k+1,E9,F9,M4 units (BR pts) L s x,by go_num,hkn,YH.out,Tq,AfV,hK4.trans hK9⟩
       case measure=>simp [intOf];omega
     ·have hce:KT units (BR pts) L s x=s:=(by unfold KT;rw [if_neg (by rw [←hz];exact L1)]);rw [hce]at Tq;have YH:=AqH (show s=IW units (BR pts) L (ws.take (k+1))by rw [Ii.out,hce]);clear hce hz;go_wp2;go_roundw
      case rel=>exact⟨k+1,E,F,s,by go_num,hkn,YH.out,Tq,VG,hK3⟩
      case measure=>simp [intOf];omega
    ·have Bt:k=ws.length:=(by omega);subst Bt;have Ww:decide (ws.length<ws.length)=false:=(by simp);have Ap3:decide ((ws.length:Int)<(ws.length:Int))=false:=(by simp);rw [List.take_length,←HST.out]at hs;subst hs;obtain⟨oE,cE,rfl,hE9,Cf,Cq⟩:=Ad.of_own' (by omega) hC.own;obtain⟨oF,cF,rfl,hF9,hF1,hF2⟩:=Ad.of_own' (by omega) hC.fc.fac;have Jc:=(hK.bl.block _ (by rw [HC.out];show w.heap.size+1<w.heap.size+2;omega)).trans Agm;have SQ:=hC.fc.cM;have hcb:c.bm=bm/\c.P=.slice pA pts.length pc/\c.B=w.heap.size+2:=(by rw [HC.out];exact⟨rfl,rfl,rfl⟩);rw [hcb.1,hcb.2.1]at SQ;have cL:=rp Agj hK (by decide) (by decide) (by decide);have BY:Aa w wr:=xW.trans_below hK.bl (by rw [hcb.2.2];omega);have m0:=Ab (o:=0) SQ rfl;have m1:=Ab (o:=1) SQ rfl;have m2:=Ab (o:=2) SQ rfl;have r0:=Ab (o:=0) Jc rfl;have r1:=Ab (o:=1) Jc rfl;have r2:=Ab (o:=2) Jc rfl;have r3:=AK (o:=0) Jc;have r4:=AK (o:=1) Jc;have r5:=AK (o:=2) Jc;have Gn:=Ve (.slice pA pts.length pc) (.slice oE s.ed.length cE) (.slice oF s.fa.length cF) Jc;have bb:=(((Au.refl (fun q=>q=w.heap.size+1) wr).setCell (p:=⟨w.heap.size+1,0,none⟩) (.inl rfl) (.slice pA pts.length pc)).setCell (p:=⟨w.heap.size+1,1,none⟩) (.inl rfl) (.slice oE s.ed.length cE)).setCell (p:=⟨w.heap.size+1,2,none⟩) (.inl rfl) (.slice oF s.fa.length cF);have f1:=N6 (by omega) (CB cL bb (fun q hq e=>by subst e;exact Bu cL Jc (by decide) hq));have f2:=N6 (by omega) (CB hC.own bb (fun q hq e=>by subst e;exact Bu hC.own Jc (by decide) hq));have f3:=N6 (by omega) (CB hC.fc.fac bb (fun q hq e=>by subst e;exact Bu hC.fc.fac Jc (by decide) hq));have SD:=bb.toExt BY (fun q e=>by subst e;omega);have t1:=Ab (o:=0) Gn rfl;have t2:=Ab (o:=1) Gn rfl;have t3:=Ab (o:=2) Gn rfl
     have AS:nH w ⟨pts,s.ed,s.fa.length⟩ s.fa (.returned (DK pA oE oF ⟨pts,s.ed,s.fa.length⟩ pc cE cF)) (((wr.setCell ⟨w.heap.size+1,0,none⟩ (.slice pA pts.length pc)).setCell ⟨w.heap.size+1,1,none⟩ (.slice oE s.ed.length cE)).setCell ⟨w.heap.size+1,2,none⟩ (.slice oF s.fa.length cF)):=
      ⟨pA,oE,oF,pc,cE,cF,rfl,⟨Ah6,Ah7,Cf,Cq,hF1,hF2⟩,f1,f2,f3,rfl,SD⟩
     have BN:=AqH AS;clear AS SD f1 f2 f3 bb Gn Jc SQ hC hK cL BY;go_wp2;refine bodyPost_ret (v:=.agg #[.slice pA pts.length pc,.slice oE s.ed.length cE,.slice oF s.fa.length cF]) (by simp [results,Tryz.results112,go_sem,t1,t2,t3]) rfl ?_;exact BN.out
end Go.Proofs.YtjalkoacphhgdaaGreatDoor
