/- Y44: BS BT BU. -/
import Derived.Test.YtjalkoacphhgdaaGreatDoorY43
import Derived.Test.YtjalkoacphhgdaaGreatDoorY42
set_option maxRecDepth 100000
set_option maxHeartbeats 16000000
namespace Go.Proofs.YtjalkoacphhgdaaGreatDoor
open Go.RowKit Kl Go.Shelf
def fE:List (Op×Option Nat):=[
 (.fieldAddr 36 (.tmp 5) 1,some 64),(.load 34 (.tmp 64),some 65),(.move (.tmp 6),some 66),(.fieldAddr 155 (.tmp 12) 0,some 67),(.load 92 (.tmp 67),some 68),
 (.lookup 252 (.tmp 66) (.tmp 68) false,some 69),(.move (.tmp 6),some 70),(.fieldAddr 155 (.tmp 12) 1,some 71),(.load 92 (.tmp 71),some 72),
 (.lookup 252 (.tmp 70) (.tmp 72) false,some 73),(.move (.tmp 13),some 74),(.move (.tmp 10),some 75),(.move (.tmp 0),some 76),(.nilCheck (.tmp 76),some 77),(.fieldAddr 134 (.tmp 77) 0,some 78),
 (.load 131 (.tmp 78),some 79),(.load 155 (.tmp 12),some 80),
 (.call {callee:=.value (.func 104),args:=#[.tmp 80],argTypes:=#[155]},some 81),(.lookup 131 (.tmp 79) (.tmp 81) false,some 82),
 (.call {callee:=.value (.tmp 75),args:=#[.tmp 82],argTypes:=#[3]},some 83),
 (.build 126 #[(0,.tmp 69),(1,.tmp 73),(2,.tmp 74),(3,.tmp 83)],some 84),(.buildSlice 34 1 #[(0,.tmp 84)],some 85),
 (.call {callee:=.builtin .append,args:=#[.tmp 65,.tmp 85],argTypes:=#[34,34]},some 86),(.fieldAddr 36 (.tmp 5) 1,some 87),(.store 34 (.tmp 87) (.tmp 86),none)]
def YD:List (Nat×Nat):=[(1,0),(4,3),(5,2),(5,4),(8,7),(9,6),(9,8),(13,12),(14,13),(15,14),(17,16),(18,15),(18,17),(19,11),(19,18),(20,5),(20,9),(20,10),(20,19),(21,20),(22,1),(22,21),(24,22),(24,23)]
def L2(c:Cn)(E:Value)(Cl:Nat)(x:Sg)(zl i1 i2 lr zr:Int)(g:Nat×Value):Nat→Value
 | 0=>.pointer (some ⟨c.bm,1,none⟩)
 | 1=>E
 | 2=>.map (some c.bi)
 | 3=>.pointer (some ⟨Cl,0,none⟩)
 | 4=>Ak x.a
 | 5=>.int .i64 i1
 | 6=>.map (some c.bi)
 | 7=>.pointer (some ⟨Cl,2,none⟩)
 | 8=>Ak x.b
 | 9=>.int .i64 i2
 | 10=>.int .i64 zl
 | 11=>c.fn
 | 12=>.pointer (some ⟨c.r,0,none⟩)
 | 13=>.pointer (some ⟨c.r,0,none⟩)
 | 14=>.pointer (some ⟨c.r,0,none⟩)
 | 15=>.map (some c.b1)
 | 16=>As x
 | 17=>As (AQ x)
 | 18=>.int .i64 lr
 | 19=>.int .i64 zr
 | 20=>.agg #[.int .i64 i1,.int .i64 i2,.int .i64 zl,.int .i64 zr]
 | 21=>.slice (some ⟨g.1,0,none⟩) 1 1
 | 22=>g.2
 | _=>.pointer (some ⟨c.bm,1,none⟩)
structure O8(c:Cn)(W:World)(E:Value)(eds:List Av)(d:Av)(Fw:List (Int×Int))(Bl:List Bs)(Cl:Nat)(x:Sg)(g:Nat×Value)(l:Array Bool)(w:World):Prop where
 way:Jz w Cl x
 kb:KB c.B W w
 sA:l.getD 19 false=false→Aa W w
 sB:l.getD 19 false=true→l.getD 22 false=false→∃F',Cs c E F' Fw Bl eds w
 sG:l.getD 21 false=true→l.getD 22 false=false→w.heap[g.1]?=some (.cells #[.int .i64 d.f,.int .i64 d.t,.int .i64 d.l,.int .i64 d.r] 126)
 sC:l.getD 22 false=true→l.getD 24 false=false→∃F',w.heap[c.bm]?=some (.cells #[c.P,E,F'] 36)/\(∃A k d,g.2=.slice A k d)/\Cs c g.2 F' Fw Bl (eds ++ [d]) (w.setCell ⟨c.bm,1,none⟩ g.2)
 sD:l.getD 24 false=true→∃F',Cs c g.2 F' Fw Bl (eds ++ [d]) w
theorem Acf(b:Nat)(w:World):(Instr.fieldAt 155 (.pointer (some ⟨b,0,none⟩)) 0).run Tryz.prog w=.ok (.pointer (some ⟨b,0,none⟩)) w:=by simp [go_sem]
theorem Acg(b:Nat)(w:World):(Instr.fieldAt 155 (.pointer (some ⟨b,0,none⟩)) 1).run Tryz.prog w=.ok (.pointer (some ⟨b,2,none⟩)) w:=by simp [go_sem]
theorem Ace(b:Nat)(w:World):(Instr.fieldAt 134 (.pointer (some ⟨b,0,none⟩)) 0).run Tryz.prog w=.ok (.pointer (some ⟨b,0,none⟩)) w:=by simp [go_sem]
theorem AfR{w:World}{b:Nat}{x:Sg}(h:Jz w b x):(Instr.loadAt 155 (.pointer (some ⟨b,0,none⟩))).run Tryz.prog w=.ok (As x) w:=by
 have h0:=Ab (o:=0) h rfl;have h1:=Ab (o:=1) h rfl;have h2:=Ab (o:=2) h rfl;have h3:=Ab (o:=3) h rfl;simp [go_sem,h0,h1,h2,h3,As]
theorem AfQ{w:World}{b:Nat}{u v:Value}(h:w.heap[b]?=some (.cells #[u,v] 134)):(Instr.loadAt 131 (.pointer (some ⟨b,0,none⟩))).run Tryz.prog w=.ok u w:=by
 have h0:=Ab (o:=0) h rfl;simp [go_sem,h0]
theorem iZ{P:Program}{o:Oper}{a:Act}{w:World}{v:Value}{K:Act→World→Prop}{Q:Exit→Act→World→Prop}{t:TypeId}{x y:Operand}{b:Bool}{D:Option Nat}(p:.lookup t x y b=o.op)(d:D=o.dst)(h:(Instr.lookup t (a.eval x) (a.eval y) b).run P w=.ok v w)(hk:K (a.put D v) w):o.wp P a w K Q:=
 Tw (Instr.lookup t (a.eval x) (a.eval y) b) (by unfold execOp;rw [←p]) h (d▸hk)
section
variable {c : Cn} {W : World} {E : Value} {eds : List Av} {d : Av} {Fw : List (Int × Int)} {Bl : List Bs} {Cl : Nat} {x : Sg} {g : Nat × Value} {l : Array Bool} {w : World}
theorem O8.put(h:O8 c W E eds d Fw Bl Cl x g l w){i:Nat}(hi:i≠19/\i≠21/\i≠22/\i≠24):O8 c W E eds d Fw Bl Cl x g (l.setIfInBounds i true) w:=by
 refine⟨h.way,h.kb,?_,?_,?_,?_,?_⟩
 all_goals simp only [getD_set_ne false hi.1,getD_set_ne false hi.2.1,getD_set_ne false hi.2.2.1,getD_set_ne false hi.2.2.2]
 ·exact h.sA
 ·exact h.sB
 ·exact h.sG
 ·exact h.sC
 ·exact h.sD
end
theorem Aip{c:Cn}(ok:c.Ok){W:World}{E F:Value}{nm Fw:List (Int×Int)}{Am Bl:List Bs}{eds:List Av}(h0:Cs c E F nm Am eds W){Cl:Nat}{x:Sg}(hx:Jz W Cl x)(hel:eds.length<200000)(zl i1 i2 lr zr:Int)
  (Pv:Gx x.a c.idx=i1) (KH:Gx x.b c.idx=i2) (vV:AG (AQ x) c.L=lr)
  (Vk:∀w F,Cs c E F nm Am eds w→Calls Tryz.prog 196 #[.int .i64 lr,.pointer (some ⟨c.bx,0,none⟩),.pointer (some ⟨c.bm,0,none⟩),.pointer (some ⟨c.bu,0,none⟩)] w (Ot w c.B c.bx c.bn c.bm c.bu c.U c.cu c.units c.P E F zr Fw Bl))
  {a0:Act} {ops:Array Oper} (hop:ops.toList.map (fun o=>(o.op,o.dst))=fE) (AM:oI ops YD=true) (V9:okB 64 24 ops=true) (hsz:88<=a0.tmps.size)
  (e5:a0.eval (.tmp 5)=.pointer (some ⟨c.bm,0,none⟩)) (e6:a0.eval (.tmp 6)=.map (some c.bi)) (e12:a0.eval (.tmp 12)=.pointer (some ⟨Cl,0,none⟩)) (YF:a0.eval (.tmp 13)=.int .i64 zl) (e10:a0.eval (.tmp 10)=c.fn) (e0:a0.eval (.tmp 0)=.pointer (some ⟨c.r,0,none⟩))
  {id:Nat} {Q:Exit→Act→World→Prop}
  (hend:∀(v:Nat→Value) w E' F',Cs c E' F' Fw Bl (eds ++ [⟨i1,i2,zl,zr⟩]) w→KB c.B W w→Q .normal ⟨(a0.tmps.toList.take 64++((List.range 24).map v++a0.tmps.toList.drop 88)).toArray,a0.defers⟩ w) :
  (Code.region id ops true).wp Tryz.prog Q a0 W:=by
 have eg1:Enters Tryz.prog 104:=enters_of Tryz.func104 (by kernel_rfl) rfl;have eg3:Enters Tryz.prog 196:=enters_of Tryz.func196 (by kernel_rfl) rfl
 have AlX:ops.size=25:=by
  have:=congrArg List.length hop
  simpa [fE]using this
 refine Ak2 64 24 (L2 c E Cl x zl i1 i2 lr zr) (fun g l w=>O8 c W E eds ⟨i1,i2,zl,zr⟩ Fw Bl Cl x g l w) (0,.slice none 0 0) (by kernel_rfl) V9 (by omega) ?_ ?_ ?_
 ·refine⟨(Aa.refl W).drew.block _ (AmA hx) |>.trans hx,KB.ext (Aa.refl W).drew h0.size,fun _=>(Aa.refl W).drew,?_,?_,?_,?_⟩
  all_goals (rw [getD_replicate_false];intro e;cases e)
 ·intro b l a w i o Aj hst ho bD Ay hd;have hi:i<25:=(by have:=(Array.getElem?_eq_some_iff.1 ho).1;omega);have hL:=Ahc hop ho;have uP:=JZ hd;have ev:=fun (d:Nat) {v:Value} (e:a0.eval (.tmp d)=v) (hd:d<64)=>Aj.out V9 (.inl hd) e;replace e5:=ev 5 e5 (by omega);replace e6:=ev 6 e6 (by omega);replace e12:=ev 12 e12 (by omega);replace YF:=ev 13 YF (by omega);replace e10:=ev 10 e10 (by omega);replace e0:=ev 0 e0 (by omega)
  have dep:∀j k,YD.contains (j,k)=true→j=i→l.getD k false=true:=by rintro j k hjk rfl;have h1:=List.all_eq_true.1 AM (j,k) (by simpa using hjk);rw [ho]at h1;exact uP k h1
  have need:∀j k,YD.contains (j,k)=true→l.getD j false=true→l.getD k false=true:=by
   intro j k hjk hl;have h1:=List.all_eq_true.1 AM (j,k) (by simpa using hjk)
   cases bL:ops[j]? with
   | none=>rw [bL]at h1;cases h1
   | some oj=>rw [bL]at h1;exact Aj.waits bL hl k h1
  have sl:=fun (k:Nat) (hk:k<24) (hl:l.getD k false=true)=>Aj.val V9 k (d:=64+k) rfl hk hl (v:=L2 c E Cl x zl i1 i2 lr zr b k) rfl
  have Yu:l.getD 22 false=true→∀k,k<22→k≠0∨k=0→l.getD k false=true:=by
   intro Kw k hk _;have k1:=need 22 1 (by decide) Kw;have VQ:=need 22 21 (by decide) Kw;have PH:=need 21 20 (by decide) VQ;have k5:=need 20 5 (by decide) PH;have k9:=need 20 9 (by decide) PH;have zD:=need 20 10 (by decide) PH;have VP:=need 20 19 (by decide) PH;have k0:=need 1 0 (by decide) k1;have k2:=need 5 2 (by decide) k5;have k4:=need 5 4 (by decide) k5;have k3:=need 4 3 (by decide) k4;have k6:=need 9 6 (by decide) k9;have k8:=need 9 8 (by decide) k9;have k7:=need 8 7 (by decide) k8;have zE:=need 19 11 (by decide) VP;have dU:=need 19 18 (by decide) VP;have dT:=need 18 15 (by decide) dU;have zG:=need 18 17 (by decide) dU;have zF:=need 17 16 (by decide) zG;have dS:=need 15 14 (by decide) dT;have dR:=need 14 13 (by decide) dS;have k12:=need 13 12 (by decide) dR
   rcases(by omega:k=0∨k=1∨k=2∨k=3∨k=4∨k=5∨k=6∨k=7∨k=8∨k=9∨k=10∨k=11∨k=12∨k=13∨k=14∨k=15∨k=16∨k=17∨k=18∨k=19∨k=20∨k=21)with rfl|rfl|rfl|rfl|rfl|rfl|rfl|rfl|rfl|rfl|rfl|rfl|rfl|rfl|rfl|rfl|rfl|rfl|rfl|rfl|rfl|rfl<;>assumption
  have n22:i<22→l.getD 22 false=false:=fun h=>by
   cases e:l.getD 22 false
   ·rfl
   ·have:=Yu e i h (by omega);rw [Ay]at this;cases this
  have cs:i<22→∃F nm Am,Cs c E F nm Am eds w:=fun h=>by
   cases e:l.getD 19 false
   ·exact⟨_,_,_,h0.ext (hst.sA e)⟩
   ·obtain⟨F',h'⟩:=hst.sB e (n22 h);exact⟨F',_,_,h'⟩
  have fin:(i≠19/\i≠21/\i≠22/\i≠24)→∀v,v=L2 c E Cl x zl i1 i2 lr zr b i→∃b',a.put o.dst v=a.put o.dst (L2 c E Cl x zl i1 i2 lr zr b' i)/\(∀j,l.getD j false=true→L2 c E Cl x zl i1 i2 lr zr b' j=L2 c E Cl x zl i1 i2 lr zr b j)/\O8 c W E eds ⟨i1,i2,zl,zr⟩ Fw Bl Cl x b' (l.setIfInBounds i true) w:=
   fun hne v hv=>⟨b,by rw [hv],fun _ _=>rfl,hst.put hne⟩
  rcases(by omega:i=0∨i=1∨i=2∨i=3∨i=4∨i=5∨i=6∨i=7∨i=8∨i=9∨i=10∨i=11∨i=12∨i=13∨i=14∨i=15∨i=16∨i=17∨i=18∨i=19∨i=20∨i=21∨i=22∨i=23∨i=24)with rfl|rfl|rfl|rfl|rfl|rfl|rfl|rfl|rfl|rfl|rfl|rfl|rfl|rfl|rfl|rfl|rfl|rfl|rfl|rfl|rfl|rfl|rfl|rfl|rfl
  all_goals
   simp only [fE,List.getElem?_cons_zero,List.getElem?_cons_succ,AmG,Prod.mk.injEq]at hL;obtain⟨p,d⟩:=hL
  ·refine Tt p d (by rw [e5];exact qM _ _) ?_;rw [d];exact fin (by omega) _ rfl
  ·obtain⟨F1,JK,U0,hc⟩:=cs (by omega);refine Tu p d (by rw [show a.eval (.tmp 64)=_ from sl 0 (by omega) (dep 1 0 (by decide) rfl)];exact AfP (Ab hc.fc.cM rfl)) ?_;rw [d];exact fin (by omega) _ rfl
  ·refine Tv _ p.symm ?_;rw [e6];exact fin (by omega) _ rfl
  ·refine Tt p d (by rw [e12];exact Acf _ _) ?_;rw [d];exact fin (by omega) _ rfl
  ·refine Tu p d (by rw [show a.eval (.tmp 67)=_ from sl 3 (by omega) (dep 4 3 (by decide) rfl)];exact zV (Ab (o:=0) hst.way rfl) (Ab (o:=1) hst.way rfl)) ?_;rw [d];exact fin (by omega) _ rfl
  ·obtain⟨F1,JK,U0,hc⟩:=cs (by omega);refine iZ p d (by rw [show a.eval (.tmp 66)=_ from sl 2 (by omega) (dep 5 2 (by decide) rfl),show a.eval (.tmp 68)=_ from sl 4 (by omega) (dep 5 4 (by decide) rfl)];exact hc.rd.idx.look x.a) ?_;rw [d];exact fin (by omega) _ (by rw [Pv];rfl)
  ·refine Tv _ p.symm ?_;rw [e6];exact fin (by omega) _ rfl
  ·refine Tt p d (by rw [e12];exact Acg _ _) ?_;rw [d];exact fin (by omega) _ rfl
  ·refine Tu p d (by rw [show a.eval (.tmp 71)=_ from sl 7 (by omega) (dep 8 7 (by decide) rfl)];exact zV (Ab (o:=2) hst.way rfl) (Ab (o:=3) hst.way rfl)) ?_;rw [d];exact fin (by omega) _ rfl
  ·obtain⟨F1,JK,U0,hc⟩:=cs (by omega);refine iZ p d (by rw [show a.eval (.tmp 70)=_ from sl 6 (by omega) (dep 9 6 (by decide) rfl),show a.eval (.tmp 72)=_ from sl 8 (by omega) (dep 9 8 (by decide) rfl)];exact hc.rd.idx.look x.b) ?_;rw [d];exact fin (by omega) _ (by rw [KH];rfl)
  ·refine Tv _ p.symm ?_;rw [YF];exact fin (by omega) _ rfl
  ·refine Tv _ p.symm ?_;rw [e10];exact fin (by omega) _ rfl
  ·refine Tv _ p.symm ?_;rw [e0];exact fin (by omega) _ rfl
  ·have s12:a.eval (.tmp 76)=.pointer (some ⟨c.r,0,none⟩):=sl 12 (by omega) (dep 13 12 (by decide) rfl);refine oh (v:=.pointer (some ⟨c.r,0,none⟩)) (w':=w) ?_ (fin (by omega) _ rfl);unfold execOp;rw [←p];simp [s12]
  ·refine Tt p d (by rw [show a.eval (.tmp 77)=_ from sl 13 (by omega) (dep 14 13 (by decide) rfl)];exact Ace _ _) ?_;rw [d];exact fin (by omega) _ rfl
  ·obtain⟨F1,JK,U0,hc⟩:=cs (by omega);refine Tu p d (by rw [show a.eval (.tmp 78)=_ from sl 14 (by omega) (dep 15 14 (by decide) rfl)];exact AfQ hc.rd.net) ?_;rw [d];exact fin (by omega) _ rfl
  ·refine Tu p d (by rw [e12];exact AfR hst.way) ?_;rw [d];exact fin (by omega) _ rfl
  ·have n19:l.getD 19 false=false:=by
    cases e:l.getD 19 false
    ·rfl
    ·have:=need 18 17 (by decide) (need 19 18 (by decide) e);rw [Ay]at this;cases this
   have n21:l.getD 21 false=false:=by
    cases e:l.getD 21 false
    ·rfl
    ·have:=need 20 19 (by decide) (need 21 20 (by decide) e);rw [n19]at this;cases this
   have n24:l.getD 24 false=false:=by
    cases e:l.getD 24 false
    ·rfl
    ·have:=need 24 22 (by decide) e;rw [n22 (by omega)]at this;cases this
   refine Akz p.symm eg1 (show a.eval (.tmp 80)=_ from sl 16 (by omega) (dep 17 16 (by decide) rfl)) (Uf x w) ?_;rintro e w'' ⟨rfl,hX⟩;refine⟨_,rfl,b,rfl,fun _ _=>rfl,?_⟩;refine O8.put ⟨(hX.block _ (AmA hst.way)).trans hst.way,hst.kb.trans (KB.ext hX (h0.ext (hst.sA n19)).size),fun e=>(hst.sA e).trans hX,fun e=>?_,fun e=>?_,fun e=>?_,fun e=>?_⟩ (by omega)
   ·rw [n19]at e;cases e
   ·rw [n21]at e;cases e
   ·rw [n22 (by omega)]at e;cases e
   ·rw [n24]at e;cases e
  ·obtain⟨F1,JK,U0,hc⟩:=cs (by omega);refine iZ p d (by rw [show a.eval (.tmp 79)=_ from sl 15 (by omega) (dep 18 15 (by decide) rfl),show a.eval (.tmp 81)=_ from sl 17 (by omega) (dep 18 17 (by decide) rfl)];exact Qh _ _ hc.rd.left) ?_;rw [d];exact fin (by omega) _ (by rw [vV];rfl)
  ·have n21:l.getD 21 false=false:=by
    cases e:l.getD 21 false
    ·rfl
    ·have:=need 20 19 (by decide) (need 21 20 (by decide) e);rw [Ay]at this;cases this
   have n24:l.getD 24 false=false:=by
    cases e:l.getD 24 false
    ·rfl
    ·have:=need 24 22 (by decide) e;rw [n22 (by omega)]at this;cases this
   have hC:=h0.ext (hst.sA Ay);refine Ak0 p.symm eg3 (show a.eval (.tmp 75)=_ from sl 11 (by omega) (dep 19 11 (by decide) rfl)) (show a.eval (.tmp 82)=_ from sl 18 (by omega) (dep 19 18 (by decide) rfl)) (Vk w F hC) ?_;rintro e w'' ⟨F',rfl,hF,hB⟩;refine⟨_,rfl,b,rfl,fun _ _=>rfl,?_⟩
   have hw:Jz w'' Cl x:=(hB.block _ (AmA hst.way) (by
    rintro(e|e|e)
    ·exact LQ hst.way hC.fc.num e
    ·exact DO hst.way hC.fc.cM (by decide) e
    ·exact Bp hC.fc.fac hst.way (by decide) e)).trans hst.way
   refine⟨hw,hst.kb.trans (KB.named ok hC hB),?_,?_,?_,?_,?_⟩
   all_goals simp only [I6 (show 19<l.size by omega),getD_set_ne false (show (19:Nat)≠21 by omega),getD_set_ne false (show (19:Nat)≠22 by omega),getD_set_ne false (show (19:Nat)≠24 by omega)]
   ·intro e;cases e
   ·intro _ _;exact⟨F',hC.named ok hF hB⟩
   ·intro e;rw [n21]at e;cases e
   ·intro e;rw [n22 (by omega)]at e;cases e
   ·intro e;rw [n24]at e;cases e
  ·have s5:a.eval (.tmp 69)=.int .i64 i1:=sl 5 (by omega) (dep 20 5 (by decide) rfl);have s9:a.eval (.tmp 73)=.int .i64 i2:=sl 9 (by omega) (dep 20 9 (by decide) rfl);have s10:a.eval (.tmp 74)=.int .i64 zl:=sl 10 (by omega) (dep 20 10 (by decide) rfl);have s15:a.eval (.tmp 83)=.int .i64 zr:=sl 19 (by omega) (dep 20 19 (by decide) rfl);refine Tw (Instr.build 126 #[(0,.int .i64 i1),(1,.int .i64 i2),(2,.int .i64 zl),(3,.int .i64 zr)]) (by unfold execOp;rw [←p];simp [s5,s9,s10,s15]) (Aai _ _ _ _ _) ?_;exact fin (by omega) _ rfl
  ·have D8:=dep 21 20 (by decide) rfl;have LY:=need 20 19 (by decide) D8
   have n24:l.getD 24 false=false:=by
    cases e:l.getD 24 false
    ·rfl
    ·have:=need 24 22 (by decide) e;rw [n22 (by omega)]at this;cases this
   have s16:a.eval (.tmp 84)=.agg #[.int .i64 i1,.int .i64 i2,.int .i64 zl,.int .i64 zr]:=sl 20 (by omega) D8;refine Tw (Instr.buildSlice 34 1 #[(0,.agg #[.int .i64 i1,.int .i64 i2,.int .i64 zl,.int .i64 zr])]) (by unfold execOp;rw [←p];simp [s16]) (Aah _ _ _ _ _) ?_;have hX:=(Aa.refl w).alloc (.cells #[.int .i64 i1,.int .i64 i2,.int .i64 zl,.int .i64 zr] 126);refine⟨(w.heap.size,b.2),rfl,fun j hj=>?_,?_⟩
   ·have:j≠21:=(by rintro rfl;rw [Ay]at hj;cases hj);unfold L2
    split<;>first|rfl|omega
   ·obtain⟨F1,h1⟩:=hst.sB LY (n22 (by omega));refine⟨(hX.block _ (AmA hst.way)).trans hst.way,hst.kb.trans (KB.ext hX h1.size),?_,?_,?_,?_,?_⟩
    all_goals simp only [I6 (show 21<l.size by omega),getD_set_ne false (show (21:Nat)≠19 by omega),getD_set_ne false (show (21:Nat)≠22 by omega),getD_set_ne false (show (21:Nat)≠24 by omega)]
    ·intro e;rw [LY]at e;cases e
    ·intro _ e;obtain⟨F',h'⟩:=hst.sB LY e;exact⟨F',h'.ext hX⟩
    ·intro _ _;exact AmB w _
    ·intro e;rw [n22 (by omega)]at e;cases e
    ·intro e;rw [n24]at e;cases e
  ·have U3:=dep 22 21 (by decide) rfl;have LY:=need 20 19 (by decide) (need 21 20 (by decide) U3)
   have n24:l.getD 24 false=false:=by
    cases e:l.getD 24 false
    ·rfl
    ·have:=need 24 22 (by decide) e;rw [Ay]at this;cases this
   obtain⟨F',hC⟩:=hst.sB LY Ay;refine Akt _ _ p.symm w c.B E eds.length eds (show a.eval (.tmp 65)=_ from sl 1 (by omega) (dep 22 1 (by decide) rfl)) hC.own hel ⟨i1,i2,zl,zr⟩ b.1 (hst.sG U3 Ay) (show a.eval (.tmp 85)=_ from sl 21 (by omega) U3) hC.size ?_;intro v' w' k1 k2;obtain⟨m1,m2⟩:=hC.app ok (d:=⟨i1,i2,zl,zr⟩) k2 k1;obtain⟨A,dd,rfl,-,-,-⟩:=Ae.of_own' (show 0<4 by omega) k1;refine⟨(b.1,.slice A (eds.length+1) dd),rfl,fun j hj=>?_,?_⟩
   ·have:j≠22:=(by rintro rfl;rw [Ay]at hj;cases hj);unfold L2
    split<;>first|rfl|omega
   ·have hw:Jz w' Cl x:=(k2.block _ (AmA hst.way) (fun e=>Bp hC.own hst.way (by decide) e.symm)).trans hst.way;refine⟨hw,hst.kb.trans (KB.app hC k2),?_,?_,?_,?_,?_⟩
    all_goals simp only [I6 (show 22<l.size by omega),getD_set_ne false (show (22:Nat)≠19 by omega),getD_set_ne false (show (22:Nat)≠21 by omega),getD_set_ne false (show (22:Nat)≠24 by omega)]
    ·intro e;rw [LY]at e;cases e
    ·intro _ e;cases e
    ·intro _ e;cases e
    ·intro _ _;exact⟨F',m1,⟨_,_,_,rfl⟩,m2⟩
    ·intro e;rw [n24]at e;cases e
  ·refine Tt p d (by rw [e5];exact qM _ _) ?_;rw [d];exact fin (by omega) _ rfl
  ·have Kw:=dep 24 22 (by decide) rfl;have LY:=Yu Kw 19 (by omega) (by omega);have U3:=Yu Kw 21 (by omega) (by omega);obtain⟨F',k1,k2,k3⟩:=hst.sC Kw Ay
   have hrun:(execOp a.eval o).run Tryz.prog w=.ok .skip (w.setCell ⟨c.bm,1,none⟩ b.2):=by unfold execOp;rw [←p];show (do Instr.storeAt 34 (a.eval (.tmp 87)) (a.eval (.tmp 86));pure Next.skip:Sem Next).run Tryz.prog w=_;rw [show a.eval (.tmp 87)=_ from sl 23 (by omega) (dep 24 23 (by decide) rfl),show a.eval (.tmp 86)=_ from sl 22 (by omega) Kw];have:=Aju k2 k1;simp [L2,this]
   unfold Oper.wp;rw [hrun];refine⟨b,?_,fun _ _=>rfl,?_⟩
   ·rw [←d];rfl
   ·have hw:Jz (w.setCell ⟨c.bm,1,none⟩ b.2) Cl x:=(D7 (by show Cl≠c.bm;exact DO hst.way k1 (by decide))).trans hst.way;refine⟨hw,hst.kb.trans (KB.set ok k1 _),?_,?_,?_,?_,?_⟩
    all_goals simp only [I6 (show 24<l.size by omega),getD_set_ne false (show (24:Nat)≠19 by omega),getD_set_ne false (show (24:Nat)≠21 by omega),getD_set_ne false (show (24:Nat)≠22 by omega)]
    ·intro e;rw [LY]at e;cases e
    ·intro _ e;rw [Kw]at e;cases e
    ·intro _ e;rw [Kw]at e;cases e
    ·intro _ e;cases e
    ·intro _;exact⟨F',k3⟩
 ·intro b l a w Aj FM hall hst;obtain⟨F',hF⟩:=hst.sD (hall 24 (by omega));have:=Aj.lit V9 (by omega) (by omega) hall FM;rw [this];exact hend _ w _ F' hF hst.kb
def Bu(units:List Bs)(nm:List (Int×Int))(fa:List Bs)(f:Int):Int×List (Int×Int)×List Bs:=match Cx f nm with
 | some z=>(z,nm,fa)
 | none=>((fa.length:Int),nm ++ [(f,(fa.length:Int))],fa ++ [units.getD f.toNat []])
structure G2 where
 nm:List (Int×Int)
 fa:List Bs
 ed:List Av
def LP(units:List Bs)(idx:List (Pt×Int))(L:List (Sg×Int))(st:G2)(s:Sg):G2:=
 ⟨(Bu units (Bu units st.nm st.fa (AG s L)).2.1 (Bu units st.nm st.fa (AG s L)).2.2 (AG (AQ s) L)).2.1,(Bu units (Bu units st.nm st.fa (AG s L)).2.1 (Bu units st.nm st.fa (AG s L)).2.2 (AG (AQ s) L)).2.2,
  st.ed ++ [⟨Gx s.a idx,Gx s.b idx,(Bu units st.nm st.fa (AG s L)).1,(Bu units (Bu units st.nm st.fa (AG s L)).2.1 (Bu units st.nm st.fa (AG s L)).2.2 (AG (AQ s) L)).1⟩]⟩
def Ko(units:List Bs)(idx:List (Pt×Int))(L:List (Sg×Int))(st:G2)(s:Sg):G2:=if AX s.a s.b<0 then LP units idx L st s else st
def I2(units:List Bs)(idx:List (Pt×Int))(L:List (Sg×Int))(ws:List Sg):G2:=ws.foldl (Ko units idx L) ⟨[(-1,-1)],[],[]⟩
def BO(l:List Pt):List (Pt×Int):=l.zipIdx.map fun e=>(e.1,(e.2:Int))
theorem AeZ(l:List Pt)(p:Pt):BO (l ++ [p])=BO l ++ [(p,(l.length:Int))]:=by simp [BO,List.zipIdx_append]
theorem AeY(l:List Pt):(BO l).map (·.1)=l:=by
 unfold BO;rw [List.map_map];have:((fun x:Pt×Int=>x.1) ∘ fun e:Pt×Nat=>(e.1,(e.2:Int)))=Prod.fst:=rfl;rw [this,List.zipIdx_map_fst]
theorem eI(units:List Bs)(nm:List (Int×Int))(fa:List Bs)(f:Int):(Bu units nm fa f).2.2.length<=fa.length+1:=by
 unfold Bu;split<;>simp
theorem eH(units:List Bs){nm:List (Int×Int)}(fa:List Bs)(f:Int)(h:Cx (-1) nm=some (-1)):Cx (-1) (Bu units nm fa f).2.1=some (-1):=by
 unfold Bu
 split
 ·exact h
 ·unfold Cx at h ⊢;simp only;rw [List.find?_append]
  cases hq:nm.find? (fun e=>(-1:Int) == e.1)with
  | none=>rw [hq]at h;cases h
  | some e=>rw [hq]at h;simpa using h
structure Qt(k:Nat)(st:G2):Prop where
 h:Cx (-1) st.nm=some (-1)
 fa:st.fa.length<=2*k
 ed:st.ed.length<=k
theorem Qt.step{k:Nat}{st:G2}(h:Qt k st)(units:List Bs)(idx:List (Pt×Int))(L:List (Sg×Int))(s:Sg):Qt (k+1) (Ko units idx L st s):=by
 unfold Ko
 split
 ·unfold LP;refine⟨eH _ _ _ (eH _ _ _ h.h),?_,?_⟩
  ·have h1:=eI units st.nm st.fa (AG s L);have h2:=eI units (Bu units st.nm st.fa (AG s L)).2.1 (Bu units st.nm st.fa (AG s L)).2.2 (AG (AQ s) L);have:=h.fa;simp only;omega
  ·have:=h.ed;simp only [List.length_append,List.length_singleton];omega
 ·exact⟨h.h,by have:=h.fa;omega,by have:=h.ed;omega⟩
theorem Aaj(units:List Bs)(idx:List (Pt×Int))(L:List (Sg×Int))(ws:List Sg)(s:Sg):I2 units idx L (ws ++ [s])=Ko units idx L (I2 units idx L ws) s:=by simp [I2]
theorem qC{c:Cn}(ok:c.Ok){E F:Value}{nm:List (Int×Int)}{Am:List Bs}{eds:List Av}{w:World}(h:Cs c E F nm Am eds w)(hh:Cx (-1) nm=some (-1))(f:Int)(hf0:-1<=f)(uT:f<(c.units.length:Int))(JG:c.units.length<=100000)(NH:Am.length<=100000) :
  Calls Tryz.prog 196 #[.int .i64 f,.pointer (some ⟨c.bx,0,none⟩),.pointer (some ⟨c.bm,0,none⟩),.pointer (some ⟨c.bu,0,none⟩)] w (Ot w c.B c.bx c.bn c.bm c.bu c.U c.cu c.units c.P E F (Bu c.units nm Am f).1 (Bu c.units nm Am f).2.1 (Bu c.units nm Am f).2.2):=by
 cases hl:Cx f nm with
 | some z=>
  have e:Bu c.units nm Am f=(z,nm,Am):=(by unfold Bu;rw [hl]);rw [e];exact AbO h.fc f z hl
 | none=>
  have hne:f≠-1:=(by rintro rfl;rw [hh]at hl;cases hl);obtain⟨m,rfl⟩:∃m:Nat,f=(m:Int):=⟨f.toNat,by omega⟩;have hm:m<c.units.length:=by omega
  have e:Bu c.units nm Am (m:Int)=((Am.length:Int),nm ++ [((m:Int),(Am.length:Int))],Am ++ [c.units[m]]):=by unfold Bu;rw [hl];simp [List.getD_eq_getElem?_getD,AmH hm]
  rw [e];exact AbN h.fc h.size ok.bn ok.bm m hl hm JG NH
def jC(w:World)(m:Ck)(Am:List Bs)(e:Ending)(w':World):Prop:=
 ∃A Bk F c d g,e=.returned (Dk A Bk F m c d g)/\Ka m c d g/\Ae w' A (flat (Ao m.pts))/\Ae w' Bk (Bz m.eds)/\Ae w' F (Am.map S)/\m.nf=Am.length/\Aa w w'
theorem zw{w:World}{b:Nat}{a0 a1 a2:Value}{t:TypeId}(v:Value)(h:w.heap[b]?=some (.cells #[a0,a1,a2] t)):(w.setCell ⟨b,0,none⟩ v).heap[b]?=some (.cells #[v,a1,a2] t):=by
 simp only [World.setCell,Array.getElem?_modify,h];simp
theorem Aad{w:World}{b o:Nat}{cs:Array Value}{t:TypeId}{fz:Nat×Nat}{v:Value}(h:w.heap[b]?=some (.cells cs t fz))(hc:w.cell? ⟨b,o,none⟩=some v):cs[o]?=some v:=by
 cases e:cs[o]? with
 | some u=>
  have h2:=hc;simp [World.cell?,h,e]at h2;rw [←h2]
 | none=>simp [World.cell?,h,e]at hc
theorem qL{l:List Pt}{j:Nat}(hj:j<(flat (Ao l)).length):∃s,(flat (Ao l))[j]=S s:=by
 have:=AmD hj;unfold flat at this;rw [List.mem_flatMap]at this;obtain⟨p,_,h⟩:=this;simp only [List.mem_cons,AmN,or_false]at h
 rcases h with h|h
 ·exact⟨_,h⟩
 ·exact⟨_,h⟩
theorem Agv{c:Cn}{E F:Value}{nm:List (Int×Int)}{Am:List Bs}{eds:List Av}{w:World}(_:Cs c E F nm Am eds w):∃x,x=w:=⟨w,rfl⟩
theorem MO{w:World}{B:Nat}{e:TypeId}{s n c:Nat}{A:Option Addr}{xs:List Value}(hs:0<s)(h:w.ownsRow B e s (.slice A n c) n xs):Ae w A xs:=by
 obtain⟨A',c',e',h1,-,-⟩:=Ae.of_own' hs h;simp only [Value.slice.injEq]at e';rw [e'.1];exact h1
theorem fq{B B':Nat}{w w':World}{e:TypeId}{s n:Nat}{v:Value}{xs:List Value}(h:w.ownsRow B' e s v n xs)(hk:KB B w w')(h1:e≠36)(h2:e≠9)(h3:e≠126):w'.ownsRow B' e s v n xs:=by
 refine⟨h.1,?_⟩
 rcases h.2 with h'|⟨g,cap,cur,e1,e2,hgb,e4⟩
 ·exact .inl h'
 ·exact .inr ⟨g,cap,cur,e1,e2,hk.kp g cur e (0,0) h1 h2 h3 hgb,e4⟩
theorem Afg{pts:List Pt}(Ci:pts.Nodup){k:Nat}(hk:k<pts.length):∀e∈BO (pts.take k),Ap pts[k] e.1=false:=by
 intro e he
 have h1:e.1∈pts.take k:=by
  have:=List.mem_map_of_mem (f:=(·.1)) he
  rwa [AeY]at this
 refine iu.2 fun h2=>?_;obtain⟨j,hj,h3⟩:=List.getElem_of_mem h1;rw [List.getElem_take]at h3;have hj':j<k:=(by rw [List.length_take]at hj;omega);have:=(List.getElem_inj (h₀:=by omega) (h₁:=hk) Ci).1 (h3.trans h2.symm);omega
theorem Aak{w0 w:World}(hw:An w0)(hx:Aa w0 w){B0 r b1 b2:Nat}{L:List (Sg×Int)}{E:List (Pt×Value×Nat)}{R0:List (Pt×List Pt)}(h:Bq B0 w r b1 b2 L E R0)
  (hz:∀e∈R0,Ar 200 e.1/\∀p∈e.2,Ar 200 p) (hlen:R0.length<=100000) (hrl:∀e∈R0,e.2.length<100000) (Ci:(R0.map (·.1)).Nodup) (hno:∀e∈R0,∀p q,e.2 = [p,q]→AD (Al p e.1 q)≠0)
  (hL:∀e∈L,Eh 200 e.1) (hLl:L.length<=40000) (hback:∀e∈L,∃e'∈L,e'.1=AQ e.1) (U:Option Addr) (cu:Nat) (units:List Bs) (hU:Ae w U (units.map S)) (P5:∀x,U=some x→x.block<w.heap.size) (JG:units.length<=100000)
  (NP:∀x∈L,-1<=x.2/\x.2<(units.length:Int)) {pts:List Pt} (NR:pts=EC (R0.map (·.1))) {ws:List Sg} (NX:ws=B7 (L.map (·.1))) {st:G2} (hst:st=I2 units (BO pts) L ws) :
  Calls Tryz.prog 112 #[.pointer (some ⟨r,0,none⟩),.slice U units.length cu] w (jC w ⟨pts,st.ed,st.fa.length⟩ st.fa):=by
 have hmm:=@run_makeMap Tryz.prog;have AlV:=AmA h.cell;have Alj:=AmA h.left;have wM:pts.Nodup:=(by rw [NR];exact(JU _).nodup_iff.2 Ci);have Aeg:pts.length=R0.length:=(by rw [NR,(JU _).length_eq];simp);have E1:=((Aa.refl w).alloc (.cells #[.slice U units.length cu] 23)).alloc (.cells #[.slice none 0 0,.slice none 0 0,.slice none 0 0] 36);have Pi:=AmB w (.cells #[.slice U units.length cu] 23);have hbr:=AmB (w.alloc (.cells #[.slice U units.length cu] 23)) (.cells #[.slice none 0 0,.slice none 0 0,.slice none 0 0] 36);rw [AmJ]at hbr;have tW:=(Below.heap_alloc (w.alloc (.cells #[.slice U units.length cu] 23)) (.cells #[.slice none 0 0,.slice none 0 0,.slice none 0 0] 36) w.heap.size (by simp)).trans Pi;have lv:=AfD hw (hx.trans E1) (h.ext E1) hz hlen hrl Ci hno;have J5:=h.ar.len;have DC:=h.ar.keys;have sw:=Am9 (fun i (hi:i<E.length)=>(h.ar.row i hi (by rw [←J5];exact hi)).2.1)
 have rH:∀e∈E,Ar 200 e.1:=fun e he=>by have:e.1∈R0.map (·.1):=(by rw [←DC];exact List.mem_map_of_mem he);obtain⟨e',he',h1⟩:=List.mem_map.1 this;rw [←h1];exact(hz e' he').1
 have Hb:=Am9 h;have ql:=Am9 rH;have HST:=Am9 hst;have LK:=Am9 NX;have TG:=Am9 NR;have rb:=Am9 DC;have Ov:=Am9 (show E.length=pts.length by omega);have HU:=Am9 hU;have uk:=Am9 P5;have HL:=Am9 hL;have pw:=Am9 hback;have jZ:=Am9 NP;have r7:=Am9 wM;have hpl:pts.length<=100000:=(by omega);clear Pi h rH hst NX NR DC J5 hU P5 hL hback NP wM Aeg hz hlen hrl Ci hno;go_enter Tryz.func112,Tryz.ntmps112;have hs1:((w.alloc (.cells #[.slice U units.length cu] 23)).alloc (.cells #[.slice none 0 0,.slice none 0 0,.slice none 0 0] 36)).heap.size=w.heap.size+2:=by simp only [AmJ]
 go_upto_region 1 with fail
 generalize (w.alloc (.cells #[.slice U units.length cu] 23)).alloc (.cells #[.slice none 0 0,.slice none 0 0,.slice none 0 0] 36)=W1 at *;(go_wp2_with fail);(with_reducible refine lv.mono ?_);rintro e w2 ⟨rfl,hx2⟩;clear lv;have C3:=E1.trans hx2;have Z3:=(hx2.block _ (AmA tW)).trans tW;have hR2:=(hx2.block _ (AmA hbr)).trans hbr;have hs2:=hx2.size;have J8:=Hb.out.ext C3;have m1:=Ab (o:=1) J8.cell rfl;obtain⟨bm,C4⟩:=Am8 w2.heap.size;have kp:=fun W=>zM (some b2) W;have E3:=(Aa.refl w2).alloc (.cells #[.slice none 0 0,.slice none 0 0,.slice none 0 0] 36);have GH:=AmB w2 (.cells #[.slice none 0 0,.slice none 0 0,.slice none 0 0] 36);have m3:=E3.cellS m1
 go_upto_region 3 with fail
 rw [←C4]at GH ⊢;generalize w2.alloc (.cells #[.slice none 0 0,.slice none 0 0,.slice none 0 0] 36)=W3 at *;have CW:=C3.trans E3;have Gh:=Hb.out.ext CW;have Adh:w.heap.size+2<=bm:=(by omega);have tO:w.heap.size<=bm:=(by omega);have Pd:=(E3.block _ (AmA Z3)).trans Z3;have Zx:=(E3.block _ (AmA hR2)).trans hR2;clear C4 m1 J8 hx2 Z3 hR2 hs2;have E4:=(Aa.refl W3).alloc (.cells #[.map (some b2)] 132);have BQ:=AmB W3 (.cells #[.map (some b2)] 132);have sk:=l4 hw ((hx.trans CW).trans E4) W3.heap.size b2 E sw.out (AmA BQ) (Ab BQ rfl) (Gh.ext E4).ar.blk ql.out (by have:=Ov.out;omega);rw [rb.out,←TG.out,Ov.out]at sk;(go_wp2_with fail);(with_reducible refine(kp _).mono ?_);rintro e w4 ⟨rfl,rfl⟩;(go_wp2_with fail);(with_reducible refine sk.mono ?_);rintro e w5 ⟨sv,rfl,CN,OT⟩;obtain⟨pA,pc,rfl,hP5,Aed,Aee⟩:=Ae.of_own' (by omega) CN;have Oq:=E4.trans OT;have Rx:=(Oq.block _ (AmA GH)).trans GH;have y0:=Ab (o:=0) Rx rfl;have y1:=AV (o:=0) Rx;have sK:=(Oq.block _ (AmA Pd)).trans Pd;have rX:=(Oq.block _ (AmA Zx)).trans Zx;clear sk kp BQ E4 OT GH m3 Pd Zx
 go_upto_region 5 with fail
 have Zp:=zw (.slice pA pts.length pc) Rx;have xj:Aa W3 w5:=Oq;have R9:=CW.trans Oq;have sR:Aa w (w5.setCell ⟨bm,0,none⟩ (.slice pA pts.length pc)):=R9.setCell (p:=⟨bm,0,none⟩) tO _;have rT:=CB (K:=fun k=>k=bm) CN ((Au.refl (fun k=>k=bm) w5).setCell (p:=⟨bm,0,none⟩) (.inl rfl) (.slice pA pts.length pc)) (fun k hk e=>by subst e;exact Bp CN Rx (by decide) hk);have EI:=(Aa.refl (w5.setCell ⟨bm,0,none⟩ (.slice pA pts.length pc))).alloc (.map #[] 0)
 have N7:Hh ((w5.setCell ⟨bm,0,none⟩ (.slice pA pts.length pc)).alloc (.map #[] 0)) w5.heap.size (BO (pts.take 0)):=by have:=AmB (w5.setCell ⟨bm,0,none⟩ (.slice pA pts.length pc)) (.map #[] 0);rw [World.size_setCell]at this;exact this
 have Ky:=(EI.block _ (AmA Zp)).trans Zp;have Mk:=sR.trans EI;have Pa:=AI rT EI;have Z4:=(D7 (w:=w5) (p:=⟨bm,0,none⟩) (v:=.slice pA pts.length pc) (show w.heap.size≠bm by omega)).trans sK;have Zy:=(D7 (w:=w5) (p:=⟨bm,0,none⟩) (v:=.slice pA pts.length pc) (show w.heap.size+1≠bm by omega)).trans rX;have UM:=(EI.block _ (AmA Z4)).trans Z4;have Mg:=(EI.block _ (AmA Zy)).trans Zy;obtain⟨bi,Hw⟩:=Am8 w5.heap.size;rw [←Hw]at N7 ⊢;have tM:w.heap.size<=bi:=(by have:=R9.size;omega);generalize (w5.setCell ⟨bm,0,none⟩ (.slice pA pts.length pc)).alloc (.map #[] 0)=W6 at *;clear Rx y0 y1 Zp xj R9 sR rT EI hP5 Oq Hw Gh CW CN sK rX Z4 Zy;have z0:=Ab (o:=0) Ky rfl;have hl0:(0:Int)<=(pts.length:Int):=by omega
 go_upto_region 6 with fail
 clear z0
 go_loopw [27] (fun iv wr=>∃k:Nat,iv=.int .i64 (k:Nat)/\k<=pts.length/\Hh wr bi (BO (pts.take k))/\Au (fun q=>q=bi) W6 wr) (fun iv _=>pts.length-(intOf iv).toNat)
 case atStart=>exact⟨0,rfl,by omega,N7,Au.refl _ _⟩
 case round=>
  obtain⟨k,rfl,hk,hI,hB⟩:=hrel;have Zu:=CB Pa hB (fun k hk e=>by subst e;exact Wz Pa N7 hk);have rU:Ae wr pA (flat (Ao pts)):=MO (by omega) Zu;by_cases hkn:k<pts.length
  ·obtain⟨b,o,rfl,f1,f2⟩:=Cu rU hkn;have hnew:=Afg r7.out hkn
   have C6:BO (pts.take (k+1))=BO (pts.take k) ++ [(pts[k],(k:Int))]:=by rw [AmF hkn,AeZ,List.length_take,Nat.min_eq_left (by omega)]
   obtain⟨p,hp⟩:=Am8 (pts[k]);rw [←hp]at f1 f2 hnew C6;have EA:=(Aa.refl wr).alloc (.cells #[S (R p.x),S (R p.y)] 92);have Aq:=AmB wr (.cells #[S (R p.x),S (R p.y)] 92);obtain⟨W8,hput,J6,aN,-⟩:=(hI.ext EA).put p hnew (k:Int);rw [←C6]at J6;unfold Ak at hput;have hk0:(0:Int)<=(k:Int):=(by omega);have Cb:(k:Int)<(pts.length:Int):=(by omega);have q1:=Ab (o:=0) Aq rfl;have q2:=Ab (o:=1) Aq rfl;have He:=Am9 C6;clear hp hnew C6
   go_upto_region 8 with fail
   unfold S at Aq q1 q2 hput aN EA;have U6:=(hB.ext EA).grown aN (fun q e=>by cases e;exact .inl rfl);generalize wr.alloc (.cells #[.string ⟨(R p.x).toArray⟩,.string ⟨(R p.y).toArray⟩] 92)=V at *;clear Aq EA aN;go_wp2;go_roundw
   case rel=>exact⟨k+1,by go_num,hkn,J6,U6⟩
   case measure=>simp [intOf];omega
  ·have Bw:k=pts.length:=(by omega);subst Bw;have hd:decide (pts.length<pts.length)=false:=(by simp);have Ca:decide ((pts.length:Int)<(pts.length:Int))=false:=(by simp);rw [List.take_length]at hI;have rO:bm≠bi:=fun e=>LQ Ky N7 e;have El:=(hB.block _ (AmA Ky) rO).trans Ky;have Z9:=(hB.block _ (AmA UM) (fun e=>LQ UM N7 e)).trans UM;have Pb:=(hB.block _ (AmA Mg) (fun e=>LQ Mg N7 e)).trans Mg;have BI:Aa w wr:=hB.toExt Mk (fun q e=>by subst e;exact tM);have tL:=AmA hI;have E9:=(Aa.refl wr).alloc (.map #[] 0);have rK:F5 (wr.alloc (.map #[] 0)) wr.heap.size []:=AmB wr (.map #[] 0);obtain⟨OA,hput,Zm,vB,cK⟩:=rK.put (-1) (-1) rfl;have LA:=(Aa.refl OA).alloc (.cells #[.map (some wr.heap.size)] 212);have Aw:=AmB OA (.cells #[.map (some wr.heap.size)] 212);rw [AmJ]at cK;have Pe:Au (fun j=>j=wr.heap.size) wr OA:=((Au.refl _ wr).ext E9).grown vB (fun k e=>by cases e;exact .inl rfl);have rE:Aa wr OA:=Pe.toExt (Aa.refl wr) (fun k e=>by subst e;exact AmC _);have MY:=rE.trans LA
   go_upto_region 10 with fail
   go_upto_region 12 with fail
   rw [cK]at Aw;have Zq:F5 (OA.alloc (.cells #[.map (some wr.heap.size)] 212)) wr.heap.size [(-1,-1)]:=(LA.block _ (AmA Zm)).trans Zm;have J7:=(MY.block _ (AmA El)).trans El;have sJ:=(MY.block _ (AmA Z9)).trans Z9;have UI:=(MY.block _ (AmA Pb)).trans Pb;have Kx:=hI.ext MY;have rS:=AI Zu MY;have NB:=BI.trans MY;have UL:=AmA Pb;have Aes:=NB.size;clear rK hput Zm vB LA Pe rE El Z9 Pb hI Zu BI E9 rU hB Ky N7 Mk Pa UM Mg rO;clear hmm cK MY;generalize OA.alloc (.cells #[.map (some wr.heap.size)] 212)=W11 at *;obtain⟨bn,BV⟩:=Am8 wr.heap.size;rw [←BV]at Aw Zq tL UL ⊢;clear BV;have Rz:=Hb.out.ext NB;have Pd:Ae W11 U (units.map S):=HU.out.ext NB;have qZ:w.heap.size+2<=W11.heap.size:=(by have:=AmA UI;omega);obtain⟨c,hc⟩:=Am8 (⟨w.heap.size+2,bn+1,bn,bm,w.heap.size,bi,r,b1,b2,U,cu,units,.slice pA pts.length pc,BO pts,L⟩:Cn)
   have ok:c.Ok:=by subst hc;exact⟨show r<w.heap.size+2 by omega,show b1<w.heap.size+2 by omega,show w.heap.size+2<=bn by omega,show w.heap.size+2<=bm by omega,show bi≠bn by omega⟩
   have rA:Cs c (.slice none 0 0) (.slice none 0 0) [(-1,-1)] [] [] W11:=by subst hc;exact⟨⟨Aw,Zq,J7,⟨rfl,.inl ⟨rfl,rfl⟩⟩,sJ,Pd,fun x hx=>by have:=uk.out x hx;simp only;omega⟩,⟨Rz.cell,Rz.left,Kx⟩,⟨rfl,.inl ⟨rfl,rfl⟩⟩,qZ⟩
   have m11:=Ab (o:=0) Rz.cell rfl;have kw:=fun W=>dV (some b1) W;have TA:=(Aa.refl W11).alloc (.cells #[.map (some b1)] 131);have BQ:=AmB W11 (.cells #[.map (some b1)] 131);have sk:=iI hw ((hx.trans NB).trans TA) W11.heap.size b1 L (AmA BQ) (Ab BQ rfl) (Rz.ext TA).left HL.out (by omega);rw [←LK.out]at sk;have hwl:ws.length=L.length:=by rw [LK.out,(Jh _).length_eq];simp
   have yC:∀s∈ws,∃e∈L,e.1=s:=fun s hs=>by rw [LK.out]at hs;obtain⟨e,he,h1⟩:=List.mem_map.1 ((Jh _).mem_iff.1 hs);exact⟨e,he,h1⟩
   rw [←hwl]at sk hLl;have XI:=Am9 yC;have HC:=Am9 hc;clear hwl yC hc Aw Zq J7 sJ Kx Pd;(go_wp2_with fail);(with_reducible refine(kw _).mono ?_);rintro e Qo ⟨rfl,rfl⟩;(go_wp2_with fail);(with_reducible refine sk.mono ?_);rintro e w13 ⟨sv,rfl,hS13,I8⟩;obtain⟨sA,sc,rfl,-,-,-⟩:=Ae.of_own' (by omega) hS13;have Qv:=TA.trans I8;have Ac7:=rA.ext Qv;have sP:=NB.trans Qv;have AcM:=AI rS Qv;have AcP:=(Qv.block _ (AmA UI)).trans UI;have hf0:(⟨[(-1,-1)],[],[]⟩:G2)=I2 units (BO pts) L (ws.take 0):=rfl;have hk0:Qt 0 (⟨[(-1,-1)],[],[]⟩:G2):=⟨rfl,AmC _,AmC _⟩;clear kw sk BQ TA I8 m11 rA NB Rz rS UI Qv qZ Adh tO tM tL UL Aes hd Ca;have hl2:(0:Int)<=(ws.length:Int):=by omega
   go_upto_region 13 with fail
   go_loopw [46] (fun iv wr=>∃(k:Nat) (E F:Value) (s:G2),iv=.int .i64 (k:Nat)/\k<=ws.length/\s=I2 units (BO pts) L (ws.take k)/\Qt k s/\Cs c E F s.nm s.fa s.ed wr/\KB c.B w13 wr) (fun iv _=>ws.length-(intOf iv).toNat)
   case atStart=>exact⟨0,_,_,_,rfl,by omega,hf0,hk0,Ac7,KB.refl _ _⟩
   case round=>
    obtain⟨k,E,F,s,rfl,hk,hs,Aj,hC,hK⟩:=hrel;have Mi:=fq hS13 hK (by decide) (by decide) (by decide);by_cases hkn:k<ws.length
    ·obtain⟨b,o,rfl,f1,f2,f3,f4⟩:=MS (MO (by omega) Mi) hkn;obtain⟨e1,KD,KE⟩:=XI.out _ (AmD hkn);have hsz:Eh 200 ws[k]:=by rw [←KE];exact HL.out e1 KD
     have aY:-1<=AG ws[k] L/\AG ws[k] L<(units.length:Int):=by obtain⟨e2,Hz,h2⟩:=VY (s:=ws[k]) (L:=L) (by rw [←KE];exact List.mem_map_of_mem KD);rw [h2];exact jZ.out e2 Hz
     have aZ:-1<=AG (AQ ws[k]) L/\AG (AQ ws[k]) L<(units.length:Int):=by obtain⟨e3,JB,h3⟩:=pw.out e1 KD;obtain⟨e2,Hz,h2⟩:=VY (s:=AQ ws[k]) (L:=L) (by rw [←KE,←h3];exact List.mem_map_of_mem JB);rw [h2];exact jZ.out e2 Hz
     have C6:I2 units (BO pts) L (ws.take (k+1))=Ko units (BO pts) L s ws[k]:=by rw [AmF hkn,Aaj,←hs]
     have Su:=Aj.step units (BO pts) L ws[k];obtain⟨x,hxx⟩:=Am8 (ws[k]);rw [←hxx]at f1 f2 f3 f4 hsz aY aZ C6 Su;have He:=Am9 C6;have HS:=Am9 hs;have AlA:(0:Int)<=(k:Int):=(by omega);have Cb:(k:Int)<(ws.length:Int):=(by omega);have EA:=(Aa.refl wr).alloc (.cells #[S (R x.a.x),S (R x.a.y),S (R x.b.x),S (R x.b.y)] 155);have Aq:=AmB wr (.cells #[S (R x.a.x),S (R x.a.y),S (R x.b.x),S (R x.b.y)] 155);have BI:Aa w wr:=sP.trans_below hK.bl (by have:=HC.out;rw [this];simp only;omega);have PW:=fun (V:World) (hV:Aa wr V)=>Ik x.a x.b hsz.a hsz.b (by omega) (by omega) V (hw.ext ((hx.trans BI).trans hV));clear hxx C6 hs KE KD e1
     go_upto_region 15 with fail
     unfold S at Aq EA;have UQ:Jz (wr.alloc (.cells #[.string ⟨(R x.a.x).toArray⟩,.string ⟨(R x.a.y).toArray⟩,.string ⟨(R x.b.x).toArray⟩,.string ⟨(R x.b.y).toArray⟩] 155)) wr.heap.size x:=Aq;generalize wr.alloc (.cells #[.string ⟨(R x.a.x).toArray⟩,.string ⟨(R x.a.y).toArray⟩,.string ⟨(R x.b.x).toArray⟩,.string ⟨(R x.b.y).toArray⟩] 155)=V at *;obtain⟨Cl,tC⟩:=Am8 wr.heap.size;rw [←tC]at Aq UQ ⊢;clear tC f1 f2 f3 f4;have y0:=Ab (o:=0) Aq rfl;have y1:=Ab (o:=1) Aq rfl;have y2:=Ab (o:=2) Aq rfl;have y3:=Ab (o:=3) Aq rfl;have p1:=PW V EA;obtain⟨z,hz⟩:=Am8 (AX x.a x.b);rw [←hz]at p1;unfold Ak S at p1;(go_wp2_with fail);(with_reducible refine p1.mono ?_);rintro e w3 ⟨rfl,hx3⟩;have X3:=EA.trans hx3;have U9:=hC.ext X3;have hK3:=hK.trans (KB.ext X3 hC.size);have hW3:Jz w3 Cl x:=(hx3.block _ (AmA UQ)).trans UQ;clear p1 PW y0 y1 y2 y3 Aq UQ;by_cases Mx:z<0
     ·have hce:Ko units (BO pts) L s x=LP units (BO pts) L s x:=(by unfold Ko;rw [if_pos (by rw [←hz];exact Mx)]);rw [hce]at Su;have LE:=Am9 hce;have hfa:=Aj.fa;have RR:=Aj.ed;have Ay:c.units=units:=(by rw [HC.out]);have YO:=fun (V:World) (F':Value) (h:Cs c E F' s.nm s.fa s.ed V)=>qC ok h Aj.h (AG x L) aY.1 (by rw [Ay];exact aY.2) (by rw [Ay];exact JG) (by omega);have Es:=eI units s.nm s.fa (AG x L);have hh1:=eH units s.fa (AG x L) Aj.h;have qF:=fun (V:World) (F':Value) (h:Cs c E F' (Bu units s.nm s.fa (AG x L)).2.1 (Bu units s.nm s.fa (AG x L)).2.2 s.ed V)=>qC ok h hh1 (AG (AQ x) L) aZ.1 (by rw [Ay];exact aZ.2) (by rw [Ay];exact JG) (by omega);rw [Ay]at YO qF
      have qE:∀(V:World) (F':Value) (h:Cs c E F' s.nm s.fa s.ed V),Calls Tryz.prog 196 #[.int .i64 (AG x L),.pointer (some ⟨bn+1,0,none⟩),.pointer (some ⟨bm,0,none⟩),.pointer (some ⟨w.heap.size,0,none⟩)] V (Ot V c.B c.bx c.bn c.bm c.bu c.U c.cu c.units c.P E F' (Bu units s.nm s.fa (AG x L)).1 (Bu units s.nm s.fa (AG x L)).2.1 (Bu units s.nm s.fa (AG x L)).2.2):=by intro V F' h;have t:=YO V F' h;rw [←Ay]at t;rw [←Ay];have hc:=HC.out;rw [show (bn+1)=c.bx by rw [hc],show bm=c.bm by rw [hc],show w.heap.size=c.bu by rw [hc]];exact t
      have XG:=Am9 Ay;have qp:=Am9 qF;have OS:=U9.ext (Aa.refl w3).drew;have lk:=Qh x L (W:=w3.drew) (by have:=OS.rd.left;rw [HC.out]at this;exact this);have V7:=OS.rd.net;rw [HC.out]at V7;simp only at V7;have m1:=Ab (o:=0) V7 rfl;have hwd:Jz w3.drew Cl x:=hW3;have g0:=Ab (o:=0) hwd rfl;have g1:=Ab (o:=1) hwd rfl;have g2:=Ab (o:=2) hwd rfl;have g3:=Ab (o:=3) hwd rfl;unfold As at lk;have YN:=qE _ F OS;have AeF:w3.drew.heap[Cl]?=some (.cells #[S (R x.a.x),S (R x.a.y),S (R x.b.x),S (R x.b.y)] 155 (0,0)):=hW3;clear YO qE Es Ay V7 hwd hce;obtain⟨zl,hzl⟩:=Am8 ((Bu units s.nm s.fa (AG x L)).1);rw [←hzl]at YN;have uz:=Am9 hzl;clear hzl
      go_upto_region 16 with fail
      go_cut [13] (fun v13 wx=>v13=.int .i64 zl/\∃F',Cs c E F' (Bu units s.nm s.fa (AG x L)).2.1 (Bu units s.nm s.fa (AG x L)).2.2 s.ed wx/\KB c.B w13 wx/\Jz wx Cl x)
      case first=>
       go_region_with ((with_reducible refine YN.mono ?_);rintro e w4 ⟨F4,rfl,hF4,DV⟩)
       all_goals go_wp2
       all_goals go_meet
       all_goals (
        have GK:=KB.named ok OS DV
        refine⟨rfl,F4,OS.named ok (by rw [XG.out]at hF4 ⊢;exact hF4) DV,(hK3.trans (KB.ext (Aa.refl w3).drew U9.size)).trans GK,GK.kp Cl _ _ _ (by decide) (by decide) (by decide) AeF⟩)
      case rest=>
       obtain⟨rfl,F4,rB,hK4,ZD⟩:=hcut;obtain⟨W9,rfl⟩:=Agv rB;have uW:=qp.out
       have Vk:∀(V:World) (F':Value),Cs c E F' (Bu units s.nm s.fa (AG x L)).2.1 (Bu units s.nm s.fa (AG x L)).2.2 s.ed V→Calls Tryz.prog 196 #[.int .i64 (AG (AQ x) L),.pointer (some ⟨c.bx,0,none⟩),.pointer (some ⟨c.bm,0,none⟩),.pointer (some ⟨c.bu,0,none⟩)] V (Ot V c.B c.bx c.bn c.bm c.bu c.U c.cu c.units c.P E F' (Bu units (Bu units s.nm s.fa (AG x L)).2.1 (Bu units s.nm s.fa (AG x L)).2.2 (AG (AQ x) L)).1 (Bu units (Bu units s.nm s.fa (AG x L)).2.1 (Bu units s.nm s.fa (AG x L)).2.2 (AG (AQ x) L)).2.1 (Bu units (Bu units s.nm s.fa (AG x L)).2.1 (Bu units s.nm s.fa (AG x L)).2.2 (AG (AQ x) L)).2.2):=by intro V F' h';have t:=uW V F' h';rw [←XG.out]at t;rw [←XG.out];exact t
       clear uW lk m1 g0 g1 g2 g3 YN OS U9 hK3 hW3;have hel:s.ed.length<200000:=by omega
       go_upto_region 17 with fail
       refine Aip (c:=c) ok rB ZD hel zl (Gx x.a (BO pts)) (Gx x.b (BO pts)) (AG (AQ x) L) _ (by rw [HC.out]) (by rw [HC.out]) (by rw [HC.out]) Vk rfl (by kernel_rfl) (by kernel_rfl) (by simp) (by rw [HC.out];rfl) (by rw [HC.out];rfl) rfl rfl (by rw [HC.out];rfl) (by rw [HC.out];rfl) ?_;intro v w9 E9 F9 Zi hK9;simp only [List.take_succ_cons,List.take_zero,List.drop_succ_cons,List.drop_zero,List.cons_append,List.nil_append,show List.range 24 = [0,1,2,3,4,5,6,7,8,9,10,11,12,13,14,15,16,17,18,19,20,21,22,23] from rfl,List.map_cons,List.map_nil];clear Vk;have Xk:=Am9 (show LP units (BO pts) L s x=I2 units (BO pts) L (ws.take (k+1))by rw [He.out,LE.out])
       have Ac8:Cs c E9 F9 (LP units (BO pts) L s x).nm (LP units (BO pts) L s x).fa (LP units (BO pts) L s x).ed w9:=by have hz:=uz.out;rw [hz]at Zi;exact Zi
       clear Zi;go_wp2;go_roundw
       case rel=>exact⟨k+1,E9,F9,LP units (BO pts) L s x,by go_num,hkn,Xk.out,Su,Ac8,hK4.trans hK9⟩
       case measure=>simp [intOf];omega
     ·have hce:Ko units (BO pts) L s x=s:=(by unfold Ko;rw [if_neg (by rw [←hz];exact Mx)]);rw [hce]at Su;have Xk:=Am9 (show s=I2 units (BO pts) L (ws.take (k+1))by rw [He.out,hce]);clear hce hz;go_wp2;go_roundw
      case rel=>exact⟨k+1,E,F,s,by go_num,hkn,Xk.out,Su,U9,hK3⟩
      case measure=>simp [intOf];omega
    ·have Bw:k=ws.length:=(by omega);subst Bw;have uP:decide (ws.length<ws.length)=false:=(by simp);have Alz:decide ((ws.length:Int)<(ws.length:Int))=false:=(by simp);rw [List.take_length,←HST.out]at hs;subst hs;obtain⟨oE,cE,rfl,hE9,EO,EP⟩:=Ae.of_own' (by omega) hC.own;obtain⟨oF,cF,rfl,hF9,hF1,hF2⟩:=Ae.of_own' (by omega) hC.fc.fac;have IA:=(hK.bl.block _ (by rw [HC.out];show w.heap.size+1<w.heap.size+2;omega)).trans AcP;have RP:=hC.fc.cM;have hcb:c.bm=bm/\c.P=.slice pA pts.length pc/\c.B=w.heap.size+2:=(by rw [HC.out];exact⟨rfl,rfl,rfl⟩);rw [hcb.1,hcb.2.1]at RP;have Zv:=fq AcM hK (by decide) (by decide) (by decide);have BU:Aa w wr:=sP.trans_below hK.bl (by rw [hcb.2.2];omega);have m0:=Ab (o:=0) RP rfl;have m1:=Ab (o:=1) RP rfl;have m2:=Ab (o:=2) RP rfl;have r0:=Ab (o:=0) IA rfl;have r1:=Ab (o:=1) IA rfl;have r2:=Ab (o:=2) IA rfl;have r3:=AV (o:=0) IA;have r4:=AV (o:=1) IA;have r5:=AV (o:=2) IA;have FR:=Yq (.slice pA pts.length pc) (.slice oE s.ed.length cE) (.slice oF s.fa.length cF) IA;have bb:=(((Au.refl (fun q=>q=w.heap.size+1) wr).setCell (p:=⟨w.heap.size+1,0,none⟩) (.inl rfl) (.slice pA pts.length pc)).setCell (p:=⟨w.heap.size+1,1,none⟩) (.inl rfl) (.slice oE s.ed.length cE)).setCell (p:=⟨w.heap.size+1,2,none⟩) (.inl rfl) (.slice oF s.fa.length cF);have f1:=MO (by omega) (CB Zv bb (fun q hq e=>by subst e;exact Bp Zv IA (by decide) hq));have f2:=MO (by omega) (CB hC.own bb (fun q hq e=>by subst e;exact Bp hC.own IA (by decide) hq));have f3:=MO (by omega) (CB hC.fc.fac bb (fun q hq e=>by subst e;exact Bp hC.fc.fac IA (by decide) hq));have RB:=bb.toExt BU (fun q e=>by subst e;omega);have t1:=Ab (o:=0) FR rfl;have t2:=Ab (o:=1) FR rfl;have t3:=Ab (o:=2) FR rfl
     have AY:jC w ⟨pts,s.ed,s.fa.length⟩ s.fa (.returned (Dk pA oE oF ⟨pts,s.ed,s.fa.length⟩ pc cE cF)) (((wr.setCell ⟨w.heap.size+1,0,none⟩ (.slice pA pts.length pc)).setCell ⟨w.heap.size+1,1,none⟩ (.slice oE s.ed.length cE)).setCell ⟨w.heap.size+1,2,none⟩ (.slice oF s.fa.length cF)):=
      ⟨pA,oE,oF,pc,cE,cF,rfl,⟨Aed,Aee,EO,EP,hF1,hF2⟩,f1,f2,f3,rfl,RB⟩
     have CC:=Am9 AY;clear AY RB f1 f2 f3 bb FR IA RP hC hK Zv BU;go_wp2;refine bodyPost_ret (v:=.agg #[.slice pA pts.length pc,.slice oE s.ed.length cE,.slice oF s.fa.length cF]) (by simp [results,Tryz.results112,go_sem,t1,t2,t3]) rfl ?_;exact CC.out
end Go.Proofs.YtjalkoacphhgdaaGreatDoor
