/- Z41: BS BT BU. -/
import Derived.Test.YtjalkoacphhgdaaGreatDoorZ40
import Derived.Test.YtjalkoacphhgdaaGreatDoorZ39
set_option maxRecDepth 100000
set_option maxHeartbeats 16000000
namespace Go.Proofs.YtjalkoacphhgdaaGreatDoor
open Go.RowKit Kl Go.Shelf
def fY:List (Op×Option Nat):=[
 (.fieldAddr 36 (.tmp 5) 1,some 64),(.load 34 (.tmp 64),some 65),(.move (.tmp 6),some 66),(.fieldAddr 155 (.tmp 12) 0,some 67),(.load 92 (.tmp 67),some 68),
 (.lookup 252 (.tmp 66) (.tmp 68) false,some 69),(.move (.tmp 6),some 70),(.fieldAddr 155 (.tmp 12) 1,some 71),(.load 92 (.tmp 71),some 72),
 (.lookup 252 (.tmp 70) (.tmp 72) false,some 73),(.move (.tmp 13),some 74),(.move (.tmp 10),some 75),(.move (.tmp 0),some 76),(.nilCheck (.tmp 76),some 77),(.fieldAddr 134 (.tmp 77) 0,some 78),
 (.load 131 (.tmp 78),some 79),(.load 155 (.tmp 12),some 80),
 (.call {callee:=.value (.func 104),args:=#[.tmp 80],argTypes:=#[155]},some 81),(.lookup 131 (.tmp 79) (.tmp 81) false,some 82),
 (.call {callee:=.value (.tmp 75),args:=#[.tmp 82],argTypes:=#[3]},some 83),
 (.build 126 #[(0,.tmp 69),(1,.tmp 73),(2,.tmp 74),(3,.tmp 83)],some 84),(.buildSlice 34 1 #[(0,.tmp 84)],some 85),
 (.call {callee:=.builtin .append,args:=#[.tmp 65,.tmp 85],argTypes:=#[34,34]},some 86),(.fieldAddr 36 (.tmp 5) 1,some 87),(.store 34 (.tmp 87) (.tmp 86),none)]
def YV:List (Nat×Nat):=[(1,0),(4,3),(5,2),(5,4),(8,7),(9,6),(9,8),(13,12),(14,13),(15,14),(17,16),(18,15),(18,17),(19,11),(19,18),(20,5),(20,9),(20,10),(20,19),(21,20),(22,1),(22,21),(24,22),(24,23)]
def Ly(c:Cn)(E:Value)(Cj:Nat)(x:Sg)(zl i1 i2 lr zr:Int)(g:Nat×Value):Nat→Value
 | 0=>.pointer (some ⟨c.bm,1,none⟩)
 | 1=>E
 | 2=>.map (some c.bi)
 | 3=>.pointer (some ⟨Cj,0,none⟩)
 | 4=>Ak x.a
 | 5=>.int .i64 i1
 | 6=>.map (some c.bi)
 | 7=>.pointer (some ⟨Cj,2,none⟩)
 | 8=>Ak x.b
 | 9=>.int .i64 i2
 | 10=>.int .i64 zl
 | 11=>c.fn
 | 12=>.pointer (some ⟨c.r,0,none⟩)
 | 13=>.pointer (some ⟨c.r,0,none⟩)
 | 14=>.pointer (some ⟨c.r,0,none⟩)
 | 15=>.map (some c.b1)
 | 16=>As x
 | 17=>As (AQ x)
 | 18=>.int .i64 lr
 | 19=>.int .i64 zr
 | 20=>.agg #[.int .i64 i1,.int .i64 i2,.int .i64 zl,.int .i64 zr]
 | 21=>.slice (some ⟨g.1,0,none⟩) 1 1
 | 22=>g.2
 | _=>.pointer (some ⟨c.bm,1,none⟩)
structure O8(c:Cn)(W:World)(E:Value)(eds:List Ax)(d:Ax)(Fq:List (Int×Int))(Bi:List Bs)(Cj:Nat)(x:Sg)(g:Nat×Value)(l:Array Bool)(w:World):Prop where
 way:Ju w Cj x
 kb:KB c.B W w
 sA:l.getD 19 false=false→Aa W w
 sB:l.getD 19 false=true→l.getD 22 false=false→∃F',Cs c E F' Fq Bi eds w
 sG:l.getD 21 false=true→l.getD 22 false=false→w.heap[g.1]?=some (.cells #[.int .i64 d.f,.int .i64 d.t,.int .i64 d.l,.int .i64 d.r] 126)
 sC:l.getD 22 false=true→l.getD 24 false=false→∃F',w.heap[c.bm]?=some (.cells #[c.P,E,F'] 36)/\(∃A k d,g.2=.slice A k d)/\Cs c g.2 F' Fq Bi (eds ++ [d]) (w.setCell ⟨c.bm,1,none⟩ g.2)
 sD:l.getD 24 false=true→∃F',Cs c g.2 F' Fq Bi (eds ++ [d]) w
theorem AcG(b:Nat)(w:World):(Instr.fieldAt 155 (.pointer (some ⟨b,0,none⟩)) 0).run Tryz.prog w=.ok (.pointer (some ⟨b,0,none⟩)) w:=by simp [go_sem]
theorem AcH(b:Nat)(w:World):(Instr.fieldAt 155 (.pointer (some ⟨b,0,none⟩)) 1).run Tryz.prog w=.ok (.pointer (some ⟨b,2,none⟩)) w:=by simp [go_sem]
theorem AcF(b:Nat)(w:World):(Instr.fieldAt 134 (.pointer (some ⟨b,0,none⟩)) 0).run Tryz.prog w=.ok (.pointer (some ⟨b,0,none⟩)) w:=by simp [go_sem]
theorem Agx{w:World}{b:Nat}{x:Sg}(h:Ju w b x):(Instr.loadAt 155 (.pointer (some ⟨b,0,none⟩))).run Tryz.prog w=.ok (As x) w:=by
 have h0:=Ab (o:=0) h rfl;have h1:=Ab (o:=1) h rfl;have h2:=Ab (o:=2) h rfl;have h3:=Ab (o:=3) h rfl;simp [go_sem,h0,h1,h2,h3,As]
theorem Agw{w:World}{b:Nat}{u v:Value}(h:w.heap[b]?=some (.cells #[u,v] 134)):(Instr.loadAt 131 (.pointer (some ⟨b,0,none⟩))).run Tryz.prog w=.ok u w:=by
 have h0:=Ab (o:=0) h rfl;simp [go_sem,h0]
theorem jY{P:Program}{o:Oper}{a:Act}{w:World}{v:Value}{K:Act→World→Prop}{Q:Exit→Act→World→Prop}{t:TypeId}{x y:Operand}{b:Bool}{D:Option Nat}(p:.lookup t x y b=o.op)(d:D=o.dst)(h:(Instr.lookup t (a.eval x) (a.eval y) b).run P w=.ok v w)(hk:K (a.put D v) w):o.wp P a w K Q:=
 Ir (Instr.lookup t (a.eval x) (a.eval y) b) (by unfold execOp;rw [←p]) h (d▸hk)
section
variable {c : Cn} {W : World} {E : Value} {eds : List Ax} {d : Ax} {Fq : List (Int × Int)} {Bi : List Bs} {Cj : Nat} {x : Sg} {g : Nat × Value} {l : Array Bool} {w : World}
theorem O8.put(h:O8 c W E eds d Fq Bi Cj x g l w){i:Nat}(hi:i≠19/\i≠21/\i≠22/\i≠24):O8 c W E eds d Fq Bi Cj x g (l.setIfInBounds i true) w:=by
 refine⟨h.way,h.kb,?_,?_,?_,?_,?_⟩
 all_goals simp only [getD_set_ne false hi.1,getD_set_ne false hi.2.1,getD_set_ne false hi.2.2.1,getD_set_ne false hi.2.2.2]
 ·exact h.sA
 ·exact h.sB
 ·exact h.sG
 ·exact h.sC
 ·exact h.sD
end
theorem AiS{c:Cn}(ok:c.Ok){W:World}{E F:Value}{nm Fq:List (Int×Int)}{Am Bi:List Bs}{eds:List Ax}(h0:Cs c E F nm Am eds W){Cj:Nat}{x:Sg}(hx:Ju W Cj x)(hel:eds.length<200000)(zl i1 i2 lr zr:Int)
  (Pp:Gu x.a c.idx=i1) (KG:Gu x.b c.idx=i2) (wU:AH (AQ x) c.L=lr)
  (Vs:∀w F,Cs c E F nm Am eds w→Calls Tryz.prog 196 #[.int .i64 lr,.pointer (some ⟨c.bx,0,none⟩),.pointer (some ⟨c.bm,0,none⟩),.pointer (some ⟨c.bu,0,none⟩)] w (Ou w c.B c.bx c.bn c.bm c.bu c.U c.cu c.units c.P E F zr Fq Bi))
  {a0:Act} {ops:Array Oper} (hop:ops.toList.map (fun o=>(o.op,o.dst))=fY) (AL:YU ops YV=true) (VK:okB 64 24 ops=true) (hsz:88<=a0.tmps.size)
  (e5:a0.eval (.tmp 5)=.pointer (some ⟨c.bm,0,none⟩)) (e6:a0.eval (.tmp 6)=.map (some c.bi)) (e12:a0.eval (.tmp 12)=.pointer (some ⟨Cj,0,none⟩)) (YY:a0.eval (.tmp 13)=.int .i64 zl) (e10:a0.eval (.tmp 10)=c.fn) (e0:a0.eval (.tmp 0)=.pointer (some ⟨c.r,0,none⟩))
  {id:Nat} {Q:Exit→Act→World→Prop}
  (hend:∀(v:Nat→Value) w E' F',Cs c E' F' Fq Bi (eds ++ [⟨i1,i2,zl,zr⟩]) w→KB c.B W w→Q .normal ⟨(a0.tmps.toList.take 64++((List.range 24).map v++a0.tmps.toList.drop 88)).toArray,a0.defers⟩ w) :
  (Code.region id ops true).wp Tryz.prog Q a0 W:=by
 have eg1:Enters Tryz.prog 104:=enters_of Tryz.func104 (by kernel_rfl) rfl;have eg3:Enters Tryz.prog 196:=enters_of Tryz.func196 (by kernel_rfl) rfl
 have AmA:ops.size=25:=by
  have:=congrArg List.length hop
  simpa [fY]using this
 refine Ald 64 24 (Ly c E Cj x zl i1 i2 lr zr) (fun g l w=>O8 c W E eds ⟨i1,i2,zl,zr⟩ Fq Bi Cj x g l w) (0,.slice none 0 0) (by kernel_rfl) VK (by omega) ?_ ?_ ?_
 ·refine⟨(Aa.refl W).drew.block _ (Anm hx) |>.trans hx,KB.ext (Aa.refl W).drew h0.size,fun _=>(Aa.refl W).drew,?_,?_,?_,?_⟩
  all_goals (rw [getD_replicate_false];intro e;cases e)
 ·intro b l a w i o Aj hst ho bW Au hd;have hi:i<25:=(by have:=(Array.getElem?_eq_some_iff.1 ho).1;omega);have hL:=io hop ho;have Vp:=Jf hd;have ev:=fun (d:Nat) {v:Value} (e:a0.eval (.tmp d)=v) (hd:d<64)=>Aj.out VK (.inl hd) e;replace e5:=ev 5 e5 (by omega);replace e6:=ev 6 e6 (by omega);replace e12:=ev 12 e12 (by omega);replace YY:=ev 13 YY (by omega);replace e10:=ev 10 e10 (by omega);replace e0:=ev 0 e0 (by omega)
  have dep:∀j k,YV.contains (j,k)=true→j=i→l.getD k false=true:=by rintro j k hjk rfl;have h1:=List.all_eq_true.1 AL (j,k) (by simpa using hjk);rw [ho]at h1;exact Vp k h1
  have need:∀j k,YV.contains (j,k)=true→l.getD j false=true→l.getD k false=true:=by
   intro j k hjk hl;have h1:=List.all_eq_true.1 AL (j,k) (by simpa using hjk)
   cases cL:ops[j]? with
   | none=>rw [cL]at h1;cases h1
   | some oj=>rw [cL]at h1;exact Aj.waits cL hl k h1
  have sl:=fun (k:Nat) (hk:k<24) (hl:l.getD k false=true)=>Aj.val VK k (d:=64+k) rfl hk hl (v:=Ly c E Cj x zl i1 i2 lr zr b k) rfl
  have YE:l.getD 22 false=true→∀k,k<22→k≠0∨k=0→l.getD k false=true:=by
   intro Kv k hk _;have k1:=need 22 1 (by decide) Kv;have Wd:=need 22 21 (by decide) Kv;have PE:=need 21 20 (by decide) Wd;have k5:=need 20 5 (by decide) PE;have k9:=need 20 9 (by decide) PE;have ae:=need 20 10 (by decide) PE;have Wc:=need 20 19 (by decide) PE;have k0:=need 1 0 (by decide) k1;have k2:=need 5 2 (by decide) k5;have k4:=need 5 4 (by decide) k5;have k3:=need 4 3 (by decide) k4;have k6:=need 9 6 (by decide) k9;have k8:=need 9 8 (by decide) k9;have k7:=need 8 7 (by decide) k8;have ah:=need 19 11 (by decide) Wc;have eJ:=need 19 18 (by decide) Wc;have eI:=need 18 15 (by decide) eJ;have aj:=need 18 17 (by decide) eJ;have ai:=need 17 16 (by decide) aj;have eH:=need 15 14 (by decide) eI;have eG:=need 14 13 (by decide) eH;have k12:=need 13 12 (by decide) eG
   rcases(by omega:k=0∨k=1∨k=2∨k=3∨k=4∨k=5∨k=6∨k=7∨k=8∨k=9∨k=10∨k=11∨k=12∨k=13∨k=14∨k=15∨k=16∨k=17∨k=18∨k=19∨k=20∨k=21)with rfl|rfl|rfl|rfl|rfl|rfl|rfl|rfl|rfl|rfl|rfl|rfl|rfl|rfl|rfl|rfl|rfl|rfl|rfl|rfl|rfl|rfl<;>assumption
  have n22:i<22→l.getD 22 false=false:=fun h=>by
   cases e:l.getD 22 false
   ·rfl
   ·have:=YE e i h (by omega);rw [Au]at this;cases this
  have cs:i<22→∃F nm Am,Cs c E F nm Am eds w:=fun h=>by
   cases e:l.getD 19 false
   ·exact⟨_,_,_,h0.ext (hst.sA e)⟩
   ·obtain⟨F',h'⟩:=hst.sB e (n22 h);exact⟨F',_,_,h'⟩
  have fin:(i≠19/\i≠21/\i≠22/\i≠24)→∀v,v=Ly c E Cj x zl i1 i2 lr zr b i→∃b',a.put o.dst v=a.put o.dst (Ly c E Cj x zl i1 i2 lr zr b' i)/\(∀j,l.getD j false=true→Ly c E Cj x zl i1 i2 lr zr b' j=Ly c E Cj x zl i1 i2 lr zr b j)/\O8 c W E eds ⟨i1,i2,zl,zr⟩ Fq Bi Cj x b' (l.setIfInBounds i true) w:=
   fun hne v hv=>⟨b,by rw [hv],fun _ _=>rfl,hst.put hne⟩
  rcases(by omega:i=0∨i=1∨i=2∨i=3∨i=4∨i=5∨i=6∨i=7∨i=8∨i=9∨i=10∨i=11∨i=12∨i=13∨i=14∨i=15∨i=16∨i=17∨i=18∨i=19∨i=20∨i=21∨i=22∨i=23∨i=24)with rfl|rfl|rfl|rfl|rfl|rfl|rfl|rfl|rfl|rfl|rfl|rfl|rfl|rfl|rfl|rfl|rfl|rfl|rfl|rfl|rfl|rfl|rfl|rfl|rfl
  all_goals
   simp only [fY,List.getElem?_cons_zero,List.getElem?_cons_succ,Ans,Prod.mk.injEq]at hL;obtain⟨p,d⟩:=hL
  ·refine Lz p d (by rw [e5];exact rK _ _) ?_;rw [d];exact fin (by omega) _ rfl
  ·obtain⟨F1,JE,U6,hc⟩:=cs (by omega);refine Jg p d (by rw [show a.eval (.tmp 64)=_ from sl 0 (by omega) (dep 1 0 (by decide) rfl)];exact Agv (Ab hc.fc.cM rfl)) ?_;rw [d];exact fin (by omega) _ rfl
  ·refine Tz _ p.symm ?_;rw [e6];exact fin (by omega) _ rfl
  ·refine Lz p d (by rw [e12];exact AcG _ _) ?_;rw [d];exact fin (by omega) _ rfl
  ·refine Jg p d (by rw [show a.eval (.tmp 67)=_ from sl 3 (by omega) (dep 4 3 (by decide) rfl)];exact dh (Ab (o:=0) hst.way rfl) (Ab (o:=1) hst.way rfl)) ?_;rw [d];exact fin (by omega) _ rfl
  ·obtain⟨F1,JE,U6,hc⟩:=cs (by omega);refine jY p d (by rw [show a.eval (.tmp 66)=_ from sl 2 (by omega) (dep 5 2 (by decide) rfl),show a.eval (.tmp 68)=_ from sl 4 (by omega) (dep 5 4 (by decide) rfl)];exact hc.rd.idx.look x.a) ?_;rw [d];exact fin (by omega) _ (by rw [Pp];rfl)
  ·refine Tz _ p.symm ?_;rw [e6];exact fin (by omega) _ rfl
  ·refine Lz p d (by rw [e12];exact AcH _ _) ?_;rw [d];exact fin (by omega) _ rfl
  ·refine Jg p d (by rw [show a.eval (.tmp 71)=_ from sl 7 (by omega) (dep 8 7 (by decide) rfl)];exact dh (Ab (o:=2) hst.way rfl) (Ab (o:=3) hst.way rfl)) ?_;rw [d];exact fin (by omega) _ rfl
  ·obtain⟨F1,JE,U6,hc⟩:=cs (by omega);refine jY p d (by rw [show a.eval (.tmp 70)=_ from sl 6 (by omega) (dep 9 6 (by decide) rfl),show a.eval (.tmp 72)=_ from sl 8 (by omega) (dep 9 8 (by decide) rfl)];exact hc.rd.idx.look x.b) ?_;rw [d];exact fin (by omega) _ (by rw [KG];rfl)
  ·refine Tz _ p.symm ?_;rw [YY];exact fin (by omega) _ rfl
  ·refine Tz _ p.symm ?_;rw [e10];exact fin (by omega) _ rfl
  ·refine Tz _ p.symm ?_;rw [e0];exact fin (by omega) _ rfl
  ·have s12:a.eval (.tmp 76)=.pointer (some ⟨c.r,0,none⟩):=sl 12 (by omega) (dep 13 12 (by decide) rfl);refine qu (v:=.pointer (some ⟨c.r,0,none⟩)) (w':=w) ?_ (fin (by omega) _ rfl);unfold execOp;rw [←p];simp [s12]
  ·refine Lz p d (by rw [show a.eval (.tmp 77)=_ from sl 13 (by omega) (dep 14 13 (by decide) rfl)];exact AcF _ _) ?_;rw [d];exact fin (by omega) _ rfl
  ·obtain⟨F1,JE,U6,hc⟩:=cs (by omega);refine Jg p d (by rw [show a.eval (.tmp 78)=_ from sl 14 (by omega) (dep 15 14 (by decide) rfl)];exact Agw hc.rd.net) ?_;rw [d];exact fin (by omega) _ rfl
  ·refine Jg p d (by rw [e12];exact Agx hst.way) ?_;rw [d];exact fin (by omega) _ rfl
  ·have n19:l.getD 19 false=false:=by
    cases e:l.getD 19 false
    ·rfl
    ·have:=need 18 17 (by decide) (need 19 18 (by decide) e);rw [Au]at this;cases this
   have n21:l.getD 21 false=false:=by
    cases e:l.getD 21 false
    ·rfl
    ·have:=need 20 19 (by decide) (need 21 20 (by decide) e);rw [n19]at this;cases this
   have n24:l.getD 24 false=false:=by
    cases e:l.getD 24 false
    ·rfl
    ·have:=need 24 22 (by decide) e;rw [n22 (by omega)]at this;cases this
   refine Alb p.symm eg1 (show a.eval (.tmp 80)=_ from sl 16 (by omega) (dep 17 16 (by decide) rfl)) (Uk x w) ?_;rintro e w'' ⟨rfl,hX⟩;refine⟨_,rfl,b,rfl,fun _ _=>rfl,?_⟩;refine O8.put ⟨(hX.block _ (Anm hst.way)).trans hst.way,hst.kb.trans (KB.ext hX (h0.ext (hst.sA n19)).size),fun e=>(hst.sA e).trans hX,fun e=>?_,fun e=>?_,fun e=>?_,fun e=>?_⟩ (by omega)
   ·rw [n19]at e;cases e
   ·rw [n21]at e;cases e
   ·rw [n22 (by omega)]at e;cases e
   ·rw [n24]at e;cases e
  ·obtain⟨F1,JE,U6,hc⟩:=cs (by omega);refine jY p d (by rw [show a.eval (.tmp 79)=_ from sl 15 (by omega) (dep 18 15 (by decide) rfl),show a.eval (.tmp 81)=_ from sl 17 (by omega) (dep 18 17 (by decide) rfl)];exact Qd _ _ hc.rd.left) ?_;rw [d];exact fin (by omega) _ (by rw [wU];rfl)
  ·have n21:l.getD 21 false=false:=by
    cases e:l.getD 21 false
    ·rfl
    ·have:=need 20 19 (by decide) (need 21 20 (by decide) e);rw [Au]at this;cases this
   have n24:l.getD 24 false=false:=by
    cases e:l.getD 24 false
    ·rfl
    ·have:=need 24 22 (by decide) e;rw [n22 (by omega)]at this;cases this
   have hC:=h0.ext (hst.sA Au);refine Alc p.symm eg3 (show a.eval (.tmp 75)=_ from sl 11 (by omega) (dep 19 11 (by decide) rfl)) (show a.eval (.tmp 82)=_ from sl 18 (by omega) (dep 19 18 (by decide) rfl)) (Vs w F hC) ?_;rintro e w'' ⟨F',rfl,hF,hB⟩;refine⟨_,rfl,b,rfl,fun _ _=>rfl,?_⟩
   have hw:Ju w'' Cj x:=(hB.block _ (Anm hst.way) (by
    rintro(e|e|e)
    ·exact LO hst.way hC.fc.num e
    ·exact DL hst.way hC.fc.cM (by decide) e
    ·exact Bn hC.fc.fac hst.way (by decide) e)).trans hst.way
   refine⟨hw,hst.kb.trans (KB.named ok hC hB),?_,?_,?_,?_,?_⟩
   all_goals simp only [Hp (show 19<l.size by omega),getD_set_ne false (show (19:Nat)≠21 by omega),getD_set_ne false (show (19:Nat)≠22 by omega),getD_set_ne false (show (19:Nat)≠24 by omega)]
   ·intro e;cases e
   ·intro _ _;exact⟨F',hC.named ok hF hB⟩
   ·intro e;rw [n21]at e;cases e
   ·intro e;rw [n22 (by omega)]at e;cases e
   ·intro e;rw [n24]at e;cases e
  ·have s5:a.eval (.tmp 69)=.int .i64 i1:=sl 5 (by omega) (dep 20 5 (by decide) rfl);have s9:a.eval (.tmp 73)=.int .i64 i2:=sl 9 (by omega) (dep 20 9 (by decide) rfl);have Tq:a.eval (.tmp 74)=.int .i64 zl:=sl 10 (by omega) (dep 20 10 (by decide) rfl);have Tr:a.eval (.tmp 83)=.int .i64 zr:=sl 19 (by omega) (dep 20 19 (by decide) rfl);refine Ir (Instr.build 126 #[(0,.int .i64 i1),(1,.int .i64 i2),(2,.int .i64 zl),(3,.int .i64 zr)]) (by unfold execOp;rw [←p];simp [s5,s9,Tq,Tr]) (AaD _ _ _ _ _) ?_;exact fin (by omega) _ rfl
  ·have Fj:=dep 21 20 (by decide) rfl;have LV:=need 20 19 (by decide) Fj
   have n24:l.getD 24 false=false:=by
    cases e:l.getD 24 false
    ·rfl
    ·have:=need 24 22 (by decide) e;rw [n22 (by omega)]at this;cases this
   have Ts:a.eval (.tmp 84)=.agg #[.int .i64 i1,.int .i64 i2,.int .i64 zl,.int .i64 zr]:=sl 20 (by omega) Fj;refine Ir (Instr.buildSlice 34 1 #[(0,.agg #[.int .i64 i1,.int .i64 i2,.int .i64 zl,.int .i64 zr])]) (by unfold execOp;rw [←p];simp [Ts]) (AaB _ _ _ _ _) ?_;have hX:=(Aa.refl w).alloc (.cells #[.int .i64 i1,.int .i64 i2,.int .i64 zl,.int .i64 zr] 126);refine⟨(w.heap.size,b.2),rfl,fun j hj=>?_,?_⟩
   ·have:j≠21:=(by rintro rfl;rw [Au]at hj;cases hj);unfold Ly
    split<;>first|rfl|omega
   ·obtain⟨F1,h1⟩:=hst.sB LV (n22 (by omega));refine⟨(hX.block _ (Anm hst.way)).trans hst.way,hst.kb.trans (KB.ext hX h1.size),?_,?_,?_,?_,?_⟩
    all_goals simp only [Hp (show 21<l.size by omega),getD_set_ne false (show (21:Nat)≠19 by omega),getD_set_ne false (show (21:Nat)≠22 by omega),getD_set_ne false (show (21:Nat)≠24 by omega)]
    ·intro e;rw [LV]at e;cases e
    ·intro _ e;obtain⟨F',h'⟩:=hst.sB LV e;exact⟨F',h'.ext hX⟩
    ·intro _ _;exact Ann w _
    ·intro e;rw [n22 (by omega)]at e;cases e
    ·intro e;rw [n24]at e;cases e
  ·have U9:=dep 22 21 (by decide) rfl;have LV:=need 20 19 (by decide) (need 21 20 (by decide) U9)
   have n24:l.getD 24 false=false:=by
    cases e:l.getD 24 false
    ·rfl
    ·have:=need 24 22 (by decide) e;rw [Au]at this;cases this
   obtain⟨F',hC⟩:=hst.sB LV Au;refine AkU _ _ p.symm w c.B E eds.length eds (show a.eval (.tmp 65)=_ from sl 1 (by omega) (dep 22 1 (by decide) rfl)) hC.own hel ⟨i1,i2,zl,zr⟩ b.1 (hst.sG U9 Au) (show a.eval (.tmp 85)=_ from sl 21 (by omega) U9) hC.size ?_;intro v' w' k1 k2;obtain⟨m1,m2⟩:=hC.app ok (d:=⟨i1,i2,zl,zr⟩) k2 k1;obtain⟨A,dd,rfl,-,-,-⟩:=Ae.of_own' (show 0<4 by omega) k1;refine⟨(b.1,.slice A (eds.length+1) dd),rfl,fun j hj=>?_,?_⟩
   ·have:j≠22:=(by rintro rfl;rw [Au]at hj;cases hj);unfold Ly
    split<;>first|rfl|omega
   ·have hw:Ju w' Cj x:=(k2.block _ (Anm hst.way) (fun e=>Bn hC.own hst.way (by decide) e.symm)).trans hst.way;refine⟨hw,hst.kb.trans (KB.app hC k2),?_,?_,?_,?_,?_⟩
    all_goals simp only [Hp (show 22<l.size by omega),getD_set_ne false (show (22:Nat)≠19 by omega),getD_set_ne false (show (22:Nat)≠21 by omega),getD_set_ne false (show (22:Nat)≠24 by omega)]
    ·intro e;rw [LV]at e;cases e
    ·intro _ e;cases e
    ·intro _ e;cases e
    ·intro _ _;exact⟨F',m1,⟨_,_,_,rfl⟩,m2⟩
    ·intro e;rw [n24]at e;cases e
  ·refine Lz p d (by rw [e5];exact rK _ _) ?_;rw [d];exact fin (by omega) _ rfl
  ·have Kv:=dep 24 22 (by decide) rfl;have LV:=YE Kv 19 (by omega) (by omega);have U9:=YE Kv 21 (by omega) (by omega);obtain⟨F',k1,k2,k3⟩:=hst.sC Kv Au
   have hrun:(execOp a.eval o).run Tryz.prog w=.ok .skip (w.setCell ⟨c.bm,1,none⟩ b.2):=by unfold execOp;rw [←p];show (do Instr.storeAt 34 (a.eval (.tmp 87)) (a.eval (.tmp 86));pure Next.skip:Sem Next).run Tryz.prog w=_;rw [show a.eval (.tmp 87)=_ from sl 23 (by omega) (dep 24 23 (by decide) rfl),show a.eval (.tmp 86)=_ from sl 22 (by omega) Kv];have:=Aka k2 k1;simp [Ly,this]
   unfold Oper.wp;rw [hrun];refine⟨b,?_,fun _ _=>rfl,?_⟩
   ·rw [←d];rfl
   ·have hw:Ju (w.setCell ⟨c.bm,1,none⟩ b.2) Cj x:=(D8 (by show Cj≠c.bm;exact DL hst.way k1 (by decide))).trans hst.way;refine⟨hw,hst.kb.trans (KB.set ok k1 _),?_,?_,?_,?_,?_⟩
    all_goals simp only [Hp (show 24<l.size by omega),getD_set_ne false (show (24:Nat)≠19 by omega),getD_set_ne false (show (24:Nat)≠21 by omega),getD_set_ne false (show (24:Nat)≠22 by omega)]
    ·intro e;rw [LV]at e;cases e
    ·intro _ e;rw [Kv]at e;cases e
    ·intro _ e;rw [Kv]at e;cases e
    ·intro _ e;cases e
    ·intro _;exact⟨F',k3⟩
 ·intro b l a w Aj FG hall hst;obtain⟨F',hF⟩:=hst.sD (hall 24 (by omega));have:=Aj.lit VK (by omega) (by omega) hall FG;rw [this];exact hend _ w _ F' hF hst.kb
def Br(units:List Bs)(nm:List (Int×Int))(fa:List Bs)(f:Int):Int×List (Int×Int)×List Bs:=match Cw f nm with
 | some z=>(z,nm,fa)
 | none=>((fa.length:Int),nm ++ [(f,(fa.length:Int))],fa ++ [units.getD f.toNat []])
structure Gz where
 nm:List (Int×Int)
 fa:List Bs
 ed:List Ax
def LN(units:List Bs)(idx:List (Pt×Int))(L:List (Sg×Int))(st:Gz)(s:Sg):Gz:=
 ⟨(Br units (Br units st.nm st.fa (AH s L)).2.1 (Br units st.nm st.fa (AH s L)).2.2 (AH (AQ s) L)).2.1,(Br units (Br units st.nm st.fa (AH s L)).2.1 (Br units st.nm st.fa (AH s L)).2.2 (AH (AQ s) L)).2.2,
  st.ed ++ [⟨Gu s.a idx,Gu s.b idx,(Br units st.nm st.fa (AH s L)).1,(Br units (Br units st.nm st.fa (AH s L)).2.1 (Br units st.nm st.fa (AH s L)).2.2 (AH (AQ s) L)).1⟩]⟩
def Kk(units:List Bs)(idx:List (Pt×Int))(L:List (Sg×Int))(st:Gz)(s:Sg):Gz:=if AX s.a s.b<0 then LN units idx L st s else st
def I0(units:List Bs)(idx:List (Pt×Int))(L:List (Sg×Int))(ws:List Sg):Gz:=ws.foldl (Kk units idx L) ⟨[(-1,-1)],[],[]⟩
def BN(l:List Pt):List (Pt×Int):=l.zipIdx.map fun e=>(e.1,(e.2:Int))
theorem AfC(l:List Pt)(p:Pt):BN (l ++ [p])=BN l ++ [(p,(l.length:Int))]:=by simp [BN,List.zipIdx_append]
theorem AfB(l:List Pt):(BN l).map (·.1)=l:=by
 unfold BN;rw [List.map_map];have:((fun x:Pt×Int=>x.1) ∘ fun e:Pt×Nat=>(e.1,(e.2:Int)))=Prod.fst:=rfl;rw [this,List.zipIdx_map_fst]
theorem eZ(units:List Bs)(nm:List (Int×Int))(fa:List Bs)(f:Int):(Br units nm fa f).2.2.length<=fa.length+1:=by
 unfold Br;split<;>simp
theorem eY(units:List Bs){nm:List (Int×Int)}(fa:List Bs)(f:Int)(h:Cw (-1) nm=some (-1)):Cw (-1) (Br units nm fa f).2.1=some (-1):=by
 unfold Br
 split
 ·exact h
 ·unfold Cw at h ⊢;simp only;rw [List.find?_append]
  cases hq:nm.find? (fun e=>(-1:Int) == e.1)with
  | none=>rw [hq]at h;cases h
  | some e=>rw [hq]at h;simpa using h
structure Qp(k:Nat)(st:Gz):Prop where
 h:Cw (-1) st.nm=some (-1)
 fa:st.fa.length<=2*k
 ed:st.ed.length<=k
theorem Qp.step{k:Nat}{st:Gz}(h:Qp k st)(units:List Bs)(idx:List (Pt×Int))(L:List (Sg×Int))(s:Sg):Qp (k+1) (Kk units idx L st s):=by
 unfold Kk
 split
 ·unfold LN;refine⟨eY _ _ _ (eY _ _ _ h.h),?_,?_⟩
  ·have h1:=eZ units st.nm st.fa (AH s L);have h2:=eZ units (Br units st.nm st.fa (AH s L)).2.1 (Br units st.nm st.fa (AH s L)).2.2 (AH (AQ s) L);have:=h.fa;simp only;omega
  ·have:=h.ed;simp only [List.length_append,List.length_singleton];omega
 ·exact⟨h.h,by have:=h.fa;omega,by have:=h.ed;omega⟩
theorem AaE(units:List Bs)(idx:List (Pt×Int))(L:List (Sg×Int))(ws:List Sg)(s:Sg):I0 units idx L (ws ++ [s])=Kk units idx L (I0 units idx L ws) s:=by simp [I0]
theorem qZ{c:Cn}(ok:c.Ok){E F:Value}{nm:List (Int×Int)}{Am:List Bs}{eds:List Ax}{w:World}(h:Cs c E F nm Am eds w)(hh:Cw (-1) nm=some (-1))(f:Int)(hf0:-1<=f)(vR:f<(c.units.length:Int))(JA:c.units.length<=100000)(ND:Am.length<=100000) :
  Calls Tryz.prog 196 #[.int .i64 f,.pointer (some ⟨c.bx,0,none⟩),.pointer (some ⟨c.bm,0,none⟩),.pointer (some ⟨c.bu,0,none⟩)] w (Ou w c.B c.bx c.bn c.bm c.bu c.U c.cu c.units c.P E F (Br c.units nm Am f).1 (Br c.units nm Am f).2.1 (Br c.units nm Am f).2.2):=by
 cases hl:Cw f nm with
 | some z=>
  have e:Br c.units nm Am f=(z,nm,Am):=(by unfold Br;rw [hl]);rw [e];exact Acz h.fc f z hl
 | none=>
  have hne:f≠-1:=(by rintro rfl;rw [hh]at hl;cases hl);obtain⟨m,rfl⟩:∃m:Nat,f=(m:Int):=⟨f.toNat,by omega⟩;have hm:m<c.units.length:=by omega
  have e:Br c.units nm Am (m:Int)=((Am.length:Int),nm ++ [((m:Int),(Am.length:Int))],Am ++ [c.units[m]]):=by unfold Br;rw [hl];simp [List.getD_eq_getElem?_getD,Ant hm]
  rw [e];exact Acy h.fc h.size ok.bn ok.bm m hl hm JA ND
def kB(w:World)(m:Cp)(Am:List Bs)(e:Ending)(w':World):Prop:=
 ∃A Bk F c d g,e=.returned (Dz A Bk F m c d g)/\JV m c d g/\Ae w' A (flat (Ao m.pts))/\Ae w' Bk (Bw m.eds)/\Ae w' F (Am.map S)/\m.nf=Am.length/\Aa w w'
theorem Aa1{w:World}{b:Nat}{a0 a1 a2:Value}{t:TypeId}(v:Value)(h:w.heap[b]?=some (.cells #[a0,a1,a2] t)):(w.setCell ⟨b,0,none⟩ v).heap[b]?=some (.cells #[v,a1,a2] t):=by
 simp only [World.setCell,Array.getElem?_modify,h];simp
theorem Aa5{w:World}{b o:Nat}{cs:Array Value}{t:TypeId}{fz:Nat×Nat}{v:Value}(h:w.heap[b]?=some (.cells cs t fz))(hc:w.cell? ⟨b,o,none⟩=some v):cs[o]?=some v:=by
 cases e:cs[o]? with
 | some u=>
  have h2:=hc;simp [World.cell?,h,e]at h2;rw [←h2]
 | none=>simp [World.cell?,h,e]at hc
theorem rJ{l:List Pt}{j:Nat}(hj:j<(flat (Ao l)).length):∃s,(flat (Ao l))[j]=S s:=by
 have:=Anp hj;unfold flat at this;rw [List.mem_flatMap]at this;obtain⟨p,_,h⟩:=this;simp only [List.mem_cons,An0,or_false]at h
 rcases h with h|h
 ·exact⟨_,h⟩
 ·exact⟨_,h⟩
theorem AgZ{c:Cn}{E F:Value}{nm:List (Int×Int)}{Am:List Bs}{eds:List Ax}{w:World}(_:Cs c E F nm Am eds w):∃x,x=w:=⟨w,rfl⟩
theorem ML{w:World}{B:Nat}{e:TypeId}{s n c:Nat}{A:Option Addr}{xs:List Value}(hs:0<s)(h:w.ownsRow B e s (.slice A n c) n xs):Ae w A xs:=by
 obtain⟨A',c',e',h1,-,-⟩:=Ae.of_own' hs h;simp only [Value.slice.injEq]at e';rw [e'.1];exact h1
theorem i7{B B':Nat}{w w':World}{e:TypeId}{s n:Nat}{v:Value}{xs:List Value}(h:w.ownsRow B' e s v n xs)(hk:KB B w w')(h1:e≠36)(h2:e≠9)(h3:e≠126):w'.ownsRow B' e s v n xs:=by
 refine⟨h.1,?_⟩
 rcases h.2 with h'|⟨g,cap,cur,e1,e2,hgb,e4⟩
 ·exact .inl h'
 ·exact .inr ⟨g,cap,cur,e1,e2,hk.kp g cur e (0,0) h1 h2 h3 hgb,e4⟩
theorem AfJ{pts:List Pt}(BU:pts.Nodup){k:Nat}(hk:k<pts.length):∀e∈BN (pts.take k),Ap pts[k] e.1=false:=by
 intro e he
 have h1:e.1∈pts.take k:=by
  have:=List.mem_map_of_mem (f:=(·.1)) he
  rwa [AfB]at this
 refine jx.2 fun h2=>?_;obtain⟨j,hj,h3⟩:=List.getElem_of_mem h1;rw [List.getElem_take]at h3;have hj':j<k:=(by rw [List.length_take]at hj;omega);have:=(List.getElem_inj (h₀:=by omega) (h₁:=hk) BU).1 (h3.trans h2.symm);omega
theorem AaF{w0 w:World}(hw:An w0)(hx:Aa w0 w){B0 r b1 b2:Nat}{L:List (Sg×Int)}{E:List (Pt×Value×Nat)}{R0:List (Pt×List Pt)}(h:Bo B0 w r b1 b2 L E R0)
  (hz:∀e∈R0,Ar 200 e.1/\∀p∈e.2,Ar 200 p) (hlen:R0.length<=100000) (hrl:∀e∈R0,e.2.length<100000) (BU:(R0.map (·.1)).Nodup) (hno:∀e∈R0,∀p q,e.2 = [p,q]→AE (Al p e.1 q)≠0)
  (hL:∀e∈L,Ee 200 e.1) (hLl:L.length<=40000) (hback:∀e∈L,∃e'∈L,e'.1=AQ e.1) (U:Option Addr) (cu:Nat) (units:List Bs) (hU:Ae w U (units.map S)) (P4:∀x,U=some x→x.block<w.heap.size) (JA:units.length<=100000)
  (NJ:∀x∈L,-1<=x.2/\x.2<(units.length:Int)) {pts:List Pt} (NN:pts=Ev (R0.map (·.1))) {ws:List Sg} (NU:ws=B6 (L.map (·.1))) {st:Gz} (hst:st=I0 units (BN pts) L ws) :
  Calls Tryz.prog 112 #[.pointer (some ⟨r,0,none⟩),.slice U units.length cu] w (kB w ⟨pts,st.ed,st.fa.length⟩ st.fa):=by
 have hmm:=@run_makeMap Tryz.prog;have Am8:=Anm h.cell;have AlL:=Anm h.left;have xN:pts.Nodup:=(by rw [NN];exact(JO _).nodup_iff.2 BU);have AeH:pts.length=R0.length:=(by rw [NN,(JO _).length_eq];simp);have E1:=((Aa.refl w).alloc (.cells #[.slice U units.length cu] 23)).alloc (.cells #[.slice none 0 0,.slice none 0 0,.slice none 0 0] 36);have Ph:=Ann w (.cells #[.slice U units.length cu] 23);have hbr:=Ann (w.alloc (.cells #[.slice U units.length cu] 23)) (.cells #[.slice none 0 0,.slice none 0 0,.slice none 0 0] 36);rw [Anv]at hbr;have uT:=(Below.heap_alloc (w.alloc (.cells #[.slice U units.length cu] 23)) (.cells #[.slice none 0 0,.slice none 0 0,.slice none 0 0] 36) w.heap.size (by simp)).trans Ph;have lv:=Agi hw (hx.trans E1) (h.ext E1) hz hlen hrl BU hno;have J0:=h.ar.len;have DC:=h.ar.keys;have vz:=Anl (fun i (hi:i<E.length)=>(h.ar.row i hi (by rw [←J0];exact hi)).2.1)
 have sL:∀e∈E,Ar 200 e.1:=fun e he=>by have:e.1∈R0.map (·.1):=(by rw [←DC];exact List.mem_map_of_mem he);obtain⟨e',he',h1⟩:=List.mem_map.1 this;rw [←h1];exact(hz e' he').1
 have Hb:=Anl h;have sw:=Anl sL;have HST:=Anl hst;have LI:=Anl NU;have TM:=Anl NN;have um:=Anl DC;have Ov:=Anl (show E.length=pts.length by omega);have HU:=Anl hU;have xh:=Anl P4;have HL:=Anl hL;have ry:=Anl hback;have kY:=Anl NJ;have vt:=Anl xN;have hpl:pts.length<=100000:=(by omega);clear Ph h sL hst NU NN DC J0 hU P4 hL hback NJ xN AeH hz hlen hrl BU hno;go_enter Tryz.func112,Tryz.ntmps112;have hs1:((w.alloc (.cells #[.slice U units.length cu] 23)).alloc (.cells #[.slice none 0 0,.slice none 0 0,.slice none 0 0] 36)).heap.size=w.heap.size+2:=by simp only [Anv]
 go_upto_region 1 with fail
 generalize (w.alloc (.cells #[.slice U units.length cu] 23)).alloc (.cells #[.slice none 0 0,.slice none 0 0,.slice none 0 0] 36)=W1 at *;(go_wp2_with fail);(with_reducible refine lv.mono ?_);rintro e w2 ⟨rfl,hx2⟩;clear lv;have Ck:=E1.trans hx2;have ZK:=(hx2.block _ (Anm uT)).trans uT;have hR2:=(hx2.block _ (Anm hbr)).trans hbr;have hs2:=hx2.size;have J2:=Hb.out.ext Ck;have m1:=Ab (o:=1) J2.cell rfl;obtain⟨bm,Di⟩:=Ank w2.heap.size;have kp:=fun W=>ay (some b2) W;have E3:=(Aa.refl w2).alloc (.cells #[.slice none 0 0,.slice none 0 0,.slice none 0 0] 36);have GF:=Ann w2 (.cells #[.slice none 0 0,.slice none 0 0,.slice none 0 0] 36);have m3:=E3.cellS m1
 go_upto_region 3 with fail
 rw [←Di]at GF ⊢;generalize w2.alloc (.cells #[.slice none 0 0,.slice none 0 0,.slice none 0 0] 36)=W3 at *;have CX:=Ck.trans E3;have Gg:=Hb.out.ext CX;have AdJ:w.heap.size+2<=bm:=(by omega);have uN:w.heap.size<=bm:=(by omega);have Pb:=(E3.block _ (Anm ZK)).trans ZK;have ZF:=(E3.block _ (Anm hR2)).trans hR2;clear Di m1 J2 hx2 ZK hR2 hs2;have E4:=(Aa.refl W3).alloc (.cells #[.map (some b2)] 132);have BP:=Ann W3 (.cells #[.map (some b2)] 132);have sk:=nl hw ((hx.trans CX).trans E4) W3.heap.size b2 E vz.out (Anm BP) (Ab BP rfl) (Gg.ext E4).ar.blk sw.out (by have:=Ov.out;omega);rw [um.out,←TM.out,Ov.out]at sk;(go_wp2_with fail);(with_reducible refine(kp _).mono ?_);rintro e w4 ⟨rfl,rfl⟩;(go_wp2_with fail);(with_reducible refine sk.mono ?_);rintro e w5 ⟨sv,rfl,CN,OS⟩;obtain⟨pA,pc,rfl,hP5,AeE,AeF⟩:=Ae.of_own' (by omega) CN;have Oq:=E4.trans OS;have Rx:=(Oq.block _ (Anm GF)).trans GF;have y0:=Ab (o:=0) Rx rfl;have y1:=AO (o:=0) Rx;have tI:=(Oq.block _ (Anm Pb)).trans Pb;have tB:=(Oq.block _ (Anm ZF)).trans ZF;clear sk kp BP E4 OS GF m3 Pb ZF
 go_upto_region 5 with fail
 have Z7:=Aa1 (.slice pA pts.length pc) Rx;have yn:Aa W3 w5:=Oq;have R9:=CX.trans Oq;have tP:Aa w (w5.setCell ⟨bm,0,none⟩ (.slice pA pts.length pc)):=R9.setCell (p:=⟨bm,0,none⟩) uN _;have sX:=CB (K:=fun k=>k=bm) CN ((Av.refl (fun k=>k=bm) w5).setCell (p:=⟨bm,0,none⟩) (.inl rfl) (.slice pA pts.length pc)) (fun k hk e=>by subst e;exact Bn CN Rx (by decide) hk);have EI:=(Aa.refl (w5.setCell ⟨bm,0,none⟩ (.slice pA pts.length pc))).alloc (.map #[] 0)
 have N3:Hg ((w5.setCell ⟨bm,0,none⟩ (.slice pA pts.length pc)).alloc (.map #[] 0)) w5.heap.size (BN (pts.take 0)):=by have:=Ann (w5.setCell ⟨bm,0,none⟩ (.slice pA pts.length pc)) (.map #[] 0);rw [World.size_setCell]at this;exact this
 have Kx:=(EI.block _ (Anm Z7)).trans Z7;have Mg:=tP.trans EI;have OZ:=Az sX EI;have ZL:=(D8 (w:=w5) (p:=⟨bm,0,none⟩) (v:=.slice pA pts.length pc) (show w.heap.size≠bm by omega)).trans tI;have ZG:=(D8 (w:=w5) (p:=⟨bm,0,none⟩) (v:=.slice pA pts.length pc) (show w.heap.size+1≠bm by omega)).trans tB;have US:=(EI.block _ (Anm ZL)).trans ZL;have Mc:=(EI.block _ (Anm ZG)).trans ZG;obtain⟨bi,Hw⟩:=Ank w5.heap.size;rw [←Hw]at N3 ⊢;have uL:w.heap.size<=bi:=(by have:=R9.size;omega);generalize (w5.setCell ⟨bm,0,none⟩ (.slice pA pts.length pc)).alloc (.map #[] 0)=W6 at *;clear Rx y0 y1 Z7 yn R9 tP sX EI hP5 Oq Hw Gg CX CN tI tB ZL ZG;have z0:=Ab (o:=0) Kx rfl;have hl0:(0:Int)<=(pts.length:Int):=by omega
 go_upto_region 6 with fail
 clear z0
 go_loopw [27] (fun iv wr=>∃k:Nat,iv=.int .i64 (k:Nat)/\k<=pts.length/\Hg wr bi (BN (pts.take k))/\Av (fun q=>q=bi) W6 wr) (fun iv _=>pts.length-(intOf iv).toNat)
 case atStart=>exact⟨0,rfl,by omega,N3,Av.refl _ _⟩
 case round=>
  obtain⟨k,rfl,hk,hI,hB⟩:=hrel;have ZC:=CB OZ hB (fun k hk e=>by subst e;exact WP OZ N3 hk);have sY:Ae wr pA (flat (Ao pts)):=ML (by omega) ZC;by_cases hkn:k<pts.length
  ·obtain⟨b,o,rfl,f1,f2⟩:=Ct sY hkn;have hnew:=AfJ vt.out hkn
   have C6:BN (pts.take (k+1))=BN (pts.take k) ++ [(pts[k],(k:Int))]:=by rw [Anr hkn,AfC,List.length_take,Nat.min_eq_left (by omega)]
   obtain⟨p,hp⟩:=Ank (pts[k]);rw [←hp]at f1 f2 hnew C6;have EA:=(Aa.refl wr).alloc (.cells #[S (R p.x),S (R p.y)] 92);have Aq:=Ann wr (.cells #[S (R p.x),S (R p.y)] 92);obtain⟨W8,hput,J1,bG,-⟩:=(hI.ext EA).put p hnew (k:Int);rw [←C6]at J1;unfold Ak at hput;have hk0:(0:Int)<=(k:Int):=(by omega);have Ca:(k:Int)<(pts.length:Int):=(by omega);have q1:=Ab (o:=0) Aq rfl;have q2:=Ab (o:=1) Aq rfl;have Hd:=Anl C6;clear hp hnew C6
   go_upto_region 8 with fail
   unfold S at Aq q1 q2 hput bG EA;have UC:=(hB.ext EA).grown bG (fun q e=>by cases e;exact .inl rfl);generalize wr.alloc (.cells #[.string ⟨(R p.x).toArray⟩,.string ⟨(R p.y).toArray⟩] 92)=V at *;clear Aq EA bG;go_wp2;go_roundw
   case rel=>exact⟨k+1,by go_num,hkn,J1,UC⟩
   case measure=>simp [intOf];omega
  ·have Bu:k=pts.length:=(by omega);subst Bu;have hd:decide (pts.length<pts.length)=false:=(by simp);have BY:decide ((pts.length:Int)<(pts.length:Int))=false:=(by simp);rw [List.take_length]at hI;have sS:bm≠bi:=fun e=>LO Kx N3 e;have Ej:=(hB.block _ (Anm Kx) sS).trans Kx;have ZQ:=(hB.block _ (Anm US) (fun e=>LO US N3 e)).trans US;have Pa:=(hB.block _ (Anm Mc) (fun e=>LO Mc N3 e)).trans Mc;have BH:Aa w wr:=hB.toExt Mg (fun q e=>by subst e;exact uL);have uK:=Anm hI;have E9:=(Aa.refl wr).alloc (.map #[] 0);have sO:Fz (wr.alloc (.map #[] 0)) wr.heap.size []:=Ann wr (.map #[] 0);obtain⟨OA,hput,Z3,vY,dD⟩:=sO.put (-1) (-1) rfl;have L8:=(Aa.refl OA).alloc (.cells #[.map (some wr.heap.size)] 212);have Aw:=Ann OA (.cells #[.map (some wr.heap.size)] 212);rw [Anv]at dD;have Pd:Av (fun j=>j=wr.heap.size) wr OA:=((Av.refl _ wr).ext E9).grown vY (fun k e=>by cases e;exact .inl rfl);have sH:Aa wr OA:=Pd.toExt (Aa.refl wr) (fun k e=>by subst e;exact Ano _);have MU:=sH.trans L8
   go_upto_region 10 with fail
   go_upto_region 12 with fail
   rw [dD]at Aw;have Z8:Fz (OA.alloc (.cells #[.map (some wr.heap.size)] 212)) wr.heap.size [(-1,-1)]:=(L8.block _ (Anm Z3)).trans Z3;have Rw:=(MU.block _ (Anm Ej)).trans Ej;have tH:=(MU.block _ (Anm ZQ)).trans ZQ;have UO:=(MU.block _ (Anm Pa)).trans Pa;have Kw:=hI.ext MU;have sW:=Az ZC MU;have N6:=BH.trans MU;have UR:=Anm Pa;have AeS:=N6.size;clear sO hput Z3 vY L8 Pd sH Ej ZQ Pa hI ZC BH E9 sY hB Kx N3 Mg OZ US Mc sS;clear hmm dD MU;generalize OA.alloc (.cells #[.map (some wr.heap.size)] 212)=W11 at *;obtain⟨bn,BS⟩:=Ank wr.heap.size;rw [←BS]at Aw Z8 uK UR ⊢;clear BS;have Rz:=Hb.out.ext N6;have Pb:Ae W11 U (units.map S):=HU.out.ext N6;have rX:w.heap.size+2<=W11.heap.size:=(by have:=Anm UO;omega);obtain⟨c,hc⟩:=Ank (⟨w.heap.size+2,bn+1,bn,bm,w.heap.size,bi,r,b1,b2,U,cu,units,.slice pA pts.length pc,BN pts,L⟩:Cn)
   have ok:c.Ok:=by subst hc;exact⟨show r<w.heap.size+2 by omega,show b1<w.heap.size+2 by omega,show w.heap.size+2<=bn by omega,show w.heap.size+2<=bm by omega,show bi≠bn by omega⟩
   have rY:Cs c (.slice none 0 0) (.slice none 0 0) [(-1,-1)] [] [] W11:=by subst hc;exact⟨⟨Aw,Z8,Rw,⟨rfl,.inl ⟨rfl,rfl⟩⟩,tH,Pb,fun x hx=>by have:=xh.out x hx;simp only;omega⟩,⟨Rz.cell,Rz.left,Kw⟩,⟨rfl,.inl ⟨rfl,rfl⟩⟩,rX⟩
   have m11:=Ab (o:=0) Rz.cell rfl;have kw:=fun W=>eK (some b1) W;have TE:=(Aa.refl W11).alloc (.cells #[.map (some b1)] 131);have BP:=Ann W11 (.cells #[.map (some b1)] 131);have sk:=jJ hw ((hx.trans N6).trans TE) W11.heap.size b1 L (Anm BP) (Ab BP rfl) (Rz.ext TE).left HL.out (by omega);rw [←LI.out]at sk;have hwl:ws.length=L.length:=by rw [LI.out,(Jd _).length_eq];simp
   have zA:∀s∈ws,∃e∈L,e.1=s:=fun s hs=>by rw [LI.out]at hs;obtain⟨e,he,h1⟩:=List.mem_map.1 ((Jd _).mem_iff.1 hs);exact⟨e,he,h1⟩
   rw [←hwl]at sk hLl;have XY:=Anl zA;have HC:=Anl hc;clear hwl zA hc Aw Z8 Rw tH Kw Pb;(go_wp2_with fail);(with_reducible refine(kw _).mono ?_);rintro e Tx ⟨rfl,rfl⟩;(go_wp2_with fail);(with_reducible refine sk.mono ?_);rintro e w13 ⟨sv,rfl,hS13,I5⟩;obtain⟨sA,sc,rfl,-,-,-⟩:=Ae.of_own' (by omega) hS13;have Qr:=TE.trans I5;have Adk:=rY.ext Qr;have tN:=N6.trans Qr;have Adz:=Az sW Qr;have Ad2:=(Qr.block _ (Anm UO)).trans UO;have hf0:(⟨[(-1,-1)],[],[]⟩:Gz)=I0 units (BN pts) L (ws.take 0):=rfl;have hk0:Qp 0 (⟨[(-1,-1)],[],[]⟩:Gz):=⟨rfl,Ano _,Ano _⟩;clear kw sk BP TE I5 m11 rY N6 Rz sW UO Qr rX AdJ uN uL uK UR AeS hd BY;have hl2:(0:Int)<=(ws.length:Int):=by omega
   go_upto_region 13 with fail
   go_loopw [46] (fun iv wr=>∃(k:Nat) (E F:Value) (s:Gz),iv=.int .i64 (k:Nat)/\k<=ws.length/\s=I0 units (BN pts) L (ws.take k)/\Qp k s/\Cs c E F s.nm s.fa s.ed wr/\KB c.B w13 wr) (fun iv _=>ws.length-(intOf iv).toNat)
   case atStart=>exact⟨0,_,_,_,rfl,by omega,hf0,hk0,Adk,KB.refl _ _⟩
   case round=>
    obtain⟨k,E,F,s,rfl,hk,hs,Aj,hC,hK⟩:=hrel;have Me:=i7 hS13 hK (by decide) (by decide) (by decide);by_cases hkn:k<ws.length
    ·obtain⟨b,o,rfl,f1,f2,f3,f4⟩:=MP (ML (by omega) Me) hkn;obtain⟨e1,KC,KD⟩:=XY.out _ (Anp hkn);have hsz:Ee 200 ws[k]:=by rw [←KD];exact HL.out e1 KC
     have bT:-1<=AH ws[k] L/\AH ws[k] L<(units.length:Int):=by obtain⟨e2,Hz,h2⟩:=Wm (s:=ws[k]) (L:=L) (by rw [←KD];exact List.mem_map_of_mem KC);rw [h2];exact kY.out e2 Hz
     have bV:-1<=AH (AQ ws[k]) L/\AH (AQ ws[k]) L<(units.length:Int):=by obtain⟨e3,J5,h3⟩:=ry.out e1 KC;obtain⟨e2,Hz,h2⟩:=Wm (s:=AQ ws[k]) (L:=L) (by rw [←KD,←h3];exact List.mem_map_of_mem J5);rw [h2];exact kY.out e2 Hz
     have C6:I0 units (BN pts) L (ws.take (k+1))=Kk units (BN pts) L s ws[k]:=by rw [Anr hkn,AaE,←hs]
     have Sx:=Aj.step units (BN pts) L ws[k];obtain⟨x,hxx⟩:=Ank (ws[k]);rw [←hxx]at f1 f2 f3 f4 hsz bT bV C6 Sx;have Hd:=Anl C6;have HS:=Anl hs;have Aml:(0:Int)<=(k:Int):=(by omega);have Ca:(k:Int)<(ws.length:Int):=(by omega);have EA:=(Aa.refl wr).alloc (.cells #[S (R x.a.x),S (R x.a.y),S (R x.b.x),S (R x.b.y)] 155);have Aq:=Ann wr (.cells #[S (R x.a.x),S (R x.a.y),S (R x.b.x),S (R x.b.y)] 155);have BH:Aa w wr:=tN.trans_below hK.bl (by have:=HC.out;rw [this];simp only;omega);have PT:=fun (V:World) (hV:Aa wr V)=>Ig x.a x.b hsz.a hsz.b (by omega) (by omega) V (hw.ext ((hx.trans BH).trans hV));clear hxx C6 hs KD KC e1
     go_upto_region 15 with fail
     unfold S at Aq EA;have UW:Ju (wr.alloc (.cells #[.string ⟨(R x.a.x).toArray⟩,.string ⟨(R x.a.y).toArray⟩,.string ⟨(R x.b.x).toArray⟩,.string ⟨(R x.b.y).toArray⟩] 155)) wr.heap.size x:=Aq;generalize wr.alloc (.cells #[.string ⟨(R x.a.x).toArray⟩,.string ⟨(R x.a.y).toArray⟩,.string ⟨(R x.b.x).toArray⟩,.string ⟨(R x.b.y).toArray⟩] 155)=V at *;obtain⟨Cj,uD⟩:=Ank wr.heap.size;rw [←uD]at Aq UW ⊢;clear uD f1 f2 f3 f4;have y0:=Ab (o:=0) Aq rfl;have y1:=Ab (o:=1) Aq rfl;have y2:=Ab (o:=2) Aq rfl;have y3:=Ab (o:=3) Aq rfl;have p1:=PT V EA;obtain⟨z,hz⟩:=Ank (AX x.a x.b);rw [←hz]at p1;unfold Ak S at p1;(go_wp2_with fail);(with_reducible refine p1.mono ?_);rintro e w3 ⟨rfl,hx3⟩;have X3:=EA.trans hx3;have UF:=hC.ext X3;have hK3:=hK.trans (KB.ext X3 hC.size);have hW3:Ju w3 Cj x:=(hx3.block _ (Anm UW)).trans UW;clear p1 PT y0 y1 y2 y3 Aq UW;by_cases Mt:z<0
     ·have hce:Kk units (BN pts) L s x=LN units (BN pts) L s x:=(by unfold Kk;rw [if_pos (by rw [←hz];exact Mt)]);rw [hce]at Sx;have LA:=Anl hce;have hfa:=Aj.fa;have RS:=Aj.ed;have Au:c.units=units:=(by rw [HC.out]);have Zf:=fun (V:World) (F':Value) (h:Cs c E F' s.nm s.fa s.ed V)=>qZ ok h Aj.h (AH x L) bT.1 (by rw [Au];exact bT.2) (by rw [Au];exact JA) (by omega);have FK:=eZ units s.nm s.fa (AH x L);have hh1:=eY units s.fa (AH x L) Aj.h;have rC:=fun (V:World) (F':Value) (h:Cs c E F' (Br units s.nm s.fa (AH x L)).2.1 (Br units s.nm s.fa (AH x L)).2.2 s.ed V)=>qZ ok h hh1 (AH (AQ x) L) bV.1 (by rw [Au];exact bV.2) (by rw [Au];exact JA) (by omega);rw [Au]at Zf rC
      have rB:∀(V:World) (F':Value) (h:Cs c E F' s.nm s.fa s.ed V),Calls Tryz.prog 196 #[.int .i64 (AH x L),.pointer (some ⟨bn+1,0,none⟩),.pointer (some ⟨bm,0,none⟩),.pointer (some ⟨w.heap.size,0,none⟩)] V (Ou V c.B c.bx c.bn c.bm c.bu c.U c.cu c.units c.P E F' (Br units s.nm s.fa (AH x L)).1 (Br units s.nm s.fa (AH x L)).2.1 (Br units s.nm s.fa (AH x L)).2.2):=by intro V F' h;have t:=Zf V F' h;rw [←Au]at t;rw [←Au];have hc:=HC.out;rw [show (bn+1)=c.bx by rw [hc],show bm=c.bm by rw [hc],show w.heap.size=c.bu by rw [hc]];exact t
      have XW:=Anl Au;have tu:=Anl rC;have OR:=UF.ext (Aa.refl w3).drew;have lk:=Qd x L (W:=w3.drew) (by have:=OR.rd.left;rw [HC.out]at this;exact this);have VI:=OR.rd.net;rw [HC.out]at VI;simp only at VI;have m1:=Ab (o:=0) VI rfl;have hwd:Ju w3.drew Cj x:=hW3;have g0:=Ab (o:=0) hwd rfl;have g1:=Ab (o:=1) hwd rfl;have g2:=Ab (o:=2) hwd rfl;have g3:=Ab (o:=3) hwd rfl;unfold As at lk;have Ze:=rB _ F OR;have Afs:w3.drew.heap[Cj]?=some (.cells #[S (R x.a.x),S (R x.a.y),S (R x.b.x),S (R x.b.y)] 155 (0,0)):=hW3;clear Zf rB FK Au VI hwd hce;obtain⟨zl,hzl⟩:=Ank ((Br units s.nm s.fa (AH x L)).1);rw [←hzl]at Ze;have xm:=Anl hzl;clear hzl
      go_upto_region 16 with fail
      go_cut [13] (fun v13 wx=>v13=.int .i64 zl/\∃F',Cs c E F' (Br units s.nm s.fa (AH x L)).2.1 (Br units s.nm s.fa (AH x L)).2.2 s.ed wx/\KB c.B w13 wx/\Ju wx Cj x)
      case first=>
       go_region_with ((with_reducible refine Ze.mono ?_);rintro e w4 ⟨F4,rfl,hF4,Ge⟩)
       all_goals go_wp2
       all_goals go_meet
       all_goals (
        have GH:=KB.named ok OR Ge
        refine⟨rfl,F4,OR.named ok (by rw [XW.out]at hF4 ⊢;exact hF4) Ge,(hK3.trans (KB.ext (Aa.refl w3).drew UF.size)).trans GH,GH.kp Cj _ _ _ (by decide) (by decide) (by decide) Afs⟩)
      case rest=>
       obtain⟨rfl,F4,rZ,hK4,ZU⟩:=hcut;obtain⟨W9,rfl⟩:=AgZ rZ;have vU:=tu.out
       have Vs:∀(V:World) (F':Value),Cs c E F' (Br units s.nm s.fa (AH x L)).2.1 (Br units s.nm s.fa (AH x L)).2.2 s.ed V→Calls Tryz.prog 196 #[.int .i64 (AH (AQ x) L),.pointer (some ⟨c.bx,0,none⟩),.pointer (some ⟨c.bm,0,none⟩),.pointer (some ⟨c.bu,0,none⟩)] V (Ou V c.B c.bx c.bn c.bm c.bu c.U c.cu c.units c.P E F' (Br units (Br units s.nm s.fa (AH x L)).2.1 (Br units s.nm s.fa (AH x L)).2.2 (AH (AQ x) L)).1 (Br units (Br units s.nm s.fa (AH x L)).2.1 (Br units s.nm s.fa (AH x L)).2.2 (AH (AQ x) L)).2.1 (Br units (Br units s.nm s.fa (AH x L)).2.1 (Br units s.nm s.fa (AH x L)).2.2 (AH (AQ x) L)).2.2):=by intro V F' h';have t:=vU V F' h';rw [←XW.out]at t;rw [←XW.out];exact t
       clear vU lk m1 g0 g1 g2 g3 Ze OR UF hK3 hW3;have hel:s.ed.length<200000:=by omega
       go_upto_region 17 with fail
       refine AiS (c:=c) ok rZ ZU hel zl (Gu x.a (BN pts)) (Gu x.b (BN pts)) (AH (AQ x) L) _ (by rw [HC.out]) (by rw [HC.out]) (by rw [HC.out]) Vs rfl (by kernel_rfl) (by kernel_rfl) (by simp) (by rw [HC.out];rfl) (by rw [HC.out];rfl) rfl rfl (by rw [HC.out];rfl) (by rw [HC.out];rfl) ?_;intro v w9 E9 F9 Zy hK9;simp only [List.take_succ_cons,List.take_zero,List.drop_succ_cons,List.drop_zero,List.cons_append,List.nil_append,show List.range 24 = [0,1,2,3,4,5,6,7,8,9,10,11,12,13,14,15,16,17,18,19,20,21,22,23] from rfl,List.map_cons,List.map_nil];clear Vs;have XD:=Anl (show LN units (BN pts) L s x=I0 units (BN pts) L (ws.take (k+1))by rw [Hd.out,LA.out])
       have Adl:Cs c E9 F9 (LN units (BN pts) L s x).nm (LN units (BN pts) L s x).fa (LN units (BN pts) L s x).ed w9:=by have hz:=xm.out;rw [hz]at Zy;exact Zy
       clear Zy;go_wp2;go_roundw
       case rel=>exact⟨k+1,E9,F9,LN units (BN pts) L s x,by go_num,hkn,XD.out,Sx,Adl,hK4.trans hK9⟩
       case measure=>simp [intOf];omega
     ·have hce:Kk units (BN pts) L s x=s:=(by unfold Kk;rw [if_neg (by rw [←hz];exact Mt)]);rw [hce]at Sx;have XD:=Anl (show s=I0 units (BN pts) L (ws.take (k+1))by rw [Hd.out,hce]);clear hce hz;go_wp2;go_roundw
      case rel=>exact⟨k+1,E,F,s,by go_num,hkn,XD.out,Sx,UF,hK3⟩
      case measure=>simp [intOf];omega
    ·have Bu:k=ws.length:=(by omega);subst Bu;have Vp:decide (ws.length<ws.length)=false:=(by simp);have Ama:decide ((ws.length:Int)<(ws.length:Int))=false:=(by simp);rw [List.take_length,←HST.out]at hs;subst hs;obtain⟨oE,cE,rfl,hE9,EF,EG⟩:=Ae.of_own' (by omega) hC.own;obtain⟨oF,cF,rfl,hF9,hF1,hF2⟩:=Ae.of_own' (by omega) hC.fc.fac;have I7:=(hK.bl.block _ (by rw [HC.out];show w.heap.size+1<w.heap.size+2;omega)).trans Ad2;have RP:=hC.fc.cM;have hcb:c.bm=bm/\c.P=.slice pA pts.length pc/\c.B=w.heap.size+2:=(by rw [HC.out];exact⟨rfl,rfl,rfl⟩);rw [hcb.1,hcb.2.1]at RP;have ZD:=i7 Adz hK (by decide) (by decide) (by decide);have BR:Aa w wr:=tN.trans_below hK.bl (by rw [hcb.2.2];omega);have m0:=Ab (o:=0) RP rfl;have m1:=Ab (o:=1) RP rfl;have m2:=Ab (o:=2) RP rfl;have r0:=Ab (o:=0) I7 rfl;have r1:=Ab (o:=1) I7 rfl;have r2:=Ab (o:=2) I7 rfl;have r3:=AO (o:=0) I7;have r4:=AO (o:=1) I7;have r5:=AO (o:=2) I7;have FR:=YA (.slice pA pts.length pc) (.slice oE s.ed.length cE) (.slice oF s.fa.length cF) I7;have bb:=(((Av.refl (fun q=>q=w.heap.size+1) wr).setCell (p:=⟨w.heap.size+1,0,none⟩) (.inl rfl) (.slice pA pts.length pc)).setCell (p:=⟨w.heap.size+1,1,none⟩) (.inl rfl) (.slice oE s.ed.length cE)).setCell (p:=⟨w.heap.size+1,2,none⟩) (.inl rfl) (.slice oF s.fa.length cF);have f1:=ML (by omega) (CB ZD bb (fun q hq e=>by subst e;exact Bn ZD I7 (by decide) hq));have f2:=ML (by omega) (CB hC.own bb (fun q hq e=>by subst e;exact Bn hC.own I7 (by decide) hq));have f3:=ML (by omega) (CB hC.fc.fac bb (fun q hq e=>by subst e;exact Bn hC.fc.fac I7 (by decide) hq));have RB:=bb.toExt BR (fun q e=>by subst e;omega);have t1:=Ab (o:=0) FR rfl;have t2:=Ab (o:=1) FR rfl;have t3:=Ab (o:=2) FR rfl
     have AS:kB w ⟨pts,s.ed,s.fa.length⟩ s.fa (.returned (Dz pA oE oF ⟨pts,s.ed,s.fa.length⟩ pc cE cF)) (((wr.setCell ⟨w.heap.size+1,0,none⟩ (.slice pA pts.length pc)).setCell ⟨w.heap.size+1,1,none⟩ (.slice oE s.ed.length cE)).setCell ⟨w.heap.size+1,2,none⟩ (.slice oF s.fa.length cF)):=
      ⟨pA,oE,oF,pc,cE,cF,rfl,⟨AeE,AeF,EF,EG,hF1,hF2⟩,f1,f2,f3,rfl,RB⟩
     have BI:=Anl AS;clear AS RB f1 f2 f3 bb FR I7 RP hC hK ZD BR;go_wp2;refine bodyPost_ret (v:=.agg #[.slice pA pts.length pc,.slice oE s.ed.length cE,.slice oF s.fa.length cF]) (by simp [results,Tryz.results112,go_sem,t1,t2,t3]) rfl ?_;exact BI.out
end Go.Proofs.YtjalkoacphhgdaaGreatDoor
