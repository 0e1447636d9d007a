/- J09: Drn. -/
import Derived.Test.YtnddllipjippnaaGreatDoorJ01
namespace Go.Proofs.YtnddllipjippnaaGreatDoor
open Go.RowKit Kl
def AjS{α:Type} : Result α→World
 | .ok _ w=>w
 | .halt _ w=>w
theorem AbN{α:Type}(a:Ask α):∀(w:World),w.drawn<=(w.ask a).2.drawn:=by
 induction a with
 | done a=>intro w;exact Ao7 _
 | ask what range k ih=>
  intro w;unfold World.ask;simp only []
  split
  ·exact ih _ _
  ·exact AoH (Nat.le_succ w.drawn) (ih _ {w with drawn:=w.drawn+1})
theorem Alr(w:World)(c:Sys):w.drawn<=(w.sys c).2.drawn:=by
 have h:=AbN (Kernel.perform c w.os) w;unfold World.sys
 split
 ·exact Ao7 _
 ·rename_i r os w' _ he
  rw [he]at h;exact h
theorem AdC{ε α β:Type}{x:Except ε α}{f:α→Except ε β}{y:β}(h:(x >>= f)=.ok y):∃a,x=.ok a/\f a=.ok y:=by
 cases x with
 | error e=>cases h
 | ok a=>exact⟨a,rfl,h⟩
theorem AlH{p:Program}{w w':World}{a:Addr}{u:TypeId}{k:Addr}{v:Value}{at_:Bool}{l:List Addr}(h:w.viewStore p a u k v at_=.ok (w',l)):w'.drawn=w.drawn:=by
 unfold World.viewStore at h;simp only []at h
 repeat' first
  | (cases h;done)
  | (simp only [pure,Except.pure,Except.ok.injEq,Prod.mk.injEq]at h;obtain⟨rfl,_⟩:=h;rfl)
  | (obtain⟨_,_,h⟩:=AdC h)
  | split at h
theorem AdH{p:Program}{w w':World}{a:Addr}{v:Value}{at_:Bool}{l:List Addr}(h:w.farStore p a v at_=.ok (w',l)):w'.drawn=w.drawn:=by
 unfold World.farStore at h
 split at h
 ·split at h
  ·rename_i hv;simp only [Except.ok.injEq]at h;subst h;exact AlH hv
  ·cases h
 ·cases h
theorem rp (p : Program) {α : Type} (s : Sem α) : ∀ (w : World), w.drawn ≤ (AjS (s.run p w)).drawn := by
  induction s with
  | pure a => intro w; exact Ao7 _
  | load m a k ih => intro w; simp only [Sem.run]; (repeat' split) <;> first | exact ih _ _ | exact Ao7 _
  | store m a v k ih =>
    intro w
    cases v <;> simp only [Sem.run] <;> first
      | exact Ao7 _
      | (split
         · split
           · exact Ao7 _
           · exact ih (w.setCell a _)
         · split
           · rename_i hf; rw [← AdH hf]; exact ih _
           · exact Ao7 _)
  | new o k ih => intro w; simp only [Sem.run]; exact ih w.heap.size { w with heap := w.heap.push o }
  | shape r k ih => intro w; simp only [Sem.run]; exact ih _ _
  | freeze a n k ih =>
    intro w; simp only [Sem.run]
    refine AoH (Nat.le_of_eq ?_) (ih (w.freeze a n))
    unfold World.freeze; split <;> rfl
  | frozen a k ih => intro w; simp only [Sem.run]; exact ih _ _
  | getObj r k ih => intro w; simp only [Sem.run]; split <;> first | exact ih _ _ | exact Ao7 _
  | setObj r o k ih => intro w; simp only [Sem.run]; split <;> first | exact ih { w with heap := w.heap.setIfInBounds r o } | exact Ao7 _
  | choose q k ih => intro w; simp only [Sem.run]; split <;> first | exact ih _ _ | exact AoH (Nat.le_succ w.drawn) (ih _ { w with drawn := w.drawn + 1 })
  | sys c k ih => intro w; simp only [Sem.run]; exact AoH (Alr w c) (ih _ _)
  | program k ih => intro w; simp only [Sem.run]; exact ih _ _
  | mark m k ih => intro w; simp only [Sem.run]; exact ih _
  | halt h => intro w; exact Ao7 _
theorem Hl{p:Program}{α:Type}{s:Sem α}{w w':World}{a:α}(h:s.run p w=.ok a w'):w.drawn<=w'.drawn:=by
 have:=rp p s w;rw [h]at this;exact this
theorem Yq{p:Program}{α:Type}{s:Sem α}{w w':World}{a:Halt}(h:s.run p w=.halt a w'):w.drawn<=w'.drawn:=by
 have:=rp p s w;rw [h]at this;exact this
theorem U8{p:Program}{α:Type}{s:Sem α}{w w':World}{a:α}{es es':Array Event}(h:s.runT p w es=(.ok a w',es')):w.drawn<=w'.drawn:=by
 have e:=Sem.runT_fst p s w es;rw [h]at e;exact Hl e.symm
theorem lE{p:Program}{α:Type}{s:Sem α}{w w':World}{a:Halt}{es es':Array Event}(h:s.runT p w es=(.halt a w',es')):w.drawn<=w'.drawn:=by
 have e:=Sem.runT_fst p s w es;rw [h]at e;exact Yq e.symm
theorem Yp{p:Program}{α:Type}{s:Sem α}{w w':World}{a:α}{es:Array Event}(h:(s.runT p w es).1=.ok a w'):w.drawn<=w'.drawn:=Hl ((Sem.runT_fst p s w es).symm.trans h)
theorem rk{p:Program}{α:Type}{s:Sem α}{w w':World}{a:Halt}{es:Array Event}(h:(s.runT p w es).1=.halt a w'):w.drawn<=w'.drawn:=Yq ((Sem.runT_fst p s w es).symm.trans h)
def CX(w:World):GStep→Prop
 | .go _ w' _=>w.drawn<=w'.drawn
 | .comm _ _ _ _ w' _=>w.drawn<=w'.drawn
 | .spawn _ _ w' _=>w.drawn<=w'.drawn
 | .count _ w' _=>w.drawn<=w'.drawn
 | .timer _ _ w' _=>w.drawn<=w'.drawn
 | .alone _ _ w' _=>w.drawn<=w'.drawn
 | .newcoro _ _ _ w' _=>w.drawn<=w'.drawn
 | .coroswitch _ _ _ w' _=>w.drawn<=w'.drawn
 | .collect _ w' _=>w.drawn<=w'.drawn
 | .watch _ w' _=>w.drawn<=w'.drawn
 | .ended _ _ _=>True
theorem Ky{w:World}{es:Array Event}{g:GStep}(h:CX w g):CX w (GStep.after es g):=by cases g<;>exact h
theorem G5{w w':World}{g:GStep}(h:w.drawn<=w'.drawn)(k:CX w' g):CX w g:=by
 cases g<;>first|exact AoH h k|trivial
theorem Aiz(fr:Frame)(l:List ByteArray)(m:String)(b:Bool)(w:World):CX w (dieOf fr l m b w):=Ao7 _
theorem XZ(fr:Frame)(m:String)(w:World):CX w (endThrow fr m w):=Ao7 _
theorem Ai0(w:World)(fd:Nat)(t:ByteArray)(o:Outcome):CX w (endWith w fd t o):=by
 unfold endWith;simp only []
 repeat' first
  | trivial
  | split
theorem kA(p:Program)(fr:Frame)(v:Value)(w:World):CX w (endPrinting p fr v w):=by
 unfold endPrinting;simp only []
 repeat' first
  | trivial
  | exact XZ _ _ _
  | split
theorem nh(p:Program)(fr:Frame)(cs:List Frame)(d:Option Dying)(m:String)(w:World):CX w (endFatal p fr cs d m w):=by
 unfold endFatal;simp only []
 repeat' first
  | trivial
  | (rename_i h;exact G5 (Hl h) (Aiz _ _ _ _ _))
  | split
theorem Ai6(p:Program)(fr:Frame)(d:Dying)(f:Fatal)(w:World):CX w (writeOn p fr d f w):=by
 unfold writeOn;simp only []
 repeat' first
  | trivial
  | (rename_i h;exact U8 h)
  | (rename_i h;exact lE h)
  | split
theorem Aiy(p:Program)(fr:Frame)(d:Dying)(w:World):CX w (die p fr d w):=by
 unfold die;simp only []
 repeat' first
  | trivial
  | exact Ai6 _ _ _ _ _
  | exact Ai0 _ _ _ _
  | exact Ao7 _
  | (rename_i h;exact Hl h)
  | (rename_i h;exact U8 h)
  | (rename_i h;exact G5 (lE h) (kA _ _ _ _))
  | (rename_i h;exact Ky (Yp h))
  | (rename_i h;exact Ky (G5 (rk h) (kA _ _ _ _)))
  | split
theorem Ai2{w:World}{c:Prop}[Decidable c]{a b:GStep}(ha:CX w a)(hb:CX w b):CX w (if c then a else b):=by split<;>assumption
theorem kB(p:Program)(b:Bool)(fr:Frame)(cs:List Frame)(d:Option Dying)(v:Value)(w:World):CX w (doReturn p b fr cs d v w):=by
 unfold doReturn;simp only []
 repeat' first
  | trivial
  | exact Ao7 _
  | split
theorem Aix(p:Program)(fr:Frame)(cs:List Frame)(dy:Option Dying)(d:Deferred)(w:World):CX w (callDeferred p fr cs dy d w):=by
 unfold callDeferred;refine Ai2 trivial ?_
 ·generalize hx:(invoke d.target d.args).runT p w #[]=x;obtain⟨r,es⟩:=x;simp only [];refine Ky ?_
  cases r with
  | ok a w'=>
   have hd:=U8 hx
   cases a<;>(try simp only [])<;>repeat' first
    | trivial
    | exact hd
    | (injections;done)
    | (injections;subst_vars;exact hd)
    | split
  | halt h w'=>
   have hd:=lE hx
   cases h<;>(try simp only [])<;>repeat' first
    | trivial
    | exact hd
    | (injections;done)
    | (injections;subst_vars;exact hd)
    | exact G5 hd (nh _ _ _ _ _ _)
    | exact G5 hd (XZ _ _ _)
    | split
theorem jZ(p:Program)(fr:Frame)(cs:List Frame)(d:Option Dying)(g:Nat)(w:World):CX w (early p fr cs d g w):=by
 unfold early;simp only []
 repeat' first
  | trivial
  | exact Ao7 _
  | (refine G5 (Hl (by assumption)) ?_)
  | split
theorem Ai5 (p : Program) (b : Bool) (fr : Frame) (cs : List Frame) (d : Option Dying) (w : World) : CX w (unwind p b fr cs d w) := by
  unfold unwind
  split
  · generalize hx : (Instr.takeDeferred _).runT p w #[] = x
    obtain ⟨r, es⟩ := x
    simp only []
    refine Ky ?_
    cases r with
    | ok a w' => exact U8 hx
    | halt h w' => trivial
  · exact Aix _ _ _ _ _ _
  · repeat' first
      | trivial
      | exact Ao7 _
      | (rename_i h; exact Hl h)
      | exact kA _ _ _ _
      | exact kB _ _ _ _ _ _ _
      | (generalize hx : (results _ _).runT p w #[] = x
         obtain ⟨r, es⟩ := x
         simp only []
         refine Ky ?_
         cases r with
         | ok a w' => exact G5 (U8 hx) (kB _ _ _ _ _ _ _)
         | halt h w' => cases h <;> trivial)
      | split
theorem XY(p:Program)(b:Bool)(fr:Frame)(cs:List Frame)(d:Option Dying)(s:Sem Next)(w:World):CX w (stepG.apply p b fr cs d s w):=by
 unfold stepG.apply
 have hr:(if b=true then s.runT p w #[] else (s.run p w,#[])).1=s.run p w:=by
  split
  ·exact Sem.runT_fst p s w #[]
  ·rfl
 generalize hx:(if b=true then s.runT p w #[] else (s.run p w,#[]))=x at hr;obtain⟨r,es⟩:=x;simp only []at hr;simp only [];refine Ky ?_
 cases r with
 | ok a w'=>
  have hd:=Hl hr.symm
  cases a<;>(try simp only [])<;>repeat' first
   | trivial
   | exact hd
   | (injections;done)
   | (injections;subst_vars;exact hd)
   | (injections;subst_vars;exact G5 hd (jZ _ _ _ _ _ _))
   | exact G5 hd (XZ _ _ _)
   | split
 | halt h w'=>
  have hd:=Yq hr.symm
  cases h<;>(try simp only [])<;>repeat' first
   | trivial
   | exact hd
   | (injections;done)
   | (injections;subst_vars;exact hd)
   | (injections;subst_vars;exact G5 hd (jZ _ _ _ _ _ _))
   | exact G5 hd (nh _ _ _ _ _ _)
   | exact G5 hd (XZ _ _ _)
   | exact G5 hd (jZ _ _ _ _ _ _)
   | split
theorem Ai3(p:Program)(b:Bool)(fr:Frame)(cs:List Frame)(d:Option Dying)(w:World):CX w (stepG.oper p b fr cs d w):=by
 unfold stepG.oper
 split
 ·trivial
 ·split<;>exact XY _ _ _ _ _ _ _
theorem ng{α:Type}{w:World}(o:Option α)(a:GStep)(f:α→GStep)(ha:CX w a)(h:∀x,CX w (f x)):CX w (o.elim a f):=by
 cases o
 ·exact ha
 ·exact h _
theorem Ai1(p:Program)(m b:Bool)(fr:Frame)(cs:List Frame)(d:Option Dying)(w:World):CX w (stepG.exec p m b fr cs d w):=by
 unfold stepG.exec;simp only []
 split
 all_goals repeat' first
  | trivial
  | exact Ao7 _
  | exact Ai3 _ _ _ _ _ _
  | exact XY _ _ _ _ _ _ _
  | (rename_i h;exact Hl h)
  | refine ng _ _ _ ?_ (fun _=>Ao7 _)
  | exact ng _ _ _ trivial (fun _=>XY _ _ _ _ _ _ _)
  | (rename_i h;exact Ky (G5 (Yp h) (kB _ _ _ _ _ _ _)))
  | (rename_i h;exact Ky (G5 (Yp h) (XY _ _ _ _ _ _ _)))
  | (rename_i h;exact Ky (Yp h))
  | (rename_i h;exact Ky (rk h))
  | split
theorem Ai4(p:Program)(m:Bool)(g:Goroutine)(w:World)(b:Bool):CX w (stepG p m g w b):=by
 obtain⟨fr,callers,status,dying,offers⟩:=g;simp only [stepG]
 split
 ·exact Aiy _ _ _ _
 ·exact Ai1 _ _ _ _ _ _ _
 ·exact Ai5 _ _ _ _ _ _
/-! ### The machine -/
def NC(w:World):Stepped→Prop
 | .next m=>w.drawn<=m.world.drawn
 | .ended _ _=>True
theorem OX{w w':World}{g:Stepped}(h:w.drawn<=w'.drawn)(k:NC w' g):NC w g:=by
 cases g<;>first|exact AoH h k|trivial
def Uw(w:World):Move→Prop
 | .goroutine m _=>w.drawn<=m.world.drawn
 | .machine s _=>NC w s
theorem Ux{w w':World}{g:Move}(h:w.drawn<=w'.drawn)(k:Uw w' g):Uw w g:=by
 cases g
 ·exact AoH h k
 ·exact OX h k
theorem AlL{rest:Rest}{cases:Array CommCase}{w w':World}(h:waitingAt rest cases w=some w'):w'.drawn=w.drawn:=by
 unfold waitingAt at h
 repeat' first
  | (cases h;done)
  | (simp only [AoB]at h;subst h;rfl)
  | split at h
theorem Ai9(p:Program)(rest:Rest)(gs:Array Goroutine)(i:Nat)(g:Goroutine)(cases:Array CommCase)(b:Bool)(shape:CommShape)(w:World):NC w (communicate p rest gs i g cases b shape w).1:=by
 unfold communicate;simp only []
 repeat' first
  | trivial
  | exact Ao7 _
  | (refine OX (Hl (by assumption)) ?_)
  | (refine OX (Yq (by assumption)) ?_)
  | (rename_i h;exact Nat.le_of_eq (AlL h).symm)
  | split
theorem nk(p:Program)(gs:Array Goroutine)(rest:Rest)(w:World):NC w (look p gs rest w):=by
 unfold look;simp only []
 repeat' first
  | trivial
  | exact Ao7 _
  | (refine OX (Hl (by assumption)) ?_)
  | split
theorem AiB(p:Program)(m:Machine)(k:Nat):NC m.world (serve p m k):=by
 unfold serve;simp only []
 repeat' first
  | trivial
  | exact Ao7 _
  | split
theorem Alt{m m':Machine}{op:TimerOp}{v:Value}(h:timerOp m op=.ok (v,m')):m'.world.drawn=m.world.drawn:=by
 have hd:∀(w:World) (c:Nat),(drain w c).2.drawn=w.drawn:=by intro w c;unfold drain;split<;>rfl
 have hr:∀(m:Machine) (k:Nat) (t:Timer) (a b:Nat),(retime m k t a b).2.world.drawn=m.world.drawn:=by
  intro m k t a b;unfold retime
  cases t.chan with
  | none=>rfl
  | some c=>exact hd _ _
 have hn:∀(m m0:Machine) (var:Addr) (f:Nat→Timer→Value×Machine),(∀k t,(f k t).2.world.drawn=m0.world.drawn)→∀{v m'},timerOp.named m var f=.ok (v,m')→m'.world.drawn=m0.world.drawn:=by
  intro m m0 var f hf v m' h;unfold timerOp.named at h
  split at h
  ·simp only [Except.ok.injEq]at h;have:=hf (by assumption) (m.rest.timers.getD (by assumption) default);rw [h]at this;exact this
  ·cases h
 have ho:∀{m m':Machine} {var:Addr},timerOp.opened m var=some m'→m'.world.drawn=m.world.drawn:=by
  intro m m' var h;unfold timerOp.opened at h
  repeat' first
   | (cases h;done)
   | (simp only [AoB]at h;subst h;rfl)
   | split at h
 unfold timerOp at h;simp only []at h
 repeat' first
  | (cases h;done)
  | (simp only [Except.ok.injEq,Prod.mk.injEq]at h;obtain⟨_,rfl⟩:=h;rfl)
  | exact hn _ _ _ _ (fun k t=>hr _ _ _ _ _) h
  | (rename_i h1;exact(hn _ _ _ _ (fun k t=>hr _ _ _ _ _) h).trans (ho h1))
  | split at h
theorem AiA(p:Program)(m:Machine)(i:Nat)(b:Bool):NC m.world (runT p m i b).1:=by
 simp only [runT];generalize m.gs.swapAt! _ _=gg;have hs:=Ai4 p (i == 0) gg.1 m.world b
 revert hs
 generalize stepG p _ gg.1 m.world b=s;intro hs
 cases s<;>simp only [CX]at hs<;>(try simp only [])
 all_goals repeat' first
  | trivial
  | exact hs
  | exact OX hs (Ai9 _ _ _ _ _ _ _ _ _)
  | exact OX hs (nk _ _ _ _)
  | (rename_i h;exact AoH hs (Nat.le_of_eq (Alt h).symm))
  | split
theorem Abq{p:Program}{α:Type}{s:Sem α}{W w':World}{gs:Array Goroutine}{rest:Rest}{t:Nat}{a:α}(h:s.run p (Machine.advanceTo ⟨W,gs,rest⟩ t).world=.ok a w'):W.drawn<=w'.drawn:=by have:=Hl h;exact this
theorem kC(p:Program)(m:Machine):Uw m.world (askOn p m):=by
 unfold askOn;simp only []
 repeat' first
  | trivial
  | exact Ao7 _
  | exact AiB _ _ _
  | (refine Ux (Hl (by assumption)) ?_)
  | (refine Ux (Abq (by assumption)) ?_)
  | split
theorem nj(p:Program)(m:Machine):Uw m.world (ask p m):=by
 unfold ask
 split
 ·split
  ·trivial
  ·refine Ux (Hl (by assumption)) ?_;have:=nk p m.gs m.rest (by assumption)
   split
   ·rename_i h;rw [h]at this;exact Ux this (kC _ _)
   ·rename_i e _;cases e<;>first|exact absurd rfl (by assumption)|trivial
  ·exact Ux (Hl (by assumption)) (kC _ _)
 ·exact kC _ _
theorem Ai7(p:Program)(m:Machine):Uw m.world (move p m):=by
 unfold move
 repeat' first
  | trivial
  | exact Ao7 _
  | exact nj p _
  | exact nj p {m with rest:={m.rest with slice:=none}}
  | split
theorem AiC(p:Program)(m:Machine):NC m.world (step p m):=by
 have hm:=Ai7 p m;unfold step stepT
 cases h:move p m with
 | goroutine m1 i=>rw [h]at hm;exact OX hm (AiA p m1 i true)
 | machine s ops=>rw [h]at hm;exact hm
theorem rj(p:Program):∀(n:Nat) (m m':Machine),runN p n m=.next m'→m.world.drawn<=m'.world.drawn
 | 0,m,m',h=>by simp only [runN,Stepped.next.injEq]at h;rw [h];exact Ao7 _
 | n+1,m,m',h=>by
  have hs:=AiC p m;unfold runN at h
  cases h1:step p m with
  | next m1=>rw [h1]at h hs;exact AoH hs (rj p n m1 m' h)
  | ended o w=>rw [h1]at h;cases h
theorem Steps.drawn{P:Program}{m m':Machine}(h:Steps P m m'):m.world.drawn<=m'.world.drawn:=by
 obtain⟨n,hn⟩:=h;exact rj P n m m' hn
theorem Calls.drawn{P:Program}{f:FuncId}{args:Array Value}{w:World}{R:Ending→World→Prop}(h:Calls P f args w R)(hr:∀e w',R e w'→∃v,e=.returned v):Calls P f args w fun e w'=>R e w'/\w.drawn<=w'.drawn:=by
 intro cs;obtain⟨e,w',fr,h1,h2,h3⟩:=h cs;obtain⟨v,rfl⟩:=hr e w' h1;exact⟨_,w',fr,⟨h1,Steps.drawn h2⟩,h2,h3⟩
theorem Ab.grow{w w':World}(h:Ab w w')(hd:w.drawn<=w'.drawn):∃q os,w'=Go.Sort.grow (w.drewN q) os:=by
 refine⟨w'.drawn-w.drawn,w'.heap.extract w.heap.size w'.heap.size,?_⟩
 have hh:w.heap++w'.heap.extract w.heap.size w'.heap.size=w'.heap:=by
  apply Array.ext_getElem?;intro i;rw [Array.getElem?_append]
  split
  ·rename_i hi;exact(h.block i hi).symm
  ·rename_i hi
   rw [Array.getElem?_extract]
   split
   ·congr 1;omega
   ·rw [Array.getElem?_eq_none (by omega)]
 have h1:=h.os;have h2:=h.tape;have h3:=h.output;unfold Go.Sort.grow World.drewN;simp only;rw [hh,Nat.add_sub_of_le hd,←h1,←h2,←h3]
end Go.Proofs.YtnddllipjippnaaGreatDoor
