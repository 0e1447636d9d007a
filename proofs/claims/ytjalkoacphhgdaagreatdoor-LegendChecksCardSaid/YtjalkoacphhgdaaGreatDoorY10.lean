/- Y10: LC Drn. -/
import Derived.Test.YtjalkoacphhgdaaGreatDoorY06
namespace Kl
open Classical
noncomputable def rv(l:Bs):Rat:=if h:∃q,l=R q then Classical.choose h else 0
theorem gX(q:Rat):rv (R q)=q:=by
 unfold rv;have h:∃p,R q=R p:=⟨q,rfl⟩;rw [dif_pos h];exact(Nn (Classical.choose_spec h)).symm
theorem gY{l:Bs}(h:BJ l):l=R (rv l)/\(D (rv l).num.natAbs).length<=200/\(D (rv l).den).length<=200:=by
 obtain⟨q,rfl,h1,h2⟩:=h;rw [gX];exact⟨rfl,h1,h2⟩
noncomputable def colS(b:List La)(x:La):Int:=
 if ¬BJ x.mn then 2 else if x.mx≠[]/\¬BJ x.mx then 2 else if nameB x.u=false then 8 else if 0<=BD b x.u then 9 else if rv x.mn<0 then 3
 else if x.mx≠[]/\rv x.mx<rv x.mn then 6 else 0
noncomputable def Kr(b:List La):List La→Int
 | []=>0
 | x::r=>if colS b x=0 then Kr (b ++ [x]) r else colS b x
noncomputable def LV(l:List La):Int:=if l.length=0 then 13 else if 60<l.length then 4 else Kr [] l
theorem AaE{b:List La}{l:List La}{k:Nat}(h:k<l.length)(hb:b=l.take k):Kr b (l.drop k)=if colS b l[k]=0 then Kr (l.take (k+1)) (l.drop (k+1))else colS b l[k]:=by
 rw [List.drop_eq_getElem_cons h,hb,List.take_succ_eq_append_getElem h]
 rfl
theorem Y7{b:List La}{u:Bs}{p:Rat}{m:Option Rat}(h1:BJ (R p))(h2:∀q,m=some q→BJ (R q)/\R q≠[]/\p<=q)(h3:nameB u=true)(h4:∀y∈b,y.u≠u)(h5:0<=p) :
  colS b ⟨u,R p,m.elim [] R⟩=0:=by
 have hp:BD b u = -1:=VO fun y hy=>(by simpa using h4 y hy);unfold colS;simp only [hp,h3,gX];rw [if_neg (by simpa using h1)]
 cases m with
 | none=>
  rw [if_neg (by simp),if_neg (by simp),if_neg (by omega),if_neg (by exact Rat.not_lt.2 h5),if_neg (by simp)]
 | some q=>obtain⟨a1,a2,a3⟩:=h2 q rfl;simp only [Option.elim_some,gX];rw [if_neg (by simp [a1]),if_neg (by simp),if_neg (by omega),if_neg (by exact Rat.not_lt.2 h5),if_neg (by rintro⟨_,h⟩;exact absurd a3 (Rat.not_le.2 h))]
end Kl
namespace Go.Proofs.YtjalkoacphhgdaaGreatDoor
open Go.RowKit Kl
def Ais{α:Type} : Result α→World
 | .ok _ w=>w
 | .halt _ w=>w
theorem yr{α:Type}(a:Ask α):∀(w:World),w.drawn<=(w.ask a).2.drawn:=by
 induction a with
 | done a=>intro w;exact AmC _
 | ask what range k ih=>
  intro w;unfold World.ask;simp only []
  split
  ·exact ih _ _
  ·exact AmM (Nat.le_succ w.drawn) (ih _ {w with drawn:=w.drawn+1})
theorem AjB(w:World)(c:Sys):w.drawn<=(w.sys c).2.drawn:=by
 have h:=yr (Kernel.perform c w.os) w;unfold World.sys
 split
 ·exact AmC _
 ·rename_i r os w' _ he
  rw [he]at h;exact h
theorem AbL{ε α β:Type}{x:Except ε α}{f:α→Except ε β}{y:β}(h:(x >>= f)=.ok y):∃a,x=.ok a/\f a=.ok y:=by
 cases x with
 | error e=>cases h
 | ok a=>exact⟨a,rfl,h⟩
theorem Akh{p:Program}{w w':World}{a:Addr}{u:TypeId}{k:Addr}{v:Value}{at_:Bool}{l:List Addr}(h:w.viewStore p a u k v at_=.ok (w',l)):w'.drawn=w.drawn:=by
 unfold World.viewStore at h;simp only []at h
 repeat' first
  | (cases h;done)
  | (simp only [pure,Except.pure,Except.ok.injEq,Prod.mk.injEq]at h;obtain⟨rfl,_⟩:=h;rfl)
  | (obtain⟨_,_,h⟩:=AbL h)
  | split at h
theorem AbP{p:Program}{w w':World}{a:Addr}{v:Value}{at_:Bool}{l:List Addr}(h:w.farStore p a v at_=.ok (w',l)):w'.drawn=w.drawn:=by
 unfold World.farStore at h
 split at h
 ·split at h
  ·rename_i hv;simp only [Except.ok.injEq]at h;subst h;exact Akh hv
  ·cases h
 ·cases h
theorem jo (p : Program) {α : Type} (s : Sem α) : ∀ (w : World), w.drawn ≤ (Ais (s.run p w)).drawn := by
  induction s with
  | pure a => intro w; exact AmC _
  | load m a k ih => intro w; simp only [Sem.run]; (repeat' split) <;> first | exact ih _ _ | exact AmC _
  | store m a v k ih =>
    intro w
    cases v <;> simp only [Sem.run] <;> first
      | exact AmC _
      | (split
         · split
           · exact AmC _
           · exact ih (w.setCell a _)
         · split
           · rename_i hf; rw [← AbP hf]; exact ih _
           · exact AmC _)
  | new o k ih => intro w; simp only [Sem.run]; exact ih w.heap.size { w with heap := w.heap.push o }
  | shape r k ih => intro w; simp only [Sem.run]; exact ih _ _
  | freeze a n k ih =>
    intro w; simp only [Sem.run]
    refine AmM (Nat.le_of_eq ?_) (ih (w.freeze a n))
    unfold World.freeze; split <;> rfl
  | frozen a k ih => intro w; simp only [Sem.run]; exact ih _ _
  | getObj r k ih => intro w; simp only [Sem.run]; split <;> first | exact ih _ _ | exact AmC _
  | setObj r o k ih => intro w; simp only [Sem.run]; split <;> first | exact ih { w with heap := w.heap.setIfInBounds r o } | exact AmC _
  | choose q k ih => intro w; simp only [Sem.run]; split <;> first | exact ih _ _ | exact AmM (Nat.le_succ w.drawn) (ih _ { w with drawn := w.drawn + 1 })
  | sys c k ih => intro w; simp only [Sem.run]; exact AmM (AjB w c) (ih _ _)
  | program k ih => intro w; simp only [Sem.run]; exact ih _ _
  | mark m k ih => intro w; simp only [Sem.run]; exact ih _
  | halt h => intro w; exact AmC _
theorem G0{p:Program}{α:Type}{s:Sem α}{w w':World}{a:α}(h:s.run p w=.ok a w'):w.drawn<=w'.drawn:=by
 have:=jo p s w;rw [h]at this;exact this
theorem WH{p:Program}{α:Type}{s:Sem α}{w w':World}{a:Halt}(h:s.run p w=.halt a w'):w.drawn<=w'.drawn:=by
 have:=jo p s w;rw [h]at this;exact this
theorem Tn{p:Program}{α:Type}{s:Sem α}{w w':World}{a:α}{es es':Array Event}(h:s.runT p w es=(.ok a w',es')):w.drawn<=w'.drawn:=by
 have e:=Sem.runT_fst p s w es;rw [h]at e;exact G0 e.symm
theorem gQ{p:Program}{α:Type}{s:Sem α}{w w':World}{a:Halt}{es es':Array Event}(h:s.runT p w es=(.halt a w',es')):w.drawn<=w'.drawn:=by
 have e:=Sem.runT_fst p s w es;rw [h]at e;exact WH e.symm
theorem WG{p:Program}{α:Type}{s:Sem α}{w w':World}{a:α}{es:Array Event}(h:(s.runT p w es).1=.ok a w'):w.drawn<=w'.drawn:=G0 ((Sem.runT_fst p s w es).symm.trans h)
theorem jn{p:Program}{α:Type}{s:Sem α}{w w':World}{a:Halt}{es:Array Event}(h:(s.runT p w es).1=.halt a w'):w.drawn<=w'.drawn:=WH ((Sem.runT_fst p s w es).symm.trans h)
def Cz(w:World):GStep→Prop
 | .go _ w' _=>w.drawn<=w'.drawn
 | .comm _ _ _ _ w' _=>w.drawn<=w'.drawn
 | .spawn _ _ w' _=>w.drawn<=w'.drawn
 | .count _ w' _=>w.drawn<=w'.drawn
 | .timer _ _ w' _=>w.drawn<=w'.drawn
 | .alone _ _ w' _=>w.drawn<=w'.drawn
 | .newcoro _ _ _ w' _=>w.drawn<=w'.drawn
 | .coroswitch _ _ _ w' _=>w.drawn<=w'.drawn
 | .collect _ w' _=>w.drawn<=w'.drawn
 | .watch _ w' _=>w.drawn<=w'.drawn
 | .ended _ _ _=>True
theorem JL{w:World}{es:Array Event}{g:GStep}(h:Cz w g):Cz w (GStep.after es g):=by cases g<;>exact h
theorem FV{w w':World}{g:GStep}(h:w.drawn<=w'.drawn)(k:Cz w' g):Cz w g:=by
 cases g<;>first|exact AmM h k|trivial
theorem AgH(fr:Frame)(l:List ByteArray)(m:String)(b:Bool)(w:World):Cz w (dieOf fr l m b w):=AmC _
theorem Wq(fr:Frame)(m:String)(w:World):Cz w (endThrow fr m w):=AmC _
theorem AgI(w:World)(fd:Nat)(t:ByteArray)(o:Outcome):Cz w (endWith w fd t o):=by
 unfold endWith;simp only []
 repeat' first
  | trivial
  | split
theorem eW(p:Program)(fr:Frame)(v:Value)(w:World):Cz w (endPrinting p fr v w):=by
 unfold endPrinting;simp only []
 repeat' first
  | trivial
  | exact Wq _ _ _
  | split
theorem ek(p:Program)(fr:Frame)(cs:List Frame)(d:Option Dying)(m:String)(w:World):Cz w (endFatal p fr cs d m w):=by
 unfold endFatal;simp only []
 repeat' first
  | trivial
  | (rename_i h;exact FV (G0 h) (AgH _ _ _ _ _))
  | split
theorem AgO(p:Program)(fr:Frame)(d:Dying)(f:Fatal)(w:World):Cz w (writeOn p fr d f w):=by
 unfold writeOn;simp only []
 repeat' first
  | trivial
  | (rename_i h;exact Tn h)
  | (rename_i h;exact gQ h)
  | split
theorem AgG(p:Program)(fr:Frame)(d:Dying)(w:World):Cz w (die p fr d w):=by
 unfold die;simp only []
 repeat' first
  | trivial
  | exact AgO _ _ _ _ _
  | exact AgI _ _ _ _
  | exact AmC _
  | (rename_i h;exact G0 h)
  | (rename_i h;exact Tn h)
  | (rename_i h;exact FV (gQ h) (eW _ _ _ _))
  | (rename_i h;exact JL (WG h))
  | (rename_i h;exact JL (FV (jn h) (eW _ _ _ _)))
  | split
theorem AgK{w:World}{c:Prop}[Decidable c]{a b:GStep}(ha:Cz w a)(hb:Cz w b):Cz w (if c then a else b):=by split<;>assumption
theorem eX(p:Program)(b:Bool)(fr:Frame)(cs:List Frame)(d:Option Dying)(v:Value)(w:World):Cz w (doReturn p b fr cs d v w):=by
 unfold doReturn;simp only []
 repeat' first
  | trivial
  | exact AmC _
  | split
theorem AgF(p:Program)(fr:Frame)(cs:List Frame)(dy:Option Dying)(d:Deferred)(w:World):Cz w (callDeferred p fr cs dy d w):=by
 unfold callDeferred;refine AgK trivial ?_
 ·generalize hx:(invoke d.target d.args).runT p w #[]=x;obtain⟨r,es⟩:=x;simp only [];refine JL ?_
  cases r with
  | ok a w'=>
   have hd:=Tn hx
   cases a<;>(try simp only [])<;>repeat' first
    | trivial
    | exact hd
    | (injections;done)
    | (injections;subst_vars;exact hd)
    | split
  | halt h w'=>
   have hd:=gQ hx
   cases h<;>(try simp only [])<;>repeat' first
    | trivial
    | exact hd
    | (injections;done)
    | (injections;subst_vars;exact hd)
    | exact FV hd (ek _ _ _ _ _ _)
    | exact FV hd (Wq _ _ _)
    | split
theorem eV(p:Program)(fr:Frame)(cs:List Frame)(d:Option Dying)(g:Nat)(w:World):Cz w (early p fr cs d g w):=by
 unfold early;simp only []
 repeat' first
  | trivial
  | exact AmC _
  | (refine FV (G0 (by assumption)) ?_)
  | split
theorem AgN (p : Program) (b : Bool) (fr : Frame) (cs : List Frame) (d : Option Dying) (w : World) : Cz w (unwind p b fr cs d w) := by
  unfold unwind
  split
  · generalize hx : (Instr.takeDeferred _).runT p w #[] = x
    obtain ⟨r, es⟩ := x
    simp only []
    refine JL ?_
    cases r with
    | ok a w' => exact Tn hx
    | halt h w' => trivial
  · exact AgF _ _ _ _ _ _
  · repeat' first
      | trivial
      | exact AmC _
      | (rename_i h; exact G0 h)
      | exact eW _ _ _ _
      | exact eX _ _ _ _ _ _ _
      | (generalize hx : (results _ _).runT p w #[] = x
         obtain ⟨r, es⟩ := x
         simp only []
         refine JL ?_
         cases r with
         | ok a w' => exact FV (Tn hx) (eX _ _ _ _ _ _ _)
         | halt h w' => cases h <;> trivial)
      | split
theorem Wo(p:Program)(b:Bool)(fr:Frame)(cs:List Frame)(d:Option Dying)(s:Sem Next)(w:World):Cz w (stepG.apply p b fr cs d s w):=by
 unfold stepG.apply
 have hr:(if b=true then s.runT p w #[] else (s.run p w,#[])).1=s.run p w:=by
  split
  ·exact Sem.runT_fst p s w #[]
  ·rfl
 generalize hx:(if b=true then s.runT p w #[] else (s.run p w,#[]))=x at hr;obtain⟨r,es⟩:=x;simp only []at hr;simp only [];refine JL ?_
 cases r with
 | ok a w'=>
  have hd:=G0 hr.symm
  cases a<;>(try simp only [])<;>repeat' first
   | trivial
   | exact hd
   | (injections;done)
   | (injections;subst_vars;exact hd)
   | (injections;subst_vars;exact FV hd (eV _ _ _ _ _ _))
   | exact FV hd (Wq _ _ _)
   | split
 | halt h w'=>
  have hd:=WH hr.symm
  cases h<;>(try simp only [])<;>repeat' first
   | trivial
   | exact hd
   | (injections;done)
   | (injections;subst_vars;exact hd)
   | (injections;subst_vars;exact FV hd (eV _ _ _ _ _ _))
   | exact FV hd (ek _ _ _ _ _ _)
   | exact FV hd (Wq _ _ _)
   | exact FV hd (eV _ _ _ _ _ _)
   | split
theorem AgL(p:Program)(b:Bool)(fr:Frame)(cs:List Frame)(d:Option Dying)(w:World):Cz w (stepG.oper p b fr cs d w):=by
 unfold stepG.oper
 split
 ·trivial
 ·split<;>exact Wo _ _ _ _ _ _ _
theorem ej{α:Type}{w:World}(o:Option α)(a:GStep)(f:α→GStep)(ha:Cz w a)(h:∀x,Cz w (f x)):Cz w (o.elim a f):=by
 cases o
 ·exact ha
 ·exact h _
theorem AgJ(p:Program)(m b:Bool)(fr:Frame)(cs:List Frame)(d:Option Dying)(w:World):Cz w (stepG.exec p m b fr cs d w):=by
 unfold stepG.exec;simp only []
 split
 all_goals repeat' first
  | trivial
  | exact AmC _
  | exact AgL _ _ _ _ _ _
  | exact Wo _ _ _ _ _ _ _
  | (rename_i h;exact G0 h)
  | refine ej _ _ _ ?_ (fun _=>AmC _)
  | exact ej _ _ _ trivial (fun _=>Wo _ _ _ _ _ _ _)
  | (rename_i h;exact JL (FV (WG h) (eX _ _ _ _ _ _ _)))
  | (rename_i h;exact JL (FV (WG h) (Wo _ _ _ _ _ _ _)))
  | (rename_i h;exact JL (WG h))
  | (rename_i h;exact JL (jn h))
  | split
theorem AgM(p:Program)(m:Bool)(g:Goroutine)(w:World)(b:Bool):Cz w (stepG p m g w b):=by
 obtain⟨fr,callers,status,dying,offers⟩:=g;simp only [stepG]
 split
 ·exact AgG _ _ _ _
 ·exact AgJ _ _ _ _ _ _ _
 ·exact AgN _ _ _ _ _ _
/-! ### The machine -/
def ML(w:World):Stepped→Prop
 | .next m=>w.drawn<=m.world.drawn
 | .ended _ _=>True
theorem Od{w w':World}{g:Stepped}(h:w.drawn<=w'.drawn)(k:ML w' g):ML w g:=by
 cases g<;>first|exact AmM h k|trivial
def Ta(w:World):Move→Prop
 | .goroutine m _=>w.drawn<=m.world.drawn
 | .machine s _=>ML w s
theorem Tb{w w':World}{g:Move}(h:w.drawn<=w'.drawn)(k:Ta w' g):Ta w g:=by
 cases g
 ·exact AmM h k
 ·exact Od h k
theorem Aki{rest:Rest}{cases:Array CommCase}{w w':World}(h:waitingAt rest cases w=some w'):w'.drawn=w.drawn:=by
 unfold waitingAt at h
 repeat' first
  | (cases h;done)
  | (simp only [AmG]at h;subst h;rfl)
  | split at h
theorem AgR(p:Program)(rest:Rest)(gs:Array Goroutine)(i:Nat)(g:Goroutine)(cases:Array CommCase)(b:Bool)(shape:CommShape)(w:World):ML w (communicate p rest gs i g cases b shape w).1:=by
 unfold communicate;simp only []
 repeat' first
  | trivial
  | exact AmC _
  | (refine Od (G0 (by assumption)) ?_)
  | (refine Od (WH (by assumption)) ?_)
  | (rename_i h;exact Nat.le_of_eq (Aki h).symm)
  | split
theorem er(p:Program)(gs:Array Goroutine)(rest:Rest)(w:World):ML w (look p gs rest w):=by
 unfold look;simp only []
 repeat' first
  | trivial
  | exact AmC _
  | (refine Od (G0 (by assumption)) ?_)
  | split
theorem AgU(p:Program)(m:Machine)(k:Nat):ML m.world (serve p m k):=by
 unfold serve;simp only []
 repeat' first
  | trivial
  | exact AmC _
  | split
theorem AjK{m m':Machine}{op:TimerOp}{v:Value}(h:timerOp m op=.ok (v,m')):m'.world.drawn=m.world.drawn:=by
 have hd:∀(w:World) (c:Nat),(drain w c).2.drawn=w.drawn:=by intro w c;unfold drain;split<;>rfl
 have hr:∀(m:Machine) (k:Nat) (t:Timer) (a b:Nat),(retime m k t a b).2.world.drawn=m.world.drawn:=by
  intro m k t a b;unfold retime
  cases t.chan with
  | none=>rfl
  | some c=>exact hd _ _
 have hn:∀(m m0:Machine) (var:Addr) (f:Nat→Timer→Value×Machine),(∀k t,(f k t).2.world.drawn=m0.world.drawn)→∀{v m'},timerOp.named m var f=.ok (v,m')→m'.world.drawn=m0.world.drawn:=by
  intro m m0 var f hf v m' h;unfold timerOp.named at h
  split at h
  ·simp only [Except.ok.injEq]at h;have:=hf (by assumption) (m.rest.timers.getD (by assumption) default);rw [h]at this;exact this
  ·cases h
 have ho:∀{m m':Machine} {var:Addr},timerOp.opened m var=some m'→m'.world.drawn=m.world.drawn:=by
  intro m m' var h;unfold timerOp.opened at h
  repeat' first
   | (cases h;done)
   | (simp only [AmG]at h;subst h;rfl)
   | split at h
 unfold timerOp at h;simp only []at h
 repeat' first
  | (cases h;done)
  | (simp only [Except.ok.injEq,Prod.mk.injEq]at h;obtain⟨_,rfl⟩:=h;rfl)
  | exact hn _ _ _ _ (fun k t=>hr _ _ _ _ _) h
  | (rename_i h1;exact(hn _ _ _ _ (fun k t=>hr _ _ _ _ _) h).trans (ho h1))
  | split at h
theorem AgT(p:Program)(m:Machine)(i:Nat)(b:Bool):ML m.world (runT p m i b).1:=by
 simp only [runT];generalize m.gs.swapAt! _ _=gg;have hs:=AgM p (i == 0) gg.1 m.world b
 revert hs
 generalize stepG p _ gg.1 m.world b=s;intro hs
 cases s<;>simp only [Cz]at hs<;>(try simp only [])
 all_goals repeat' first
  | trivial
  | exact hs
  | exact Od hs (AgR _ _ _ _ _ _ _ _ _)
  | exact Od hs (er _ _ _ _)
  | (rename_i h;exact AmM hs (Nat.le_of_eq (AjK h).symm))
  | split
theorem xp{p:Program}{α:Type}{s:Sem α}{W w':World}{gs:Array Goroutine}{rest:Rest}{t:Nat}{a:α}(h:s.run p (Machine.advanceTo ⟨W,gs,rest⟩ t).world=.ok a w'):W.drawn<=w'.drawn:=by have:=G0 h;exact this
theorem eY(p:Program)(m:Machine):Ta m.world (askOn p m):=by
 unfold askOn;simp only []
 repeat' first
  | trivial
  | exact AmC _
  | exact AgU _ _ _
  | (refine Tb (G0 (by assumption)) ?_)
  | (refine Tb (xp (by assumption)) ?_)
  | split
theorem ep(p:Program)(m:Machine):Ta m.world (ask p m):=by
 unfold ask
 split
 ·split
  ·trivial
  ·refine Tb (G0 (by assumption)) ?_;have:=er p m.gs m.rest (by assumption)
   split
   ·rename_i h;rw [h]at this;exact Tb this (eY _ _)
   ·rename_i e _;cases e<;>first|exact absurd rfl (by assumption)|trivial
  ·exact Tb (G0 (by assumption)) (eY _ _)
 ·exact eY _ _
theorem AgP(p:Program)(m:Machine):Ta m.world (move p m):=by
 unfold move
 repeat' first
  | trivial
  | exact AmC _
  | exact ep p _
  | exact ep p {m with rest:={m.rest with slice:=none}}
  | split
theorem AgV(p:Program)(m:Machine):ML m.world (step p m):=by
 have hm:=AgP p m;unfold step stepT
 cases h:move p m with
 | goroutine m1 i=>rw [h]at hm;exact Od hm (AgT p m1 i true)
 | machine s ops=>rw [h]at hm;exact hm
theorem jm(p:Program):∀(n:Nat) (m m':Machine),runN p n m=.next m'→m.world.drawn<=m'.world.drawn
 | 0,m,m',h=>by simp only [runN,Stepped.next.injEq]at h;rw [h];exact AmC _
 | n+1,m,m',h=>by
  have hs:=AgV p m;unfold runN at h
  cases h1:step p m with
  | next m1=>rw [h1]at h hs;exact AmM hs (jm p n m1 m' h)
  | ended o w=>rw [h1]at h;cases h
theorem Steps.drawn{P:Program}{m m':Machine}(h:Steps P m m'):m.world.drawn<=m'.world.drawn:=by
 obtain⟨n,hn⟩:=h;exact jm P n m m' hn
theorem Calls.drawn{P:Program}{f:FuncId}{args:Array Value}{w:World}{R:Ending→World→Prop}(h:Calls P f args w R)(hr:∀e w',R e w'→∃v,e=.returned v):Calls P f args w fun e w'=>R e w'/\w.drawn<=w'.drawn:=by
 intro cs;obtain⟨e,w',fr,h1,h2,h3⟩:=h cs;obtain⟨v,rfl⟩:=hr e w' h1;exact⟨_,w',fr,⟨h1,Steps.drawn h2⟩,h2,h3⟩
theorem Aa.grow{w w':World}(h:Aa w w')(hd:w.drawn<=w'.drawn):∃q os,w'=Go.Sort.grow (w.drewN q) os:=by
 refine⟨w'.drawn-w.drawn,w'.heap.extract w.heap.size w'.heap.size,?_⟩
 have hh:w.heap++w'.heap.extract w.heap.size w'.heap.size=w'.heap:=by
  apply Array.ext_getElem?;intro i;rw [Array.getElem?_append]
  split
  ·rename_i hi;exact(h.block i hi).symm
  ·rename_i hi
   rw [Array.getElem?_extract]
   split
   ·congr 1;omega
   ·rw [Array.getElem?_eq_none (by omega)]
 have h1:=h.os;have h2:=h.tape;have h3:=h.output;unfold Go.Sort.grow World.drewN;simp only;rw [hh,Nat.add_sub_of_le hd,←h1,←h2,←h3]
end Go.Proofs.YtjalkoacphhgdaaGreatDoor
