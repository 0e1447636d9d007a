/- V10: LC Drn. -/
import Derived.Test.YtbejphgbbpplbaaGreatDoorV06
namespace Kl
open Classical
noncomputable def rv(l:Bs):Rat:=if h:∃q,l=R q then Classical.choose h else 0
theorem iP(q:Rat):rv (R q)=q:=by
 unfold rv;have h:∃p,R q=R p:=⟨q,rfl⟩;rw [dif_pos h];exact(Nj (Classical.choose_spec h)).symm
theorem iQ{l:Bs}(h:BK l):l=R (rv l)/\(D (rv l).num.natAbs).length<=200/\(D (rv l).den).length<=200:=by
 obtain⟨q,rfl,h1,h2⟩:=h;rw [iP];exact⟨rfl,h1,h2⟩
noncomputable def colS(b:List La)(x:La):Int:=
 if ¬BK x.mn then 2 else if x.mx≠[]/\¬BK x.mx then 2 else if nameB x.u=false then 8 else if 0<=BF b x.u then 9 else if rv x.mn<0 then 3
 else if x.mx≠[]/\rv x.mx<rv x.mn then 6 else 0
noncomputable def I4(b:List La):List La→Int
 | []=>0
 | x::r=>if colS b x=0 then I4 (b ++ [x]) r else colS b x
noncomputable def Ht(l:List La):Int:=if l.length=0 then 13 else if 60<l.length then 4 else I4 [] l
theorem Abk{b:List La}{l:List La}{k:Nat}(h:k<l.length)(hb:b=l.take k):I4 b (l.drop k)=if colS b l[k]=0 then I4 (l.take (k+1)) (l.drop (k+1))else colS b l[k]:=by
 rw [List.drop_eq_getElem_cons h,hb,List.take_succ_eq_append_getElem h]
 rfl
theorem QU{b:List La}{u:Bs}{p:Rat}{m:Option Rat}(h1:BK (R p))(h2:∀q,m=some q→BK (R q)/\R q≠[]/\p<=q)(h3:nameB u=true)(h4:∀y∈b,y.u≠u)(h5:0<=p) :
  colS b ⟨u,R p,m.elim [] R⟩=0:=by
 have hp:BF b u = -1:=VZ fun y hy=>(by simpa using h4 y hy);unfold colS;simp only [hp,h3,iP];rw [if_neg (by simpa using h1)]
 cases m with
 | none=>
  rw [if_neg (by simp),if_neg (by simp),if_neg (by omega),if_neg (by exact Rat.not_lt.2 h5),if_neg (by simp)]
 | some q=>obtain⟨a1,a2,a3⟩:=h2 q rfl;simp only [Option.elim_some,iP];rw [if_neg (by simp [a1]),if_neg (by simp),if_neg (by omega),if_neg (by exact Rat.not_lt.2 h5),if_neg (by rintro⟨_,h⟩;exact absurd a3 (Rat.not_le.2 h))]
end Kl
namespace Go.Proofs.YtbejphgbbpplbaaGreatDoor
open Go.RowKit Kl
def AiI{α:Type} : Result α→World
 | .ok _ w=>w
 | .halt _ w=>w
theorem Aaf{α:Type}(a:Ask α):∀(w:World),w.drawn<=(w.ask a).2.drawn:=by
 induction a with
 | done a=>intro w;exact AmX _
 | ask what range k ih=>
  intro w;unfold World.ask;simp only []
  split
  ·exact ih _ _
  ·exact Ani (Nat.le_succ w.drawn) (ih _ {w with drawn:=w.drawn+1})
theorem AjU(w:World)(c:Sys):w.drawn<=(w.sys c).2.drawn:=by
 have h:=Aaf (Kernel.perform c w.os) w;unfold World.sys
 split
 ·exact AmX _
 ·rename_i r os w' _ he
  rw [he]at h;exact h
theorem Acv{ε α β:Type}{x:Except ε α}{f:α→Except ε β}{y:β}(h:(x >>= f)=.ok y):∃a,x=.ok a/\f a=.ok y:=by
 cases x with
 | error e=>cases h
 | ok a=>exact⟨a,rfl,h⟩
theorem Ak2{p:Program}{w w':World}{a:Addr}{u:TypeId}{k:Addr}{v:Value}{at_:Bool}{l:List Addr}(h:w.viewStore p a u k v at_=.ok (w',l)):w'.drawn=w.drawn:=by
 unfold World.viewStore at h;simp only []at h
 repeat' first
  | (cases h;done)
  | (simp only [pure,Except.pure,Except.ok.injEq,Prod.mk.injEq]at h;obtain⟨rfl,_⟩:=h;rfl)
  | (obtain⟨_,_,h⟩:=Acv h)
  | split at h
theorem Acz{p:Program}{w w':World}{a:Addr}{v:Value}{at_:Bool}{l:List Addr}(h:w.farStore p a v at_=.ok (w',l)):w'.drawn=w.drawn:=by
 unfold World.farStore at h
 split at h
 ·split at h
  ·rename_i hv;simp only [Except.ok.injEq]at h;subst h;exact Ak2 hv
  ·cases h
 ·cases h
theorem kx (p : Program) {α : Type} (s : Sem α) : ∀ (w : World), w.drawn ≤ (AiI (s.run p w)).drawn := by
  induction s with
  | pure a => intro w; exact AmX _
  | load m a k ih => intro w; simp only [Sem.run]; (repeat' split) <;> first | exact ih _ _ | exact AmX _
  | store m a v k ih =>
    intro w
    cases v <;> simp only [Sem.run] <;> first
      | exact AmX _
      | (split
         · split
           · exact AmX _
           · exact ih (w.setCell a _)
         · split
           · rename_i hf; rw [← Acz hf]; exact ih _
           · exact AmX _)
  | new o k ih => intro w; simp only [Sem.run]; exact ih w.heap.size { w with heap := w.heap.push o }
  | shape r k ih => intro w; simp only [Sem.run]; exact ih _ _
  | freeze a n k ih =>
    intro w; simp only [Sem.run]
    refine Ani (Nat.le_of_eq ?_) (ih (w.freeze a n))
    unfold World.freeze; split <;> rfl
  | frozen a k ih => intro w; simp only [Sem.run]; exact ih _ _
  | getObj r k ih => intro w; simp only [Sem.run]; split <;> first | exact ih _ _ | exact AmX _
  | setObj r o k ih => intro w; simp only [Sem.run]; split <;> first | exact ih { w with heap := w.heap.setIfInBounds r o } | exact AmX _
  | choose q k ih => intro w; simp only [Sem.run]; split <;> first | exact ih _ _ | exact Ani (Nat.le_succ w.drawn) (ih _ { w with drawn := w.drawn + 1 })
  | sys c k ih => intro w; simp only [Sem.run]; exact Ani (AjU w c) (ih _ _)
  | program k ih => intro w; simp only [Sem.run]; exact ih _ _
  | mark m k ih => intro w; simp only [Sem.run]; exact ih _
  | halt h => intro w; exact AmX _
theorem G6{p:Program}{α:Type}{s:Sem α}{w w':World}{a:α}(h:s.run p w=.ok a w'):w.drawn<=w'.drawn:=by
 have:=kx p s w;rw [h]at this;exact this
theorem WS{p:Program}{α:Type}{s:Sem α}{w w':World}{a:Halt}(h:s.run p w=.halt a w'):w.drawn<=w'.drawn:=by
 have:=kx p s w;rw [h]at this;exact this
theorem Tr{p:Program}{α:Type}{s:Sem α}{w w':World}{a:α}{es es':Array Event}(h:s.runT p w es=(.ok a w',es')):w.drawn<=w'.drawn:=by
 have e:=Sem.runT_fst p s w es;rw [h]at e;exact G6 e.symm
theorem iK{p:Program}{α:Type}{s:Sem α}{w w':World}{a:Halt}{es es':Array Event}(h:s.runT p w es=(.halt a w',es')):w.drawn<=w'.drawn:=by
 have e:=Sem.runT_fst p s w es;rw [h]at e;exact WS e.symm
theorem WR{p:Program}{α:Type}{s:Sem α}{w w':World}{a:α}{es:Array Event}(h:(s.runT p w es).1=.ok a w'):w.drawn<=w'.drawn:=G6 ((Sem.runT_fst p s w es).symm.trans h)
theorem kr{p:Program}{α:Type}{s:Sem α}{w w':World}{a:Halt}{es:Array Event}(h:(s.runT p w es).1=.halt a w'):w.drawn<=w'.drawn:=WS ((Sem.runT_fst p s w es).symm.trans h)
def C4(w:World):GStep→Prop
 | .go _ w' _=>w.drawn<=w'.drawn
 | .comm _ _ _ _ w' _=>w.drawn<=w'.drawn
 | .spawn _ _ w' _=>w.drawn<=w'.drawn
 | .count _ w' _=>w.drawn<=w'.drawn
 | .timer _ _ w' _=>w.drawn<=w'.drawn
 | .alone _ _ w' _=>w.drawn<=w'.drawn
 | .newcoro _ _ _ w' _=>w.drawn<=w'.drawn
 | .coroswitch _ _ _ w' _=>w.drawn<=w'.drawn
 | .collect _ w' _=>w.drawn<=w'.drawn
 | .watch _ w' _=>w.drawn<=w'.drawn
 | .ended _ _ _=>True
theorem JO{w:World}{es:Array Event}{g:GStep}(h:C4 w g):C4 w (GStep.after es g):=by cases g<;>exact h
theorem Ga{w w':World}{g:GStep}(h:w.drawn<=w'.drawn)(k:C4 w' g):C4 w g:=by
 cases g<;>first|exact Ani h k|trivial
theorem Ahl(fr:Frame)(l:List ByteArray)(m:String)(b:Bool)(w:World):C4 w (dieOf fr l m b w):=AmX _
theorem WB(fr:Frame)(m:String)(w:World):C4 w (endThrow fr m w):=AmX _
theorem Ahm(w:World)(fd:Nat)(t:ByteArray)(o:Outcome):C4 w (endWith w fd t o):=by
 unfold endWith;simp only []
 repeat' first
  | trivial
  | split
theorem fM(p:Program)(fr:Frame)(v:Value)(w:World):C4 w (endPrinting p fr v w):=by
 unfold endPrinting;simp only []
 repeat' first
  | trivial
  | exact WB _ _ _
  | split
theorem ia(p:Program)(fr:Frame)(cs:List Frame)(d:Option Dying)(m:String)(w:World):C4 w (endFatal p fr cs d m w):=by
 unfold endFatal;simp only []
 repeat' first
  | trivial
  | (rename_i h;exact Ga (G6 h) (Ahl _ _ _ _ _))
  | split
theorem Ahs(p:Program)(fr:Frame)(d:Dying)(f:Fatal)(w:World):C4 w (writeOn p fr d f w):=by
 unfold writeOn;simp only []
 repeat' first
  | trivial
  | (rename_i h;exact Tr h)
  | (rename_i h;exact iK h)
  | split
theorem Ahk(p:Program)(fr:Frame)(d:Dying)(w:World):C4 w (die p fr d w):=by
 unfold die;simp only []
 repeat' first
  | trivial
  | exact Ahs _ _ _ _ _
  | exact Ahm _ _ _ _
  | exact AmX _
  | (rename_i h;exact G6 h)
  | (rename_i h;exact Tr h)
  | (rename_i h;exact Ga (iK h) (fM _ _ _ _))
  | (rename_i h;exact JO (WR h))
  | (rename_i h;exact JO (Ga (kr h) (fM _ _ _ _)))
  | split
theorem Aho{w:World}{c:Prop}[Decidable c]{a b:GStep}(ha:C4 w a)(hb:C4 w b):C4 w (if c then a else b):=by split<;>assumption
theorem fN(p:Program)(b:Bool)(fr:Frame)(cs:List Frame)(d:Option Dying)(v:Value)(w:World):C4 w (doReturn p b fr cs d v w):=by
 unfold doReturn;simp only []
 repeat' first
  | trivial
  | exact AmX _
  | split
theorem Ahj(p:Program)(fr:Frame)(cs:List Frame)(dy:Option Dying)(d:Deferred)(w:World):C4 w (callDeferred p fr cs dy d w):=by
 unfold callDeferred;refine Aho trivial ?_
 ·generalize hx:(invoke d.target d.args).runT p w #[]=x;obtain⟨r,es⟩:=x;simp only [];refine JO ?_
  cases r with
  | ok a w'=>
   have hd:=Tr hx
   cases a<;>(try simp only [])<;>repeat' first
    | trivial
    | exact hd
    | (injections;done)
    | (injections;subst_vars;exact hd)
    | split
  | halt h w'=>
   have hd:=iK hx
   cases h<;>(try simp only [])<;>repeat' first
    | trivial
    | exact hd
    | (injections;done)
    | (injections;subst_vars;exact hd)
    | exact Ga hd (ia _ _ _ _ _ _)
    | exact Ga hd (WB _ _ _)
    | split
theorem fL(p:Program)(fr:Frame)(cs:List Frame)(d:Option Dying)(g:Nat)(w:World):C4 w (early p fr cs d g w):=by
 unfold early;simp only []
 repeat' first
  | trivial
  | exact AmX _
  | (refine Ga (G6 (by assumption)) ?_)
  | split
theorem Ahr (p : Program) (b : Bool) (fr : Frame) (cs : List Frame) (d : Option Dying) (w : World) : C4 w (unwind p b fr cs d w) := by
  unfold unwind
  split
  · generalize hx : (Instr.takeDeferred _).runT p w #[] = x
    obtain ⟨r, es⟩ := x
    simp only []
    refine JO ?_
    cases r with
    | ok a w' => exact Tr hx
    | halt h w' => trivial
  · exact Ahj _ _ _ _ _ _
  · repeat' first
      | trivial
      | exact AmX _
      | (rename_i h; exact G6 h)
      | exact fM _ _ _ _
      | exact fN _ _ _ _ _ _ _
      | (generalize hx : (results _ _).runT p w #[] = x
         obtain ⟨r, es⟩ := x
         simp only []
         refine JO ?_
         cases r with
         | ok a w' => exact Ga (Tr hx) (fN _ _ _ _ _ _ _)
         | halt h w' => cases h <;> trivial)
      | split
theorem WA(p:Program)(b:Bool)(fr:Frame)(cs:List Frame)(d:Option Dying)(s:Sem Next)(w:World):C4 w (stepG.apply p b fr cs d s w):=by
 unfold stepG.apply
 have hr:(if b=true then s.runT p w #[] else (s.run p w,#[])).1=s.run p w:=by
  split
  ·exact Sem.runT_fst p s w #[]
  ·rfl
 generalize hx:(if b=true then s.runT p w #[] else (s.run p w,#[]))=x at hr;obtain⟨r,es⟩:=x;simp only []at hr;simp only [];refine JO ?_
 cases r with
 | ok a w'=>
  have hd:=G6 hr.symm
  cases a<;>(try simp only [])<;>repeat' first
   | trivial
   | exact hd
   | (injections;done)
   | (injections;subst_vars;exact hd)
   | (injections;subst_vars;exact Ga hd (fL _ _ _ _ _ _))
   | exact Ga hd (WB _ _ _)
   | split
 | halt h w'=>
  have hd:=WS hr.symm
  cases h<;>(try simp only [])<;>repeat' first
   | trivial
   | exact hd
   | (injections;done)
   | (injections;subst_vars;exact hd)
   | (injections;subst_vars;exact Ga hd (fL _ _ _ _ _ _))
   | exact Ga hd (ia _ _ _ _ _ _)
   | exact Ga hd (WB _ _ _)
   | exact Ga hd (fL _ _ _ _ _ _)
   | split
theorem Ahp(p:Program)(b:Bool)(fr:Frame)(cs:List Frame)(d:Option Dying)(w:World):C4 w (stepG.oper p b fr cs d w):=by
 unfold stepG.oper
 split
 ·trivial
 ·split<;>exact WA _ _ _ _ _ _ _
theorem gy{α:Type}{w:World}(o:Option α)(a:GStep)(f:α→GStep)(ha:C4 w a)(h:∀x,C4 w (f x)):C4 w (o.elim a f):=by
 cases o
 ·exact ha
 ·exact h _
theorem Ahn(p:Program)(m b:Bool)(fr:Frame)(cs:List Frame)(d:Option Dying)(w:World):C4 w (stepG.exec p m b fr cs d w):=by
 unfold stepG.exec;simp only []
 split
 all_goals repeat' first
  | trivial
  | exact AmX _
  | exact Ahp _ _ _ _ _ _
  | exact WA _ _ _ _ _ _ _
  | (rename_i h;exact G6 h)
  | refine gy _ _ _ ?_ (fun _=>AmX _)
  | exact gy _ _ _ trivial (fun _=>WA _ _ _ _ _ _ _)
  | (rename_i h;exact JO (Ga (WR h) (fN _ _ _ _ _ _ _)))
  | (rename_i h;exact JO (Ga (WR h) (WA _ _ _ _ _ _ _)))
  | (rename_i h;exact JO (WR h))
  | (rename_i h;exact JO (kr h))
  | split
theorem Ahq(p:Program)(m:Bool)(g:Goroutine)(w:World)(b:Bool):C4 w (stepG p m g w b):=by
 obtain⟨fr,callers,status,dying,offers⟩:=g;simp only [stepG]
 split
 ·exact Ahk _ _ _ _
 ·exact Ahn _ _ _ _ _ _ _
 ·exact Ahr _ _ _ _ _ _
/-! ### The machine -/
def MH(w:World):Stepped→Prop
 | .next m=>w.drawn<=m.world.drawn
 | .ended _ _=>True
theorem Od{w w':World}{g:Stepped}(h:w.drawn<=w'.drawn)(k:MH w' g):MH w g:=by
 cases g<;>first|exact Ani h k|trivial
def Td(w:World):Move→Prop
 | .goroutine m _=>w.drawn<=m.world.drawn
 | .machine s _=>MH w s
theorem Te{w w':World}{g:Move}(h:w.drawn<=w'.drawn)(k:Td w' g):Td w g:=by
 cases g
 ·exact Ani h k
 ·exact Od h k
theorem Ak3{rest:Rest}{cases:Array CommCase}{w w':World}(h:waitingAt rest cases w=some w'):w'.drawn=w.drawn:=by
 unfold waitingAt at h
 repeat' first
  | (cases h;done)
  | (simp only [Anb]at h;subst h;rfl)
  | split at h
theorem Ahv(p:Program)(rest:Rest)(gs:Array Goroutine)(i:Nat)(g:Goroutine)(cases:Array CommCase)(b:Bool)(shape:CommShape)(w:World):MH w (communicate p rest gs i g cases b shape w).1:=by
 unfold communicate;simp only []
 repeat' first
  | trivial
  | exact AmX _
  | (refine Od (G6 (by assumption)) ?_)
  | (refine Od (WS (by assumption)) ?_)
  | (rename_i h;exact Nat.le_of_eq (Ak3 h).symm)
  | split
theorem ig(p:Program)(gs:Array Goroutine)(rest:Rest)(w:World):MH w (look p gs rest w):=by
 unfold look;simp only []
 repeat' first
  | trivial
  | exact AmX _
  | (refine Od (G6 (by assumption)) ?_)
  | split
theorem Ahx(p:Program)(m:Machine)(k:Nat):MH m.world (serve p m k):=by
 unfold serve;simp only []
 repeat' first
  | trivial
  | exact AmX _
  | split
theorem Akd{m m':Machine}{op:TimerOp}{v:Value}(h:timerOp m op=.ok (v,m')):m'.world.drawn=m.world.drawn:=by
 have hd:∀(w:World) (c:Nat),(drain w c).2.drawn=w.drawn:=by intro w c;unfold drain;split<;>rfl
 have hr:∀(m:Machine) (k:Nat) (t:Timer) (a b:Nat),(retime m k t a b).2.world.drawn=m.world.drawn:=by
  intro m k t a b;unfold retime
  cases t.chan with
  | none=>rfl
  | some c=>exact hd _ _
 have hn:∀(m m0:Machine) (var:Addr) (f:Nat→Timer→Value×Machine),(∀k t,(f k t).2.world.drawn=m0.world.drawn)→∀{v m'},timerOp.named m var f=.ok (v,m')→m'.world.drawn=m0.world.drawn:=by
  intro m m0 var f hf v m' h;unfold timerOp.named at h
  split at h
  ·simp only [Except.ok.injEq]at h;have:=hf (by assumption) (m.rest.timers.getD (by assumption) default);rw [h]at this;exact this
  ·cases h
 have ho:∀{m m':Machine} {var:Addr},timerOp.opened m var=some m'→m'.world.drawn=m.world.drawn:=by
  intro m m' var h;unfold timerOp.opened at h
  repeat' first
   | (cases h;done)
   | (simp only [Anb]at h;subst h;rfl)
   | split at h
 unfold timerOp at h;simp only []at h
 repeat' first
  | (cases h;done)
  | (simp only [Except.ok.injEq,Prod.mk.injEq]at h;obtain⟨_,rfl⟩:=h;rfl)
  | exact hn _ _ _ _ (fun k t=>hr _ _ _ _ _) h
  | (rename_i h1;exact(hn _ _ _ _ (fun k t=>hr _ _ _ _ _) h).trans (ho h1))
  | split at h
theorem Ahw(p:Program)(m:Machine)(i:Nat)(b:Bool):MH m.world (runT p m i b).1:=by
 simp only [runT];generalize m.gs.swapAt! _ _=gg;have hs:=Ahq p (i == 0) gg.1 m.world b
 revert hs
 generalize stepG p _ gg.1 m.world b=s;intro hs
 cases s<;>simp only [C4]at hs<;>(try simp only [])
 all_goals repeat' first
  | trivial
  | exact hs
  | exact Od hs (Ahv _ _ _ _ _ _ _ _ _)
  | exact Od hs (ig _ _ _ _)
  | (rename_i h;exact Ani hs (Nat.le_of_eq (Akd h).symm))
  | split
theorem yu{p:Program}{α:Type}{s:Sem α}{W w':World}{gs:Array Goroutine}{rest:Rest}{t:Nat}{a:α}(h:s.run p (Machine.advanceTo ⟨W,gs,rest⟩ t).world=.ok a w'):W.drawn<=w'.drawn:=by have:=G6 h;exact this
theorem fO(p:Program)(m:Machine):Td m.world (askOn p m):=by
 unfold askOn;simp only []
 repeat' first
  | trivial
  | exact AmX _
  | exact Ahx _ _ _
  | (refine Te (G6 (by assumption)) ?_)
  | (refine Te (yu (by assumption)) ?_)
  | split
theorem ic(p:Program)(m:Machine):Td m.world (ask p m):=by
 unfold ask
 split
 ·split
  ·trivial
  ·refine Te (G6 (by assumption)) ?_;have:=ig p m.gs m.rest (by assumption)
   split
   ·rename_i h;rw [h]at this;exact Te this (fO _ _)
   ·rename_i e _;cases e<;>first|exact absurd rfl (by assumption)|trivial
  ·exact Te (G6 (by assumption)) (fO _ _)
 ·exact fO _ _
theorem Aht(p:Program)(m:Machine):Td m.world (move p m):=by
 unfold move
 repeat' first
  | trivial
  | exact AmX _
  | exact ic p _
  | exact ic p {m with rest:={m.rest with slice:=none}}
  | split
theorem Ahy(p:Program)(m:Machine):MH m.world (step p m):=by
 have hm:=Aht p m;unfold step stepT
 cases h:move p m with
 | goroutine m1 i=>rw [h]at hm;exact Od hm (Ahw p m1 i true)
 | machine s ops=>rw [h]at hm;exact hm
theorem kq(p:Program):∀(n:Nat) (m m':Machine),runN p n m=.next m'→m.world.drawn<=m'.world.drawn
 | 0,m,m',h=>by simp only [runN,Stepped.next.injEq]at h;rw [h];exact AmX _
 | n+1,m,m',h=>by
  have hs:=Ahy p m;unfold runN at h
  cases h1:step p m with
  | next m1=>rw [h1]at h hs;exact Ani hs (kq p n m1 m' h)
  | ended o w=>rw [h1]at h;cases h
theorem Steps.drawn{P:Program}{m m':Machine}(h:Steps P m m'):m.world.drawn<=m'.world.drawn:=by
 obtain⟨n,hn⟩:=h;exact kq P n m m' hn
theorem Calls.drawn{P:Program}{f:FuncId}{args:Array Value}{w:World}{R:Ending→World→Prop}(h:Calls P f args w R)(hr:∀e w',R e w'→∃v,e=.returned v):Calls P f args w fun e w'=>R e w'/\w.drawn<=w'.drawn:=by
 intro cs;obtain⟨e,w',fr,h1,h2,h3⟩:=h cs;obtain⟨v,rfl⟩:=hr e w' h1;exact⟨_,w',fr,⟨h1,Steps.drawn h2⟩,h2,h3⟩
theorem Aa.grow{w w':World}(h:Aa w w')(hd:w.drawn<=w'.drawn):∃q os,w'=Go.Sort.grow (w.drewN q) os:=by
 refine⟨w'.drawn-w.drawn,w'.heap.extract w.heap.size w'.heap.size,?_⟩
 have hh:w.heap++w'.heap.extract w.heap.size w'.heap.size=w'.heap:=by
  apply Array.ext_getElem?;intro i;rw [Array.getElem?_append]
  split
  ·rename_i hi;exact(h.block i hi).symm
  ·rename_i hi
   rw [Array.getElem?_extract]
   split
   ·congr 1;omega
   ·rw [Array.getElem?_eq_none (by omega)]
 have h1:=h.os;have h2:=h.tape;have h3:=h.output;unfold Go.Sort.grow World.drewN;simp only;rw [hh,Nat.add_sub_of_le hd,←h1,←h2,←h3]
end Go.Proofs.YtbejphgbbpplbaaGreatDoor
