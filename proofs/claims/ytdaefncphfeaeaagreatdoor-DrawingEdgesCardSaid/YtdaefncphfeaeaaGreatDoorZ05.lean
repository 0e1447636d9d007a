/- Z05: Draw Drn. -/
import Derived.Test.YtdaefncphfeaeaaGreatDoorZ03
namespace Kl
structure Pt where
 x:Rat
 y:Rat
structure Sg where
 a:Pt
 b:Pt
structure Cv where
 low:Pt
 high:Pt
 W:Nat
 H:Nat
structure Cv.Ok(c:Cv):Prop where
 x:c.low.x<c.high.x
 y:c.low.y<c.high.y
 w1:1<=c.W
 w2:c.W<=2000
 h1:1<=c.H
 h2:c.H<=2000
structure Cv.In(c:Cv)(p:Pt):Prop where
 x1:c.low.x<=p.x
 x2:p.x<=c.high.x
 y1:c.low.y<=p.y
 y2:p.y<=c.high.y
def CL(a b k:Rat):Rat:=a+k*(b-a)
def Fa(part whole:Rat)(size:Nat):Int:=(part*(size:Rat)/whole+1/2).floor
def Br(c:Cv)(p:Pt):Int:=Fa (p.x-c.low.x) (c.high.x-c.low.x) c.W
def Bt(c:Cv)(p:Pt):Int:=Fa (c.high.y-p.y) (c.high.y-c.low.y) c.H
def atR(s:Sg)(k:Rat):Pt:=⟨CL s.a.x s.b.x k,CL s.a.y s.b.y k⟩
def BD(a b:Rat):Rat:=if a<b then b else a
def BE(a b:Rat):Rat:=if b<a then b else a
def AZ(fr way:Rat):Option (Rat×Rat)→Option (Rat×Rat)
 | none=>none
 | some (l,h)=>if way=0 then (if 0<=fr then some (l,h)else none)else if 0 < way then some (BD l (-fr / way),h)else some (l,BE h (-fr / way))
def MX(c:Cv)(s:Sg):Option (Rat×Rat):=
 AZ (c.high.y-s.a.y) (-(s.b.y-s.a.y)) (AZ (s.a.y-c.low.y) (s.b.y-s.a.y) (AZ (c.high.x-s.a.x) (-(s.b.x-s.a.x)) (AZ (s.a.x-c.low.x) (s.b.x-s.a.x) (some (0,1)))))
def Eg(c:Cv)(s:Sg):Option Sg:=
 match MX c s with
 | none=>none
 | some (l,h)=>if h < l then none else some ⟨atR s l,atR s h⟩
theorem AkU{a b c:Rat}(h:BD a b<=c):a<=c/\b<=c:=by
 unfold BD at h;split at h<;>grind
theorem Ak1{a b c:Rat}(h:c<=BE a b):c<=a/\c<=b:=by
 unfold BE at h;split at h<;>grind
theorem AfM{a b k:Rat}(hb:0<b)(h:a/b<=k):a<=k*b:=by
 rw [←Rat.not_lt,Rat.lt_div_iff hb,Rat.not_lt]at h;exact h
theorem Ak0{a b k:Rat}(hb:0<b)(h:k<=a/b):k*b<=a:=by
 rw [←Rat.not_lt,Rat.div_lt_iff hb,Rat.not_lt]at h;exact h
theorem ya(a b:Rat):-a/b=a/(-b):=by
 rw [Rat.div_def,Rat.div_def,show (-b)⁻¹ = -(b⁻¹)from ?_]
 ·grind
 ·by_cases hb:b=0
  ·subst hb;rw [Rat.neg_zero,Rat.inv_zero,Rat.neg_zero]
  ·exact Rat.inv_eq_of_mul_eq_one (by have:=Rat.mul_inv_cancel b hb;grind)
theorem O8(fr way l h:Rat):AZ fr way (some (l,h))=if way=0 then (if 0<=fr then some (l,h)else none)else if 0<way then some (BD l (-fr/way),h)else some (l,BE h (-fr/way)):=rfl
theorem WO{fr way l h l' h':Rat}(e:AZ fr way (some (l,h))=some (l',h')):l<=l'/\h'<=h/\∀k,l'<=k→k<=h'→0<=fr+k*way:=by
 rw [O8]at e
 split at e
 ·next hw=>
  split at e
  ·next hf=>
   simp only [Option.some.injEq,Prod.mk.injEq]at e;obtain⟨rfl,rfl⟩:=e;refine⟨Rat.le_refl,Rat.le_refl,fun k _ _=>by rw [hw];grind⟩
  ·simp at e
 ·next hw=>
  split at e
  ·next hp=>
   simp only [Option.some.injEq,Prod.mk.injEq]at e;obtain⟨rfl,rfl⟩:=e;have h1:=AkU (a:=l) (b:=-fr/way) (c:=BD l (-fr/way)) Rat.le_refl;refine⟨h1.1,Rat.le_refl,fun k hk _=>?_⟩;have h2:=AfM hp (Rat.le_trans h1.2 hk)
   grind
  ·next hp=>
   simp only [Option.some.injEq,Prod.mk.injEq]at e;obtain⟨rfl,rfl⟩:=e;have h1:=Ak1 (a:=h) (b:=-fr/way) (c:=BE h (-fr/way)) Rat.le_refl;refine⟨Rat.le_refl,h1.1,fun k _ hk=>?_⟩;have hn:0 < -way:=(by grind);have h2:=Rat.le_trans hk h1.2;rw [ya]at h2;have h3:=Ak0 hn h2
   grind
theorem Qo(fr way:Rat):AZ fr way none=none:=rfl
theorem WP{fr way:Rat}{o:Option (Rat×Rat)}{l' h':Rat}(e:AZ fr way o=some (l',h')):∃l h,o=some (l,h):=by
 match o with
 | none=>simp [AZ]at e
 | some (l,h)=>exact⟨l,h,rfl⟩
structure Lh(c:Cv)(s:Sg)(l h:Rat):Prop where
 l0:0<=l
 h1:h<=1
 inn:∀k,l<=k→k<=h→c.In (atR s k)
theorem uL{c:Cv}{s:Sg}{l h:Rat}(e:MX c s=some (l,h)):Lh c s l h:=by
 unfold MX at e;obtain⟨l3,h3,e3⟩:=WP e;rw [e3]at e;obtain⟨l2,h2,e2⟩:=WP e3;rw [e2]at e3;obtain⟨l1,h1,e1⟩:=WP e2;rw [e1]at e2;obtain⟨a4,b4,c4⟩:=WO e;obtain⟨a3,b3,c3⟩:=WO e3;obtain⟨a2,b2,c2⟩:=WO e2;obtain⟨a1,b1,c1⟩:=WO e1;refine⟨by grind,by grind,fun k Bv hk2=>?_⟩;have q4:=c4 k Bv hk2;have q3:=c3 k (by grind) (by grind);have q2:=c2 k (by grind) (by grind);have q1:=c1 k (by grind) (by grind);constructor<;>simp only [atR,CL]<;>grind
theorem WN{fr way:Rat}(h0:0<=fr)(h1:0<=fr+way):AZ fr way (some (0,1))=some (0,1):=by
 rw [O8]
 split
 ·first|rfl|rw [if_pos h0]
 ·next hw=>
  split
  ·next hp=>
   have:¬0 < -fr/way:=by rw [Rat.lt_div_iff hp];grind
   unfold BD;rw [if_neg this]
  ·next hp=>
   have hn:0 < -way:=by grind
   have:¬-fr/way<1:=by rw [ya,Rat.div_lt_iff hn];grind
   unfold BE;rw [if_neg this]
theorem Afp{c:Cv}{s:Sg}(ha:c.In s.a)(hb:c.In s.b):MX c s=some (0,1):=by
 unfold MX;have:=ha.x1;have:=ha.x2;have:=ha.y1;have:=ha.y2;have:=hb.x1;have:=hb.x2;have:=hb.y1;have:=hb.y2;rw [WN,WN,WN,WN]<;>grind
theorem Afq{c:Cv}{s p:Sg}(e:Eg c s=some p):c.In p.a/\c.In p.b:=by
 unfold Eg at e
 split at e
 ·simp at e
 ·next l h e1=>
  split at e
  ·simp at e
  ·next hlt=>
   simp only [Option.some.injEq]at e;subst e;have hl:=uL e1;exact⟨hl.inn l Rat.le_refl (Rat.not_lt.1 hlt),hl.inn h (Rat.not_lt.1 hlt) Rat.le_refl⟩
theorem Akh{c:Cv}{s:Sg}(ha:c.In s.a)(hb:c.In s.b){k:Rat}(h0:0<=k)(h1:k<=1):c.In (atR s k):=
 (uL (Afp ha hb)).inn k h0 h1
/-! ### Pixels -/
theorem x8{part whole:Rat}{size:Nat}(h0:0<=part)(h1:part<=whole)(hw:0<whole):0<=Fa part whole size/\Fa part whole size<=size:=by
 unfold Fa;have hs:(0:Rat)<=(size:Rat):=Rat.natCast_nonneg
 have FI:0<=part*(size:Rat)/whole:=by
  rw [←Rat.not_lt,Rat.div_lt_iff hw,Rat.not_lt];have:=Rat.mul_nonneg h0 hs
  grind
 have Eo:part*(size:Rat)/whole<=size:=by rw [←Rat.not_lt,Rat.lt_div_iff hw,Rat.not_lt,Rat.mul_comm part];exact Rat.mul_le_mul_of_nonneg_left h1 hs
 constructor
 ·exact Rat.le_floor_iff.2 (by simp;grind)
 ·have:(part*(size:Rat)/whole+1/2).floor<(size:Int)+1:=by
   rw [Rat.floor_lt_iff,Rat.intCast_add,Rat.intCast_natCast];have:((1:Int):Rat)=1:=rfl
   grind
  omega
theorem dV{c:Cv}(hc:c.Ok){p:Pt}(h:c.In p):0<=Br c p/\Br c p<=c.W:=by
 have:=h.x1;have:=h.x2;have:=hc.x;exact x8 (by grind) (by grind) (by grind)
theorem oK{c:Cv}(hc:c.Ok){p:Pt}(h:c.In p):0<=Bt c p/\Bt c p<=c.H:=by
 have:=h.y1;have:=h.y2;have:=hc.y;exact x8 (by grind) (by grind) (by grind)
/-! ### Neighbours -/
end Kl
namespace Go.Proofs.YtdaefncphfeaeaaGreatDoor
open Go.RowKit Kl
def Anw{α:Type} : Result α→World
 | .ok _ w=>w
 | .halt _ w=>w
theorem Ae1{α:Type}(a:Ask α):∀(w:World),w.drawn<=(w.ask a).2.drawn:=by
 induction a with
 | done a=>intro w;exact Asf _
 | ask what range k ih=>
  intro w;unfold World.ask;simp only []
  split
  ·exact ih _ _
  ·exact Asq (Nat.le_succ w.drawn) (ih _ {w with drawn:=w.drawn+1})
theorem Ao0(w:World)(c:Sys):w.drawn<=(w.sys c).2.drawn:=by
 have h:=Ae1 (Kernel.perform c w.os) w;unfold World.sys
 split
 ·exact Asf _
 ·rename_i r os w' _ he
  rw [he]at h;exact h
theorem Ag0{ε α β:Type}{x:Except ε α}{f:α→Except ε β}{y:β}(h:(x >>= f)=.ok y):∃a,x=.ok a/\f a=.ok y:=by
 cases x with
 | error e=>cases h
 | ok a=>exact⟨a,rfl,h⟩
theorem AoU{p:Program}{w w':World}{a:Addr}{u:TypeId}{k:Addr}{v:Value}{at_:Bool}{l:List Addr}(h:w.viewStore p a u k v at_=.ok (w',l)):w'.drawn=w.drawn:=by
 unfold World.viewStore at h;simp only []at h
 repeat' first
  | (cases h;done)
  | (simp only [pure,Except.pure,Except.ok.injEq,Prod.mk.injEq]at h;obtain⟨rfl,_⟩:=h;rfl)
  | (obtain⟨_,_,h⟩:=Ag0 h)
  | split at h
theorem Ag6{p:Program}{w w':World}{a:Addr}{v:Value}{at_:Bool}{l:List Addr}(h:w.farStore p a v at_=.ok (w',l)):w'.drawn=w.drawn:=by
 unfold World.farStore at h
 split at h
 ·split at h
  ·rename_i hv;simp only [Except.ok.injEq]at h;subst h;exact AoU hv
  ·cases h
 ·cases h
theorem AaN (p : Program) {α : Type} (s : Sem α) : ∀ (w : World), w.drawn ≤ (Anw (s.run p w)).drawn := by
  induction s with
  | pure a => intro w; exact Asf _
  | load m a k ih => intro w; simp only [Sem.run]; (repeat' split) <;> first | exact ih _ _ | exact Asf _
  | store m a v k ih =>
    intro w
    cases v <;> simp only [Sem.run] <;> first
      | exact Asf _
      | (split
         · split
           · exact Asf _
           · exact ih (w.setCell a _)
         · split
           · rename_i hf; rw [← Ag6 hf]; exact ih _
           · exact Asf _)
  | new o k ih => intro w; simp only [Sem.run]; exact ih w.heap.size { w with heap := w.heap.push o }
  | shape r k ih => intro w; simp only [Sem.run]; exact ih _ _
  | freeze a n k ih =>
    intro w; simp only [Sem.run]
    refine Asq (Nat.le_of_eq ?_) (ih (w.freeze a n))
    unfold World.freeze; split <;> rfl
  | frozen a k ih => intro w; simp only [Sem.run]; exact ih _ _
  | getObj r k ih => intro w; simp only [Sem.run]; split <;> first | exact ih _ _ | exact Asf _
  | setObj r o k ih => intro w; simp only [Sem.run]; split <;> first | exact ih { w with heap := w.heap.setIfInBounds r o } | exact Asf _
  | choose q k ih => intro w; simp only [Sem.run]; split <;> first | exact ih _ _ | exact Asq (Nat.le_succ w.drawn) (ih _ { w with drawn := w.drawn + 1 })
  | sys c k ih => intro w; simp only [Sem.run]; exact Asq (Ao0 w c) (ih _ _)
  | program k ih => intro w; simp only [Sem.run]; exact ih _ _
  | mark m k ih => intro w; simp only [Sem.run]; exact ih _
  | halt h => intro w; exact Asf _
theorem Ir{p:Program}{α:Type}{s:Sem α}{w w':World}{a:α}(h:s.run p w=.ok a w'):w.drawn<=w'.drawn:=by
 have:=AaN p s w;rw [h]at this;exact this
theorem ZP{p:Program}{α:Type}{s:Sem α}{w w':World}{a:Halt}(h:s.run p w=.halt a w'):w.drawn<=w'.drawn:=by
 have:=AaN p s w;rw [h]at this;exact this
theorem Vy{p:Program}{α:Type}{s:Sem α}{w w':World}{a:α}{es es':Array Event}(h:s.runT p w es=(.ok a w',es')):w.drawn<=w'.drawn:=by
 have e:=Sem.runT_fst p s w es;rw [h]at e;exact Ir e.symm
theorem oM{p:Program}{α:Type}{s:Sem α}{w w':World}{a:Halt}{es es':Array Event}(h:s.runT p w es=(.halt a w',es')):w.drawn<=w'.drawn:=by
 have e:=Sem.runT_fst p s w es;rw [h]at e;exact ZP e.symm
theorem ZO{p:Program}{α:Type}{s:Sem α}{w w':World}{a:α}{es:Array Event}(h:(s.runT p w es).1=.ok a w'):w.drawn<=w'.drawn:=Ir ((Sem.runT_fst p s w es).symm.trans h)
theorem AaM{p:Program}{α:Type}{s:Sem α}{w w':World}{a:Halt}{es:Array Event}(h:(s.runT p w es).1=.halt a w'):w.drawn<=w'.drawn:=ZP ((Sem.runT_fst p s w es).symm.trans h)
def Dn(w:World):GStep→Prop
 | .go _ w' _=>w.drawn<=w'.drawn
 | .comm _ _ _ _ w' _=>w.drawn<=w'.drawn
 | .spawn _ _ w' _=>w.drawn<=w'.drawn
 | .count _ w' _=>w.drawn<=w'.drawn
 | .timer _ _ w' _=>w.drawn<=w'.drawn
 | .alone _ _ w' _=>w.drawn<=w'.drawn
 | .newcoro _ _ _ w' _=>w.drawn<=w'.drawn
 | .coroswitch _ _ _ w' _=>w.drawn<=w'.drawn
 | .collect _ w' _=>w.drawn<=w'.drawn
 | .watch _ w' _=>w.drawn<=w'.drawn
 | .ended _ _ _=>True
theorem Lg{w:World}{es:Array Event}{g:GStep}(h:Dn w g):Dn w (GStep.after es g):=by cases g<;>exact h
theorem Hp{w w':World}{g:GStep}(h:w.drawn<=w'.drawn)(k:Dn w' g):Dn w g:=by
 cases g<;>first|exact Asq h k|trivial
theorem Alw(fr:Frame)(l:List ByteArray)(m:String)(b:Bool)(w:World):Dn w (dieOf fr l m b w):=Asf _
theorem Zy(fr:Frame)(m:String)(w:World):Dn w (endThrow fr m w):=Asf _
theorem Alx(w:World)(fd:Nat)(t:ByteArray)(o:Outcome):Dn w (endWith w fd t o):=by
 unfold endWith;simp only []
 repeat' first
  | trivial
  | split
theorem mZ(p:Program)(fr:Frame)(v:Value)(w:World):Dn w (endPrinting p fr v w):=by
 unfold endPrinting;simp only []
 repeat' first
  | trivial
  | exact Zy _ _ _
  | split
theorem yt(p:Program)(fr:Frame)(cs:List Frame)(d:Option Dying)(m:String)(w:World):Dn w (endFatal p fr cs d m w):=by
 unfold endFatal;simp only []
 repeat' first
  | trivial
  | (rename_i h;exact Hp (Ir h) (Alw _ _ _ _ _))
  | split
theorem Al3(p:Program)(fr:Frame)(d:Dying)(f:Fatal)(w:World):Dn w (writeOn p fr d f w):=by
 unfold writeOn;simp only []
 repeat' first
  | trivial
  | (rename_i h;exact Vy h)
  | (rename_i h;exact oM h)
  | split
theorem Alv(p:Program)(fr:Frame)(d:Dying)(w:World):Dn w (die p fr d w):=by
 unfold die;simp only []
 repeat' first
  | trivial
  | exact Al3 _ _ _ _ _
  | exact Alx _ _ _ _
  | exact Asf _
  | (rename_i h;exact Ir h)
  | (rename_i h;exact Vy h)
  | (rename_i h;exact Hp (oM h) (mZ _ _ _ _))
  | (rename_i h;exact Lg (ZO h))
  | (rename_i h;exact Lg (Hp (AaM h) (mZ _ _ _ _)))
  | split
theorem Alz{w:World}{c:Prop}[Decidable c]{a b:GStep}(ha:Dn w a)(hb:Dn w b):Dn w (if c then a else b):=by split<;>assumption
theorem nA(p:Program)(b:Bool)(fr:Frame)(cs:List Frame)(d:Option Dying)(v:Value)(w:World):Dn w (doReturn p b fr cs d v w):=by
 unfold doReturn;simp only []
 repeat' first
  | trivial
  | exact Asf _
  | split
theorem Alu(p:Program)(fr:Frame)(cs:List Frame)(dy:Option Dying)(d:Deferred)(w:World):Dn w (callDeferred p fr cs dy d w):=by
 unfold callDeferred;refine Alz trivial ?_
 ·generalize hx:(invoke d.target d.args).runT p w #[]=x;obtain⟨r,es⟩:=x;simp only [];refine Lg ?_
  cases r with
  | ok a w'=>
   have hd:=Vy hx
   cases a<;>(try simp only [])<;>repeat' first
    | trivial
    | exact hd
    | (injections;done)
    | (injections;subst_vars;exact hd)
    | split
  | halt h w'=>
   have hd:=oM hx
   cases h<;>(try simp only [])<;>repeat' first
    | trivial
    | exact hd
    | (injections;done)
    | (injections;subst_vars;exact hd)
    | exact Hp hd (yt _ _ _ _ _ _)
    | exact Hp hd (Zy _ _ _)
    | split
theorem mY(p:Program)(fr:Frame)(cs:List Frame)(d:Option Dying)(g:Nat)(w:World):Dn w (early p fr cs d g w):=by
 unfold early;simp only []
 repeat' first
  | trivial
  | exact Asf _
  | (refine Hp (Ir (by assumption)) ?_)
  | split
theorem Al2 (p : Program) (b : Bool) (fr : Frame) (cs : List Frame) (d : Option Dying) (w : World) : Dn w (unwind p b fr cs d w) := by
  unfold unwind
  split
  · generalize hx : (Instr.takeDeferred _).runT p w #[] = x
    obtain ⟨r, es⟩ := x
    simp only []
    refine Lg ?_
    cases r with
    | ok a w' => exact Vy hx
    | halt h w' => trivial
  · exact Alu _ _ _ _ _ _
  · repeat' first
      | trivial
      | exact Asf _
      | (rename_i h; exact Ir h)
      | exact mZ _ _ _ _
      | exact nA _ _ _ _ _ _ _
      | (generalize hx : (results _ _).runT p w #[] = x
         obtain ⟨r, es⟩ := x
         simp only []
         refine Lg ?_
         cases r with
         | ok a w' => exact Hp (Vy hx) (nA _ _ _ _ _ _ _)
         | halt h w' => cases h <;> trivial)
      | split
theorem Zx(p:Program)(b:Bool)(fr:Frame)(cs:List Frame)(d:Option Dying)(s:Sem Next)(w:World):Dn w (stepG.apply p b fr cs d s w):=by
 unfold stepG.apply
 have hr:(if b=true then s.runT p w #[] else (s.run p w,#[])).1=s.run p w:=by
  split
  ·exact Sem.runT_fst p s w #[]
  ·rfl
 generalize hx:(if b=true then s.runT p w #[] else (s.run p w,#[]))=x at hr;obtain⟨r,es⟩:=x;simp only []at hr;simp only [];refine Lg ?_
 cases r with
 | ok a w'=>
  have hd:=Ir hr.symm
  cases a<;>(try simp only [])<;>repeat' first
   | trivial
   | exact hd
   | (injections;done)
   | (injections;subst_vars;exact hd)
   | (injections;subst_vars;exact Hp hd (mY _ _ _ _ _ _))
   | exact Hp hd (Zy _ _ _)
   | split
 | halt h w'=>
  have hd:=ZP hr.symm
  cases h<;>(try simp only [])<;>repeat' first
   | trivial
   | exact hd
   | (injections;done)
   | (injections;subst_vars;exact hd)
   | (injections;subst_vars;exact Hp hd (mY _ _ _ _ _ _))
   | exact Hp hd (yt _ _ _ _ _ _)
   | exact Hp hd (Zy _ _ _)
   | exact Hp hd (mY _ _ _ _ _ _)
   | split
theorem Al0(p:Program)(b:Bool)(fr:Frame)(cs:List Frame)(d:Option Dying)(w:World):Dn w (stepG.oper p b fr cs d w):=by
 unfold stepG.oper
 split
 ·trivial
 ·split<;>exact Zx _ _ _ _ _ _ _
theorem yr{α:Type}{w:World}(o:Option α)(a:GStep)(f:α→GStep)(ha:Dn w a)(h:∀x,Dn w (f x)):Dn w (o.elim a f):=by
 cases o
 ·exact ha
 ·exact h _
theorem Aly(p:Program)(m b:Bool)(fr:Frame)(cs:List Frame)(d:Option Dying)(w:World):Dn w (stepG.exec p m b fr cs d w):=by
 unfold stepG.exec;simp only []
 split
 all_goals repeat' first
  | trivial
  | exact Asf _
  | exact Al0 _ _ _ _ _ _
  | exact Zx _ _ _ _ _ _ _
  | (rename_i h;exact Ir h)
  | refine yr _ _ _ ?_ (fun _=>Asf _)
  | exact yr _ _ _ trivial (fun _=>Zx _ _ _ _ _ _ _)
  | (rename_i h;exact Lg (Hp (ZO h) (nA _ _ _ _ _ _ _)))
  | (rename_i h;exact Lg (Hp (ZO h) (Zx _ _ _ _ _ _ _)))
  | (rename_i h;exact Lg (ZO h))
  | (rename_i h;exact Lg (AaM h))
  | split
theorem Al1(p:Program)(m:Bool)(g:Goroutine)(w:World)(b:Bool):Dn w (stepG p m g w b):=by
 obtain⟨fr,callers,status,dying,offers⟩:=g;simp only [stepG]
 split
 ·exact Alv _ _ _ _
 ·exact Aly _ _ _ _ _ _ _
 ·exact Al2 _ _ _ _ _ _
/-! ### The machine -/
def Oa(w:World):Stepped→Prop
 | .next m=>w.drawn<=m.world.drawn
 | .ended _ _=>True
theorem P9{w w':World}{g:Stepped}(h:w.drawn<=w'.drawn)(k:Oa w' g):Oa w g:=by
 cases g<;>first|exact Asq h k|trivial
def Vj(w:World):Move→Prop
 | .goroutine m _=>w.drawn<=m.world.drawn
 | .machine s _=>Oa w s
theorem Vk{w w':World}{g:Move}(h:w.drawn<=w'.drawn)(k:Vj w' g):Vj w g:=by
 cases g
 ·exact Asq h k
 ·exact P9 h k
theorem AoY{rest:Rest}{cases:Array CommCase}{w w':World}(h:waitingAt rest cases w=some w'):w'.drawn=w.drawn:=by
 unfold waitingAt at h
 repeat' first
  | (cases h;done)
  | (simp only [Asj]at h;subst h;rfl)
  | split at h
theorem Al6(p:Program)(rest:Rest)(gs:Array Goroutine)(i:Nat)(g:Goroutine)(cases:Array CommCase)(b:Bool)(shape:CommShape)(w:World):Oa w (communicate p rest gs i g cases b shape w).1:=by
 unfold communicate;simp only []
 repeat' first
  | trivial
  | exact Asf _
  | (refine P9 (Ir (by assumption)) ?_)
  | (refine P9 (ZP (by assumption)) ?_)
  | (rename_i h;exact Nat.le_of_eq (AoY h).symm)
  | split
theorem yv(p:Program)(gs:Array Goroutine)(rest:Rest)(w:World):Oa w (look p gs rest w):=by
 unfold look;simp only []
 repeat' first
  | trivial
  | exact Asf _
  | (refine P9 (Ir (by assumption)) ?_)
  | split
theorem Al8(p:Program)(m:Machine)(k:Nat):Oa m.world (serve p m k):=by
 unfold serve;simp only []
 repeat' first
  | trivial
  | exact Asf _
  | split
theorem Ao7{m m':Machine}{op:TimerOp}{v:Value}(h:timerOp m op=.ok (v,m')):m'.world.drawn=m.world.drawn:=by
 have hd:∀(w:World) (c:Nat),(drain w c).2.drawn=w.drawn:=by intro w c;unfold drain;split<;>rfl
 have hr:∀(m:Machine) (k:Nat) (t:Timer) (a b:Nat),(retime m k t a b).2.world.drawn=m.world.drawn:=by
  intro m k t a b;unfold retime
  cases t.chan with
  | none=>rfl
  | some c=>exact hd _ _
 have hn:∀(m m0:Machine) (var:Addr) (f:Nat→Timer→Value×Machine),(∀k t,(f k t).2.world.drawn=m0.world.drawn)→∀{v m'},timerOp.named m var f=.ok (v,m')→m'.world.drawn=m0.world.drawn:=by
  intro m m0 var f hf v m' h;unfold timerOp.named at h
  split at h
  ·simp only [Except.ok.injEq]at h;have:=hf (by assumption) (m.rest.timers.getD (by assumption) default);rw [h]at this;exact this
  ·cases h
 have ho:∀{m m':Machine} {var:Addr},timerOp.opened m var=some m'→m'.world.drawn=m.world.drawn:=by
  intro m m' var h;unfold timerOp.opened at h
  repeat' first
   | (cases h;done)
   | (simp only [Asj]at h;subst h;rfl)
   | split at h
 unfold timerOp at h;simp only []at h
 repeat' first
  | (cases h;done)
  | (simp only [Except.ok.injEq,Prod.mk.injEq]at h;obtain⟨_,rfl⟩:=h;rfl)
  | exact hn _ _ _ _ (fun k t=>hr _ _ _ _ _) h
  | (rename_i h1;exact(hn _ _ _ _ (fun k t=>hr _ _ _ _ _) h).trans (ho h1))
  | split at h
theorem Al7(p:Program)(m:Machine)(i:Nat)(b:Bool):Oa m.world (runT p m i b).1:=by
 simp only [runT];generalize m.gs.swapAt! _ _=gg;have hs:=Al1 p (i == 0) gg.1 m.world b
 revert hs
 generalize stepG p _ gg.1 m.world b=s;intro hs
 cases s<;>simp only [Dn]at hs<;>(try simp only [])
 all_goals repeat' first
  | trivial
  | exact hs
  | exact P9 hs (Al6 _ _ _ _ _ _ _ _ _)
  | exact P9 hs (yv _ _ _ _)
  | (rename_i h;exact Asq hs (Nat.le_of_eq (Ao7 h).symm))
  | split
theorem Aec{p:Program}{α:Type}{s:Sem α}{W w':World}{gs:Array Goroutine}{rest:Rest}{t:Nat}{a:α}(h:s.run p (Machine.advanceTo ⟨W,gs,rest⟩ t).world=.ok a w'):W.drawn<=w'.drawn:=by have:=Ir h;exact this
theorem nB(p:Program)(m:Machine):Vj m.world (askOn p m):=by
 unfold askOn;simp only []
 repeat' first
  | trivial
  | exact Asf _
  | exact Al8 _ _ _
  | (refine Vk (Ir (by assumption)) ?_)
  | (refine Vk (Aec (by assumption)) ?_)
  | split
theorem yu(p:Program)(m:Machine):Vj m.world (ask p m):=by
 unfold ask
 split
 ·split
  ·trivial
  ·refine Vk (Ir (by assumption)) ?_;have:=yv p m.gs m.rest (by assumption)
   split
   ·rename_i h;rw [h]at this;exact Vk this (nB _ _)
   ·rename_i e _;cases e<;>first|exact absurd rfl (by assumption)|trivial
  ·exact Vk (Ir (by assumption)) (nB _ _)
 ·exact nB _ _
theorem Al4(p:Program)(m:Machine):Vj m.world (move p m):=by
 unfold move
 repeat' first
  | trivial
  | exact Asf _
  | exact yu p _
  | exact yu p {m with rest:={m.rest with slice:=none}}
  | split
theorem Al9(p:Program)(m:Machine):Oa m.world (step p m):=by
 have hm:=Al4 p m;unfold step stepT
 cases h:move p m with
 | goroutine m1 i=>rw [h]at hm;exact P9 hm (Al7 p m1 i true)
 | machine s ops=>rw [h]at hm;exact hm
theorem AaL(p:Program):∀(n:Nat) (m m':Machine),runN p n m=.next m'→m.world.drawn<=m'.world.drawn
 | 0,m,m',h=>by simp only [runN,Stepped.next.injEq]at h;rw [h];exact Asf _
 | n+1,m,m',h=>by
  have hs:=Al9 p m;unfold runN at h
  cases h1:step p m with
  | next m1=>rw [h1]at h hs;exact Asq hs (AaL p n m1 m' h)
  | ended o w=>rw [h1]at h;cases h
theorem Steps.drawn{P:Program}{m m':Machine}(h:Steps P m m'):m.world.drawn<=m'.world.drawn:=by
 obtain⟨n,hn⟩:=h;exact AaL P n m m' hn
theorem Calls.drawn{P:Program}{f:FuncId}{args:Array Value}{w:World}{R:Ending→World→Prop}(h:Calls P f args w R)(hr:∀e w',R e w'→∃v,e=.returned v):Calls P f args w fun e w'=>R e w'/\w.drawn<=w'.drawn:=by
 intro cs;obtain⟨e,w',fr,h1,h2,h3⟩:=h cs;obtain⟨v,rfl⟩:=hr e w' h1;exact⟨_,w',fr,⟨h1,Steps.drawn h2⟩,h2,h3⟩
theorem Aa.grow{w w':World}(h:Aa w w')(hd:w.drawn<=w'.drawn):∃q os,w'=Go.Sort.grow (w.drewN q) os:=by
 refine⟨w'.drawn-w.drawn,w'.heap.extract w.heap.size w'.heap.size,?_⟩
 have hh:w.heap++w'.heap.extract w.heap.size w'.heap.size=w'.heap:=by
  apply Array.ext_getElem?;intro i;rw [Array.getElem?_append]
  split
  ·rename_i hi;exact(h.block i hi).symm
  ·rename_i hi
   rw [Array.getElem?_extract]
   split
   ·congr 1;omega
   ·rw [Array.getElem?_eq_none (by omega)]
 have h1:=h.os;have h2:=h.tape;have h3:=h.output;unfold Go.Sort.grow World.drewN;simp only;rw [hh,Nat.add_sub_of_le hd,←h1,←h2,←h3]
end Go.Proofs.YtdaefncphfeaeaaGreatDoor
