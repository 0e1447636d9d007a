/- Z41: QCA QCR QC. -/
import Derived.Test.YtdaefncphfeaeaaGreatDoorZ37
import Derived.Test.YtdaefncphfeaeaaGreatDoorZ12
set_option maxRecDepth 100000
set_option maxHeartbeats 16000000
namespace Go.Proofs.YtdaefncphfeaeaaGreatDoor
open Go.RowKit Kl
def lenV:Value→Nat
 | .slice _ n _=>n
 | _=>0
theorem Ak5{w:World}{B:Nat}{e:TypeId}{s n:Nat}{v:Value}{xs:List Value}(h:w.ownsRow B e s v n xs):lenV v=n:=by
 rcases h.2 with⟨h',rfl⟩|⟨g,cap,cur,h',_⟩
 ·rw [h'];rfl
 ·rw [h'];rfl
theorem nI{w:World}{B:Nat}{e:TypeId}{s n c:Nat}{A:Option Addr}{xs:List Value}(h:w.ownsRow B e s (.slice A n c) n xs)(hn:0<n):∃g,A=some ⟨g,0,none⟩:=by
 rcases h.2 with⟨h',_⟩|⟨g,cap,cur,h',_⟩
 ·simp only [Value.slice.injEq]at h';omega
 ·simp only [Value.slice.injEq]at h';exact⟨g,h'.1⟩
theorem eh:∀(l:List Hf) (k:Nat) (y:Hf),(((((Bl l).set (k*5) (S (R y.a.x))).set (k*5+1) (S (R y.a.y))).set (k*5+2) (S (R y.b.x))).set (k*5+3) (S (R y.b.y))).set (k*5+4) (.int .i64 y.l)=Bl (l.set k y)
 | [],_,_=>by simp [Bl]
 | p::l,0,_=>rfl
 | p::l,k+1,y=>by
  have e:Bl (p::l)=S (R p.a.x)::S (R p.a.y)::S (R p.b.x)::S (R p.b.y) :: .int .i64 p.l::Bl l:=rfl;have e1:(k+1)*5=k*5+1+1+1+1+1:=(by omega);rw [e,e1];simp only [List.set_cons_succ,eh l k y]
  rfl
theorem y9{W:World}{B g n c:Nat}{l:List Hf}(h:W.ownsRow B 137 5 (.slice (some ⟨g,0,none⟩) n c) n (Bl l))(k:Nat)(y:Hf) :
  (((((W.setCell ⟨g,k*5,none⟩ (S (R y.a.x))).setCell ⟨g,k*5+1,none⟩ (S (R y.a.y))).setCell ⟨g,k*5+2,none⟩ (S (R y.b.x))).setCell ⟨g,k*5+3,none⟩ (S (R y.b.y))).setCell ⟨g,k*5+4,none⟩ (.int .i64 y.l)).ownsRow B 137 5 (.slice (some ⟨g,0,none⟩) n c) n (Bl (l.set k y)):=by
 have h5:=((((((((h.stored (k*5) (S (R y.a.x))).1.stored (k*5+1) (S (R y.a.y))).1.stored (k*5+2) (S (R y.b.x))).1).stored (k*5+3) (S (R y.b.y))).1).stored (k*5+4) (.int .i64 y.l))).1
 rwa [eh]at h5
theorem tR{K:Nat→Prop}{w W:World}(h:AH K w W){g:Nat}(hg:K g)(k:Nat)(y:Hf) :
  AH K w (((((W.setCell ⟨g,k*5,none⟩ (S (R y.a.x))).setCell ⟨g,k*5+1,none⟩ (S (R y.a.y))).setCell ⟨g,k*5+2,none⟩ (S (R y.b.x))).setCell ⟨g,k*5+3,none⟩ (S (R y.b.y))).setCell ⟨g,k*5+4,none⟩ (.int .i64 y.l)):=
 ((((h.setCell (p:=⟨g,k*5,none⟩) (.inl hg) _).setCell (p:=⟨g,k*5+1,none⟩) (.inl hg) _).setCell (p:=⟨g,k*5+2,none⟩) (.inl hg) _).setCell (p:=⟨g,k*5+3,none⟩) (.inl hg) _).setCell (p:=⟨g,k*5+4,none⟩) (.inl hg) _
theorem Ey.set{n:Nat}{l:List Hf}(h:Ey n l)(k:Nat){y:Hf}(hy:y∈l):Ey n (l.set k y):=by
 intro z hz
 rcases List.mem_or_eq_of_mem_set hz with e|e
 ·exact h z e
 ·rw [e];exact h y hy
section
variable {ops : Array Oper} {rest : List Oper} {o : Oper} {a : Act} {Q : Exit → Act → World → Prop}
theorem Aep(hgd:o.guard=none)(s x:Operand)(ho:o.op=.call {callee:=.builtin .append,args:=#[s,x],argTypes:=#[39,39]})
  (wN:World) (base:Nat) (v:Value) (n:Nat) (l:List Pt) (hs:a.eval s=v) (hown:wN.ownsRow base 35 2 v n (flat (AI l))) (hn:n<200000) (d:Pt)
  (g:Nat) (hb:wN.heap[g]?=some (.cells #[S (R d.x),S (R d.y)] 35)) (hx:a.eval x=.slice (some ⟨g,0,none⟩) 1 1) (hbase:base<=wN.heap.size)
  (h:∀v' w',w'.ownsRow base 35 2 v' (n+1) (flat (AI (l ++ [d])))→wN.grownBy w' v.ownBlock→wpList Tryz.prog ops Q rest (a.put o.dst v') w') :
  wpList Tryz.prog ops Q (o::rest) a wN:=
 wpList_plain hgd fun _ hK=>pL s x ho wN base v n l hs hown hn d g hb hx hbase fun v' w' h1 _ h3=>hK _ _ (h v' w' h1 h3)
end
structure MQ(W3 wr:World)(bM:Nat)(P:Value)(pts:List Pt):Prop where
 cM:wr.heap[bM]?=some (.cells #[P,.slice none 0 0,.slice none 0 0] 43)
 own:wr.ownsRow W3.heap.size 35 2 P pts.length (flat (AI pts))
 but:AH (fun q=>q=bM) W3 wr
 sheet:∀p∈pts,BL p
theorem MQ.ext{W3 wr w':World}{bM:Nat}{P:Value}{pts:List Pt}(h:MQ W3 wr bM P pts)(hx:Aa wr w'):MQ W3 w' bM P pts:=
 ⟨(hx.block _ (Asd h.cM)).trans h.cM,Ap h.own hx,h.but.ext hx,h.sheet⟩
theorem MQ.app{W3 wr W7:World}{bM:Nat}{P P':Value}{pts:List Pt}(h:MQ W3 wr bM P pts)(Du:bM<W3.heap.size){p:Pt}(hp:BL p){E4:World}(hE:Aa wr E4)(hg:E4.grownBy W7 P.ownBlock)(ho:W7.ownsRow W3.heap.size 35 2 P' (pts.length+1) (flat (AI (pts ++ [p])))) :
  W7.heap[bM]?=some (.cells #[P,.slice none 0 0,.slice none 0 0] 43)/\MQ W3 (W7.setCell ⟨bM,0,none⟩ P') bM P' (pts ++ [p]):=by
 have hne:=AL h.own h.cM (by decide);have h7:=(hg.block bM (Asp (Asd h.cM) hE.size) (fun e=>hne e.symm)).trans ((hE.block bM (Asd h.cM)).trans h.cM);have hq:=AL ho h7 (by decide);refine⟨h7,?_,?_,?_,?_⟩
 ·simp only [World.setCell,Array.getElem?_modify,h7];simp
 ·rw [List.length_append,List.length_singleton];exact DG (K:=fun q=>q=bM) ho ((AH.refl (fun q=>q=bM) W7).setCell (p:=⟨bM,0,none⟩) (.inl rfl) P') (fun k hk e=>by subst e;exact hq hk)
 ·exact((h.but.ext hE).own hg (Ap h.own hE) (Asf _)).setCell (p:=⟨bM,0,none⟩) (.inl rfl) P'
 ·intro x hx
  rcases List.mem_append.1 hx with k|k
  ·exact h.sheet x k
  ·simp only [Ass]at k;rw [k];exact hp
theorem Agc(l:List AO)(d:AO):Ce (l ++ [d])=Ce l ++ [.int .i64 d.f,.int .i64 d.t,.int .i64 d.l,.int .i64 d.r]:=by simp [Ce]
section
variable {ops : Array Oper} {rest : List Oper} {o : Oper} {a : Act} {K : Act → World → Prop} {Q : Exit → Act → World → Prop} {E : Prop}
theorem wp_appEd(s x:Operand)(ho:o.op=.call {callee:=.builtin .append,args:=#[s,x],argTypes:=#[40,40]})
  (wN:World) (base:Nat) (v:Value) (n:Nat) (l:List AO) (hs:a.eval s=v) (hown:wN.ownsRow base 59 4 v n (Ce l)) (hn:n<200000) (d:AO)
  (g:Nat) (hb:wN.heap[g]?=some (.cells #[.int .i64 d.f,.int .i64 d.t,.int .i64 d.l,.int .i64 d.r] 59)) (hx:a.eval x=.slice (some ⟨g,0,none⟩) 1 1) (hbase:base<=wN.heap.size)
  (h:∀v' w',w'.ownsRow base 59 4 v' (n+1) (Ce (l ++ [d]))→wN.grownBy w' v.ownBlock→K (a.put o.dst v') w') :
  Oper.wp Tryz.prog o a wN K Q:=by
 obtain⟨i0,hi,hz0,hz1,hz2⟩:=info_parts Tryz.infoEd;refine Sj s x 40 ho 59 i0 _ 4 32 1 Tryz.underlying40 hi hz0 hz1 hz2 rfl (by omega) (by omega) (by omega) wN base v n _ hs hown hn g _ hb rfl ?_ hx hbase ?_
 ·intro u hu;simp only [List.mem_cons,Asr,or_false]at hu
  rcases hu with rfl|rfl|rfl|rfl<;>rfl
 ·intro v' w' h1 _ h3;refine h v' w' ?_ h3;rw [Agc];exact h1
end
structure JB(W5 wr:World)(n bx AY bM bU:Nat)(U:Option Addr)(cu:Nat)(AC:List Bs)(P E F:Value)(nums:List Int)(Al:List Bs)(eds:List AO):Prop where
 nam:Ky wr W5.heap.size n bx AY bM bU U cu AC P E F nums Al
 own:wr.ownsRow W5.heap.size 59 4 E eds.length (Ce eds)
 but:AH (fun q=>q=AY∨q=bM) W5 wr
theorem JB.extn{W5 wr w':World}{n bx AY bM bU:Nat}{U:Option Addr}{cu:Nat}{AC:List Bs}{P E F:Value}{nums:List Int}{Al:List Bs}{eds:List AO}(h:JB W5 wr n bx AY bM bU U cu AC P E F nums Al eds)(hx:Aa wr w'):JB W5 w' n bx AY bM bU U cu AC P E F nums Al eds:=
 ⟨h.nam.extn hx,Ap h.own hx,h.but.ext hx⟩
theorem JB.name{W5 wr w':World}{n bx AY bM bU:Nat}{U:Option Addr}{cu:Nat}{AC:List Bs}{P E F F':Value}{nums Zr:List Int}{Al Nf:List Bs}{eds:List AO}(h:JB W5 wr n bx AY bM bU U cu AC P E F nums Al eds)
  (hn:Ky w' W5.heap.size n bx AY bM bU U cu AC P E F' Zr Nf) (hb:AH (fun k=>k=AY∨k=bM∨F.ownBlock=some k) wr w'):JB W5 w' n bx AY bM bU U cu AC P E F' Zr Nf eds:=by
 obtain⟨cn,By⟩:=Kk h.nam.num;refine⟨hn,DG h.own hb ?_,?_⟩
 ·rintro k hk (e|e|e)
  ·subst e;exact AL h.own By (by decide) hk
  ·subst e;exact AL h.own h.nam.cM (by decide) hk
  ·rcases h.nam.fac.2 with⟨h',_⟩|⟨g,cap,cur,h',_,hgb,_⟩
   ·rw [h']at e;cases e
   ·rw [h']at e;simp only [Value.ownBlock,Asj]at e;subst e;exact AL h.own hgb (by decide) hk
 ·refine⟨hb.os.trans h.but.os,hb.tape.trans h.but.tape,hb.output.trans h.but.output,Asq h.but.size hb.size,fun k hk Js=>?_⟩;refine(hb.block k (Asp hk h.but.size) ?_).trans (h.but.block k hk Js);rintro(e|e|e)
  ·exact Js (.inl e)
  ·exact Js (.inr e)
  ·have:=(h.nam.fac.lt k e).1;omega
theorem JB.app{W5 wr W7:World}{n bx AY bM bU:Nat}{U:Option Addr}{cu:Nat}{AC:List Bs}{P E E' F:Value}{nums:List Int}{Al:List Bs}{eds:List AO}(h:JB W5 wr n bx AY bM bU U cu AC P E F nums Al eds)
  {d:AO} {X4:World} (hE:Aa wr X4) (hg:X4.grownBy W7 E.ownBlock) (ho:W7.ownsRow W5.heap.size 59 4 E' (eds.length+1) (Ce (eds ++ [d]))) :
  W7.heap[bM]?=some (.cells #[P,E,F] 43)/\JB W5 (W7.setCell ⟨bM,1,none⟩ E') n bx AY bM bU U cu AC P E' F nums Al (eds ++ [d]):=by
 have h4:=h.extn hE;obtain⟨cn,By⟩:=Kk h4.nam.num;have e1:=AL h4.own h4.nam.cM (by decide);have e2:=AL h4.own By (by decide);have e3:=AL h4.own h4.nam.cN (by decide);have e4:=AL h4.own h4.nam.cU (by decide);have g7:∀{j:Nat} {o:Obj},X4.heap[j]?=some o→E.ownBlock≠some j→W7.heap[j]?=some o:=fun {j o} hj hn=>(hg.block j (Asd hj) (fun e=>hn e.symm)).trans hj;have h7:=g7 h4.nam.cM e1;have n1:=Hb By h4.nam.cM (by decide);have n2:=Hb h4.nam.cN h4.nam.cM (by decide);have n3:=Hb h4.nam.cU h4.nam.cM (by decide);have bb:=(AH.refl (fun k=>k=bM) W7).setCell (p:=⟨bM,1,none⟩) (.inl rfl) E'
 have kp:∀{e:TypeId} {s m:Nat} {v:Value} {xs:List Value} {B:Nat},X4.ownsRow B e s v m xs→e≠59→e≠43→(W7.setCell ⟨bM,1,none⟩ E').ownsRow B e s v m xs:=by
  intro e s m v xs B hv hne IB
  have EI:W7.ownsRow B e s v m xs:=hv.kept hg (by
   cases hE:E.ownBlock with
   | none=>cases hv':v.ownBlock with
    | none=>exact .inl rfl
    | some k=>exact .inr (by simp)
   | some k=>
    refine .inr (fun e0=>?_)
    rcases h4.own.2 with⟨h',_⟩|⟨g,cap,cur,h',_,hgb,_⟩
    ·rw [h']at hE;cases hE
    ·rw [h']at hE;simp only [Value.ownBlock,Asj]at hE;subst hE
     exact AL hv hgb hne e0)
  exact DG EI bb (fun k hk e0=>by subst e0;exact AL EI h7 IB hk)
 refine⟨h7,⟨?_,kp h4.nam.num (by decide) (by decide),?_,kp h4.nam.fac (by decide) (by decide),?_,kp h4.nam.uni (by decide) (by decide),h.nam.uB,h.nam.lenN,h.nam.lenU,h.nam.cu1,h.nam.cu2,h.nam.rng,h.nam.cnt,h.nam.txt⟩,?_,?_⟩
 ·rw [EP (by show bx≠bM;exact n2)];exact g7 h4.nam.cN e3
 ·simp only [World.setCell,Array.getElem?_modify,h7];simp
 ·rw [EP (by show bU≠bM;exact n3)];exact g7 h4.nam.cU e4
 ·rw [List.length_append,List.length_singleton];exact DG ho bb (fun k hk e0=>by subst e0;exact AL ho h7 (by decide) hk)
 ·exact(h4.but.own hg h4.own (Asf _)).setCell (p:=⟨bM,1,none⟩) (.inl (.inr rfl)) E'
structure MapAt(w:World)(n:Nat)(AC:List Bs)(A B F:Option Addr)(c d g:Nat)(m:B7)(Al:List Bs):Prop where
 cap:IW m c d g
 pts:Am w A (flat (AI m.pts))
 eds:Am w B (Ce m.eds)
 fac:Am w F (Al.map S)
 nf:m.nf=Al.length
 le:Al.length<=n
 sheet:∀p∈m.pts,BL p
 txt:∀s∈Al,s∈AC
structure Lz(n:Nat)(A B F:Option Addr):Prop where
 a:∀x,A=some x→n<=x.block
 b:∀x,B=some x→n<=x.block
 f:∀x,F=some x→n<=x.block
theorem Lz.mono{n k:Nat}{A B F:Option Addr}(h:Lz n A B F)(hk:k<=n):Lz k A B F:=
 ⟨fun x e=>Asq hk (h.a x e),fun x e=>Asq hk (h.b x e),fun x e=>Asq hk (h.f x e)⟩
theorem Ry{w:World}{B:Nat}{e:TypeId}{s n k c:Nat}{A:Option Addr}{xs:List Value}(h:w.ownsRow B e s (.slice A k c) n xs):∀x,A=some x→B<=x.block:=by
 rintro x rfl;exact(h.lt x.block rfl).1
def rS(w0:World)(n:Nat)(AC:List Bs)(e:Ending)(w':World):Prop:=
 ∃A B F c d g m Al,e=.returned (Dh A B F m c d g)/\MapAt w' n AC A B F c d g m Al/\Aa w0 w'/\Lz w0.heap.size A B F
section
open Go.Shelf
theorem wp_ok{P:Program}{o:Oper}{a:Act}{w w':World}{v:Value}{K:Act→World→Prop}{Q:Exit→Act→World→Prop}(h:(execOp a.eval o).run P w=.ok (.value v) w')(hk:K (a.put o.dst v) w'):o.wp P a w K Q:=by
 unfold Oper.wp;rw [h];exact hk
theorem Acw{P:Program}{Q:Exit→Act→World→Prop}{o:Oper}{a:Act}{w:World}{K:Act→World→Prop}{f:FuncId}{x y:Operand}{ts:Array TypeId}(ho:o.op=.call {callee:=.value (.func f),args:=#[x,y],argTypes:=ts})(hen:Enters P f){u v:Value}(hx:a.eval x=u)(hy:a.eval y=v)
  {R:Ending→World→Prop} (hc:Calls P f #[u,v] w R) (hR:∀e w'',R e w''→∃u,e=.returned u/\K (a.put o.dst u) w''):o.wp P a w K Q:=by
 subst hx;subst hy
 have h2:(execOp a.eval o).run P w=.ok (.enter f #[a.eval x,a.eval y]) w:=by unfold execOp;simp [ho,resolve,invoke,Act.eval,go_sem];exact hen _ w
 unfold Oper.wp;rw [h2,Oper.upon_enter];refine hc.mono fun e w'' h=>?_;obtain⟨u,rfl,hk⟩:=hR e w'' h;exact hk
theorem wp_callv{P:Program}{Q:Exit→Act→World→Prop}{o:Oper}{a:Act}{w:World}{K:Act→World→Prop}{f:FuncId}{t:Nat}{y:Operand}{ts:Array TypeId}{c1 c2 c3:Value}(ho:o.op=.call {callee:=.value (.tmp t),args:=#[y],argTypes:=ts})(hen:Enters P f){v:Value}(hx:a.eval (.tmp t)=.func (.func f) #[] #[c1,c2,c3])(hy:a.eval y=v)
  {R:Ending→World→Prop} (hc:Calls P f #[v,c1,c2,c3] w R) (hR:∀e w'',R e w''→∃u,e=.returned u/\K (a.put o.dst u) w''):o.wp P a w K Q:=by
 subst hy;have hx':a.tmps[t]?.getD undef=.func (.func f) #[] #[c1,c2,c3]:=by rw [←hx];simp [Act.eval]
 have h2:(execOp a.eval o).run P w=.ok (.enter f #[a.eval y,c1,c2,c3]) w:=by unfold execOp;simp [ho,hx',resolve,invoke,Act.eval,go_sem];exact hen _ w
 unfold Oper.wp;rw [h2,Oper.upon_enter];refine hc.mono fun e w'' h=>?_;obtain⟨u,rfl,hk⟩:=hR e w'' h;exact hk
def depB(ops:Array Oper)(l:List (Nat×Nat)):Bool:=l.all fun p=>match ops[p.1]? with
 | some o=>(waits o).contains p.2
 | none=>false
theorem op_at{ops:Array Oper}{L:List (Op×Option Nat)}(h:ops.toList.map (fun o=>(o.op,o.dst))=L){i:Nat}{o:Oper}(ho:ops[i]?=some o):L[i]?=some (o.op,o.dst):=by
 subst h;simp [ho]
def K32(d:Nat):Prop:=128<=d/\d<148
def Ac4(bM bh:Nat)(P E F:Value)(x:Hf)(r1 r2 r3 zl:Int)(vr fn:Value)(zr:Int)(SB:Nat)(E':Value):Nat→Value
 | 0=>.pointer (some ⟨bM,1,none⟩)
 | 1=>E
 | 2=>.agg #[P,E,F]
 | 3=>.pointer (some ⟨bh,0,none⟩)
 | 4=>Ak x.a
 | 5=>.int .i64 r1
 | 6=>.agg #[P,E,F]
 | 7=>.pointer (some ⟨bh,2,none⟩)
 | 8=>Ak x.b
 | 9=>.int .i64 r2
 | 10=>.int .i64 zl
 | 11=>fn
 | 12=>vr
 | 13=>Jo x
 | 14=>.int .i64 r3
 | 15=>.int .i64 zr
 | 16=>.agg #[.int .i64 r1,.int .i64 r2,.int .i64 zl,.int .i64 zr]
 | 17=>.slice (some ⟨SB,0,none⟩) 1 1
 | 18=>E'
 | _=>.pointer (some ⟨bM,1,none⟩)
def Acr:List (Op×Option Nat):=[
 (.fieldAddr 43 (.tmp 8) 1,some 128),(.load 40 (.tmp 128),some 129),(.load 43 (.tmp 8),some 130),(.fieldAddr 137 (.tmp 16) 0,some 131),(.load 35 (.tmp 131),some 132),
 (.call {callee:=.value (.func 160),args:=#[.tmp 130,.tmp 132],argTypes:=#[43,35]},some 133),
 (.load 43 (.tmp 8),some 134),(.fieldAddr 137 (.tmp 16) 1,some 135),(.load 35 (.tmp 135),some 136),
 (.call {callee:=.value (.func 160),args:=#[.tmp 134,.tmp 136],argTypes:=#[43,35]},some 137),
 (.move (.tmp 17),some 138),(.move (.tmp 14),some 139),(.move (.tmp 0),some 140),(.load 137 (.tmp 16),some 141),
 (.call {callee:=.value (.func 81),args:=#[.tmp 140,.tmp 141],argTypes:=#[133,137]},some 142),
 (.call {callee:=.value (.tmp 139),args:=#[.tmp 142],argTypes:=#[3]},some 143),
 (.build 59 #[(0,.tmp 133),(1,.tmp 137),(2,.tmp 138),(3,.tmp 143)],some 144),(.buildSlice 40 1 #[(0,.tmp 144)],some 145),
 (.call {callee:=.builtin .append,args:=#[.tmp 129,.tmp 145],argTypes:=#[40,40]},some 146),(.fieldAddr 43 (.tmp 8) 1,some 147),(.store 40 (.tmp 147) (.tmp 146),none)]
theorem Acy(bM:Nat)(w:World):(Instr.fieldAt 43 (.pointer (some ⟨bM,0,none⟩)) 1).run Tryz.prog w=.ok (.pointer (some ⟨bM,1,none⟩)) w:=by simp [go_sem]
theorem fld_h0(bM:Nat)(w:World):(Instr.fieldAt 137 (.pointer (some ⟨bM,0,none⟩)) 0).run Tryz.prog w=.ok (.pointer (some ⟨bM,0,none⟩)) w:=by simp [go_sem]
theorem fld_h1(bM:Nat)(w:World):(Instr.fieldAt 137 (.pointer (some ⟨bM,0,none⟩)) 1).run Tryz.prog w=.ok (.pointer (some ⟨bM,2,none⟩)) w:=by simp [go_sem]
theorem load_E{w:World}{bM:Nat}{E:Value}(h:w.cell? ⟨bM,1,none⟩=some E):(Instr.loadAt 40 (.pointer (some ⟨bM,1,none⟩))).run Tryz.prog w=.ok E w:=by simp [go_sem,h]
theorem Ac0{w:World}{b o:Nat}{u v:Value}(h:w.cell? ⟨b,o,none⟩=some u)(h':w.cell? ⟨b,o+1,none⟩=some v):(Instr.loadAt 35 (.pointer (some ⟨b,o,none⟩))).run Tryz.prog w=.ok (.agg #[u,v]) w:=by simp [go_sem,h,h']
theorem Acz{w:World}{b:Nat}{u v x:Value}(h:w.heap[b]?=some (.cells #[u,v,x] 43)):(Instr.loadAt 43 (.pointer (some ⟨b,0,none⟩))).run Tryz.prog w=.ok (.agg #[u,v,x]) w:=by
 have h0:=Ab (o:=0) h rfl;have h1:=Ab (o:=1) h rfl;have h2:=Ab (o:=2) h rfl;simp [go_sem,h0,h1,h2]
theorem load_hf{w:World}{b:Nat}{x:Hf}(h:w.heap[b]?=some (.cells #[S (R x.a.x),S (R x.a.y),S (R x.b.x),S (R x.b.y),.int .i64 x.l] 137)):(Instr.loadAt 137 (.pointer (some ⟨b,0,none⟩))).run Tryz.prog w=.ok (Jo x) w:=by
 have h0:=Ab (o:=0) h rfl;have h1:=Ab (o:=1) h rfl;have h2:=Ab (o:=2) h rfl;have h3:=Ab (o:=3) h rfl;have h4:=Ab (o:=4) h rfl;simp [go_sem,h0,h1,h2,h3,h4,Jo]
theorem store_E{w:World}{bM:Nat}{P E F E':Value}(hE:∃A n c,E'=.slice A n c)(h:w.heap[bM]?=some (.cells #[P,E,F] 43)):(Instr.storeAt 40 (.pointer (some ⟨bM,1,none⟩)) E').run Tryz.prog w=.ok () (w.setCell ⟨bM,1,none⟩ E'):=by
 have h0:=Ab (o:=1) h rfl;have h1:=An (o:=1) h;obtain⟨A,n,c,rfl⟩:=hE;simp [go_sem,h0,h1]
theorem built_E(r1 r2 zl zr:Int)(w:World):(Instr.build 59 #[(0,.int .i64 r1),(1,.int .i64 r2),(2,.int .i64 zl),(3,.int .i64 zr)]).run Tryz.prog w=.ok (.agg #[.int .i64 r1,.int .i64 r2,.int .i64 zl,.int .i64 zr]) w:=by simp [go_sem]
theorem builtS_E(r1 r2 zl zr:Int)(w:World):(Instr.buildSlice 40 1 #[(0,.agg #[.int .i64 r1,.int .i64 r2,.int .i64 zl,.int .i64 zr])]).run Tryz.prog w=.ok (.slice (some ⟨w.heap.size,0,none⟩) 1 1) (w.alloc (.cells #[.int .i64 r1,.int .i64 r2,.int .i64 zl,.int .i64 zr] 59)):=by simp [go_sem]
structure C32 where
 W5:World
 W:World
 a0:Act
 ops:Array Oper
 n:Nat
 bx:Nat
 kbn:Nat
 bM:Nat
 bU:Nat
 bh:Nat
 cu:Nat
 U:Option Addr
 kun:List Bs
 P:Value
 E:Value
 F:Value
 nums:List Int
 kfa:List Bs
 eds:List AO
 x:Hf
 r1:Int
 r2:Int
 r3:Int
 zl:Int
 vr:Value
def C32.fn(c:C32):Value:=.func (.func 158) #[] #[.pointer (some ⟨c.bx,0,none⟩),.pointer (some ⟨c.bM,0,none⟩),.pointer (some ⟨c.bU,0,none⟩)]
def C32.slot(c:C32)(zr:Int)(SB:Nat)(E':Value):Nat→Value:=Ac4 c.bM c.bh c.P c.E c.F c.x c.r1 c.r2 c.r3 c.zl c.vr c.fn zr SB E'
def Aco:List (Nat×Nat):=[(1,0),(4,3),(5,2),(5,4),(8,7),(9,6),(9,8),(9,5),(14,12),(14,13),(14,9),(15,11),(15,14),(16,5),(16,9),(16,10),(16,15),(17,16),(18,1),(18,17),(18,15),(20,18),(20,19)]
structure C32.Ok(c:C32):Prop where
 st:JB c.W5 c.W c.n c.bx c.kbn c.bM c.bU c.U c.cu c.kun c.P c.E c.F c.nums c.kfa c.eds
 hb:c.W.heap[c.bh]?=some (.cells #[S (R c.x.a.x),S (R c.x.a.y),S (R c.x.b.x),S (R c.x.b.y),.int .i64 c.x.l] 137)
 hn:c.n<=100000
 el:c.eds.length<200000
 c1:∀w',Aa c.W w'→Calls Tryz.prog 160 #[.agg #[c.P,c.E,c.F],Ak c.x.a] w' (AQ c.r1 w')
 c2:∀w',Aa c.W w'→Calls Tryz.prog 160 #[.agg #[c.P,c.E,c.F],Ak c.x.b] w' (AQ c.r2 w')
 c3:∀w',Aa c.W w'→Calls Tryz.prog 81 #[c.vr,Jo c.x] w' (AQ c.r3 w')
 r3a:-1<=c.r3
 r3b:c.r3<(c.n:Int)
 e8:c.a0.eval (.tmp 8)=.pointer (some ⟨c.bM,0,none⟩)
 e16:c.a0.eval (.tmp 16)=.pointer (some ⟨c.bh,0,none⟩)
 e17:c.a0.eval (.tmp 17)=.int .i64 c.zl
 e14:c.a0.eval (.tmp 14)=c.fn
 e0:c.a0.eval (.tmp 0)=c.vr
 sz:147<c.a0.tmps.size
 op:c.ops.toList.map (fun o=>(o.op,o.dst))=Acr
 dep:depB c.ops Aco=true
 acc:sF c.ops=true
def C32.Ed(c:C32)(w:World)(E' F':Value)(Zr:List Int)(Nf:List Bs)(l:List AO):Prop:=JB c.W5 w c.n c.bx c.kbn c.bM c.bU c.U c.cu c.kun c.P E' F' Zr Nf l
structure J32(c:C32)(zr:Int)(SB:Nat)(E' F':Value)(Zr:List Int)(Nf:List Bs)(l:Array Bool)(a:Act)(w:World):Prop where
 fr:GW K32 c.a0 a
 hf:w.heap[c.bh]?=c.W.heap[c.bh]?
 cl:∀(i:Nat) (o:Oper),c.ops[i]?=some o→l.getD i false=true→∀e∈o.after,Region.binds .any e=true→l.getD e.on false=true
 sl:∀i,i<20→l.getD i false=true→a.eval (.tmp (128+i))=c.slot zr SB E' i
 jpA:l.getD 15 false=false→Aa c.W w
 jpB:l.getD 15 false=true→l.getD 18 false=false→c.Ed w c.E F' Zr Nf c.eds
 jpG:l.getD 17 false=true→l.getD 18 false=false→w.heap[SB]?=some (.cells #[.int .i64 c.r1,.int .i64 c.r2,.int .i64 c.zl,.int .i64 zr] 59)
 jpC:l.getD 18 false=true→l.getD 20 false=false→w.heap[c.bM]?=some (.cells #[c.P,c.E,F'] 43)/\(∃A k d,E'=.slice A k d)/\c.Ed (w.setCell ⟨c.bM,1,none⟩ E') E' F' Zr Nf (c.eds ++ [⟨c.r1,c.r2,c.zl,zr⟩])
 jpD:l.getD 20 false=true→c.Ed w E' F' Zr Nf (c.eds ++ [⟨c.r1,c.r2,c.zl,zr⟩])
def Jx(c:C32)(l:Array Bool)(a:Act)(w:World):Prop:=∃zr SB E' F' Zr Nf,J32 c zr SB E' F' Zr Nf l a w
theorem AbN{ops:Array Oper}{l:Array Bool}(h:∀(i:Nat) (o:Oper),ops[i]?=some o→l.getD i false=true→∀e∈o.after,Region.binds .any e=true→l.getD e.on false=true){i:Nat}{o:Oper}(ho:ops[i]?=some o)(hd:∀e∈o.after,Region.binds .any e=true→l.getD e.on false=true) :
  ∀(j:Nat) (p:Oper),ops[j]?=some p→(l.setIfInBounds i true).getD j false=true→∀e∈p.after,Region.binds .any e=true→(l.setIfInBounds i true).getD e.on false=true:=by
 intro j p hp hl e he hb;by_cases BM:i=j
 ·subst BM;rw [ho]at hp;obtain rfl:=Option.some.inj hp;exact getD_set_true (hd e he hb)
 ·rw [getD_set_ne false BM]at hl;exact getD_set_true (h j p hp hl e he hb)
theorem Acg{l:Array Bool}{a:Act}{i:Nat}{v:Value}{f:Nat→Value}(hs:128+i<a.tmps.size)(hv:v=f i)(h:∀j,j<20→j≠i→l.getD j false=true→a.eval (.tmp (128+j))=f j) :
  ∀j,j<20→(l.setIfInBounds i true).getD j false=true→(a.put (some (128+i)) v).eval (.tmp (128+j))=f j:=by
 intro j hj hl;by_cases BM:i=j
 ·subst BM;rw [eval_put_same hs,hv]
 ·rw [getD_set_ne false BM]at hl;rw [BH _ (by omega)];exact h j hj (fun e=>BM e.symm) hl
section
variable {c : C32} {zr : Int} {SB : Nat} {E' F' : Value} {Zr : List Int} {Nf : List Bs} {l : Array Bool} {a : Act} {w : World}
theorem J32.sz(h:J32 c zr SB E' F' Zr Nf l a w)(ok:c.Ok){d:Nat}(hd:d<=147):d<a.tmps.size:=by
 rw [h.fr.size];have:=ok.sz;omega
theorem J32.need(h:J32 c zr SB E' F' Zr Nf l a w)(ok:c.Ok){i j:Nat}(hm:Aco.contains (i,j)=true)(hi:l.getD i false=true):l.getD j false=true:=by
 have h1:=List.all_eq_true.1 ok.dep (i,j) (by simpa using hm)
 cases ho:c.ops[i]? with
 | none=>rw [ho]at h1;cases h1
 | some o=>rw [ho]at h1;exact VK (h.cl i o ho hi) j h1
theorem J32.put(h:J32 c zr SB E' F' Zr Nf l a w)(ok:c.Ok){i:Nat}{o:Oper}(hi:i<20/\i≠15/\i≠17/\i≠18)(ho:c.ops[i]?=some o)(hd:∀e∈o.after,Region.binds .any e=true→l.getD e.on false=true){v:Value}(hv:v=c.slot zr SB E' i) :
  Jx c (l.setIfInBounds i true) (a.put (some (128+i)) v) w:=by
 refine⟨zr,SB,E',F',Zr,Nf,h.fr.put (by unfold K32;omega) _,h.hf,AbN h.cl ho hd,Acg (h.sz ok (by omega)) hv (fun j hj _ hl=>h.sl j hj hl),?_,?_,?_,?_,?_⟩
 all_goals simp only [getD_set_ne false hi.2.1,getD_set_ne false hi.2.2.1,getD_set_ne false hi.2.2.2,getD_set_ne false (show i≠20 by omega)]
 ·exact h.jpA
 ·exact h.jpB
 ·exact h.jpG
 ·exact h.jpC
 ·exact h.jpD
theorem Acv{c:C32}{z z':Int}{g g':Nat}{E E':Value}{j:Nat}(hj:j<20)(hz:j=15∨j=16→z=z')(hg:j=17→g=g')(hE:j=18→E=E'):c.slot z g E j=c.slot z' g' E' j:=by
 match j,hj with
 | 0,_ | 1,_ | 2,_ | 3,_ | 4,_ | 5,_ | 6,_ | 7,_ | 8,_ | 9,_ | 10,_ | 11,_ | 12,_ | 13,_ | 14,_ | 19,_=>rfl
 | 15,_ | 16,_=>rw [hz (by omega)];rfl
 | 17,_=>rw [hg rfl];rfl
 | 18,_=>rw [hE rfl];rfl
 | n+20,k=>omega
theorem J32.no15(h:J32 c zr SB E' F' Zr Nf l a w)(ok:c.Ok){i:Nat}(hi:i=2∨i=5∨i=6∨i=9∨i=14∨i=15)(hu:l.getD i false=false):l.getD 15 false=false:=by
 cases e:l.getD 15 false
 ·rfl
 ·have eL:=h.need ok (i:=15) (j:=14) (by decide) e;have h9:=h.need ok (i:=14) (j:=9) (by decide) eL;have h5:=h.need ok (i:=9) (j:=5) (by decide) h9;have h2:=h.need ok (i:=5) (j:=2) (by decide) h5;have h6:=h.need ok (i:=9) (j:=6) (by decide) h9
  rcases hi with rfl|rfl|rfl|rfl|rfl|rfl
  all_goals first|(rw [h2]at hu;cases hu)|(rw [h5]at hu;cases hu)|(rw [h6]at hu;cases hu)|(rw [h9]at hu;cases hu)|(rw [eL]at hu;cases hu)|(rw [e]at hu;cases hu)
theorem J32.no18(h:J32 c zr SB E' F' Zr Nf l a w)(ok:c.Ok){i:Nat}(hi:i=1∨i=15∨i=17∨i=18)(hu:l.getD i false=false):l.getD 18 false=false:=by
 cases e:l.getD 18 false
 ·rfl
 ·have h1:=h.need ok (i:=18) (j:=1) (by decide) e;have h15:=h.need ok (i:=18) (j:=15) (by decide) e;have h17:=h.need ok (i:=18) (j:=17) (by decide) e
  rcases hi with rfl|rfl|rfl|rfl
  all_goals first|(rw [h1]at hu;cases hu)|(rw [h15]at hu;cases hu)|(rw [h17]at hu;cases hu)|(rw [e]at hu;cases hu)
theorem J32.no17(h:J32 c zr SB E' F' Zr Nf l a w)(ok:c.Ok)(hu:l.getD 15 false=false):l.getD 17 false=false:=by
 cases e:l.getD 17 false
 ·rfl
 ·have h1:=h.need ok (i:=17) (j:=16) (by decide) e;have h15:=h.need ok (i:=16) (j:=15) (by decide) h1;rw [hu]at h15
  cases h15
theorem J32.no16(h:J32 c zr SB E' F' Zr Nf l a w)(ok:c.Ok)(hu:l.getD 15 false=false):l.getD 16 false=false:=by
 cases e:l.getD 16 false
 ·rfl
 ·have h15:=h.need ok (i:=16) (j:=15) (by decide) e;rw [hu]at h15
  cases h15
theorem J32.no20(h:J32 c zr SB E' F' Zr Nf l a w)(ok:c.Ok)(hu:l.getD 18 false=false):l.getD 20 false=false:=by
 cases e:l.getD 20 false
 ·rfl
 ·have h18:=h.need ok (i:=20) (j:=18) (by decide) e;rw [hu]at h18
  cases h18
theorem J32.hb(h:J32 c zr SB E' F' Zr Nf l a w)(ok:c.Ok):w.heap[c.bh]?=some (.cells #[S (R c.x.a.x),S (R c.x.a.y),S (R c.x.b.x),S (R c.x.b.y),.int .i64 c.x.l] 137):=h.hf.trans ok.hb
theorem J32.grow(h:J32 c zr SB E' F' Zr Nf l a w)(ok:c.Ok)(h15:l.getD 15 false=false){w':World}(hx:Aa w w'):J32 c zr SB E' F' Zr Nf l a w':=by
 have h17:=h.no17 ok h15;have h18:=h.no18 ok (i:=15) (by simp) h15;have h20:=h.no20 ok h18;exact⟨h.fr,(hx.block _ (Asd (h.hb ok))).trans h.hf,h.cl,h.sl,fun e=>(h.jpA e).trans hx,fun e=>(by rw [h15]at e;cases e),fun e=>(by rw [h17]at e;cases e),fun e=>(by rw [h18]at e;cases e),fun e=>(by rw [h20]at e;cases e)⟩
theorem J32.name(h:J32 c zr SB E' F' Zr Nf l a w)(ok:c.Ok){o:Oper}(ho:c.ops[15]?=some o)(hd:∀e∈o.after,Region.binds .any e=true→l.getD e.on false=true)(hu:l.getD 15 false=false)(hsz:l.size=21){w':World}{z:Int}{F2:Value}{Acf:List Int}{Acb:List Bs}
  (hn:Ky w' c.W5.heap.size c.n c.bx c.kbn c.bM c.bU c.U c.cu c.kun c.P c.E F2 Acf Acb) (hb:AH (fun k=>k=c.kbn∨k=c.bM∨c.F.ownBlock=some k) w w') :
  J32 c z SB E' F2 Acf Acb (l.setIfInBounds 15 true) (a.put (some 143) (.int .i64 z)) w':=by
 have hX:=h.jpA hu;have h16:=h.no16 ok hu;have h17:=h.no17 ok hu;have h18:=h.no18 ok (i:=15) (by simp) hu;have h20:=h.no20 ok h18;have hS:=ok.st.extn hX;obtain⟨cn,By⟩:=Kk hS.nam.num;have BA:=h.hb ok;refine⟨h.fr.put (by unfold K32;omega) _,(hb.block c.bh (Asd BA) ?_).trans h.hf,AbN h.cl ho hd,Acg (i:=15) (h.sz ok (by omega)) rfl (fun j hj hj15 hl=>?_),?_,?_,?_,?_,?_⟩
 ·rintro(e|e|e)
  ·exact Hb BA By (by decide) e
  ·exact Hb BA hS.nam.cM (by decide) e
  ·exact AL hS.nam.fac BA (by decide) e
 ·rw [h.sl j hj hl];have e16:j≠16:=(by rintro rfl;rw [h16]at hl;cases hl);exact Acv hj (by omega) (fun _=>rfl) (fun _=>rfl)
 all_goals simp only [KE (show 15<l.size by omega),getD_set_ne false (show (15:Nat)≠17 by omega),getD_set_ne false (show (15:Nat)≠18 by omega),getD_set_ne false (show (15:Nat)≠20 by omega)]
 ·intro e;cases e
 ·intro _ _;exact hS.name hn hb
 ·intro e;rw [h17]at e;cases e
 ·intro e;rw [h18]at e;cases e
 ·intro e;rw [h20]at e;cases e
theorem J32.bslice(h:J32 c zr SB E' F' Zr Nf l a w)(ok:c.Ok){o:Oper}(ho:c.ops[17]?=some o)(hd:∀e∈o.after,Region.binds .any e=true→l.getD e.on false=true)(hu:l.getD 17 false=false)(hsz:l.size=21)(h15:l.getD 15 false=true) :
  J32 c zr w.heap.size E' F' Zr Nf (l.setIfInBounds 17 true) (a.put (some 145) (.slice (some ⟨w.heap.size,0,none⟩) 1 1)) (w.alloc (.cells #[.int .i64 c.r1,.int .i64 c.r2,.int .i64 c.zl,.int .i64 zr] 59)):=by
 have hx:=(Aa.refl w).alloc (.cells #[.int .i64 c.r1,.int .i64 c.r2,.int .i64 c.zl,.int .i64 zr] 59);have h18:=h.no18 ok (i:=17) (by simp) hu;have h20:=h.no20 ok h18;refine⟨h.fr.put (by unfold K32;omega) _,(hx.block _ (Asd (h.hb ok))).trans h.hf,AbN h.cl ho hd,Acg (i:=17) (h.sz ok (by omega)) rfl (fun j hj hj17 hl=>?_),?_,?_,?_,?_,?_⟩
 ·rw [h.sl j hj hl];exact Acv hj (fun _=>rfl) (by omega) (fun _=>rfl)
 all_goals simp only [KE (show 17<l.size by omega),getD_set_ne false (show (17:Nat)≠15 by omega),getD_set_ne false (show (17:Nat)≠18 by omega),getD_set_ne false (show (17:Nat)≠20 by omega)]
 ·intro e;rw [h15]at e;cases e
 ·intro e1 e2;exact(h.jpB e1 e2).extn hx
 ·intro _ _;exact Ase w _
 ·intro e;rw [h18]at e;cases e
 ·intro e;rw [h20]at e;cases e
theorem J32.app(h:J32 c zr SB E' F' Zr Nf l a w)(ok:c.Ok){o:Oper}(ho:c.ops[18]?=some o)(hd:∀e∈o.after,Region.binds .any e=true→l.getD e.on false=true)(hu:l.getD 18 false=false)(hsz:l.size=21)(h15:l.getD 15 false=true){w':World}{v':Value}
  (hw:w'.ownsRow c.W5.heap.size 59 4 v' (c.eds.length+1) (Ce (c.eds ++ [⟨c.r1,c.r2,c.zl,zr⟩]))) (hg:w.grownBy w' c.E.ownBlock) :
  J32 c zr SB v' F' Zr Nf (l.setIfInBounds 18 true) (a.put (some 146) v') w':=by
 have h20:=h.no20 ok hu;have hS:JB c.W5 w c.n c.bx c.kbn c.bM c.bU c.U c.cu c.kun c.P c.E F' Zr Nf c.eds:=h.jpB h15 hu;have BA:=h.hb ok;obtain⟨k1,k2⟩:=JB.app (d:=⟨c.r1,c.r2,c.zl,zr⟩) hS (Aa.refl w) hg hw;obtain⟨A,d,rfl,-,-,-⟩:=Am.of_own' (show 0<4 by omega) hw;refine⟨h.fr.put (by unfold K32;omega) _,(hg.block c.bh (Asd BA) (fun e=>AL hS.own BA (by decide) e.symm)).trans h.hf,AbN h.cl ho hd,Acg (i:=18) (h.sz ok (by omega)) rfl (fun j hj hj18 hl=>?_),?_,?_,?_,?_,?_⟩
 ·rw [h.sl j hj hl];exact Acv hj (fun _=>rfl) (fun _=>rfl) (by omega)
 all_goals simp only [KE (show 18<l.size by omega),getD_set_ne false (show (18:Nat)≠15 by omega),getD_set_ne false (show (18:Nat)≠17 by omega),getD_set_ne false (show (18:Nat)≠20 by omega)]
 ·intro e;rw [h15]at e;cases e
 ·intro _ e;cases e
 ·intro _ e;cases e
 ·intro _ _;exact⟨k1,⟨_,_,_,rfl⟩,k2⟩
 ·intro e;rw [h20]at e;cases e
theorem J32.store(h:J32 c zr SB E' F' Zr Nf l a w)(ok:c.Ok){o:Oper}(ho:c.ops[20]?=some o)(hd:∀e∈o.after,Region.binds .any e=true→l.getD e.on false=true)(hu:l.getD 20 false=false)(hsz:l.size=21)(h18:l.getD 18 false=true) :
  J32 c zr SB E' F' Zr Nf (l.setIfInBounds 20 true) a (w.setCell ⟨c.bM,1,none⟩ E'):=by
 have h15:=h.need ok (i:=18) (j:=15) (by decide) h18;obtain⟨k1,k2,k3⟩:=h.jpC h18 hu;have BA:=h.hb ok;have hne:c.bh≠c.bM:=Hb BA k1 (by decide);refine⟨h.fr,?_,AbN h.cl ho hd,fun j hj hl=>?_,?_,?_,?_,?_,?_⟩
 ·rw [EP (by show c.bh≠c.bM;exact hne)];exact h.hf
 ·rw [getD_set_ne false (show (20:Nat)≠j by omega)]at hl;exact h.sl j hj hl
 all_goals simp only [KE (show 20<l.size by omega),getD_set_ne false (show (20:Nat)≠15 by omega),getD_set_ne false (show (20:Nat)≠17 by omega),getD_set_ne false (show (20:Nat)≠18 by omega)]
 ·intro e;rw [h15]at e;cases e
 ·intro _ e;rw [h18]at e;cases e
 ·intro _ e;rw [h18]at e;cases e
 ·intro _ e;cases e
 ·intro _;exact k3
end
theorem Acn{P:Program}{o:Oper}{a:Act}{w w':World}{v:Value}{K:Act→World→Prop}{Q:Exit→Act→World→Prop}(m:Sem Value)(he:execOp a.eval o=(do pure (.value (←m))))(h:m.run P w=.ok v w')(hk:K (a.put o.dst v) w'):o.wp P a w K Q:=by
 refine wp_ok (v:=v) (w':=w') ?_ hk;rw [he];simp [h]
theorem AbK{P:Program}{o:Oper}{a:Act}{w w':World}{v:Value}{K:Act→World→Prop}{Q:Exit→Act→World→Prop}{t:TypeId}{x:Operand}{D:Option Nat}(p:.load t x=o.op)(d:D=o.dst)(h:(Instr.loadAt t (a.eval x)).run P w=.ok v w')(hk:K (a.put D v) w'):o.wp P a w K Q:=
 Acn (Instr.loadAt t (a.eval x)) (by unfold execOp;rw [←p]) h (d▸hk)
theorem Acm{P:Program}{o:Oper}{a:Act}{w w':World}{v:Value}{K:Act→World→Prop}{Q:Exit→Act→World→Prop}{t:TypeId}{x:Operand}{k:Nat}{D:Option Nat}(p:.fieldAddr t x k=o.op)(d:D=o.dst)(h:(Instr.fieldAt t (a.eval x) k).run P w=.ok v w')(hk:K (a.put D v) w'):o.wp P a w K Q:=
 Acn (Instr.fieldAt t (a.eval x) k) (by unfold execOp;rw [←p]) h (d▸hk)
theorem Acx{P:Program}{o:Oper}{a:Act}{w:World}{K:Act→World→Prop}{Q:Exit→Act→World→Prop}(x:Operand)(h:o.op=.move x)(hk:K (a.put o.dst (a.eval x)) w):o.wp P a w K Q:=by
 unfold Oper.wp execOp;rw [h];exact hk
theorem region32_law{c:C32}(ok:c.Ok){id:Nat}{Q:Exit→Act→World→Prop}
  (hend:∀a w zr E' F' Zr Nf,GW K32 c.a0 a→c.Ed w E' F' Zr Nf (c.eds ++ [⟨c.r1,c.r2,c.zl,zr⟩])→Q .normal a w) :
  (Code.region id c.ops true).wp Tryz.prog Q c.a0 c.W:=by
 have eg1:Enters Tryz.prog 160:=enters_of Tryz.func160 (by kernel_rfl) rfl;have eg2:Enters Tryz.prog 81:=enters_of Tryz.func81 (by kernel_rfl) rfl;have eg3:Enters Tryz.prog 158:=enters_of Tryz.func158 (by kernel_rfl) rfl
 have hsz:c.ops.size=21:=by
  have:=congrArg List.length ok.op
  simpa [Acr]using this
 refine Aph (Jx c) (by kernel_rfl) (fun i o ho=>(sG ok.acc i o ho).2) (fun i o ho=>(sG ok.acc i o ho).1) ?_ ?_ ?_
 ·refine⟨0,0,.slice none 0 0,.slice none 0 0,[],[],?_⟩;constructor
  all_goals try simp only [getD_replicate_false]
  ·exact GW.refl _ _
  ·rfl
  ·intro i o _ e;cases e
  ·intro i _ e;cases e
  ·intro _;exact(Aa.refl c.W).drew
  ·intro e;cases e
  ·intro e;cases e
  ·intro e;cases e
  ·intro e;cases e
 ·rintro l a w i o ⟨zr,SB,E',F',Zr,Nf,h⟩ hls Dx ho Cx;have hi:i<21:=(by have:=(Array.getElem?_eq_some_iff.1 ho).1;omega);have h21:l.size=21:=(by omega);have hL:=op_at ok.op ho;have KN:=VK Cx;have ev:=fun (d:Nat) {v:Value} (e:c.a0.eval (.tmp d)=v) (hd:d<128)=>(h.fr.eval (by unfold K32;omega)).trans e;have e8:=ev 8 ok.e8 (by omega);have e16:=ev 16 ok.e16 (by omega);have e17:=ev 17 ok.e17 (by omega);have e14:=ev 14 ok.e14 (by omega);have e0:=ev 0 ok.e0 (by omega)
  have dep:∀j k,Aco.contains (j,k)=true→j=i→l.getD k false=true:=by rintro j k hjk rfl;have h1:=List.all_eq_true.1 ok.dep (j,k) (by simpa using hjk);rw [ho]at h1;exact KN k h1
  rcases(by omega:i=0∨i=1∨i=2∨i=3∨i=4∨i=5∨i=6∨i=7∨i=8∨i=9∨i=10∨i=11∨i=12∨i=13∨i=14∨i=15∨i=16∨i=17∨i=18∨i=19∨i=20)with rfl|rfl|rfl|rfl|rfl|rfl|rfl|rfl|rfl|rfl|rfl|rfl|rfl|rfl|rfl|rfl|rfl|rfl|rfl|rfl|rfl
  all_goals
   simp only [Acr,List.getElem?_cons_zero,List.getElem?_cons_succ,Asj,Prod.mk.injEq]at hL;obtain⟨p,d⟩:=hL
  ·refine Acm p d (by rw [e8];exact Acy _ _) ?_;exact h.put ok (i:=0) (by omega) ho Cx rfl
  ·have h18:=h.no18 ok (i:=1) (by simp) Dx
   have hc:w.cell? ⟨c.bM,1,none⟩=some c.E:=by
    cases h15:l.getD 15 false
    ·exact Ab (ok.st.extn (h.jpA h15)).nam.cM rfl
    ·exact Ab (JB.nam (h.jpB h15 h18)).cM rfl
   refine AbK p d (by rw [h.sl 0 (by omega) (dep 1 0 (by decide) rfl)];exact load_E hc) ?_;exact h.put ok (i:=1) (by omega) ho Cx rfl
  ·have hX:=h.jpA (h.no15 ok (i:=2) (by simp) Dx);refine AbK p d (by rw [e8];exact Acz (ok.st.extn hX).nam.cM) ?_;exact h.put ok (i:=2) (by omega) ho Cx rfl
  ·refine Acm p d (by rw [e16];exact fld_h0 _ _) ?_;exact h.put ok (i:=3) (by omega) ho Cx rfl
  ·have hc:=h.hb ok;refine AbK p d (by rw [h.sl 3 (by omega) (dep 4 3 (by decide) rfl)];exact Ac0 (Ab (o:=0) hc rfl) (Ab (o:=1) hc rfl)) ?_;exact h.put ok (i:=4) (by omega) ho Cx rfl
  ·have h15:=h.no15 ok (i:=5) (by simp) Dx;refine Acw p.symm eg1 (h.sl 2 (by omega) (dep 5 2 (by decide) rfl)) (h.sl 4 (by omega) (dep 5 4 (by decide) rfl)) (ok.c1 w (h.jpA h15)) ?_;rintro e w'' ⟨rfl,hx⟩;refine⟨_,rfl,?_⟩;rw [←d];exact(h.grow ok h15 hx).put ok (i:=5) (by omega) ho Cx rfl
  ·have hX:=h.jpA (h.no15 ok (i:=6) (by simp) Dx);refine AbK p d (by rw [e8];exact Acz (ok.st.extn hX).nam.cM) ?_;exact h.put ok (i:=6) (by omega) ho Cx rfl
  ·refine Acm p d (by rw [e16];exact fld_h1 _ _) ?_;exact h.put ok (i:=7) (by omega) ho Cx rfl
  ·have hc:=h.hb ok;refine AbK p d (by rw [h.sl 7 (by omega) (dep 8 7 (by decide) rfl)];exact Ac0 (Ab (o:=2) hc rfl) (Ab (o:=3) hc rfl)) ?_;exact h.put ok (i:=8) (by omega) ho Cx rfl
  ·have h15:=h.no15 ok (i:=9) (by simp) Dx;refine Acw p.symm eg1 (h.sl 6 (by omega) (dep 9 6 (by decide) rfl)) (h.sl 8 (by omega) (dep 9 8 (by decide) rfl)) (ok.c2 w (h.jpA h15)) ?_;rintro e w'' ⟨rfl,hx⟩;refine⟨_,rfl,?_⟩;rw [←d];exact(h.grow ok h15 hx).put ok (i:=9) (by omega) ho Cx rfl
  ·refine Acx _ p.symm ?_;rw [←d,e17];exact h.put ok (i:=10) (by omega) ho Cx rfl
  ·refine Acx _ p.symm ?_;rw [←d,e14];exact h.put ok (i:=11) (by omega) ho Cx rfl
  ·refine Acx _ p.symm ?_;rw [←d,e0];exact h.put ok (i:=12) (by omega) ho Cx rfl
  ·refine AbK p d (by rw [e16];exact load_hf (h.hb ok)) ?_;exact h.put ok (i:=13) (by omega) ho Cx rfl
  ·have h15:=h.no15 ok (i:=14) (by simp) Dx;refine Acw p.symm eg2 (h.sl 12 (by omega) (dep 14 12 (by decide) rfl)) (h.sl 13 (by omega) (dep 14 13 (by decide) rfl)) (ok.c3 w (h.jpA h15)) ?_;rintro e w'' ⟨rfl,hx⟩;refine⟨_,rfl,?_⟩;rw [←d];exact(h.grow ok h15 hx).put ok (i:=14) (by omega) ho Cx rfl
  ·have hX:=h.jpA Dx;have hS:=ok.st.extn hX;refine wp_callv p.symm eg3 (h.sl 11 (by omega) (dep 15 11 (by decide) rfl)) (h.sl 14 (by omega) (dep 15 14 (by decide) rfl)) (xu hS.nam ok.hn hS.but.size c.r3 ok.r3a ok.r3b) ?_;rintro e w'' ⟨z,F2,Acf,Acb,rfl,hn,hb⟩;refine⟨_,rfl,?_⟩;rw [←d];exact⟨z,SB,E',F2,Acf,Acb,h.name ok ho Cx Dx h21 hn hb⟩
  ·have s5:a.eval (.tmp 133)=.int .i64 c.r1:=h.sl 5 (by omega) (dep 16 5 (by decide) rfl);have s9:a.eval (.tmp 137)=.int .i64 c.r2:=h.sl 9 (by omega) (dep 16 9 (by decide) rfl);have s10:a.eval (.tmp 138)=.int .i64 c.zl:=h.sl 10 (by omega) (dep 16 10 (by decide) rfl);have s15:a.eval (.tmp 143)=.int .i64 zr:=h.sl 15 (by omega) (dep 16 15 (by decide) rfl);refine Acn (Instr.build 59 #[(0,.int .i64 c.r1),(1,.int .i64 c.r2),(2,.int .i64 c.zl),(3,.int .i64 zr)]) (by unfold execOp;rw [←p];simp [s5,s9,s10,s15]) (built_E _ _ _ _ _) ?_;rw [←d];exact h.put ok (i:=16) (by omega) ho Cx rfl
  ·have h16:=dep 17 16 (by decide) rfl;have h15:=h.need ok (i:=16) (j:=15) (by decide) h16;have s16:a.eval (.tmp 144)=.agg #[.int .i64 c.r1,.int .i64 c.r2,.int .i64 c.zl,.int .i64 zr]:=h.sl 16 (by omega) h16;refine Acn (Instr.buildSlice 40 1 #[(0,.agg #[.int .i64 c.r1,.int .i64 c.r2,.int .i64 c.zl,.int .i64 zr])]) (by unfold execOp;rw [←p];simp [s16]) (builtS_E _ _ _ _ _) ?_;rw [←d];exact⟨zr,w.heap.size,E',F',Zr,Nf,h.bslice ok ho Cx Dx h21 h15⟩
  ·have h15:=dep 18 15 (by decide) rfl;have h17:=dep 18 17 (by decide) rfl;have hS:JB c.W5 w c.n c.bx c.kbn c.bM c.bU c.U c.cu c.kun c.P c.E F' Zr Nf c.eds:=h.jpB h15 Dx;refine wp_appEd _ _ p.symm w c.W5.heap.size c.E c.eds.length c.eds (h.sl 1 (by omega) (dep 18 1 (by decide) rfl)) hS.own ok.el ⟨c.r1,c.r2,c.zl,zr⟩ SB (h.jpG h17 Dx) (h.sl 17 (by omega) h17) hS.but.size ?_;intro v' w' k1 k2;rw [←d];exact⟨zr,SB,v',F',Zr,Nf,h.app ok ho Cx Dx h21 h15 k1 k2⟩
  ·refine Acm p d (by rw [e8];exact Acy _ _) ?_;exact h.put ok (i:=19) (by omega) ho Cx rfl
  ·have h18:=dep 20 18 (by decide) rfl;obtain⟨k1,k2,-⟩:=h.jpC h18 Dx
   have hrun:(execOp a.eval o).run Tryz.prog w=.ok .skip (w.setCell ⟨c.bM,1,none⟩ E'):=by unfold execOp;rw [←p];show (do Instr.storeAt 40 (a.eval (.tmp 147)) (a.eval (.tmp 146));pure Next.skip:Sem Next).run Tryz.prog w=_;rw [h.sl 19 (by omega) (dep 20 19 (by decide) rfl),h.sl 18 (by omega) h18];have:=store_E k2 k1;simp [Ac4,C32.slot,this]
   have AP:Jx c (l.setIfInBounds 20 true) (a.put o.dst undef) (w.setCell ⟨c.bM,1,none⟩ E'):=by rw [←d];exact⟨zr,SB,E',F',Zr,Nf,h.store ok ho Cx Dx h21 h18⟩
   unfold Oper.wp;rw [hrun];exact AP
 ·rintro l a w ⟨zr,SB,E',F',Zr,Nf,h⟩ hall;exact hend a w zr E' F' Zr Nf h.fr (h.jpD (hall 20 (by omega)))
theorem GW.lit32{a0 a:Act}(h:GW K32 a0 a)(hs:147<a0.tmps.size):∃v:Nat→Value,a=⟨(a0.tmps.toList.take 128++([v 0,v 1,v 2,v 3,v 4,v 5,v 6,v 7,v 8,v 9,v 10,v 11,v 12,v 13,v 14,v 15,v 16,v 17,v 18,v 19]++a0.tmps.toList.drop 148)).toArray,a0.defers⟩:=by
 obtain⟨t,dfs⟩:=a;have hd:dfs=a0.defers:=h.defers;have hz:t.size=a0.tmps.size:=h.size;subst hd;refine⟨fun i=>t[128+i]?.getD undef,?_⟩
 congr 1
 apply Array.ext_getElem?;intro d;have hl:(a0.tmps.toList.take 128).length=128:=(by rw [List.length_take,Array.length_toList];omega);refine Eq.trans ?_ List.getElem?_toArray.symm
 dsimp only
 by_cases h1:d<128
 ·rw [List.getElem?_append_left (by omega),List.getElem?_take_of_lt h1,Array.getElem?_toList];exact h.same d (by unfold K32;omega)
 ·rw [List.getElem?_append_right (by omega),hl];by_cases h2:d<148
  ·obtain⟨i,rfl⟩:∃i,d=128+i:=⟨d-128,by omega⟩;rw [List.getElem?_append_left (by simp;omega),Nat.add_sub_cancel_left];have hv:t[128+i]?=some (t[128+i]?.getD undef):=by rw [Array.getElem?_eq_getElem (by omega)];rfl
   rcases(by omega:i=0∨i=1∨i=2∨i=3∨i=4∨i=5∨i=6∨i=7∨i=8∨i=9∨i=10∨i=11∨i=12∨i=13∨i=14∨i=15∨i=16∨i=17∨i=18∨i=19)with rfl|rfl|rfl|rfl|rfl|rfl|rfl|rfl|rfl|rfl|rfl|rfl|rfl|rfl|rfl|rfl|rfl|rfl|rfl|rfl<;>exact hv
  ·rw [List.getElem?_append_right (by simp;omega),List.getElem?_drop,Array.getElem?_toList];have e:=h.same d (by unfold K32;omega);refine e.trans (congrArg (fun i=>a0.tmps[i]?) ?_);simp only [List.length_cons,List.length_nil];omega
end
theorem AlH{w0 w:World}(hw:Ai w0)(hx:Aa w0 w){n:Nat}(hn:n<=1000)(l:List Hf)(hl:Ey n l)(hlen:l.length<=2000)(v:Value)(hv:w.ownsRow w0.heap.size 137 5 v l.length (Bl l))
  (AC:List Bs) (Dx:AC.length=n) (U:Option Addr) (cu:Nat) (hU:w.ownsRow 0 9 1 (.slice U n cu) n (AC.map S)) (hc1:n<=cu) (hc2:cu<=9223372036854775807) :
  Calls Tryz.prog 83 #[v,.slice U n cu] w (rS w0 n AC):=by
 obtain⟨vA,vc,rfl,-,-,-⟩:=Am.of_own' (by omega) hv;have hb1:=(Below.heap_alloc (w.alloc (.cells #[.slice U n cu] 41)) (.cells #[.slice none 0 0,.slice none 0 0,.slice none 0 0] 43) w.heap.size (by simp)).trans (Ase w (.cells #[.slice U n cu] 41));have hb2:=Ase (w.alloc (.cells #[.slice U n cu] 41)) (.cells #[.slice none 0 0,.slice none 0 0,.slice none 0 0] 43);rw [Asn]at hb2;have hE:=((Aa.refl w).alloc (.cells #[.slice U n cu] 41)).alloc (.cells #[.slice none 0 0,.slice none 0 0,.slice none 0 0] 43);have Ih:=Ap hv hE;have qQ:=Asb (And.intro hl hlen);clear hl hlen hv;go_enter Tryz.func83,Tryz.ntmps83
 go_upto_region 2 with fail
 generalize (w.alloc (.cells #[.slice U n cu] 41)).alloc (.cells #[.slice none 0 0,.slice none 0 0,.slice none 0 0] 43)=W1 at *;obtain⟨bU,zY⟩:=AcG w.heap.size;rw [←zY]at hb1 hb2 ⊢;have Ars:w.heap.size<=bU:=(by omega);clear zY;have hx1:=hx.trans hE
 go_loopw [0,5] (fun vv a wr=>∃(l:List Hf) (b:Bool),a=.bool b/\Ey n l/\l.length<=2000/\wr.ownsRow w0.heap.size 137 5 vv l.length (Bl l)/\Aa W1 wr) (fun vv a _=>match a with | .bool true=>lenV vv+1|_=>0)
 case atStart=>exact⟨l,true,rfl,qQ.out.1,qQ.out.2,Ih,Aa.refl _⟩
 case round=>
  obtain⟨l,b,rfl,hl,hlen,hv,Ac⟩:=hrel;have HL:=Asb hl;clear hl;obtain⟨vA,vc,rfl,-,-,-⟩:=Am.of_own' (by omega) hv
  cases b
  ·have Cj:=Ase wr (.cells #[.slice none 0 0,.slice none 0 0,.slice none 0 0] 43);have E2:=(Aa.refl wr).alloc (.cells #[.slice none 0 0,.slice none 0 0,.slice none 0 0] 43);have hv2:=Ap hv E2;have Cs:=Ac.trans E2
   go_upto_region 13 with fail
   generalize wr.alloc (.cells #[.slice none 0 0,.slice none 0 0,.slice none 0 0] 43)=W2 at *;obtain⟨bM,zT⟩:=AcG wr.heap.size;rw [←zT]at Cj ⊢;have ApO:W1.heap.size<=bM:=(by have:=Ac.size;omega);clear zT hv E2 Ac;have Iv:=Asb hlen
   go_loopw [9] (fun iv w3=>∃(j:Nat) (l3:List Hf),iv=.int .i64 (j:Nat)/\j<=l.length/\Ey n l3/\l3.length=l.length/\w3.ownsRow w0.heap.size 137 5 (.slice vA l.length vc) l.length (Bl l3)/\AH (fun q=>(Value.slice vA l.length vc).ownBlock=some q) W2 w3) (fun iv _=>l.length-(intOf iv).toNat)
   case atStart=>exact⟨0,l,rfl,by omega,HL.out,rfl,hv2,AH.refl _ _⟩
   case round=>
    obtain⟨j,l3,rfl,hj,hl3,js,hv3,BV⟩:=hrel;have H3:=Asb (And.intro hl3 js);clear hl3 js;by_cases AG:j<l.length
    ·have hj0:(0:Int)<=(j:Int):=(by omega);have DD:(j:Int)<(l.length:Int):=by omega
     go_upto_region 16 with fail
     go_loopw [10] (fun kv w4=>∃(k:Nat) (l4:List Hf),kv=.int .i64 (k:Nat)/\k<=j/\Ey n l4/\l4.length=l.length/\w4.ownsRow w0.heap.size 137 5 (.slice vA l.length vc) l.length (Bl l4)/\AH (fun q=>(Value.slice vA l.length vc).ownBlock=some q) W2 w4) (fun kv _=>(intOf kv).toNat)
     case atStart=>exact⟨j,l3,rfl,by omega,H3.out.1,H3.out.2,hv3,BV⟩
     case round=>
      obtain⟨k,l4,rfl,hk,hl4,jt,hv4,Jh⟩:=hrel;have H4:=Asb (And.intro hl4 jt);clear hl4 jt;by_cases hk0:k=0
      ·subst hk0
       go_upto_region 16 with fail
       refine Bi (by kernel_rfl) (by kernel_rfl) ?_
       repeat (go_big_quiet_step (fail))
       refine wpQuiet_nil ?_;rintro W5 ⟨q,hq⟩;have Ae:Aa wr W5:=hq▸q.h;clear hq q;have AV:=Ap hv4 Ae;have Ji:=Jh.ext Ae;go_wp2;go_roundw
       case rel=>exact⟨j+1,l4,by go_num,AG,H4.out.1,H4.out.2,AV,Ji⟩
       case measure=>simp [intOf];omega
      ·obtain⟨q,hq⟩:∃q,k=q+1:=⟨k-1,by omega⟩;have hkw:IntKind.wrap .i64 ((k:Int)-1)=(q:Int):=(by rw [Asm _ (by omega)];omega);obtain⟨g,rfl⟩:=nI hv4 (by omega);have hk4:k<l4.length:=(by rw [H4.out.2];omega);have Ig:q<l4.length:=(by omega);obtain⟨x0,x1,x2,x3,x4⟩:=QC l4 k hk4;obtain⟨y0,y1,y2,y3,y4⟩:=QC l4 q Ig;have Cf:=H4.out.1 _ (Asg hk4);have Es:=H4.out.1 _ (Asg Ig);obtain⟨x,hx⟩:=AcG (l4[k]);obtain⟨y,hy⟩:=AcG (l4[q]);rw [←hx]at x0 x1 x2 x3 x4 Cf;rw [←hy]at y0 y1 y2 y3 y4 Es;have c0:=(hv4.cellAt (k*5) (by omega)).trans x0;have c1:=(hv4.cellAt (k*5+1) (by omega)).trans x1;have c2:=(hv4.cellAt (k*5+2) (by omega)).trans x2;have c3:=(hv4.cellAt (k*5+3) (by omega)).trans x3;have c4:=(hv4.cellAt (k*5+4) (by omega)).trans x4;have d0:=(hv4.cellAt (q*5) (by omega)).trans y0;have d1:=(hv4.cellAt (q*5+1) (by omega)).trans y1;have d2:=(hv4.cellAt (q*5+2) (by omega)).trans y2;have d3:=(hv4.cellAt (q*5+3) (by omega)).trans y3;have d4:=(hv4.cellAt (q*5+4) (by omega)).trans y4;have Bv:(0:Int)<(k:Int):=(by omega);have hkn:0<k:=(by omega);have Ul:decide (0<k)=true:=decide_eq_true hkn;have hk2:(k:Int)<(l.length:Int):=(by omega);have B8:(0:Int)<=(q:Int):=(by omega);have BR:(q:Int)<(l.length:Int):=(by omega);have Dv:Aa w0 wr:=Jh.toExt (hx1.trans Cs) (fun q e=>(hv4.lt q e).1);have ls:=fun (z:Ad wr)=>Ak7 x y Cf.1.sz Cf.2.1.sz Es.1.sz Es.2.1.sz z.w ((hw.ext Dv).ext z.h);obtain⟨lb,EW⟩:=AcG (Zf x y);rw [←EW]at ls;unfold Jo at ls;have HQ:=Asb (And.intro hq (And.intro hx hy));clear hq hx hy x0 x1 x2 x3 x4 y0 y1 y2 y3 y4 EW;have e0:∀z:Ad wr,z.w.cell? ⟨g,k*5,none⟩=some (S (R x.a.x)):=Ad.cell c0;have e1:∀z:Ad wr,z.w.cell? ⟨g,k*5+1,none⟩=some (S (R x.a.y)):=Ad.cell c1;have e2:∀z:Ad wr,z.w.cell? ⟨g,k*5+2,none⟩=some (S (R x.b.x)):=Ad.cell c2;have e3:∀z:Ad wr,z.w.cell? ⟨g,k*5+3,none⟩=some (S (R x.b.y)):=Ad.cell c3;have e4:∀z:Ad wr,z.w.cell? ⟨g,k*5+4,none⟩=some (.int .i64 x.l):=Ad.cell c4;have f0:∀z:Ad wr,z.w.cell? ⟨g,q*5,none⟩=some (S (R y.a.x)):=Ad.cell d0;have f1:∀z:Ad wr,z.w.cell? ⟨g,q*5+1,none⟩=some (S (R y.a.y)):=Ad.cell d1;have f2:∀z:Ad wr,z.w.cell? ⟨g,q*5+2,none⟩=some (S (R y.b.x)):=Ad.cell d2;have f3:∀z:Ad wr,z.w.cell? ⟨g,q*5+3,none⟩=some (S (R y.b.y)):=Ad.cell d3;have f4:∀z:Ad wr,z.w.cell? ⟨g,q*5+4,none⟩=some (.int .i64 y.l):=Ad.cell d4
       go_upto_region 16 with fail
       refine Bi (by kernel_rfl) (by kernel_rfl) ?_
       repeat (go_big_quiet_step (with_reducible refine eF (ls _)))
       refine wpQuiet_nil ?_;rintro W5 ⟨z,hz⟩;have Ae:Aa wr W5:=hz▸z.h;clear hz z;have AV:=Ap hv4 Ae;have Ji:=Jh.ext Ae
       cases lb
       ·clear c0 c1 c2 c3 c4 d0 d1 d2 d3 d4 e0 e1 e2 e3 e4 f0 f1 f2 f3 f4 ls;go_wp2;go_roundw
        case rel=>exact⟨j+1,l4,by go_num,AG,H4.out.1,H4.out.2,AV,Ji⟩
        case measure=>simp [intOf];omega
       ·replace c0:=Ae.cellS c0;replace c1:=Ae.cellS c1;replace c2:=Ae.cellS c2;replace c3:=Ae.cellS c3;replace c4:=Ae.cellS c4;replace d0:=Ae.cellS d0;replace d1:=Ae.cellS d1;replace d2:=Ae.cellS d2;replace d3:=Ae.cellS d3;replace d4:=Ae.cellS d4;clear e0 e1 e2 e3 e4 f0 f1 f2 f3 f4 ls hv4 Jh Dv Ae;have p0:=AV.frozenAt (k*5);have p1:=AV.frozenAt (k*5+1);have p2:=AV.frozenAt (k*5+2);have p3:=AV.frozenAt (k*5+3);have p4:=AV.frozenAt (k*5+4);have r0:=AV.frozenAt (q*5);have r1:=AV.frozenAt (q*5+1);have r2:=AV.frozenAt (q*5+2);have r3:=AV.frozenAt (q*5+3);have r4:=AV.frozenAt (q*5+4);have QO:¬(k=q):=(by have:=HQ.out.1;omega);have hqk:¬(q=k):=by have:=HQ.out.1;omega
        go_upto_region 18 with fail
        go_region
        have o1:=y9 (y9 AV k y) q x;have b1:=tR (tR Ji (g:=g) rfl k y) (g:=g) rfl q x;unfold S at o1 b1;generalize ((((((((((W5.setCell ⟨g,k*5,none⟩ (.string ⟨(R y.a.x).toArray⟩)).setCell ⟨g,k*5+1,none⟩ (.string ⟨(R y.a.y).toArray⟩)).setCell ⟨g,k*5+2,none⟩ (.string ⟨(R y.b.x).toArray⟩)).setCell ⟨g,k*5+3,none⟩ (.string ⟨(R y.b.y).toArray⟩)).setCell ⟨g,k*5+4,none⟩ (.int .i64 y.l)).setCell ⟨g,q*5,none⟩ (.string ⟨(R x.a.x).toArray⟩)).setCell ⟨g,q*5+1,none⟩ (.string ⟨(R x.a.y).toArray⟩)).setCell ⟨g,q*5+2,none⟩ (.string ⟨(R x.b.x).toArray⟩)).setCell ⟨g,q*5+3,none⟩ (.string ⟨(R x.b.y).toArray⟩)).setCell ⟨g,q*5+4,none⟩ (.int .i64 x.l))=W6 at *;have o2:=Ap o1 (Aa.refl W6).drew;have b2:=b1.ext (Aa.refl W6).drew;have hmx:x∈l4:=(by rw [HQ.out.2.1];exact Asg _);have kq:y∈l4:=by rw [HQ.out.2.2];exact Asg _
        have hin:Ey n ((l4.set k y).set q x):=by
         intro z hz
         rcases List.mem_or_eq_of_mem_set hz with e|e
         ·exact(H4.out.1.set k kq) z e
         ·rw [e];exact H4.out.1 x hmx
        have Sr:=Asb hin;have nh:q<=j/\q<k:=(by have:=HQ.out.1;omega);have qZ:=Asb nh;clear hin hmx kq o1 b1 c0 c1 c2 c3 c4 d0 d1 d2 d3 d4 p0 p1 p2 p3 p4 r0 r1 r2 r3 r4 nh;go_wp2;go_roundw
        case rel=>exact⟨q,(l4.set k y).set q x,by go_num,qZ.out.1,Sr.out,by rw [List.length_set,List.length_set];exact H4.out.2,o2,b2⟩
        case measure=>have:=qZ.out.2;simp [intOf];omega
    ·have FO:j=l.length:=(by omega);subst FO;have Q3:=BV.cells Cj (AL hv2 Cj (by decide));have Ek:Aa w0 wr:=BV.toExt (hx1.trans Cs) (fun q e=>(hv3.lt q e).1);have AiG:(l.length:Int)<=(l.length:Int):=(by omega);have zZ:=BV.cells ((Cs.block _ (Asd hb1)).trans hb1) (AL hv2 ((Cs.block _ (Asd hb1)).trans hb1) (by decide));have AhN:=BV.cells ((Cs.block _ (Asd hb2)).trans hb2) (AL hv2 ((Cs.block _ (Asd hb2)).trans hb2) (by decide));have zX:bU+1≠bM:=by have:=Asd hb2;omega
     have yS:wr.ownsRow 0 9 1 (.slice U n cu) n (AC.map S):=by
      refine DG (Ap hU (hE.trans Cs)) BV (fun q B8 BR=>?_)
      rcases hv2.2 with⟨h',_⟩|⟨g,cap,cur,h',_,hgb,_⟩
      ·rw [h']at BR;cases BR
      ·rw [h']at BR;simp only [Value.ownBlock,Asj]at BR;subst BR;exact AL (Ap hU (hE.trans Cs)) hgb (by decide) B8
     obtain⟨W3,rfl⟩:=GN Ek;have hPT:MQ W3 W3 bM (.slice none 0 0) []:=⟨Q3,⟨rfl,.inl ⟨rfl,rfl⟩⟩,AH.refl _ _,fun p hp=>by cases hp⟩;have Du:=Asd Q3
     go_upto_region 20 with fail
     go_loopw [79] (fun iv wp=>∃(j:Nat) (P:Value) (pts:List Pt),iv=.int .i64 (j:Nat)/\j<=l.length/\pts.length<=j/\MQ W3 wp bM P pts) (fun iv _=>l.length-(intOf iv).toNat)
     case atStart=>exact⟨0,_,[],rfl,by omega,by simp,hPT⟩
     case round=>
      obtain⟨j,P,pts,rfl,hj,hpl,hP⟩:=hrel;obtain⟨oP,cP,rfl,lB,-,-⟩:=Am.of_own' (by omega) hP.own;have EJ:=DG hv3 hP.but (fun q hq e=>by subst e;exact AL hv3 Q3 (by decide) hq);by_cases AG:j<l.length
      ·obtain⟨g,rfl⟩:=nI EJ (by omega);have Uf:j<l3.length:=(by rw [H3.out.2];exact AG);obtain⟨x0,x1,x2,x3,x4⟩:=QC l3 j Uf;have Cf:=H3.out.1 _ (Asg Uf);obtain⟨x,hx⟩:=AcG (l3[j]);rw [←hx]at x0 x1 x2 x3 x4 Cf;have c0:=(EJ.cellAt (j*5) (by omega)).trans x0;have c1:=(EJ.cellAt (j*5+1) (by omega)).trans x1;have c2:=(EJ.cellAt (j*5+2) (by omega)).trans x2;have c3:=(EJ.cellAt (j*5+3) (by omega)).trans x3;have c4:=(EJ.cellAt (j*5+4) (by omega)).trans x4;have hj0:(0:Int)<=(j:Int):=(by omega);have DD:(j:Int)<(l.length:Int):=(by omega);clear hx x0 x1 x2 x3 x4;have As:=Ase wr (.cells #[S (R x.a.x),S (R x.a.y),S (R x.b.x),S (R x.b.y),.int .i64 x.l] 137);have E4:=(Aa.refl wr).alloc (.cells #[S (R x.a.x),S (R x.a.y),S (R x.b.x),S (R x.b.y),.int .i64 x.l] 137);have OS:=hP.ext E4;have lA:=lB.ext E4
       go_upto_region 22 with fail
       unfold S at As OS lA;generalize (wr.alloc (.cells #[.string ⟨(R x.a.x).toArray⟩,.string ⟨(R x.a.y).toArray⟩,.string ⟨(R x.b.x).toArray⟩,.string ⟨(R x.b.y).toArray⟩,.int .i64 x.l] 137))=W4 at *;obtain⟨bx,JW⟩:=AcG wr.heap.size;rw [←JW]at As ⊢;clear JW c0 c1 c2 c3 c4 E4 EJ lB hP;have q0:∀z:Ad W4,z.w.cell? ⟨bM,0,none⟩=some (.slice oP pts.length cP):=Ad.cell (Ab OS.cM rfl);have q1:∀z:Ad W4,z.w.cell? ⟨bx,0,none⟩=some (S (R x.a.x)):=Ad.cell (Ab As rfl);have q2:∀z:Ad W4,z.w.cell? ⟨bx,1,none⟩=some (S (R x.a.y)):=Ad.cell (Ab As rfl);have pn:=Vz
       have Aib:(∃t,pts.length=t+1/\∃y,Ar y x.a=true/\pts[t]?=some y)∨pts.length=0∨(∃t,pts.length=t+1/\∃y,Ar y x.a=false/\pts[t]?=some y):=by
        rcases Nat.eq_zero_or_pos pts.length with h0|h0
        ·exact .inr (.inl h0)
        ·have hlt:pts.length-1<pts.length:=by omega
         cases hb:Ar pts[pts.length-1] x.a
         ·exact .inr (.inr ⟨pts.length-1,by omega,_,hb,Asl hlt⟩)
         ·exact .inl ⟨pts.length-1,by omega,_,hb,Asl hlt⟩
       rcases Aib with⟨t,ht,y,hy,Mm⟩|ki
       ·obtain⟨Gy,UB⟩:=List.getElem?_eq_some_iff.1 Mm;obtain⟨bp,op,rfl,y0,y1⟩:=BO lA Gy;rw [UB]at y0 y1;have q3:∀z:Ad W4,z.w.cell? ⟨bp,op+t*2,none⟩=some (S (R y.x)):=Ad.cell y0;have q4:∀z:Ad W4,z.w.cell? ⟨bp,op+t*2+1,none⟩=some (S (R y.y)):=Ad.cell y1;obtain⟨pl,If⟩:=AcG pts.length;rw [←If]at q0;have hw1:IntKind.wrap .i64 ((pl:Int)-1)=(t:Int):=(by rw [Asm _ (by omega)];omega);have NJ:((pl:Int) == 0)=false:=beq_false_of_ne (by omega);have U8:(0:Int)<=(t:Int):=(by omega);have Rc:(t:Int)<(pl:Int):=(by omega);have HP:=Asb (And.intro If hpl);clear ht If Mm UB Gy y0 y1;refine Bi (by kernel_rfl) (by kernel_rfl) ?_
        repeat (go_big_quiet_step (fail))
        refine wpQuiet_nil ?_;rintro W5 ⟨z,hz⟩;have Ae:Aa W4 W5:=hz▸z.h;clear hz z;have ES:=OS.ext Ae;clear q0 q1 q2 q3 q4;go_wp2;go_roundw
        case rel=>exact⟨j+1,_,pts,by go_num,AG,by omega,ES⟩
        case measure=>simp [intOf];omega
       ·go_cut [99] (fun v wx=>v=.bool true/\Aa W4 wx)
        case first=>
         rcases ki with h0|⟨t,ht,y,hy,Mm⟩
         ·rw [h0]at q0;refine Bi (by kernel_rfl) (by kernel_rfl) ?_
          repeat (go_big_quiet_step (fail))
          refine wpQuiet_nil ?_;rintro W5 ⟨z,hz⟩;have Ae:Aa W4 W5:=hz▸z.h;clear hz z q0 q1 q2;go_wp2;go_meet;exact⟨rfl,Ae⟩
         ·obtain⟨Gy,UB⟩:=List.getElem?_eq_some_iff.1 Mm;obtain⟨bp,op,rfl,y0,y1⟩:=BO lA Gy;rw [UB]at y0 y1;have q3:∀z:Ad W4,z.w.cell? ⟨bp,op+t*2,none⟩=some (S (R y.x)):=Ad.cell y0;have q4:∀z:Ad W4,z.w.cell? ⟨bp,op+t*2+1,none⟩=some (S (R y.y)):=Ad.cell y1;obtain⟨pl,If⟩:=AcG pts.length;rw [←If]at q0;have hw1:IntKind.wrap .i64 ((pl:Int)-1)=(t:Int):=(by rw [Asm _ (by omega)];omega);have NJ:((pl:Int) == 0)=false:=beq_false_of_ne (by omega);have U8:(0:Int)<=(t:Int):=(by omega);have Rc:(t:Int)<(pl:Int):=(by omega);clear ht If Mm UB Gy y0 y1;refine Bi (by kernel_rfl) (by kernel_rfl) ?_
          repeat (go_big_quiet_step (fail))
          refine wpQuiet_nil ?_;rintro W5 ⟨z,hz⟩;have Ae:Aa W4 W5:=hz▸z.h;clear hz z q0 q1 q2 q3 q4;go_wp2;go_meet;exact⟨rfl,Ae⟩
        case rest=>
         obtain⟨rfl,Ae⟩:=hcut;obtain⟨W5,rfl⟩:=GN Ae;have ES:=OS.ext Ae;have b6:=(Ae.block _ (Asd As)).trans As;have z0:=Ab (o:=0) b6 rfl;have z1:=Ab (o:=1) b6 rfl;have z2:W5.cell? ⟨bM,0,none⟩=some (.slice oP pts.length cP):=Ab ES.cM rfl;have hbase:W3.heap.size<=W5.heap.size:=ES.but.size;have Un:=Iv.out;clear q0 q1 q2 ki As
         go_wp2_with (at_builtin;go_loud (refine Aep rfl _ _ rfl _ W3.heap.size (.slice oP pts.length cP) pts.length pts rfl (Ap ES.own ((Aa.refl W5).alloc _)) (by omega) x.a W5.heap.size (Ase W5 _) rfl (by simp;omega) ?_);intro v7 w7 Gw Gt;obtain⟨h7,yH⟩:=ES.app Du Cf.1 ((Aa.refl W5).alloc _) Gt Gw;obtain⟨oP7,cP7,rfl,-,-,-⟩:=Am.of_own' (by omega) Gw;have k0:w7.cell? ⟨bM,0,none⟩=some (.slice oP pts.length cP):=Ab h7 rfl;have k1:=An (o:=0) h7)
         have HP7:=Asb yH;clear yH Gt Gw h7 ES OS z0 z1 z2;go_wp2;go_roundw
         case rel=>exact⟨j+1,_,pts ++ [x.a],by go_num,AG,by rw [List.length_append,List.length_singleton];omega,HP7.out⟩
         case measure=>simp [intOf];omega
      ·have FO:j=l.length:=(by omega);subst FO;have hmk:=UX n (by omega) (n:Int) rfl wr;have Kc:∀(fn:Fn) (first cap:Array Value) (w:World),(Instr.makeFunc fn first cap).run Tryz.prog w=.ok (.func fn first cap) w:=fun _ _ _ _=>rfl;have XK:=hP.but.cells zZ (Hb zZ Q3 (by decide));have XR:=hP.but.cells AhN zX;have u0:wr.cell? ⟨bU,0,none⟩=some (.slice U n cu):=Ab XK rfl;have fU:=DG yS hP.but (fun q hq e=>by subst e;exact AL yS Q3 (by decide) hq);have Ea:=(Aa.refl wr).alloc (.cells (madeCells #[.int .i64 0] n) 3);have Eb:=(Aa.refl (wr.alloc (.cells (madeCells #[.int .i64 0] n) 3))).alloc (.cells #[.slice (some ⟨wr.heap.size,0,none⟩) n n] 135);have By:=Ase (wr.alloc (.cells (madeCells #[.int .i64 0] n) 3)) (.cells #[.slice (some ⟨wr.heap.size,0,none⟩) n n] 135);rw [Asn]at By;have Y5:=Ap (Vo wr 0 n (Nat.zero_le _) (by omega)) Eb;have C5:=Ea.trans Eb;have qg:((wr.alloc (.cells (madeCells #[.int .i64 0] n) 3)).alloc (.cells #[.slice (some ⟨wr.heap.size,0,none⟩) n n] 135)).heap.size=wr.heap.size+2:=by simp
       go_upto_region 27 with fail
       have ES:=hP.ext C5;have yT:=Ap fU C5;have yU:=(C5.block _ (Asd XK)).trans XK;have AV:=Ap (DG hv3 hP.but (fun q hq e=>by subst e;exact AL hv3 Q3 (by decide) hq)) C5;have qo:∀k,(Value.slice U n cu).ownBlock=some k→k<wr.heap.size:=fun k hk=>(fU.lt k hk).2;have zW:=(C5.block _ (Asd XR)).trans XR;have AhS:w0.heap.size<=wr.heap.size:=Asq Ek.size hP.but.size;clear hmk Ea Eb C5 hP fU XK u0;generalize (wr.alloc (.cells (madeCells #[.int .i64 0] n) 3)).alloc (.cells #[.slice (some ⟨wr.heap.size,0,none⟩) n n] 135)=W5 at *;obtain⟨AY,BJ⟩:=AcG wr.heap.size;rw [←BJ]at By Y5 qg AhS ⊢;have LV:AY<W5.heap.size:=by omega
       have OT:JB W5 W5 n (AY+1) AY bM bU U cu AC (.slice oP pts.length cP) (.slice none 0 0) (.slice none 0 0) (zn (List.replicate n 0)) [] []:=by
        refine⟨⟨By,Y5,ES.cM,⟨rfl,.inl ⟨rfl,rfl⟩⟩,yU,yT,fun k hk=>?_,by simp [zn],Dx,hc1,hc2,?_,?_,?_⟩,⟨rfl,.inl ⟨rfl,rfl⟩⟩,AH.refl _ _⟩
        ·have:=qo k hk;omega
        ·intro z hz;simp [zn]at hz;obtain⟨-,rfl⟩:=hz;simp
        ·exact Asq (Nat.add_le_add_left List.countP_le_length _) (by simp [zn])
        ·intro s hs;cases hs
       have ApN:bM<W5.heap.size:=Asd ES.cM;have yM:=ES.sheet;have Q5:=Oc ES.own Ek.size;have Gm:Aa w0 W5:=ES.but.toExt Ek (fun q e=>by subst e;have:=hx1.size;omega);have XL:=Oc AV (Nat.zero_le _);have Un:=Iv.out;have Wb:=Asb (And.intro yM hpl);clear By Y5 ES yT yU AV qo qg BJ yM hpl lB EJ
       go_upto_region 28 with fail
       go_loopw [114] (fun iv we=>∃(j:Nat) (E F:Value) (nums:List Int) (Al:List Bs) (eds:List AO),iv=.int .i64 (j:Nat)/\j<=l.length/\eds.length<=j/\JB W5 we n (AY+1) AY bM bU U cu AC (.slice oP pts.length cP) E F nums Al eds) (fun iv _=>l.length-(intOf iv).toNat)
       case atStart=>exact⟨0,_,_,_,[],[],rfl,by omega,by simp,OT⟩
       case round=>
        obtain⟨j,E,F,nums,Al,eds,rfl,hj,hel,hS⟩:=hrel;by_cases AG:j<l.length
        ·obtain⟨g,rfl⟩:=nI XL (by omega);have Uf:j<l3.length:=(by rw [H3.out.2];exact AG);obtain⟨x0,x1,x2,x3,x4⟩:=QC l3 j Uf;have Cf:=H3.out.1 _ (Asg Uf);obtain⟨x,hx⟩:=AcG (l3[j]);rw [←hx]at x0 x1 x2 x3 x4 Cf;obtain⟨cn,By⟩:=Kk hS.nam.num
         have EJ:=DG XL hS.but (by
          rintro q hq (e|e)
          ·subst e;obtain⟨uP,QD⟩:=Kk OT.nam.num;exact AL XL QD (by decide) hq
          ·subst e;exact AL XL OT.nam.cM (by decide) hq)
         have JP:=DG Q5 hS.but (by
          rintro q hq (e|e)
          ·subst e;obtain⟨uP,QD⟩:=Kk OT.nam.num;exact AL Q5 QD (by decide) hq
          ·subst e;exact AL Q5 OT.nam.cM (by decide) hq)
         have yZ:∀{w':World},AH (fun q=>q=AY∨q=bM) W5 w'→Aa w0 w':=fun h=>h.toExt Gm (by
          have h0:=hx1.size
          rintro q (e|e)<;>omega)
         have FG:Aa w0 wr:=yZ hS.but;have c0:=(EJ.cellAt (j*5) (by omega)).trans x0;have c1:=(EJ.cellAt (j*5+1) (by omega)).trans x1;have c2:=(EJ.cellAt (j*5+2) (by omega)).trans x2;have c3:=(EJ.cellAt (j*5+3) (by omega)).trans x3;have c4:=(EJ.cellAt (j*5+4) (by omega)).trans x4;have hj0:(0:Int)<=(j:Int):=(by omega);have DD:(j:Int)<(l.length:Int):=(by omega);have HX:=Asb hx;clear hx x0 x1 x2 x3 x4;have As:=Ase wr (.cells #[S (R x.a.x),S (R x.a.y),S (R x.b.x),S (R x.b.y),.int .i64 x.l] 137);have E6:=(Aa.refl wr).alloc (.cells #[S (R x.a.x),S (R x.a.y),S (R x.b.x),S (R x.b.y),.int .i64 x.l] 137);have fN:=hS.extn E6;have fK:=Ap JP E6;have lP:=Ap EJ E6;have BI:=FG.trans E6
         go_upto_region 30 with fail
         unfold S at As fN fK lP BI;generalize (wr.alloc (.cells #[.string ⟨(R x.a.x).toArray⟩,.string ⟨(R x.a.y).toArray⟩,.string ⟨(R x.b.x).toArray⟩,.string ⟨(R x.b.y).toArray⟩,.int .i64 x.l] 137))=W6 at *;obtain⟨bh,El⟩:=AcG wr.heap.size;rw [←El]at As ⊢;clear El c0 c1 c2 c3 c4 E6 EJ JP hS FG By;have lc:=mK x.a x.b Cf.1.sz Cf.2.1.sz W6 (hw.ext BI);obtain⟨lz,hlz⟩:=AcG (Bp x.a x.b);rw [←hlz]at lc;unfold Ak at lc;have z0:=Ab (o:=0) As rfl;have z1:=Ab (o:=1) As rfl;have z2:=Ab (o:=2) As rfl;have z3:=Ab (o:=3) As rfl;(go_wp2_with fail);(with_reducible refine lc.mono ?_);rintro e W7 ⟨rfl,Aj⟩;have LQ:=fN.extn Aj;by_cases AqJ:0<lz
         ·clear z0 z1 z2 z3 lc;go_wp2;go_roundw
          case rel=>exact⟨j+1,E,F,nums,Al,eds,by go_num,AG,by omega,LQ⟩
          case measure=>simp [intOf];omega
         ·have yK:=Ap fK Aj;have rk:=Ap lP Aj;have BW:=BI.trans Aj;have GH:=(Aj.block _ (Asd As)).trans As;have nc:=xu LQ.nam (by omega) LQ.but.size x.l Cf.2.2.2.1 Cf.2.2.2.2;have y4:=Ab (o:=4) GH rfl;clear z0 z1 z2 z3 lc fN fK lP BI As Aj;(go_wp2_with fail);(with_reducible refine nc.mono ?_);rintro e W8 ⟨zl,F8,nums8,faces8,rfl,NE,ET⟩;have I6:=LQ.name NE ET;have GF:Aa w0 W8:=yZ I6.but;obtain⟨cn7,QE⟩:=Kk LQ.nam.num
          have IC:∀{B:Nat} {e:TypeId} {s m:Nat} {v:Value} {xs:List Value},W7.ownsRow B e s v m xs→e≠3→e≠43→e≠9→W8.ownsRow B e s v m xs:=by
           intro B e s m v xs hv h1 h2 h3;refine DG hv ET ?_;rintro k hk (q|q|q)
           ·subst q;exact AL hv QE h1 hk
           ·subst q;exact AL hv LQ.nam.cM h2 hk
           ·rcases hv.2 with⟨h',_⟩|⟨g,cap,cur,h',_,hgb,_⟩
            ·rw [h']at hk;cases hk
            ·rw [h']at hk;simp only [Value.ownBlock,Asj]at hk;subst hk;exact AL LQ.nam.fac hgb (fun e0=>h3 e0.symm) q
          have KI:=ET.cells GH (by
           rintro(q|q|q)
           ·subst q;exact Hb GH QE (by decide) rfl
           ·subst q;exact Hb GH LQ.nam.cM (by decide) rfl
           ·exact AL LQ.nam.fac GH (by decide) q)
          have yL:=IC yK (by decide) (by decide) (by decide);have rp:=IC rk (by decide) (by decide) (by decide);clear IC ET NE nc y4 yK rk GH;obtain⟨oE,cE,rfl,-,-,-⟩:=Am.of_own' (by omega) I6.own;obtain⟨oF,cF,rfl,-,-,-⟩:=Am.of_own' (by omega) I6.nam.fac;obtain⟨oP',cP',fk,nt,yE,yG⟩:=Am.of_own' (by omega) yL;simp only [Value.slice.injEq,true_and]at fk;obtain⟨rfl,rfl⟩:=fk;obtain⟨oV,cV,fo,hrV,hV1,hV2⟩:=Am.of_own' (by omega) rp;simp only [Value.slice.injEq,true_and]at fo;obtain⟨rfl,rfl⟩:=fo;have i1:=fun (w':World) (h:Aa W8 w')=>wn pts x.a oP cP (.slice oE eds.length cE) (.slice oF faces8.length cF) w' (nt.ext h) yE yG;have i2:=fun (w':World) (h:Aa W8 w')=>wn pts x.b oP cP (.slice oE eds.length cE) (.slice oF faces8.length cF) w' (nt.ext h) yE yG;have bk:=fun (w':World) (h:Aa W8 w')=>WE l3 x (some ⟨g,0,none⟩) vc w' (hrV.ext h) (by rw [H3.out.2];exact hV1) hV2;rw [H3.out.2]at bk;have hbr:=H3.out.1.back x;generalize FV pts x.a=r1 at *;generalize FV pts x.b=r2 at *;generalize Ez l3 x=r3 at *;have Ais:eds.length<200000:=(by omega);have hn5:n<=100000:=(by omega);clear QE yL rp
          go_upto_region 32 with fail
          refine region32_law (c:=⟨W5,W8,_,_,n,AY+1,AY,bM,bU,bh,cu,U,AC,.slice oP pts.length cP,.slice oE eds.length cE,.slice oF faces8.length cF,nums8,faces8,eds,x,r1,r2,r3,zl,.slice (some ⟨g,0,none⟩) l.length vc⟩) ⟨I6,KI,hn5,Ais,i1,i2,bk,hbr.1,hbr.2,rfl,rfl,rfl,rfl,rfl,by simp,rfl,by kernel_rfl,by kernel_rfl⟩ ?_;intro a w9 zr E9 F9 ArC Xj hfr Cm;have yP:JB W5 w9 n (AY+1) AY bM bU U cu AC (.slice oP pts.length cP) E9 F9 ArC Xj (eds ++ [⟨r1,r2,zl,zr⟩]):=Cm;obtain⟨vs,rfl⟩:=hfr.lit32 (by simp);simp only [List.take_succ_cons,List.take_zero,List.drop_succ_cons,List.drop_zero,List.cons_append,List.nil_append];go_wp2;go_roundw
          case rel=>exact⟨j+1,_,_,_,_,eds ++ [⟨r1,r2,zl,zr⟩],by go_num,AG,by rw [List.length_append,List.length_singleton];omega,yP⟩
          case measure=>simp [intOf];omega
        ·have FO:j=l.length:=(by omega);subst FO;have AqB:(l.length:Int)<=(l.length:Int):=(by omega);obtain⟨cn,By⟩:=Kk hS.nam.num;obtain⟨uP,QD⟩:=Kk OT.nam.num;obtain⟨oE,cE,rfl,-,-,-⟩:=Am.of_own' (by omega) hS.own;obtain⟨oF,cF,rfl,-,-,-⟩:=Am.of_own' (by omega) hS.nam.fac
         have JP:=DG Q5 hS.but (by
          rintro q hq (e|e)
          ·subst e;exact AL Q5 QD (by decide) hq
          ·subst e;exact AL Q5 OT.nam.cM (by decide) hq)
         have EU:=hS.but.cells zW (by
          rintro(e|e)
          ·exact Hb zW QD (by decide) e
          ·exact zX e)
         have FG:Aa w0 wr:=hS.but.toExt Gm (by
          have h0:=hx1.size
          rintro q (e|e)<;>omega)
         have m0:wr.cell? ⟨bM,0,none⟩=some (.slice oP pts.length cP):=Ab hS.nam.cM rfl;have m1:wr.cell? ⟨bM,1,none⟩=some (.slice oE eds.length cE):=Ab hS.nam.cM rfl;have m2:wr.cell? ⟨bM,2,none⟩=some (.slice oF Al.length cF):=Ab hS.nam.cM rfl;have r0:wr.cell? ⟨bU+1,0,none⟩=some (.slice none 0 0):=Ab EU rfl;have r1:wr.cell? ⟨bU+1,1,none⟩=some (.slice none 0 0):=Ab EU rfl;have r2:wr.cell? ⟨bU+1,2,none⟩=some (.slice none 0 0):=Ab EU rfl;have r3:=An (o:=0) EU;have r4:=An (o:=1) EU;have r5:=An (o:=2) EU;have GM:=dM (.slice oP pts.length cP) (.slice oE eds.length cE) (.slice oF Al.length cF) EU;have bb:=(((AH.refl (fun q=>q=bU+1) wr).setCell (p:=⟨bU+1,0,none⟩) (.inl rfl) (.slice oP pts.length cP)).setCell (p:=⟨bU+1,1,none⟩) (.inl rfl) (.slice oE eds.length cE)).setCell (p:=⟨bU+1,2,none⟩) (.inl rfl) (.slice oF Al.length cF);have f1:=DG JP bb (fun q hq e=>by subst e;exact AL JP EU (by decide) hq);have f2:=DG hS.own bb (fun q hq e=>by subst e;exact AL hS.own EU (by decide) hq);have f3:=DG hS.nam.fac bb (fun q hq e=>by subst e;exact AL hS.nam.fac EU (by decide) hq);have Np:=bb.toExt FG (fun q e=>by subst e;have:=hx.size;omega);obtain⟨A1,c1,e1,g1,g2,g3⟩:=Am.of_own' (by omega) f1;obtain⟨A2,c2,e2,g4,g5,g6⟩:=Am.of_own' (by omega) f2;obtain⟨A3,c3,e3,g7,g8,g9⟩:=Am.of_own' (by omega) f3;simp only [Value.slice.injEq,true_and]at e1 e2 e3;obtain⟨rfl,rfl⟩:=e1;obtain⟨rfl,rfl⟩:=e2;obtain⟨rfl,rfl⟩:=e3;have hfn:Al.length<=n:=by have:=hS.nam.cnt;omega
         have AP:MapAt (((wr.setCell ⟨bU+1,0,none⟩ (.slice oP pts.length cP)).setCell ⟨bU+1,1,none⟩ (.slice oE eds.length cE)).setCell ⟨bU+1,2,none⟩ (.slice oF Al.length cF)) n AC oP oE oF cP cE cF ⟨pts,eds,Al.length⟩ Al:=
          ⟨⟨g2,g3,g5,g6,g8,g9⟩,g1,g4,g7,rfl,hfn,Wb.out.1,hS.nam.txt⟩
         have t1:=Ab (o:=0) GM rfl;have t2:=Ab (o:=1) GM rfl;have t3:=Ab (o:=2) GM rfl;have hfr:Lz w0.heap.size oP oE oF:=⟨by first|exact Ry f1|exact Ry (Oc f1 Gm.size),by first|exact Ry f2|exact Ry (Oc f2 Gm.size),by first|exact Ry f3|exact Ry (Oc f3 Gm.size)⟩;have Cz:=Asb (And.intro AP (And.intro Np hfr));clear AP Np hfr f1 f2 f3 g1 g4 g7 bb GM EU hS JP;go_wp2;refine bodyPost_ret (v:=.agg #[.slice oP pts.length cP,.slice oE eds.length cE,.slice oF Al.length cF]) (by simp [results,Tryz.results83,go_sem,t1,t2,t3]) rfl ?_;exact⟨oP,oE,oF,cP,cE,cF,⟨pts,eds,Al.length⟩,Al,rfl,Cz.out.1,Cz.out.2.1,Cz.out.2.2⟩
  ·go_upto_region 5 with fail
   go_loopw [0,5,6] (fun vv a i wr=>∃(l1:List Hf) (b:Bool) (j:Nat),a=.bool b/\i=.int .i64 (j:Nat)/\j<=2001/\Ey n l1/\l1.length<=2000/\wr.ownsRow w0.heap.size 137 5 vv l1.length (Bl l1)/\Aa W1 wr/\(b=false→l1.length=l.length)/\(b=true→l1.length<l.length)) (fun vv a i _=>match a with | .bool true=>0|_=>lenV vv+1-(intOf i).toNat)
   case atStart=>exact⟨l,false,0,rfl,rfl,by omega,HL.out,hlen,hv,Ac,fun _=>rfl,fun h=>by cases h⟩
   case round=>
    obtain⟨l1,b,j,rfl,rfl,hj,CU,Ys,UD,KP,jB,lJ⟩:=hrel;have Ow:=Asb CU;clear CU;obtain⟨vA1,vc1,rfl,Po,dp,dr⟩:=Am.of_own' (by omega) UD
    cases b
    ·have VT:=Asb (jB rfl);clear jB lJ;by_cases AG:j<l1.length
     ·have hj0:(0:Int)<=(j:Int):=(by omega);have DD:(j:Int)<(l1.length:Int):=(by omega);have mA:=hx1.trans KP;have nd:=Alg l1 Ow.out.ok (by omega) j AG vA1 vc1 wr (hw.ext mA) Po dp dr;(go_wp2_with fail);(with_reducible refine nd.mono ?_);rintro e w5 ⟨k,rfl,Ae,hk⟩;by_cases hk0:k<0
      ·have hHK:=hk0;have AV:=Ap UD Ae;go_wp2;go_roundw
       case rel=>exact⟨l1,false,j+1,rfl,by go_num,by omega,Ow.out,Ys,AV,KP.trans Ae,fun _=>VT.out,fun h=>by cases h⟩
       case measure=>simp [lenV,intOf];omega
      ·obtain⟨kk,Co,rfl,TP,Yz⟩:=hk.resolve_left hk0;have jc:=Aku l1 (by omega) j kk AG Co vA1 vc1 w5 (Po.ext Ae) dp dr;have hJ:=Akt Ow.out (Asg AG) (Asg Co) Yz;have hJl:=Aks Ow.out (x:=l1[j]) (y:=l1[kk]) (Asg AG) TP;generalize NU l1 l1[j] l1[kk]=l2 at *;have HJ:=Asb hJ;clear hk TP Yz hJ;(go_wp2_with fail);(with_reducible refine jc.mono ?_);rintro e w6 ⟨v6,rfl,Ca,Ao⟩;have EI:=Oc Ca (Asq (hx1.trans (KP.trans Ae)).size (Asf _));have hlv:=Ak5 EI;have BI:=KP.trans (Ae.trans Ao);go_wp2;go_roundw
       case rel=>exact⟨l2,true,j+1,rfl,by go_num,by omega,HJ.out,by have:=VT.out;omega,EI,BI,(fun h=>by cases h),fun _=>by have:=VT.out;omega⟩
       case measure=>simp [lenV,intOf];omega
     ·have DD:¬((j:Int)<(l1.length:Int)):=(by omega);go_wp2;go_roundw
      case rel=>exact⟨l1,false,rfl,Ow.out,Ys,UD,KP⟩
      case measure=>simp [lenV]
    ·have hlt:=lJ rfl;clear jB lJ;by_cases AG:j<l1.length
     ·have DD:(j:Int)<(l1.length:Int):=(by omega);go_wp2;go_roundw
      case rel=>exact⟨l1,true,rfl,Ow.out,Ys,UD,KP⟩
      case measure=>simp [lenV];omega
     ·have DD:¬((j:Int)<(l1.length:Int)):=(by omega);go_wp2;go_roundw
      case rel=>exact⟨l1,true,rfl,Ow.out,Ys,UD,KP⟩
      case measure=>simp [lenV];omega
end Go.Proofs.YtdaefncphfeaeaaGreatDoor
