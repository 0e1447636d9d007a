/- Z41: QC. -/
import Derived.Test.YtdaefncphfeaeaaGreatDoorZ37
set_option maxRecDepth 100000
set_option maxHeartbeats 16000000
namespace Go.Proofs.YtdaefncphfeaeaaGreatDoor
open Go.RowKit Kl
def lenV:Value→Nat
 | .slice _ n _=>n
 | _=>0
theorem Ak5{w:World}{B:Nat}{e:TypeId}{s n:Nat}{v:Value}{xs:List Value}(h:w.ownsRow B e s v n xs):lenV v=n:=by
 rcases h.2 with⟨h',rfl⟩|⟨g,cap,cur,h',_⟩
 ·rw [h'];rfl
 ·rw [h'];rfl
theorem nI{w:World}{B:Nat}{e:TypeId}{s n c:Nat}{A:Option Addr}{xs:List Value}(h:w.ownsRow B e s (.slice A n c) n xs)(hn:0<n):∃g,A=some ⟨g,0,none⟩:=by
 rcases h.2 with⟨h',_⟩|⟨g,cap,cur,h',_⟩
 ·simp only [Value.slice.injEq]at h';omega
 ·simp only [Value.slice.injEq]at h';exact⟨g,h'.1⟩
theorem eh:∀(l:List Hf) (k:Nat) (y:Hf),(((((Bl l).set (k*5) (S (R y.a.x))).set (k*5+1) (S (R y.a.y))).set (k*5+2) (S (R y.b.x))).set (k*5+3) (S (R y.b.y))).set (k*5+4) (.int .i64 y.l)=Bl (l.set k y)
 | [],_,_=>by simp [Bl]
 | p::l,0,_=>rfl
 | p::l,k+1,y=>by
  have e:Bl (p::l)=S (R p.a.x)::S (R p.a.y)::S (R p.b.x)::S (R p.b.y) :: .int .i64 p.l::Bl l:=rfl;have e1:(k+1)*5=k*5+1+1+1+1+1:=(by omega);rw [e,e1];simp only [List.set_cons_succ,eh l k y]
  rfl
theorem y9{W:World}{B g n c:Nat}{l:List Hf}(h:W.ownsRow B 137 5 (.slice (some ⟨g,0,none⟩) n c) n (Bl l))(k:Nat)(y:Hf) :
  (((((W.setCell ⟨g,k*5,none⟩ (S (R y.a.x))).setCell ⟨g,k*5+1,none⟩ (S (R y.a.y))).setCell ⟨g,k*5+2,none⟩ (S (R y.b.x))).setCell ⟨g,k*5+3,none⟩ (S (R y.b.y))).setCell ⟨g,k*5+4,none⟩ (.int .i64 y.l)).ownsRow B 137 5 (.slice (some ⟨g,0,none⟩) n c) n (Bl (l.set k y)):=by
 have h5:=((((((((h.stored (k*5) (S (R y.a.x))).1.stored (k*5+1) (S (R y.a.y))).1.stored (k*5+2) (S (R y.b.x))).1).stored (k*5+3) (S (R y.b.y))).1).stored (k*5+4) (.int .i64 y.l))).1
 rwa [eh]at h5
theorem tR{K:Nat→Prop}{w W:World}(h:AH K w W){g:Nat}(hg:K g)(k:Nat)(y:Hf) :
  AH K w (((((W.setCell ⟨g,k*5,none⟩ (S (R y.a.x))).setCell ⟨g,k*5+1,none⟩ (S (R y.a.y))).setCell ⟨g,k*5+2,none⟩ (S (R y.b.x))).setCell ⟨g,k*5+3,none⟩ (S (R y.b.y))).setCell ⟨g,k*5+4,none⟩ (.int .i64 y.l)):=
 ((((h.setCell (p:=⟨g,k*5,none⟩) (.inl hg) _).setCell (p:=⟨g,k*5+1,none⟩) (.inl hg) _).setCell (p:=⟨g,k*5+2,none⟩) (.inl hg) _).setCell (p:=⟨g,k*5+3,none⟩) (.inl hg) _).setCell (p:=⟨g,k*5+4,none⟩) (.inl hg) _
theorem Ey.set{n:Nat}{l:List Hf}(h:Ey n l)(k:Nat){y:Hf}(hy:y∈l):Ey n (l.set k y):=by
 intro z hz
 rcases List.mem_or_eq_of_mem_set hz with e|e
 ·exact h z e
 ·rw [e];exact h y hy
section
variable {ops : Array Oper} {rest : List Oper} {o : Oper} {a : Act} {Q : Exit → Act → World → Prop}
theorem Aep(hgd:o.guard=none)(s x:Operand)(ho:o.op=.call {callee:=.builtin .append,args:=#[s,x],argTypes:=#[39,39]})
  (wN:World) (base:Nat) (v:Value) (n:Nat) (l:List Pt) (hs:a.eval s=v) (hown:wN.ownsRow base 35 2 v n (flat (AI l))) (hn:n<200000) (d:Pt)
  (g:Nat) (hb:wN.heap[g]?=some (.cells #[S (R d.x),S (R d.y)] 35)) (hx:a.eval x=.slice (some ⟨g,0,none⟩) 1 1) (hbase:base<=wN.heap.size)
  (h:∀v' w',w'.ownsRow base 35 2 v' (n+1) (flat (AI (l ++ [d])))→wN.grownBy w' v.ownBlock→wpList Tryz.prog ops Q rest (a.put o.dst v') w') :
  wpList Tryz.prog ops Q (o::rest) a wN:=
 wpList_plain hgd fun _ hK=>pL s x ho wN base v n l hs hown hn d g hb hx hbase fun v' w' h1 _ h3=>hK _ _ (h v' w' h1 h3)
end
structure MQ(W3 wr:World)(bM:Nat)(P:Value)(pts:List Pt):Prop where
 cM:wr.heap[bM]?=some (.cells #[P,.slice none 0 0,.slice none 0 0] 43)
 own:wr.ownsRow W3.heap.size 35 2 P pts.length (flat (AI pts))
 but:AH (fun q=>q=bM) W3 wr
 sheet:∀p∈pts,BL p
theorem MQ.ext{W3 wr w':World}{bM:Nat}{P:Value}{pts:List Pt}(h:MQ W3 wr bM P pts)(hx:Aa wr w'):MQ W3 w' bM P pts:=
 ⟨(hx.block _ (Asd h.cM)).trans h.cM,Ap h.own hx,h.but.ext hx,h.sheet⟩
theorem MQ.app{W3 wr W7:World}{bM:Nat}{P P':Value}{pts:List Pt}(h:MQ W3 wr bM P pts)(Du:bM<W3.heap.size){p:Pt}(hp:BL p){E4:World}(hE:Aa wr E4)(hg:E4.grownBy W7 P.ownBlock)(ho:W7.ownsRow W3.heap.size 35 2 P' (pts.length+1) (flat (AI (pts ++ [p])))) :
  W7.heap[bM]?=some (.cells #[P,.slice none 0 0,.slice none 0 0] 43)/\MQ W3 (W7.setCell ⟨bM,0,none⟩ P') bM P' (pts ++ [p]):=by
 have hne:=AL h.own h.cM (by decide);have h7:=(hg.block bM (Asp (Asd h.cM) hE.size) (fun e=>hne e.symm)).trans ((hE.block bM (Asd h.cM)).trans h.cM);have hq:=AL ho h7 (by decide);refine⟨h7,?_,?_,?_,?_⟩
 ·simp only [World.setCell,Array.getElem?_modify,h7];simp
 ·rw [List.length_append,List.length_singleton];exact DG (K:=fun q=>q=bM) ho ((AH.refl (fun q=>q=bM) W7).setCell (p:=⟨bM,0,none⟩) (.inl rfl) P') (fun k hk e=>by subst e;exact hq hk)
 ·exact((h.but.ext hE).own hg (Ap h.own hE) (Asf _)).setCell (p:=⟨bM,0,none⟩) (.inl rfl) P'
 ·intro x hx
  rcases List.mem_append.1 hx with k|k
  ·exact h.sheet x k
  ·simp only [Ass]at k;rw [k];exact hp
theorem Agc(l:List AO)(d:AO):Ce (l ++ [d])=Ce l ++ [.int .i64 d.f,.int .i64 d.t,.int .i64 d.l,.int .i64 d.r]:=by simp [Ce]
section
variable {ops : Array Oper} {rest : List Oper} {o : Oper} {a : Act} {K : Act → World → Prop} {Q : Exit → Act → World → Prop} {E : Prop}
theorem Aov(hgd:o.guard=none)(s x:Operand)(ho:o.op=.call {callee:=.builtin .append,args:=#[s,x],argTypes:=#[40,40]})
  (wN:World) (base:Nat) (v:Value) (n:Nat) (l:List AO) (hs:a.eval s=v) (hown:wN.ownsRow base 59 4 v n (Ce l)) (hn:n<200000) (d:AO)
  (g:Nat) (hb:wN.heap[g]?=some (.cells #[.int .i64 d.f,.int .i64 d.t,.int .i64 d.l,.int .i64 d.r] 59)) (hx:a.eval x=.slice (some ⟨g,0,none⟩) 1 1) (hbase:base<=wN.heap.size)
  (h:∀v' w',w'.ownsRow base 59 4 v' (n+1) (Ce (l ++ [d]))→wN.grownBy w' v.ownBlock→K (a.put o.dst v') w') :
  if Region.wanted o (yielded ops a.tmps)=true then Oper.wp Tryz.prog o a wN K Q else E:=by
 have hw:Region.wanted o (yielded ops a.tmps)=true:=(by simp [Region.wanted,hgd]);rw [if_pos hw];obtain⟨i0,hi,hz0,hz1,hz2⟩:=info_parts Tryz.infoEd;refine Sj s x 40 ho 59 i0 _ 4 32 1 Tryz.underlying40 hi hz0 hz1 hz2 rfl (by omega) (by omega) (by omega) wN base v n _ hs hown hn g _ hb rfl ?_ hx hbase ?_
 ·intro u hu;simp only [List.mem_cons,Asr,or_false]at hu
  rcases hu with rfl|rfl|rfl|rfl<;>rfl
 ·intro v' w' h1 _ h3;refine h v' w' ?_ h3;rw [Agc];exact h1
end
structure JB(W5 wr:World)(n bx AY bM bU:Nat)(U:Option Addr)(cu:Nat)(AC:List Bs)(P E F:Value)(nums:List Int)(Al:List Bs)(eds:List AO):Prop where
 nam:Ky wr W5.heap.size n bx AY bM bU U cu AC P E F nums Al
 own:wr.ownsRow W5.heap.size 59 4 E eds.length (Ce eds)
 but:AH (fun q=>q=AY∨q=bM) W5 wr
theorem JB.extn{W5 wr w':World}{n bx AY bM bU:Nat}{U:Option Addr}{cu:Nat}{AC:List Bs}{P E F:Value}{nums:List Int}{Al:List Bs}{eds:List AO}(h:JB W5 wr n bx AY bM bU U cu AC P E F nums Al eds)(hx:Aa wr w'):JB W5 w' n bx AY bM bU U cu AC P E F nums Al eds:=
 ⟨h.nam.extn hx,Ap h.own hx,h.but.ext hx⟩
theorem JB.name{W5 wr w':World}{n bx AY bM bU:Nat}{U:Option Addr}{cu:Nat}{AC:List Bs}{P E F F':Value}{nums Zr:List Int}{Al Nf:List Bs}{eds:List AO}(h:JB W5 wr n bx AY bM bU U cu AC P E F nums Al eds)
  (hn:Ky w' W5.heap.size n bx AY bM bU U cu AC P E F' Zr Nf) (hb:AH (fun k=>k=AY∨k=bM∨F.ownBlock=some k) wr w'):JB W5 w' n bx AY bM bU U cu AC P E F' Zr Nf eds:=by
 obtain⟨cn,By⟩:=Kk h.nam.num;refine⟨hn,DG h.own hb ?_,?_⟩
 ·rintro k hk (e|e|e)
  ·subst e;exact AL h.own By (by decide) hk
  ·subst e;exact AL h.own h.nam.cM (by decide) hk
  ·rcases h.nam.fac.2 with⟨h',_⟩|⟨g,cap,cur,h',_,hgb,_⟩
   ·rw [h']at e;cases e
   ·rw [h']at e;simp only [Value.ownBlock,Asj]at e;subst e;exact AL h.own hgb (by decide) hk
 ·refine⟨hb.os.trans h.but.os,hb.tape.trans h.but.tape,hb.output.trans h.but.output,Asq h.but.size hb.size,fun k hk Js=>?_⟩;refine(hb.block k (Asp hk h.but.size) ?_).trans (h.but.block k hk Js);rintro(e|e|e)
  ·exact Js (.inl e)
  ·exact Js (.inr e)
  ·have:=(h.nam.fac.lt k e).1;omega
theorem JB.app{W5 wr W7:World}{n bx AY bM bU:Nat}{U:Option Addr}{cu:Nat}{AC:List Bs}{P E E' F:Value}{nums:List Int}{Al:List Bs}{eds:List AO}(h:JB W5 wr n bx AY bM bU U cu AC P E F nums Al eds)
  {d:AO} {X4:World} (hE:Aa wr X4) (hg:X4.grownBy W7 E.ownBlock) (ho:W7.ownsRow W5.heap.size 59 4 E' (eds.length+1) (Ce (eds ++ [d]))) :
  W7.heap[bM]?=some (.cells #[P,E,F] 43)/\JB W5 (W7.setCell ⟨bM,1,none⟩ E') n bx AY bM bU U cu AC P E' F nums Al (eds ++ [d]):=by
 have h4:=h.extn hE;obtain⟨cn,By⟩:=Kk h4.nam.num;have e1:=AL h4.own h4.nam.cM (by decide);have e2:=AL h4.own By (by decide);have e3:=AL h4.own h4.nam.cN (by decide);have e4:=AL h4.own h4.nam.cU (by decide);have g7:∀{j:Nat} {o:Obj},X4.heap[j]?=some o→E.ownBlock≠some j→W7.heap[j]?=some o:=fun {j o} hj hn=>(hg.block j (Asd hj) (fun e=>hn e.symm)).trans hj;have h7:=g7 h4.nam.cM e1;have n1:=Hb By h4.nam.cM (by decide);have n2:=Hb h4.nam.cN h4.nam.cM (by decide);have n3:=Hb h4.nam.cU h4.nam.cM (by decide);have bb:=(AH.refl (fun k=>k=bM) W7).setCell (p:=⟨bM,1,none⟩) (.inl rfl) E'
 have kp:∀{e:TypeId} {s m:Nat} {v:Value} {xs:List Value} {B:Nat},X4.ownsRow B e s v m xs→e≠59→e≠43→(W7.setCell ⟨bM,1,none⟩ E').ownsRow B e s v m xs:=by
  intro e s m v xs B hv hne IB
  have EI:W7.ownsRow B e s v m xs:=hv.kept hg (by
   cases hE:E.ownBlock with
   | none=>cases hv':v.ownBlock with
    | none=>exact .inl rfl
    | some k=>exact .inr (by simp)
   | some k=>
    refine .inr (fun e0=>?_)
    rcases h4.own.2 with⟨h',_⟩|⟨g,cap,cur,h',_,hgb,_⟩
    ·rw [h']at hE;cases hE
    ·rw [h']at hE;simp only [Value.ownBlock,Asj]at hE;subst hE
     exact AL hv hgb hne e0)
  exact DG EI bb (fun k hk e0=>by subst e0;exact AL EI h7 IB hk)
 refine⟨h7,⟨?_,kp h4.nam.num (by decide) (by decide),?_,kp h4.nam.fac (by decide) (by decide),?_,kp h4.nam.uni (by decide) (by decide),h.nam.uB,h.nam.lenN,h.nam.lenU,h.nam.cu1,h.nam.cu2,h.nam.rng,h.nam.cnt,h.nam.txt⟩,?_,?_⟩
 ·rw [EP (by show bx≠bM;exact n2)];exact g7 h4.nam.cN e3
 ·simp only [World.setCell,Array.getElem?_modify,h7];simp
 ·rw [EP (by show bU≠bM;exact n3)];exact g7 h4.nam.cU e4
 ·rw [List.length_append,List.length_singleton];exact DG ho bb (fun k hk e0=>by subst e0;exact AL ho h7 (by decide) hk)
 ·exact(h4.but.own hg h4.own (Asf _)).setCell (p:=⟨bM,1,none⟩) (.inl (.inr rfl)) E'
structure MapAt(w:World)(n:Nat)(AC:List Bs)(A B F:Option Addr)(c d g:Nat)(m:B7)(Al:List Bs):Prop where
 cap:IW m c d g
 pts:Am w A (flat (AI m.pts))
 eds:Am w B (Ce m.eds)
 fac:Am w F (Al.map S)
 nf:m.nf=Al.length
 le:Al.length<=n
 sheet:∀p∈m.pts,BL p
 txt:∀s∈Al,s∈AC
structure Lz(n:Nat)(A B F:Option Addr):Prop where
 a:∀x,A=some x→n<=x.block
 b:∀x,B=some x→n<=x.block
 f:∀x,F=some x→n<=x.block
theorem Lz.mono{n k:Nat}{A B F:Option Addr}(h:Lz n A B F)(hk:k<=n):Lz k A B F:=
 ⟨fun x e=>Asq hk (h.a x e),fun x e=>Asq hk (h.b x e),fun x e=>Asq hk (h.f x e)⟩
theorem Ry{w:World}{B:Nat}{e:TypeId}{s n k c:Nat}{A:Option Addr}{xs:List Value}(h:w.ownsRow B e s (.slice A k c) n xs):∀x,A=some x→B<=x.block:=by
 rintro x rfl;exact(h.lt x.block rfl).1
def rS(w0:World)(n:Nat)(AC:List Bs)(e:Ending)(w':World):Prop:=
 ∃A B F c d g m Al,e=.returned (Dh A B F m c d g)/\MapAt w' n AC A B F c d g m Al/\Aa w0 w'/\Lz w0.heap.size A B F
theorem AlH{w0 w:World}(hw:Ai w0)(hx:Aa w0 w){n:Nat}(hn:n<=1000)(l:List Hf)(hl:Ey n l)(hlen:l.length<=2000)(v:Value)(hv:w.ownsRow w0.heap.size 137 5 v l.length (Bl l))
  (AC:List Bs) (Dx:AC.length=n) (U:Option Addr) (cu:Nat) (hU:w.ownsRow 0 9 1 (.slice U n cu) n (AC.map S)) (hc1:n<=cu) (hc2:cu<=9223372036854775807) :
  Calls Tryz.prog 83 #[v,.slice U n cu] w (rS w0 n AC):=by
 obtain⟨vA,vc,rfl,-,-,-⟩:=Am.of_own' (by omega) hv;have hb1:=(Below.heap_alloc (w.alloc (.cells #[.slice U n cu] 41)) (.cells #[.slice none 0 0,.slice none 0 0,.slice none 0 0] 43) w.heap.size (by simp)).trans (Ase w (.cells #[.slice U n cu] 41));have hb2:=Ase (w.alloc (.cells #[.slice U n cu] 41)) (.cells #[.slice none 0 0,.slice none 0 0,.slice none 0 0] 43);rw [Asn]at hb2;have hE:=((Aa.refl w).alloc (.cells #[.slice U n cu] 41)).alloc (.cells #[.slice none 0 0,.slice none 0 0,.slice none 0 0] 43);have Ih:=Ap hv hE;have qQ:=Asb (And.intro hl hlen);clear hl hlen hv
 go_enter Tryz.func83,Tryz.ntmps83
 go_upto_region 2 with fail
 generalize (w.alloc (.cells #[.slice U n cu] 41)).alloc (.cells #[.slice none 0 0,.slice none 0 0,.slice none 0 0] 43)=W1 at *;obtain⟨bU,zY⟩:∃x,x=w.heap.size:=⟨_,rfl⟩;rw [←zY]at hb1 hb2 ⊢;have Ars:w.heap.size<=bU:=(by omega);clear zY;have hx1:=hx.trans hE
 go_loopw [0,5] (fun vv a wr=>∃(l:List Hf) (b:Bool),a=.bool b/\Ey n l/\l.length<=2000/\wr.ownsRow w0.heap.size 137 5 vv l.length (Bl l)/\Aa W1 wr) (fun vv a _=>match a with | .bool true=>lenV vv+1|_=>0)
 case atStart=>exact⟨l,true,rfl,qQ.out.1,qQ.out.2,Ih,Aa.refl _⟩
 case round=>
  obtain⟨l,b,rfl,hl,hlen,hv,Ac⟩:=hrel;have HL:=Asb hl;clear hl;obtain⟨vA,vc,rfl,-,-,-⟩:=Am.of_own' (by omega) hv
  cases b
  ·have Cj:=Ase wr (.cells #[.slice none 0 0,.slice none 0 0,.slice none 0 0] 43);have E2:=(Aa.refl wr).alloc (.cells #[.slice none 0 0,.slice none 0 0,.slice none 0 0] 43);have hv2:=Ap hv E2;have Cs:=Ac.trans E2
   go_upto_region 13 with fail
   generalize wr.alloc (.cells #[.slice none 0 0,.slice none 0 0,.slice none 0 0] 43)=W2 at *;obtain⟨bM,zT⟩:∃x,x=wr.heap.size:=⟨_,rfl⟩;rw [←zT]at Cj ⊢;have ApO:W1.heap.size<=bM:=(by have:=Ac.size;omega);clear zT hv E2 Ac;have Iv:=Asb hlen
   go_loopw [9] (fun iv w3=>∃(j:Nat) (l3:List Hf),iv=.int .i64 (j:Nat)/\j<=l.length/\Ey n l3/\l3.length=l.length/\w3.ownsRow w0.heap.size 137 5 (.slice vA l.length vc) l.length (Bl l3)/\AH (fun q=>(Value.slice vA l.length vc).ownBlock=some q) W2 w3) (fun iv _=>l.length-(intOf iv).toNat)
   case atStart=>exact⟨0,l,rfl,by omega,HL.out,rfl,hv2,AH.refl _ _⟩
   case round=>
    obtain⟨j,l3,rfl,hj,hl3,js,hv3,BV⟩:=hrel;have H3:=Asb (And.intro hl3 js);clear hl3 js;by_cases AG:j<l.length
    ·have hj0:(0:Int)<=(j:Int):=(by omega);have DD:(j:Int)<(l.length:Int):=by omega
     go_upto_region 16 with fail
     go_loopw [10] (fun kv w4=>∃(k:Nat) (l4:List Hf),kv=.int .i64 (k:Nat)/\k<=j/\Ey n l4/\l4.length=l.length/\w4.ownsRow w0.heap.size 137 5 (.slice vA l.length vc) l.length (Bl l4)/\AH (fun q=>(Value.slice vA l.length vc).ownBlock=some q) W2 w4) (fun kv _=>(intOf kv).toNat)
     case atStart=>exact⟨j,l3,rfl,by omega,H3.out.1,H3.out.2,hv3,BV⟩
     case round=>
      obtain⟨k,l4,rfl,hk,hl4,jt,hv4,Jh⟩:=hrel;have H4:=Asb (And.intro hl4 jt);clear hl4 jt;by_cases hk0:k=0
      ·subst hk0
       go_upto_region 16 with fail
       refine Bi (by kernel_rfl) (by kernel_rfl) ?_
       repeat (go_big_quiet_step (fail))
       refine wpQuiet_nil ?_;rintro W5 ⟨q,hq⟩;have Ae:Aa wr W5:=hq▸q.h;clear hq q;have AV:=Ap hv4 Ae;have Ji:=Jh.ext Ae;go_wp2;go_roundw
       case rel=>exact⟨j+1,l4,by go_num,AG,H4.out.1,H4.out.2,AV,Ji⟩
       case measure=>simp [intOf];omega
      ·obtain⟨q,hq⟩:∃q,k=q+1:=⟨k-1,by omega⟩;have hkw:IntKind.wrap .i64 ((k:Int)-1)=(q:Int):=(by rw [Asm _ (by omega)];omega);obtain⟨g,rfl⟩:=nI hv4 (by omega);have hk4:k<l4.length:=(by rw [H4.out.2];omega);have Ig:q<l4.length:=(by omega);obtain⟨x0,x1,x2,x3,x4⟩:=QC l4 k hk4;obtain⟨y0,y1,y2,y3,y4⟩:=QC l4 q Ig;have Cf:=H4.out.1 _ (Asg hk4);have Es:=H4.out.1 _ (Asg Ig);obtain⟨x,hx⟩:∃x,x=l4[k]:=⟨_,rfl⟩;obtain⟨y,hy⟩:∃x,x=l4[q]:=⟨_,rfl⟩;rw [←hx]at x0 x1 x2 x3 x4 Cf;rw [←hy]at y0 y1 y2 y3 y4 Es;have c0:=(hv4.cellAt (k*5) (by omega)).trans x0;have c1:=(hv4.cellAt (k*5+1) (by omega)).trans x1;have c2:=(hv4.cellAt (k*5+2) (by omega)).trans x2;have c3:=(hv4.cellAt (k*5+3) (by omega)).trans x3;have c4:=(hv4.cellAt (k*5+4) (by omega)).trans x4;have d0:=(hv4.cellAt (q*5) (by omega)).trans y0;have d1:=(hv4.cellAt (q*5+1) (by omega)).trans y1;have d2:=(hv4.cellAt (q*5+2) (by omega)).trans y2;have d3:=(hv4.cellAt (q*5+3) (by omega)).trans y3;have d4:=(hv4.cellAt (q*5+4) (by omega)).trans y4;have Bv:(0:Int)<(k:Int):=(by omega);have hkn:0<k:=(by omega);have Ul:decide (0<k)=true:=decide_eq_true hkn;have hk2:(k:Int)<(l.length:Int):=(by omega);have B8:(0:Int)<=(q:Int):=(by omega);have BR:(q:Int)<(l.length:Int):=(by omega);have Dv:Aa w0 wr:=Jh.toExt (hx1.trans Cs) (fun q e=>(hv4.lt q e).1);have ls:=fun (z:Ad wr)=>Ak7 x y Cf.1.sz Cf.2.1.sz Es.1.sz Es.2.1.sz z.w ((hw.ext Dv).ext z.h);obtain⟨lb,EW⟩:∃b,b=Zf x y:=⟨_,rfl⟩;rw [←EW]at ls;unfold Jo at ls;have HQ:=Asb (And.intro hq (And.intro hx hy));clear hq hx hy x0 x1 x2 x3 x4 y0 y1 y2 y3 y4 EW;have e0:∀z:Ad wr,z.w.cell? ⟨g,k*5,none⟩=some (S (R x.a.x)):=Ad.cell c0;have e1:∀z:Ad wr,z.w.cell? ⟨g,k*5+1,none⟩=some (S (R x.a.y)):=Ad.cell c1;have e2:∀z:Ad wr,z.w.cell? ⟨g,k*5+2,none⟩=some (S (R x.b.x)):=Ad.cell c2;have e3:∀z:Ad wr,z.w.cell? ⟨g,k*5+3,none⟩=some (S (R x.b.y)):=Ad.cell c3;have e4:∀z:Ad wr,z.w.cell? ⟨g,k*5+4,none⟩=some (.int .i64 x.l):=Ad.cell c4;have f0:∀z:Ad wr,z.w.cell? ⟨g,q*5,none⟩=some (S (R y.a.x)):=Ad.cell d0;have f1:∀z:Ad wr,z.w.cell? ⟨g,q*5+1,none⟩=some (S (R y.a.y)):=Ad.cell d1;have f2:∀z:Ad wr,z.w.cell? ⟨g,q*5+2,none⟩=some (S (R y.b.x)):=Ad.cell d2;have f3:∀z:Ad wr,z.w.cell? ⟨g,q*5+3,none⟩=some (S (R y.b.y)):=Ad.cell d3;have f4:∀z:Ad wr,z.w.cell? ⟨g,q*5+4,none⟩=some (.int .i64 y.l):=Ad.cell d4
       go_upto_region 16 with fail
       refine Bi (by kernel_rfl) (by kernel_rfl) ?_
       repeat (go_big_quiet_step (with_reducible refine eF (ls _)))
       refine wpQuiet_nil ?_;rintro W5 ⟨z,hz⟩;have Ae:Aa wr W5:=hz▸z.h;clear hz z;have AV:=Ap hv4 Ae;have Ji:=Jh.ext Ae
       cases lb
       ·clear c0 c1 c2 c3 c4 d0 d1 d2 d3 d4 e0 e1 e2 e3 e4 f0 f1 f2 f3 f4 ls;go_wp2;go_roundw
        case rel=>exact⟨j+1,l4,by go_num,AG,H4.out.1,H4.out.2,AV,Ji⟩
        case measure=>simp [intOf];omega
       ·replace c0:=Ae.cellS c0;replace c1:=Ae.cellS c1;replace c2:=Ae.cellS c2;replace c3:=Ae.cellS c3;replace c4:=Ae.cellS c4;replace d0:=Ae.cellS d0;replace d1:=Ae.cellS d1;replace d2:=Ae.cellS d2;replace d3:=Ae.cellS d3;replace d4:=Ae.cellS d4;clear e0 e1 e2 e3 e4 f0 f1 f2 f3 f4 ls hv4 Jh Dv Ae;have p0:=AV.frozenAt (k*5);have p1:=AV.frozenAt (k*5+1);have p2:=AV.frozenAt (k*5+2);have p3:=AV.frozenAt (k*5+3);have p4:=AV.frozenAt (k*5+4);have r0:=AV.frozenAt (q*5);have r1:=AV.frozenAt (q*5+1);have r2:=AV.frozenAt (q*5+2);have r3:=AV.frozenAt (q*5+3);have r4:=AV.frozenAt (q*5+4);have QO:¬(k=q):=(by have:=HQ.out.1;omega);have hqk:¬(q=k):=by have:=HQ.out.1;omega
        go_upto_region 18 with fail
        go_region
        have o1:=y9 (y9 AV k y) q x;have b1:=tR (tR Ji (g:=g) rfl k y) (g:=g) rfl q x;unfold S at o1 b1;generalize ((((((((((W5.setCell ⟨g,k*5,none⟩ (.string ⟨(R y.a.x).toArray⟩)).setCell ⟨g,k*5+1,none⟩ (.string ⟨(R y.a.y).toArray⟩)).setCell ⟨g,k*5+2,none⟩ (.string ⟨(R y.b.x).toArray⟩)).setCell ⟨g,k*5+3,none⟩ (.string ⟨(R y.b.y).toArray⟩)).setCell ⟨g,k*5+4,none⟩ (.int .i64 y.l)).setCell ⟨g,q*5,none⟩ (.string ⟨(R x.a.x).toArray⟩)).setCell ⟨g,q*5+1,none⟩ (.string ⟨(R x.a.y).toArray⟩)).setCell ⟨g,q*5+2,none⟩ (.string ⟨(R x.b.x).toArray⟩)).setCell ⟨g,q*5+3,none⟩ (.string ⟨(R x.b.y).toArray⟩)).setCell ⟨g,q*5+4,none⟩ (.int .i64 x.l))=W6 at *;have o2:=Ap o1 (Aa.refl W6).drew;have b2:=b1.ext (Aa.refl W6).drew;have hmx:x∈l4:=(by rw [HQ.out.2.1];exact Asg _);have kq:y∈l4:=by rw [HQ.out.2.2];exact Asg _
        have hin:Ey n ((l4.set k y).set q x):=by
         intro z hz
         rcases List.mem_or_eq_of_mem_set hz with e|e
         ·exact(H4.out.1.set k kq) z e
         ·rw [e];exact H4.out.1 x hmx
        have Sr:=Asb hin;have nh:q<=j/\q<k:=(by have:=HQ.out.1;omega);have qZ:=Asb nh;clear hin hmx kq o1 b1 c0 c1 c2 c3 c4 d0 d1 d2 d3 d4 p0 p1 p2 p3 p4 r0 r1 r2 r3 r4 nh;go_wp2;go_roundw
        case rel=>exact⟨q,(l4.set k y).set q x,by go_num,qZ.out.1,Sr.out,by rw [List.length_set,List.length_set];exact H4.out.2,o2,b2⟩
        case measure=>have:=qZ.out.2;simp [intOf];omega
    ·have FO:j=l.length:=(by omega);subst FO;have Q3:=BV.cells Cj (AL hv2 Cj (by decide));have Ek:Aa w0 wr:=BV.toExt (hx1.trans Cs) (fun q e=>(hv3.lt q e).1);have AiG:(l.length:Int)<=(l.length:Int):=(by omega);have zZ:=BV.cells ((Cs.block _ (Asd hb1)).trans hb1) (AL hv2 ((Cs.block _ (Asd hb1)).trans hb1) (by decide));have AhN:=BV.cells ((Cs.block _ (Asd hb2)).trans hb2) (AL hv2 ((Cs.block _ (Asd hb2)).trans hb2) (by decide));have zX:bU+1≠bM:=by have:=Asd hb2;omega
     have yS:wr.ownsRow 0 9 1 (.slice U n cu) n (AC.map S):=by
      refine DG (Ap hU (hE.trans Cs)) BV (fun q B8 BR=>?_)
      rcases hv2.2 with⟨h',_⟩|⟨g,cap,cur,h',_,hgb,_⟩
      ·rw [h']at BR;cases BR
      ·rw [h']at BR;simp only [Value.ownBlock,Asj]at BR;subst BR;exact AL (Ap hU (hE.trans Cs)) hgb (by decide) B8
     obtain⟨W3,rfl⟩:=GN Ek;have hPT:MQ W3 W3 bM (.slice none 0 0) []:=⟨Q3,⟨rfl,.inl ⟨rfl,rfl⟩⟩,AH.refl _ _,fun p hp=>by cases hp⟩;have Du:=Asd Q3
     go_upto_region 20 with fail
     go_loopw [79] (fun iv wp=>∃(j:Nat) (P:Value) (pts:List Pt),iv=.int .i64 (j:Nat)/\j<=l.length/\pts.length<=j/\MQ W3 wp bM P pts) (fun iv _=>l.length-(intOf iv).toNat)
     case atStart=>exact⟨0,_,[],rfl,by omega,by simp,hPT⟩
     case round=>
      obtain⟨j,P,pts,rfl,hj,hpl,hP⟩:=hrel;obtain⟨oP,cP,rfl,lB,-,-⟩:=Am.of_own' (by omega) hP.own;have EJ:=DG hv3 hP.but (fun q hq e=>by subst e;exact AL hv3 Q3 (by decide) hq);by_cases AG:j<l.length
      ·obtain⟨g,rfl⟩:=nI EJ (by omega);have Uf:j<l3.length:=(by rw [H3.out.2];exact AG);obtain⟨x0,x1,x2,x3,x4⟩:=QC l3 j Uf;have Cf:=H3.out.1 _ (Asg Uf);obtain⟨x,hx⟩:∃x,x=l3[j]:=⟨_,rfl⟩;rw [←hx]at x0 x1 x2 x3 x4 Cf;have c0:=(EJ.cellAt (j*5) (by omega)).trans x0;have c1:=(EJ.cellAt (j*5+1) (by omega)).trans x1;have c2:=(EJ.cellAt (j*5+2) (by omega)).trans x2;have c3:=(EJ.cellAt (j*5+3) (by omega)).trans x3;have c4:=(EJ.cellAt (j*5+4) (by omega)).trans x4;have hj0:(0:Int)<=(j:Int):=(by omega);have DD:(j:Int)<(l.length:Int):=(by omega);clear hx x0 x1 x2 x3 x4;have As:=Ase wr (.cells #[S (R x.a.x),S (R x.a.y),S (R x.b.x),S (R x.b.y),.int .i64 x.l] 137);have E4:=(Aa.refl wr).alloc (.cells #[S (R x.a.x),S (R x.a.y),S (R x.b.x),S (R x.b.y),.int .i64 x.l] 137);have OS:=hP.ext E4;have lA:=lB.ext E4
       go_upto_region 22 with fail
       unfold S at As OS lA;generalize (wr.alloc (.cells #[.string ⟨(R x.a.x).toArray⟩,.string ⟨(R x.a.y).toArray⟩,.string ⟨(R x.b.x).toArray⟩,.string ⟨(R x.b.y).toArray⟩,.int .i64 x.l] 137))=W4 at *;obtain⟨bx,JW⟩:∃y,y=wr.heap.size:=⟨_,rfl⟩;rw [←JW]at As ⊢;clear JW c0 c1 c2 c3 c4 E4 EJ lB hP;have q0:∀z:Ad W4,z.w.cell? ⟨bM,0,none⟩=some (.slice oP pts.length cP):=Ad.cell (Ab OS.cM rfl);have q1:∀z:Ad W4,z.w.cell? ⟨bx,0,none⟩=some (S (R x.a.x)):=Ad.cell (Ab As rfl);have q2:∀z:Ad W4,z.w.cell? ⟨bx,1,none⟩=some (S (R x.a.y)):=Ad.cell (Ab As rfl);have pn:=Vz
       have Aib:(∃t,pts.length=t+1/\∃y,Ar y x.a=true/\pts[t]?=some y)∨pts.length=0∨(∃t,pts.length=t+1/\∃y,Ar y x.a=false/\pts[t]?=some y):=by
        rcases Nat.eq_zero_or_pos pts.length with h0|h0
        ·exact .inr (.inl h0)
        ·have hlt:pts.length-1<pts.length:=by omega
         cases hb:Ar pts[pts.length-1] x.a
         ·exact .inr (.inr ⟨pts.length-1,by omega,_,hb,Asl hlt⟩)
         ·exact .inl ⟨pts.length-1,by omega,_,hb,Asl hlt⟩
       rcases Aib with⟨t,ht,y,hy,Mm⟩|ki
       ·obtain⟨Gy,UB⟩:=List.getElem?_eq_some_iff.1 Mm;obtain⟨bp,op,rfl,y0,y1⟩:=BO lA Gy;rw [UB]at y0 y1;have q3:∀z:Ad W4,z.w.cell? ⟨bp,op+t*2,none⟩=some (S (R y.x)):=Ad.cell y0;have q4:∀z:Ad W4,z.w.cell? ⟨bp,op+t*2+1,none⟩=some (S (R y.y)):=Ad.cell y1;obtain⟨pl,If⟩:∃pl,pl=pts.length:=⟨_,rfl⟩;rw [←If]at q0;have hw1:IntKind.wrap .i64 ((pl:Int)-1)=(t:Int):=(by rw [Asm _ (by omega)];omega);have NJ:((pl:Int) == 0)=false:=beq_false_of_ne (by omega);have U8:(0:Int)<=(t:Int):=(by omega);have Rc:(t:Int)<(pl:Int):=(by omega);have HP:=Asb (And.intro If hpl);clear ht If Mm UB Gy y0 y1;refine Bi (by kernel_rfl) (by kernel_rfl) ?_
        repeat (go_big_quiet_step (fail))
        refine wpQuiet_nil ?_;rintro W5 ⟨z,hz⟩;have Ae:Aa W4 W5:=hz▸z.h;clear hz z;have ES:=OS.ext Ae;clear q0 q1 q2 q3 q4;go_wp2;go_roundw
        case rel=>exact⟨j+1,_,pts,by go_num,AG,by omega,ES⟩
        case measure=>simp [intOf];omega
       ·go_cut [99] (fun v wx=>v=.bool true/\Aa W4 wx)
        case first=>
         rcases ki with h0|⟨t,ht,y,hy,Mm⟩
         ·rw [h0]at q0;refine Bi (by kernel_rfl) (by kernel_rfl) ?_
          repeat (go_big_quiet_step (fail))
          refine wpQuiet_nil ?_;rintro W5 ⟨z,hz⟩;have Ae:Aa W4 W5:=hz▸z.h;clear hz z q0 q1 q2;go_wp2;go_meet;exact⟨rfl,Ae⟩
         ·obtain⟨Gy,UB⟩:=List.getElem?_eq_some_iff.1 Mm;obtain⟨bp,op,rfl,y0,y1⟩:=BO lA Gy;rw [UB]at y0 y1;have q3:∀z:Ad W4,z.w.cell? ⟨bp,op+t*2,none⟩=some (S (R y.x)):=Ad.cell y0;have q4:∀z:Ad W4,z.w.cell? ⟨bp,op+t*2+1,none⟩=some (S (R y.y)):=Ad.cell y1;obtain⟨pl,If⟩:∃pl,pl=pts.length:=⟨_,rfl⟩;rw [←If]at q0;have hw1:IntKind.wrap .i64 ((pl:Int)-1)=(t:Int):=(by rw [Asm _ (by omega)];omega);have NJ:((pl:Int) == 0)=false:=beq_false_of_ne (by omega);have U8:(0:Int)<=(t:Int):=(by omega);have Rc:(t:Int)<(pl:Int):=(by omega);clear ht If Mm UB Gy y0 y1;refine Bi (by kernel_rfl) (by kernel_rfl) ?_
          repeat (go_big_quiet_step (fail))
          refine wpQuiet_nil ?_;rintro W5 ⟨z,hz⟩;have Ae:Aa W4 W5:=hz▸z.h;clear hz z q0 q1 q2 q3 q4;go_wp2;go_meet;exact⟨rfl,Ae⟩
        case rest=>
         obtain⟨rfl,Ae⟩:=hcut;obtain⟨W5,rfl⟩:=GN Ae;have ES:=OS.ext Ae;have b6:=(Ae.block _ (Asd As)).trans As;have z0:=Ab (o:=0) b6 rfl;have z1:=Ab (o:=1) b6 rfl;have z2:W5.cell? ⟨bM,0,none⟩=some (.slice oP pts.length cP):=Ab ES.cM rfl;have hbase:W3.heap.size<=W5.heap.size:=ES.but.size;have Un:=Iv.out;clear q0 q1 q2 ki As
         go_wp2_with (at_builtin;go_loud (refine Aep rfl _ _ rfl _ W3.heap.size (.slice oP pts.length cP) pts.length pts rfl (Ap ES.own ((Aa.refl W5).alloc _)) (by omega) x.a W5.heap.size (Ase W5 _) rfl (by simp;omega) ?_);intro v7 w7 Gw Gt;obtain⟨h7,yH⟩:=ES.app Du Cf.1 ((Aa.refl W5).alloc _) Gt Gw;obtain⟨oP7,cP7,rfl,-,-,-⟩:=Am.of_own' (by omega) Gw;have k0:w7.cell? ⟨bM,0,none⟩=some (.slice oP pts.length cP):=Ab h7 rfl;have k1:=An (o:=0) h7)
         have HP7:=Asb yH;clear yH Gt Gw h7 ES OS z0 z1 z2;go_wp2;go_roundw
         case rel=>exact⟨j+1,_,pts ++ [x.a],by go_num,AG,by rw [List.length_append,List.length_singleton];omega,HP7.out⟩
         case measure=>simp [intOf];omega
      ·have FO:j=l.length:=(by omega);subst FO;have hmk:=UX n (by omega) (n:Int) rfl wr;have Kc:∀(fn:Fn) (first cap:Array Value) (w:World),(Instr.makeFunc fn first cap).run Tryz.prog w=.ok (.func fn first cap) w:=fun _ _ _ _=>rfl;have XK:=hP.but.cells zZ (Hb zZ Q3 (by decide));have XR:=hP.but.cells AhN zX;have u0:wr.cell? ⟨bU,0,none⟩=some (.slice U n cu):=Ab XK rfl;have fU:=DG yS hP.but (fun q hq e=>by subst e;exact AL yS Q3 (by decide) hq);have Ea:=(Aa.refl wr).alloc (.cells (madeCells #[.int .i64 0] n) 3);have Eb:=(Aa.refl (wr.alloc (.cells (madeCells #[.int .i64 0] n) 3))).alloc (.cells #[.slice (some ⟨wr.heap.size,0,none⟩) n n] 135);have By:=Ase (wr.alloc (.cells (madeCells #[.int .i64 0] n) 3)) (.cells #[.slice (some ⟨wr.heap.size,0,none⟩) n n] 135);rw [Asn]at By;have Y5:=Ap (Vo wr 0 n (Nat.zero_le _) (by omega)) Eb;have C5:=Ea.trans Eb;have qg:((wr.alloc (.cells (madeCells #[.int .i64 0] n) 3)).alloc (.cells #[.slice (some ⟨wr.heap.size,0,none⟩) n n] 135)).heap.size=wr.heap.size+2:=by simp
       go_upto_region 27 with fail
       have ES:=hP.ext C5;have yT:=Ap fU C5;have yU:=(C5.block _ (Asd XK)).trans XK;have AV:=Ap (DG hv3 hP.but (fun q hq e=>by subst e;exact AL hv3 Q3 (by decide) hq)) C5;have qo:∀k,(Value.slice U n cu).ownBlock=some k→k<wr.heap.size:=fun k hk=>(fU.lt k hk).2;have zW:=(C5.block _ (Asd XR)).trans XR;have AhS:w0.heap.size<=wr.heap.size:=Asq Ek.size hP.but.size;clear hmk Ea Eb C5 hP fU XK u0;generalize (wr.alloc (.cells (madeCells #[.int .i64 0] n) 3)).alloc (.cells #[.slice (some ⟨wr.heap.size,0,none⟩) n n] 135)=W5 at *;obtain⟨AY,BJ⟩:∃x,x=wr.heap.size:=⟨_,rfl⟩;rw [←BJ]at By Y5 qg AhS ⊢;have LV:AY<W5.heap.size:=by omega
       have OT:JB W5 W5 n (AY+1) AY bM bU U cu AC (.slice oP pts.length cP) (.slice none 0 0) (.slice none 0 0) (zn (List.replicate n 0)) [] []:=by
        refine⟨⟨By,Y5,ES.cM,⟨rfl,.inl ⟨rfl,rfl⟩⟩,yU,yT,fun k hk=>?_,by simp [zn],Dx,hc1,hc2,?_,?_,?_⟩,⟨rfl,.inl ⟨rfl,rfl⟩⟩,AH.refl _ _⟩
        ·have:=qo k hk;omega
        ·intro z hz;simp [zn]at hz;obtain⟨-,rfl⟩:=hz;simp
        ·exact Asq (Nat.add_le_add_left List.countP_le_length _) (by simp [zn])
        ·intro s hs;cases hs
       have ApN:bM<W5.heap.size:=Asd ES.cM;have yM:=ES.sheet;have Q5:=Oc ES.own Ek.size;have Gm:Aa w0 W5:=ES.but.toExt Ek (fun q e=>by subst e;have:=hx1.size;omega);have XL:=Oc AV (Nat.zero_le _);have Un:=Iv.out;have Wb:=Asb (And.intro yM hpl);clear By Y5 ES yT yU AV qo qg BJ yM hpl lB EJ
       go_upto_region 28 with fail
       go_loopw [114] (fun iv we=>∃(j:Nat) (E F:Value) (nums:List Int) (Al:List Bs) (eds:List AO),iv=.int .i64 (j:Nat)/\j<=l.length/\eds.length<=j/\JB W5 we n (AY+1) AY bM bU U cu AC (.slice oP pts.length cP) E F nums Al eds) (fun iv _=>l.length-(intOf iv).toNat)
       case atStart=>exact⟨0,_,_,_,[],[],rfl,by omega,by simp,OT⟩
       case round=>
        obtain⟨j,E,F,nums,Al,eds,rfl,hj,hel,hS⟩:=hrel;by_cases AG:j<l.length
        ·obtain⟨g,rfl⟩:=nI XL (by omega);have Uf:j<l3.length:=(by rw [H3.out.2];exact AG);obtain⟨x0,x1,x2,x3,x4⟩:=QC l3 j Uf;have Cf:=H3.out.1 _ (Asg Uf);obtain⟨x,hx⟩:∃x,x=l3[j]:=⟨_,rfl⟩;rw [←hx]at x0 x1 x2 x3 x4 Cf;obtain⟨cn,By⟩:=Kk hS.nam.num
         have EJ:=DG XL hS.but (by
          rintro q hq (e|e)
          ·subst e;obtain⟨uP,QD⟩:=Kk OT.nam.num;exact AL XL QD (by decide) hq
          ·subst e;exact AL XL OT.nam.cM (by decide) hq)
         have JP:=DG Q5 hS.but (by
          rintro q hq (e|e)
          ·subst e;obtain⟨uP,QD⟩:=Kk OT.nam.num;exact AL Q5 QD (by decide) hq
          ·subst e;exact AL Q5 OT.nam.cM (by decide) hq)
         have yZ:∀{w':World},AH (fun q=>q=AY∨q=bM) W5 w'→Aa w0 w':=fun h=>h.toExt Gm (by
          have h0:=hx1.size
          rintro q (e|e)<;>omega)
         have FG:Aa w0 wr:=yZ hS.but;have c0:=(EJ.cellAt (j*5) (by omega)).trans x0;have c1:=(EJ.cellAt (j*5+1) (by omega)).trans x1;have c2:=(EJ.cellAt (j*5+2) (by omega)).trans x2;have c3:=(EJ.cellAt (j*5+3) (by omega)).trans x3;have c4:=(EJ.cellAt (j*5+4) (by omega)).trans x4;have hj0:(0:Int)<=(j:Int):=(by omega);have DD:(j:Int)<(l.length:Int):=(by omega);have HX:=Asb hx;clear hx x0 x1 x2 x3 x4;have As:=Ase wr (.cells #[S (R x.a.x),S (R x.a.y),S (R x.b.x),S (R x.b.y),.int .i64 x.l] 137);have E6:=(Aa.refl wr).alloc (.cells #[S (R x.a.x),S (R x.a.y),S (R x.b.x),S (R x.b.y),.int .i64 x.l] 137);have fN:=hS.extn E6;have fK:=Ap JP E6;have lP:=Ap EJ E6;have BI:=FG.trans E6
         go_upto_region 30 with fail
         unfold S at As fN fK lP BI;generalize (wr.alloc (.cells #[.string ⟨(R x.a.x).toArray⟩,.string ⟨(R x.a.y).toArray⟩,.string ⟨(R x.b.x).toArray⟩,.string ⟨(R x.b.y).toArray⟩,.int .i64 x.l] 137))=W6 at *;obtain⟨bh,El⟩:∃y,y=wr.heap.size:=⟨_,rfl⟩;rw [←El]at As ⊢;clear El c0 c1 c2 c3 c4 E6 EJ JP hS FG By;have lc:=mK x.a x.b Cf.1.sz Cf.2.1.sz W6 (hw.ext BI);obtain⟨lz,hlz⟩:∃z,z=Bp x.a x.b:=⟨_,rfl⟩;rw [←hlz]at lc;unfold Ak at lc;have z0:=Ab (o:=0) As rfl;have z1:=Ab (o:=1) As rfl;have z2:=Ab (o:=2) As rfl;have z3:=Ab (o:=3) As rfl
         go_wp2_with fail
         ((with_reducible refine lc.mono ?_);rintro e W7 ⟨rfl,Aj⟩)
         have LQ:=fN.extn Aj;by_cases AqJ:0<lz
         ·clear z0 z1 z2 z3 lc;go_wp2;go_roundw
          case rel=>exact⟨j+1,E,F,nums,Al,eds,by go_num,AG,by omega,LQ⟩
          case measure=>simp [intOf];omega
         ·have yK:=Ap fK Aj;have rk:=Ap lP Aj;have BW:=BI.trans Aj;have GH:=(Aj.block _ (Asd As)).trans As;have nc:=xu LQ.nam (by omega) LQ.but.size x.l Cf.2.2.2.1 Cf.2.2.2.2;have y4:=Ab (o:=4) GH rfl;clear z0 z1 z2 z3 lc fN fK lP BI As Aj
          go_wp2_with fail
          ((with_reducible refine nc.mono ?_);rintro e W8 ⟨zl,F8,nums8,faces8,rfl,NE,ET⟩)
          have I6:=LQ.name NE ET;have GF:Aa w0 W8:=yZ I6.but;obtain⟨cn7,QE⟩:=Kk LQ.nam.num
          have Y2:∀{k:Nat} {cs:Array Value} {e:TypeId},W7.heap[k]?=some (.cells cs e (0,0))→e≠3→e≠43→e≠9→W8.heap[k]?=some (.cells cs e (0,0)):=by
           intro k cs e hk h1 h2 h3;refine ET.cells hk ?_;rintro(q|q|q)
           ·subst q;exact Hb hk QE h1 rfl
           ·subst q;exact Hb hk LQ.nam.cM h2 rfl
           ·exact AL LQ.nam.fac hk (fun e0=>h3 e0.symm) q
          have IC:∀{B:Nat} {e:TypeId} {s m:Nat} {v:Value} {xs:List Value},W7.ownsRow B e s v m xs→e≠3→e≠43→e≠9→W8.ownsRow B e s v m xs:=by
           intro B e s m v xs hv h1 h2 h3;refine DG hv ET ?_;rintro k hk (q|q|q)
           ·subst q;exact AL hv QE h1 hk
           ·subst q;exact AL hv LQ.nam.cM h2 hk
           ·rcases hv.2 with⟨h',_⟩|⟨g,cap,cur,h',_,hgb,_⟩
            ·rw [h']at hk;cases hk
            ·rw [h']at hk;simp only [Value.ownBlock,Asj]at hk;subst hk;exact AL LQ.nam.fac hgb (fun e0=>h3 e0.symm) q
          have KI:=Y2 GH (by decide) (by decide) (by decide);have yL:=IC yK (by decide) (by decide) (by decide);have rp:=IC rk (by decide) (by decide) (by decide);clear Y2 IC ET NE nc y4 yK rk GH;obtain⟨oE,cE,rfl,-,-,-⟩:=Am.of_own' (by omega) I6.own;obtain⟨oF,cF,rfl,-,-,-⟩:=Am.of_own' (by omega) I6.nam.fac;obtain⟨oP',cP',fk,nt,yE,yG⟩:=Am.of_own' (by omega) yL;simp only [Value.slice.injEq,true_and]at fk;obtain⟨rfl,rfl⟩:=fk;obtain⟨oV,cV,fo,hrV,hV1,hV2⟩:=Am.of_own' (by omega) rp;simp only [Value.slice.injEq,true_and]at fo;obtain⟨rfl,rfl⟩:=fo;have m0:W8.cell? ⟨bM,0,none⟩=some (.slice oP pts.length cP):=Ab I6.nam.cM rfl;have m1:W8.cell? ⟨bM,1,none⟩=some (.slice oE eds.length cE):=Ab I6.nam.cM rfl;have m2:W8.cell? ⟨bM,2,none⟩=some (.slice oF faces8.length cF):=Ab I6.nam.cM rfl;have i1:=fun (w':World) (h:Aa W8 w')=>wn pts x.a oP cP (.slice oE eds.length cE) (.slice oF faces8.length cF) w' (nt.ext h) yE yG;have i2:=fun (w':World) (h:Aa W8 w')=>wn pts x.b oP cP (.slice oE eds.length cE) (.slice oF faces8.length cF) w' (nt.ext h) yE yG;have bk:=fun (w':World) (h:Aa W8 w')=>WE l3 x (some ⟨g,0,none⟩) vc w' (hrV.ext h) (by rw [H3.out.2];exact hV1) hV2;rw [H3.out.2]at bk;have hbr:=H3.out.1.back x;have nm:=fun (w':World) (h:Aa W8 w')=>xu (I6.extn h).nam (by omega) (I6.extn h).but.size (Ez l3 x) hbr.1 hbr.2;generalize FV pts x.a=r1 at *;generalize FV pts x.b=r2 at *;generalize Ez l3 x=r3 at *;unfold Ak at i1 i2;unfold Jo at bk;have XU:=Asd KI
          have SB:∀{w':World},w'.heap[bh]?=W8.heap[bh]?→(w'.cell? ⟨bh,0,none⟩=some (S (R x.a.x))/\w'.cell? ⟨bh,1,none⟩=some (S (R x.a.y))/\w'.cell? ⟨bh,2,none⟩=some (S (R x.b.x))/\w'.cell? ⟨bh,3,none⟩=some (S (R x.b.y))/\w'.cell? ⟨bh,4,none⟩=some (.int .i64 x.l)):=fun h=>
           have h':=h.trans KI
           ⟨Ab h' rfl,Ab h' rfl,Ab h' rfl,Ab h' rfl,Ab h' rfl⟩
          have X:Aa W8 W8:=Aa.refl W8;obtain⟨cn8,N3⟩:=Kk I6.nam.num;have JU:bh≠AY:=Hb KI N3 (by decide);have LV:bh≠bM:=Hb KI I6.nam.cM (by decide);have OZ:=AL I6.nam.fac KI (by decide);have Jm:=AL I6.own KI (by decide);have Ais:eds.length<200000:=(by omega);clear N3 QE yL rp
          go_upto_region 32 with fail
          go_region_held3 (fun w'=>w'.cell? ⟨bh,0,none⟩=some (S (R x.a.x))/\w'.cell? ⟨bh,1,none⟩=some (S (R x.a.y))/\w'.cell? ⟨bh,2,none⟩=some (S (R x.b.x))/\w'.cell? ⟨bh,3,none⟩=some (S (R x.b.y))/\w'.cell? ⟨bh,4,none⟩=some (.int .i64 x.l))
            ((refine SB ?_;first|exact X.block bh XU|exact X.drew.block bh XU|exact T9|exact(((Aa.refl _).drew.block bh SA).trans T9)|exact((((Aa.refl _).alloc _).block bh SA).trans T9)|exact((((Aa.refl _).alloc _).drew.block bh SA).trans T9)|exact T5|exact((EP T5n).trans T5)))
            (first
             | ((with_reducible refine(i1 _ (by first | exact X | exact X.drew)).mono ?_);rintro e w9 ⟨rfl,Az⟩;replace X:Aa W8 w9:=(by first | exact X.trans Az | exact X.drew.trans Az);have n0:=X.cellS m0;have n1:=X.cellS m1;have n2:=X.cellS m2)
             | ((with_reducible refine(i2 _ (by first | exact X | exact X.drew)).mono ?_);rintro e w9 ⟨rfl,Az⟩;replace X:Aa W8 w9:=(by first | exact X.trans Az | exact X.drew.trans Az);have n0:=X.cellS m0;have n1:=X.cellS m1;have n2:=X.cellS m2)
             | ((with_reducible refine(bk _ (by first | exact X | exact X.drew)).mono ?_);rintro e w9 ⟨rfl,Az⟩;replace X:Aa W8 w9:=(by first | exact X.trans Az | exact X.drew.trans Az);have n0:=X.cellS m0;have n1:=X.cellS m1;have n2:=X.cellS m2)
             | (go_simp;(with_reducible refine(nm _ (by first | exact X | exact X.drew)).mono ?_);rintro e w9 ⟨zr,F9,ArC,Xj,rfl,hn9,EB⟩;have Tw:=(I6.extn (by first | exact X | exact X.drew)).name hn9 EB;have T9:w9.heap[bh]?=W8.heap[bh]?:=(EB.block bh (Asp XU X.size) (by rintro(e | e | e);exact JU e;exact LV e;exact OZ e)).trans (X.block bh XU);have SA:bh < w9.heap.size:=Asd (T9.trans KI);have n1:w9.cell? ⟨bM,1,none⟩=some (.slice oE eds.length cE):=Ab Tw.nam.cM rfl;have nn1:=World.new_ne w9 ⟨bM,1,none⟩ n1;have nn2:=Asd Tw.nam.cM)
             | (refine Aov rfl _ _ rfl _ W5.heap.size (.slice oE eds.length cE) eds.length eds rfl (Ap Tw.own (by first | exact(Aa.refl w9).alloc _ | exact((Aa.refl w9).alloc _).drew | exact(Aa.refl w9).drew.alloc _)) Ais ⟨r1,r2,zl,zr⟩ w9.heap.size (Ase w9 _) rfl (Asq Tw.but.size (Aa.size (by first | exact(Aa.refl w9).alloc _ | exact((Aa.refl w9).alloc _).drew | exact(Aa.refl w9).drew.alloc _))) ?_;intro v10 FZ Y8 ii;obtain⟨h10,Ah4⟩:=Tw.app (by first | exact(Aa.refl w9).alloc _ | exact((Aa.refl w9).alloc _).drew | exact(Aa.refl w9).drew.alloc _) ii Y8;obtain⟨ArD,Ap3,rfl,-,-,-⟩:=Am.of_own' (by omega) Y8;have T5:FZ.heap[bh]?=W8.heap[bh]?:=(ii.block bh (Asp SA (Aa.size (by first | exact(Aa.refl w9).alloc _ | exact((Aa.refl w9).alloc _).drew | exact(Aa.refl w9).drew.alloc _))) (fun e=>Jm e.symm)).trans ((((Aa.refl w9).alloc _).block bh SA).trans T9);have T5n:bh≠bM:=LV;have k0:FZ.cell? ⟨bM,1,none⟩=some (.slice oE eds.length cE):=Ab h10 rfl;have k1:=An (o:=1) h10))
          all_goals (
           have yP:=Ah4;go_wp2;go_roundw
           case rel=>
            first
             | exact⟨j+1,_,_,_,_,eds ++ [⟨r1,r2,zl,zr⟩],by go_num,AG,by rw [List.length_append,List.length_singleton];omega,yP⟩
             | exact⟨j+1,_,_,_,_,eds ++ [⟨r1,r2,zl,zr⟩],by go_num,AG,by rw [List.length_append,List.length_singleton];omega,yP.extn (Aa.refl _).drew⟩
           case measure=>simp [intOf];omega)
        ·have FO:j=l.length:=(by omega);subst FO;have AqB:(l.length:Int)<=(l.length:Int):=(by omega);obtain⟨cn,By⟩:=Kk hS.nam.num;obtain⟨uP,QD⟩:=Kk OT.nam.num;obtain⟨oE,cE,rfl,-,-,-⟩:=Am.of_own' (by omega) hS.own;obtain⟨oF,cF,rfl,-,-,-⟩:=Am.of_own' (by omega) hS.nam.fac
         have JP:=DG Q5 hS.but (by
          rintro q hq (e|e)
          ·subst e;exact AL Q5 QD (by decide) hq
          ·subst e;exact AL Q5 OT.nam.cM (by decide) hq)
         have EU:=hS.but.cells zW (by
          rintro(e|e)
          ·exact Hb zW QD (by decide) e
          ·exact zX e)
         have FG:Aa w0 wr:=hS.but.toExt Gm (by
          have h0:=hx1.size
          rintro q (e|e)<;>omega)
         have m0:wr.cell? ⟨bM,0,none⟩=some (.slice oP pts.length cP):=Ab hS.nam.cM rfl;have m1:wr.cell? ⟨bM,1,none⟩=some (.slice oE eds.length cE):=Ab hS.nam.cM rfl;have m2:wr.cell? ⟨bM,2,none⟩=some (.slice oF Al.length cF):=Ab hS.nam.cM rfl;have r0:wr.cell? ⟨bU+1,0,none⟩=some (.slice none 0 0):=Ab EU rfl;have r1:wr.cell? ⟨bU+1,1,none⟩=some (.slice none 0 0):=Ab EU rfl;have r2:wr.cell? ⟨bU+1,2,none⟩=some (.slice none 0 0):=Ab EU rfl;have r3:=An (o:=0) EU;have r4:=An (o:=1) EU;have r5:=An (o:=2) EU;have GM:=dM (.slice oP pts.length cP) (.slice oE eds.length cE) (.slice oF Al.length cF) EU;have bb:=(((AH.refl (fun q=>q=bU+1) wr).setCell (p:=⟨bU+1,0,none⟩) (.inl rfl) (.slice oP pts.length cP)).setCell (p:=⟨bU+1,1,none⟩) (.inl rfl) (.slice oE eds.length cE)).setCell (p:=⟨bU+1,2,none⟩) (.inl rfl) (.slice oF Al.length cF);have f1:=DG JP bb (fun q hq e=>by subst e;exact AL JP EU (by decide) hq);have f2:=DG hS.own bb (fun q hq e=>by subst e;exact AL hS.own EU (by decide) hq);have f3:=DG hS.nam.fac bb (fun q hq e=>by subst e;exact AL hS.nam.fac EU (by decide) hq);have Np:=bb.toExt FG (fun q e=>by subst e;have:=hx.size;omega);obtain⟨A1,c1,e1,g1,g2,g3⟩:=Am.of_own' (by omega) f1;obtain⟨A2,c2,e2,g4,g5,g6⟩:=Am.of_own' (by omega) f2;obtain⟨A3,c3,e3,g7,g8,g9⟩:=Am.of_own' (by omega) f3;simp only [Value.slice.injEq,true_and]at e1 e2 e3;obtain⟨rfl,rfl⟩:=e1;obtain⟨rfl,rfl⟩:=e2;obtain⟨rfl,rfl⟩:=e3;have hfn:Al.length<=n:=by have:=hS.nam.cnt;omega
         have AP:MapAt (((wr.setCell ⟨bU+1,0,none⟩ (.slice oP pts.length cP)).setCell ⟨bU+1,1,none⟩ (.slice oE eds.length cE)).setCell ⟨bU+1,2,none⟩ (.slice oF Al.length cF)) n AC oP oE oF cP cE cF ⟨pts,eds,Al.length⟩ Al:=
          ⟨⟨g2,g3,g5,g6,g8,g9⟩,g1,g4,g7,rfl,hfn,Wb.out.1,hS.nam.txt⟩
         have t1:=Ab (o:=0) GM rfl;have t2:=Ab (o:=1) GM rfl;have t3:=Ab (o:=2) GM rfl;have hfr:Lz w0.heap.size oP oE oF:=⟨by first|exact Ry f1|exact Ry (Oc f1 Gm.size),by first|exact Ry f2|exact Ry (Oc f2 Gm.size),by first|exact Ry f3|exact Ry (Oc f3 Gm.size)⟩;have Cz:=Asb (And.intro AP (And.intro Np hfr));clear AP Np hfr f1 f2 f3 g1 g4 g7 bb GM EU hS JP;go_wp2;refine bodyPost_ret (v:=.agg #[.slice oP pts.length cP,.slice oE eds.length cE,.slice oF Al.length cF]) (by simp [results,Tryz.results83,go_sem,t1,t2,t3]) rfl ?_;exact⟨oP,oE,oF,cP,cE,cF,⟨pts,eds,Al.length⟩,Al,rfl,Cz.out.1,Cz.out.2.1,Cz.out.2.2⟩
  ·go_upto_region 5 with fail
   go_loopw [0,5,6] (fun vv a i wr=>∃(l1:List Hf) (b:Bool) (j:Nat),a=.bool b/\i=.int .i64 (j:Nat)/\j<=2001/\Ey n l1/\l1.length<=2000/\wr.ownsRow w0.heap.size 137 5 vv l1.length (Bl l1)/\Aa W1 wr/\(b=false→l1.length=l.length)/\(b=true→l1.length<l.length)) (fun vv a i _=>match a with | .bool true=>0|_=>lenV vv+1-(intOf i).toNat)
   case atStart=>exact⟨l,false,0,rfl,rfl,by omega,HL.out,hlen,hv,Ac,fun _=>rfl,fun h=>by cases h⟩
   case round=>
    obtain⟨l1,b,j,rfl,rfl,hj,CU,Ys,UD,KP,jB,lJ⟩:=hrel;have Ow:=Asb CU;clear CU;obtain⟨vA1,vc1,rfl,Po,dp,dr⟩:=Am.of_own' (by omega) UD
    cases b
    ·have VT:=Asb (jB rfl);clear jB lJ;by_cases AG:j<l1.length
     ·have hj0:(0:Int)<=(j:Int):=(by omega);have DD:(j:Int)<(l1.length:Int):=(by omega);have mA:=hx1.trans KP;have nd:=Alg l1 Ow.out.ok (by omega) j AG vA1 vc1 wr (hw.ext mA) Po dp dr
      go_wp2_with fail
      ((with_reducible refine nd.mono ?_);rintro e w5 ⟨k,rfl,Ae,hk⟩)
      by_cases hk0:k<0
      ·have hHK:=hk0;have AV:=Ap UD Ae;go_wp2;go_roundw
       case rel=>exact⟨l1,false,j+1,rfl,by go_num,by omega,Ow.out,Ys,AV,KP.trans Ae,fun _=>VT.out,fun h=>by cases h⟩
       case measure=>simp [lenV,intOf];omega
      ·obtain⟨kk,Co,rfl,TP,Yz⟩:=hk.resolve_left hk0;have jc:=Aku l1 (by omega) j kk AG Co vA1 vc1 w5 (Po.ext Ae) dp dr;have hJ:=Akt Ow.out (Asg AG) (Asg Co) Yz;have hJl:=Aks Ow.out (x:=l1[j]) (y:=l1[kk]) (Asg AG) TP;generalize NU l1 l1[j] l1[kk]=l2 at *;have HJ:=Asb hJ;clear hk TP Yz hJ
       go_wp2_with fail
       ((with_reducible refine jc.mono ?_);rintro e w6 ⟨v6,rfl,Ca,Ao⟩)
       have EI:=Oc Ca (Asq (hx1.trans (KP.trans Ae)).size (Asf _));have hlv:=Ak5 EI;have BI:=KP.trans (Ae.trans Ao);go_wp2;go_roundw
       case rel=>exact⟨l2,true,j+1,rfl,by go_num,by omega,HJ.out,by have:=VT.out;omega,EI,BI,(fun h=>by cases h),fun _=>by have:=VT.out;omega⟩
       case measure=>simp [lenV,intOf];omega
     ·have DD:¬((j:Int)<(l1.length:Int)):=(by omega);go_wp2;go_roundw
      case rel=>exact⟨l1,false,rfl,Ow.out,Ys,UD,KP⟩
      case measure=>simp [lenV]
    ·have hlt:=lJ rfl;clear jB lJ;by_cases AG:j<l1.length
     ·have DD:(j:Int)<(l1.length:Int):=(by omega);go_wp2;go_roundw
      case rel=>exact⟨l1,true,rfl,Ow.out,Ys,UD,KP⟩
      case measure=>simp [lenV];omega
     ·have DD:¬((j:Int)<(l1.length:Int)):=(by omega);go_wp2;go_roundw
      case rel=>exact⟨l1,true,rfl,Ow.out,Ys,UD,KP⟩
      case measure=>simp [lenV];omega
end Go.Proofs.YtdaefncphfeaeaaGreatDoor
