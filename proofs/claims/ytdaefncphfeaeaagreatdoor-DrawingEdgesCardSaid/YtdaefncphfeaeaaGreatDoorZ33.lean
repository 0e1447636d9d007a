/- Z33: D2 M17 M21 M22 N3. -/
import Derived.Test.YtdaefncphfeaeaaGreatDoorZ32
import Derived.Shelf.SlSortCmp.WholeK
import Derived.Test.YtdaefncphfeaeaaGreatDoorZ29
set_option maxHeartbeats 4000000
namespace Go.Proofs.YtdaefncphfeaeaaGreatDoor
open Go.RowKit Kl
theorem Ae0{p:Pt}{l:List Sg}(hp:Gg p)(hl:∀s∈l,MO s):∀j,j<=l.length→JG (j*8000000000000) (G8 p (l.take j)):=by
 intro j
 induction j with
 | zero=>intro _;exact⟨0,by simp,by simp only [List.take_zero,G8,List.foldl_nil,Rat.intCast_zero];grind⟩
 | succ j ih=>intro hj;rw [sX p l (by omega)];have hs:=hl _ (Asg (show j<l.length by omega));exact((ih (by omega)).add (sV hp hs.a hs.b)).mono (by omega)
theorem Aez(l:List Sg)(A:Option Addr)(c:Nat)(hl:∀e∈l,MO e)(h0:0<l.length)(hn:l.length<=100000)(hc:l.length<=c)(hcm:c<=9223372036854775807)(w:World)(hw:Ai w)(hr:Am w A (Cb l)) :
  Calls Tryz.prog 200 #[.slice A l.length c] w (A0 (R (MV l)) w):=by
 have hp:Gg l[0].a:=(hl _ (Asg h0)).a;have p20:(10:Nat)^20<=10^100:=Nat.pow_le_pow_right (by omega) (by omega);have p21:(10:Nat)^20<=10^200:=Nat.pow_le_pow_right (by omega) (by omega);refine Aey l A c (k:=200) (K:=200) (fun e he=>(hl e he).sz (by omega)) (by omega) (by omega) (by omega) (by omega) h0 ?_ ?_ hc hcm (by omega) w hw hr
 ·intro j hj;exact(Ae0 hp hl j hj).sz (by have:=hn;omega) (by omega)
 ·intro j hj;have hs:=hl _ (Asg hj);exact(sV hp hs.a hs.b).sz (by omega) (by omega)
section
open Go.Sort Go.Shelf
theorem Aof(blk off cap:Nat)(d:Array Way)(w0 w:World)(hw:Ai w0)(hx:Aa w0 w)(h0:w0.heap.size<=blk)(hH:HoldsK Hz 4 w blk off d)(hblk:blk<w.heap.size)(hsz:d.size<4611686018427387904) :
  Calls Tryz.prog 241 #[.slice (some ⟨blk,off,none⟩) d.size cap,.func (.func 197) #[] #[]] w fun e w'=>
   e=.returned (.tuple #[])/\∃(d':Array Way) (n:Nat) (os:Array Obj),PermIn 0 d.size d d'/\SortedIn (ltOf IT) 0 d.size d'/\w'=sortWorldK Hz 4 w blk off n d' os:=by
 have eg:∀args w,(callFunc 197 args).run Tryz.prog w=.ok (.enter 197 args) w:=enters_of Tryz.func197 (by kernel_rfl) rfl;exact AnyQ.slices_SortFunc Tryz.laysSortSg 4 Tryz.isAgg183 Tryz.sizeOf183 Hz Xh Ags IT AbQ 197 #[] blk off cap d w eg (AoZ hw hx h0 off d.size) hH hblk hsz
end
section
open Go.Sort
def Lt(l:List Way):List Way:=l.mergeSort (fun x y=>!ltOf IT y x)
theorem Aoj(d d':Array Way)(h1:PermIn 0 d.size d d')(h2:SortedIn (ltOf IT) 0 d.size d'):d'=(Lt d.toList).toArray:=by
 have h:=sorted_unique_holds (lt:=ltOf IT) AbQ Apa d d' h1 h2;rw [Lt,←h]
theorem Abf(blk off cap:Nat)(d:Array Way)(w0 w:World)(hw:Ai w0)(hx:Aa w0 w)(h0:w0.heap.size<=blk)(hH:HoldsK Hz 4 w blk off d)(hblk:blk<w.heap.size)(hsz:d.size<4611686018427387904) :
  Calls Tryz.prog 241 #[.slice (some ⟨blk,off,none⟩) d.size cap,.func (.func 197) #[] #[]] w fun e w'=>e=.returned (.tuple #[])/\∃(n:Nat) (os:Array Obj),w'=sortWorldK Hz 4 w blk off n (Lt d.toList).toArray os:=
 (Aof blk off cap d w0 w hw hx h0 hH hblk hsz).mono fun _ _ ⟨he,d',n,os,h1,h2,hw⟩=>⟨he,n,os,by rw [←Aoj d d' h1 h2];exact hw⟩
end
theorem Akx(mb:Option Nat)(w:World) :
  Calls Tryz.prog 196 #[.map mb] w fun e w'=>e=.returned (.func (.func 242) #[] #[.pointer (some ⟨w.heap.size,0,none⟩)])/\w'=w.alloc (.cells #[.map mb] 108):=by
 go_enter Tryz.func196,Tryz.ntmps196;go_wp2;go_ret;exact⟨rfl,rfl⟩
/-! ### The first way below a place -/
theorem Abg{x:Rat}(h:x≠0):0<x*x:=by
 rcases Lp x 0 with k|k|k
 ·have:=Rat.mul_pos (show 0 < -x by grind) (show 0 < -x by grind);grind
 ·exact absurd k h
 ·exact Rat.mul_pos k k
theorem vH{a b:Rat}(h:b≠0):a/b*b=a:=by
 rw [Rat.div_def,Rat.mul_assoc,Rat.mul_comm b⁻¹,Rat.mul_inv_cancel _ h];grind
theorem Abe(s:Sg)(h:s.a.x<s.b.x):∃m:Rat,s.b.y=s.a.y+m*(s.b.x-s.a.x)/\∀X,BX s X=s.a.y+m*(X-s.a.x):=by
 have hd:s.b.x-s.a.x≠0:=(by grind);refine⟨(s.b.y-s.a.y)/(s.b.x-s.a.x),?_,?_⟩
 ·rw [vH hd];grind
 ·intro X;unfold BX
  congr 1
  rw [Rat.div_def,Rat.div_def]
  grind
theorem Ru{a b z:Pt}{m:Rat}(h:a.x<b.x)(h1:a.x<=z.x)(h2:z.x<=b.x)(hb:b.y=a.y+m*(b.x-a.x))(hz:z.y=a.y+m*(z.x-a.x)):Gh a b z:=by
 have hd:b.x-a.x≠0:=(by grind);have e:=vH (a:=z.x-a.x) hd;refine⟨(z.x-a.x)/(b.x-a.x),?_,?_,?_,?_⟩
 ·refine Ve (a:=b.x-a.x) (by grind) ?_;rw [Rat.mul_comm,e];grind
 ·have:0<=1-(z.x-a.x)/(b.x-a.x):=by
   refine Ve (a:=b.x-a.x) (by grind) ?_;generalize (z.x-a.x)/(b.x-a.x)=q at *
   grind
  grind
 ·rw [e];grind
 ·have:b.y-a.y=m*(b.x-a.x):=(by grind);rw [this];generalize (z.x-a.x)/(b.x-a.x)=q at *;have:q*(m*(b.x-a.x))=m*(q*(b.x-a.x)):=(by grind);rw [this,e];exact hz
def DN(p:Pt)(s:Sg):Prop:=s.a.x<p.x/\p.x<=s.b.x/\BX s p.x<p.y
def I1(p:Pt)(s t:Sg):Prop:=BX t p.x<BX s p.x∨(BX s p.x=BX t p.x/\0<Aw s.b s.a t.a)
theorem nU{p q:Pt}(h1:p.x=q.x)(h2:p.y=q.y):p=q:=by cases p;cases q;simp_all
theorem ZS{s t:Sg}(h1:s.a=t.a)(h2:s.b=t.b):s=t:=by cases s;cases t;simp_all
theorem aI{p:Pt}{s t:Sg}(hs:DN p s)(ht:DN p t)(hX:G6 s.a s.b t.a t.b)(hne:s≠t)(hh:BX s p.x=BX t p.x):s.b=t.b/\Aw s.b s.a t.a≠0:=by
 obtain⟨s1,s2,-⟩:=hs;obtain⟨t1,t2,-⟩:=ht;have sx:s.a.x<s.b.x:=(by grind);have tx:t.a.x<t.b.x:=(by grind);obtain⟨ms,sb,sh⟩:=Abe s sx;obtain⟨mt,tb,th⟩:=Abe t tx;rw [sh,th]at hh;clear sh th;generalize p.x=X at *;have ty:t.a.y=s.a.y+ms*(X-s.a.x)-mt*(X-t.a.x):=(by grind);have sy:s.a.y=t.a.y+mt*(X-t.a.x)-ms*(X-s.a.x):=by grind
 have AnJ:ms=mt→s.a.x<t.a.x→False:=by
  intro e h;have ho:Gh s.a s.b t.a:=Ru (m:=ms) sx (by grind) (by grind) sb (by subst e;grind)
  rcases hX.pc ho with k|k
  ·rw [k]at h;grind
  ·rw [k]at t1;grind
 have AnK:ms=mt→t.a.x<s.a.x→False:=by
  intro e h;have ho:Gh t.a t.b s.a:=Ru (m:=mt) tx (by grind) (by grind) tb (by subst e;grind)
  rcases hX.pa ho with k|k
  ·rw [k]at h;grind
  ·rw [k]at s1;grind
 have AaS:ms=mt→s.a=t.a:=by
  intro e
  have:s.a.x=t.a.x:=by
   rcases Lp s.a.x t.a.x with h|h|h
   ·exact(AnJ e h).elim
   ·exact h
   ·exact(AnK e h).elim
  refine nU this ?_;subst e;rw [this]at hh;grind
 rcases Om s2 with s3|s3
 ·exfalso
  rcases Om t2 with t3|t3
  ·by_cases e:ms=mt
   ·have ea:=AaS e
    have hb:s.b.x=t.b.x:=by
     rcases Lp s.b.x t.b.x with h|h|h
     ·have ho:Gh t.a t.b s.b:=Ru (m:=mt) tx (by grind) (by grind) tb (by subst e;rw [sb,ea])
      rcases hX.pb ho with k|k
      ·rw [k]at s3;grind
      ·rw [k]at h;grind
     ·exact h
     ·have ho:Gh s.a s.b t.b:=Ru (m:=ms) sx (by grind) (by grind) sb (by subst e;rw [tb,ea])
      rcases hX.pd ho with k|k
      ·rw [k]at t3;grind
      ·rw [k]at h;grind
    exact hne (ZS ea (nU hb (by rw [sb,tb,ea,e,hb])))
   ·have hd:ms-mt≠0:=(by grind);refine hX.px ?_ ?_ ?_ ?_ ?_ ?_
    ·intro k;rw [k]at hh;have:(ms-mt)*(X-t.a.x)=0:=by grind
     rcases M5 this with h|h<;>grind
    ·intro k;rw [k]at s1;grind
    ·intro k;rw [k]at s3;grind
    ·intro k;have:(ms-mt)*(t.b.x-X)=0:=by rw [k]at sb;grind
     rcases M5 this with h|h<;>grind
    ·have e1:Aw s.a s.b t.a=((s.b.x-s.a.x)*(ms-mt))*(X-t.a.x):=(by unfold Aw;rw [sb,ty];grind);have e2:Aw s.a s.b t.b = -(((s.b.x-s.a.x)*(ms-mt))*(t.b.x-X)):=(by unfold Aw;rw [sb,tb,ty];grind);rw [e1,e2]
     have hn:(s.b.x-s.a.x)*(ms-mt)≠0:=fun h=>by rcases M5 h with h|h<;>grind
     generalize (s.b.x-s.a.x)*(ms-mt)=D at *;have:=Rat.mul_pos (Abg hn) (Rat.mul_pos (show 0<X-t.a.x by grind) (show 0<t.b.x-X by grind))
     grind
    ·have e1:Aw t.a t.b s.a=((t.b.x-t.a.x)*(mt-ms))*(X-s.a.x):=(by unfold Aw;rw [tb,sy];grind);have e2:Aw t.a t.b s.b = -(((t.b.x-t.a.x)*(mt-ms))*(s.b.x-X)):=(by unfold Aw;rw [tb,sb,sy];grind);rw [e1,e2]
     have hn:(t.b.x-t.a.x)*(mt-ms)≠0:=fun h=>by rcases M5 h with h|h<;>grind
     generalize (t.b.x-t.a.x)*(mt-ms)=D at *;have:=Rat.mul_pos (Abg hn) (Rat.mul_pos (show 0<X-s.a.x by grind) (show 0<s.b.x-X by grind))
     grind
  ·have ho:Gh s.a s.b t.b:=Ru (m:=ms) sx (by grind) (by grind) sb (by grind)
   rcases hX.pd ho with k|k
   ·rw [k]at t3;grind
   ·rw [k]at t3;grind
 ·rcases Om t2 with t3|t3
  ·exfalso
   have ho:Gh t.a t.b s.b:=Ru (m:=mt) tx (by grind) (by grind) tb (by grind)
   rcases hX.pb ho with k|k
   ·rw [k]at s3;grind
   ·rw [k]at s3;grind
  ·have eb:s.b=t.b:=nU (by grind) (by grind);refine⟨eb,?_⟩;intro h0;have e1:Aw s.b s.a t.a=((X-s.a.x)*(X-t.a.x))*(mt-ms):=(by unfold Aw;grind);rw [e1]at h0
   have e:ms=mt:=by
    rcases M5 h0 with h|h
    ·rcases M5 h with h|h<;>grind
    ·grind
   exact hne (ZS (AaS e) eb)
def L0(G:List Sg):Prop:=∀s∈G,∀t∈G,s.a.x<s.b.x→t.a.x<t.b.x→s≠t→G6 s.a s.b t.a t.b
theorem AeE{G:List Sg}(hG:L0 G){p:Pt}{s t:Sg}(hs:s∈G)(ht:t∈G)(cs:DN p s)(ct:DN p t)(hne:s≠t):I1 p s t∨I1 p t s:=by
 unfold I1;have hX:=hG s hs t ht (by unfold DN at cs;grind) (by unfold DN at ct;grind) hne
 rcases Lp (BX s p.x) (BX t p.x)with h|h|h
 ·exact .inr (.inl h)
 ·obtain⟨e,hn⟩:=aI cs ct hX hne h;have:=dF s.b s.a t.a;rw [e]at this hn ⊢
  rcases Lp (Aw t.b s.a t.a) 0 with k|k|k
  ·exact .inr (.inr ⟨h.symm,by grind⟩)
  ·exact absurd k hn
  ·exact .inl (.inr ⟨h,k⟩)
 ·exact .inl (.inl h)
theorem AeD{G:List Sg}(hG:L0 G){p:Pt}{s t:Sg}(hs:s∈G)(ht:t∈G)(cs:DN p s)(ct:DN p t)(hne:s≠t)(h1:I1 p s t)(h2:I1 p t s):False:=by
 unfold I1 at h1 h2;have hX:=hG s hs t ht (by unfold DN at cs;grind) (by unfold DN at ct;grind) hne
 rcases h1 with h1|⟨e1,h1⟩
 ·rcases h2 with h2|⟨e2,h2⟩<;>grind
 ·rcases h2 with h2|⟨e2,h2⟩
  ·grind
  ·obtain⟨e,hn⟩:=aI cs ct hX hne e1;have:=dF s.b s.a t.a;rw [e]at this h1
   grind
theorem AeF{G:List Sg}(hG:L0 G){p:Pt}{s t u:Sg}(hs:s∈G)(ht:t∈G)(hu:u∈G)(cs:DN p s)(ct:DN p t)(cu:DN p u)(n1:s≠t)(n2:t≠u)(h1:I1 p s t)(h2:I1 p t u):I1 p s u:=by
 unfold I1 at *
 rcases h1 with h1|⟨e1,h1⟩
 ·left;rcases h2 with h2|⟨e2,h2⟩<;>grind
 ·rcases h2 with h2|⟨e2,h2⟩
  ·left;grind
  ·right
   refine⟨by grind,?_⟩;have X1:=hG s hs t ht (by unfold DN at cs;grind) (by unfold DN at ct;grind) n1;have X2:=hG t ht u hu (by unfold DN at ct;grind) (by unfold DN at cu;grind) n2;obtain⟨b1,-⟩:=aI cs ct X1 n1 e1;obtain⟨b2,-⟩:=aI ct cu X2 n2 e2;obtain⟨c1,c2,-⟩:=cs;obtain⟨d1,d2,-⟩:=ct;obtain⟨f1,f2,-⟩:=cu;rw [←b1]at h2 b2 d2;rw [←b2]at f2;have:=dW (ux:=s.a.y-s.b.y) (uy:=s.b.x-s.a.x) (vx:=t.a.y-s.b.y) (vy:=s.b.x-t.a.x) (wx:=u.a.y-s.b.y) (wy:=s.b.x-u.a.x) (.inl (by grind)) (.inl (by grind)) (.inl (by grind)) (by unfold Aw at h1;grind) (by unfold Aw at h2;grind);unfold Aw;grind
def PR(p:Pt)(l:List Sg):Option (Sg×Rat)→Prop
 | none=>∀s∈l,¬DN p s
 | some (s,h)=>s∈l/\DN p s/\h=BX s p.x/\∀t∈l,DN p t→t=s∨I1 p s t
theorem tY(p:Pt)(s:Sg):DN p s↔¬0<=AD s.a.x p.x/\¬AD s.b.x p.x<0/\¬0<=AD (BX s p.x) p.y:=by
 unfold DN;have h1:=SU s.a.x p.x;have h2:=SU s.b.x p.x;have h3:=SU (BX s p.x) p.y;constructor
 ·rintro⟨k1,k2,k3⟩;exact⟨by have:=h1.2 k1;omega,fun k=>by have:=h2.1 k;grind,by have:=h3.2 k3;omega⟩
 ·rintro⟨k1,k2,k3⟩;refine⟨h1.1 (by omega),?_,h3.1 (by omega)⟩;have:¬s.b.x<p.x:=fun k=>k2 (h2.2 k)
  grind
theorem AeJ{G:List Sg}(hG:L0 G){p:Pt}{l:List Sg}{st:Option (Sg×Rat)}{s:Sg}(hl:∀t∈l,t∈G)(hs:s∈G)(h:PR p l st):PR p (l ++ [s]) (Jc p st s):=by
 by_cases hc:DN p s
 ·have hc':=(tY p s).1 hc;unfold Jc;rw [if_neg hc'.1,if_neg hc'.2.1,if_neg hc'.2.2]
  cases st with
  | none=>
   refine⟨by simp,hc,rfl,fun t ht ct=>?_⟩
   rcases List.mem_append.1 ht with ht|ht
   ·exact absurd ct (h t ht)
   ·left;simpa using ht
  | some x=>
   obtain⟨b,hb⟩:=x;obtain⟨m1,m2,m3,m4⟩:=h
   have won:I1 p s b→PR p (l ++ [s]) (some (s,BX s p.x)):=by
    intro LW;refine⟨by simp,hc,rfl,fun t ht ct=>?_⟩
    rcases List.mem_append.1 ht with ht|ht
    ·by_cases e:t=s
     ·exact .inl e
     ·right
      rcases m4 t ht ct with e2|e2
      ·rw [e2];exact LW
      ·by_cases e3:s=b
       ·subst e3;exact e2
       ·by_cases e4:b=t
        ·subst e4;exact LW
        ·exact AeF hG hs (hl b m1) (hl t ht) hc m2 ct e3 e4 LW e2
    ·left;simpa using ht
   have lost:¬I1 p s b→PR p (l ++ [s]) (some (b,hb)):=by
    intro LW;refine⟨List.mem_append_left _ m1,m2,m3,fun t ht ct=>?_⟩
    rcases List.mem_append.1 ht with ht|ht
    ·exact m4 t ht ct
    ·obtain rfl:t=s:=(by simpa using ht);by_cases e:t=b
     ·exact .inl e
     ·right
      rcases AeE hG hs (hl b m1) hc m2 e with k|k
      ·exact absurd k LW
      ·exact k
   subst m3;simp only
   split
   ·rename_i e
    have e':=(WU _ _).1 e
    split
    ·rename_i k
     exact won (.inr ⟨e',(ZU _).1 k⟩)
    ·rename_i k
     refine lost ?_;rintro(k2|⟨-,k2⟩)
     ·grind
     ·exact k ((ZU _).2 k2)
   ·rename_i e
    have e':BX s p.x≠BX b p.x:=fun k=>e ((WU _ _).2 k)
    split
    ·rename_i k
     exact won (.inl ((SV _ _).1 k))
    ·rename_i k
     refine lost ?_;rintro(k2|⟨k2,-⟩)
     ·exact k ((SV _ _).2 k2)
     ·exact e' k2
 ·have hst:Jc p st s=st:=by
   rw [tY]at hc;unfold Jc;by_cases k1:0<=AD s.a.x p.x
   ·rw [if_pos k1]
   ·rw [if_neg k1];by_cases k2:AD s.b.x p.x<0
    ·rw [if_pos k2]
    ·rw [if_neg k2];by_cases k3:0<=AD (BX s p.x) p.y
     ·rw [if_pos k3]
     ·exact absurd ⟨k1,k2,k3⟩ hc
  rw [hst]
  cases st with
  | none=>
   intro t ht
   rcases List.mem_append.1 ht with ht|ht
   ·exact h t ht
   ·obtain rfl:t=s:=(by simpa using ht);exact hc
  | some x=>
   obtain⟨m1,m2,m3,m4⟩:=h;refine⟨List.mem_append_left _ m1,m2,m3,fun t ht ct=>?_⟩
   rcases List.mem_append.1 ht with ht|ht
   ·exact m4 t ht ct
   ·obtain rfl:t=s:=(by simpa using ht);exact absurd ct hc
theorem dL{G:List Sg}(hG:L0 G)(p:Pt)(l:List Sg)(hl:∀t∈l,t∈G):PR p l (Ef p l):=by
 have main:∀n,n<=l.length→PR p (l.take n) (Ef p (l.take n)):=by
  intro n
  induction n with
  | zero=>intro _ s hs;simp at hs
  | succ n ih=>intro hn;rw [Asi (by omega),tD];exact AeJ hG (fun t ht=>hl t (List.mem_of_mem_take ht)) (hl _ (Asg _)) (ih (by omega))
 have:=main l.length (Asf _)
 rwa [List.take_length]at this
theorem AeI{G:List Sg}(hG:L0 G)(p:Pt){l l':List Sg}(hp:l.Perm l')(hl:∀t∈l,t∈G):Ef p l=Ef p l':=by
 have h1:=dL hG p l hl;have h2:=dL hG p l' (fun t ht=>hl t (hp.mem_iff.2 ht))
 cases e1:Ef p l with
 | none=>
  rw [e1]at h1
  cases e2:Ef p l' with
  | none=>rfl
  | some y=>
   rw [e2]at h2;exact absurd h2.2.1 (h1 _ (hp.mem_iff.2 h2.1))
 | some x=>
  rw [e1]at h1
  cases e2:Ef p l' with
  | none=>
   rw [e2]at h2;exact absurd h1.2.1 (h2 _ (hp.mem_iff.1 h1.1))
  | some y=>
   rw [e2]at h2;obtain⟨s,hs⟩:=x;obtain⟨t,ht⟩:=y;obtain⟨a1,a2,a3,a4⟩:=h1;obtain⟨b1,b2,b3,b4⟩:=h2
   have hst:s=t:=by refine Classical.byContradiction fun hne=>?_;have k1:=(a4 t (hp.mem_iff.2 b1) b2).resolve_left (Ne.symm hne);have k2:=(b4 s (hp.mem_iff.1 a1) a2).resolve_left hne;exact AeD hG (hl s a1) (hl t (hp.mem_iff.2 b1)) a2 b2 hne k1 k2
   subst hst;rw [a3,b3]
end Go.Proofs.YtdaefncphfeaeaaGreatDoor
