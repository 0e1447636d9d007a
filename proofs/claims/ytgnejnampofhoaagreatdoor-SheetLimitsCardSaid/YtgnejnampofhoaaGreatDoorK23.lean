/- K23: ShD2 ShM17 ShM21 ShM22 ShN3 ShM23. -/
import Derived.Test.YtgnejnampofhoaaGreatDoorK22
import Derived.Shelf.SlSortCmp.WholeK
import Derived.Sort.MapsRangeIn
set_option maxRecDepth 100000
set_option maxHeartbeats 4000000
namespace Go.Proofs.YtgnejnampofhoaaGreatDoor
open Go.RowKit Kl
theorem ql{p:Pt}{l:List Sg}(hp:Cz p)(hl:∀s∈l,F7 s):∀j,j<=l.length→Ir (j*648) (EX p (l.take j)):=by
 intro j
 induction j with
 | zero=>intro _;exact⟨0,by simp,by simp only [List.take_zero,EX,List.foldl_nil,Rat.intCast_zero];grind⟩
 | succ j ih=>intro hj;rw [iN p l (by omega)];have hs:=hl _ (Aj0 (show j<l.length by omega));exact((ih (by omega)).add (iL hp hs.a hs.b)).mono (by omega)
theorem iO(l:List Sg)(A:Option Addr)(c:Nat)(hl:∀e∈l,F7 e)(h0:0<l.length)(hn:l.length<=100000)(hc:l.length<=c)(hcm:c<=9223372036854775807)(w:World)(hw:Ao w)(hr:Ae w A (Cb l)) :
  Calls Tryz.prog 257 #[.slice A l.length c] w (Cc (R (GE l)) w):=by
 have hp:Cz l[0].a:=(hl _ (Aj0 h0)).a;refine qj l A c (k:=1) (K:=9) (fun e he=>(hl e he).sz (by omega)) (by omega) (by omega) (by omega) (by omega) h0 ?_ ?_ hc hcm (by omega) w hw hr
 ·intro j hj;exact(ql hp hl j hj).sz (by have:=hn;omega) (by omega)
 ·intro j hj;have hs:=hl _ (Aj0 hj);exact(iL hp hs.a hs.b).sz (by omega) (by omega)
section
open Go.Sort Go.Shelf
theorem Ag1(blk off cap:Nat)(d:Array Way)(w0 w:World)(hw:Ao w0)(hx:Ac w0 w)(h0:w0.heap.size<=blk)(hH:HoldsK Gc 4 w blk off d)(hblk:blk<w.heap.size)(hsz:d.size<4611686018427387904) :
  Calls Tryz.prog 211 #[.slice (some ⟨blk,off,none⟩) d.size cap,.func (.func 119) #[] #[]] w fun e w'=>
   e=.returned (.tuple #[])/\∃(d':Array Way) (n:Nat) (os:Array Obj),PermIn 0 d.size d d'/\SortedIn (ltOf He) 0 d.size d'/\w'=sortWorldK Gc 4 w blk off n d' os:=by
 have eg:∀args w,(callFunc 119 args).run Tryz.prog w=.ok (.enter 119 args) w:=enters_of Tryz.func119 (by kernel_rfl) rfl;exact AnyQ.slices_SortFunc Tryz.laysSortSg 4 Tryz.isAgg175 Tryz.sizeOf175 Gc TB yn He dp 119 #[] blk off cap d w eg (Ahf hw hx h0 off d.size) hH hblk hsz
end
section
open Go.Sort
def JB(l:List Way):List Way:=l.mergeSort (fun x y=>!ltOf He y x)
theorem Ag6(d d':Array Way)(h1:PermIn 0 d.size d d')(h2:SortedIn (ltOf He) 0 d.size d'):d'=(JB d.toList).toArray:=by
 have h:=sorted_unique_holds (lt:=ltOf He) dp Ahg d d' h1 h2;rw [JB,←h]
theorem zT(blk off cap:Nat)(d:Array Way)(w0 w:World)(hw:Ao w0)(hx:Ac w0 w)(h0:w0.heap.size<=blk)(hH:HoldsK Gc 4 w blk off d)(hblk:blk<w.heap.size)(hsz:d.size<4611686018427387904) :
  Calls Tryz.prog 211 #[.slice (some ⟨blk,off,none⟩) d.size cap,.func (.func 119) #[] #[]] w fun e w'=>e=.returned (.tuple #[])/\∃(n:Nat) (os:Array Obj),w'=sortWorldK Gc 4 w blk off n (JB d.toList).toArray os:=
 (Ag1 blk off cap d w0 w hw hx h0 hH hblk hsz).mono fun _ _ ⟨he,d',n,os,h1,h2,hw⟩=>⟨he,n,os,by rw [←Ag6 d d' h1 h2];exact hw⟩
end
theorem aF(mb:Option Nat)(w:World) :
  Calls Tryz.prog 118 #[.map mb] w fun e w'=>e=.returned (.func (.func 212) #[] #[.pointer (some ⟨w.heap.size,0,none⟩)])/\w'=w.alloc (.cells #[.map mb] 162):=by
 go_enter Tryz.func118,Tryz.ntmps118;go_wp2;go_ret;exact⟨rfl,rfl⟩
/-! ### The first way below a place -/
theorem zW{x:Rat}(h:x≠0):0<x*x:=by
 rcases J3 x 0 with k|k|k
 ·have:=Rat.mul_pos (show 0 < -x by grind) (show 0 < -x by grind);grind
 ·exact absurd k h
 ·exact Rat.mul_pos k k
theorem lE{a b:Rat}(h:b≠0):a/b*b=a:=by
 rw [Rat.div_def,Rat.mul_assoc,Rat.mul_comm b⁻¹,Rat.mul_inv_cancel _ h];grind
theorem zP(s:Sg)(h:s.a.x<s.b.x):∃m:Rat,s.b.y=s.a.y+m*(s.b.x-s.a.x)/\∀X,B9 s X=s.a.y+m*(X-s.a.x):=by
 have hd:s.b.x-s.a.x≠0:=(by grind);refine⟨(s.b.y-s.a.y)/(s.b.x-s.a.x),?_,?_⟩
 ·rw [lE hd];grind
 ·intro X;unfold B9
  congr 1
  rw [Rat.div_def,Rat.div_def]
  grind
theorem Ph{a b z:Pt}{m:Rat}(h:a.x<b.x)(h1:a.x<=z.x)(h2:z.x<=b.x)(hb:b.y=a.y+m*(b.x-a.x))(hz:z.y=a.y+m*(z.x-a.x)):Ez a b z:=by
 have hd:b.x-a.x≠0:=(by grind);have e:=lE (a:=z.x-a.x) hd;refine⟨(z.x-a.x)/(b.x-a.x),?_,?_,?_,?_⟩
 ·refine RY (a:=b.x-a.x) (by grind) ?_;rw [Rat.mul_comm,e];grind
 ·have:0<=1-(z.x-a.x)/(b.x-a.x):=by
   refine RY (a:=b.x-a.x) (by grind) ?_;generalize (z.x-a.x)/(b.x-a.x)=q at *
   grind
  grind
 ·rw [e];grind
 ·have:b.y-a.y=m*(b.x-a.x):=(by grind);rw [this];generalize (z.x-a.x)/(b.x-a.x)=q at *;have:q*(m*(b.x-a.x))=m*(q*(b.x-a.x)):=(by grind);rw [this,e];exact hz
def Dj(p:Pt)(s:Sg):Prop:=s.a.x<p.x/\p.x<=s.b.x/\B9 s p.x<p.y
def GG(p:Pt)(s t:Sg):Prop:=B9 t p.x<B9 s p.x∨(B9 s p.x=B9 t p.x/\0<Ar s.b s.a t.a)
theorem bW{p q:Pt}(h1:p.x=q.x)(h2:p.y=q.y):p=q:=by cases p;cases q;simp_all
theorem Vt{s t:Sg}(h1:s.a=t.a)(h2:s.b=t.b):s=t:=by cases s;cases t;simp_all
theorem V8{p:Pt}{s t:Sg}(hs:Dj p s)(ht:Dj p t)(hX:ET s.a s.b t.a t.b)(hne:s≠t)(hh:B9 s p.x=B9 t p.x):s.b=t.b/\Ar s.b s.a t.a≠0:=by
 obtain⟨s1,s2,-⟩:=hs;obtain⟨t1,t2,-⟩:=ht;have sx:s.a.x<s.b.x:=(by grind);have tx:t.a.x<t.b.x:=(by grind);obtain⟨ms,sb,sh⟩:=zP s sx;obtain⟨mt,tb,th⟩:=zP t tx;rw [sh,th]at hh;clear sh th;generalize p.x=X at *;have ty:t.a.y=s.a.y+ms*(X-s.a.x)-mt*(X-t.a.x):=(by grind);have sy:s.a.y=t.a.y+mt*(X-t.a.x)-ms*(X-s.a.x):=by grind
 have AfQ:ms=mt→s.a.x<t.a.x→False:=by
  intro e h;have ho:Ez s.a s.b t.a:=Ph (m:=ms) sx (by grind) (by grind) sb (by subst e;grind)
  rcases hX.pc ho with k|k
  ·rw [k]at h;grind
  ·rw [k]at t1;grind
 have AfT:ms=mt→t.a.x<s.a.x→False:=by
  intro e h;have ho:Ez t.a t.b s.a:=Ph (m:=mt) tx (by grind) (by grind) tb (by subst e;grind)
  rcases hX.pa ho with k|k
  ·rw [k]at h;grind
  ·rw [k]at s1;grind
 have yT:ms=mt→s.a=t.a:=by
  intro e
  have:s.a.x=t.a.x:=by
   rcases J3 s.a.x t.a.x with h|h|h
   ·exact(AfQ e h).elim
   ·exact h
   ·exact(AfT e h).elim
  refine bW this ?_;subst e;rw [this]at hh;grind
 rcases M6 s2 with s3|s3
 ·exfalso
  rcases M6 t2 with t3|t3
  ·by_cases e:ms=mt
   ·have ea:=yT e
    have hb:s.b.x=t.b.x:=by
     rcases J3 s.b.x t.b.x with h|h|h
     ·have ho:Ez t.a t.b s.b:=Ph (m:=mt) tx (by grind) (by grind) tb (by subst e;rw [sb,ea])
      rcases hX.pb ho with k|k
      ·rw [k]at s3;grind
      ·rw [k]at h;grind
     ·exact h
     ·have ho:Ez s.a s.b t.b:=Ph (m:=ms) sx (by grind) (by grind) sb (by subst e;rw [tb,ea])
      rcases hX.pd ho with k|k
      ·rw [k]at t3;grind
      ·rw [k]at h;grind
    exact hne (Vt ea (bW hb (by rw [sb,tb,ea,e,hb])))
   ·have hd:ms-mt≠0:=(by grind);refine hX.px ?_ ?_ ?_ ?_ ?_ ?_
    ·intro k;rw [k]at hh;have:(ms-mt)*(X-t.a.x)=0:=by grind
     rcases KU this with h|h<;>grind
    ·intro k;rw [k]at s1;grind
    ·intro k;rw [k]at s3;grind
    ·intro k;have:(ms-mt)*(t.b.x-X)=0:=by rw [k]at sb;grind
     rcases KU this with h|h<;>grind
    ·have e1:Ar s.a s.b t.a=((s.b.x-s.a.x)*(ms-mt))*(X-t.a.x):=(by unfold Ar;rw [sb,ty];grind);have e2:Ar s.a s.b t.b = -(((s.b.x-s.a.x)*(ms-mt))*(t.b.x-X)):=(by unfold Ar;rw [sb,tb,ty];grind);rw [e1,e2]
     have hn:(s.b.x-s.a.x)*(ms-mt)≠0:=fun h=>by rcases KU h with h|h<;>grind
     generalize (s.b.x-s.a.x)*(ms-mt)=D at *;have:=Rat.mul_pos (zW hn) (Rat.mul_pos (show 0<X-t.a.x by grind) (show 0<t.b.x-X by grind))
     grind
    ·have e1:Ar t.a t.b s.a=((t.b.x-t.a.x)*(mt-ms))*(X-s.a.x):=(by unfold Ar;rw [tb,sy];grind);have e2:Ar t.a t.b s.b = -(((t.b.x-t.a.x)*(mt-ms))*(s.b.x-X)):=(by unfold Ar;rw [tb,sb,sy];grind);rw [e1,e2]
     have hn:(t.b.x-t.a.x)*(mt-ms)≠0:=fun h=>by rcases KU h with h|h<;>grind
     generalize (t.b.x-t.a.x)*(mt-ms)=D at *;have:=Rat.mul_pos (zW hn) (Rat.mul_pos (show 0<X-s.a.x by grind) (show 0<s.b.x-X by grind))
     grind
  ·have ho:Ez s.a s.b t.b:=Ph (m:=ms) sx (by grind) (by grind) sb (by grind)
   rcases hX.pd ho with k|k
   ·rw [k]at t3;grind
   ·rw [k]at t3;grind
 ·rcases M6 t2 with t3|t3
  ·exfalso
   have ho:Ez t.a t.b s.b:=Ph (m:=mt) tx (by grind) (by grind) tb (by grind)
   rcases hX.pb ho with k|k
   ·rw [k]at s3;grind
   ·rw [k]at s3;grind
  ·have eb:s.b=t.b:=bW (by grind) (by grind);refine⟨eb,?_⟩;intro h0;have e1:Ar s.b s.a t.a=((X-s.a.x)*(X-t.a.x))*(mt-ms):=(by unfold Ar;grind);rw [e1]at h0
   have e:ms=mt:=by
    rcases KU h0 with h|h
    ·rcases KU h with h|h<;>grind
    ·grind
   exact hne (Vt (yT e) eb)
def JG(G:List Sg):Prop:=∀s∈G,∀t∈G,s.a.x<s.b.x→t.a.x<t.b.x→s≠t→ET s.a s.b t.a t.b
theorem q9{G:List Sg}(hG:JG G){p:Pt}{s t:Sg}(hs:s∈G)(ht:t∈G)(cs:Dj p s)(ct:Dj p t)(hne:s≠t):GG p s t∨GG p t s:=by
 unfold GG;have hX:=hG s hs t ht (by unfold Dj at cs;grind) (by unfold Dj at ct;grind) hne
 rcases J3 (B9 s p.x) (B9 t p.x)with h|h|h
 ·exact .inr (.inl h)
 ·obtain⟨e,hn⟩:=V8 cs ct hX hne h;have:=WP s.b s.a t.a;rw [e]at this hn ⊢
  rcases J3 (Ar t.b s.a t.a) 0 with k|k|k
  ·exact .inr (.inr ⟨h.symm,by grind⟩)
  ·exact absurd k hn
  ·exact .inl (.inr ⟨h,k⟩)
 ·exact .inl (.inl h)
theorem q8{G:List Sg}(hG:JG G){p:Pt}{s t:Sg}(hs:s∈G)(ht:t∈G)(cs:Dj p s)(ct:Dj p t)(hne:s≠t)(h1:GG p s t)(h2:GG p t s):False:=by
 unfold GG at h1 h2;have hX:=hG s hs t ht (by unfold Dj at cs;grind) (by unfold Dj at ct;grind) hne
 rcases h1 with h1|⟨e1,h1⟩
 ·rcases h2 with h2|⟨e2,h2⟩<;>grind
 ·rcases h2 with h2|⟨e2,h2⟩
  ·grind
  ·obtain⟨e,hn⟩:=V8 cs ct hX hne e1;have:=WP s.b s.a t.a;rw [e]at this h1
   grind
theorem ra{G:List Sg}(hG:JG G){p:Pt}{s t u:Sg}(hs:s∈G)(ht:t∈G)(hu:u∈G)(cs:Dj p s)(ct:Dj p t)(cu:Dj p u)(n1:s≠t)(n2:t≠u)(h1:GG p s t)(h2:GG p t u):GG p s u:=by
 unfold GG at *
 rcases h1 with h1|⟨e1,h1⟩
 ·left;rcases h2 with h2|⟨e2,h2⟩<;>grind
 ·rcases h2 with h2|⟨e2,h2⟩
  ·left;grind
  ·right
   refine⟨by grind,?_⟩;have X1:=hG s hs t ht (by unfold Dj at cs;grind) (by unfold Dj at ct;grind) n1;have X2:=hG t ht u hu (by unfold Dj at ct;grind) (by unfold Dj at cu;grind) n2;obtain⟨b1,-⟩:=V8 cs ct X1 n1 e1;obtain⟨b2,-⟩:=V8 ct cu X2 n2 e2;obtain⟨c1,c2,-⟩:=cs;obtain⟨d1,d2,-⟩:=ct;obtain⟨f1,f2,-⟩:=cu;rw [←b1]at h2 b2 d2;rw [←b2]at f2;have:=Xj (ux:=s.a.y-s.b.y) (uy:=s.b.x-s.a.x) (vx:=t.a.y-s.b.y) (vy:=s.b.x-t.a.x) (wx:=u.a.y-s.b.y) (wy:=s.b.x-u.a.x) (.inl (by grind)) (.inl (by grind)) (.inl (by grind)) (by unfold Ar at h1;grind) (by unfold Ar at h2;grind);unfold Ar;grind
def NJ(p:Pt)(l:List Sg):Option (Sg×Rat)→Prop
 | none=>∀s∈l,¬Dj p s
 | some (s,h)=>s∈l/\Dj p s/\h=B9 s p.x/\∀t∈l,Dj p t→t=s∨GG p s t
theorem jN(p:Pt)(s:Sg):Dj p s↔¬0<=AY s.a.x p.x/\¬AY s.b.x p.x<0/\¬0<=AY (B9 s p.x) p.y:=by
 unfold Dj;have h1:=Ql s.a.x p.x;have h2:=Ql s.b.x p.x;have h3:=Ql (B9 s p.x) p.y;constructor
 ·rintro⟨k1,k2,k3⟩;exact⟨by have:=h1.2 k1;omega,fun k=>by have:=h2.1 k;grind,by have:=h3.2 k3;omega⟩
 ·rintro⟨k1,k2,k3⟩;refine⟨h1.1 (by omega),?_,h3.1 (by omega)⟩;have:¬s.b.x<p.x:=fun k=>k2 (h2.2 k)
  grind
theorem rf{G:List Sg}(hG:JG G){p:Pt}{l:List Sg}{st:Option (Sg×Rat)}{s:Sg}(hl:∀t∈l,t∈G)(hs:s∈G)(h:NJ p l st):NJ p (l ++ [s]) (Hn p st s):=by
 by_cases hc:Dj p s
 ·have hc':=(jN p s).1 hc;unfold Hn;rw [if_neg hc'.1,if_neg hc'.2.1,if_neg hc'.2.2]
  cases st with
  | none=>
   refine⟨by simp,hc,rfl,fun t ht ct=>?_⟩
   rcases List.mem_append.1 ht with ht|ht
   ·exact absurd ct (h t ht)
   ·left;simpa using ht
  | some x=>
   obtain⟨b,hb⟩:=x;obtain⟨m1,m2,m3,m4⟩:=h
   have dr:GG p s b→NJ p (l ++ [s]) (some (s,B9 s p.x)):=by
    intro FK;refine⟨by simp,hc,rfl,fun t ht ct=>?_⟩
    rcases List.mem_append.1 ht with ht|ht
    ·by_cases e:t=s
     ·exact .inl e
     ·right
      rcases m4 t ht ct with e2|e2
      ·rw [e2];exact FK
      ·by_cases e3:s=b
       ·subst e3;exact e2
       ·by_cases e4:b=t
        ·subst e4;exact FK
        ·exact ra hG hs (hl b m1) (hl t ht) hc m2 ct e3 e4 FK e2
    ·left;simpa using ht
   have lost:¬GG p s b→NJ p (l ++ [s]) (some (b,hb)):=by
    intro FK;refine⟨List.mem_append_left _ m1,m2,m3,fun t ht ct=>?_⟩
    rcases List.mem_append.1 ht with ht|ht
    ·exact m4 t ht ct
    ·obtain rfl:t=s:=(by simpa using ht);by_cases e:t=b
     ·exact .inl e
     ·right
      rcases q9 hG hs (hl b m1) hc m2 e with k|k
      ·exact absurd k FK
      ·exact k
   subst m3;simp only
   split
   ·rename_i e
    have e':=(Tx _ _).1 e
    split
    ·rename_i k
     exact dr (.inr ⟨e',(Vu _).1 k⟩)
    ·rename_i k
     refine lost ?_;rintro(k2|⟨-,k2⟩)
     ·grind
     ·exact k ((Vu _).2 k2)
   ·rename_i e
    have e':B9 s p.x≠B9 b p.x:=fun k=>e ((Tx _ _).2 k)
    split
    ·rename_i k
     exact dr (.inl ((Qm _ _).1 k))
    ·rename_i k
     refine lost ?_;rintro(k2|⟨k2,-⟩)
     ·exact k ((Qm _ _).2 k2)
     ·exact e' k2
 ·have hst:Hn p st s=st:=by
   rw [jN]at hc;unfold Hn;by_cases k1:0<=AY s.a.x p.x
   ·rw [if_pos k1]
   ·rw [if_neg k1];by_cases k2:AY s.b.x p.x<0
    ·rw [if_pos k2]
    ·rw [if_neg k2];by_cases k3:0<=AY (B9 s p.x) p.y
     ·rw [if_pos k3]
     ·exact absurd ⟨k1,k2,k3⟩ hc
  rw [hst]
  cases st with
  | none=>
   intro t ht
   rcases List.mem_append.1 ht with ht|ht
   ·exact h t ht
   ·obtain rfl:t=s:=(by simpa using ht);exact hc
  | some x=>
   obtain⟨m1,m2,m3,m4⟩:=h;refine⟨List.mem_append_left _ m1,m2,m3,fun t ht ct=>?_⟩
   rcases List.mem_append.1 ht with ht|ht
   ·exact m4 t ht ct
   ·obtain rfl:t=s:=(by simpa using ht);exact absurd ct hc
theorem WU{G:List Sg}(hG:JG G)(p:Pt)(l:List Sg)(hl:∀t∈l,t∈G):NJ p l (C5 p l):=by
 have main:∀n,n<=l.length→NJ p (l.take n) (C5 p (l.take n)):=by
  intro n
  induction n with
  | zero=>intro _ s hs;simp at hs
  | succ n ih=>intro hn;rw [Aj2 (by omega),iR];exact rf hG (fun t ht=>hl t (List.mem_of_mem_take ht)) (hl _ (Aj0 _)) (ih (by omega))
 have:=main l.length (Ajz _)
 rwa [List.take_length]at this
theorem iT{G:List Sg}(hG:JG G)(p:Pt){l l':List Sg}(hp:l.Perm l')(hl:∀t∈l,t∈G):C5 p l=C5 p l':=by
 have h1:=WU hG p l hl;have h2:=WU hG p l' (fun t ht=>hl t (hp.mem_iff.2 ht))
 cases e1:C5 p l with
 | none=>
  rw [e1]at h1
  cases e2:C5 p l' with
  | none=>rfl
  | some y=>
   rw [e2]at h2;exact absurd h2.2.1 (h1 _ (hp.mem_iff.2 h2.1))
 | some x=>
  rw [e1]at h1
  cases e2:C5 p l' with
  | none=>
   rw [e2]at h2;exact absurd h1.2.1 (h2 _ (hp.mem_iff.1 h1.1))
  | some y=>
   rw [e2]at h2;obtain⟨s,hs⟩:=x;obtain⟨t,ht⟩:=y;obtain⟨a1,a2,a3,a4⟩:=h1;obtain⟨b1,b2,b3,b4⟩:=h2
   have hst:s=t:=by refine Classical.byContradiction fun hne=>?_;have k1:=(a4 t (hp.mem_iff.2 b1) b2).resolve_left (Ne.symm hne);have k2:=(b4 s (hp.mem_iff.1 a1) a2).resolve_left hne;exact q8 hG (hl s a1) (hl t (hp.mem_iff.2 b1)) a2 b2 hne k1 k2
   subst hst;rw [a3,b3]
theorem Ada(F:Fence)(n:Nat)(h10:F.fn 212)(hro:F.round=none)(hn:1<=n)(l Bm b:Nat)(L:List (Sg×Int))(J:List Sg→World→Prop)
  (hY:∀pre x W,J pre W→pre.length<L.length→YieldAt F (n-1) Tryz.prog l #[AC x] W fun e W'=>e=.returned (.bool true)/\J (pre ++ [x]) W'/\KeepsWalks W W')
  (W:World) (hJ:AbidesFrom W.heap.size J) (hm:W.cell? ⟨Bm,0,none⟩=some (.map (some b))) (hb:W.heap[b]?=some (.map (AH AC (stamp L)).toArray L.length)) (h0:J [] W) :
  CallsIn F n Tryz.prog 212 #[.func (.yield l) #[] #[],.pointer (some ⟨Bm,0,none⟩)] W fun e W'=>(∃v,e=.returned v)/\∃ss:List Sg,ss.Perm (L.map (·.1))/\J ss W':=by
 have hlt:=Ajx hb;rw [←D1]at hb;obtain⟨hr1,hr2⟩:=CG.range (enc:=AC) (E:=stamp L) (t:=162) Tryz.underlying162 (W:=W) (b:=b) hb;have hG:=(Ac.refl W).alloc (.mapIter (some b) (stamp L).length #[] (stamp L).length);have hJ1:=hJ [] W _ none h0 (Ge hG none) (fun r e=>by cases e);have hb1:=(hG.block b hlt).trans hb;refine callsIn_of_wp Tryz.func212 rfl h10 ?_ hro;simp only [Tryz.ntmps212,List.size_toArray,List.length_cons,List.length_nil,Nat.reduceAdd,Nat.reduceSub,Array.replicate_succ,Array.replicate_zero,List.push_toArray,List.append_toArray,List.nil_append,List.cons_append];gi_wp2;generalize W.alloc (.mapIter (some b) (stamp L).length #[] (stamp L).length)=V at *;obtain⟨r,hr⟩:=Ajv W.heap.size;rw [←hr]at hr2 hlt hJ ⊢;clear hr hr1 hG hb hm h0
 gi_loopw [3] (fun _ wr=>∃seen:List Nat,CG wr r b (stamp L) seen/\wr.heap[b]?=some (.map (AH AC (stamp L)).toArray (stamp L).length)/\J (seen.filterMap (fun i=>L[i]?.map (·.1))) wr)
  (fun _ wr=>L.length-(wr.iterSeen r).size)
 case atStart=>exact⟨[],hr2,hb1,hJ1⟩
 case round=>
  obtain⟨seen,hI,hbr,hJs⟩:=hrel
  rcases CG.next AC hI hbr (dJ L) (by omega) 0 with⟨hlen,hrun⟩|⟨i,hi,Gu,W1,Eo,hG1,hs1,hrun,hen⟩
  ·have hP:=yX L hI.nd hI.lt hlen;gi_wp2
   go_end0
   exact⟨⟨_,rfl⟩,_,hP,hJs⟩
  ·have Ks:i<L.length:=(by rw [D1]at hi;exact hi);rw [Vz,dL]at hrun hen
   have hstep:(seen ++ [i]).filterMap (fun i=>L[i]?.map (·.1))=seen.filterMap (fun i=>L[i]?.map (·.1)) ++ [(L[i]).1]:=by rw [List.filterMap_append];simp only [List.filterMap_cons,List.filterMap_nil,Aj4 Ks,Option.map_some]
   have hlen':seen.length<L.length:=by
    have h2:(i::seen) ⊆ List.range L.length:=by
     intro j hj
     rcases List.mem_cons.1 hj with rfl|hj
     ·simpa using Ks
     ·have:=hI.lt j hj;rw [D1]at this;simpa using this
    have:=(List.nodup_cons.2 ⟨Gu,hI.nd⟩).length_le_of_subset h2;simp at this;omega
   have EG:=Eu hI;have hJ2:=hJ _ wr W1 (some r) hJs hG1 (fun r' e=>by cases e;exact⟨Ajz _,_,hI.it,rfl⟩);have hb2:=(hG1.block b (Ajx hbr) (by simp;omega)).trans hbr;have Gq:=hen W1 rfl rfl;obtain⟨s,hs⟩:=Ajv ((L[i]).1);obtain⟨z,hz⟩:=Ajv ((L[i]).2);rw [←hs,←hz]at Gq hrun;rw [←hs]at hstep;have E3:=(Ac.refl W1).alloc (.cells #[S (R s.a.x),S (R s.a.y),S (R s.b.x),S (R s.b.y)] 175);have Er:=Ajy W1 (.cells #[S (R s.a.x),S (R s.a.y),S (R s.b.x),S (R s.b.y)] 175);have QB:=hJ _ W1 _ none hJ2 (Ge E3 none) (fun r' e=>by cases e);have hpl:(seen.filterMap (fun i=>L[i]?.map (·.1))).length<L.length:=Nat.lt_of_le_of_lt (List.length_filterMap_le _ _) hlen';obtain⟨fn,tmps,assign,body,hy,hR⟩:=hY _ s _ QB hpl;have Dx:=Eo.keep (E3.block r (Ajx Eo.it));have hb4:=(E3.block b (Ajx hb2)).trans hb2;have g0:=Aa (o:=0) Er rfl;have g1:=Aa (o:=1) Er rfl;have g2:=Aa (o:=2) Er rfl;have g3:=Aa (o:=3) Er rfl;clear hs1 hen hs hz Er E3 QB hJ2;unfold AC at Gq hrun hy;unfold S at hy Gq hrun g0 g1 g2 g3 Dx hb4 hR;gi_wp2;refine hR.mono ?_;rintro e W3 ⟨rfl,hJ3,hk3⟩;gi_wp2;go_roundw
   case rel=>exact⟨seen ++ [i],⟨hk3.same r _ Dx.it rfl,Dx.nd,Dx.lt⟩,hk3.same b _ hb4 rfl,by rw [hstep];exact hJ3⟩
   case measure=>rw [EG,Eu (W:=W3) (b:=b) (E:=stamp L) (seen:=seen ++ [i]) ⟨hk3.same r _ Dx.it rfl,Dx.nd,Dx.lt⟩,List.length_append,List.length_singleton];omega
theorem Adb(F:Fence)(n:Nat)(h10:F.fn 212)(hro:F.round=none)(hn:1<=n)(Bm b:Nat)(L:List (Sg×Int))(w:World)(hBm:Bm<w.heap.size)
  (hm:w.cell? ⟨Bm,0,none⟩=some (.map (some b))) (hb:w.heap[b]?=some (.map (AH AC (stamp L)).toArray L.length)) :
  SeqGives F n Tryz.prog 212 #[.pointer (some ⟨Bm,0,none⟩)] AC (fun ss=>ss.Perm (L.map (·.1))) L.length w:=fun l J W hW hJ hY h0=>
 Ada F n h10 hro hn l Bm b L J hY W hJ ((hW.cell (p:=⟨Bm,0,none⟩) hBm).trans hm) ((hW.block b (Ajx hb)).trans hb) h0
end Go.Proofs.YtgnejnampofhoaaGreatDoor
