/- I23: ShD2 ShM17 ShM21 ShM22 ShN3 ShM23. -/
import Derived.Test.YtnddllipjippnaaGreatDoorI22
import Derived.Shelf.SlSortCmp.WholeK
import Derived.Sort.MapsRangeIn
set_option maxRecDepth 100000
set_option maxHeartbeats 4000000
namespace Go.Proofs.YtnddllipjippnaaGreatDoor
open Go.RowKit Kl
theorem Afz{p:Pt}{l:List Sg}(hp:Ce p)(hl:∀s∈l,G5 s):∀j,j<=l.length→J6 (j*648) (Gh p (l.take j)):=by
 intro j
 induction j with
 | zero=>intro _;exact⟨0,by simp,by simp only [List.take_zero,Gh,List.foldl_nil,Rat.intCast_zero];grind⟩
 | succ j ih=>intro hj;rw [uX p l (by omega)];have hs:=hl _ (As1 (show j<l.length by omega));exact((ih (by omega)).add (uV hp hs.a hs.b)).mono (by omega)
theorem uY(l:List Sg)(A:Option Addr)(c:Nat)(hl:∀e∈l,G5 e)(h0:0<l.length)(hn:l.length<=100000)(hc:l.length<=c)(hcm:c<=9223372036854775807)(w:World)(hw:Aj w)(hr:Ad w A (Cw l)) :
  Calls Tryz.prog 120 #[.slice A l.length c] w (BW (R (Ir l)) w):=by
 have hp:Ce l[0].a:=(hl _ (As1 h0)).a;refine Afy l A c (k:=1) (K:=9) (fun e he=>(hl e he).sz (by omega)) (by omega) (by omega) (by omega) (by omega) h0 ?_ ?_ hc hcm (by omega) w hw hr
 ·intro j hj;exact(Afz hp hl j hj).sz (by have:=hn;omega) (by omega)
 ·intro j hj;have hs:=hl _ (As1 hj);exact(uV hp hs.a hs.b).sz (by omega) (by omega)
section
open Go.Sort Go.Shelf
theorem AoK(blk off cap:Nat)(d:Array Way)(w0 w:World)(hw:Aj w0)(hx:Ab w0 w)(h0:w0.heap.size<=blk)(hH:HoldsK Hh 4 w blk off d)(hblk:blk<w.heap.size)(hsz:d.size<4611686018427387904) :
  Calls Tryz.prog 139 #[.slice (some ⟨blk,off,none⟩) d.size cap,.func (.func 87) #[] #[]] w fun e w'=>
   e=.returned (.tuple #[])/\∃(d':Array Way) (n:Nat) (os:Array Obj),PermIn 0 d.size d d'/\SortedIn (ltOf IH) 0 d.size d'/\w'=sortWorldK Hh 4 w blk off n d' os:=by
 have eg:∀args w,(callFunc 87 args).run Tryz.prog w=.ok (.enter 87 args) w:=enters_of Tryz.func87 (by kernel_rfl) rfl;exact AnyQ.slices_SortFunc Tryz.laysSortSg 4 Tryz.isAgg140 Tryz.sizeOf140 Hh Xu Ahg IH AcG 87 #[] blk off cap d w eg (Ap4 hw hx h0 off d.size) hH hblk hsz
end
section
open Go.Sort
def Lx(l:List Way):List Way:=l.mergeSort (fun x y=>!ltOf IH y x)
theorem AoP(d d':Array Way)(h1:PermIn 0 d.size d d')(h2:SortedIn (ltOf IH) 0 d.size d'):d'=(Lx d.toList).toArray:=by
 have h:=sorted_unique_holds (lt:=ltOf IH) AcG Ap5 d d' h1 h2;rw [Lx,←h]
theorem Ace(blk off cap:Nat)(d:Array Way)(w0 w:World)(hw:Aj w0)(hx:Ab w0 w)(h0:w0.heap.size<=blk)(hH:HoldsK Hh 4 w blk off d)(hblk:blk<w.heap.size)(hsz:d.size<4611686018427387904) :
  Calls Tryz.prog 139 #[.slice (some ⟨blk,off,none⟩) d.size cap,.func (.func 87) #[] #[]] w fun e w'=>e=.returned (.tuple #[])/\∃(n:Nat) (os:Array Obj),w'=sortWorldK Hh 4 w blk off n (Lx d.toList).toArray os:=
 (AoK blk off cap d w0 w hw hx h0 hH hblk hsz).mono fun _ _ ⟨he,d',n,os,h1,h2,hw⟩=>⟨he,n,os,by rw [←AoP d d' h1 h2];exact hw⟩
end
theorem nK(mb:Option Nat)(w:World) :
  Calls Tryz.prog 86 #[.map mb] w fun e w'=>e=.returned (.func (.func 140) #[] #[.pointer (some ⟨w.heap.size,0,none⟩)])/\w'=w.alloc (.cells #[.map mb] 95):=by
 go_enter Tryz.func86,Tryz.ntmps86;go_wp2;go_ret;exact⟨rfl,rfl⟩
/-! ### The first way below a place -/
theorem Ach{x:Rat}(h:x≠0):0<x*x:=by
 rcases Lp x 0 with k|k|k
 ·have:=Rat.mul_pos (show 0 < -x by grind) (show 0 < -x by grind);grind
 ·exact absurd k h
 ·exact Rat.mul_pos k k
theorem yB{a b:Rat}(h:b≠0):a/b*b=a:=by
 rw [Rat.div_def,Rat.mul_assoc,Rat.mul_comm b⁻¹,Rat.mul_inv_cancel _ h];grind
theorem AbZ(s:Sg)(h:s.a.x<s.b.x):∃m:Rat,s.b.y=s.a.y+m*(s.b.x-s.a.x)/\∀X,BI s X=s.a.y+m*(X-s.a.x):=by
 have hd:s.b.x-s.a.x≠0:=(by grind);refine⟨(s.b.y-s.a.y)/(s.b.x-s.a.x),?_,?_⟩
 ·rw [yB hd];grind
 ·intro X;unfold BI
  congr 1
  rw [Rat.div_def,Rat.div_def]
  grind
theorem RX{a b z:Pt}{m:Rat}(h:a.x<b.x)(h1:a.x<=z.x)(h2:z.x<=b.x)(hb:b.y=a.y+m*(b.x-a.x))(hz:z.y=a.y+m*(z.x-a.x)):FO a b z:=by
 have hd:b.x-a.x≠0:=(by grind);have e:=yB (a:=z.x-a.x) hd;refine⟨(z.x-a.x)/(b.x-a.x),?_,?_,?_,?_⟩
 ·refine V8 (a:=b.x-a.x) (by grind) ?_;rw [Rat.mul_comm,e];grind
 ·have:0<=1-(z.x-a.x)/(b.x-a.x):=by
   refine V8 (a:=b.x-a.x) (by grind) ?_;generalize (z.x-a.x)/(b.x-a.x)=q at *
   grind
  grind
 ·rw [e];grind
 ·have:b.y-a.y=m*(b.x-a.x):=(by grind);rw [this];generalize (z.x-a.x)/(b.x-a.x)=q at *;have:q*(m*(b.x-a.x))=m*(q*(b.x-a.x)):=(by grind);rw [this,e];exact hz
def D9(p:Pt)(s:Sg):Prop:=s.a.x<p.x/\p.x<=s.b.x/\BI s p.x<p.y
def It(p:Pt)(s t:Sg):Prop:=BI t p.x<BI s p.x∨(BI s p.x=BI t p.x/\0<Am s.b s.a t.a)
theorem pL{p q:Pt}(h1:p.x=q.x)(h2:p.y=q.y):p=q:=by cases p;cases q;simp_all
theorem ZJ{s t:Sg}(h1:s.a=t.a)(h2:s.b=t.b):s=t:=by cases s;cases t;simp_all
theorem ZS{p:Pt}{s t:Sg}(hs:D9 p s)(ht:D9 p t)(hX:Gf s.a s.b t.a t.b)(hne:s≠t)(hh:BI s p.x=BI t p.x):s.b=t.b/\Am s.b s.a t.a≠0:=by
 obtain⟨s1,s2,-⟩:=hs;obtain⟨t1,t2,-⟩:=ht;have sx:s.a.x<s.b.x:=(by grind);have tx:t.a.x<t.b.x:=(by grind);obtain⟨ms,sb,sh⟩:=AbZ s sx;obtain⟨mt,tb,th⟩:=AbZ t tx;rw [sh,th]at hh;clear sh th;generalize p.x=X at *;have ty:t.a.y=s.a.y+ms*(X-s.a.x)-mt*(X-t.a.x):=(by grind);have sy:s.a.y=t.a.y+mt*(X-t.a.x)-ms*(X-s.a.x):=by grind
 have Aok:ms=mt→s.a.x<t.a.x→False:=by
  intro e h;have ho:FO s.a s.b t.a:=RX (m:=ms) sx (by grind) (by grind) sb (by subst e;grind)
  rcases hX.pc ho with k|k
  ·rw [k]at h;grind
  ·rw [k]at t1;grind
 have Aom:ms=mt→t.a.x<s.a.x→False:=by
  intro e h;have ho:FO t.a t.b s.a:=RX (m:=mt) tx (by grind) (by grind) tb (by subst e;grind)
  rcases hX.pa ho with k|k
  ·rw [k]at h;grind
  ·rw [k]at s1;grind
 have AbD:ms=mt→s.a=t.a:=by
  intro e
  have:s.a.x=t.a.x:=by
   rcases Lp s.a.x t.a.x with h|h|h
   ·exact(Aok e h).elim
   ·exact h
   ·exact(Aom e h).elim
  refine pL this ?_;subst e;rw [this]at hh;grind
 rcases O2 s2 with s3|s3
 ·exfalso
  rcases O2 t2 with t3|t3
  ·by_cases e:ms=mt
   ·have ea:=AbD e
    have hb:s.b.x=t.b.x:=by
     rcases Lp s.b.x t.b.x with h|h|h
     ·have ho:FO t.a t.b s.b:=RX (m:=mt) tx (by grind) (by grind) tb (by subst e;rw [sb,ea])
      rcases hX.pb ho with k|k
      ·rw [k]at s3;grind
      ·rw [k]at h;grind
     ·exact h
     ·have ho:FO s.a s.b t.b:=RX (m:=ms) sx (by grind) (by grind) sb (by subst e;rw [tb,ea])
      rcases hX.pd ho with k|k
      ·rw [k]at t3;grind
      ·rw [k]at h;grind
    exact hne (ZJ ea (pL hb (by rw [sb,tb,ea,e,hb])))
   ·have hd:ms-mt≠0:=(by grind);refine hX.px ?_ ?_ ?_ ?_ ?_ ?_
    ·intro k;rw [k]at hh;have:(ms-mt)*(X-t.a.x)=0:=by grind
     rcases MC this with h|h<;>grind
    ·intro k;rw [k]at s1;grind
    ·intro k;rw [k]at s3;grind
    ·intro k;have:(ms-mt)*(t.b.x-X)=0:=by rw [k]at sb;grind
     rcases MC this with h|h<;>grind
    ·have e1:Am s.a s.b t.a=((s.b.x-s.a.x)*(ms-mt))*(X-t.a.x):=(by unfold Am;rw [sb,ty];grind);have e2:Am s.a s.b t.b = -(((s.b.x-s.a.x)*(ms-mt))*(t.b.x-X)):=(by unfold Am;rw [sb,tb,ty];grind);rw [e1,e2]
     have hn:(s.b.x-s.a.x)*(ms-mt)≠0:=fun h=>by rcases MC h with h|h<;>grind
     generalize (s.b.x-s.a.x)*(ms-mt)=D at *;have:=Rat.mul_pos (Ach hn) (Rat.mul_pos (show 0<X-t.a.x by grind) (show 0<t.b.x-X by grind))
     grind
    ·have e1:Am t.a t.b s.a=((t.b.x-t.a.x)*(mt-ms))*(X-s.a.x):=(by unfold Am;rw [tb,sy];grind);have e2:Am t.a t.b s.b = -(((t.b.x-t.a.x)*(mt-ms))*(s.b.x-X)):=(by unfold Am;rw [tb,sb,sy];grind);rw [e1,e2]
     have hn:(t.b.x-t.a.x)*(mt-ms)≠0:=fun h=>by rcases MC h with h|h<;>grind
     generalize (t.b.x-t.a.x)*(mt-ms)=D at *;have:=Rat.mul_pos (Ach hn) (Rat.mul_pos (show 0<X-s.a.x by grind) (show 0<s.b.x-X by grind))
     grind
  ·have ho:FO s.a s.b t.b:=RX (m:=ms) sx (by grind) (by grind) sb (by grind)
   rcases hX.pd ho with k|k
   ·rw [k]at t3;grind
   ·rw [k]at t3;grind
 ·rcases O2 t2 with t3|t3
  ·exfalso
   have ho:FO t.a t.b s.b:=RX (m:=mt) tx (by grind) (by grind) tb (by grind)
   rcases hX.pb ho with k|k
   ·rw [k]at s3;grind
   ·rw [k]at s3;grind
  ·have eb:s.b=t.b:=pL (by grind) (by grind);refine⟨eb,?_⟩;intro h0;have e1:Am s.b s.a t.a=((X-s.a.x)*(X-t.a.x))*(mt-ms):=(by unfold Am;grind);rw [e1]at h0
   have e:ms=mt:=by
    rcases MC h0 with h|h
    ·rcases MC h with h|h<;>grind
    ·grind
   exact hne (ZJ (AbD e) eb)
def L6(G:List Sg):Prop:=∀s∈G,∀t∈G,s.a.x<s.b.x→t.a.x<t.b.x→s≠t→Gf s.a s.b t.a t.b
theorem AfE{G:List Sg}(hG:L6 G){p:Pt}{s t:Sg}(hs:s∈G)(ht:t∈G)(cs:D9 p s)(ct:D9 p t)(hne:s≠t):It p s t∨It p t s:=by
 unfold It;have hX:=hG s hs t ht (by unfold D9 at cs;grind) (by unfold D9 at ct;grind) hne
 rcases Lp (BI s p.x) (BI t p.x)with h|h|h
 ·exact .inr (.inl h)
 ·obtain⟨e,hn⟩:=ZS cs ct hX hne h;have:=dF s.b s.a t.a;rw [e]at this hn ⊢
  rcases Lp (Am t.b s.a t.a) 0 with k|k|k
  ·exact .inr (.inr ⟨h.symm,by grind⟩)
  ·exact absurd k hn
  ·exact .inl (.inr ⟨h,k⟩)
 ·exact .inl (.inl h)
theorem AfD{G:List Sg}(hG:L6 G){p:Pt}{s t:Sg}(hs:s∈G)(ht:t∈G)(cs:D9 p s)(ct:D9 p t)(hne:s≠t)(h1:It p s t)(h2:It p t s):False:=by
 unfold It at h1 h2;have hX:=hG s hs t ht (by unfold D9 at cs;grind) (by unfold D9 at ct;grind) hne
 rcases h1 with h1|⟨e1,h1⟩
 ·rcases h2 with h2|⟨e2,h2⟩<;>grind
 ·rcases h2 with h2|⟨e2,h2⟩
  ·grind
  ·obtain⟨e,hn⟩:=ZS cs ct hX hne e1;have:=dF s.b s.a t.a;rw [e]at this h1
   grind
theorem AfF{G:List Sg}(hG:L6 G){p:Pt}{s t u:Sg}(hs:s∈G)(ht:t∈G)(hu:u∈G)(cs:D9 p s)(ct:D9 p t)(cu:D9 p u)(n1:s≠t)(n2:t≠u)(h1:It p s t)(h2:It p t u):It p s u:=by
 unfold It at *
 rcases h1 with h1|⟨e1,h1⟩
 ·left;rcases h2 with h2|⟨e2,h2⟩<;>grind
 ·rcases h2 with h2|⟨e2,h2⟩
  ·left;grind
  ·right
   refine⟨by grind,?_⟩;have X1:=hG s hs t ht (by unfold D9 at cs;grind) (by unfold D9 at ct;grind) n1;have X2:=hG t ht u hu (by unfold D9 at ct;grind) (by unfold D9 at cu;grind) n2;obtain⟨b1,-⟩:=ZS cs ct X1 n1 e1;obtain⟨b2,-⟩:=ZS ct cu X2 n2 e2;obtain⟨c1,c2,-⟩:=cs;obtain⟨d1,d2,-⟩:=ct;obtain⟨f1,f2,-⟩:=cu;rw [←b1]at h2 b2 d2;rw [←b2]at f2;have:=dZ (ux:=s.a.y-s.b.y) (uy:=s.b.x-s.a.x) (vx:=t.a.y-s.b.y) (vy:=s.b.x-t.a.x) (wx:=u.a.y-s.b.y) (wy:=s.b.x-u.a.x) (.inl (by grind)) (.inl (by grind)) (.inl (by grind)) (by unfold Am at h1;grind) (by unfold Am at h2;grind);unfold Am;grind
def Qd(p:Pt)(l:List Sg):Option (Sg×Rat)→Prop
 | none=>∀s∈l,¬D9 p s
 | some (s,h)=>s∈l/\D9 p s/\h=BI s p.x/\∀t∈l,D9 p t→t=s∨It p s t
theorem wC(p:Pt)(s:Sg):D9 p s↔¬0<=AO s.a.x p.x/\¬AO s.b.x p.x<0/\¬0<=AO (BI s p.x) p.y:=by
 unfold D9;have h1:=TB s.a.x p.x;have h2:=TB s.b.x p.x;have h3:=TB (BI s p.x) p.y;constructor
 ·rintro⟨k1,k2,k3⟩;exact⟨by have:=h1.2 k1;omega,fun k=>by have:=h2.1 k;grind,by have:=h3.2 k3;omega⟩
 ·rintro⟨k1,k2,k3⟩;refine⟨h1.1 (by omega),?_,h3.1 (by omega)⟩;have:¬s.b.x<p.x:=fun k=>k2 (h2.2 k)
  grind
theorem AfH{G:List Sg}(hG:L6 G){p:Pt}{l:List Sg}{st:Option (Sg×Rat)}{s:Sg}(hl:∀t∈l,t∈G)(hs:s∈G)(h:Qd p l st):Qd p (l ++ [s]) (IV p st s):=by
 by_cases hc:D9 p s
 ·have hc':=(wC p s).1 hc;unfold IV;rw [if_neg hc'.1,if_neg hc'.2.1,if_neg hc'.2.2]
  cases st with
  | none=>
   refine⟨by simp,hc,rfl,fun t ht ct=>?_⟩
   rcases List.mem_append.1 ht with ht|ht
   ·exact absurd ct (h t ht)
   ·left;simpa using ht
  | some x=>
   obtain⟨b,hb⟩:=x;obtain⟨m1,m2,m3,m4⟩:=h
   have won:It p s b→Qd p (l ++ [s]) (some (s,BI s p.x)):=by
    intro En;refine⟨by simp,hc,rfl,fun t ht ct=>?_⟩
    rcases List.mem_append.1 ht with ht|ht
    ·by_cases e:t=s
     ·exact .inl e
     ·right
      rcases m4 t ht ct with e2|e2
      ·rw [e2];exact En
      ·by_cases e3:s=b
       ·subst e3;exact e2
       ·by_cases e4:b=t
        ·subst e4;exact En
        ·exact AfF hG hs (hl b m1) (hl t ht) hc m2 ct e3 e4 En e2
    ·left;simpa using ht
   have lost:¬It p s b→Qd p (l ++ [s]) (some (b,hb)):=by
    intro En;refine⟨List.mem_append_left _ m1,m2,m3,fun t ht ct=>?_⟩
    rcases List.mem_append.1 ht with ht|ht
    ·exact m4 t ht ct
    ·obtain rfl:t=s:=(by simpa using ht);by_cases e:t=b
     ·exact .inl e
     ·right
      rcases AfE hG hs (hl b m1) hc m2 e with k|k
      ·exact absurd k En
      ·exact k
   subst m3;simp only
   split
   ·rename_i e
    have e':=(Xl _ _).1 e
    split
    ·rename_i k
     exact won (.inr ⟨e',(ZK _).1 k⟩)
    ·rename_i k
     refine lost ?_;rintro(k2|⟨-,k2⟩)
     ·grind
     ·exact k ((ZK _).2 k2)
   ·rename_i e
    have e':BI s p.x≠BI b p.x:=fun k=>e ((Xl _ _).2 k)
    split
    ·rename_i k
     exact won (.inl ((TC _ _).1 k))
    ·rename_i k
     refine lost ?_;rintro(k2|⟨k2,-⟩)
     ·exact k ((TC _ _).2 k2)
     ·exact e' k2
 ·have hst:IV p st s=st:=by
   rw [wC]at hc;unfold IV;by_cases k1:0<=AO s.a.x p.x
   ·rw [if_pos k1]
   ·rw [if_neg k1];by_cases k2:AO s.b.x p.x<0
    ·rw [if_pos k2]
    ·rw [if_neg k2];by_cases k3:0<=AO (BI s p.x) p.y
     ·rw [if_pos k3]
     ·exact absurd ⟨k1,k2,k3⟩ hc
  rw [hst]
  cases st with
  | none=>
   intro t ht
   rcases List.mem_append.1 ht with ht|ht
   ·exact h t ht
   ·obtain rfl:t=s:=(by simpa using ht);exact hc
  | some x=>
   obtain⟨m1,m2,m3,m4⟩:=h;refine⟨List.mem_append_left _ m1,m2,m3,fun t ht ct=>?_⟩
   rcases List.mem_append.1 ht with ht|ht
   ·exact m4 t ht ct
   ·obtain rfl:t=s:=(by simpa using ht);exact absurd ct hc
theorem dK{G:List Sg}(hG:L6 G)(p:Pt)(l:List Sg)(hl:∀t∈l,t∈G):Qd p l (Dc p l):=by
 have main:∀n,n<=l.length→Qd p (l.take n) (Dc p (l.take n)):=by
  intro n
  induction n with
  | zero=>intro _ s hs;simp at hs
  | succ n ih=>intro hn;rw [As3 (by omega),vC];exact AfH hG (fun t ht=>hl t (List.mem_of_mem_take ht)) (hl _ (As1 _)) (ih (by omega))
 have:=main l.length (As0 _)
 rwa [List.take_length]at this
theorem vE{G:List Sg}(hG:L6 G)(p:Pt){l l':List Sg}(hp:l.Perm l')(hl:∀t∈l,t∈G):Dc p l=Dc p l':=by
 have h1:=dK hG p l hl;have h2:=dK hG p l' (fun t ht=>hl t (hp.mem_iff.2 ht))
 cases e1:Dc p l with
 | none=>
  rw [e1]at h1
  cases e2:Dc p l' with
  | none=>rfl
  | some y=>
   rw [e2]at h2;exact absurd h2.2.1 (h1 _ (hp.mem_iff.2 h2.1))
 | some x=>
  rw [e1]at h1
  cases e2:Dc p l' with
  | none=>
   rw [e2]at h2;exact absurd h1.2.1 (h2 _ (hp.mem_iff.1 h1.1))
  | some y=>
   rw [e2]at h2;obtain⟨s,hs⟩:=x;obtain⟨t,ht⟩:=y;obtain⟨a1,a2,a3,a4⟩:=h1;obtain⟨b1,b2,b3,b4⟩:=h2
   have hst:s=t:=by refine Classical.byContradiction fun hne=>?_;have k1:=(a4 t (hp.mem_iff.2 b1) b2).resolve_left (Ne.symm hne);have k2:=(b4 s (hp.mem_iff.1 a1) a2).resolve_left hne;exact AfD hG (hl s a1) (hl t (hp.mem_iff.2 b1)) a2 b2 hne k1 k2
   subst hst;rw [a3,b3]
theorem Alg(F:Fence)(n:Nat)(h10:F.fn 140)(hro:F.round=none)(hn:1<=n)(l Bm b:Nat)(L:List (Sg×Int))(J:List Sg→World→Prop)
  (hY:∀pre x W,J pre W→pre.length<L.length→YieldAt F (n-1) Tryz.prog l #[A8 x] W fun e W'=>e=.returned (.bool true)/\J (pre ++ [x]) W'/\KeepsWalks W W')
  (W:World) (hJ:AbidesFrom W.heap.size J) (hm:W.cell? ⟨Bm,0,none⟩=some (.map (some b))) (hb:W.heap[b]?=some (.map (AK A8 (stamp L)).toArray L.length)) (h0:J [] W) :
  CallsIn F n Tryz.prog 140 #[.func (.yield l) #[] #[],.pointer (some ⟨Bm,0,none⟩)] W fun e W'=>(∃v,e=.returned v)/\∃ss:List Sg,ss.Perm (L.map (·.1))/\J ss W':=by
 have hlt:=Asy hb;rw [←Eg]at hb;obtain⟨hr1,hr2⟩:=Dk.range (enc:=A8) (E:=stamp L) (t:=95) Tryz.underlying95 (W:=W) (b:=b) hb;have hG:=(Ab.refl W).alloc (.mapIter (some b) (stamp L).length #[] (stamp L).length);have hJ1:=hJ [] W _ none h0 (Hm hG none) (fun r e=>by cases e);have hb1:=(hG.block b hlt).trans hb;refine callsIn_of_wp Tryz.func140 rfl h10 ?_ hro;simp only [Tryz.ntmps140,List.size_toArray,List.length_cons,List.length_nil,Nat.reduceAdd,Nat.reduceSub,Array.replicate_succ,Array.replicate_zero,List.push_toArray,List.append_toArray,List.nil_append,List.cons_append];gi_wp2;generalize W.alloc (.mapIter (some b) (stamp L).length #[] (stamp L).length)=V at *;obtain⟨r,hr⟩:=Asw W.heap.size;rw [←hr]at hr2 hlt hJ ⊢;clear hr hr1 hG hb hm h0
 gi_loopw [3] (fun _ wr=>∃seen:List Nat,Dk wr r b (stamp L) seen/\wr.heap[b]?=some (.map (AK A8 (stamp L)).toArray (stamp L).length)/\J (seen.filterMap (fun i=>L[i]?.map (·.1))) wr)
  (fun _ wr=>L.length-(wr.iterSeen r).size)
 case atStart=>exact⟨[],hr2,hb1,hJ1⟩
 case round=>
  obtain⟨seen,hI,hbr,hJs⟩:=hrel
  rcases Dk.next A8 hI hbr (qJ L) (by omega) 0 with⟨hlen,hrun⟩|⟨i,hi,H8,W1,Fw,hG1,hs1,hrun,hen⟩
  ·have hP:=AbH L hI.nd hI.lt hlen;gi_wp2
   go_end0
   exact⟨⟨_,rfl⟩,_,hP,hJs⟩
  ·have Mn:i<L.length:=(by rw [Eg]at hi;exact hi);rw [ZR,qL]at hrun hen
   have hstep:(seen ++ [i]).filterMap (fun i=>L[i]?.map (·.1))=seen.filterMap (fun i=>L[i]?.map (·.1)) ++ [(L[i]).1]:=by rw [List.filterMap_append];simp only [List.filterMap_cons,List.filterMap_nil,As5 Mn,Option.map_some]
   have hlen':seen.length<L.length:=by
    have h2:(i::seen) ⊆ List.range L.length:=by
     intro j hj
     rcases List.mem_cons.1 hj with rfl|hj
     ·simpa using Mn
     ·have:=hI.lt j hj;rw [Eg]at this;simpa using this
    have:=(List.nodup_cons.2 ⟨H8,hI.nd⟩).length_le_of_subset h2;simp at this;omega
   have FU:=FD hI;have hJ2:=hJ _ wr W1 (some r) hJs hG1 (fun r' e=>by cases e;exact⟨As0 _,_,hI.it,rfl⟩);have hb2:=(hG1.block b (Asy hbr) (by simp;omega)).trans hbr;have Hx:=hen W1 rfl rfl;obtain⟨s,hs⟩:=Asw ((L[i]).1);obtain⟨z,hz⟩:=Asw ((L[i]).2);rw [←hs,←hz]at Hx hrun;rw [←hs]at hstep;have E3:=(Ab.refl W1).alloc (.cells #[S (R s.a.x),S (R s.a.y),S (R s.b.x),S (R s.b.y)] 140);have Fy:=Asz W1 (.cells #[S (R s.a.x),S (R s.a.y),S (R s.b.x),S (R s.b.y)] 140);have Ub:=hJ _ W1 _ none hJ2 (Hm E3 none) (fun r' e=>by cases e);have hpl:(seen.filterMap (fun i=>L[i]?.map (·.1))).length<L.length:=Nat.lt_of_le_of_lt (List.length_filterMap_le _ _) hlen';obtain⟨fn,tmps,assign,body,hy,hR⟩:=hY _ s _ Ub hpl;have DW:=Fw.keep (E3.block r (Asy Fw.it));have hb4:=(E3.block b (Asy hb2)).trans hb2;have g0:=Aa (o:=0) Fy rfl;have g1:=Aa (o:=1) Fy rfl;have g2:=Aa (o:=2) Fy rfl;have g3:=Aa (o:=3) Fy rfl;clear hs1 hen hs hz Fy E3 Ub hJ2;unfold A8 at Hx hrun hy;unfold S at hy Hx hrun g0 g1 g2 g3 DW hb4 hR;gi_wp2;refine hR.mono ?_;rintro e W3 ⟨rfl,hJ3,hk3⟩;gi_wp2;go_roundw
   case rel=>exact⟨seen ++ [i],⟨hk3.same r _ DW.it rfl,DW.nd,DW.lt⟩,hk3.same b _ hb4 rfl,by rw [hstep];exact hJ3⟩
   case measure=>rw [FU,FD (W:=W3) (b:=b) (E:=stamp L) (seen:=seen ++ [i]) ⟨hk3.same r _ DW.it rfl,DW.nd,DW.lt⟩,List.length_append,List.length_singleton];omega
theorem Alh(F:Fence)(n:Nat)(h10:F.fn 140)(hro:F.round=none)(hn:1<=n)(Bm b:Nat)(L:List (Sg×Int))(w:World)(hBm:Bm<w.heap.size)
  (hm:w.cell? ⟨Bm,0,none⟩=some (.map (some b))) (hb:w.heap[b]?=some (.map (AK A8 (stamp L)).toArray L.length)) :
  SeqGives F n Tryz.prog 140 #[.pointer (some ⟨Bm,0,none⟩)] A8 (fun ss=>ss.Perm (L.map (·.1))) L.length w:=fun l J W hW hJ hY h0=>
 Alg F n h10 hro hn l Bm b L J hY W hJ ((hW.cell (p:=⟨Bm,0,none⟩) hBm).trans hm) ((hW.block b (Asy hb)).trans hb) h0
end Go.Proofs.YtnddllipjippnaaGreatDoor
