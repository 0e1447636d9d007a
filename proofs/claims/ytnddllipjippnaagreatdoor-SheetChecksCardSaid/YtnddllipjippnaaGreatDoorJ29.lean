/- J29: D2 M17 M21 M22 N3 M23. -/
import Derived.Test.YtnddllipjippnaaGreatDoorJ28
import Derived.Shelf.SlSortCmp.WholeK
import Derived.Test.YtnddllipjippnaaGreatDoorJ22
import Derived.Sort.MapsRangeIn
set_option maxRecDepth 100000
set_option maxHeartbeats 4000000
namespace Go.Proofs.YtnddllipjippnaaGreatDoor
open Go.RowKit Kl
theorem AbM{p:Pt}{l:List Sg}(hp:Db p)(hl:∀s∈l,IZ s):∀j,j<=l.length→Jb (j*8000000000000) (FW p (l.take j)):=by
 intro j
 induction j with
 | zero=>intro _;exact⟨0,by simp,by simp only [List.take_zero,FW,List.foldl_nil,Rat.intCast_zero];grind⟩
 | succ j ih=>intro hj;rw [pR p l (by omega)];have hs:=hl _ (Ao8 (show j<l.length by omega));exact((ih (by omega)).add (pP hp hs.a hs.b)).mono (by omega)
theorem pS(l:List Sg)(A:Option Addr)(c:Nat)(hl:∀e∈l,IZ e)(h0:0<l.length)(hn:l.length<=100000)(hc:l.length<=c)(hcm:c<=9223372036854775807)(w:World)(hw:Am w)(hr:Af w A (Cu l)) :
  Calls Tryz.prog 120 #[.slice A l.length c] w (By (R (Hu l)) w):=by
 have hp:Db l[0].a:=(hl _ (Ao8 h0)).a;have p20:(10:Nat)^20<=10^100:=Nat.pow_le_pow_right (by omega) (by omega);have p21:(10:Nat)^20<=10^200:=Nat.pow_le_pow_right (by omega) (by omega);refine AbL l A c (k:=200) (K:=200) (fun e he=>(hl e he).sz (by omega)) (by omega) (by omega) (by omega) (by omega) h0 ?_ ?_ hc hcm (by omega) w hw hr
 ·intro j hj;exact(AbM hp hl j hj).sz (by have:=hn;omega) (by omega)
 ·intro j hj;have hs:=hl _ (Ao8 hj);exact(pP hp hs.a hs.b).sz (by omega) (by omega)
section
open Go.Sort Go.Shelf
theorem AkX(blk off cap:Nat)(d:Array Way)(w0 w:World)(hw:Am w0)(hx:Ab w0 w)(h0:w0.heap.size<=blk)(hH:HoldsK GH 4 w blk off d)(hblk:blk<w.heap.size)(hsz:d.size<4611686018427387904) :
  Calls Tryz.prog 139 #[.slice (some ⟨blk,off,none⟩) d.size cap,.func (.func 87) #[] #[]] w fun e w'=>
   e=.returned (.tuple #[])/\∃(d':Array Way) (n:Nat) (os:Array Obj),PermIn 0 d.size d d'/\SortedIn (ltOf Iq) 0 d.size d'/\w'=sortWorldK GH 4 w blk off n d' os:=by
 have eg:∀args w,(callFunc 87 args).run Tryz.prog w=.ok (.enter 87 args) w:=enters_of Tryz.func87 (by kernel_rfl) rfl;exact AnyQ.slices_SortFunc Tryz.laysSortSg 4 Tryz.isAgg140 Tryz.sizeOf140 GH VR Ad4 Iq xf 87 #[] blk off cap d w eg (AlM hw hx h0 off d.size) hH hblk hsz
end
section
open Go.Sort
def KG(l:List Way):List Way:=l.mergeSort (fun x y=>!ltOf Iq y x)
theorem Alc(d d':Array Way)(h1:PermIn 0 d.size d d')(h2:SortedIn (ltOf Iq) 0 d.size d'):d'=(KG d.toList).toArray:=by
 have h:=sorted_unique_holds (lt:=ltOf Iq) xf AlN d d' h1 h2;rw [KG,←h]
theorem uq(blk off cap:Nat)(d:Array Way)(w0 w:World)(hw:Am w0)(hx:Ab w0 w)(h0:w0.heap.size<=blk)(hH:HoldsK GH 4 w blk off d)(hblk:blk<w.heap.size)(hsz:d.size<4611686018427387904) :
  Calls Tryz.prog 139 #[.slice (some ⟨blk,off,none⟩) d.size cap,.func (.func 87) #[] #[]] w fun e w'=>e=.returned (.tuple #[])/\∃(n:Nat) (os:Array Obj),w'=sortWorldK GH 4 w blk off n (KG d.toList).toArray os:=
 (AkX blk off cap d w0 w hw hx h0 hH hblk hsz).mono fun _ _ ⟨he,d',n,os,h1,h2,hw⟩=>⟨he,n,os,by rw [←Alc d d' h1 h2];exact hw⟩
end
theorem iY(mb:Option Nat)(w:World) :
  Calls Tryz.prog 86 #[.map mb] w fun e w'=>e=.returned (.func (.func 140) #[] #[.pointer (some ⟨w.heap.size,0,none⟩)])/\w'=w.alloc (.cells #[.map mb] 95):=by
 go_enter Tryz.func86,Tryz.ntmps86;go_wp2;go_ret;exact⟨rfl,rfl⟩
/-! ### The first way below a place -/
theorem uv{x:Rat}(h:x≠0):0<x*x:=by
 rcases K3 x 0 with k|k|k
 ·have:=Rat.mul_pos (show 0 < -x by grind) (show 0 < -x by grind);grind
 ·exact absurd k h
 ·exact Rat.mul_pos k k
theorem sQ{a b:Rat}(h:b≠0):a/b*b=a:=by
 rw [Rat.div_def,Rat.mul_assoc,Rat.mul_comm b⁻¹,Rat.mul_inv_cancel _ h];grind
theorem uh(s:Sg)(h:s.a.x<s.b.x):∃m:Rat,s.b.y=s.a.y+m*(s.b.x-s.a.x)/\∀X,BW s X=s.a.y+m*(X-s.a.x):=by
 have hd:s.b.x-s.a.x≠0:=(by grind);refine⟨(s.b.y-s.a.y)/(s.b.x-s.a.x),?_,?_⟩
 ·rw [sQ hd];grind
 ·intro X;unfold BW
  congr 1
  rw [Rat.div_def,Rat.div_def]
  grind
theorem QO{a b z:Pt}{m:Rat}(h:a.x<b.x)(h1:a.x<=z.x)(h2:z.x<=b.x)(hb:b.y=a.y+m*(b.x-a.x))(hz:z.y=a.y+m*(z.x-a.x)):Fu a b z:=by
 have hd:b.x-a.x≠0:=(by grind);have e:=sQ (a:=z.x-a.x) hd;refine⟨(z.x-a.x)/(b.x-a.x),?_,?_,?_,?_⟩
 ·refine Uv (a:=b.x-a.x) (by grind) ?_;rw [Rat.mul_comm,e];grind
 ·have:0<=1-(z.x-a.x)/(b.x-a.x):=by
   refine Uv (a:=b.x-a.x) (by grind) ?_;generalize (z.x-a.x)/(b.x-a.x)=q at *
   grind
  grind
 ·rw [e];grind
 ·have:b.y-a.y=m*(b.x-a.x):=(by grind);rw [this];generalize (z.x-a.x)/(b.x-a.x)=q at *;have:q*(m*(b.x-a.x))=m*(q*(b.x-a.x)):=(by grind);rw [this,e];exact hz
def Dz(p:Pt)(s:Sg):Prop:=s.a.x<p.x/\p.x<=s.b.x/\BW s p.x<p.y
def Hw(p:Pt)(s t:Sg):Prop:=BW t p.x<BW s p.x∨(BW s p.x=BW t p.x/\0<Ar s.b s.a t.a)
theorem kW{p q:Pt}(h1:p.x=q.x)(h2:p.y=q.y):p=q:=by cases p;cases q;simp_all
theorem Yt{s t:Sg}(h1:s.a=t.a)(h2:s.b=t.b):s=t:=by cases s;cases t;simp_all
theorem Y0{p:Pt}{s t:Sg}(hs:Dz p s)(ht:Dz p t)(hX:FT s.a s.b t.a t.b)(hne:s≠t)(hh:BW s p.x=BW t p.x):s.b=t.b/\Ar s.b s.a t.a≠0:=by
 obtain⟨s1,s2,-⟩:=hs;obtain⟨t1,t2,-⟩:=ht;have sx:s.a.x<s.b.x:=(by grind);have tx:t.a.x<t.b.x:=(by grind);obtain⟨ms,sb,sh⟩:=uh s sx;obtain⟨mt,tb,th⟩:=uh t tx;rw [sh,th]at hh;clear sh th;generalize p.x=X at *;have ty:t.a.y=s.a.y+ms*(X-s.a.x)-mt*(X-t.a.x):=(by grind);have sy:s.a.y=t.a.y+mt*(X-t.a.x)-ms*(X-s.a.x):=by grind
 have Akp:ms=mt→s.a.x<t.a.x→False:=by
  intro e h;have ho:Fu s.a s.b t.a:=QO (m:=ms) sx (by grind) (by grind) sb (by subst e;grind)
  rcases hX.pc ho with k|k
  ·rw [k]at h;grind
  ·rw [k]at t1;grind
 have Akr:ms=mt→t.a.x<s.a.x→False:=by
  intro e h;have ho:Fu t.a t.b s.a:=QO (m:=mt) tx (by grind) (by grind) tb (by subst e;grind)
  rcases hX.pa ho with k|k
  ·rw [k]at h;grind
  ·rw [k]at s1;grind
 have ry:ms=mt→s.a=t.a:=by
  intro e
  have:s.a.x=t.a.x:=by
   rcases K3 s.a.x t.a.x with h|h|h
   ·exact(Akp e h).elim
   ·exact h
   ·exact(Akr e h).elim
  refine kW this ?_;subst e;rw [this]at hh;grind
 rcases NI s2 with s3|s3
 ·exfalso
  rcases NI t2 with t3|t3
  ·by_cases e:ms=mt
   ·have ea:=ry e
    have hb:s.b.x=t.b.x:=by
     rcases K3 s.b.x t.b.x with h|h|h
     ·have ho:Fu t.a t.b s.b:=QO (m:=mt) tx (by grind) (by grind) tb (by subst e;rw [sb,ea])
      rcases hX.pb ho with k|k
      ·rw [k]at s3;grind
      ·rw [k]at h;grind
     ·exact h
     ·have ho:Fu s.a s.b t.b:=QO (m:=ms) sx (by grind) (by grind) sb (by subst e;rw [tb,ea])
      rcases hX.pd ho with k|k
      ·rw [k]at t3;grind
      ·rw [k]at h;grind
    exact hne (Yt ea (kW hb (by rw [sb,tb,ea,e,hb])))
   ·have hd:ms-mt≠0:=(by grind);refine hX.px ?_ ?_ ?_ ?_ ?_ ?_
    ·intro k;rw [k]at hh;have:(ms-mt)*(X-t.a.x)=0:=by grind
     rcases Me this with h|h<;>grind
    ·intro k;rw [k]at s1;grind
    ·intro k;rw [k]at s3;grind
    ·intro k;have:(ms-mt)*(t.b.x-X)=0:=by rw [k]at sb;grind
     rcases Me this with h|h<;>grind
    ·have e1:Ar s.a s.b t.a=((s.b.x-s.a.x)*(ms-mt))*(X-t.a.x):=(by unfold Ar;rw [sb,ty];grind);have e2:Ar s.a s.b t.b = -(((s.b.x-s.a.x)*(ms-mt))*(t.b.x-X)):=(by unfold Ar;rw [sb,tb,ty];grind);rw [e1,e2]
     have hn:(s.b.x-s.a.x)*(ms-mt)≠0:=fun h=>by rcases Me h with h|h<;>grind
     generalize (s.b.x-s.a.x)*(ms-mt)=D at *;have:=Rat.mul_pos (uv hn) (Rat.mul_pos (show 0<X-t.a.x by grind) (show 0<t.b.x-X by grind))
     grind
    ·have e1:Ar t.a t.b s.a=((t.b.x-t.a.x)*(mt-ms))*(X-s.a.x):=(by unfold Ar;rw [tb,sy];grind);have e2:Ar t.a t.b s.b = -(((t.b.x-t.a.x)*(mt-ms))*(s.b.x-X)):=(by unfold Ar;rw [tb,sb,sy];grind);rw [e1,e2]
     have hn:(t.b.x-t.a.x)*(mt-ms)≠0:=fun h=>by rcases Me h with h|h<;>grind
     generalize (t.b.x-t.a.x)*(mt-ms)=D at *;have:=Rat.mul_pos (uv hn) (Rat.mul_pos (show 0<X-s.a.x by grind) (show 0<s.b.x-X by grind))
     grind
  ·have ho:Fu s.a s.b t.b:=QO (m:=ms) sx (by grind) (by grind) sb (by grind)
   rcases hX.pd ho with k|k
   ·rw [k]at t3;grind
   ·rw [k]at t3;grind
 ·rcases NI t2 with t3|t3
  ·exfalso
   have ho:Fu t.a t.b s.b:=QO (m:=mt) tx (by grind) (by grind) tb (by grind)
   rcases hX.pb ho with k|k
   ·rw [k]at s3;grind
   ·rw [k]at s3;grind
  ·have eb:s.b=t.b:=kW (by grind) (by grind);refine⟨eb,?_⟩;intro h0;have e1:Ar s.b s.a t.a=((X-s.a.x)*(X-t.a.x))*(mt-ms):=(by unfold Ar;grind);rw [e1]at h0
   have e:ms=mt:=by
    rcases Me h0 with h|h
    ·rcases Me h with h|h<;>grind
    ·grind
   exact hne (Yt (ry e) eb)
def KN(G:List Sg):Prop:=∀s∈G,∀t∈G,s.a.x<s.b.x→t.a.x<t.b.x→s≠t→FT s.a s.b t.a t.b
theorem AbZ{G:List Sg}(hG:KN G){p:Pt}{s t:Sg}(hs:s∈G)(ht:t∈G)(cs:Dz p s)(ct:Dz p t)(hne:s≠t):Hw p s t∨Hw p t s:=by
 unfold Hw;have hX:=hG s hs t ht (by unfold Dz at cs;grind) (by unfold Dz at ct;grind) hne
 rcases K3 (BW s p.x) (BW t p.x)with h|h|h
 ·exact .inr (.inl h)
 ·obtain⟨e,hn⟩:=Y0 cs ct hX hne h;have:=Z1 s.b s.a t.a;rw [e]at this hn ⊢
  rcases K3 (Ar t.b s.a t.a) 0 with k|k|k
  ·exact .inr (.inr ⟨h.symm,by grind⟩)
  ·exact absurd k hn
  ·exact .inl (.inr ⟨h,k⟩)
 ·exact .inl (.inl h)
theorem AbY{G:List Sg}(hG:KN G){p:Pt}{s t:Sg}(hs:s∈G)(ht:t∈G)(cs:Dz p s)(ct:Dz p t)(hne:s≠t)(h1:Hw p s t)(h2:Hw p t s):False:=by
 unfold Hw at h1 h2;have hX:=hG s hs t ht (by unfold Dz at cs;grind) (by unfold Dz at ct;grind) hne
 rcases h1 with h1|⟨e1,h1⟩
 ·rcases h2 with h2|⟨e2,h2⟩<;>grind
 ·rcases h2 with h2|⟨e2,h2⟩
  ·grind
  ·obtain⟨e,hn⟩:=Y0 cs ct hX hne e1;have:=Z1 s.b s.a t.a;rw [e]at this h1
   grind
theorem Aca{G:List Sg}(hG:KN G){p:Pt}{s t u:Sg}(hs:s∈G)(ht:t∈G)(hu:u∈G)(cs:Dz p s)(ct:Dz p t)(cu:Dz p u)(n1:s≠t)(n2:t≠u)(h1:Hw p s t)(h2:Hw p t u):Hw p s u:=by
 unfold Hw at *
 rcases h1 with h1|⟨e1,h1⟩
 ·left;rcases h2 with h2|⟨e2,h2⟩<;>grind
 ·rcases h2 with h2|⟨e2,h2⟩
  ·left;grind
  ·right
   refine⟨by grind,?_⟩;have X1:=hG s hs t ht (by unfold Dz at cs;grind) (by unfold Dz at ct;grind) n1;have X2:=hG t ht u hu (by unfold Dz at ct;grind) (by unfold Dz at cu;grind) n2;obtain⟨b1,-⟩:=Y0 cs ct X1 n1 e1;obtain⟨b2,-⟩:=Y0 ct cu X2 n2 e2;obtain⟨c1,c2,-⟩:=cs;obtain⟨d1,d2,-⟩:=ct;obtain⟨f1,f2,-⟩:=cu;rw [←b1]at h2 b2 d2;rw [←b2]at f2;have:=ZL (ux:=s.a.y-s.b.y) (uy:=s.b.x-s.a.x) (vx:=t.a.y-s.b.y) (vy:=s.b.x-t.a.x) (wx:=u.a.y-s.b.y) (wy:=s.b.x-u.a.x) (.inl (by grind)) (.inl (by grind)) (.inl (by grind)) (by unfold Ar at h1;grind) (by unfold Ar at h2;grind);unfold Ar;grind
def Ph(p:Pt)(l:List Sg):Option (Sg×Rat)→Prop
 | none=>∀s∈l,¬Dz p s
 | some (s,h)=>s∈l/\Dz p s/\h=BW s p.x/\∀t∈l,Dz p t→t=s∨Hw p s t
theorem qW(p:Pt)(s:Sg):Dz p s↔¬0<=Bo s.a.x p.x/\¬Bo s.b.x p.x<0/\¬0<=Bo (BW s p.x) p.y:=by
 unfold Dz;have h1:=Sk s.a.x p.x;have h2:=Sk s.b.x p.x;have h3:=Sk (BW s p.x) p.y;constructor
 ·rintro⟨k1,k2,k3⟩;exact⟨by have:=h1.2 k1;omega,fun k=>by have:=h2.1 k;grind,by have:=h3.2 k3;omega⟩
 ·rintro⟨k1,k2,k3⟩;refine⟨h1.1 (by omega),?_,h3.1 (by omega)⟩;have:¬s.b.x<p.x:=fun k=>k2 (h2.2 k)
  grind
theorem Acc{G:List Sg}(hG:KN G){p:Pt}{l:List Sg}{st:Option (Sg×Rat)}{s:Sg}(hl:∀t∈l,t∈G)(hs:s∈G)(h:Ph p l st):Ph p (l ++ [s]) (Iz p st s):=by
 by_cases hc:Dz p s
 ·have hc':=(qW p s).1 hc;unfold Iz;rw [if_neg hc'.1,if_neg hc'.2.1,if_neg hc'.2.2]
  cases st with
  | none=>
   refine⟨by simp,hc,rfl,fun t ht ct=>?_⟩
   rcases List.mem_append.1 ht with ht|ht
   ·exact absurd ct (h t ht)
   ·left;simpa using ht
  | some x=>
   obtain⟨b,hb⟩:=x;obtain⟨m1,m2,m3,m4⟩:=h
   have xg:Hw p s b→Ph p (l ++ [s]) (some (s,BW s p.x)):=by
    intro Gu;refine⟨by simp,hc,rfl,fun t ht ct=>?_⟩
    rcases List.mem_append.1 ht with ht|ht
    ·by_cases e:t=s
     ·exact .inl e
     ·right
      rcases m4 t ht ct with e2|e2
      ·rw [e2];exact Gu
      ·by_cases e3:s=b
       ·subst e3;exact e2
       ·by_cases e4:b=t
        ·subst e4;exact Gu
        ·exact Aca hG hs (hl b m1) (hl t ht) hc m2 ct e3 e4 Gu e2
    ·left;simpa using ht
   have lost:¬Hw p s b→Ph p (l ++ [s]) (some (b,hb)):=by
    intro Gu;refine⟨List.mem_append_left _ m1,m2,m3,fun t ht ct=>?_⟩
    rcases List.mem_append.1 ht with ht|ht
    ·exact m4 t ht ct
    ·obtain rfl:t=s:=(by simpa using ht);by_cases e:t=b
     ·exact .inl e
     ·right
      rcases AbZ hG hs (hl b m1) hc m2 e with k|k
      ·exact absurd k Gu
      ·exact k
   subst m3;simp only
   split
   ·rename_i e
    have e':=(VH _ _).1 e
    split
    ·rename_i k
     exact xg (.inr ⟨e',(Yu _).1 k⟩)
    ·rename_i k
     refine lost ?_;rintro(k2|⟨-,k2⟩)
     ·grind
     ·exact k ((Yu _).2 k2)
   ·rename_i e
    have e':BW s p.x≠BW b p.x:=fun k=>e ((VH _ _).2 k)
    split
    ·rename_i k
     exact xg (.inl ((Sl _ _).1 k))
    ·rename_i k
     refine lost ?_;rintro(k2|⟨k2,-⟩)
     ·exact k ((Sl _ _).2 k2)
     ·exact e' k2
 ·have hst:Iz p st s=st:=by
   rw [qW]at hc;unfold Iz;by_cases k1:0<=Bo s.a.x p.x
   ·rw [if_pos k1]
   ·rw [if_neg k1];by_cases k2:Bo s.b.x p.x<0
    ·rw [if_pos k2]
    ·rw [if_neg k2];by_cases k3:0<=Bo (BW s p.x) p.y
     ·rw [if_pos k3]
     ·exact absurd ⟨k1,k2,k3⟩ hc
  rw [hst]
  cases st with
  | none=>
   intro t ht
   rcases List.mem_append.1 ht with ht|ht
   ·exact h t ht
   ·obtain rfl:t=s:=(by simpa using ht);exact hc
  | some x=>
   obtain⟨m1,m2,m3,m4⟩:=h;refine⟨List.mem_append_left _ m1,m2,m3,fun t ht ct=>?_⟩
   rcases List.mem_append.1 ht with ht|ht
   ·exact m4 t ht ct
   ·obtain rfl:t=s:=(by simpa using ht);exact absurd ct hc
theorem Z9{G:List Sg}(hG:KN G)(p:Pt)(l:List Sg)(hl:∀t∈l,t∈G):Ph p l (CS p l):=by
 have main:∀n,n<=l.length→Ph p (l.take n) (CS p (l.take n)):=by
  intro n
  induction n with
  | zero=>intro _ s hs;simp at hs
  | succ n ih=>intro hn;rw [AoA (by omega),pV];exact Acc hG (fun t ht=>hl t (List.mem_of_mem_take ht)) (hl _ (Ao8 _)) (ih (by omega))
 have:=main l.length (Ao7 _)
 rwa [List.take_length]at this
theorem pX{G:List Sg}(hG:KN G)(p:Pt){l l':List Sg}(hp:l.Perm l')(hl:∀t∈l,t∈G):CS p l=CS p l':=by
 have h1:=Z9 hG p l hl;have h2:=Z9 hG p l' (fun t ht=>hl t (hp.mem_iff.2 ht))
 cases e1:CS p l with
 | none=>
  rw [e1]at h1
  cases e2:CS p l' with
  | none=>rfl
  | some y=>
   rw [e2]at h2;exact absurd h2.2.1 (h1 _ (hp.mem_iff.2 h2.1))
 | some x=>
  rw [e1]at h1
  cases e2:CS p l' with
  | none=>
   rw [e2]at h2;exact absurd h1.2.1 (h2 _ (hp.mem_iff.1 h1.1))
  | some y=>
   rw [e2]at h2;obtain⟨s,hs⟩:=x;obtain⟨t,ht⟩:=y;obtain⟨a1,a2,a3,a4⟩:=h1;obtain⟨b1,b2,b3,b4⟩:=h2
   have hst:s=t:=by refine Classical.byContradiction fun hne=>?_;have k1:=(a4 t (hp.mem_iff.2 b1) b2).resolve_left (Ne.symm hne);have k2:=(b4 s (hp.mem_iff.1 a1) a2).resolve_left hne;exact AbY hG (hl s a1) (hl t (hp.mem_iff.2 b1)) a2 b2 hne k1 k2
   subst hst;rw [a3,b3]
theorem Ahx(F:Fence)(n:Nat)(h10:F.fn 140)(hro:F.round=none)(hn:1<=n)(l Bm b:Nat)(L:List (Sg×Int))(J:List Sg→World→Prop)
  (hY:∀pre x W,J pre W→pre.length<L.length→YieldAt F (n-1) Tryz.prog l #[AC x] W fun e W'=>e=.returned (.bool true)/\J (pre ++ [x]) W'/\KeepsWalks W W')
  (W:World) (hJ:AbidesFrom W.heap.size J) (hm:W.cell? ⟨Bm,0,none⟩=some (.map (some b))) (hb:W.heap[b]?=some (.map (AN AC (stamp L)).toArray L.length)) (h0:J [] W) :
  CallsIn F n Tryz.prog 140 #[.func (.yield l) #[] #[],.pointer (some ⟨Bm,0,none⟩)] W fun e W'=>(∃v,e=.returned v)/\∃ss:List Sg,ss.Perm (L.map (·.1))/\J ss W':=by
 have hlt:=Ao5 hb;rw [←DK]at hb;obtain⟨hr1,hr2⟩:=Da.range (enc:=AC) (E:=stamp L) (t:=95) Tryz.underlying95 (W:=W) (b:=b) hb;have hG:=(Ab.refl W).alloc (.mapIter (some b) (stamp L).length #[] (stamp L).length);have hJ1:=hJ [] W _ none h0 (GK hG none) (fun r e=>by cases e);have hb1:=(hG.block b hlt).trans hb;refine callsIn_of_wp Tryz.func140 rfl h10 ?_ hro;simp only [Tryz.ntmps140,List.size_toArray,List.length_cons,List.length_nil,Nat.reduceAdd,Nat.reduceSub,Array.replicate_succ,Array.replicate_zero,List.push_toArray,List.append_toArray,List.nil_append,List.cons_append];gi_wp2;generalize W.alloc (.mapIter (some b) (stamp L).length #[] (stamp L).length)=V at *;obtain⟨r,hr⟩:=Ao3 W.heap.size;rw [←hr]at hr2 hlt hJ ⊢;clear hr hr1 hG hb hm h0
 gi_loopw [3] (fun _ wr=>∃seen:List Nat,Da wr r b (stamp L) seen/\wr.heap[b]?=some (.map (AN AC (stamp L)).toArray (stamp L).length)/\J (seen.filterMap (fun i=>L[i]?.map (·.1))) wr)
  (fun _ wr=>L.length-(wr.iterSeen r).size)
 case atStart=>exact⟨[],hr2,hb1,hJ1⟩
 case round=>
  obtain⟨seen,hI,hbr,hJs⟩:=hrel
  rcases Da.next AC hI hbr (lU L) (by omega) 0 with⟨hlen,hrun⟩|⟨i,hi,GY,W1,EW,hG1,hs1,hrun,hen⟩
  ·have hP:=sf L hI.nd hI.lt hlen;gi_wp2
   go_end0
   exact⟨⟨_,rfl⟩,_,hP,hJs⟩
  ·have L9:i<L.length:=(by rw [DK]at hi;exact hi);rw [Yy,lW]at hrun hen
   have hstep:(seen ++ [i]).filterMap (fun i=>L[i]?.map (·.1))=seen.filterMap (fun i=>L[i]?.map (·.1)) ++ [(L[i]).1]:=by rw [List.filterMap_append];simp only [List.filterMap_cons,List.filterMap_nil,AoC L9,Option.map_some]
   have hlen':seen.length<L.length:=by
    have h2:(i::seen) ⊆ List.range L.length:=by
     intro j hj
     rcases List.mem_cons.1 hj with rfl|hj
     ·simpa using L9
     ·have:=hI.lt j hj;rw [DK]at this;simpa using this
    have:=(List.nodup_cons.2 ⟨GY,hI.nd⟩).length_le_of_subset h2;simp at this;omega
   have FA:=Fh hI;have hJ2:=hJ _ wr W1 (some r) hJs hG1 (fun r' e=>by cases e;exact⟨Ao7 _,_,hI.it,rfl⟩);have hb2:=(hG1.block b (Ao5 hbr) (by simp;omega)).trans hbr;have GT:=hen W1 rfl rfl;obtain⟨s,hs⟩:=Ao3 ((L[i]).1);obtain⟨z,hz⟩:=Ao3 ((L[i]).2);rw [←hs,←hz]at GT hrun;rw [←hs]at hstep;have E3:=(Ab.refl W1).alloc (.cells #[S (R s.a.x),S (R s.a.y),S (R s.b.x),S (R s.b.y)] 140);have EY:=Ao6 W1 (.cells #[S (R s.a.x),S (R s.a.y),S (R s.b.x),S (R s.b.y)] 140);have SL:=hJ _ W1 _ none hJ2 (GK E3 none) (fun r' e=>by cases e);have hpl:(seen.filterMap (fun i=>L[i]?.map (·.1))).length<L.length:=Nat.lt_of_le_of_lt (List.length_filterMap_le _ _) hlen';obtain⟨fn,tmps,assign,body,hy,hR⟩:=hY _ s _ SL hpl;have DF:=EW.keep (E3.block r (Ao5 EW.it));have hb4:=(E3.block b (Ao5 hb2)).trans hb2;have g0:=Aa (o:=0) EY rfl;have g1:=Aa (o:=1) EY rfl;have g2:=Aa (o:=2) EY rfl;have g3:=Aa (o:=3) EY rfl;clear hs1 hen hs hz EY E3 SL hJ2;unfold AC at GT hrun hy;unfold S at hy GT hrun g0 g1 g2 g3 DF hb4 hR;gi_wp2;refine hR.mono ?_;rintro e W3 ⟨rfl,hJ3,hk3⟩;gi_wp2;go_roundw
   case rel=>exact⟨seen ++ [i],⟨hk3.same r _ DF.it rfl,DF.nd,DF.lt⟩,hk3.same b _ hb4 rfl,by rw [hstep];exact hJ3⟩
   case measure=>rw [FA,Fh (W:=W3) (b:=b) (E:=stamp L) (seen:=seen ++ [i]) ⟨hk3.same r _ DF.it rfl,DF.nd,DF.lt⟩,List.length_append,List.length_singleton];omega
theorem Ahy(F:Fence)(n:Nat)(h10:F.fn 140)(hro:F.round=none)(hn:1<=n)(Bm b:Nat)(L:List (Sg×Int))(w:World)(hBm:Bm<w.heap.size)
  (hm:w.cell? ⟨Bm,0,none⟩=some (.map (some b))) (hb:w.heap[b]?=some (.map (AN AC (stamp L)).toArray L.length)) :
  SeqGives F n Tryz.prog 140 #[.pointer (some ⟨Bm,0,none⟩)] AC (fun ss=>ss.Perm (L.map (·.1))) L.length w:=fun l J W hW hJ hY h0=>
 Ahx F n h10 hro hn l Bm b L J hY W hJ ((hW.cell (p:=⟨Bm,0,none⟩) hBm).trans hm) ((hW.block b (Ao5 hb)).trans hb) h0
end Go.Proofs.YtnddllipjippnaaGreatDoor
