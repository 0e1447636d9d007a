/- W23. -/
import Derived.Test.YtnfedbopbcegjaaGreatDoorW22
import Derived.Shelf.SlSortCmp.WholeK
import Derived.Sort.MapsRangeIn
set_option maxRecDepth 100000
set_option maxHeartbeats 4000000
namespace Go.Proofs.YtnfedbopbcegjaaGreatDoor
open Go.RowKit Kl
theorem ra{p:Pt}{l:List Sg}(hp:Da p)(hl:∀s∈l,Gb s):∀j,j<=l.length→Ho (j*648) (EK p (l.take j)):=by
 intro j
 induction j with
 | zero=>intro _;exact⟨0,by simp,by simp only [List.take_zero,EK,List.foldl_nil,Rat.intCast_zero];grind⟩
 | succ j ih=>intro hj;rw [fJ p l (by omega)];have hs:=hl _ (AjO (show j<l.length by omega));exact((ih (by omega)).add (fG hp hs.a hs.b)).mono (by omega)
theorem q9(l:List Sg)(A:Option Addr)(c:Nat)(hl:∀e∈l,Gb e)(h0:0<l.length)(hn:l.length<=100000)(hc:l.length<=c)(hcm:c<=9223372036854775807)(w:World)(hw:Ak w)(hr:Ad w A (BQ l)) :
  Calls Tryz.prog 212 #[.slice A l.length c] w (BK (R (KO l)) w):=by
 have hp:Da l[0].a:=(hl _ (AjO h0)).a;refine q8 l A c (k:=1) (K:=9) (fun e he=>(hl e he).sz (by omega)) (by omega) (by omega) (by omega) (by omega) h0 ?_ ?_ hc hcm (by omega) w hw hr
 ·intro j hj;exact(ra hp hl j hj).sz (by have:=hn;omega) (by omega)
 ·intro j hj;have hs:=hl _ (AjO hj);exact(fG hp hs.a hs.b).sz (by omega) (by omega)
section
open Go.Sort Go.Shelf
theorem AgN(blk off cap:Nat)(d:Array Way)(w0 w:World)(hw:Ak w0)(hx:Aa w0 w)(h0:w0.heap.size<=blk)(hH:HoldsK F7 4 w blk off d)(hblk:blk<w.heap.size)(hsz:d.size<4611686018427387904) :
  Calls Tryz.prog 199 #[.slice (some ⟨blk,off,none⟩) d.size cap,.func (.func 129) #[] #[]] w fun e w'=>
   e=.returned (.tuple #[])/\∃(d':Array Way) (n:Nat) (os:Array Obj),PermIn 0 d.size d d'/\SortedIn (ltOf Gx) 0 d.size d'/\w'=sortWorldK F7 4 w blk off n d' os:=by
 have eg:∀args w,(callFunc 129 args).run Tryz.prog w=.ok (.enter 129 args) w:=enters_of Tryz.func129 (by kernel_rfl) rfl;exact AnyQ.slices_SortFunc Tryz.laysSortSg 4 Tryz.isAgg176 Tryz.sizeOf176 F7 SE Aaa Gx dx 129 #[] blk off cap d w eg (AhB hw hx h0 off d.size) hH hblk hsz
end
section
open Go.Sort
def Jn(l:List Way):List Way:=l.mergeSort (fun x y=>!ltOf Gx y x)
theorem AgU(d d':Array Way)(h1:PermIn 0 d.size d d')(h2:SortedIn (ltOf Gx) 0 d.size d'):d'=(Jn d.toList).toArray:=by
 have h:=sorted_unique_holds (lt:=ltOf Gx) dx AhC d d' h1 h2;rw [Jn,←h]
theorem zH(blk off cap:Nat)(d:Array Way)(w0 w:World)(hw:Ak w0)(hx:Aa w0 w)(h0:w0.heap.size<=blk)(hH:HoldsK F7 4 w blk off d)(hblk:blk<w.heap.size)(hsz:d.size<4611686018427387904) :
  Calls Tryz.prog 199 #[.slice (some ⟨blk,off,none⟩) d.size cap,.func (.func 129) #[] #[]] w fun e w'=>e=.returned (.tuple #[])/\∃(n:Nat) (os:Array Obj),w'=sortWorldK F7 4 w blk off n (Jn d.toList).toArray os:=
 (AgN blk off cap d w0 w hw hx h0 hH hblk hsz).mono fun _ _ ⟨he,d',n,os,h1,h2,hw⟩=>⟨he,n,os,by rw [←AgU d d' h1 h2];exact hw⟩
end
theorem tZ(mb:Option Nat)(w:World) :
  Calls Tryz.prog 128 #[.map mb] w fun e w'=>e=.returned (.func (.func 200) #[] #[.pointer (some ⟨w.heap.size,0,none⟩)])/\w'=w.alloc (.cells #[.map mb] 160):=by
 go_enter Tryz.func128,Tryz.ntmps128;go_wp2;go_ret;exact⟨rfl,rfl⟩
/-! ### The first way below a place -/
theorem zM{x:Rat}(h:x≠0):0<x*x:=by
 rcases Jm x 0 with k|k|k
 ·have:=Rat.mul_pos (show 0 < -x by grind) (show 0 < -x by grind);grind
 ·exact absurd k h
 ·exact Rat.mul_pos k k
theorem iZ{a b:Rat}(h:b≠0):a/b*b=a:=by
 rw [Rat.div_def,Rat.mul_assoc,Rat.mul_comm b⁻¹,Rat.mul_inv_cancel _ h];grind
theorem zC(s:Sg)(h:s.a.x<s.b.x):∃m:Rat,s.b.y=s.a.y+m*(s.b.x-s.a.x)/\∀X,Bq s X=s.a.y+m*(X-s.a.x):=by
 have hd:s.b.x-s.a.x≠0:=(by grind);refine⟨(s.b.y-s.a.y)/(s.b.x-s.a.x),?_,?_⟩
 ·rw [iZ hd];grind
 ·intro X;unfold Bq
  congr 1
  rw [Rat.div_def,Rat.div_def]
  grind
theorem O2{a b z:Pt}{m:Rat}(h:a.x<b.x)(h1:a.x<=z.x)(h2:z.x<=b.x)(hb:b.y=a.y+m*(b.x-a.x))(hz:z.y=a.y+m*(z.x-a.x)):Et a b z:=by
 have hd:b.x-a.x≠0:=(by grind);have e:=iZ (a:=z.x-a.x) hd;refine⟨(z.x-a.x)/(b.x-a.x),?_,?_,?_,?_⟩
 ·refine QW (a:=b.x-a.x) (by grind) ?_;rw [Rat.mul_comm,e];grind
 ·have:0<=1-(z.x-a.x)/(b.x-a.x):=by
   refine QW (a:=b.x-a.x) (by grind) ?_;generalize (z.x-a.x)/(b.x-a.x)=q at *
   grind
  grind
 ·rw [e];grind
 ·have:b.y-a.y=m*(b.x-a.x):=(by grind);rw [this];generalize (z.x-a.x)/(b.x-a.x)=q at *;have:q*(m*(b.x-a.x))=m*(q*(b.x-a.x)):=(by grind);rw [this,e];exact hz
def CQ(p:Pt)(s:Sg):Prop:=s.a.x<p.x/\p.x<=s.b.x/\Bq s p.x<p.y
def Gf(p:Pt)(s t:Sg):Prop:=Bq t p.x<Bq s p.x∨(Bq s p.x=Bq t p.x/\0<Ar s.b s.a t.a)
theorem aB{p q:Pt}(h1:p.x=q.x)(h2:p.y=q.y):p=q:=by cases p;cases q;simp_all
theorem UX{s t:Sg}(h1:s.a=t.a)(h2:s.b=t.b):s=t:=by cases s;cases t;simp_all
theorem Vf{p:Pt}{s t:Sg}(hs:CQ p s)(ht:CQ p t)(hX:EJ s.a s.b t.a t.b)(hne:s≠t)(hh:Bq s p.x=Bq t p.x):s.b=t.b/\Ar s.b s.a t.a≠0:=by
 obtain⟨s1,s2,-⟩:=hs;obtain⟨t1,t2,-⟩:=ht;have sx:s.a.x<s.b.x:=(by grind);have tx:t.a.x<t.b.x:=(by grind);obtain⟨ms,sb,sh⟩:=zC s sx;obtain⟨mt,tb,th⟩:=zC t tx;rw [sh,th]at hh;clear sh th;generalize p.x=X at *;have ty:t.a.y=s.a.y+ms*(X-s.a.x)-mt*(X-t.a.x):=(by grind);have sy:s.a.y=t.a.y+mt*(X-t.a.x)-ms*(X-s.a.x):=by grind
 have Agx:ms=mt→s.a.x<t.a.x→False:=by
  intro e h;have ho:Et s.a s.b t.a:=O2 (m:=ms) sx (by grind) (by grind) sb (by subst e;grind)
  rcases hX.pc ho with k|k
  ·rw [k]at h;grind
  ·rw [k]at t1;grind
 have Agy:ms=mt→t.a.x<s.a.x→False:=by
  intro e h;have ho:Et t.a t.b s.a:=O2 (m:=mt) tx (by grind) (by grind) tb (by subst e;grind)
  rcases hX.pa ho with k|k
  ·rw [k]at h;grind
  ·rw [k]at s1;grind
 have yL:ms=mt→s.a=t.a:=by
  intro e
  have:s.a.x=t.a.x:=by
   rcases Jm s.a.x t.a.x with h|h|h
   ·exact(Agx e h).elim
   ·exact h
   ·exact(Agy e h).elim
  refine aB this ?_;subst e;rw [this]at hh;grind
 rcases LQ s2 with s3|s3
 ·exfalso
  rcases LQ t2 with t3|t3
  ·by_cases e:ms=mt
   ·have ea:=yL e
    have hb:s.b.x=t.b.x:=by
     rcases Jm s.b.x t.b.x with h|h|h
     ·have ho:Et t.a t.b s.b:=O2 (m:=mt) tx (by grind) (by grind) tb (by subst e;rw [sb,ea])
      rcases hX.pb ho with k|k
      ·rw [k]at s3;grind
      ·rw [k]at h;grind
     ·exact h
     ·have ho:Et s.a s.b t.b:=O2 (m:=ms) sx (by grind) (by grind) sb (by subst e;rw [tb,ea])
      rcases hX.pd ho with k|k
      ·rw [k]at t3;grind
      ·rw [k]at h;grind
    exact hne (UX ea (aB hb (by rw [sb,tb,ea,e,hb])))
   ·have hd:ms-mt≠0:=(by grind);refine hX.px ?_ ?_ ?_ ?_ ?_ ?_
    ·intro k;rw [k]at hh;have:(ms-mt)*(X-t.a.x)=0:=by grind
     rcases Km this with h|h<;>grind
    ·intro k;rw [k]at s1;grind
    ·intro k;rw [k]at s3;grind
    ·intro k;have:(ms-mt)*(t.b.x-X)=0:=by rw [k]at sb;grind
     rcases Km this with h|h<;>grind
    ·have e1:Ar s.a s.b t.a=((s.b.x-s.a.x)*(ms-mt))*(X-t.a.x):=(by unfold Ar;rw [sb,ty];grind);have e2:Ar s.a s.b t.b = -(((s.b.x-s.a.x)*(ms-mt))*(t.b.x-X)):=(by unfold Ar;rw [sb,tb,ty];grind);rw [e1,e2]
     have hn:(s.b.x-s.a.x)*(ms-mt)≠0:=fun h=>by rcases Km h with h|h<;>grind
     generalize (s.b.x-s.a.x)*(ms-mt)=D at *;have:=Rat.mul_pos (zM hn) (Rat.mul_pos (show 0<X-t.a.x by grind) (show 0<t.b.x-X by grind))
     grind
    ·have e1:Ar t.a t.b s.a=((t.b.x-t.a.x)*(mt-ms))*(X-s.a.x):=(by unfold Ar;rw [tb,sy];grind);have e2:Ar t.a t.b s.b = -(((t.b.x-t.a.x)*(mt-ms))*(s.b.x-X)):=(by unfold Ar;rw [tb,sb,sy];grind);rw [e1,e2]
     have hn:(t.b.x-t.a.x)*(mt-ms)≠0:=fun h=>by rcases Km h with h|h<;>grind
     generalize (t.b.x-t.a.x)*(mt-ms)=D at *;have:=Rat.mul_pos (zM hn) (Rat.mul_pos (show 0<X-s.a.x by grind) (show 0<s.b.x-X by grind))
     grind
  ·have ho:Et s.a s.b t.b:=O2 (m:=ms) sx (by grind) (by grind) sb (by grind)
   rcases hX.pd ho with k|k
   ·rw [k]at t3;grind
   ·rw [k]at t3;grind
 ·rcases LQ t2 with t3|t3
  ·exfalso
   have ho:Et t.a t.b s.b:=O2 (m:=mt) tx (by grind) (by grind) tb (by grind)
   rcases hX.pb ho with k|k
   ·rw [k]at s3;grind
   ·rw [k]at s3;grind
  ·have eb:s.b=t.b:=aB (by grind) (by grind);refine⟨eb,?_⟩;intro h0;have e1:Ar s.b s.a t.a=((X-s.a.x)*(X-t.a.x))*(mt-ms):=(by unfold Ar;grind);rw [e1]at h0
   have e:ms=mt:=by
    rcases Km h0 with h|h
    ·rcases Km h with h|h<;>grind
    ·grind
   exact hne (UX (yL e) eb)
def Js(G:List Sg):Prop:=∀s∈G,∀t∈G,s.a.x<s.b.x→t.a.x<t.b.x→s≠t→EJ s.a s.b t.a t.b
theorem sf{G:List Sg}(hG:Js G){p:Pt}{s t:Sg}(hs:s∈G)(ht:t∈G)(cs:CQ p s)(ct:CQ p t)(hne:s≠t):Gf p s t∨Gf p t s:=by
 unfold Gf;have hX:=hG s hs t ht (by unfold CQ at cs;grind) (by unfold CQ at ct;grind) hne
 rcases Jm (Bq s p.x) (Bq t p.x)with h|h|h
 ·exact .inr (.inl h)
 ·obtain⟨e,hn⟩:=Vf cs ct hX hne h;have:=VR s.b s.a t.a;rw [e]at this hn ⊢
  rcases Jm (Ar t.b s.a t.a) 0 with k|k|k
  ·exact .inr (.inr ⟨h.symm,by grind⟩)
  ·exact absurd k hn
  ·exact .inl (.inr ⟨h,k⟩)
 ·exact .inl (.inl h)
theorem r7{G:List Sg}(hG:Js G){p:Pt}{s t:Sg}(hs:s∈G)(ht:t∈G)(cs:CQ p s)(ct:CQ p t)(hne:s≠t)(h1:Gf p s t)(h2:Gf p t s):False:=by
 unfold Gf at h1 h2;have hX:=hG s hs t ht (by unfold CQ at cs;grind) (by unfold CQ at ct;grind) hne
 rcases h1 with h1|⟨e1,h1⟩
 ·rcases h2 with h2|⟨e2,h2⟩<;>grind
 ·rcases h2 with h2|⟨e2,h2⟩
  ·grind
  ·obtain⟨e,hn⟩:=Vf cs ct hX hne e1;have:=VR s.b s.a t.a;rw [e]at this h1
   grind
theorem si{G:List Sg}(hG:Js G){p:Pt}{s t u:Sg}(hs:s∈G)(ht:t∈G)(hu:u∈G)(cs:CQ p s)(ct:CQ p t)(cu:CQ p u)(n1:s≠t)(n2:t≠u)(h1:Gf p s t)(h2:Gf p t u):Gf p s u:=by
 unfold Gf at *
 rcases h1 with h1|⟨e1,h1⟩
 ·left;rcases h2 with h2|⟨e2,h2⟩<;>grind
 ·rcases h2 with h2|⟨e2,h2⟩
  ·left;grind
  ·right
   refine⟨by grind,?_⟩;have X1:=hG s hs t ht (by unfold CQ at cs;grind) (by unfold CQ at ct;grind) n1;have X2:=hG t ht u hu (by unfold CQ at ct;grind) (by unfold CQ at cu;grind) n2;obtain⟨b1,-⟩:=Vf cs ct X1 n1 e1;obtain⟨b2,-⟩:=Vf ct cu X2 n2 e2;obtain⟨c1,c2,-⟩:=cs;obtain⟨d1,d2,-⟩:=ct;obtain⟨f1,f2,-⟩:=cu;rw [←b1]at h2 b2 d2;rw [←b2]at f2;have:=Wl (ux:=s.a.y-s.b.y) (uy:=s.b.x-s.a.x) (vx:=t.a.y-s.b.y) (vy:=s.b.x-t.a.x) (wx:=u.a.y-s.b.y) (wy:=s.b.x-u.a.x) (.inl (by grind)) (.inl (by grind)) (.inl (by grind)) (by unfold Ar at h1;grind) (by unfold Ar at h2;grind);unfold Ar;grind
def Ni(p:Pt)(l:List Sg):Option (Sg×Rat)→Prop
 | none=>∀s∈l,¬CQ p s
 | some (s,h)=>s∈l/\CQ p s/\h=Bq s p.x/\∀t∈l,CQ p t→t=s∨Gf p s t
theorem gI(p:Pt)(s:Sg):CQ p s↔¬0<=AC s.a.x p.x/\¬AC s.b.x p.x<0/\¬0<=AC (Bq s p.x) p.y:=by
 unfold CQ;have h1:=P9 s.a.x p.x;have h2:=P9 s.b.x p.x;have h3:=P9 (Bq s p.x) p.y;constructor
 ·rintro⟨k1,k2,k3⟩;exact⟨by have:=h1.2 k1;omega,fun k=>by have:=h2.1 k;grind,by have:=h3.2 k3;omega⟩
 ·rintro⟨k1,k2,k3⟩;refine⟨h1.1 (by omega),?_,h3.1 (by omega)⟩;have:¬s.b.x<p.x:=fun k=>k2 (h2.2 k)
  grind
theorem sw{G:List Sg}(hG:Js G){p:Pt}{l:List Sg}{st:Option (Sg×Rat)}{s:Sg}(hl:∀t∈l,t∈G)(hs:s∈G)(h:Ni p l st):Ni p (l ++ [s]) (GA p st s):=by
 by_cases hc:CQ p s
 ·have hc':=(gI p s).1 hc;unfold GA;rw [if_neg hc'.1,if_neg hc'.2.1,if_neg hc'.2.2]
  cases st with
  | none=>
   refine⟨by simp,hc,rfl,fun t ht ct=>?_⟩
   rcases List.mem_append.1 ht with ht|ht
   ·exact absurd ct (h t ht)
   ·left;simpa using ht
  | some x=>
   obtain⟨b,hb⟩:=x;obtain⟨m1,m2,m3,m4⟩:=h
   have ei:Gf p s b→Ni p (l ++ [s]) (some (s,Bq s p.x)):=by
    intro JO;refine⟨by simp,hc,rfl,fun t ht ct=>?_⟩
    rcases List.mem_append.1 ht with ht|ht
    ·by_cases e:t=s
     ·exact .inl e
     ·right
      rcases m4 t ht ct with e2|e2
      ·rw [e2];exact JO
      ·by_cases e3:s=b
       ·subst e3;exact e2
       ·by_cases e4:b=t
        ·subst e4;exact JO
        ·exact si hG hs (hl b m1) (hl t ht) hc m2 ct e3 e4 JO e2
    ·left;simpa using ht
   have lost:¬Gf p s b→Ni p (l ++ [s]) (some (b,hb)):=by
    intro JO;refine⟨List.mem_append_left _ m1,m2,m3,fun t ht ct=>?_⟩
    rcases List.mem_append.1 ht with ht|ht
    ·exact m4 t ht ct
    ·obtain rfl:t=s:=(by simpa using ht);by_cases e:t=b
     ·exact .inl e
     ·right
      rcases sf hG hs (hl b m1) hc m2 e with k|k
      ·exact absurd k JO
      ·exact k
   subst m3;simp only
   split
   ·rename_i e
    have e':=(S6 _ _).1 e
    split
    ·rename_i k
     exact ei (.inr ⟨e',(UY _).1 k⟩)
    ·rename_i k
     refine lost ?_;rintro(k2|⟨-,k2⟩)
     ·grind
     ·exact k ((UY _).2 k2)
   ·rename_i e
    have e':Bq s p.x≠Bq b p.x:=fun k=>e ((S6 _ _).2 k)
    split
    ·rename_i k
     exact ei (.inl ((PC _ _).1 k))
    ·rename_i k
     refine lost ?_;rintro(k2|⟨k2,-⟩)
     ·exact k ((PC _ _).2 k2)
     ·exact e' k2
 ·have hst:GA p st s=st:=by
   rw [gI]at hc;unfold GA;by_cases k1:0<=AC s.a.x p.x
   ·rw [if_pos k1]
   ·rw [if_neg k1];by_cases k2:AC s.b.x p.x<0
    ·rw [if_pos k2]
    ·rw [if_neg k2];by_cases k3:0<=AC (Bq s p.x) p.y
     ·rw [if_pos k3]
     ·exact absurd ⟨k1,k2,k3⟩ hc
  rw [hst]
  cases st with
  | none=>
   intro t ht
   rcases List.mem_append.1 ht with ht|ht
   ·exact h t ht
   ·obtain rfl:t=s:=(by simpa using ht);exact hc
  | some x=>
   obtain⟨m1,m2,m3,m4⟩:=h;refine⟨List.mem_append_left _ m1,m2,m3,fun t ht ct=>?_⟩
   rcases List.mem_append.1 ht with ht|ht
   ·exact m4 t ht ct
   ·obtain rfl:t=s:=(by simpa using ht);exact absurd ct hc
theorem VV{G:List Sg}(hG:Js G)(p:Pt)(l:List Sg)(hl:∀t∈l,t∈G):Ni p l (Cz p l):=by
 have main:∀n,n<=l.length→Ni p (l.take n) (Cz p (l.take n)):=by
  intro n
  induction n with
  | zero=>intro _ s hs;simp at hs
  | succ n ih=>intro hn;rw [AjQ (by omega),fN];exact sw hG (fun t ht=>hl t (List.mem_of_mem_take ht)) (hl _ (AjO _)) (ih (by omega))
 have:=main l.length (AjN _)
 rwa [List.take_length]at this
theorem fP{G:List Sg}(hG:Js G)(p:Pt){l l':List Sg}(hp:l.Perm l')(hl:∀t∈l,t∈G):Cz p l=Cz p l':=by
 have h1:=VV hG p l hl;have h2:=VV hG p l' (fun t ht=>hl t (hp.mem_iff.2 ht))
 cases e1:Cz p l with
 | none=>
  rw [e1]at h1
  cases e2:Cz p l' with
  | none=>rfl
  | some y=>
   rw [e2]at h2;exact absurd h2.2.1 (h1 _ (hp.mem_iff.2 h2.1))
 | some x=>
  rw [e1]at h1
  cases e2:Cz p l' with
  | none=>
   rw [e2]at h2;exact absurd h1.2.1 (h2 _ (hp.mem_iff.1 h1.1))
  | some y=>
   rw [e2]at h2;obtain⟨s,hs⟩:=x;obtain⟨t,ht⟩:=y;obtain⟨a1,a2,a3,a4⟩:=h1;obtain⟨b1,b2,b3,b4⟩:=h2
   have hst:s=t:=by refine Classical.byContradiction fun hne=>?_;have k1:=(a4 t (hp.mem_iff.2 b1) b2).resolve_left (Ne.symm hne);have k2:=(b4 s (hp.mem_iff.1 a1) a2).resolve_left hne;exact r7 hG (hl s a1) (hl t (hp.mem_iff.2 b1)) a2 b2 hne k1 k2
   subst hst;rw [a3,b3]
theorem AdB(F:Fence)(n:Nat)(h10:F.fn 200)(hro:F.round=none)(hn:1<=n)(l Bm b:Nat)(L:List (Sg×Int))(J:List Sg→World→Prop)
  (hY:∀pre x W,J pre W→pre.length<L.length→YieldAt F (n-1) Tryz.prog l #[Ax x] W fun e W'=>e=.returned (.bool true)/\J (pre ++ [x]) W'/\KeepsWalks W W')
  (W:World) (hJ:AbidesFrom W.heap.size J) (hm:W.cell? ⟨Bm,0,none⟩=some (.map (some b))) (hb:W.heap[b]?=some (.map (Az Ax (stamp L)).toArray L.length)) (h0:J [] W) :
  CallsIn F n Tryz.prog 200 #[.func (.yield l) #[] #[],.pointer (some ⟨Bm,0,none⟩)] W fun e W'=>(∃v,e=.returned v)/\∃ss:List Sg,ss.Perm (L.map (·.1))/\J ss W':=by
 have hlt:=AjL hb;rw [←CY]at hb;obtain⟨hr1,hr2⟩:=CE.range (enc:=Ax) (E:=stamp L) (t:=160) Tryz.underlying160 (W:=W) (b:=b) hb;have hG:=(Aa.refl W).alloc (.mapIter (some b) (stamp L).length #[] (stamp L).length);have hJ1:=hJ [] W _ none h0 (DJ hG none) (fun r e=>by cases e);have hb1:=(hG.block b hlt).trans hb;refine callsIn_of_wp Tryz.func200 rfl h10 ?_ hro;simp only [Tryz.ntmps200,List.size_toArray,List.length_cons,List.length_nil,Nat.reduceAdd,Nat.reduceSub,Array.replicate_succ,Array.replicate_zero,List.push_toArray,List.append_toArray,List.nil_append,List.cons_append];gi_wp2;generalize W.alloc (.mapIter (some b) (stamp L).length #[] (stamp L).length)=V at *;obtain⟨r,hr⟩:=AjJ W.heap.size;rw [←hr]at hr2 hlt hJ ⊢;clear hr hr1 hG hb hm h0
 gi_loopw [3] (fun _ wr=>∃seen:List Nat,CE wr r b (stamp L) seen/\wr.heap[b]?=some (.map (Az Ax (stamp L)).toArray (stamp L).length)/\J (seen.filterMap (fun i=>L[i]?.map (·.1))) wr)
  (fun _ wr=>L.length-(wr.iterSeen r).size)
 case atStart=>exact⟨[],hr2,hb1,hJ1⟩
 case round=>
  obtain⟨seen,hI,hbr,hJs⟩:=hrel
  rcases CE.next Ax hI hbr (aV L) (by omega) 0 with⟨hlen,hrun⟩|⟨i,hi,FM,W1,DL,hG1,hs1,hrun,hen⟩
  ·have hP:=yO L hI.nd hI.lt hlen;gi_wp2
   go_end0
   exact⟨⟨_,rfl⟩,_,hP,hJs⟩
  ·have Gn:i<L.length:=(by rw [CY]at hi;exact hi);rw [aW,aX]at hrun hen
   have hstep:(seen ++ [i]).filterMap (fun i=>L[i]?.map (·.1))=seen.filterMap (fun i=>L[i]?.map (·.1)) ++ [(L[i]).1]:=by rw [List.filterMap_append];simp only [List.filterMap_cons,List.filterMap_nil,AjS Gn,Option.map_some]
   have hlen':seen.length<L.length:=by
    have h2:(i::seen) ⊆ List.range L.length:=by
     intro j hj
     rcases List.mem_cons.1 hj with rfl|hj
     ·simpa using Gn
     ·have:=hI.lt j hj;rw [CY]at this;simpa using this
    have:=(List.nodup_cons.2 ⟨FM,hI.nd⟩).length_le_of_subset h2;simp at this;omega
   have Dz:=Eo hI;have hJ2:=hJ _ wr W1 (some r) hJs hG1 (fun r' e=>by cases e;exact⟨AjN _,_,hI.it,rfl⟩);have hb2:=(hG1.block b (AjL hbr) (by simp;omega)).trans hbr;have Ej:=hen W1 rfl rfl;obtain⟨s,hs⟩:=AjJ ((L[i]).1);obtain⟨z,hz⟩:=AjJ ((L[i]).2);rw [←hs,←hz]at Ej hrun;rw [←hs]at hstep;have E3:=(Aa.refl W1).alloc (.cells #[S (R s.a.x),S (R s.a.y),S (R s.b.x),S (R s.b.y)] 176);have BX:=AjM W1 (.cells #[S (R s.a.x),S (R s.a.y),S (R s.b.x),S (R s.b.y)] 176);have PS:=hJ _ W1 _ none hJ2 (DJ E3 none) (fun r' e=>by cases e);have hpl:(seen.filterMap (fun i=>L[i]?.map (·.1))).length<L.length:=Nat.lt_of_le_of_lt (List.length_filterMap_le _ _) hlen';obtain⟨fn,tmps,assign,body,hy,hR⟩:=hY _ s _ PS hpl;have Dg:=DL.keep (E3.block r (AjL DL.it));have hb4:=(E3.block b (AjL hb2)).trans hb2;have g0:=Ab (o:=0) BX rfl;have g1:=Ab (o:=1) BX rfl;have g2:=Ab (o:=2) BX rfl;have g3:=Ab (o:=3) BX rfl;clear hs1 hen hs hz BX E3 PS hJ2;unfold Ax at Ej hrun hy;unfold S at hy Ej hrun g0 g1 g2 g3 Dg hb4 hR;gi_wp2;refine hR.mono ?_;rintro e W3 ⟨rfl,hJ3,hk3⟩;gi_wp2;go_roundw
   case rel=>exact⟨seen ++ [i],⟨hk3.same r _ Dg.it rfl,Dg.nd,Dg.lt⟩,hk3.same b _ hb4 rfl,by rw [hstep];exact hJ3⟩
   case measure=>rw [Dz,Eo (W:=W3) (b:=b) (E:=stamp L) (seen:=seen ++ [i]) ⟨hk3.same r _ Dg.it rfl,Dg.nd,Dg.lt⟩,List.length_append,List.length_singleton];omega
theorem AdC(F:Fence)(n:Nat)(h10:F.fn 200)(hro:F.round=none)(hn:1<=n)(Bm b:Nat)(L:List (Sg×Int))(w:World)(hBm:Bm<w.heap.size)
  (hm:w.cell? ⟨Bm,0,none⟩=some (.map (some b))) (hb:w.heap[b]?=some (.map (Az Ax (stamp L)).toArray L.length)) :
  SeqGives F n Tryz.prog 200 #[.pointer (some ⟨Bm,0,none⟩)] Ax (fun ss=>ss.Perm (L.map (·.1))) L.length w:=fun l J W hW hJ hY h0=>
 AdB F n h10 hro hn l Bm b L J hY W hJ ((hW.cell (p:=⟨Bm,0,none⟩) hBm).trans hm) ((hW.block b (AjL hb)).trans hb) h0
end Go.Proofs.YtnfedbopbcegjaaGreatDoor
