/- X32: LGE D7 D2 M17 M21 M22 N3 M23. -/
import Derived.Test.YtjalkoacphhgdaaGreatDoorX31
import Derived.Test.YtjalkoacphhgdaaGreatDoorX04
import Derived.Shelf.SlSortCmp.WholeK
set_option maxRecDepth 100000
set_option maxHeartbeats 4000000
namespace Kl
end Kl
namespace Go.Proofs.YtjalkoacphhgdaaGreatDoor
open Go.RowKit Kl
theorem AiA{B:Nat}{w:World}{r b1 b2:Nat}{L:List (Sg×Int)}{E:List (Pt×Value×Nat)}{R0:List (Pt×List Pt)}(h:Bw B w r b1 b2 L E R0)(bn:Nat)(Ca:w.cell? ⟨bn,0,none⟩=some (.pointer (some ⟨r,0,none⟩)))(l:List Pt)(A:Option Addr)(c:Nat)(hr:Ad w A (flat (Ao l)))(hc:l.length<=c)(hcm:c<=9223372036854775807) :
  Calls Tryz.prog 154 #[.slice A l.length c,.func (.func 83) #[] #[.pointer (some ⟨bn,0,none⟩)]] w fun e w'=>∃n:Int,e=.returned (.int .i64 n)/\(0<=n↔∃p∈l,decide (JV R0 p<2)=true)/\Aa w w':=by
 have fw:=fun (w1:World) (hx:Aa w w1) (p:Pt)=>Afg (h.ext hx) bn (hx.cellS Ca) p;clear h Ca;go_enter Tryz.func154,Tryz.ntmps154;go_wp2
 go_loopw [8] (fun i wr=>∃j:Nat,i=.int .i64 (j:Nat)/\j<=l.length/\(∀p∈l.take j,decide (JV R0 p<2)=false)/\Aa w wr) (fun i _=>l.length-(intOf i).toNat)
 case atStart=>exact⟨0,rfl,by omega,by simp,Aa.refl _⟩
 case round=>
  obtain⟨j,rfl,hj,Aj,Ac⟩:=hrel;have HO:=AqH Aj;clear Aj;by_cases hlt:j<l.length
  ·obtain⟨b,o,rfl,hg1,hg2⟩:=C2 (hr.ext Ac) hlt;obtain⟨p,hp⟩:=AqG (l[j]);rw [←hp]at hg1 hg2;have hmem:p∈l:=(by rw [hp];exact AqL hlt);have HX:=AqH hp;clear hp;have hj0:(0:Int)<=(j:Int):=(by omega);have AV:(j:Int)<(l.length:Int):=(by omega);have bf:=fw wr Ac p;unfold Ak at bf
   cases hL:decide (JV R0 p<2)
   ·rw [hL]at bf;have FW:=AqH hL;clear hL fw;(go_wp2_with fail);(with_reducible refine bf.mono ?_);rintro e w2 ⟨rfl,hx2⟩;go_wp2;go_roundw
    case rel=>
     refine⟨j+1,by go_num,hlt,?_,Ac.trans hx2⟩;intro q hq;rw [AqN hlt,←HX.out]at hq
     rcases List.mem_append.1 hq with h|h
     ·exact HO.out q h
     ·simp only [AqW]at h;rw [h];exact FW.out
    case measure=>simp [intOf];omega
   ·rw [hL]at bf;have FW:=AqH hL;clear hL fw;(go_wp2_with fail);(with_reducible refine bf.mono ?_);rintro e w2 ⟨rfl,hx2⟩;go_wp2;go_ret;exact⟨j,rfl,⟨fun _=>⟨_,hmem,FW.out⟩,fun _=>by omega⟩,Ac.trans hx2⟩
  ·have hle:(l.length:Int)<=(j:Int):=(by omega);clear fw;go_wp2;go_ret;refine⟨-1,rfl,⟨fun h=>by omega,?_⟩,Ac⟩;rintro⟨p,hp,h⟩;have:=HO.out p (by rw [AqS (by omega)];exact hp);rw [this]at h;cases h
def Sp(R0:List (Pt×List Pt))(l:List Pt):Bool:=l.any (fun p=>decide (JV R0 p<2))
theorem Ach{B:Nat}{w:World}{r b1 b2:Nat}{L:List (Sg×Int)}{E:List (Pt×Value×Nat)}{R0:List (Pt×List Pt)}(h:Bw B w r b1 b2 L E R0)(bn:Nat)(Ca:w.cell? ⟨bn,0,none⟩=some (.pointer (some ⟨r,0,none⟩)))(l:List Pt)(A:Option Addr)(c:Nat)(hr:Ad w A (flat (Ao l)))(hc:l.length<=c)(hcm:c<=9223372036854775807) :
  Calls Tryz.prog 82 #[.slice A l.length c,.func (.func 83) #[] #[.pointer (some ⟨bn,0,none⟩)]] w (Bv (Sp R0 l) w):=by
 have ix:=AiA h bn Ca l A c hr hc hcm;clear h Ca hr;go_enter Tryz.func82,Tryz.ntmps82;(go_wp2_with fail);(with_reducible refine ix.mono ?_);rintro e w2 ⟨n,rfl,hn,hx2⟩
 have hd:Sp R0 l=decide (0<=n):=by
  unfold Sp;by_cases h0:0<=n
  ·rw [decide_eq_true h0,List.any_eq_true];exact hn.1 h0
  ·rw [decide_eq_false h0,List.any_eq_false];intro x hx hh;exact h0 (hn.2 ⟨x,hx,hh⟩)
 have HD:=AqH hd;clear hd hn;go_wp2;go_ret;exact⟨by rw [HD.out];rfl,hx2⟩
theorem Ac0{p:Pt}{l:List Sg}(hp:Ee p)(hl:∀s∈l,JL s):∀j,j<=l.length→IT (j*8000000000000) (FD p (l.take j)):=by
 intro j
 induction j with
 | zero=>intro _;exact⟨0,by simp,by simp only [List.take_zero,FD,List.foldl_nil,Rat.intCast_zero];grind⟩
 | succ j ih=>intro hj;rw [rB p l (by omega)];have hs:=hl _ (AqL (show j<l.length by omega));exact((ih (by omega)).add (qZ hp hs.a hs.b)).mono (by omega)
theorem Acz(l:List Sg)(A:Option Addr)(c:Nat)(hl:∀e∈l,JL e)(h0:0<l.length)(hn:l.length<=100000)(hc:l.length<=c)(hcm:c<=9223372036854775807)(w:World)(hw:Am w)(hr:Ad w A (BS l)) :
  Calls Tryz.prog 234 #[.slice A l.length c] w (Bg (R (My l)) w):=by
 have hp:Ee l[0].a:=(hl _ (AqL h0)).a;have p20:(10:Nat)^20<=10^100:=Nat.pow_le_pow_right (by omega) (by omega);have p21:(10:Nat)^20<=10^200:=Nat.pow_le_pow_right (by omega) (by omega);refine Acy l A c (k:=200) (K:=200) (fun e he=>(hl e he).sz (by omega)) (by omega) (by omega) (by omega) (by omega) h0 ?_ ?_ hc hcm (by omega) w hw hr
 ·intro j hj;exact(Ac0 hp hl j hj).sz (by have:=hn;omega) (by omega)
 ·intro j hj;have hs:=hl _ (AqL hj);exact(qZ hp hs.a hs.b).sz (by omega) (by omega)
section
open Go.Sort Go.Shelf
theorem Ank(blk off cap:Nat)(d:Array Way)(w0 w:World)(hw:Am w0)(hx:Aa w0 w)(h0:w0.heap.size<=blk)(hH:HoldsK Gz 4 w blk off d)(hblk:blk<w.heap.size)(hsz:d.size<4611686018427387904) :
  Calls Tryz.prog 191 #[.slice (some ⟨blk,off,none⟩) d.size cap,.func (.func 109) #[] #[]] w fun e w'=>
   e=.returned (.tuple #[])/\∃(d':Array Way) (n:Nat) (os:Array Obj),PermIn 0 d.size d d'/\SortedIn (ltOf Ie) 0 d.size d'/\w'=sortWorldK Gz 4 w blk off n d' os:=by
 have eg:∀args w,(callFunc 109 args).run Tryz.prog w=.ok (.enter 109 args) w:=enters_of Tryz.func109 (by kernel_rfl) rfl;exact AnyQ.slices_SortFunc Tryz.laysSortSg 4 Tryz.isAgg155 Tryz.sizeOf155 Gz Vu AeA Ie Aah 109 #[] blk off cap d w eg (Aok hw hx h0 off d.size) hH hblk hsz
end
section
open Go.Sort
def Kz(l:List Way):List Way:=l.mergeSort (fun x y=>!ltOf Ie y x)
theorem Anq(d d':Array Way)(h1:PermIn 0 d.size d d')(h2:SortedIn (ltOf Ie) 0 d.size d'):d'=(Kz d.toList).toArray:=by
 have h:=sorted_unique_holds (lt:=ltOf Ie) Aah Aol d d' h1 h2;rw [Kz,←h]
theorem yj(blk off cap:Nat)(d:Array Way)(w0 w:World)(hw:Am w0)(hx:Aa w0 w)(h0:w0.heap.size<=blk)(hH:HoldsK Gz 4 w blk off d)(hblk:blk<w.heap.size)(hsz:d.size<4611686018427387904) :
  Calls Tryz.prog 191 #[.slice (some ⟨blk,off,none⟩) d.size cap,.func (.func 109) #[] #[]] w fun e w'=>e=.returned (.tuple #[])/\∃(n:Nat) (os:Array Obj),w'=sortWorldK Gz 4 w blk off n (Kz d.toList).toArray os:=
 (Ank blk off cap d w0 w hw hx h0 hH hblk hsz).mono fun _ _ ⟨he,d',n,os,h1,h2,hw⟩=>⟨he,n,os,by rw [←Anq d d' h1 h2];exact hw⟩
end
theorem jI(mb:Option Nat)(w:World) :
  Calls Tryz.prog 108 #[.map mb] w fun e w'=>e=.returned (.func (.func 192) #[] #[.pointer (some ⟨w.heap.size,0,none⟩)])/\w'=w.alloc (.cells #[.map mb] 131):=by
 go_enter Tryz.func108,Tryz.ntmps108;go_wp2;go_ret;exact⟨rfl,rfl⟩
/-! ### The first way below a place -/
theorem yo{x:Rat}(h:x≠0):0<x*x:=by
 rcases Ku x 0 with k|k|k
 ·have:=Rat.mul_pos (show 0 < -x by grind) (show 0 < -x by grind);grind
 ·exact absurd k h
 ·exact Rat.mul_pos k k
theorem tX{a b:Rat}(h:b≠0):a/b*b=a:=by
 rw [Rat.div_def,Rat.mul_assoc,Rat.mul_comm b⁻¹,Rat.mul_inv_cancel _ h];grind
theorem yb(s:Sg)(h:s.a.x<s.b.x):∃m:Rat,s.b.y=s.a.y+m*(s.b.x-s.a.x)/\∀X,BG s X=s.a.y+m*(X-s.a.x):=by
 have hd:s.b.x-s.a.x≠0:=(by grind);refine⟨(s.b.y-s.a.y)/(s.b.x-s.a.x),?_,?_⟩
 ·rw [tX hd];grind
 ·intro X;unfold BG
  congr 1
  rw [Rat.div_def,Rat.div_def]
  grind
theorem Q9{a b z:Pt}{m:Rat}(h:a.x<b.x)(h1:a.x<=z.x)(h2:z.x<=b.x)(hb:b.y=a.y+m*(b.x-a.x))(hz:z.y=a.y+m*(z.x-a.x)):EX a b z:=by
 have hd:b.x-a.x≠0:=(by grind);have e:=tX (a:=z.x-a.x) hd;refine⟨(z.x-a.x)/(b.x-a.x),?_,?_,?_,?_⟩
 ·refine TT (a:=b.x-a.x) (by grind) ?_;rw [Rat.mul_comm,e];grind
 ·have:0<=1-(z.x-a.x)/(b.x-a.x):=by
   refine TT (a:=b.x-a.x) (by grind) ?_;generalize (z.x-a.x)/(b.x-a.x)=q at *
   grind
  grind
 ·rw [e];grind
 ·have:b.y-a.y=m*(b.x-a.x):=(by grind);rw [this];generalize (z.x-a.x)/(b.x-a.x)=q at *;have:q*(m*(b.x-a.x))=m*(q*(b.x-a.x)):=(by grind);rw [this,e];exact hz
def Df(p:Pt)(s:Sg):Prop:=s.a.x<p.x/\p.x<=s.b.x/\BG s p.x<p.y
def Hj(p:Pt)(s t:Sg):Prop:=BG t p.x<BG s p.x∨(BG s p.x=BG t p.x/\0<Al s.b s.a t.a)
theorem lI{p q:Pt}(h1:p.x=q.x)(h2:p.y=q.y):p=q:=by cases p;cases q;simp_all
theorem Yo{s t:Sg}(h1:s.a=t.a)(h2:s.b=t.b):s=t:=by cases s;cases t;simp_all
theorem Yz{p:Pt}{s t:Sg}(hs:Df p s)(ht:Df p t)(hX:FC s.a s.b t.a t.b)(hne:s≠t)(hh:BG s p.x=BG t p.x):s.b=t.b/\Al s.b s.a t.a≠0:=by
 obtain⟨s1,s2,-⟩:=hs;obtain⟨t1,t2,-⟩:=ht;have sx:s.a.x<s.b.x:=(by grind);have tx:t.a.x<t.b.x:=(by grind);obtain⟨ms,sb,sh⟩:=yb s sx;obtain⟨mt,tb,th⟩:=yb t tx;rw [sh,th]at hh;clear sh th;generalize p.x=X at *;have ty:t.a.y=s.a.y+ms*(X-s.a.x)-mt*(X-t.a.x):=(by grind);have sy:s.a.y=t.a.y+mt*(X-t.a.x)-ms*(X-s.a.x):=by grind
 have AmD:ms=mt→s.a.x<t.a.x→False:=by
  intro e h;have ho:EX s.a s.b t.a:=Q9 (m:=ms) sx (by grind) (by grind) sb (by subst e;grind)
  rcases hX.pc ho with k|k
  ·rw [k]at h;grind
  ·rw [k]at t1;grind
 have AmE:ms=mt→t.a.x<s.a.x→False:=by
  intro e h;have ho:EX t.a t.b s.a:=Q9 (m:=mt) tx (by grind) (by grind) tb (by subst e;grind)
  rcases hX.pa ho with k|k
  ·rw [k]at h;grind
  ·rw [k]at s1;grind
 have xg:ms=mt→s.a=t.a:=by
  intro e
  have:s.a.x=t.a.x:=by
   rcases Ku s.a.x t.a.x with h|h|h
   ·exact(AmD e h).elim
   ·exact h
   ·exact(AmE e h).elim
  refine lI this ?_;subst e;rw [this]at hh;grind
 rcases NB s2 with s3|s3
 ·exfalso
  rcases NB t2 with t3|t3
  ·by_cases e:ms=mt
   ·have ea:=xg e
    have hb:s.b.x=t.b.x:=by
     rcases Ku s.b.x t.b.x with h|h|h
     ·have ho:EX t.a t.b s.b:=Q9 (m:=mt) tx (by grind) (by grind) tb (by subst e;rw [sb,ea])
      rcases hX.pb ho with k|k
      ·rw [k]at s3;grind
      ·rw [k]at h;grind
     ·exact h
     ·have ho:EX s.a s.b t.b:=Q9 (m:=ms) sx (by grind) (by grind) sb (by subst e;rw [tb,ea])
      rcases hX.pd ho with k|k
      ·rw [k]at t3;grind
      ·rw [k]at h;grind
    exact hne (Yo ea (lI hb (by rw [sb,tb,ea,e,hb])))
   ·have hd:ms-mt≠0:=(by grind);refine hX.px ?_ ?_ ?_ ?_ ?_ ?_
    ·intro k;rw [k]at hh;have:(ms-mt)*(X-t.a.x)=0:=by grind
     rcases LU this with h|h<;>grind
    ·intro k;rw [k]at s1;grind
    ·intro k;rw [k]at s3;grind
    ·intro k;have:(ms-mt)*(t.b.x-X)=0:=by rw [k]at sb;grind
     rcases LU this with h|h<;>grind
    ·have e1:Al s.a s.b t.a=((s.b.x-s.a.x)*(ms-mt))*(X-t.a.x):=(by unfold Al;rw [sb,ty];grind);have e2:Al s.a s.b t.b = -(((s.b.x-s.a.x)*(ms-mt))*(t.b.x-X)):=(by unfold Al;rw [sb,tb,ty];grind);rw [e1,e2]
     have hn:(s.b.x-s.a.x)*(ms-mt)≠0:=fun h=>by rcases LU h with h|h<;>grind
     generalize (s.b.x-s.a.x)*(ms-mt)=D at *;have:=Rat.mul_pos (yo hn) (Rat.mul_pos (show 0<X-t.a.x by grind) (show 0<t.b.x-X by grind))
     grind
    ·have e1:Al t.a t.b s.a=((t.b.x-t.a.x)*(mt-ms))*(X-s.a.x):=(by unfold Al;rw [tb,sy];grind);have e2:Al t.a t.b s.b = -(((t.b.x-t.a.x)*(mt-ms))*(s.b.x-X)):=(by unfold Al;rw [tb,sb,sy];grind);rw [e1,e2]
     have hn:(t.b.x-t.a.x)*(mt-ms)≠0:=fun h=>by rcases LU h with h|h<;>grind
     generalize (t.b.x-t.a.x)*(mt-ms)=D at *;have:=Rat.mul_pos (yo hn) (Rat.mul_pos (show 0<X-s.a.x by grind) (show 0<s.b.x-X by grind))
     grind
  ·have ho:EX s.a s.b t.b:=Q9 (m:=ms) sx (by grind) (by grind) sb (by grind)
   rcases hX.pd ho with k|k
   ·rw [k]at t3;grind
   ·rw [k]at t3;grind
 ·rcases NB t2 with t3|t3
  ·exfalso
   have ho:EX t.a t.b s.b:=Q9 (m:=mt) tx (by grind) (by grind) tb (by grind)
   rcases hX.pb ho with k|k
   ·rw [k]at s3;grind
   ·rw [k]at s3;grind
  ·have eb:s.b=t.b:=lI (by grind) (by grind);refine⟨eb,?_⟩;intro h0;have e1:Al s.b s.a t.a=((X-s.a.x)*(X-t.a.x))*(mt-ms):=(by unfold Al;grind);rw [e1]at h0
   have e:ms=mt:=by
    rcases LU h0 with h|h
    ·rcases LU h with h|h<;>grind
    ·grind
   exact hne (Yo (xg e) eb)
def KA(G:List Sg):Prop:=∀s∈G,∀t∈G,s.a.x<s.b.x→t.a.x<t.b.x→s≠t→FC s.a s.b t.a t.b
theorem AcD{G:List Sg}(hG:KA G){p:Pt}{s t:Sg}(hs:s∈G)(ht:t∈G)(cs:Df p s)(ct:Df p t)(hne:s≠t):Hj p s t∨Hj p t s:=by
 unfold Hj;have hX:=hG s hs t ht (by unfold Df at cs;grind) (by unfold Df at ct;grind) hne
 rcases Ku (BG s p.x) (BG t p.x)with h|h|h
 ·exact .inr (.inl h)
 ·obtain⟨e,hn⟩:=Yz cs ct hX hne h;have:=ZC s.b s.a t.a;rw [e]at this hn ⊢
  rcases Ku (Al t.b s.a t.a) 0 with k|k|k
  ·exact .inr (.inr ⟨h.symm,by grind⟩)
  ·exact absurd k hn
  ·exact .inl (.inr ⟨h,k⟩)
 ·exact .inl (.inl h)
theorem AcC{G:List Sg}(hG:KA G){p:Pt}{s t:Sg}(hs:s∈G)(ht:t∈G)(cs:Df p s)(ct:Df p t)(hne:s≠t)(h1:Hj p s t)(h2:Hj p t s):False:=by
 unfold Hj at h1 h2;have hX:=hG s hs t ht (by unfold Df at cs;grind) (by unfold Df at ct;grind) hne
 rcases h1 with h1|⟨e1,h1⟩
 ·rcases h2 with h2|⟨e2,h2⟩<;>grind
 ·rcases h2 with h2|⟨e2,h2⟩
  ·grind
  ·obtain⟨e,hn⟩:=Yz cs ct hX hne e1;have:=ZC s.b s.a t.a;rw [e]at this h1
   grind
theorem AcE{G:List Sg}(hG:KA G){p:Pt}{s t u:Sg}(hs:s∈G)(ht:t∈G)(hu:u∈G)(cs:Df p s)(ct:Df p t)(cu:Df p u)(n1:s≠t)(n2:t≠u)(h1:Hj p s t)(h2:Hj p t u):Hj p s u:=by
 unfold Hj at *
 rcases h1 with h1|⟨e1,h1⟩
 ·left;rcases h2 with h2|⟨e2,h2⟩<;>grind
 ·rcases h2 with h2|⟨e2,h2⟩
  ·left;grind
  ·right
   refine⟨by grind,?_⟩;have X1:=hG s hs t ht (by unfold Df at cs;grind) (by unfold Df at ct;grind) n1;have X2:=hG t ht u hu (by unfold Df at ct;grind) (by unfold Df at cu;grind) n2;obtain⟨b1,-⟩:=Yz cs ct X1 n1 e1;obtain⟨b2,-⟩:=Yz ct cu X2 n2 e2;obtain⟨c1,c2,-⟩:=cs;obtain⟨d1,d2,-⟩:=ct;obtain⟨f1,f2,-⟩:=cu;rw [←b1]at h2 b2 d2;rw [←b2]at f2;have:=ZY (ux:=s.a.y-s.b.y) (uy:=s.b.x-s.a.x) (vx:=t.a.y-s.b.y) (vy:=s.b.x-t.a.x) (wx:=u.a.y-s.b.y) (wy:=s.b.x-u.a.x) (.inl (by grind)) (.inl (by grind)) (.inl (by grind)) (by unfold Al at h1;grind) (by unfold Al at h2;grind);unfold Al;grind
def OV(p:Pt)(l:List Sg):Option (Sg×Rat)→Prop
 | none=>∀s∈l,¬Df p s
 | some (s,h)=>s∈l/\Df p s/\h=BG s p.x/\∀t∈l,Df p t→t=s∨Hj p s t
theorem rW(p:Pt)(s:Sg):Df p s↔¬0<=AU s.a.x p.x/\¬AU s.b.x p.x<0/\¬0<=AU (BG s p.x) p.y:=by
 unfold Df;have h1:=RP s.a.x p.x;have h2:=RP s.b.x p.x;have h3:=RP (BG s p.x) p.y;constructor
 ·rintro⟨k1,k2,k3⟩;exact⟨by have:=h1.2 k1;omega,fun k=>by have:=h2.1 k;grind,by have:=h3.2 k3;omega⟩
 ·rintro⟨k1,k2,k3⟩;refine⟨h1.1 (by omega),?_,h3.1 (by omega)⟩;have:¬s.b.x<p.x:=fun k=>k2 (h2.2 k)
  grind
theorem AcI{G:List Sg}(hG:KA G){p:Pt}{l:List Sg}{st:Option (Sg×Rat)}{s:Sg}(hl:∀t∈l,t∈G)(hs:s∈G)(h:OV p l st):OV p (l ++ [s]) (Iq p st s):=by
 by_cases hc:Df p s
 ·have hc':=(rW p s).1 hc;unfold Iq;rw [if_neg hc'.1,if_neg hc'.2.1,if_neg hc'.2.2]
  cases st with
  | none=>
   refine⟨by simp,hc,rfl,fun t ht ct=>?_⟩
   rcases List.mem_append.1 ht with ht|ht
   ·exact absurd ct (h t ht)
   ·left;simpa using ht
  | some x=>
   obtain⟨b,hb⟩:=x;obtain⟨m1,m2,m3,m4⟩:=h
   have won:Hj p s b→OV p (l ++ [s]) (some (s,BG s p.x)):=by
    intro Gf;refine⟨by simp,hc,rfl,fun t ht ct=>?_⟩
    rcases List.mem_append.1 ht with ht|ht
    ·by_cases e:t=s
     ·exact .inl e
     ·right
      rcases m4 t ht ct with e2|e2
      ·rw [e2];exact Gf
      ·by_cases e3:s=b
       ·subst e3;exact e2
       ·by_cases e4:b=t
        ·subst e4;exact Gf
        ·exact AcE hG hs (hl b m1) (hl t ht) hc m2 ct e3 e4 Gf e2
    ·left;simpa using ht
   have lost:¬Hj p s b→OV p (l ++ [s]) (some (b,hb)):=by
    intro Gf;refine⟨List.mem_append_left _ m1,m2,m3,fun t ht ct=>?_⟩
    rcases List.mem_append.1 ht with ht|ht
    ·exact m4 t ht ct
    ·obtain rfl:t=s:=(by simpa using ht);by_cases e:t=b
     ·exact .inl e
     ·right
      rcases AcD hG hs (hl b m1) hc m2 e with k|k
      ·exact absurd k Gf
      ·exact k
   subst m3;simp only
   split
   ·rename_i e
    have e':=(Vk _ _).1 e
    split
    ·rename_i k
     exact won (.inr ⟨e',(Yp _).1 k⟩)
    ·rename_i k
     refine lost ?_;rintro(k2|⟨-,k2⟩)
     ·grind
     ·exact k ((Yp _).2 k2)
   ·rename_i e
    have e':BG s p.x≠BG b p.x:=fun k=>e ((Vk _ _).2 k)
    split
    ·rename_i k
     exact won (.inl ((RQ _ _).1 k))
    ·rename_i k
     refine lost ?_;rintro(k2|⟨k2,-⟩)
     ·exact k ((RQ _ _).2 k2)
     ·exact e' k2
 ·have hst:Iq p st s=st:=by
   rw [rW]at hc;unfold Iq;by_cases k1:0<=AU s.a.x p.x
   ·rw [if_pos k1]
   ·rw [if_neg k1];by_cases k2:AU s.b.x p.x<0
    ·rw [if_pos k2]
    ·rw [if_neg k2];by_cases k3:0<=AU (BG s p.x) p.y
     ·rw [if_pos k3]
     ·exact absurd ⟨k1,k2,k3⟩ hc
  rw [hst]
  cases st with
  | none=>
   intro t ht
   rcases List.mem_append.1 ht with ht|ht
   ·exact h t ht
   ·obtain rfl:t=s:=(by simpa using ht);exact hc
  | some x=>
   obtain⟨m1,m2,m3,m4⟩:=h;refine⟨List.mem_append_left _ m1,m2,m3,fun t ht ct=>?_⟩
   rcases List.mem_append.1 ht with ht|ht
   ·exact m4 t ht ct
   ·obtain rfl:t=s:=(by simpa using ht);exact absurd ct hc
theorem ZI{G:List Sg}(hG:KA G)(p:Pt)(l:List Sg)(hl:∀t∈l,t∈G):OV p l (Dn p l):=by
 have main:∀n,n<=l.length→OV p (l.take n) (Dn p (l.take n)):=by
  intro n
  induction n with
  | zero=>intro _ s hs;simp at hs
  | succ n ih=>intro hn;rw [AqN (by omega),rH];exact AcI hG (fun t ht=>hl t (List.mem_of_mem_take ht)) (hl _ (AqL _)) (ih (by omega))
 have:=main l.length (AqK _)
 rwa [List.take_length]at this
theorem AcH{G:List Sg}(hG:KA G)(p:Pt){l l':List Sg}(hp:l.Perm l')(hl:∀t∈l,t∈G):Dn p l=Dn p l':=by
 have h1:=ZI hG p l hl;have h2:=ZI hG p l' (fun t ht=>hl t (hp.mem_iff.2 ht))
 cases e1:Dn p l with
 | none=>
  rw [e1]at h1
  cases e2:Dn p l' with
  | none=>rfl
  | some y=>
   rw [e2]at h2;exact absurd h2.2.1 (h1 _ (hp.mem_iff.2 h2.1))
 | some x=>
  rw [e1]at h1
  cases e2:Dn p l' with
  | none=>
   rw [e2]at h2;exact absurd h1.2.1 (h2 _ (hp.mem_iff.1 h1.1))
  | some y=>
   rw [e2]at h2;obtain⟨s,hs⟩:=x;obtain⟨t,ht⟩:=y;obtain⟨a1,a2,a3,a4⟩:=h1;obtain⟨b1,b2,b3,b4⟩:=h2
   have hst:s=t:=by refine Classical.byContradiction fun hne=>?_;have k1:=(a4 t (hp.mem_iff.2 b1) b2).resolve_left (Ne.symm hne);have k2:=(b4 s (hp.mem_iff.1 a1) a2).resolve_left hne;exact AcC hG (hl s a1) (hl t (hp.mem_iff.2 b1)) a2 b2 hne k1 k2
   subst hst;rw [a3,b3]
theorem AiM(F:Fence)(n:Nat)(h10:F.fn 192)(hro:F.round=none)(hn:1<=n)(l Bm b:Nat)(L:List (Sg×Int))(J:List Sg→World→Prop)
  (hY:∀pre x W,J pre W→pre.length<L.length→YieldAt F (n-1) Tryz.prog l #[As x] W fun e W'=>e=.returned (.bool true)/\J (pre ++ [x]) W'/\KeepsWalks W W')
  (W:World) (hJ:AbidesFrom W.heap.size J) (hm:W.cell? ⟨Bm,0,none⟩=some (.map (some b))) (hb:W.heap[b]?=some (.map (AB As (stamp L)).toArray L.length)) (h0:J [] W) :
  CallsIn F n Tryz.prog 192 #[.func (.yield l) #[] #[],.pointer (some ⟨Bm,0,none⟩)] W fun e W'=>(∃v,e=.returned v)/\∃ss:List Sg,ss.Perm (L.map (·.1))/\J ss W':=by
 have hlt:=AqI hb;rw [←D4]at hb;obtain⟨hr1,hr2⟩:=CC.range (enc:=As) (E:=stamp L) (t:=131) Tryz.underlying131 (W:=W) (b:=b) hb;have hG:=(Aa.refl W).alloc (.mapIter (some b) (stamp L).length #[] (stamp L).length);have hJ1:=hJ [] W _ none h0 (G0 hG none) (fun r e=>by cases e);have hb1:=(hG.block b hlt).trans hb;refine callsIn_of_wp Tryz.func192 rfl h10 ?_ hro;simp only [Tryz.ntmps192,List.size_toArray,List.length_cons,List.length_nil,Nat.reduceAdd,Nat.reduceSub,Array.replicate_succ,Array.replicate_zero,List.push_toArray,List.append_toArray,List.nil_append,List.cons_append];gi_wp2;generalize W.alloc (.mapIter (some b) (stamp L).length #[] (stamp L).length)=V at *;obtain⟨r,hr⟩:=AqG W.heap.size;rw [←hr]at hr2 hlt hJ ⊢;clear hr hr1 hG hb hm h0
 gi_loopw [3] (fun _ wr=>∃seen:List Nat,CC wr r b (stamp L) seen/\wr.heap[b]?=some (.map (AB As (stamp L)).toArray (stamp L).length)/\J (seen.filterMap (fun i=>L[i]?.map (·.1))) wr)
  (fun _ wr=>L.length-(wr.iterSeen r).size)
 case atStart=>exact⟨[],hr2,hb1,hJ1⟩
 case round=>
  obtain⟨seen,hI,hbr,hJs⟩:=hrel
  rcases CC.next As hI hbr (mS L) (by omega) 0 with⟨hlen,hrun⟩|⟨i,hi,GA,W1,Gd,hG1,hs1,hrun,hen⟩
  ·have hP:=xk L hI.nd hI.lt hlen;gi_wp2
   go_end0
   exact⟨⟨_,rfl⟩,_,hP,hJs⟩
  ·have Lv:i<L.length:=(by rw [D4]at hi;exact hi);rw [Yu,mU]at hrun hen
   have hstep:(seen ++ [i]).filterMap (fun i=>L[i]?.map (·.1))=seen.filterMap (fun i=>L[i]?.map (·.1)) ++ [(L[i]).1]:=by rw [List.filterMap_append];simp only [List.filterMap_cons,List.filterMap_nil,AqP Lv,Option.map_some]
   have hlen':seen.length<L.length:=by
    have h2:(i::seen) ⊆ List.range L.length:=by
     intro j hj
     rcases List.mem_cons.1 hj with rfl|hj
     ·simpa using Lv
     ·have:=hI.lt j hj;rw [D4]at this;simpa using this
    have:=(List.nodup_cons.2 ⟨GA,hI.nd⟩).length_le_of_subset h2;simp at this;omega
   have Dy:=EO hI;have hJ2:=hJ _ wr W1 (some r) hJs hG1 (fun r' e=>by cases e;exact⟨AqK _,_,hI.it,rfl⟩);have hb2:=(hG1.block b (AqI hbr) (by simp;omega)).trans hbr;have G7:=hen W1 rfl rfl;obtain⟨s,hs⟩:=AqG ((L[i]).1);obtain⟨z,hz⟩:=AqG ((L[i]).2);rw [←hs,←hz]at G7 hrun;rw [←hs]at hstep;have E3:=(Aa.refl W1).alloc (.cells #[S (R s.a.x),S (R s.a.y),S (R s.b.x),S (R s.b.y)] 155);have EF:=AqJ W1 (.cells #[S (R s.a.x),S (R s.a.y),S (R s.b.x),S (R s.b.y)] 155);have S3:=hJ _ W1 _ none hJ2 (G0 E3 none) (fun r' e=>by cases e);have hpl:(seen.filterMap (fun i=>L[i]?.map (·.1))).length<L.length:=Nat.lt_of_le_of_lt (List.length_filterMap_le _ _) hlen';obtain⟨fn,tmps,assign,body,hy,hR⟩:=hY _ s _ S3 hpl;have Dt:=Gd.keep (E3.block r (AqI Gd.it));have hb4:=(E3.block b (AqI hb2)).trans hb2;have g0:=Ab (o:=0) EF rfl;have g1:=Ab (o:=1) EF rfl;have g2:=Ab (o:=2) EF rfl;have g3:=Ab (o:=3) EF rfl;clear hs1 hen hs hz EF E3 S3 hJ2;unfold As at G7 hrun hy;unfold S at hy G7 hrun g0 g1 g2 g3 Dt hb4 hR;gi_wp2;refine hR.mono ?_;rintro e W3 ⟨rfl,hJ3,hk3⟩;gi_wp2;go_roundw
   case rel=>exact⟨seen ++ [i],⟨hk3.same r _ Dt.it rfl,Dt.nd,Dt.lt⟩,hk3.same b _ hb4 rfl,by rw [hstep];exact hJ3⟩
   case measure=>rw [Dy,EO (W:=W3) (b:=b) (E:=stamp L) (seen:=seen ++ [i]) ⟨hk3.same r _ Dt.it rfl,Dt.nd,Dt.lt⟩,List.length_append,List.length_singleton];omega
theorem AiN(F:Fence)(n:Nat)(h10:F.fn 192)(hro:F.round=none)(hn:1<=n)(Bm b:Nat)(L:List (Sg×Int))(w:World)(hBm:Bm<w.heap.size)
  (hm:w.cell? ⟨Bm,0,none⟩=some (.map (some b))) (hb:w.heap[b]?=some (.map (AB As (stamp L)).toArray L.length)) :
  SeqGives F n Tryz.prog 192 #[.pointer (some ⟨Bm,0,none⟩)] As (fun ss=>ss.Perm (L.map (·.1))) L.length w:=fun l J W hW hJ hY h0=>
 AiM F n h10 hro hn l Bm b L J hY W hJ ((hW.cell (p:=⟨Bm,0,none⟩) hBm).trans hm) ((hW.block b (AqI hb)).trans hb) h0
end Go.Proofs.YtjalkoacphhgdaaGreatDoor
