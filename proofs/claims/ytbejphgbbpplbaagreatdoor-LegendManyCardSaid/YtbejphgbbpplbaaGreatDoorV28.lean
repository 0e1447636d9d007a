/- V28: D7 D2 M17 M21 M22 N3 M23. -/
import Derived.Test.YtbejphgbbpplbaaGreatDoorV04
import Derived.Shelf.SlSortCmp.WholeK
import Derived.Test.YtbejphgbbpplbaaGreatDoorV22
import Derived.Test.YtbejphgbbpplbaaGreatDoorV25
import Derived.Sort.MapsRangeIn
set_option maxRecDepth 100000
set_option maxHeartbeats 4000000
namespace Go.Proofs.YtbejphgbbpplbaaGreatDoor
open Go.RowKit Kl
theorem Af9{B:Nat}{w:World}{r b1 b2:Nat}{L:List (Sg×Int)}{E:List (Pt×Value×Nat)}{R0:List (Pt×List Pt)}(h:Bo B w r b1 b2 L E R0)(bn:Nat)(BR:w.cell? ⟨bn,0,none⟩=some (.pointer (some ⟨r,0,none⟩)))(l:List Pt)(A:Option Addr)(c:Nat)(hr:Ae w A (flat (Ao l)))(hc:l.length<=c)(hcm:c<=9223372036854775807) :
  Calls Tryz.prog 153 #[.slice A l.length c,.func (.func 83) #[] #[.pointer (some ⟨bn,0,none⟩)]] w fun e w'=>∃n:Int,e=.returned (.int .i64 n)/\(0<=n↔∃p∈l,decide (J2 R0 p<2)=true)/\Aa w w':=by
 have fw:=fun (w1:World) (hx:Aa w w1) (p:Pt)=>Ac0 (h.ext hx) bn (hx.cellS BR) p;clear h BR;go_enter Tryz.func153,Tryz.ntmps153;go_wp2
 go_loopw [8] (fun i wr=>∃j:Nat,i=.int .i64 (j:Nat)/\j<=l.length/\(∀p∈l.take j,decide (J2 R0 p<2)=false)/\Aa w wr) (fun i _=>l.length-(intOf i).toNat)
 case atStart=>exact⟨0,rfl,by omega,by simp,Aa.refl _⟩
 case round=>
  obtain⟨j,rfl,hj,Aj,Ac⟩:=hrel;have HO:=AmU Aj;clear Aj;by_cases hlt:j<l.length
  ·obtain⟨b,o,rfl,hg1,hg2⟩:=Cy (hr.ext Ac) hlt;obtain⟨p,hp⟩:=AmT (l[j]);rw [←hp]at hg1 hg2;have hmem:p∈l:=(by rw [hp];exact AmY hlt);have HX:=AmU hp;clear hp;have hj0:(0:Int)<=(j:Int):=(by omega);have AV:(j:Int)<(l.length:Int):=(by omega);have bf:=fw wr Ac p;unfold Ak at bf
   cases hL:decide (J2 R0 p<2)
   ·rw [hL]at bf;have FA:=AmU hL;clear hL fw;(go_wp2_with fail);(with_reducible refine bf.mono ?_);rintro e w2 ⟨rfl,hx2⟩;go_wp2;go_roundw
    case rel=>
     refine⟨j+1,by go_num,hlt,?_,Ac.trans hx2⟩;intro q hq;rw [Ana hlt,←HX.out]at hq
     rcases List.mem_append.1 hq with h|h
     ·exact HO.out q h
     ·simp only [Ank]at h;rw [h];exact FA.out
    case measure=>simp [intOf];omega
   ·rw [hL]at bf;have FA:=AmU hL;clear hL fw;(go_wp2_with fail);(with_reducible refine bf.mono ?_);rintro e w2 ⟨rfl,hx2⟩;go_wp2;go_ret;exact⟨j,rfl,⟨fun _=>⟨_,hmem,FA.out⟩,fun _=>by omega⟩,Ac.trans hx2⟩
  ·have hle:(l.length:Int)<=(j:Int):=(by omega);clear fw;go_wp2;go_ret;refine⟨-1,rfl,⟨fun h=>by omega,?_⟩,Ac⟩;rintro⟨p,hp,h⟩;have:=HO.out p (by rw [Ang (by omega)];exact hp);rw [this]at h;cases h
def Rl(R0:List (Pt×List Pt))(l:List Pt):Bool:=l.any (fun p=>decide (J2 R0 p<2))
theorem ze{B:Nat}{w:World}{r b1 b2:Nat}{L:List (Sg×Int)}{E:List (Pt×Value×Nat)}{R0:List (Pt×List Pt)}(h:Bo B w r b1 b2 L E R0)(bn:Nat)(BR:w.cell? ⟨bn,0,none⟩=some (.pointer (some ⟨r,0,none⟩)))(l:List Pt)(A:Option Addr)(c:Nat)(hr:Ae w A (flat (Ao l)))(hc:l.length<=c)(hcm:c<=9223372036854775807) :
  Calls Tryz.prog 82 #[.slice A l.length c,.func (.func 83) #[] #[.pointer (some ⟨bn,0,none⟩)]] w (BC (Rl R0 l) w):=by
 have ix:=Af9 h bn BR l A c hr hc hcm;clear h BR hr;go_enter Tryz.func82,Tryz.ntmps82;(go_wp2_with fail);(with_reducible refine ix.mono ?_);rintro e w2 ⟨n,rfl,hn,hx2⟩
 have hd:Rl R0 l=decide (0<=n):=by
  unfold Rl;by_cases h0:0<=n
  ·rw [decide_eq_true h0,List.any_eq_true];exact hn.1 h0
  ·rw [decide_eq_false h0,List.any_eq_false];intro x hx hh;exact h0 (hn.2 ⟨x,hx,hh⟩)
 have HD:=AmU hd;clear hd hn;go_wp2;go_ret;exact⟨by rw [HD.out];rfl,hx2⟩
theorem Aae{p:Pt}{l:List Sg}(hp:D4 p)(hl:∀s∈l,Ju s):∀j,j<=l.length→Iy (j*8000000000000) (Fo p (l.take j)):=by
 intro j
 induction j with
 | zero=>intro _;exact⟨0,by simp,by simp only [List.take_zero,Fo,List.foldl_nil,Rat.intCast_zero];grind⟩
 | succ j ih=>intro hj;rw [mP p l (by omega)];have hs:=hl _ (AmY (show j<l.length by omega));exact((ih (by omega)).add (mN hp hs.a hs.b)).mono (by omega)
theorem Aad(l:List Sg)(A:Option Addr)(c:Nat)(hl:∀e∈l,Ju e)(h0:0<l.length)(hn:l.length<=100000)(hc:l.length<=c)(hcm:c<=9223372036854775807)(w:World)(hw:An w)(hr:Ae w A (BN l)) :
  Calls Tryz.prog 234 #[.slice A l.length c] w (Bc (R (LL l)) w):=by
 have hp:D4 l[0].a:=(hl _ (AmY h0)).a;have p20:(10:Nat)^20<=10^100:=Nat.pow_le_pow_right (by omega) (by omega);have p21:(10:Nat)^20<=10^200:=Nat.pow_le_pow_right (by omega) (by omega);refine Aac l A c (k:=200) (K:=200) (fun e he=>(hl e he).sz (by omega)) (by omega) (by omega) (by omega) (by omega) h0 ?_ ?_ hc hcm (by omega) w hw hr
 ·intro j hj;exact(Aae hp hl j hj).sz (by have:=hn;omega) (by omega)
 ·intro j hj;have hs:=hl _ (AmY hj);exact(mN hp hs.a hs.b).sz (by omega) (by omega)
section
open Go.Sort Go.Shelf
theorem Aj3(blk off cap:Nat)(d:Array Way)(w0 w:World)(hw:An w0)(hx:Aa w0 w)(h0:w0.heap.size<=blk)(hH:HoldsK Gi 4 w blk off d)(hblk:blk<w.heap.size)(hsz:d.size<4611686018427387904) :
  Calls Tryz.prog 182 #[.slice (some ⟨blk,off,none⟩) d.size cap,.func (.func 109) #[] #[]] w fun e w'=>
   e=.returned (.tuple #[])/\∃(d':Array Way) (n:Nat) (os:Array Obj),PermIn 0 d.size d d'/\SortedIn (ltOf Ha) 0 d.size d'/\w'=sortWorldK Gi 4 w blk off n d' os:=by
 have eg:∀args w,(callFunc 109 args).run Tryz.prog w=.ok (.enter 109 args) w:=enters_of Tryz.func109 (by kernel_rfl) rfl;exact AnyQ.slices_SortFunc Tryz.laysSortSg 4 Tryz.isAgg155 Tryz.sizeOf155 Gi U4 Acb Ha qo 109 #[] blk off cap d w eg (Ak4 hw hx h0 off d.size) hH hblk hsz
end
section
open Go.Sort
def JW(l:List Way):List Way:=l.mergeSort (fun x y=>!ltOf Ha y x)
theorem Aj8(d d':Array Way)(h1:PermIn 0 d.size d d')(h2:SortedIn (ltOf Ha) 0 d.size d'):d'=(JW d.toList).toArray:=by
 have h:=sorted_unique_holds (lt:=ltOf Ha) qo Ak5 d d' h1 h2;rw [JW,←h]
theorem m7(blk off cap:Nat)(d:Array Way)(w0 w:World)(hw:An w0)(hx:Aa w0 w)(h0:w0.heap.size<=blk)(hH:HoldsK Gi 4 w blk off d)(hblk:blk<w.heap.size)(hsz:d.size<4611686018427387904) :
  Calls Tryz.prog 182 #[.slice (some ⟨blk,off,none⟩) d.size cap,.func (.func 109) #[] #[]] w fun e w'=>e=.returned (.tuple #[])/\∃(n:Nat) (os:Array Obj),w'=sortWorldK Gi 4 w blk off n (JW d.toList).toArray os:=
 (Aj3 blk off cap d w0 w hw hx h0 hH hblk hsz).mono fun _ _ ⟨he,d',n,os,h1,h2,hw⟩=>⟨he,n,os,by rw [←Aj8 d d' h1 h2];exact hw⟩
end
theorem eG(mb:Option Nat)(w:World) :
  Calls Tryz.prog 108 #[.map mb] w fun e w'=>e=.returned (.func (.func 183) #[] #[.pointer (some ⟨w.heap.size,0,none⟩)])/\w'=w.alloc (.cells #[.map mb] 131):=by
 go_enter Tryz.func108,Tryz.ntmps108;go_wp2;go_ret;exact⟨rfl,rfl⟩
/-! ### The first way below a place -/
theorem ng{x:Rat}(h:x≠0):0<x*x:=by
 rcases JR x 0 with k|k|k
 ·have:=Rat.mul_pos (show 0 < -x by grind) (show 0 < -x by grind);grind
 ·exact absurd k h
 ·exact Rat.mul_pos k k
theorem pS{a b:Rat}(h:b≠0):a/b*b=a:=by
 rw [Rat.div_def,Rat.mul_assoc,Rat.mul_comm b⁻¹,Rat.mul_inv_cancel _ h];grind
theorem mo(s:Sg)(h:s.a.x<s.b.x):∃m:Rat,s.b.y=s.a.y+m*(s.b.x-s.a.x)/\∀X,BE s X=s.a.y+m*(X-s.a.x):=by
 have hd:s.b.x-s.a.x≠0:=(by grind);refine⟨(s.b.y-s.a.y)/(s.b.x-s.a.x),?_,?_⟩
 ·rw [pS hd];grind
 ·intro X;unfold BE
  congr 1
  rw [Rat.div_def,Rat.div_def]
  grind
theorem PS{a b z:Pt}{m:Rat}(h:a.x<b.x)(h1:a.x<=z.x)(h2:z.x<=b.x)(hb:b.y=a.y+m*(b.x-a.x))(hz:z.y=a.y+m*(z.x-a.x)):EJ a b z:=by
 have hd:b.x-a.x≠0:=(by grind);have e:=pS (a:=z.x-a.x) hd;refine⟨(z.x-a.x)/(b.x-a.x),?_,?_,?_,?_⟩
 ·refine Ta (a:=b.x-a.x) (by grind) ?_;rw [Rat.mul_comm,e];grind
 ·have:0<=1-(z.x-a.x)/(b.x-a.x):=by
   refine Ta (a:=b.x-a.x) (by grind) ?_;generalize (z.x-a.x)/(b.x-a.x)=q at *
   grind
  grind
 ·rw [e];grind
 ·have:b.y-a.y=m*(b.x-a.x):=(by grind);rw [this];generalize (z.x-a.x)/(b.x-a.x)=q at *;have:q*(m*(b.x-a.x))=m*(q*(b.x-a.x)):=(by grind);rw [this,e];exact hz
def CV(p:Pt)(s:Sg):Prop:=s.a.x<p.x/\p.x<=s.b.x/\BE s p.x<p.y
def GH(p:Pt)(s t:Sg):Prop:=BE t p.x<BE s p.x∨(BE s p.x=BE t p.x/\0<Al s.b s.a t.a)
theorem gW{p q:Pt}(h1:p.x=q.x)(h2:p.y=q.y):p=q:=by cases p;cases q;simp_all
theorem WV{s t:Sg}(h1:s.a=t.a)(h2:s.b=t.b):s=t:=by cases s;cases t;simp_all
theorem Xe{p:Pt}{s t:Sg}(hs:CV p s)(ht:CV p t)(hX:Fl s.a s.b t.a t.b)(hne:s≠t)(hh:BE s p.x=BE t p.x):s.b=t.b/\Al s.b s.a t.a≠0:=by
 obtain⟨s1,s2,-⟩:=hs;obtain⟨t1,t2,-⟩:=ht;have sx:s.a.x<s.b.x:=(by grind);have tx:t.a.x<t.b.x:=(by grind);obtain⟨ms,sb,sh⟩:=mo s sx;obtain⟨mt,tb,th⟩:=mo t tx;rw [sh,th]at hh;clear sh th;generalize p.x=X at *;have ty:t.a.y=s.a.y+ms*(X-s.a.x)-mt*(X-t.a.x):=(by grind);have sy:s.a.y=t.a.y+mt*(X-t.a.x)-ms*(X-s.a.x):=by grind
 have Aje:ms=mt→s.a.x<t.a.x→False:=by
  intro e h;have ho:EJ s.a s.b t.a:=PS (m:=ms) sx (by grind) (by grind) sb (by subst e;grind)
  rcases hX.pc ho with k|k
  ·rw [k]at h;grind
  ·rw [k]at t1;grind
 have Ajf:ms=mt→t.a.x<s.a.x→False:=by
  intro e h;have ho:EJ t.a t.b s.a:=PS (m:=mt) tx (by grind) (by grind) tb (by subst e;grind)
  rcases hX.pa ho with k|k
  ·rw [k]at h;grind
  ·rw [k]at s1;grind
 have li:ms=mt→s.a=t.a:=by
  intro e
  have:s.a.x=t.a.x:=by
   rcases JR s.a.x t.a.x with h|h|h
   ·exact(Aje e h).elim
   ·exact h
   ·exact(Ajf e h).elim
  refine gW this ?_;subst e;rw [this]at hh;grind
 rcases MN s2 with s3|s3
 ·exfalso
  rcases MN t2 with t3|t3
  ·by_cases e:ms=mt
   ·have ea:=li e
    have hb:s.b.x=t.b.x:=by
     rcases JR s.b.x t.b.x with h|h|h
     ·have ho:EJ t.a t.b s.b:=PS (m:=mt) tx (by grind) (by grind) tb (by subst e;rw [sb,ea])
      rcases hX.pb ho with k|k
      ·rw [k]at s3;grind
      ·rw [k]at h;grind
     ·exact h
     ·have ho:EJ s.a s.b t.b:=PS (m:=ms) sx (by grind) (by grind) sb (by subst e;rw [tb,ea])
      rcases hX.pd ho with k|k
      ·rw [k]at t3;grind
      ·rw [k]at h;grind
    exact hne (WV ea (gW hb (by rw [sb,tb,ea,e,hb])))
   ·have hd:ms-mt≠0:=(by grind);refine hX.px ?_ ?_ ?_ ?_ ?_ ?_
    ·intro k;rw [k]at hh;have:(ms-mt)*(X-t.a.x)=0:=by grind
     rcases Lq this with h|h<;>grind
    ·intro k;rw [k]at s1;grind
    ·intro k;rw [k]at s3;grind
    ·intro k;have:(ms-mt)*(t.b.x-X)=0:=by rw [k]at sb;grind
     rcases Lq this with h|h<;>grind
    ·have e1:Al s.a s.b t.a=((s.b.x-s.a.x)*(ms-mt))*(X-t.a.x):=(by unfold Al;rw [sb,ty];grind);have e2:Al s.a s.b t.b = -(((s.b.x-s.a.x)*(ms-mt))*(t.b.x-X)):=(by unfold Al;rw [sb,tb,ty];grind);rw [e1,e2]
     have hn:(s.b.x-s.a.x)*(ms-mt)≠0:=fun h=>by rcases Lq h with h|h<;>grind
     generalize (s.b.x-s.a.x)*(ms-mt)=D at *;have:=Rat.mul_pos (ng hn) (Rat.mul_pos (show 0<X-t.a.x by grind) (show 0<t.b.x-X by grind))
     grind
    ·have e1:Al t.a t.b s.a=((t.b.x-t.a.x)*(mt-ms))*(X-s.a.x):=(by unfold Al;rw [tb,sy];grind);have e2:Al t.a t.b s.b = -(((t.b.x-t.a.x)*(mt-ms))*(s.b.x-X)):=(by unfold Al;rw [tb,sb,sy];grind);rw [e1,e2]
     have hn:(t.b.x-t.a.x)*(mt-ms)≠0:=fun h=>by rcases Lq h with h|h<;>grind
     generalize (t.b.x-t.a.x)*(mt-ms)=D at *;have:=Rat.mul_pos (ng hn) (Rat.mul_pos (show 0<X-s.a.x by grind) (show 0<s.b.x-X by grind))
     grind
  ·have ho:EJ s.a s.b t.b:=PS (m:=ms) sx (by grind) (by grind) sb (by grind)
   rcases hX.pd ho with k|k
   ·rw [k]at t3;grind
   ·rw [k]at t3;grind
 ·rcases MN t2 with t3|t3
  ·exfalso
   have ho:EJ t.a t.b s.b:=PS (m:=mt) tx (by grind) (by grind) tb (by grind)
   rcases hX.pb ho with k|k
   ·rw [k]at s3;grind
   ·rw [k]at s3;grind
  ·have eb:s.b=t.b:=gW (by grind) (by grind);refine⟨eb,?_⟩;intro h0;have e1:Al s.b s.a t.a=((X-s.a.x)*(X-t.a.x))*(mt-ms):=(by unfold Al;grind);rw [e1]at h0
   have e:ms=mt:=by
    rcases Lq h0 with h|h
    ·rcases Lq h with h|h<;>grind
    ·grind
   exact hne (WV (li e) eb)
def Kc(G:List Sg):Prop:=∀s∈G,∀t∈G,s.a.x<s.b.x→t.a.x<t.b.x→s≠t→Fl s.a s.b t.a t.b
theorem Aaq{G:List Sg}(hG:Kc G){p:Pt}{s t:Sg}(hs:s∈G)(ht:t∈G)(cs:CV p s)(ct:CV p t)(hne:s≠t):GH p s t∨GH p t s:=by
 unfold GH;have hX:=hG s hs t ht (by unfold CV at cs;grind) (by unfold CV at ct;grind) hne
 rcases JR (BE s p.x) (BE t p.x)with h|h|h
 ·exact .inr (.inl h)
 ·obtain⟨e,hn⟩:=Xe cs ct hX hne h;have:=Yr s.b s.a t.a;rw [e]at this hn ⊢
  rcases JR (Al t.b s.a t.a) 0 with k|k|k
  ·exact .inr (.inr ⟨h.symm,by grind⟩)
  ·exact absurd k hn
  ·exact .inl (.inr ⟨h,k⟩)
 ·exact .inl (.inl h)
theorem Aap{G:List Sg}(hG:Kc G){p:Pt}{s t:Sg}(hs:s∈G)(ht:t∈G)(cs:CV p s)(ct:CV p t)(hne:s≠t)(h1:GH p s t)(h2:GH p t s):False:=by
 unfold GH at h1 h2;have hX:=hG s hs t ht (by unfold CV at cs;grind) (by unfold CV at ct;grind) hne
 rcases h1 with h1|⟨e1,h1⟩
 ·rcases h2 with h2|⟨e2,h2⟩<;>grind
 ·rcases h2 with h2|⟨e2,h2⟩
  ·grind
  ·obtain⟨e,hn⟩:=Xe cs ct hX hne e1;have:=Yr s.b s.a t.a;rw [e]at this h1
   grind
theorem Aar{G:List Sg}(hG:Kc G){p:Pt}{s t u:Sg}(hs:s∈G)(ht:t∈G)(hu:u∈G)(cs:CV p s)(ct:CV p t)(cu:CV p u)(n1:s≠t)(n2:t≠u)(h1:GH p s t)(h2:GH p t u):GH p s u:=by
 unfold GH at *
 rcases h1 with h1|⟨e1,h1⟩
 ·left;rcases h2 with h2|⟨e2,h2⟩<;>grind
 ·rcases h2 with h2|⟨e2,h2⟩
  ·left;grind
  ·right
   refine⟨by grind,?_⟩;have X1:=hG s hs t ht (by unfold CV at cs;grind) (by unfold CV at ct;grind) n1;have X2:=hG t ht u hu (by unfold CV at ct;grind) (by unfold CV at cu;grind) n2;obtain⟨b1,-⟩:=Xe cs ct X1 n1 e1;obtain⟨b2,-⟩:=Xe ct cu X2 n2 e2;obtain⟨c1,c2,-⟩:=cs;obtain⟨d1,d2,-⟩:=ct;obtain⟨f1,f2,-⟩:=cu;rw [←b1]at h2 b2 d2;rw [←b2]at f2;have:=YK (ux:=s.a.y-s.b.y) (uy:=s.b.x-s.a.x) (vx:=t.a.y-s.b.y) (vy:=s.b.x-t.a.x) (wx:=u.a.y-s.b.y) (wy:=s.b.x-u.a.x) (.inl (by grind)) (.inl (by grind)) (.inl (by grind)) (by unfold Al at h1;grind) (by unfold Al at h2;grind);unfold Al;grind
def Om(p:Pt)(l:List Sg):Option (Sg×Rat)→Prop
 | none=>∀s∈l,¬CV p s
 | some (s,h)=>s∈l/\CV p s/\h=BE s p.x/\∀t∈l,CV p t→t=s∨GH p s t
theorem nL(p:Pt)(s:Sg):CV p s↔¬0<=AN s.a.x p.x/\¬AN s.b.x p.x<0/\¬0<=AN (BE s p.x) p.y:=by
 unfold CV;have h1:=QR s.a.x p.x;have h2:=QR s.b.x p.x;have h3:=QR (BE s p.x) p.y;constructor
 ·rintro⟨k1,k2,k3⟩;exact⟨by have:=h1.2 k1;omega,fun k=>by have:=h2.1 k;grind,by have:=h3.2 k3;omega⟩
 ·rintro⟨k1,k2,k3⟩;refine⟨h1.1 (by omega),?_,h3.1 (by omega)⟩;have:¬s.b.x<p.x:=fun k=>k2 (h2.2 k)
  grind
theorem Aav{G:List Sg}(hG:Kc G){p:Pt}{l:List Sg}{st:Option (Sg×Rat)}{s:Sg}(hl:∀t∈l,t∈G)(hs:s∈G)(h:Om p l st):Om p (l ++ [s]) (Hp p st s):=by
 by_cases hc:CV p s
 ·have hc':=(nL p s).1 hc;unfold Hp;rw [if_neg hc'.1,if_neg hc'.2.1,if_neg hc'.2.2]
  cases st with
  | none=>
   refine⟨by simp,hc,rfl,fun t ht ct=>?_⟩
   rcases List.mem_append.1 ht with ht|ht
   ·exact absurd ct (h t ht)
   ·left;simpa using ht
  | some x=>
   obtain⟨b,hb⟩:=x;obtain⟨m1,m2,m3,m4⟩:=h
   have qp:GH p s b→Om p (l ++ [s]) (some (s,BE s p.x)):=by
    intro FN;refine⟨by simp,hc,rfl,fun t ht ct=>?_⟩
    rcases List.mem_append.1 ht with ht|ht
    ·by_cases e:t=s
     ·exact .inl e
     ·right
      rcases m4 t ht ct with e2|e2
      ·rw [e2];exact FN
      ·by_cases e3:s=b
       ·subst e3;exact e2
       ·by_cases e4:b=t
        ·subst e4;exact FN
        ·exact Aar hG hs (hl b m1) (hl t ht) hc m2 ct e3 e4 FN e2
    ·left;simpa using ht
   have lost:¬GH p s b→Om p (l ++ [s]) (some (b,hb)):=by
    intro FN;refine⟨List.mem_append_left _ m1,m2,m3,fun t ht ct=>?_⟩
    rcases List.mem_append.1 ht with ht|ht
    ·exact m4 t ht ct
    ·obtain rfl:t=s:=(by simpa using ht);by_cases e:t=b
     ·exact .inl e
     ·right
      rcases Aaq hG hs (hl b m1) hc m2 e with k|k
      ·exact absurd k FN
      ·exact k
   subst m3;simp only
   split
   ·rename_i e
    have e':=(Uv _ _).1 e
    split
    ·rename_i k
     exact qp (.inr ⟨e',(WW _).1 k⟩)
    ·rename_i k
     refine lost ?_;rintro(k2|⟨-,k2⟩)
     ·grind
     ·exact k ((WW _).2 k2)
   ·rename_i e
    have e':BE s p.x≠BE b p.x:=fun k=>e ((Uv _ _).2 k)
    split
    ·rename_i k
     exact qp (.inl ((QS _ _).1 k))
    ·rename_i k
     refine lost ?_;rintro(k2|⟨k2,-⟩)
     ·exact k ((QS _ _).2 k2)
     ·exact e' k2
 ·have hst:Hp p st s=st:=by
   rw [nL]at hc;unfold Hp;by_cases k1:0<=AN s.a.x p.x
   ·rw [if_pos k1]
   ·rw [if_neg k1];by_cases k2:AN s.b.x p.x<0
    ·rw [if_pos k2]
    ·rw [if_neg k2];by_cases k3:0<=AN (BE s p.x) p.y
     ·rw [if_pos k3]
     ·exact absurd ⟨k1,k2,k3⟩ hc
  rw [hst]
  cases st with
  | none=>
   intro t ht
   rcases List.mem_append.1 ht with ht|ht
   ·exact h t ht
   ·obtain rfl:t=s:=(by simpa using ht);exact hc
  | some x=>
   obtain⟨m1,m2,m3,m4⟩:=h;refine⟨List.mem_append_left _ m1,m2,m3,fun t ht ct=>?_⟩
   rcases List.mem_append.1 ht with ht|ht
   ·exact m4 t ht ct
   ·obtain rfl:t=s:=(by simpa using ht);exact absurd ct hc
theorem Yx{G:List Sg}(hG:Kc G)(p:Pt)(l:List Sg)(hl:∀t∈l,t∈G):Om p l (Df p l):=by
 have main:∀n,n<=l.length→Om p (l.take n) (Df p (l.take n)):=by
  intro n
  induction n with
  | zero=>intro _ s hs;simp at hs
  | succ n ih=>intro hn;rw [Ana (by omega),mV];exact Aav hG (fun t ht=>hl t (List.mem_of_mem_take ht)) (hl _ (AmY _)) (ih (by omega))
 have:=main l.length (AmX _)
 rwa [List.take_length]at this
theorem Aau{G:List Sg}(hG:Kc G)(p:Pt){l l':List Sg}(hp:l.Perm l')(hl:∀t∈l,t∈G):Df p l=Df p l':=by
 have h1:=Yx hG p l hl;have h2:=Yx hG p l' (fun t ht=>hl t (hp.mem_iff.2 ht))
 cases e1:Df p l with
 | none=>
  rw [e1]at h1
  cases e2:Df p l' with
  | none=>rfl
  | some y=>
   rw [e2]at h2;exact absurd h2.2.1 (h1 _ (hp.mem_iff.2 h2.1))
 | some x=>
  rw [e1]at h1
  cases e2:Df p l' with
  | none=>
   rw [e2]at h2;exact absurd h1.2.1 (h2 _ (hp.mem_iff.1 h1.1))
  | some y=>
   rw [e2]at h2;obtain⟨s,hs⟩:=x;obtain⟨t,ht⟩:=y;obtain⟨a1,a2,a3,a4⟩:=h1;obtain⟨b1,b2,b3,b4⟩:=h2
   have hst:s=t:=by refine Classical.byContradiction fun hne=>?_;have k1:=(a4 t (hp.mem_iff.2 b1) b2).resolve_left (Ne.symm hne);have k2:=(b4 s (hp.mem_iff.1 a1) a2).resolve_left hne;exact Aap hG (hl s a1) (hl t (hp.mem_iff.2 b1)) a2 b2 hne k1 k2
   subst hst;rw [a3,b3]
theorem AfL(F:Fence)(n:Nat)(h10:F.fn 183)(hro:F.round=none)(hn:1<=n)(l Bm b:Nat)(L:List (Sg×Int))(J:List Sg→World→Prop)
  (hY:∀pre x W,J pre W→pre.length<L.length→YieldAt F (n-1) Tryz.prog l #[As x] W fun e W'=>e=.returned (.bool true)/\J (pre ++ [x]) W'/\KeepsWalks W W')
  (W:World) (hJ:AbidesFrom W.heap.size J) (hm:W.cell? ⟨Bm,0,none⟩=some (.map (some b))) (hb:W.heap[b]?=some (.map (Aw As (stamp L)).toArray L.length)) (h0:J [] W) :
  CallsIn F n Tryz.prog 183 #[.func (.yield l) #[] #[],.pointer (some ⟨Bm,0,none⟩)] W fun e W'=>(∃v,e=.returned v)/\∃ss:List Sg,ss.Perm (L.map (·.1))/\J ss W':=by
 have hlt:=AmV hb;rw [←Dp]at hb;obtain⟨hr1,hr2⟩:=C5.range (enc:=As) (E:=stamp L) (t:=131) Tryz.underlying131 (W:=W) (b:=b) hb;have hG:=(Aa.refl W).alloc (.mapIter (some b) (stamp L).length #[] (stamp L).length);have hJ1:=hJ [] W _ none h0 (Gj hG none) (fun r e=>by cases e);have hb1:=(hG.block b hlt).trans hb;refine callsIn_of_wp Tryz.func183 rfl h10 ?_ hro;simp only [Tryz.ntmps183,List.size_toArray,List.length_cons,List.length_nil,Nat.reduceAdd,Nat.reduceSub,Array.replicate_succ,Array.replicate_zero,List.push_toArray,List.append_toArray,List.nil_append,List.cons_append];gi_wp2;generalize W.alloc (.mapIter (some b) (stamp L).length #[] (stamp L).length)=V at *;obtain⟨r,hr⟩:=AmT W.heap.size;rw [←hr]at hr2 hlt hJ ⊢;clear hr hr1 hG hb hm h0
 gi_loopw [3] (fun _ wr=>∃seen:List Nat,C5 wr r b (stamp L) seen/\wr.heap[b]?=some (.map (Aw As (stamp L)).toArray (stamp L).length)/\J (seen.filterMap (fun i=>L[i]?.map (·.1))) wr)
  (fun _ wr=>L.length-(wr.iterSeen r).size)
 case atStart=>exact⟨[],hr2,hb1,hJ1⟩
 case round=>
  obtain⟨seen,hI,hbr,hJs⟩:=hrel
  rcases C5.next As hI hbr (jE L) (by omega) 0 with⟨hlen,hrun⟩|⟨i,hi,Gx,W1,FI,hG1,hs1,hrun,hen⟩
  ·have hP:=lw L hI.nd hI.lt hlen;gi_wp2
   go_end0
   exact⟨⟨_,rfl⟩,_,hP,hJs⟩
  ·have KJ:i<L.length:=(by rw [Dp]at hi;exact hi);rw [Xa,jG]at hrun hen
   have hstep:(seen ++ [i]).filterMap (fun i=>L[i]?.map (·.1))=seen.filterMap (fun i=>L[i]?.map (·.1)) ++ [(L[i]).1]:=by rw [List.filterMap_append];simp only [List.filterMap_cons,List.filterMap_nil,Anc KJ,Option.map_some]
   have hlen':seen.length<L.length:=by
    have h2:(i::seen) ⊆ List.range L.length:=by
     intro j hj
     rcases List.mem_cons.1 hj with rfl|hj
     ·simpa using KJ
     ·have:=hI.lt j hj;rw [Dp]at this;simpa using this
    have:=(List.nodup_cons.2 ⟨Gx,hI.nd⟩).length_le_of_subset h2;simp at this;omega
   have Dn:=Ey hI;have hJ2:=hJ _ wr W1 (some r) hJs hG1 (fun r' e=>by cases e;exact⟨AmX _,_,hI.it,rfl⟩);have hb2:=(hG1.block b (AmV hbr) (by simp;omega)).trans hbr;have Gs:=hen W1 rfl rfl;obtain⟨s,hs⟩:=AmT ((L[i]).1);obtain⟨z,hz⟩:=AmT ((L[i]).2);rw [←hs,←hz]at Gs hrun;rw [←hs]at hstep;have E3:=(Aa.refl W1).alloc (.cells #[S (R s.a.x),S (R s.a.y),S (R s.b.x),S (R s.b.y)] 155);have Er:=AmW W1 (.cells #[S (R s.a.x),S (R s.a.y),S (R s.b.x),S (R s.b.y)] 155);have Ry:=hJ _ W1 _ none hJ2 (Gj E3 none) (fun r' e=>by cases e);have hpl:(seen.filterMap (fun i=>L[i]?.map (·.1))).length<L.length:=Nat.lt_of_le_of_lt (List.length_filterMap_le _ _) hlen';obtain⟨fn,tmps,assign,body,hy,hR⟩:=hY _ s _ Ry hpl;have Dj:=FI.keep (E3.block r (AmV FI.it));have hb4:=(E3.block b (AmV hb2)).trans hb2;have g0:=Ab (o:=0) Er rfl;have g1:=Ab (o:=1) Er rfl;have g2:=Ab (o:=2) Er rfl;have g3:=Ab (o:=3) Er rfl;clear hs1 hen hs hz Er E3 Ry hJ2;unfold As at Gs hrun hy;unfold S at hy Gs hrun g0 g1 g2 g3 Dj hb4 hR;gi_wp2;refine hR.mono ?_;rintro e W3 ⟨rfl,hJ3,hk3⟩;gi_wp2;go_roundw
   case rel=>exact⟨seen ++ [i],⟨hk3.same r _ Dj.it rfl,Dj.nd,Dj.lt⟩,hk3.same b _ hb4 rfl,by rw [hstep];exact hJ3⟩
   case measure=>rw [Dn,Ey (W:=W3) (b:=b) (E:=stamp L) (seen:=seen ++ [i]) ⟨hk3.same r _ Dj.it rfl,Dj.nd,Dj.lt⟩,List.length_append,List.length_singleton];omega
theorem AfM(F:Fence)(n:Nat)(h10:F.fn 183)(hro:F.round=none)(hn:1<=n)(Bm b:Nat)(L:List (Sg×Int))(w:World)(hBm:Bm<w.heap.size)
  (hm:w.cell? ⟨Bm,0,none⟩=some (.map (some b))) (hb:w.heap[b]?=some (.map (Aw As (stamp L)).toArray L.length)) :
  SeqGives F n Tryz.prog 183 #[.pointer (some ⟨Bm,0,none⟩)] As (fun ss=>ss.Perm (L.map (·.1))) L.length w:=fun l J W hW hJ hY h0=>
 AfL F n h10 hro hn l Bm b L J hY W hJ ((hW.cell (p:=⟨Bm,0,none⟩) hBm).trans hm) ((hW.block b (AmV hb)).trans hb) h0
end Go.Proofs.YtbejphgbbpplbaaGreatDoor
