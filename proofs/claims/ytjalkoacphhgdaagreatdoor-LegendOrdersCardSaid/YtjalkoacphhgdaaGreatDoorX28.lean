/- X28: Q8 Q9 QD LG8 LG9 LO1 D5 LGO. -/
import Derived.Test.YtjalkoacphhgdaaGreatDoorX26
import Derived.Test.YtjalkoacphhgdaaGreatDoorX10
import Derived.Test.YtjalkoacphhgdaaGreatDoorX27
set_option maxRecDepth 100000
set_option maxHeartbeats 8000000
namespace Go.Proofs.YtjalkoacphhgdaaGreatDoor
open Go.RowKit Kl
def NM(n:Nat)(l:List Hf):Prop:=∀h∈l,EY h.a/\EY h.b/\h.a≠h.b/\-1<=h.l/\h.l<(n:Int)
theorem NM.ok{n:Nat}{l:List Hf}(h:NM n l):Aby l:=fun x hx=>⟨(h x hx).1,(h x hx).2.1⟩
theorem NM.back{n:Nat}{l:List Hf}(h:NM n l)(x:Hf):-1<=RH l x/\RH l x<(n:Int):=by
 rcases Ac9 l x with e|⟨y,hy,e⟩
 ·rw [e];omega
 ·rw [e];exact⟨(h y hy).2.2.2.1,(h y hy).2.2.2.2⟩
def dst(p q:Pt):Nat:=((p.x*2).floor-(q.x*2).floor).natAbs+((p.y*2).floor-(q.y*2).floor).natAbs
structure KI(w:World)(A:Option Addr)(c:Nat)(P:List (List Pt×Bs)):Prop where
 c1:P.length<=c
 c2:c<=9223372036854775807
 row:∀j (h:j<P.length),∃b o A' c',A=some ⟨b,o,none⟩/\w.cell? ⟨b,o+j*3,none⟩=some (.slice A' P[j].1.length c')/\w.cell? ⟨b,o+j*3+1,none⟩=some (S P[j].2)/\w.cell? ⟨b,o+j*3+2,none⟩=some (.slice none 0 0)/\Ad w A' (flat (Ao P[j].1))/\P[j].1.length<=c'/\c'<=9223372036854775807
theorem KI.ext{w w':World}{A:Option Addr}{c:Nat}{P:List (List Pt×Bs)}(h:KI w A c P)(hx:Aa w w'):KI w' A c P:=
 ⟨h.c1,h.c2,fun j hj=>by
  obtain⟨b,o,A',c',h1,h2,h3,h4,h5,h6,h7⟩:=h.row j hj
  exact⟨b,o,A',c',h1,hx.cellS h2,hx.cellS h3,hx.cellS h4,h5.ext hx,h6,h7⟩⟩
theorem TI{g:FuncId}{cb:Array Value}(eg:∀args w,(callFunc g args).run Tryz.prog w=.ok (.enter g args) w)(p:La→Bool)(l:List La)(A:Option Addr)(c:Nat)(w:World)(hr:Ad w A (Bo l))(hc:l.length<=c)(hcm:c<=9223372036854775807)
  (hp:∀e∈l,∀W,Aa w W→Calls Tryz.prog g (#[FN e]++cb) W (Bv (p e) W)) :
  Calls Tryz.prog 59 #[.slice A l.length c,.func (.func g) #[] cb] w (Ax (C5 p l) w):=by
 obtain⟨r,hr0⟩:=AqG (C5 p l);rw [←hr0];have HR:=AqH hr0;have HP:=AqH hp;clear hr0 hp;go_enter Tryz.func59,Tryz.ntmps59;go_wp2
 go_loopw [8] (fun i wr=>∃j:Nat,i=.int .i64 (j:Nat)/\j<=l.length/\(∀q∈l.take j,p q=false)/\Aa w wr) (fun i _=>l.length-(intOf i).toNat)
 case atStart=>exact⟨0,rfl,by omega,by simp,Aa.refl _⟩
 case round=>
  obtain⟨j,rfl,hj,Aj,Ac⟩:=hrel;have HO:=AqH Aj;clear Aj;by_cases hlt:j<l.length
  ·obtain⟨b,o,rfl,hg1,hg2,hg3⟩:=lO (hr.ext Ac) hlt;obtain⟨q,hq⟩:=AqG (l[j]);have bf:=HP.out l[j] (AqL hlt) wr Ac;rw [←hq]at hg1 hg2 hg3 bf;unfold FN at bf;have hj0:(0:Int)<=(j:Int):=(by omega);have AV:(j:Int)<(l.length:Int):=(by omega);have HQ:=AqH hq;clear hq
   cases e0:p q
   ·have HE:=AqH e0;rw [e0]at bf;clear e0;(go_wp2_with fail);(with_reducible refine bf.mono ?_);rintro e w2 ⟨rfl,hx2⟩;go_wp2;go_roundw
    case rel=>
     refine⟨j+1,by go_num,hlt,?_,Ac.trans hx2⟩;intro x hx;rw [AqN hlt,←HQ.out]at hx
     rcases List.mem_append.1 hx with h|h
     ·exact HO.out x h
     ·simp only [AqW]at h;rw [h];exact HE.out
    case measure=>simp [intOf];omega
   ·have Er:r=(j:Int):=(by rw [HR.out];exact jA hlt HO.out (by rw [←HQ.out];exact e0));rw [e0]at bf;clear e0;subst Er;(go_wp2_with fail);(with_reducible refine bf.mono ?_);rintro e w2 ⟨rfl,hx2⟩;go_wp2;go_ret;exact⟨rfl,Ac.trans hx2⟩
  ·have hle:(l.length:Int)<=(j:Int):=(by omega);have Er:r = -1:=(by rw [HR.out];exact TJ (by have:=HO.out;rw [AqS (by omega)]at this;exact this));subst Er;go_wp2;go_ret;exact⟨rfl,Ac⟩
theorem Aci{g:FuncId}{cb:Array Value}(eg:∀args w,(callFunc g args).run Tryz.prog w=.ok (.enter g args) w)(p:La→Bool)(l:List La)(A:Option Addr)(c:Nat)(w:World)(hr:Ad w A (Bo l))(hc:l.length<=c)(hcm:c<=9223372036854775807)
  (hp:∀e∈l,∀W,Aa w W→Calls Tryz.prog g (#[FN e]++cb) W (Bv (p e) W)) :
  Calls Tryz.prog 54 #[.slice A l.length c,.func (.func g) #[] cb] w (Bv (l.any p) w):=by
 have ix:=TI eg p l A c w hr hc hcm hp;have ha:=iZ p l;obtain⟨r,hr0⟩:=AqG (l.any p);rw [←hr0]at ha ⊢;generalize C5 p l=z at *;clear hr hr0 hp eg;go_enter Tryz.func54,Tryz.ntmps54;(go_wp2_with fail);(with_reducible refine ix.mono ?_);rintro e w1 ⟨rfl,hx⟩;go_wp2;go_ret;exact⟨by rw [←ha];rfl,hx⟩
theorem kx{g:FuncId}{cb:Array Value}(eg:∀args w,(callFunc g args).run Tryz.prog w=.ok (.enter g args) w)(p:Bs→Bool)(l:List Bs)(A:Option Addr)(c:Nat)(w:World)(hr:Ad w A (l.map S))(hc:l.length<=c)(hcm:c<=9223372036854775807)
  (hp:∀e∈l,∀W,Aa w W→Calls Tryz.prog g (#[S e]++cb) W (Bv (p e) W)) :
  Calls Tryz.prog 94 #[.slice A l.length c,.func (.func g) #[] cb] w (Ax (C5 p l) w):=by
 obtain⟨r,hr0⟩:=AqG (C5 p l);rw [←hr0];have HR:=AqH hr0;have HP:=AqH hp;clear hr0 hp;go_enter Tryz.func94,Tryz.ntmps94;go_wp2
 go_loopw [8] (fun i wr=>∃j:Nat,i=.int .i64 (j:Nat)/\j<=l.length/\(∀q∈l.take j,p q=false)/\Aa w wr) (fun i _=>l.length-(intOf i).toNat)
 case atStart=>exact⟨0,rfl,by omega,by simp,Aa.refl _⟩
 case round=>
  obtain⟨j,rfl,hj,Aj,Ac⟩:=hrel;have HO:=AqH Aj;clear Aj;by_cases hlt:j<l.length
  ·obtain⟨b,o,rfl,hcs⟩:=(hr.ext Ac).ad (by simp;omega);have hg1:=hcs j (by simpa using hlt);rw [List.getElem_map]at hg1;clear hcs;obtain⟨q,hq⟩:=AqG (l[j]);have bf:=HP.out l[j] (AqL hlt) wr Ac;rw [←hq]at hg1 bf;have hj0:(0:Int)<=(j:Int):=(by omega);have AV:(j:Int)<(l.length:Int):=(by omega);have HQ:=AqH hq;clear hq
   cases e0:p q
   ·have HE:=AqH e0;rw [e0]at bf;clear e0;(go_wp2_with fail);(with_reducible refine bf.mono ?_);rintro e w2 ⟨rfl,hx2⟩;go_wp2;go_roundw
    case rel=>
     refine⟨j+1,by go_num,hlt,?_,Ac.trans hx2⟩;intro x hx;rw [AqN hlt,←HQ.out]at hx
     rcases List.mem_append.1 hx with h|h
     ·exact HO.out x h
     ·simp only [AqW]at h;rw [h];exact HE.out
    case measure=>simp [intOf];omega
   ·have Er:r=(j:Int):=(by rw [HR.out];exact jA hlt HO.out (by rw [←HQ.out];exact e0));rw [e0]at bf;clear e0;subst Er;(go_wp2_with fail);(with_reducible refine bf.mono ?_);rintro e w2 ⟨rfl,hx2⟩;go_wp2;go_ret;exact⟨rfl,Ac.trans hx2⟩
  ·have hle:(l.length:Int)<=(j:Int):=(by omega);have Er:r = -1:=(by rw [HR.out];exact TJ (by have:=HO.out;rw [AqS (by omega)]at this;exact this));subst Er;go_wp2;go_ret;exact⟨rfl,Ac⟩
theorem Acj{g:FuncId}{cb:Array Value}(eg:∀args w,(callFunc g args).run Tryz.prog w=.ok (.enter g args) w)(p:Bs→Bool)(l:List Bs)(A:Option Addr)(c:Nat)(w:World)(hr:Ad w A (l.map S))(hc:l.length<=c)(hcm:c<=9223372036854775807)
  (hp:∀e∈l,∀W,Aa w W→Calls Tryz.prog g (#[S e]++cb) W (Bv (p e) W)) :
  Calls Tryz.prog 37 #[.slice A l.length c,.func (.func g) #[] cb] w (Bv (l.any p) w):=by
 have ix:=kx eg p l A c w hr hc hcm hp;have ha:=iZ p l;obtain⟨r,hr0⟩:=AqG (l.any p);rw [←hr0]at ha ⊢;generalize C5 p l=z at *;clear hr hr0 hp eg;go_enter Tryz.func37,Tryz.ntmps37;(go_wp2_with fail);(with_reducible refine ix.mono ?_);rintro e w1 ⟨rfl,hx⟩;go_wp2;go_ret;exact⟨by rw [←ha];rfl,hx⟩
theorem AdK(x:La)(u:Bs)(b:Nat)(w:World)(hb:w.cell? ⟨b,0,none⟩=some (S u)) :
  Calls Tryz.prog 97 #[FN x,.pointer (some ⟨b,0,none⟩)] w (Bv (x.u == u) w):=by
 have hx:=(Aa.refl w).alloc (.cells #[S x.u,S x.mn,S x.mx] 31);have j1:=hx.cellS hb;unfold FN;clear hb;go_enter Tryz.func97,Tryz.ntmps97;go_wp2;go_ret;exact⟨rfl,hx⟩
theorem AeI:∀args w,(callFunc 97 args).run Tryz.prog w=.ok (.enter 97 args) w:=enters_of Tryz.func97 (by kernel_rfl) rfl
theorem Aln(c:List La)(A:Option Addr)(cc bc:Nat)(w:World)(hb:w.cell? ⟨bc,0,none⟩=some (.slice A c.length cc))(hr:Ad w A (Bo c))(h1:c.length<=cc)(h2:cc<=9223372036854775807)(u:Bs) :
  Calls Tryz.prog 96 #[S u,.pointer (some ⟨bc,0,none⟩)] w (Ax (AP c u) w):=by
 have hB:=AqJ w (.cells #[S u] 9);have hE:=(Aa.refl w).alloc (.cells #[S u] 9);have j1:=hE.cellS hb
 have ix:=TI (cb:=#[.pointer (some ⟨w.heap.size,0,none⟩)]) AeI (fun e=>e.u == u) c A cc (w.alloc (.cells #[S u] 9)) (hr.ext hE) h1 h2
  (fun e _ W hx=>AdK e u _ W (Ab (o:=0) ((hx.block _ (AqI hB)).trans hB) rfl))
 unfold AP;clear hr hB hb;go_enter Tryz.func96,Tryz.ntmps96;(go_wp2_with fail);(with_reducible refine ix.mono ?_);rintro e w1 ⟨rfl,hx⟩;go_wp2;go_ret;exact⟨rfl,hE.trans hx⟩
theorem Adj(x y:Int)(w:World):Calls Tryz.prog 99 #[.int .i64 x,.int .i64 y] w (Ax (Do x y) w):=by
 unfold Do;by_cases h1:x<y
 ·rw [if_pos h1];go_enter Tryz.func99,Tryz.ntmps99;go_wp2;go_ret;exact⟨rfl,Aa.refl _⟩
 ·rw [if_neg h1];by_cases h2:y<x
  ·rw [if_pos h2];go_enter Tryz.func99,Tryz.ntmps99;go_wp2;go_ret;exact⟨rfl,Aa.refl _⟩
  ·rw [if_neg h2];go_enter Tryz.func99,Tryz.ntmps99;go_wp2;go_ret;exact⟨rfl,Aa.refl _⟩
theorem ZW(c:List La)(A:Option Addr)(cc:Nat)(w:World)(hr:Ad w A (Bo c))(h1:c.length<=cc)(h2:cc<=9223372036854775807)(a b:Bs) :
  Calls Tryz.prog 42 #[.slice A c.length cc,S a,S b] w (Ax (BB c a b) w):=by
 have hB:=AqJ w (.cells #[.slice A c.length cc] 32);have hE:=(Aa.refl w).alloc (.cells #[.slice A c.length cc] 32);have pl:=fun (W:World) (hx:Aa (w.alloc (.cells #[.slice A c.length cc] 32)) W) (u:Bs)=>Aln c A cc w.heap.size W (Ab (o:=0) ((hx.block _ (AqI hB)).trans hB) rfl) ((hr.ext hE).ext hx) h1 h2 u;have c3:=tC a b;obtain⟨r,hr0⟩:=AqG (BB c a b);rw [←hr0]
 have hr1:r=if Do (AP c b) (AP c a)≠0 then Do (AP c b) (AP c a)else Lib.compareBytes a b:=hr0
 have c2:=Adj (AP c b) (AP c a);have p1:=fun W hx=>pl W hx b;have p2:=fun W hx=>pl W hx a;generalize AP c b=z1 at *;generalize AP c a=z2 at *;generalize Do z1 z2=z3 at *;generalize Lib.compareBytes a b=z4 at *
 have N5:∀(b o:Nat) (w:World),w.cell? ⟨b,o,none⟩=some (.int .i64 z3)→w.cell? ⟨b,o+1,none⟩=some (.int .i64 z4)→Calls Tryz.prog 98 #[.slice (some ⟨b,o,none⟩) 2 2] w (Ax r w):=by intro b o w h1 h2;rw [hr1];exact XT z3 z4 b o w h1 h2
 clear pl hr hB hr0 hr1;go_enter Tryz.func42,Tryz.ntmps42;(go_wp2_with fail);(with_reducible refine(p1 _ (Aa.refl _)).mono ?_);rintro e w1 ⟨rfl,hx1⟩;(go_wp2_with fail);(with_reducible refine(p2 _ hx1).mono ?_);rintro e w2 ⟨rfl,hx2⟩;replace hx1:=hx1.trans hx2;(go_wp2_with fail);(with_reducible refine(c2 _).mono ?_);rintro e w3 ⟨rfl,hx3⟩;replace hx1:=hx1.trans hx3;(go_wp2_with fail);(with_reducible refine(c3 _).mono ?_);rintro e w4 ⟨rfl,Ai⟩;replace hx1:=hx1.trans Ai;have hL:=AqJ w4 (.cells #[.int .i64 z3,.int .i64 z4] 68);have hN:=(Aa.refl w4).alloc (.cells #[.int .i64 z3,.int .i64 z4] 3);have o1:=N5 w4.heap.size 0 (w4.alloc (.cells #[.int .i64 z3,.int .i64 z4] 3)) (Ab (AqJ w4 _) rfl) (Ab (AqJ w4 _) rfl);clear hL p1 p2 c2 c3 N5;(go_wp2_with fail);(with_reducible refine o1.mono ?_);rintro e w5 ⟨rfl,Ae⟩;go_wp2;go_ret;exact⟨rfl,hE.trans (hx1.trans (hN.trans Ae))⟩
theorem AiW(x:La)(u:Bs)(b:Nat)(w:World)(hb:w.cell? ⟨b,0,none⟩=some (S u)) :
  Calls Tryz.prog 60 #[FN x,.pointer (some ⟨b,0,none⟩)] w (Bv (x.u == u) w):=by
 have hx:=(Aa.refl w).alloc (.cells #[S x.u,S x.mn,S x.mx] 31);have j1:=hx.cellS hb;unfold FN;clear hb;go_enter Tryz.func60,Tryz.ntmps60;go_wp2;go_ret;exact⟨rfl,hx⟩
theorem AeM:∀args w,(callFunc 60 args).run Tryz.prog w=.ok (.enter 60 args) w:=enters_of Tryz.func60 (by kernel_rfl) rfl
theorem AiX(x:La)(u:Bs)(b:Nat)(w:World)(hb:w.cell? ⟨b,0,none⟩=some (S u)) :
  Calls Tryz.prog 61 #[FN x,.pointer (some ⟨b,0,none⟩)] w (Bv (x.u == u) w):=by
 have hx:=(Aa.refl w).alloc (.cells #[S x.u,S x.mn,S x.mx] 31);have j1:=hx.cellS hb;unfold FN;clear hb;go_enter Tryz.func61,Tryz.ntmps61;go_wp2;go_ret;exact⟨rfl,hx⟩
theorem AeN:∀args w,(callFunc 61 args).run Tryz.prog w=.ok (.enter 61 args) w:=enters_of Tryz.func61 (by kernel_rfl) rfl
def byV(b:UInt8):Value:=.int .u8 (b.toNat:Nat)
theorem AcB(x y:Nat)(w:World):Calls Tryz.prog 121 #[.int .u8 (x:Nat),.int .u8 (y:Nat)] w (Ax (Do (x:Int) (y:Int)) w):=by
 unfold Do;by_cases h1:(x:Int)<(y:Int)
 ·rw [if_pos h1];go_enter Tryz.func121,Tryz.ntmps121;go_wp2;go_ret;exact⟨rfl,Aa.refl _⟩
 ·rw [if_neg h1];by_cases h2:(y:Int)<(x:Int)
  ·rw [if_pos h2];go_enter Tryz.func121,Tryz.ntmps121;go_wp2;go_ret;exact⟨rfl,Aa.refl _⟩
  ·rw [if_neg h2];go_enter Tryz.func121,Tryz.ntmps121;go_wp2;go_ret;exact⟨rfl,Aa.refl _⟩
theorem Adi{a b:Bs}{k:Nat}(ha:k<a.length)(hb:k<b.length):Lib.compareBytes (a.drop k) (b.drop k)=if Do (a[k].toNat:Nat) (b[k].toNat:Nat)=0 then Lib.compareBytes (a.drop (k+1)) (b.drop (k+1))else Do (a[k].toNat:Nat) (b[k].toNat:Nat):=by
 rw [List.drop_eq_getElem_cons ha,List.drop_eq_getElem_cons hb];show (if a[k]<b[k] then (-1:Int)else if b[k]<a[k] then 1 else _)=_;simp only [UInt8.lt_iff_toNat_lt];generalize a[k].toNat=x;generalize b[k].toNat=y;by_cases h1:x<y
 ·have e:Do (x:Int) (y:Int) = -1:=if_pos (by omega);rw [if_pos h1,e,if_neg (by omega)]
 ·by_cases h2:y<x
  ·have e:Do (x:Int) (y:Int)=1:=by unfold Do;rw [if_neg (by omega),if_pos (by omega)]
   rw [if_neg h1,if_pos h2,e,if_neg (by omega)]
  ·have e:Do (x:Int) (y:Int)=0:=by unfold Do;rw [if_neg (by omega),if_neg (by omega)]
   rw [if_neg h1,if_neg h2,e,if_pos rfl]
theorem AmP(a b:Bs)(A B:Option Addr)(c d:Nat)(w:World)(hA:Ad w A (a.map byV))(hB:Ad w B (b.map byV))(Fj:a.length<=1000000)(_:b.length<=1000000) :
  Calls Tryz.prog 62 #[.slice A a.length c,.slice B b.length d] w (Ax (Lib.compareBytes a b) w):=by
 have Rk:=AqH hA;have JC:=AqH hB;obtain⟨r,hr0⟩:=AqG (Lib.compareBytes a b);rw [←hr0];have HR:=AqH hr0;obtain⟨n,hn⟩:=AqG a.length;obtain⟨m,hm⟩:=AqG b.length;rw [←hn]at Fj ⊢;rw [←hm];have HN:=AqH hn;have HM:=AqH hm;clear hA hB hr0 hn hm;go_enter Tryz.func62,Tryz.ntmps62
 go_upto_region 2 with fail
 go_loopw [11] (fun kv wr=>∃(k:Nat),kv=.int .i64 (k:Nat)/\k<=n/\k<=m/\r=Lib.compareBytes (a.drop k) (b.drop k)/\Aa w wr) (fun kv _=>n-(intOf kv).toNat)
 case atStart=>exact⟨0,rfl,Nat.zero_le _,Nat.zero_le _,by rw [List.drop_zero,List.drop_zero];exact HR.out,Aa.refl _⟩
 case round=>
  obtain⟨k,rfl,hk,Kg,hck,Ac⟩:=hrel;have GY:=AqH hck;clear hck;by_cases hkn:k<n
  ·have hka:k<a.length:=(by rw [←HN.out];exact hkn);obtain⟨ba,oa,rfl,hc1⟩:=(Rk.out.ext Ac).ad (by rw [List.length_map];omega);have g1:=hc1 k (by rw [List.length_map];exact hka);rw [List.getElem_map]at g1;unfold byV at g1;obtain⟨x,hx⟩:=AqG (a[k]);rw [←hx]at g1;have HX:=AqH hx;have hk0:(0:Int)<=(k:Int):=(by omega);have BH:(k:Int)<(n:Int):=(by omega);have v1:IntKind.wrap .i64 ((k:Int)+1)=(k:Int)+1:=AqQ _ (by omega);clear hx hc1;by_cases hkb:k<m
   ·have hkb':k<b.length:=(by rw [←HM.out];exact hkb);obtain⟨bb,ob,rfl,hc2⟩:=(JC.out.ext Ac).ad (by rw [List.length_map];omega);have g2:=hc2 k (by rw [List.length_map];exact hkb');rw [List.getElem_map]at g2;unfold byV at g2;have hst:=Adi hka hkb';rw [←GY.out,←HX.out]at hst;obtain⟨y,hy⟩:=AqG (b[k]);rw [←hy]at g2 hst;have bc:=AcB x.toNat y.toNat wr;obtain⟨z,hz⟩:=AqG (Do (x.toNat:Int) (y.toNat:Int));rw [←hz]at bc hst;have hk2:(k:Int)<(m:Int):=(by omega);have HST:=AqH hst;clear hc2 hy hz hst;by_cases hz0:z=0
    ·have HH:=AqH (show r=Lib.compareBytes (a.drop (k+1)) (b.drop (k+1))by rw [HST.out,if_pos hz0]);subst hz0;(go_wp2_with fail);(with_reducible refine bc.mono ?_);rintro e w2 ⟨rfl,hx2⟩;go_wp2;go_roundw
     case rel=>exact⟨k+1,by go_num,hkn,hkb,HH.out,Ac.trans hx2⟩
     case measure=>simp [intOf];omega
    ·have HH:=AqH (show r=z by rw [HST.out,if_neg hz0]);have t1:(z != 0)=true:=(by rw [bne_iff_ne];exact hz0);clear hz0;(go_wp2_with fail);(with_reducible refine bc.mono ?_);rintro e w2 ⟨rfl,hx2⟩;go_wp2;go_ret;exact⟨Bf HH.out,Ac.trans hx2⟩
   ·have Ahj:k=m:=by omega
    have HH:=AqH (show r=1 by
     rw [GY.out,List.drop_eq_getElem_cons hka,List.drop_of_length_le (show b.length<=k by rw [←HM.out];omega)];rfl)
    have hk2:(m:Int)<=(k:Int):=(by omega);clear Ahj;go_wp2;go_ret;exact⟨Bf HH.out,Ac⟩
  ·have Bt:k=n:=(by omega);subst Bt;have Fi:a.drop k = []:=List.drop_of_length_le (by rw [←HN.out];exact AqK _);by_cases hlt:k<m
   ·have HH:=AqH (show r = -1 by
     rw [GY.out,Fi,List.drop_eq_getElem_cons (show k<b.length by rw [←HM.out];exact hlt)];rfl)
    have t1:(k:Int)<(m:Int):=(by omega);clear Fi;go_wp2;go_ret;exact⟨Bf HH.out,Ac⟩
   ·have HH:=AqH (show r=0 by
     rw [GY.out,Fi,List.drop_of_length_le (show b.length<=k by rw [←HM.out];omega)];rfl)
    have t1:¬(k:Int)<(m:Int):=(by omega);clear Fi;go_wp2;go_ret;exact⟨Bf HH.out,Ac⟩
section
open Go.ChangeMaps (setBlock)
def Lc(l:List (Int×Int)):List MapEntry:=l.mapIdx fun i e=>⟨.int .i64 e.1,.int .i64 e.2,i⟩
theorem AeV(l:List (Int×Int))(e:Int×Int):Lc (l ++ [e])=Lc l ++ [⟨.int .i64 e.1,.int .i64 e.2,l.length⟩]:=by simp [Lc,List.mapIdx_append]
def C6(k:Int)(l:List (Int×Int)):Option Int:=(l.find? (fun e=>k == e.1)).map (·.2)
theorem vQ(k:Int):∀(l:List (Int×Int)) (i j:Nat),∃x,Instr.findNow (.int .i64) (.int .i64 k) (l.mapIdx fun i e=>⟨.int .i64 e.1,.int .i64 e.2,i+j⟩) i=some x/\x.map (·.2)=(C6 k l).map (fun z=>Value.int .i64 z)
 | [],i,j=>⟨none,by simp [Instr.findNow],by simp [C6]⟩
 | e::l,i,j=>by
  rw [List.mapIdx_cons];by_cases h:k=e.1
  ·refine⟨some (i,.int .i64 e.2),?_,?_⟩
   ·simp [Instr.findNow,Instr.sameNow,h]
   ·simp [C6,h]
  ·obtain⟨x,h1,h2⟩:=vQ k l (i+1) (j+1);have hh:(k == e.1)=false:=(by simpa using h);refine⟨x,?_,?_⟩
   ·simp only [Instr.findNow,Instr.sameNow,if_pos,hh]
    simpa only [Nat.add_assoc,Nat.add_comm 1 j]using h1
   ·rw [h2];simp [C6,hh]
theorem aT(k:Int)(l:List (Int×Int))(W:World):∃x,(Instr.findKey 3 (.int .i64 k) (Lc l)).run Tryz.prog W=.ok x W/\x.map (·.2)=(C6 k l).map (fun z=>Value.int .i64 z):=by
 obtain⟨x,h1,h2⟩:=vQ k l 0 0;exact⟨x,MapKept.run_findKey Tryz.underlying3 h1,h2⟩
theorem lT(k:Int)(l:List (Int×Int)){b clock:Nat}{W:World}(hb:W.heap[b]?=some (.map (Lc l).toArray clock)) :
  (Instr.lookup 212 (.map (some b)) (.int .i64 k) true).run Tryz.prog W=.ok (.tuple #[.int .i64 ((C6 k l).getD 0),.bool (C6 k l).isSome]) W:=by
 obtain⟨x,h1,h2⟩:=aT k l W;have hz:(zeroValue 3).run Tryz.prog W=.ok (.int .i64 0) W:=(by simp [go_sem]);have hc:∀b,(Instr.checkKey b 10000 3 (.int .i64 k)).run Tryz.prog W=.ok () W:=fun b=>MapKept.run_checkKey (k:=.int .i64 k) Tryz.underlying3 (by simp [MapKept.IsKey]) b 9999;have hm:=run_underlying (w:=W) Tryz.underlying212
 cases h:C6 k l with
 | none=>
  rw [h]at h2;have hx:x=none:=(by simpa using h2);subst hx;simp [Instr.lookup,hm,MapKept.run_getObj_map hb,hc,h1,hz,Result.andThen]
 | some z=>rw [h]at h2;obtain⟨⟨i,v⟩,rfl,hv⟩:=Option.map_eq_some_iff.1 h2;simp only at hv;subst hv;simp [Instr.lookup,hm,MapKept.run_getObj_map hb,hc,h1,Result.andThen]
theorem AmB(k z:Int)(l:List (Int×Int))(hno:C6 k l=none){b:Nat}{W:World}(hb:W.heap[b]?=some (.map (Lc l).toArray l.length)) :
  (Instr.mapUpdate 212 (.map (some b)) (.int .i64 k) (.int .i64 z)).run Tryz.prog W=.ok () (setBlock W b (.map (Lc (l ++ [(k,z)])).toArray (l.length+1))):=by
 obtain⟨x,h1,h2⟩:=aT k l W;have hc:∀b,(Instr.checkKey b 10000 3 (.int .i64 k)).run Tryz.prog W=.ok () W:=fun b=>MapKept.run_checkKey (k:=.int .i64 k) Tryz.underlying3 (by simp [MapKept.IsKey]) b 9999;have hm:=run_underlying (w:=W) Tryz.underlying212;rw [hno]at h2;have hx:x=none:=(by simpa using h2);subst hx;rw [AeV];simp [Instr.mapUpdate,hm,MapKept.run_getObj_map hb,hc,h1,MapKept.run_setObj_map _ hb,Result.andThen,setBlock]
def FX(W:World)(b:Nat)(l:List (Int×Int)):Prop:=W.heap[b]?=some (.map (Lc l).toArray l.length)
theorem FX.put{W:World}{b:Nat}{l:List (Int×Int)}(h:FX W b l)(k z:Int)(hno:C6 k l=none) :
  ∃W',(Instr.mapUpdate 212 (.map (some b)) (.int .i64 k) (.int .i64 z)).run Tryz.prog W=.ok () W'/\FX W' b (l ++ [(k,z)])/\W.grownBy W' (some b)/\W'.heap.size=W.heap.size:=by
 refine⟨_,AmB k z l hno h,?_,Ld h,by simp [setBlock]⟩;unfold FX;rw [LX h];simp
/-! ### Bools in a row -/
def Hi(l:List Bool):List Value:=l.map Value.bool
theorem rG(l:List Bool):(Hi l).length=l.length:=by simp [Hi]
theorem AlW{w:World}{A:Option Addr}{l:List Bool}(hr:Ad w A (Hi l)){j:Nat}(h:j<l.length):∃b o,A=some ⟨b,o,none⟩/\w.cell? ⟨b,o+j,none⟩=some (.bool l[j]):=by
 obtain⟨b,o,e,hc⟩:=hr.ad (by rw [rG];omega);refine⟨b,o,e,?_⟩;rw [hc j (by rw [rG];exact h)];simp [Hi]
def LH(l:List Bool)(x:Bool):Int:=match l.findIdx? (x == ·)with|some j=>(j:Int)|none=>-1
theorem Ai0{l:List Bool}{x:Bool}{j:Nat}(h:j<l.length)(hno:∀q∈l.take j,(x == q)=false)(he:(x == l[j])=true):LH l x=(j:Int):=by
 unfold LH
 have:l.findIdx? (x == ·)=some j:=by rw [List.findIdx?_eq_some_iff_getElem];exact⟨h,he,fun i hi=>by rw [hno l[i] (by rw [List.mem_take_iff_getElem];exact⟨i,by omega,rfl⟩)];simp⟩
 rw [this]
theorem km{l:List Bool}{x:Bool}(hno:∀q∈l,(x == q)=false):LH l x = -1:=by
 unfold LH;rw [List.findIdx?_eq_none_iff.2 hno]
theorem Aiz(l:List Bool)(x:Bool):decide (0<=LH l x)=l.contains x:=by
 by_cases h:∃q∈l,(x == q)=true
 ·obtain⟨q,hq,he⟩:=h;have e:x=q:=(by simpa using he);subst e;have h2:l.contains x=true:=(by simpa using hq);rw [h2];unfold LH
  cases hf:l.findIdx? (x == ·)with
  | none=>
   rw [List.findIdx?_eq_none_iff]at hf;have:=hf x hq;simp at this
  | some j=>simp
 ·have hn:∀q∈l,(x == q)=false:=fun q hq=>by rw [Bool.eq_false_iff];exact fun he=>h ⟨q,hq,he⟩
  rw [km hn];have:x∉l:=fun hx=>(by have:=hn x hx;simp at this);simp [this]
theorem Ai8(l:List Bool)(x:Bool)(A:Option Addr)(c:Nat)(w:World)(hr:Ad w A (Hi l))(hc:l.length<=c)(hcm:c<=9223372036854775807) :
  Calls Tryz.prog 236 #[.slice A l.length c,.bool x] w (Ax (LH l x) w):=by
 obtain⟨r,hr0⟩:=AqG (LH l x);rw [←hr0];have HR:=AqH hr0;clear hr0;go_enter Tryz.func236,Tryz.ntmps236
 go_upto_region 2 with fail
 go_loopw [8] (fun i wr=>∃j:Nat,i=.int .i64 (j:Nat)/\j<=l.length/\(∀q∈l.take j,(x == q)=false)/\Aa w wr) (fun i _=>l.length-(intOf i).toNat)
 case atStart=>exact⟨0,rfl,by omega,by simp,Aa.refl _⟩
 case round=>
  obtain⟨j,rfl,hj,Aj,Ac⟩:=hrel;have HO:=AqH Aj;clear Aj;by_cases hlt:j<l.length
  ·obtain⟨b,o,rfl,hg⟩:=AlW (hr.ext Ac) hlt;obtain⟨q,hq⟩:=AqG (l[j]);rw [←hq]at hg;have hj0:(0:Int)<=(j:Int):=(by omega);have AV:(j:Int)<(l.length:Int):=(by omega);have HQ:=AqH hq;clear hq
   cases x<;>cases q
   case false.true|true.false=>
    have HE:=AqH (show ∀y∈l.take (j+1),_ from by
     intro y hy;rw [AqN hlt,←HQ.out]at hy
     rcases List.mem_append.1 hy with h|h
     ·exact HO.out y h
     ·simp only [AqW]at h;rw [h];rfl)
    go_wp2;go_roundw
    case rel=>exact⟨j+1,by go_num,hlt,HE.out,Ac⟩
    case measure=>simp [intOf];omega
   case false.false|true.true=>have Er:r=(j:Int):=(by rw [HR.out];exact Ai0 hlt HO.out (by rw [←HQ.out];rfl));subst Er;go_wp2;go_ret;exact⟨rfl,Ac⟩
  ·have hle:(l.length:Int)<=(j:Int):=(by omega);have Er:r = -1:=(by rw [HR.out];exact km (by have:=HO.out;rw [AqS (by omega)]at this;exact this));subst Er;go_wp2;go_ret;exact⟨rfl,Ac⟩
theorem AdU(l:List Bool)(x:Bool)(A:Option Addr)(c:Nat)(w:World)(hr:Ad w A (Hi l))(hc:l.length<=c)(hcm:c<=9223372036854775807) :
  Calls Tryz.prog 158 #[.slice A l.length c,.bool x] w (Bv (l.contains x) w):=by
 have ix:=Ai8 l x A c w hr hc hcm;have ha:=Aiz l x;obtain⟨r,hr0⟩:=AqG (l.contains x);rw [←hr0]at ha ⊢;obtain⟨n,hn⟩:=AqG (LH l x);rw [←hn]at ix ha;have HA:=AqH ha;clear hr0 hn ha;go_enter Tryz.func158,Tryz.ntmps158;(go_wp2_with fail);(with_reducible refine ix.mono ?_);rintro e w2 ⟨rfl,hx2⟩;go_wp2;go_ret;exact⟨by rw [←HA.out];rfl,hx2⟩
end
end Go.Proofs.YtjalkoacphhgdaaGreatDoor
namespace Kl
def desc(c:List La)(l:List En)(i:Nat):Bool:=decide (1<=i)&&decide (0<BB c (l.getD (i-1) ⟨[],[],0,[]⟩).u (l.getD i ⟨[],[],0,[]⟩).u)
def H8(c:List La)(l:List En):Option Nat:=(List.range l.length).find? (desc c l)
theorem q9{c:List La}{l:List En}{i:Nat}(hi:i<l.length)(hno:∀j,j<i→desc c l j=false)(h:desc c l i=true):H8 c l=some i:=by
 unfold H8;rw [List.find?_range_eq_some];refine⟨h,List.mem_range.2 hi,fun j hj=>?_⟩;rw [hno j hj];rfl
theorem kR{c:List La}{l:List En}(hno:∀j,j<l.length→desc c l j=false):H8 c l=none:=by
 unfold H8;rw [List.find?_eq_none];intro j hj;rw [hno j (List.mem_range.1 hj)];simp
theorem aE(c:List La)(l:List En):desc c l 0=false:=rfl
theorem aD(c:List La){l:List En}{i:Nat}(h1:1<=i)(h:i<l.length):desc c l i=decide (0<BB c l[i-1].u l[i].u):=by
 unfold desc;rw [decide_eq_true h1,Bool.true_and];simp [List.getD_eq_getElem?_getD,List.getElem?_eq_getElem h,List.getElem?_eq_getElem (show i-1<l.length by omega)]
end Kl
namespace Go.Proofs.YtjalkoacphhgdaaGreatDoor
open Go.RowKit Kl
def UP(o:Option Nat)(w:World)(e:Ending)(w':World):Prop:=e=.returned (match o with|some i=>.tuple #[.int .i64 (i:Nat),.bool false,.int .i64 0]|none=>.tuple #[.int .i64 0,.bool true,.int .i64 0])/\Aa w w'
theorem qz(l:List En)(A:Option Addr)(c:Nat)(z:Int)(v:Value)(w:World)(hr:Ad w A (AQ l))(hc:l.length<=c)(hcm:c<=9223372036854775807)(hl:∀e∈l,LK e)(PX:∀W,Aa w W→Calls Tryz.prog 32 #[v] W (Ax z W)) :
  Calls Tryz.prog 57 #[.slice A l.length c,v] w (Ax (if DV l=0 then z else DV l) w):=by
 have ck:=sH l A c w hr hc hcm hl;generalize DV l=x at *;by_cases h0:x=0
 ·subst h0;rw [if_pos rfl];have HC:=AqH PX;clear hr PX;go_enter Tryz.func57,Tryz.ntmps57;(go_wp2_with fail);(with_reducible refine ck.mono ?_);rintro e w1 ⟨rfl,hx1⟩;have co:=HC.out w1 hx1;(go_wp2_with fail);(with_reducible refine co.mono ?_);rintro e w2 ⟨rfl,hx2⟩;go_wp2;go_ret;exact⟨rfl,hx1.trans hx2⟩
 ·rw [if_neg h0];have t1:(x != 0)=true:=(by rw [bne_iff_ne];exact h0);clear hr h0 PX;go_enter Tryz.func57,Tryz.ntmps57;(go_wp2_with fail);(with_reducible refine ck.mono ?_);rintro e w1 ⟨rfl,hx1⟩;go_wp2;go_ret;exact⟨rfl,hx1⟩
theorem kS(l:List En)(A:Option Addr)(c:Nat)(cl:List La)(B:Option Addr)(d:Nat)(w:World)(hr:Ad w A (AQ l))(hl:l.length<=1000)(hB:Ad w B (Bo cl))(hd:cl.length<=d)(MY:d<=9223372036854775807)
  (op:Calls Tryz.prog 57 #[.slice A l.length c,.slice B cl.length d] w (Ax 0 w)) :
  Calls Tryz.prog 19 #[.slice A l.length c,.slice B cl.length d] w (UP (H8 cl l) w):=by
 have FA:=AqH hr;have JC:=AqH hB;obtain⟨n,hn⟩:=AqG l.length;rw [←hn]at op hl ⊢;have HN:=AqH hn;clear hr hB hn;go_enter Tryz.func19,Tryz.ntmps19;(go_wp2_with fail);(with_reducible refine op.mono ?_);rintro e w1 ⟨rfl,hx1⟩
 go_upto_region 5 with fail
 go_loopw [8] (fun kv wr=>∃(k:Nat),kv=.int .i64 ((k:Int)+1)/\(k<=n)/\(∀j,j<=k→j<n→desc cl l j=false)/\Aa w wr) (fun kv _=>n+1-(intOf kv).toNat)
 case atStart=>refine⟨0,rfl,Nat.zero_le _,fun j h _=>?_,hx1⟩;obtain rfl:j=0:=Nat.le_zero.1 h;exact aE _ _
 case round=>
  obtain⟨k,rfl,hk,hno,Ac⟩:=hrel;have Mo:=AqH hno;clear hno;by_cases hkn:k+1<n
  ·have Cz:k<l.length:=(by rw [←HN.out];omega);have df:k+1<l.length:=(by rw [←HN.out];exact hkn);obtain⟨b,o,rfl,hg1,-,-,-⟩:=LV (FA.out.ext Ac) Cz;obtain⟨b',o',e1,hg2,-,-,-⟩:=LV (FA.out.ext Ac) df
   cases e1;have Fi:=aD cl (show 1<=k+1 by omega) df;simp only [Nat.add_sub_cancel]at Fi;obtain⟨a1,ha1⟩:=AqG (l[k].u);obtain⟨a2,ha2⟩:=AqG (l[k+1].u);rw [←ha1]at hg1 Fi;rw [←ha2]at hg2 Fi;have cu:=fun q:Af wr=>ZW cl B d q.w ((JC.out.ext Ac).ext q.h) hd MY a1 a2;obtain⟨z,hz⟩:=AqG (BB cl a1 a2);rw [←hz]at cu Fi;have nU:=AqH Fi;have HEX:=AqH Ac;have f1:∀q:Af wr,q.w.cell? ⟨b,o+k*4,none⟩=some (S a1):=Af.cell hg1;have f2:∀q:Af wr,q.w.cell? ⟨b,o+(k+1)*4,none⟩=some (S a2):=Af.cell hg2;have hk0:(0:Int)<=(k:Int):=(by omega);have BH:(0:Int)<=(k:Int)+1:=(by omega);have Ep:(k:Int)+1<(n:Int):=(by omega);have hl2:(k:Int)<(n:Int):=(by omega);have hw1:((k:Int)+1)-1=(k:Int):=(by omega);have hw2:((k:Int)+1).toNat=k+1:=(by omega);have hv0:IntKind.i64.wrap (k:Int)=k:=AqQ _ (by omega);have Xg:IntKind.i64.wrap ((k:Int)+1)=(k:Int)+1:=AqQ _ (by omega);have hv2:IntKind.i64.wrap ((k:Int)+1+1)=(k:Int)+1+1:=AqQ _ (by omega);clear ha1 ha2 hz Fi Ac hg1 hg2
   go_upto_region 7 with fail
   refine F5 (by kernel_rfl) (by kernel_rfl) ?_
   repeat (go_big_quiet_step (with_reducible refine Ei (cu _)))
   refine wpQuiet_nil ?_;rintro _ ⟨q,rfl⟩;have HQ:=AqH (HEX.out.trans q.h);clear f1 f2 cu;by_cases hz0:0<z
   ·have ho:H8 cl l=some (k+1):=q9 (by rw [←HN.out];exact hkn) (fun j hj=>Mo.out j (by omega) (by omega)) (by rw [nU.out];exact decide_eq_true hz0)
    have AS:UP (H8 cl l) w (.returned (.tuple #[.int .i64 ((k:Int)+1),.bool false,.int .i64 0])) q.w:=by rw [ho];exact⟨by simp,HQ.out⟩
    have HF:=AqH AS;clear AS ho;go_wp2;refine bodyPost_ret (v:=.tuple #[.int .i64 ((k:Int)+1),.bool false,.int .i64 0]) (by simp [results,Tryz.results19,go_sem]) rfl ?_;exact HF.out
   ·have Ih:=AqH (show ∀j,j<=k+1→j<n→desc cl l j=false from fun j hj hjn=>by
     by_cases e:j=k+1
     ·subst e;rw [nU.out];exact decide_eq_false hz0
     ·exact Mo.out j (by omega) hjn)
    have hz1:=Int.not_lt.1 hz0;clear hz0;go_wp2;go_roundw
    case rel=>exact⟨k+1,by go_num,by omega,Ih.out,HQ.out⟩
    case measure=>simp [intOf];omega
  ·have ho:H8 cl l=none:=kR fun j hj=>Mo.out j (by have:=HN.out;omega) (by rw [HN.out];exact hj)
   have AS:UP (H8 cl l) w (.returned (.tuple #[.int .i64 0,.bool true,.int .i64 0])) wr:=by rw [ho];exact⟨rfl,Ac⟩
   have HF:=AqH AS;have hle:(n:Int)<=(k:Int)+1:=(by omega);clear AS ho hkn;go_wp2;refine bodyPost_ret (v:=.tuple #[.int .i64 0,.bool true,.int .i64 0]) (by simp [results,Tryz.results19,go_sem]) rfl ?_;exact HF.out
end Go.Proofs.YtjalkoacphhgdaaGreatDoor
