/- Y28: Q8 Q9 QD LG8 LG9 LGO D5. -/
import Derived.Test.YtjalkoacphhgdaaGreatDoorY26
import Derived.Test.YtjalkoacphhgdaaGreatDoorY27
set_option maxRecDepth 100000
set_option maxHeartbeats 8000000
namespace Go.Proofs.YtjalkoacphhgdaaGreatDoor
open Go.RowKit Kl
def Ni(n:Nat)(l:List Hf):Prop:=∀h∈l,EJ h.a/\EJ h.b/\h.a≠h.b/\-1<=h.l/\h.l<(n:Int)
theorem Ni.ok{n:Nat}{l:List Hf}(h:Ni n l):ve l:=fun x hx=>⟨(h x hx).1,(h x hx).2.1⟩
theorem Ni.back{n:Nat}{l:List Hf}(h:Ni n l)(x:Hf):-1<=QK l x/\QK l x<(n:Int):=by
 rcases y7 l x with e|⟨y,hy,e⟩
 ·rw [e];omega
 ·rw [e];exact⟨(h y hy).2.2.2.1,(h y hy).2.2.2.2⟩
def dst(p q:Pt):Nat:=((p.x*2).floor-(q.x*2).floor).natAbs+((p.y*2).floor-(q.y*2).floor).natAbs
structure Jv(w:World)(A:Option Addr)(c:Nat)(P:List (List Pt×Bs)):Prop where
 c1:P.length<=c
 c2:c<=9223372036854775807
 row:∀j (h:j<P.length),∃b o A' c',A=some ⟨b,o,none⟩/\w.cell? ⟨b,o+j*3,none⟩=some (.slice A' P[j].1.length c')/\w.cell? ⟨b,o+j*3+1,none⟩=some (S P[j].2)/\w.cell? ⟨b,o+j*3+2,none⟩=some (.slice none 0 0)/\Ae w A' (flat (Ao P[j].1))/\P[j].1.length<=c'/\c'<=9223372036854775807
theorem Jv.ext{w w':World}{A:Option Addr}{c:Nat}{P:List (List Pt×Bs)}(h:Jv w A c P)(hx:Aa w w'):Jv w' A c P:=
 ⟨h.c1,h.c2,fun j hj=>by
  obtain⟨b,o,A',c',h1,h2,h3,h4,h5,h6,h7⟩:=h.row j hj
  exact⟨b,o,A',c',h1,hx.cellS h2,hx.cellS h3,hx.cellS h4,h5.ext hx,h6,h7⟩⟩
theorem yT{g:FuncId}{cb:Array Value}(eg:∀args w,(callFunc g args).run Tryz.prog w=.ok (.enter g args) w)(p:La→Bool)(l:List La)(A:Option Addr)(c:Nat)(w:World)(hr:Ae w A (C9 l))(hc:l.length<=c)(hcm:c<=9223372036854775807)
  (hp:∀e∈l,∀W,Aa w W→Calls Tryz.prog g (#[Lf e]++cb) W (Br (p e) W)) :
  Calls Tryz.prog 59 #[.slice A l.length c,.func (.func g) #[] cb] w (Az (CO p l) w):=by
 obtain⟨r,hr0⟩:=Am8 (CO p l);rw [←hr0];have HR:=Am9 hr0;have HP:=Am9 hp;clear hr0 hp;go_enter Tryz.func59,Tryz.ntmps59;go_wp2
 go_loopw [8] (fun i wr=>∃j:Nat,i=.int .i64 (j:Nat)/\j<=l.length/\(∀q∈l.take j,p q=false)/\Aa w wr) (fun i _=>l.length-(intOf i).toNat)
 case atStart=>exact⟨0,rfl,by omega,by simp,Aa.refl _⟩
 case round=>
  obtain⟨j,rfl,hj,Aj,Ac⟩:=hrel;have HO:=Am9 Aj;clear Aj;by_cases hlt:j<l.length
  ·obtain⟨b,o,rfl,hg1,hg2,hg3⟩:=gI (hr.ext Ac) hlt;obtain⟨q,hq⟩:=Am8 (l[j]);have bf:=HP.out l[j] (AmD hlt) wr Ac;rw [←hq]at hg1 hg2 hg3 bf;unfold Lf at bf;have hj0:(0:Int)<=(j:Int):=(by omega);have AW:(j:Int)<(l.length:Int):=(by omega);have HQ:=Am9 hq;clear hq
   cases e0:p q
   ·have HE:=Am9 e0;rw [e0]at bf;clear e0;(go_wp2_with fail);(with_reducible refine bf.mono ?_);rintro e w2 ⟨rfl,hx2⟩;go_wp2;go_roundw
    case rel=>
     refine⟨j+1,by go_num,hlt,?_,Ac.trans hx2⟩;intro x hx;rw [AmF hlt,←HQ.out]at hx
     rcases List.mem_append.1 hx with h|h
     ·exact HO.out x h
     ·simp only [AmO]at h;rw [h];exact HE.out
    case measure=>simp [intOf];omega
   ·have DZ:r=(j:Int):=(by rw [HR.out];exact dN hlt HO.out (by rw [←HQ.out];exact e0));rw [e0]at bf;clear e0;subst DZ;(go_wp2_with fail);(with_reducible refine bf.mono ?_);rintro e w2 ⟨rfl,hx2⟩;go_wp2;go_ret;exact⟨rfl,Ac.trans hx2⟩
  ·have hle:(l.length:Int)<=(j:Int):=(by omega);have DZ:r = -1:=(by rw [HR.out];exact VO (by have:=HO.out;rw [AmK (by omega)]at this;exact this));subst DZ;go_wp2;go_ret;exact⟨rfl,Ac⟩
theorem yU{g:FuncId}{cb:Array Value}(eg:∀args w,(callFunc g args).run Tryz.prog w=.ok (.enter g args) w)(p:Bs→Bool)(l:List Bs)(A:Option Addr)(c:Nat)(w:World)(hr:Ae w A (l.map S))(hc:l.length<=c)(hcm:c<=9223372036854775807)
  (hp:∀e∈l,∀W,Aa w W→Calls Tryz.prog g (#[S e]++cb) W (Br (p e) W)) :
  Calls Tryz.prog 94 #[.slice A l.length c,.func (.func g) #[] cb] w (Az (CO p l) w):=by
 obtain⟨r,hr0⟩:=Am8 (CO p l);rw [←hr0];have HR:=Am9 hr0;have HP:=Am9 hp;clear hr0 hp;go_enter Tryz.func94,Tryz.ntmps94;go_wp2
 go_loopw [8] (fun i wr=>∃j:Nat,i=.int .i64 (j:Nat)/\j<=l.length/\(∀q∈l.take j,p q=false)/\Aa w wr) (fun i _=>l.length-(intOf i).toNat)
 case atStart=>exact⟨0,rfl,by omega,by simp,Aa.refl _⟩
 case round=>
  obtain⟨j,rfl,hj,Aj,Ac⟩:=hrel;have HO:=Am9 Aj;clear Aj;by_cases hlt:j<l.length
  ·obtain⟨b,o,rfl,hcs⟩:=(hr.ext Ac).ad (by simp;omega);have hg1:=hcs j (by simpa using hlt);rw [List.getElem_map]at hg1;clear hcs;obtain⟨q,hq⟩:=Am8 (l[j]);have bf:=HP.out l[j] (AmD hlt) wr Ac;rw [←hq]at hg1 bf;have hj0:(0:Int)<=(j:Int):=(by omega);have AW:(j:Int)<(l.length:Int):=(by omega);have HQ:=Am9 hq;clear hq
   cases e0:p q
   ·have HE:=Am9 e0;rw [e0]at bf;clear e0;(go_wp2_with fail);(with_reducible refine bf.mono ?_);rintro e w2 ⟨rfl,hx2⟩;go_wp2;go_roundw
    case rel=>
     refine⟨j+1,by go_num,hlt,?_,Ac.trans hx2⟩;intro x hx;rw [AmF hlt,←HQ.out]at hx
     rcases List.mem_append.1 hx with h|h
     ·exact HO.out x h
     ·simp only [AmO]at h;rw [h];exact HE.out
    case measure=>simp [intOf];omega
   ·have DZ:r=(j:Int):=(by rw [HR.out];exact dN hlt HO.out (by rw [←HQ.out];exact e0));rw [e0]at bf;clear e0;subst DZ;(go_wp2_with fail);(with_reducible refine bf.mono ?_);rintro e w2 ⟨rfl,hx2⟩;go_wp2;go_ret;exact⟨rfl,Ac.trans hx2⟩
  ·have hle:(l.length:Int)<=(j:Int):=(by omega);have DZ:r = -1:=(by rw [HR.out];exact VO (by have:=HO.out;rw [AmK (by omega)]at this;exact this));subst DZ;go_wp2;go_ret;exact⟨rfl,Ac⟩
theorem x9{g:FuncId}{cb:Array Value}(eg:∀args w,(callFunc g args).run Tryz.prog w=.ok (.enter g args) w)(p:Bs→Bool)(l:List Bs)(A:Option Addr)(c:Nat)(w:World)(hr:Ae w A (l.map S))(hc:l.length<=c)(hcm:c<=9223372036854775807)
  (hp:∀e∈l,∀W,Aa w W→Calls Tryz.prog g (#[S e]++cb) W (Br (p e) W)) :
  Calls Tryz.prog 37 #[.slice A l.length c,.func (.func g) #[] cb] w (Br (l.any p) w):=by
 have ix:=yU eg p l A c w hr hc hcm hp;have ha:=yV p l;obtain⟨r,hr0⟩:=Am8 (l.any p);rw [←hr0]at ha ⊢;generalize CO p l=z at *;clear hr hr0 hp eg;go_enter Tryz.func37,Tryz.ntmps37;(go_wp2_with fail);(with_reducible refine ix.mono ?_);rintro e w1 ⟨rfl,hx⟩;go_wp2;go_ret;exact⟨by rw [←ha];rfl,hx⟩
theorem AaG(x:La)(u:Bs)(b:Nat)(w:World)(hb:w.cell? ⟨b,0,none⟩=some (S u)) :
  Calls Tryz.prog 97 #[Lf x,.pointer (some ⟨b,0,none⟩)] w (Br (x.u == u) w):=by
 have hx:=(Aa.refl w).alloc (.cells #[S x.u,S x.mn,S x.mx] 31);have j1:=hx.cellS hb;unfold Lf;clear hb;go_enter Tryz.func97,Tryz.ntmps97;go_wp2;go_ret;exact⟨rfl,hx⟩
theorem Ab7:∀args w,(callFunc 97 args).run Tryz.prog w=.ok (.enter 97 args) w:=enters_of Tryz.func97 (by kernel_rfl) rfl
theorem Ah4(c:List La)(A:Option Addr)(cc bc:Nat)(w:World)(hb:w.cell? ⟨bc,0,none⟩=some (.slice A c.length cc))(hr:Ae w A (C9 c))(h1:c.length<=cc)(h2:cc<=9223372036854775807)(u:Bs) :
  Calls Tryz.prog 96 #[S u,.pointer (some ⟨bc,0,none⟩)] w (Az (BD c u) w):=by
 have hB:=AmB w (.cells #[S u] 9);have hE:=(Aa.refl w).alloc (.cells #[S u] 9);have j1:=hE.cellS hb
 have ix:=yT (cb:=#[.pointer (some ⟨w.heap.size,0,none⟩)]) Ab7 (fun e=>e.u == u) c A cc (w.alloc (.cells #[S u] 9)) (hr.ext hE) h1 h2
  (fun e _ W hx=>AaG e u _ W (Ab (o:=0) ((hx.block _ (AmA hB)).trans hB) rfl))
 unfold BD;clear hr hB hb;go_enter Tryz.func96,Tryz.ntmps96;(go_wp2_with fail);(with_reducible refine ix.mono ?_);rintro e w1 ⟨rfl,hx⟩;go_wp2;go_ret;exact⟨rfl,hE.trans hx⟩
theorem Aal(x y:Int)(w:World):Calls Tryz.prog 99 #[.int .i64 x,.int .i64 y] w (Az (I4 x y) w):=by
 unfold I4;by_cases h1:x<y
 ·rw [if_pos h1];go_enter Tryz.func99,Tryz.ntmps99;go_wp2;go_ret;exact⟨rfl,Aa.refl _⟩
 ·rw [if_neg h1];by_cases h2:y<x
  ·rw [if_pos h2];go_enter Tryz.func99,Tryz.ntmps99;go_wp2;go_ret;exact⟨rfl,Aa.refl _⟩
  ·rw [if_neg h2];go_enter Tryz.func99,Tryz.ntmps99;go_wp2;go_ret;exact⟨rfl,Aa.refl _⟩
theorem nQ(c:List La)(A:Option Addr)(cc:Nat)(w:World)(hr:Ae w A (C9 c))(h1:c.length<=cc)(h2:cc<=9223372036854775807)(a b:Bs) :
  Calls Tryz.prog 42 #[.slice A c.length cc,S a,S b] w (Az (DR c a b) w):=by
 have hB:=AmB w (.cells #[.slice A c.length cc] 32);have hE:=(Aa.refl w).alloc (.cells #[.slice A c.length cc] 32);have pl:=fun (W:World) (hx:Aa (w.alloc (.cells #[.slice A c.length cc] 32)) W) (u:Bs)=>Ah4 c A cc w.heap.size W (Ab (o:=0) ((hx.block _ (AmA hB)).trans hB) rfl) ((hr.ext hE).ext hx) h1 h2 u;have c3:=nS a b;obtain⟨r,hr0⟩:=Am8 (DR c a b);rw [←hr0]
 have hr1:r=if I4 (BD c b) (BD c a)≠0 then I4 (BD c b) (BD c a)else Lib.compareBytes a b:=hr0
 have c2:=Aal (BD c b) (BD c a);have p1:=fun W hx=>pl W hx b;have p2:=fun W hx=>pl W hx a;generalize BD c b=z1 at *;generalize BD c a=z2 at *;generalize I4 z1 z2=z3 at *;generalize Lib.compareBytes a b=z4 at *
 have MN:∀(b o:Nat) (w:World),w.cell? ⟨b,o,none⟩=some (.int .i64 z3)→w.cell? ⟨b,o+1,none⟩=some (.int .i64 z4)→Calls Tryz.prog 98 #[.slice (some ⟨b,o,none⟩) 2 2] w (Az r w):=by intro b o w h1 h2;rw [hr1];exact Wt z3 z4 b o w h1 h2
 clear pl hr hB hr0 hr1;go_enter Tryz.func42,Tryz.ntmps42;(go_wp2_with fail);(with_reducible refine(p1 _ (Aa.refl _)).mono ?_);rintro e w1 ⟨rfl,hx1⟩;(go_wp2_with fail);(with_reducible refine(p2 _ hx1).mono ?_);rintro e w2 ⟨rfl,hx2⟩;replace hx1:=hx1.trans hx2;(go_wp2_with fail);(with_reducible refine(c2 _).mono ?_);rintro e w3 ⟨rfl,hx3⟩;replace hx1:=hx1.trans hx3;(go_wp2_with fail);(with_reducible refine(c3 _).mono ?_);rintro e w4 ⟨rfl,Ai⟩;replace hx1:=hx1.trans Ai;have hL:=AmB w4 (.cells #[.int .i64 z3,.int .i64 z4] 68);have hN:=(Aa.refl w4).alloc (.cells #[.int .i64 z3,.int .i64 z4] 3);have o1:=MN w4.heap.size 0 (w4.alloc (.cells #[.int .i64 z3,.int .i64 z4] 3)) (Ab (AmB w4 _) rfl) (Ab (AmB w4 _) rfl);clear hL p1 p2 c2 c3 MN;(go_wp2_with fail);(with_reducible refine o1.mono ?_);rintro e w5 ⟨rfl,Ad⟩;go_wp2;go_ret;exact⟨rfl,hE.trans (hx1.trans (hN.trans Ad))⟩
end Go.Proofs.YtjalkoacphhgdaaGreatDoor
namespace Kl
def desc(c:List La)(l:List En)(i:Nat):Bool:=decide (1<=i)&&decide (0<DR c (l.getD (i-1) ⟨[],[],0,[]⟩).u (l.getD i ⟨[],[],0,[]⟩).u)
def IZ(c:List La)(l:List En):Option Nat:=(List.range l.length).find? (desc c l)
theorem Ahh{c:List La}{l:List En}{i:Nat}(hi:i<l.length)(hno:∀j,j<i→desc c l j=false)(h:desc c l i=true):IZ c l=some i:=by
 unfold IZ;rw [List.find?_range_eq_some];refine⟨h,List.mem_range.2 hi,fun j hj=>?_⟩;rw [hno j hj];rfl
theorem Ahg{c:List La}{l:List En}(hno:∀j,j<l.length→desc c l j=false):IZ c l=none:=by
 unfold IZ;rw [List.find?_eq_none];intro j hj;rw [hno j (List.mem_range.1 hj)];simp
theorem Abc(c:List La)(l:List En):desc c l 0=false:=rfl
theorem Abb(c:List La){l:List En}{i:Nat}(h1:1<=i)(h:i<l.length):desc c l i=decide (0<DR c l[i-1].u l[i].u):=by
 unfold desc;rw [decide_eq_true h1,Bool.true_and];simp [List.getD_eq_getElem?_getD,List.getElem?_eq_getElem h,List.getElem?_eq_getElem (show i-1<l.length by omega)]
end Kl
namespace Go.Proofs.YtjalkoacphhgdaaGreatDoor
open Go.RowKit Kl
def XR(o:Option Nat)(w:World)(e:Ending)(w':World):Prop:=e=.returned (match o with|some i=>.tuple #[.int .i64 (i:Nat),.bool false,.int .i64 0]|none=>.tuple #[.int .i64 0,.bool true,.int .i64 0])/\Aa w w'
theorem ey(l:List En)(A:Option Addr)(c:Nat)(z:Int)(v:Value)(w:World)(hr:Ae w A (Bg l))(hc:l.length<=c)(hcm:c<=9223372036854775807)(hl:∀e∈l,If e)(Pj:∀W,Aa w W→Calls Tryz.prog 32 #[v] W (Az z W)) :
  Calls Tryz.prog 57 #[.slice A l.length c,v] w (Az (if BK l=0 then z else BK l) w):=by
 have ck:=Nt l A c w hr hc hcm hl;generalize BK l=x at *;by_cases h0:x=0
 ·subst h0;rw [if_pos rfl];have HC:=Am9 Pj;clear hr Pj;go_enter Tryz.func57,Tryz.ntmps57;(go_wp2_with fail);(with_reducible refine ck.mono ?_);rintro e w1 ⟨rfl,hx1⟩;have co:=HC.out w1 hx1;(go_wp2_with fail);(with_reducible refine co.mono ?_);rintro e w2 ⟨rfl,hx2⟩;go_wp2;go_ret;exact⟨rfl,hx1.trans hx2⟩
 ·rw [if_neg h0];have t1:(x != 0)=true:=(by rw [bne_iff_ne];exact h0);clear hr h0 Pj;go_enter Tryz.func57,Tryz.ntmps57;(go_wp2_with fail);(with_reducible refine ck.mono ?_);rintro e w1 ⟨rfl,hx1⟩;go_wp2;go_ret;exact⟨rfl,hx1⟩
theorem Ahi(l:List En)(A:Option Addr)(c:Nat)(z:Int)(hz:z≠0)(v:Value)(w:World)(op:Calls Tryz.prog 57 #[.slice A l.length c,v] w (Az z w)) :
  Calls Tryz.prog 19 #[.slice A l.length c,v] w (Ce (.tuple #[.int .i64 0,.bool false,.int .i64 z]) w):=by
 have t1:(z != 0)=true:=(by rw [bne_iff_ne];exact hz);clear hz;go_enter Tryz.func19,Tryz.ntmps19;(go_wp2_with fail);(with_reducible refine op.mono ?_);rintro e w1 ⟨rfl,hx1⟩;go_wp2;refine bodyPost_ret (v:=.tuple #[.int .i64 0,.bool false,.int .i64 z]) (by simp [results,Tryz.results19,go_sem]) rfl ?_;exact⟨rfl,hx1⟩
theorem Ahj(l:List En)(A:Option Addr)(c:Nat)(cl:List La)(B:Option Addr)(d:Nat)(w:World)(hr:Ae w A (Bg l))(hl:l.length<=1000)(hB:Ae w B (C9 cl))(hd:cl.length<=d)(Pk:d<=9223372036854775807)
  (op:Calls Tryz.prog 57 #[.slice A l.length c,.slice B cl.length d] w (Az 0 w)) :
  Calls Tryz.prog 19 #[.slice A l.length c,.slice B cl.length d] w (XR (IZ cl l) w):=by
 have Ga:=Am9 hr;have Xh:=Am9 hB;obtain⟨n,hn⟩:=Am8 l.length;rw [←hn]at op hl ⊢;have HN:=Am9 hn;clear hr hB hn;go_enter Tryz.func19,Tryz.ntmps19;(go_wp2_with fail);(with_reducible refine op.mono ?_);rintro e w1 ⟨rfl,hx1⟩
 go_upto_region 5 with fail
 go_loopw [8] (fun kv wr=>∃(k:Nat),kv=.int .i64 ((k:Int)+1)/\(k<=n)/\(∀j,j<=k→j<n→desc cl l j=false)/\Aa w wr) (fun kv _=>n+1-(intOf kv).toNat)
 case atStart=>refine⟨0,rfl,Nat.zero_le _,fun j h _=>?_,hx1⟩;obtain rfl:j=0:=Nat.le_zero.1 h;exact Abc _ _
 case round=>
  obtain⟨k,rfl,hk,hno,Ac⟩:=hrel;have Q0:=Am9 hno;clear hno;by_cases hkn:k+1<n
  ·have Co:k<l.length:=(by rw [←HN.out];omega);have vQ:k+1<l.length:=(by rw [←HN.out];exact hkn);obtain⟨b,o,rfl,hg1,-,-,-⟩:=Qf (Ga.out.ext Ac) Co;obtain⟨b',o',e1,hg2,-,-,-⟩:=Qf (Ga.out.ext Ac) vQ
   cases e1;have Hy:=Abb cl (show 1<=k+1 by omega) vQ;simp only [Nat.add_sub_cancel]at Hy;obtain⟨a1,ha1⟩:=Am8 (l[k].u);obtain⟨a2,ha2⟩:=Am8 (l[k+1].u);rw [←ha1]at hg1 Hy;rw [←ha2]at hg2 Hy;have cu:=fun q:Af wr=>nQ cl B d q.w ((Xh.out.ext Ac).ext q.h) hd Pk a1 a2;obtain⟨z,hz⟩:=Am8 (DR cl a1 a2);rw [←hz]at cu Hy;have jO:=Am9 Hy;have qj:=Am9 Ac;have f1:∀q:Af wr,q.w.cell? ⟨b,o+k*4,none⟩=some (S a1):=Af.cell hg1;have f2:∀q:Af wr,q.w.cell? ⟨b,o+(k+1)*4,none⟩=some (S a2):=Af.cell hg2;have hk0:(0:Int)<=(k:Int):=(by omega);have Cb:(0:Int)<=(k:Int)+1:=(by omega);have Es:(k:Int)+1<(n:Int):=(by omega);have hl2:(k:Int)<(n:Int):=(by omega);have hw1:((k:Int)+1)-1=(k:Int):=(by omega);have hw2:((k:Int)+1).toNat=k+1:=(by omega);have hv0:IntKind.i64.wrap (k:Int)=k:=AmI _ (by omega);have VJ:IntKind.i64.wrap ((k:Int)+1)=(k:Int)+1:=AmI _ (by omega);have hv2:IntKind.i64.wrap ((k:Int)+1+1)=(k:Int)+1+1:=AmI _ (by omega);clear ha1 ha2 hz Hy Ac hg1 hg2
   go_upto_region 7 with fail
   refine Fe (by kernel_rfl) (by kernel_rfl) ?_
   repeat (go_big_quiet_step (with_reducible refine DU (cu _)))
   refine wpQuiet_nil ?_;rintro _ ⟨q,rfl⟩;have HQ:=Am9 (qj.out.trans q.h);clear f1 f2 cu;by_cases hz0:0<z
   ·have ho:IZ cl l=some (k+1):=Ahh (by rw [←HN.out];exact hkn) (fun j hj=>Q0.out j (by omega) (by omega)) (by rw [jO.out];exact decide_eq_true hz0)
    have AY:XR (IZ cl l) w (.returned (.tuple #[.int .i64 ((k:Int)+1),.bool false,.int .i64 0])) q.w:=by rw [ho];exact⟨by simp,HQ.out⟩
    have HF:=Am9 AY;clear AY ho;go_wp2;refine bodyPost_ret (v:=.tuple #[.int .i64 ((k:Int)+1),.bool false,.int .i64 0]) (by simp [results,Tryz.results19,go_sem]) rfl ?_;exact HF.out
   ·have G7:=Am9 (show ∀j,j<=k+1→j<n→desc cl l j=false from fun j hj hjn=>by
     by_cases e:j=k+1
     ·subst e;rw [jO.out];exact decide_eq_false hz0
     ·exact Q0.out j (by omega) hjn)
    have hz1:=Int.not_lt.1 hz0;clear hz0;go_wp2;go_roundw
    case rel=>exact⟨k+1,by go_num,by omega,G7.out,HQ.out⟩
    case measure=>simp [intOf];omega
  ·have ho:IZ cl l=none:=Ahg fun j hj=>Q0.out j (by have:=HN.out;omega) (by rw [HN.out];exact hj)
   have AY:XR (IZ cl l) w (.returned (.tuple #[.int .i64 0,.bool true,.int .i64 0])) wr:=by rw [ho];exact⟨rfl,Ac⟩
   have HF:=Am9 AY;have hle:(n:Int)<=(k:Int)+1:=(by omega);clear AY ho hkn;go_wp2;refine bodyPost_ret (v:=.tuple #[.int .i64 0,.bool true,.int .i64 0]) (by simp [results,Tryz.results19,go_sem]) rfl ?_;exact HF.out
section
open Go.ChangeMaps (setBlock)
def Ku(l:List (Int×Int)):List MapEntry:=l.mapIdx fun i e=>⟨.int .i64 e.1,.int .i64 e.2,i⟩
theorem AbH(l:List (Int×Int))(e:Int×Int):Ku (l ++ [e])=Ku l ++ [⟨.int .i64 e.1,.int .i64 e.2,l.length⟩]:=by simp [Ku,List.mapIdx_append]
def Cx(k:Int)(l:List (Int×Int)):Option Int:=(l.find? (fun e=>k == e.1)).map (·.2)
theorem qH(k:Int):∀(l:List (Int×Int)) (i j:Nat),∃x,Instr.findNow (.int .i64) (.int .i64 k) (l.mapIdx fun i e=>⟨.int .i64 e.1,.int .i64 e.2,i+j⟩) i=some x/\x.map (·.2)=(Cx k l).map (fun z=>Value.int .i64 z)
 | [],i,j=>⟨none,by simp [Instr.findNow],by simp [Cx]⟩
 | e::l,i,j=>by
  rw [List.mapIdx_cons];by_cases h:k=e.1
  ·refine⟨some (i,.int .i64 e.2),?_,?_⟩
   ·simp [Instr.findNow,Instr.sameNow,h]
   ·simp [Cx,h]
  ·obtain⟨x,h1,h2⟩:=qH k l (i+1) (j+1);have hh:(k == e.1)=false:=(by simpa using h);refine⟨x,?_,?_⟩
   ·simp only [Instr.findNow,Instr.sameNow,if_pos,hh]
    simpa only [Nat.add_assoc,Nat.add_comm 1 j]using h1
   ·rw [h2];simp [Cx,hh]
theorem YR(k:Int)(l:List (Int×Int))(W:World):∃x,(Instr.findKey 3 (.int .i64 k) (Ku l)).run Tryz.prog W=.ok x W/\x.map (·.2)=(Cx k l).map (fun z=>Value.int .i64 z):=by
 obtain⟨x,h1,h2⟩:=qH k l 0 0;exact⟨x,MapKept.run_findKey Tryz.underlying3 h1,h2⟩
theorem gR(k:Int)(l:List (Int×Int)){b clock:Nat}{W:World}(hb:W.heap[b]?=some (.map (Ku l).toArray clock)) :
  (Instr.lookup 212 (.map (some b)) (.int .i64 k) true).run Tryz.prog W=.ok (.tuple #[.int .i64 ((Cx k l).getD 0),.bool (Cx k l).isSome]) W:=by
 obtain⟨x,h1,h2⟩:=YR k l W;have hz:(zeroValue 3).run Tryz.prog W=.ok (.int .i64 0) W:=(by simp [go_sem]);have hc:∀b,(Instr.checkKey b 10000 3 (.int .i64 k)).run Tryz.prog W=.ok () W:=fun b=>MapKept.run_checkKey (k:=.int .i64 k) Tryz.underlying3 (by simp [MapKept.IsKey]) b 9999;have hm:=run_underlying (w:=W) Tryz.underlying212
 cases h:Cx k l with
 | none=>
  rw [h]at h2;have hx:x=none:=(by simpa using h2);subst hx;simp [Instr.lookup,hm,MapKept.run_getObj_map hb,hc,h1,hz,Result.andThen]
 | some z=>rw [h]at h2;obtain⟨⟨i,v⟩,rfl,hv⟩:=Option.map_eq_some_iff.1 h2;simp only at hv;subst hv;simp [Instr.lookup,hm,MapKept.run_getObj_map hb,hc,h1,Result.andThen]
theorem AiC(k z:Int)(l:List (Int×Int))(hno:Cx k l=none){b:Nat}{W:World}(hb:W.heap[b]?=some (.map (Ku l).toArray l.length)) :
  (Instr.mapUpdate 212 (.map (some b)) (.int .i64 k) (.int .i64 z)).run Tryz.prog W=.ok () (setBlock W b (.map (Ku (l ++ [(k,z)])).toArray (l.length+1))):=by
 obtain⟨x,h1,h2⟩:=YR k l W;have hc:∀b,(Instr.checkKey b 10000 3 (.int .i64 k)).run Tryz.prog W=.ok () W:=fun b=>MapKept.run_checkKey (k:=.int .i64 k) Tryz.underlying3 (by simp [MapKept.IsKey]) b 9999;have hm:=run_underlying (w:=W) Tryz.underlying212;rw [hno]at h2;have hx:x=none:=(by simpa using h2);subst hx;rw [AbH];simp [Instr.mapUpdate,hm,MapKept.run_getObj_map hb,hc,h1,MapKept.run_setObj_map _ hb,Result.andThen,setBlock]
def F5(W:World)(b:Nat)(l:List (Int×Int)):Prop:=W.heap[b]?=some (.map (Ku l).toArray l.length)
theorem F5.put{W:World}{b:Nat}{l:List (Int×Int)}(h:F5 W b l)(k z:Int)(hno:Cx k l=none) :
  ∃W',(Instr.mapUpdate 212 (.map (some b)) (.int .i64 k) (.int .i64 z)).run Tryz.prog W=.ok () W'/\F5 W' b (l ++ [(k,z)])/\W.grownBy W' (some b)/\W'.heap.size=W.heap.size:=by
 refine⟨_,AiC k z l hno h,?_,Kv h,by simp [setBlock]⟩;unfold F5;rw [Ls h];simp
/-! ### Bools in a row -/
def GA(l:List Bool):List Value:=l.map Value.bool
theorem mF(l:List Bool):(GA l).length=l.length:=by simp [GA]
theorem Aig{w:World}{A:Option Addr}{l:List Bool}(hr:Ae w A (GA l)){j:Nat}(h:j<l.length):∃b o,A=some ⟨b,o,none⟩/\w.cell? ⟨b,o+j,none⟩=some (.bool l[j]):=by
 obtain⟨b,o,e,hc⟩:=hr.ad (by rw [mF];omega);refine⟨b,o,e,?_⟩;rw [hc j (by rw [mF];exact h)];simp [GA]
def Ld(l:List Bool)(x:Bool):Int:=match l.findIdx? (x == ·)with|some j=>(j:Int)|none=>-1
theorem AeX{l:List Bool}{x:Bool}{j:Nat}(h:j<l.length)(hno:∀q∈l.take j,(x == q)=false)(he:(x == l[j])=true):Ld l x=(j:Int):=by
 unfold Ld
 have:l.findIdx? (x == ·)=some j:=by rw [List.findIdx?_eq_some_iff_getElem];exact⟨h,he,fun i hi=>by rw [hno l[i] (by rw [List.mem_take_iff_getElem];exact⟨i,by omega,rfl⟩)];simp⟩
 rw [this]
theorem yR{l:List Bool}{x:Bool}(hno:∀q∈l,(x == q)=false):Ld l x = -1:=by
 unfold Ld;rw [List.findIdx?_eq_none_iff.2 hno]
theorem AeW(l:List Bool)(x:Bool):decide (0<=Ld l x)=l.contains x:=by
 by_cases h:∃q∈l,(x == q)=true
 ·obtain⟨q,hq,he⟩:=h;have e:x=q:=(by simpa using he);subst e;have h2:l.contains x=true:=(by simpa using hq);rw [h2];unfold Ld
  cases hf:l.findIdx? (x == ·)with
  | none=>
   rw [List.findIdx?_eq_none_iff]at hf;have:=hf x hq;simp at this
  | some j=>simp
 ·have hn:∀q∈l,(x == q)=false:=fun q hq=>by rw [Bool.eq_false_iff];exact fun he=>h ⟨q,hq,he⟩
  rw [yR hn];have:x∉l:=fun hx=>(by have:=hn x hx;simp at this);simp [this]
theorem Afh(l:List Bool)(x:Bool)(A:Option Addr)(c:Nat)(w:World)(hr:Ae w A (GA l))(hc:l.length<=c)(hcm:c<=9223372036854775807) :
  Calls Tryz.prog 236 #[.slice A l.length c,.bool x] w (Az (Ld l x) w):=by
 obtain⟨r,hr0⟩:=Am8 (Ld l x);rw [←hr0];have HR:=Am9 hr0;clear hr0;go_enter Tryz.func236,Tryz.ntmps236
 go_upto_region 2 with fail
 go_loopw [8] (fun i wr=>∃j:Nat,i=.int .i64 (j:Nat)/\j<=l.length/\(∀q∈l.take j,(x == q)=false)/\Aa w wr) (fun i _=>l.length-(intOf i).toNat)
 case atStart=>exact⟨0,rfl,by omega,by simp,Aa.refl _⟩
 case round=>
  obtain⟨j,rfl,hj,Aj,Ac⟩:=hrel;have HO:=Am9 Aj;clear Aj;by_cases hlt:j<l.length
  ·obtain⟨b,o,rfl,hg⟩:=Aig (hr.ext Ac) hlt;obtain⟨q,hq⟩:=Am8 (l[j]);rw [←hq]at hg;have hj0:(0:Int)<=(j:Int):=(by omega);have AW:(j:Int)<(l.length:Int):=(by omega);have HQ:=Am9 hq;clear hq
   cases x<;>cases q
   case false.true|true.false=>
    have HE:=Am9 (show ∀y∈l.take (j+1),_ from by
     intro y hy;rw [AmF hlt,←HQ.out]at hy
     rcases List.mem_append.1 hy with h|h
     ·exact HO.out y h
     ·simp only [AmO]at h;rw [h];rfl)
    go_wp2;go_roundw
    case rel=>exact⟨j+1,by go_num,hlt,HE.out,Ac⟩
    case measure=>simp [intOf];omega
   case false.false|true.true=>have DZ:r=(j:Int):=(by rw [HR.out];exact AeX hlt HO.out (by rw [←HQ.out];rfl));subst DZ;go_wp2;go_ret;exact⟨rfl,Ac⟩
  ·have hle:(l.length:Int)<=(j:Int):=(by omega);have DZ:r = -1:=(by rw [HR.out];exact yR (by have:=HO.out;rw [AmK (by omega)]at this;exact this));subst DZ;go_wp2;go_ret;exact⟨rfl,Ac⟩
theorem AaQ(l:List Bool)(x:Bool)(A:Option Addr)(c:Nat)(w:World)(hr:Ae w A (GA l))(hc:l.length<=c)(hcm:c<=9223372036854775807) :
  Calls Tryz.prog 158 #[.slice A l.length c,.bool x] w (Br (l.contains x) w):=by
 have ix:=Afh l x A c w hr hc hcm;have ha:=AeW l x;obtain⟨r,hr0⟩:=Am8 (l.contains x);rw [←hr0]at ha ⊢;obtain⟨n,hn⟩:=Am8 (Ld l x);rw [←hn]at ix ha;have HA:=Am9 ha;clear hr0 hn ha;go_enter Tryz.func158,Tryz.ntmps158;(go_wp2_with fail);(with_reducible refine ix.mono ?_);rintro e w2 ⟨rfl,hx2⟩;go_wp2;go_ret;exact⟨by rw [←HA.out];rfl,hx2⟩
end
end Go.Proofs.YtjalkoacphhgdaaGreatDoor
