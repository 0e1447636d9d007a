/- Z06: Int3 Int4 Int5 Lib Bld Fmt. -/
import Derived.Test.YtdaefncphfeaeaaGreatDoorZ01
import Derived.Test.YtdaefncphfeaeaaGreatDoorZ02
import Derived.Lib.SmallJoins
import Derived.Lib.AppendIntMem
set_option maxRecDepth 100000
set_option maxHeartbeats 6400000
namespace Go.Proofs.YtdaefncphfeaeaaGreatDoor
open Go.RowKit Kl
structure L9(a b out:List Nat)(k c:Nat):Prop where
 le:k<=a.length
 len:out.length=k
 lt:∀x∈out,x<1000000000
 c1:c<=1
 sum:Ah 1000000000 out+Ah 1000000000 (b.take k)=Ah 1000000000 (a.take k)+1000000000^k*c
theorem L9.start(a b:List Nat):L9 a b [] 0 0:=⟨Nat.zero_le _,rfl,by simp,by omega,by simp [Ah]⟩
theorem L9.step{a b out:List Nat}{k c d c2:Nat}(h:L9 a b out k c)(hk:k<a.length)(hd:d<1000000000)(hc2:c2<=1)
  (he:d+(c+(if k<b.length then Ag b k else 0))=Ag a k+1000000000*c2):L9 a b (out ++ [d]) (k+1) c2:=by
 refine⟨hk,by simp [h.len],?_,hc2,?_⟩
 ·intro x hx
  rcases List.mem_append.1 hx with hx|hx
  ·exact h.lt x hx
  ·simp at hx;subst hx;exact hd
 ·rw [Ho,h.len,Nat.pow_succ,MB hk,Ho,List.length_take,Nat.min_eq_left h.le]
  have e:Ah 1000000000 (b.take (k+1))=Ah 1000000000 (b.take k)+1000000000^k*(if k<b.length then Ag b k else 0):=by
   by_cases hkb:k<b.length
   ·rw [if_pos hkb,MB hkb,Ho,List.length_take,Nat.min_eq_left (by omega)]
   ·rw [if_neg hkb,Aso (by omega),Aso (by omega)];simp
  rw [e];have Cy:=h.sum;generalize (if k<b.length then Ag b k else 0)=y at *;generalize 1000000000^k=p at *
  have:p*d+(p*c+p*y)=p*Ag a k+p*1000000000*c2:=by rw [Nat.mul_assoc,←Nat.mul_add,←Nat.mul_add,←Nat.mul_add,he]
  omega
theorem L9.done{a b out:List Nat}{c:Nat}(h:L9 a b out a.length c)(hab:b.length<=a.length)(hle:Ah 1000000000 b<=Ah 1000000000 a) :
  Ah 1000000000 out=Ah 1000000000 a-Ah 1000000000 b:=by
 have hs:=h.sum;rw [List.take_length,Aso hab]at hs;have hlt:=Il h.lt;rw [h.len]at hlt
 have hc:c=0:=by
  rcases Nat.eq_zero_or_pos c with e|e
  ·exact e
  ·have e1:c=1:=(by have:=h.c1;omega);rw [e1]at hs;omega
 rw [hc]at hs;omega
theorem xn(a b:List Nat)(u v:Value)(w:World)(hu:Rd w u a)(hv:Rd w v b)(Gu:a.length<50000)(ha:∀x∈a,x<1000000000)(hb:∀x∈b,x<1000000000)
  (hab:b.length<=a.length) (hle:Ah 1000000000 b<=Ah 1000000000 a) :
  Calls Tryz.prog 147 #[u,v] w (S6 (Ah 1000000000 a-Ah 1000000000 b) w):=by
 obtain⟨A,ca,rfl,B5⟩:=hu;obtain⟨B,cb,rfl,Bo⟩:=hv;have FH:=B5.cap;have hcb:=Bo.cap;have Jr:=B5.max;have Me:=Bo.max;have HL:=Asb hle;clear hle;have hmk:=Zl a.length (by omega) (a.length:Int) rfl;have how:=Z4 w w.heap.size a.length (Asf _) (by omega);go_enter Tryz.func147,Tryz.ntmps147;go_wp2;clear hmk
 go_loopw [5,6,15] (fun v c i wr=>∃(k:Nat) (out:List Nat) (cn:Nat),L9 a b out k cn/\i=.int .i64 k/\c=.int .u64 cn/\wr.ownsRow w.heap.size 230 1 v k (Bq out)/\Aa w wr)
  (fun _ _ i _=>a.length-(intOf i).toNat)
 case atStart=>exact⟨0,[],0,L9.start a b,rfl,rfl,how,(Aa.refl w).alloc _⟩
 case round=>
  obtain⟨k,out,cn,hP,rfl,rfl,hown,Ac⟩:=hrel;clear how;have Co:=hP.le;have hc1:=hP.c1;have hsz:=Ac.size;by_cases hk:k<a.length
  ·obtain⟨ba,oa,rfl,DW⟩:=B5.ad (by omega);have hg:=Ac.cellS (DW k hk);have Ay:=Cd ha hk;clear DW;by_cases hkb:k<b.length
   ·obtain⟨bb,ob,rfl,DX⟩:=Bo.ad (by omega);have hgb:=Ac.cellS (DX k hkb);have hxb:=Cd hb hkb;clear DX;by_cases YY:Ag a k<cn+Ag b k
    ·go_wp2_with (at_builtin;refine app1 rfl _ _ rfl wr w.heap.size u5 k out rfl hown (by omega) _ (Ag a k+1000000000-(cn+Ag b k)) (by omega) rfl hsz ?_;intro v1 w1 hown1 hx1)
     go_roundw
     case rel=>exact⟨k+1,_,1,hP.step hk (by omega) (by omega) (by rw [if_pos hkb];omega),by go_num,rfl,hown1,hx1 _ Ac (Asf _)⟩
     case measure=>simp [intOf];omega
    ·go_wp2_with (at_builtin;refine app1 rfl _ _ rfl wr w.heap.size u5 k out rfl hown (by omega) _ (Ag a k-(cn+Ag b k)) (by omega) rfl hsz ?_;intro v1 w1 hown1 hx1)
     go_roundw
     case rel=>exact⟨k+1,_,0,hP.step hk (by omega) (by omega) (by rw [if_pos hkb];omega),by go_num,rfl,hown1,hx1 _ Ac (Asf _)⟩
     case measure=>simp [intOf];omega
   ·by_cases YY:Ag a k<cn
    ·go_wp2_with (at_builtin;refine app1 rfl _ _ rfl wr w.heap.size u5 k out rfl hown (by omega) _ (Ag a k+1000000000-cn) (by omega) rfl hsz ?_;intro v1 w1 hown1 hx1)
     go_roundw
     case rel=>exact⟨k+1,_,1,hP.step hk (by omega) (by omega) (by rw [if_neg hkb];omega),by go_num,rfl,hown1,hx1 _ Ac (Asf _)⟩
     case measure=>simp [intOf];omega
    ·go_wp2_with (at_builtin;refine app1 rfl _ _ rfl wr w.heap.size u5 k out rfl hown (by omega) _ (Ag a k-cn) (by omega) rfl hsz ?_;intro v1 w1 hown1 hx1)
     go_roundw
     case rel=>exact⟨k+1,_,0,hP.step hk (by omega) (by omega) (by rw [if_neg hkb];omega),by go_num,rfl,hown1,hx1 _ Ac (Asf _)⟩
     case measure=>simp [intOf];omega
  ·obtain rfl:k=a.length:=(by omega);have EY:=hP.len;(go_wp2_with fail);have AU:Rd wr u5 out:=Rd.of_own (by simpa [EY]using hown) (by omega);refine(Ab6 _ _ _ AU hP.lt).mono ?_;rintro e w2 ⟨v2,rfl,hv2,hx2,ho2⟩;have HO:=Asb ho2;clear ho2;go_wp2;go_ret;exact⟨v2,rfl,by rw [←hP.done hab HL.out];exact hv2,Ac.trans hx2,fun b hb=>y8 hown b (by rw [←HO.out];exact hb)⟩
theorem UW(a b:List Nat)(u v:Value)(w:World)(hu:Rd w u a)(hv:Rd w v b)(Gu:a.length<50000)(ha:∀x∈a,x<1000000000)(hb:∀x∈b,x<1000000000)
  (hab:b.length<=a.length) (hle:Ah 1000000000 b<=Ah 1000000000 a) :
  Calls Tryz.prog 147 #[u,v] w (O3 (Ah 1000000000 a-Ah 1000000000 b) w):=
 (xn a b u v w hu hv Gu ha hb hab hle).mono fun _ _ h=>h.plain
def EO(x y:Nat):Int:=if x<y then -1 else if x=y then 0 else 1
theorem MZ{x y:Nat}(h:x<y):EO x y = -1:=by unfold EO;rw [if_pos h]
theorem LK{x y:Nat}(h:y<x):EO x y=1:=by unfold EO;rw [if_neg (by omega),if_neg (by omega)]
theorem Qt{x y:Nat}(h:x=y):EO x y=0:=by unfold EO;rw [if_neg (by omega),if_pos h]
theorem DJ{a b:Int}(h:b=a):Ending.returned (.int .i64 a)=.returned (.int .i64 b):=by rw [h]
def AQ(n:Int)(w:World)(e:Ending)(w':World):Prop:=e=.returned (.int .i64 n)/\Aa w w'
theorem KC{l:List Nat}{k:Nat}(h:k<l.length):l.drop k=Ag l k::l.drop (k+1):=by
 rw [List.drop_eq_getElem_cons h];simp [Ag,h]
theorem Rv(a b:List Nat)(u v:Value)(w:World)(hu:Rd w u a)(hv:Rd w v b)(ha:∀x∈a,x<1000000000)(hb:∀x∈b,x<1000000000)(YO:Hw a)(Mk:Hw b) :
  Calls Tryz.prog 146 #[u,v] w (AQ (EO (Ah 1000000000 a) (Ah 1000000000 b)) w):=by
 obtain⟨A,ca,rfl,B5⟩:=hu;obtain⟨B,cb,rfl,Bo⟩:=hv;have FH:=B5.cap;have hcb:=Bo.cap;have Jr:=B5.max;have Me:=Bo.max;have Gu:=B5.len;have EW:=Bo.len;by_cases hab:a.length=b.length
 ·have hne:(((a.length:Nat):Int) != (b.length:Nat))=false:=(by simp [hab]);go_enter Tryz.func146,Tryz.ntmps146;have L1:=Asb hab;clear hab;go_wp2
  go_loopw [5] (fun i wr=>∃z:Int,-1<=z/\z<a.length/\a.drop (z+1).toNat=b.drop (z+1).toNat/\i=.int .i64 z/\Aa w wr) (fun i _=>(intOf i+1).toNat)
  case atStart=>exact⟨(a.length:Int)-1,by omega,by omega,by rw [show ((a.length:Int)-1+1).toNat=a.length by omega,List.drop_length,L1.out,List.drop_length],rfl,Aa.refl w⟩
  case round=>
   obtain⟨z,hz1,hz2,hd,rfl,Ac⟩:=hrel;have HD:=Asb hd;clear hd;by_cases h0:z<0
   ·go_wp2;go_ret;have e:a=b:=(by have:=HD.out;rw [show (z+1).toNat=0 by omega]at this;simpa using this);exact⟨DJ (by rw [e,Qt rfl]),Ac⟩
   ·obtain⟨n,rfl⟩:=Int.eq_ofNat_of_zero_le (show 0<=z by omega);have Bv:n<a.length:=(by omega);have hk2:n<b.length:=(by have:=L1.out;omega);obtain⟨ba,oa,rfl,DW⟩:=B5.ad (by omega);have N8:=Ac.cellS (DW n Bv);obtain⟨bb,ob,rfl,DX⟩:=Bo.ad (by omega);have hgb:=Ac.cellS (DX n hk2);have Ay:=Cd ha Bv;have hxb:=Cd hb hk2;have C3:a.drop (n+1)=b.drop (n+1):=(by have:=HD.out;rwa [show ((n:Int)+1).toNat=n+1 by omega]at this);have Ov:=Asb C3;clear DW DX HD C3
    rcases Nat.lt_trichotomy (Ag a n) (Ag b n)with hx|hx|hx
    ·have h1:(((Ag a n:Nat):Int) != (Ag b n:Nat))=true:=(by rw [bne_iff_ne];omega);(go_wp2_with fail)
     go_quiet (fail)
     (go_wp2_with fail)
     go_quiet (fail)
     go_wp2;go_ret;exact⟨DJ (MZ (Zu n ha hb L1.out Bv Ov.out hx)),(Ac.drewN _).drewN _⟩
    ·have h1:(((Ag a n:Nat):Int) != (Ag b n:Nat))=false:=(by simp [hx]);have HX:=Asb hx;clear hx;(go_wp2_with fail)
     go_quiet (fail)
     go_wp2;go_roundw
     case rel=>refine⟨(n:Int)-1,by omega,by omega,?_,by go_num,Ac.drewN _⟩;rw [show ((n:Int)-1+1).toNat=n by omega,KC Bv,KC hk2,HX.out,Ov.out]
     case measure=>simp [intOf]
    ·have h1:(((Ag a n:Nat):Int) != (Ag b n:Nat))=true:=(by rw [bne_iff_ne];omega);(go_wp2_with fail)
     go_quiet (fail)
     (go_wp2_with fail)
     go_quiet (fail)
     go_wp2;go_ret;exact⟨DJ (LK (Zu n hb ha L1.out.symm hk2 Ov.out.symm hx)),(Ac.drewN _).drewN _⟩
 ·have hne:(((a.length:Nat):Int) != (b.length:Nat))=true:=(by rw [bne_iff_ne];omega);by_cases hlt:a.length<b.length
  ·go_enter Tryz.func146,Tryz.ntmps146;go_wp2;go_ret;exact⟨DJ (MZ (Zv (by omega) ha Mk hlt)),Aa.refl w⟩
  ·go_enter Tryz.func146,Tryz.ntmps146;go_wp2;go_ret;exact⟨DJ (LK (Zv (by omega) hb YO (by omega))),Aa.refl w⟩
theorem Vg{b:Nat} : ∀{l:List Nat} {j:Nat} (y:Nat),j<l.length→Ah b (l.set j y)+b^j*Ag l j=Ah b l+b^j*y
 | x::l,0,y,_=>by simp [Ah,Ag];omega
 | x::l,j+1,y,h=>by have ih:=Vg (b:=b) (l:=l) (j:=j) y (by simpa using h);have e:Ag (x::l) (j+1)=Ag l j:=(by simp [Ag]);rw [List.set_cons_succ,e];simp only [Ah,Nat.pow_succ];generalize Ah b (l.set j y)=p at *;generalize Ah b l=q at *;generalize Ag l j=r at *;have:b*(p+b^j*r)=b*(q+b^j*y):=(by rw [ih]);rw [Nat.mul_add,Nat.mul_add]at this;rw [Nat.mul_comm (b^j) b,Nat.mul_assoc,Nat.mul_assoc];omega
theorem aJ(l:List Nat)(j y:Nat):(Bq l).set j (.int .u64 (y:Nat))=Bq (l.set j y):=by simp [Bq,List.map_set]
theorem Zk{l:List Nat}{j y b:Nat}(h:∀x∈l,x<b)(hy:y<b):∀x∈l.set j y,x<b:=by
 intro x hx
 rcases List.mem_or_eq_of_mem_set hx with h1|h1
 ·exact h x h1
 ·rw [h1];exact hy
theorem Va{x y:Nat}(hx:x<1000000000)(hy:y<1000000000):x*y<=999999998000000001:=by
 have h1:x*y<=999999999*999999999:=Nat.mul_le_mul (by omega) (by omega);omega
structure cR(n:Nat)(out:List Nat)(v:Nat):Prop where
 len:out.length=n
 lt:∀x∈out,x<1000000000
 sum:Ah 1000000000 out=v
structure LE(n i k x:Nat)(b out:List Nat)(c v:Nat):Prop where
 len:out.length=n
 lt:∀x∈out,x<1000000000
 le:k<=b.length
 cl:c<1000000000
 sum:Ah 1000000000 out+1000000000^(i+k)*c=v+1000000000^i*(x*Ah 1000000000 (b.take k))
theorem LE.start{n i x v:Nat}{b out:List Nat}(h:cR n out v):LE n i 0 x b out 0 v:=
 ⟨h.len,h.lt,Nat.zero_le _,by omega,by simp [Ah,h.sum]⟩
theorem LE.step{n i k x c v s:Nat}{b out:List Nat}(h:LE n i k x b out c v)(hk:k<b.length)(hn:i+k<n)(hx:x<1000000000)(hb:∀y∈b,y<1000000000)
  (hs:s=c+(Ag out (i+k)+x*Ag b k)):LE n i (k+1) x b (out.set (i+k) (s%1000000000)) (s/1000000000) v:=by
 have h1:=Cd hb hk;have h2:=Cd h.lt (show i+k<out.length by rw [h.len];exact hn);have h3:=Va hx h1;have h4:=h.cl;refine⟨by rw [List.length_set,h.len],Zk h.lt (by omega),hk,by omega,?_⟩;have e:=Vg (b:=1000000000) (l:=out) (j:=i+k) (s%1000000000) (by rw [h.len];exact hn);have Cy:=h.sum;rw [MB hk,Ho,List.length_take,Nat.min_eq_left h.le,Nat.mul_add,Nat.mul_add];have e1:1000000000^(i+(k+1))=1000000000^(i+k)*1000000000:=by rw [show i+(k+1)=i+k+1 by omega,Nat.pow_succ]
 have e2:1000000000^i*(x*(1000000000^k*Ag b k))=1000000000^(i+k)*(x*Ag b k):=by rw [Nat.pow_add,Nat.mul_left_comm x,Nat.mul_assoc]
 rw [e1,e2];have hm:s%1000000000+1000000000*(s/1000000000)=c+(Ag out (i+k)+x*Ag b k):=(by omega);generalize x*Ag b k=t at *;generalize s%1000000000=r at *;generalize s/1000000000=q at *;generalize 1000000000^(i+k)=p at *;generalize 1000000000^i*(x*Ah 1000000000 (b.take k))=g at *
 have:p*r+p*1000000000*q=p*c+(p*Ag out (i+k)+p*t):=by rw [Nat.mul_assoc,←Nat.mul_add,hm,Nat.mul_add,Nat.mul_add]
 omega
structure LF(n k:Nat)(out:List Nat)(c v:Nat):Prop where
 len:out.length=n
 lt:∀x∈out,x<1000000000
 cl:c<1000000000
 sum:Ah 1000000000 out+1000000000^k*c=v
theorem LE.up{n i x c v:Nat}{b out:List Nat}(h:LE n i b.length x b out c v):LF n (i+b.length) out c (v+1000000000^i*(x*Ah 1000000000 b)):=
 ⟨h.len,h.lt,h.cl,by have:=h.sum;rwa [List.take_length]at this⟩
theorem LF.room{n k c v m:Nat}{out:List Nat}(h:LF n k out c v)(hc:0<c)(hv:v<1000000000^m):k<m:=by
 have h1:=h.sum;have h2:1000000000^k*1<=1000000000^k*c:=Nat.mul_le_mul_left _ hc;have:1000000000^k<1000000000^m:=(by omega);exact(Nat.pow_lt_pow_iff_right (by omega)).1 this
theorem LF.step{n k c v s:Nat}{out:List Nat}(h:LF n k out c v)(hk:k<n)(hs:s=c+Ag out k):LF n (k+1) (out.set k (s%1000000000)) (s/1000000000) v:=by
 have h2:=Cd h.lt (show k<out.length by rw [h.len];exact hk);have h4:=h.cl;refine⟨by rw [List.length_set,h.len],Zk h.lt (by omega),by omega,?_⟩;have e:=Vg (b:=1000000000) (l:=out) (j:=k) (s%1000000000) (by rw [h.len];exact hk);have Cy:=h.sum;rw [Nat.pow_succ];have hm:s%1000000000+1000000000*(s/1000000000)=c+Ag out k:=(by omega);generalize s%1000000000=r at *;generalize s/1000000000=q at *;generalize 1000000000^k=p at *
 have:p*r+p*1000000000*q=p*c+p*Ag out k:=by rw [Nat.mul_assoc,←Nat.mul_add,hm,Nat.mul_add]
 omega
theorem LF.done{n k v:Nat}{out:List Nat}(h:LF n k out 0 v):cR n out v:=⟨h.len,h.lt,by have:=h.sum;simpa using this⟩
theorem AoA{a b:List Nat}{i:Nat}(hi:i<a.length) :
  Ah 1000000000 (a.take i)*Ah 1000000000 b+1000000000^i*(Ag a i*Ah 1000000000 b)=Ah 1000000000 (a.take (i+1))*Ah 1000000000 b:=by
 rw [MB hi,Ho,List.length_take,Nat.min_eq_left (by omega),Nat.add_mul,Nat.mul_assoc]
theorem Ao9{a b:List Nat}{i:Nat}(hi:i<=a.length)(ha:∀x∈a,x<1000000000)(hb:∀x∈b,x<1000000000) :
  Ah 1000000000 (a.take i)*Ah 1000000000 b<1000000000^(i+b.length):=by
 have h1:=Il (l:=a.take i) (b:=1000000000) fun x hx=>ha x (List.mem_of_mem_take hx);have h2:=Il hb;rw [List.length_take,Nat.min_eq_left hi]at h1;rw [Nat.pow_add];exact Nat.mul_lt_mul'' h1 h2
theorem Ab4(a b:List Nat)(u v:Value)(w:World)(hu:Rd w u a)(hv:Rd w v b)(Gu:a.length<40000)(EW:b.length<40000)(ha:∀x∈a,x<1000000000)(hb:∀x∈b,x<1000000000) :
  Calls Tryz.prog 214 #[u,v] w (S6 (Ah 1000000000 a*Ah 1000000000 b) w):=by
 obtain⟨A,ca,rfl,B5⟩:=hu;obtain⟨B,cb,rfl,Bo⟩:=hv;have FH:=B5.cap;have hcb:=Bo.cap;have Jr:=B5.max;have Me:=Bo.max;have hmk:=mR (a.length+b.length+1) (by omega) ((a.length:Int)+(b.length:Int)+1) (by omega);have how:=nG w w.heap.size (a.length+b.length+1) (Asf _) (by omega);go_enter Tryz.func214,Tryz.ntmps214;go_wp2;clear hmk;obtain⟨N,hN⟩:=AcG (a.length+b.length+1);rw [←hN]at how ⊢;have HN:=Asb hN;clear hN;obtain⟨H,hH⟩:=AcG w.heap.size;rw [←hH]at how;simp only [←hH];have HH:=Asb hH;clear hH
 go_loopw [21] (fun i wr=>∃(k:Nat) (out:List Nat),k<=a.length/\i=.int .i64 k/\cR N out (Ah 1000000000 (a.take k)*Ah 1000000000 b)/\wr.ownsRow H 230 1 (.slice (some ⟨H,0,none⟩) N N) N (Bq out)/\Aa w wr)
  (fun i _=>a.length-(intOf i).toNat)
 case atStart=>exact⟨0,List.replicate N 0,Nat.zero_le _,rfl,⟨by simp,by intro x hx;rw [List.mem_replicate]at hx;omega,by rw [Vh (fun j hj=>by simp at hj;simp [Ag,hj])];simp [Ah]⟩,how,(Aa.refl w).alloc _⟩
 case round=>
  obtain⟨i,out,hi,rfl,hT,hown,Ac⟩:=hrel;obtain⟨wo,rfl⟩:=AcG (wr:World);clear how;by_cases hk:i<a.length
  ·obtain⟨ba,oa,rfl,DW⟩:=B5.ad (by omega);have hg:=Ac.cellS (DW i hk);have Ay:=Cd ha hk;clear DW;go_wp2
   go_loopw [8,28] (fun c k wr=>∃(q cn:Nat) (out:List Nat),k=.int .i64 q/\c=.int .u64 cn/\LE N i q (Ag a i) b out cn (Ah 1000000000 (a.take i)*Ah 1000000000 b)/\wr.ownsRow H 230 1 (.slice (some ⟨H,0,none⟩) N N) N (Bq out)/\Aa w wr)
    (fun _ k _=>b.length-(intOf k).toNat)
   case atStart=>exact⟨0,0,out,rfl,rfl,LE.start hT,hown,Ac⟩
   case round=>
    clear hT hown Ac hg;obtain⟨q,cn,out,rfl,rfl,hT,hown,Ac⟩:=hrel;have hq:=hT.le;have By:=hT.cl;have XD:=HN.out;have Ay:=Cd ha hk;by_cases hkb:q<b.length
    ·obtain⟨bb,ob,rfl,DX⟩:=Bo.ad (by omega);have hgb:=Ac.cellS (DX q hkb);have hxb:=Cd hb hkb;clear DX;have EY:=hT.len;have Mo:=Cd hT.lt (show i+q<out.length by omega)
     have hgo:wr.cell? ⟨H,i+q,none⟩=some (.int .u64 (Ag out (i+q):Nat)):=by rw [hown.cellAt (i+q) (by omega)];simp [Bq,Ag,show i+q<out.length by omega]
     have Jp:=hown.frozenAt (i+q);have hmu:=Va Ay hxb;clear EY;go_wp2;go_roundw
     case rel=>have hst:=(hown.stored (i+q) (.int .u64 ((cn+(Ag out (i+q)+Ag a i*Ag b q))%1000000000:Nat))).1;rw [aJ]at hst;exact⟨q+1,_,_,by go_num,by go_num,hT.step hkb (by omega) Ay hb rfl,by simpa using hst,Ac.setCell (by have:=HH.out;simp;omega) _⟩
     case measure=>simp [intOf];omega
    ·obtain rfl:q=b.length:=(by omega);go_wp2
     go_loopw [8,11] (fun c k wr=>∃(q cn:Nat) (out:List Nat),k=.int .i64 q/\c=.int .u64 cn/\q<=i+b.length+1/\LF N q out cn (Ah 1000000000 (a.take (i+1))*Ah 1000000000 b)/\wr.ownsRow H 230 1 (.slice (some ⟨H,0,none⟩) N N) N (Bq out)/\Aa w wr)
      (fun _ k _=>i+b.length+1-(intOf k).toNat)
     case atStart=>have UC:=hT.up;rw [AoA hk]at UC;exact⟨i+b.length,cn,out,by go_num,rfl,by omega,UC,hown,Ac⟩
     case round=>
      clear hT hown Ac By hq;obtain⟨q,cn,out,rfl,rfl,hq,hT,hown,Ac⟩:=hrel;have By:=hT.cl;by_cases hc0:0<cn
      ·have hroom:=hT.room hc0 (Ao9 (i:=i+1) hk ha hb);have EY:=hT.len;have Mo:=Cd hT.lt (show q<out.length by omega)
       have hgo:wr.cell? ⟨H,q,none⟩=some (.int .u64 (Ag out q:Nat)):=by rw [hown.cellAt q (by omega)];simp [Bq,Ag,show q<out.length by omega]
       have Jp:=hown.frozenAt q;clear EY;go_wp2;go_roundw
       case rel=>have hst:=(hown.stored q (.int .u64 ((cn+Ag out q)%1000000000:Nat))).1;rw [aJ]at hst;exact⟨q+1,_,_,by go_num,by go_num,by omega,hT.step (by omega) rfl,by simpa using hst,Ac.setCell (by have:=HH.out;simp;omega) _⟩
       case measure=>simp [intOf];omega
      ·obtain rfl:cn=0:=(by omega);go_wp2;go_roundw
       case rel=>exact⟨i+1,out,hk,by go_num,hT.done,hown,Ac⟩
       case measure=>simp [intOf];omega
  ·obtain rfl:i=a.length:=(by omega);have EY:=hT.len;have Cy:=hT.sum;rw [List.take_length]at Cy;have HS:=Asb Cy;have HO:=Asb EY;clear Cy EY;(go_wp2_with fail);have AU:Rd wo (.slice (some ⟨H,0,none⟩) N N) out:=Rd.of_own (by rw [HO.out];exact hown) (by have:=HN.out;have:=HO.out;omega);refine(Ab6 _ _ _ AU hT.lt).mono ?_;rintro e w2 ⟨v2,rfl,hv2,hx2,ho2⟩;have VX:=Asb ho2;clear ho2;go_wp2;go_ret;exact⟨v2,rfl,by rw [←HS.out];exact hv2,Ac.trans hx2,fun b hb=>by have:=y8 hown b (by rw [←VX.out];exact hb);have:=HH.out;omega⟩
theorem Ao8(a b:List Nat)(u v:Value)(w:World)(hu:Rd w u a)(hv:Rd w v b)(Gu:a.length<40000)(EW:b.length<40000)(ha:∀x∈a,x<1000000000)(hb:∀x∈b,x<1000000000) :
  Calls Tryz.prog 214 #[u,v] w (O3 (Ah 1000000000 a*Ah 1000000000 b) w):=
 (Ab4 a b u v w hu hv Gu EW ha hb).mono fun _ _ h=>h.plain
structure Ai(w:World):Prop where
 shaped:w.ShapedOpen Tryz.prog
 pow:Lib.TabIs Tryz.prog w "internal/strconv.uint64pow10" .u64 Lib.pow10Tab
 syn:∃tp p,w.var? Tryz.prog "strconv.ErrSyntax" = some #[.iface tp p]
 rng:∃tp p,w.var? Tryz.prog "strconv.ErrRange" = some #[.iface tp p]
theorem pI{w w':World}{n:String}{cs:Array Value}(h:w.var? Tryz.prog n=some cs)(hx:Aa w w'):w'.var? Tryz.prog n=some cs:=by
 unfold World.var? at h ⊢
 cases hg:Tryz.prog.globalNamed n with
 | none=>rw [hg]at h;exact h
 | some g=>
  rw [hg]at h;simp only [Option.bind_some]at h ⊢
  have hlt:g<w.heap.size:=by
   by_cases hlt:g<w.heap.size
   ·exact hlt
   ·rw [Array.getElem?_eq_none (by omega)]at h;cases h
  rw [hx.block g hlt];exact h
theorem Ai.ext{w w':World}(h:Ai w)(hx:Aa w w'):Ai w':=by
 obtain⟨a,b,h1⟩:=h.syn;obtain⟨c,d,h2⟩:=h.rng;exact⟨h.shaped.keptBut (Below.frame hx fun _=>False) (fun _ h=>h.elim),pI h.pow hx,⟨a,b,pI h1 hx⟩,⟨c,d,pI h2 hx⟩⟩
theorem Ai.drewN{w:World}(h:Ai w)(n:Nat):Ai (w.drewN n):=h.ext ((Aa.refl w).drewN n)
def A0(l:Bs)(w:World)(e:Ending)(w':World):Prop:=e=.returned (S l)/\Aa w w'
def Dq(b:Bool)(w:World)(e:Ending)(w':World):Prop:=e=.returned (.bool b)/\Aa w w'
def Bg(v:Value)(w:World)(e:Ending)(w':World):Prop:=e=.returned v/\Aa w w'
theorem ext_eq{w w':World}(h:w'=w):Aa w w':=h▸Aa.refl w
theorem zM(s p:Bs)(w:World):Calls Tryz.prog 222 #[S s,S p] w (Dq (p.isPrefixOf s) w):=
 (Tryz.strings_HasPrefix _ _ w).mono fun _ _ ⟨h1,h2⟩=>⟨h1,ext_eq h2⟩
theorem pE(s p:Bs)(w:World):Calls Tryz.prog 150 #[S s,S p] w (A0 (Lib.trimPrefix s p) w):=
 (Tryz.strings_TrimPrefix _ _ w).mono fun _ _ ⟨h1,h2⟩=>⟨h1,ext_eq h2⟩
theorem SY(s p:Bs)(w:World):Calls Tryz.prog 212 #[S s,S p] w (Bg (.tuple #[S (Lib.trimPrefix s p),.bool (p.isPrefixOf s)]) w):=
 (Tryz.strings_CutPrefix _ _ w).mono fun _ _ ⟨h1,h2⟩=>⟨h1,ext_eq h2⟩
theorem Afy(s p:Bs)(w:World):Calls Tryz.prog 151 #[S s,S p] w (AQ (Lib.compareBytes s p) w):=
 (Tryz.strings_Compare _ _ w).mono fun _ _ ⟨h1,h2⟩=>⟨h1,ext_eq h2⟩
theorem uv(s:Bs)(c:Int)(w:World):Calls Tryz.prog 102 #[S s,.int .u8 c] w (AQ (Lib.indexByte s c.toNat.toUInt8) w):=
 (Tryz.strings_IndexByte _ _ w).mono fun _ _ ⟨h1,h2⟩=>⟨h1,ext_eq h2⟩
theorem IR(l:Bs):(⟨l.toArray⟩:ByteArray).size=l.length:=by simp [ByteArray.size]
theorem cut_c(s p:Bs)(w:World)(hw:Ai w)(hs:s.length<4294967281) :
  Calls Tryz.prog 133 #[S s,S p] w (Bg (.tuple #[S (Lib.cut s p).1,S (Lib.cut s p).2.1,.bool (Lib.cut s p).2.2]) w):=
 (Tryz.strings_Cut_shaped _ _ w hw.shaped (by rw [IR];exact hs)).mono fun _ _ ⟨h1,n,h2⟩=>⟨h1,h2▸(Aa.refl w).drewN n⟩
theorem vX(w:World)(k:Nat)(os:Array Obj):Aa w (Go.Sort.grow (w.drewN k) os):=
 ⟨rfl,rfl,rfl,by simp [Go.Sort.grow],fun i hi=>by simp only [Go.Sort.grow,World.heap_drewN];rw [Array.getElem?_append_left hi]⟩
theorem J0(n:Int)(h0:-9223372036854775808<=n)(h1:n<=9223372036854775807)(w:World)(hw:Ai w):Calls Tryz.prog 101 #[.int .i64 n] w (A0 (I n) w):=
 (Tryz.strconv_Itoa n h0 h1 w hw.pow).mono fun _ _ ⟨h1,k,os,h2⟩=>⟨h1,h2▸vX w k os⟩
theorem vW(w:World)(t:ByteArray):Aa w (Lib.bytesWorld w 5 t):=Go.Joins.below_bytesWorld _ w 5 t (Asf _)
theorem Z1{w:World}{base:Nat}{e:TypeId}{size n:Nat}{v:Value}{xs:List Value}(h:w.ownsRow base e size v n xs):∀k,v.ownBlock=some k→∃c fz,w.heap[k]?=some (.cells c e fz):=by
 intro k hk
 rcases h.2 with⟨rfl,_⟩|⟨g,cap,cur,rfl,_,hg,_⟩
 ·simp [Value.ownBlock]at hk
 ·simp [Value.ownBlock]at hk;subst hk;exact⟨_,_,hg⟩
theorem tI:(Tryz.prog.info? 268).map (·.size)=some 2:=by kernel_rfl
theorem AeL:liesAt Tryz.prog Tryz.prog.depth 268 (2/Tryz.prog.cellsOf 268) 0 268 1=true:=by kernel_rfl
theorem tU:(Tryz.prog.info? 5).map (fun i=>(i.zero,i.size,i.bytes))=some (some (.int .u8 0),1,1):=by kernel_rfl
theorem AeN(b:Nat)(w:World)(h0:w.cell? ⟨b,0,none⟩=some (.pointer (some ⟨b,0,none⟩))) :
  Calls Tryz.prog 249 #[.pointer (some ⟨b,0,none⟩)] w fun e w'=>e=.returned (.tuple #[])/\w'=w:=by
 obtain⟨j,hj,_⟩:=Option.map_eq_some_iff.1 tI;go_enter Tryz.func249,Tryz.ntmps249;go_wp2;rw [Lib.run_neq_ptr_same w _ Tryz.underlying266 hj];go_wp2
 go_end0
 exact⟨rfl,rfl⟩
theorem AeM(b:Nat)(w:World)(h0:w.cell? ⟨b,0,none⟩=some (.pointer none))(Bf:w.shape? b=some (268,2))(hfz:w.frozen? ⟨b,0,none⟩=false) :
  Calls Tryz.prog 249 #[.pointer (some ⟨b,0,none⟩)] w fun e w'=>e=.returned (.tuple #[])/\w'=w.setCell ⟨b,0,none⟩ (.pointer (some ⟨b,0,none⟩)):=by
 obtain⟨j,hj,CS⟩:=Option.map_eq_some_iff.1 tI;go_enter Tryz.func249,Tryz.ntmps249;go_wp2;rw [Lib.run_to_unsafe w ⟨b,0,none⟩ Tryz.underlying266 Tryz.underlying316 hj (by rw [CS];decide) Bf (Nat.zero_lt_succ 1)];simp only [Result.andThen];rw [Oper.upon_value];go_wp2;rw [run_callFunc_extern Tryz.func276 (by kernel_rfl) (by kernel_rfl) (by kernel_rfl) (e:=Extern.AbiNoEscape.same) (by kernel_rfl)];rw [Lib.run_noEscape];simp only [Result.andThen];rw [Oper.upon_value];go_wp2;rw [Lib.run_from_unsafe w ⟨b,0,none⟩ Tryz.underlying316 Tryz.underlying266 hj Bf AeL];simp only [Result.andThen];rw [Oper.upon_value];go_wp2
 go_end0
 exact⟨rfl,rfl⟩
abbrev G2(B b:Nat)(bs:List Value)(w:World):Prop:=Lib.IsBuilder 268 5 B b bs w
theorem tJ(B b:Nat)(bs:List Value)(w:World)(h:G2 B b bs w) :
  Calls Tryz.prog 249 #[.pointer (some ⟨b,0,none⟩)] w fun e w'=>e=.returned (.tuple #[])/\(Lib.BuilderAt 268 5 B b (.pointer (some ⟨b,0,none⟩)) bs w'/\Below B w w'/\Lib.OthersKept 5 (some b) w w'):=by
 rcases h with h|h
 ·refine(AeM b w h.cell0 h.shape h.frozen0).mono ?_;rintro e w' ⟨rfl,rfl⟩;exact⟨rfl,h.used _,(Below.refl B w).setCell (p:=⟨b,0,none⟩) h.1 _,(Lib.OthersKept.refl _ (some b) w).setCell ⟨b,0,none⟩ rfl _⟩
 ·refine(AeN b w h.cell0).mono ?_;rintro e w' ⟨rfl,rfl⟩;exact⟨rfl,h,Below.refl B _,Lib.OthersKept.refl _ _ _⟩
theorem Api(B b:Nat)(bs:List Value)(c:Int)(w:World)(h:G2 B b bs w)(hlen:bs.length+1<=140737488355328)(eR:B<=w.heap.size) :
  Calls Tryz.prog 217 #[.pointer (some ⟨b,0,none⟩),.int .u8 c] w fun e w'=>e=.returned .nilIface/\(G2 B b (bs ++ [.int .u8 c]) w'/\Below B w w'/\Lib.OthersKept 5 (some b) w w'):=by
 obtain⟨i0,hi,hz0,hz1,hz2⟩:=info_parts tU;go_enter Tryz.func217,Tryz.ntmps217
 go_wp2_with (go_at_call 249;refine(tJ B b bs _ h).mono ?_)
 rintro e w1 ⟨rfl,h1,hb1,ho1⟩;obtain⟨hB,v,H9,hown,hne⟩:=h1;have c0:w1.cell? ⟨b,0,none⟩=some (.pointer (some ⟨b,0,none⟩)):=(by rw [Lib.cell_of_heap H9];rfl);have c1:w1.cell? ⟨b,1,none⟩=some v:=by rw [Lib.cell_of_heap H9];rfl
 go_wp2_with (at_builtin;refine wpList_append_own _ rfl _ _ 85 rfl B 5 i0 (.int .u8 0) 1 1 Tryz.underlying85 hi hz0 hz1 hz2 rfl (by decide) _ _ _ rfl (hown.alloc _) ⟨w1.heap.size,0,none⟩ 1 1 [.int .u8 c] rfl rfl ?c1 ?c2 ?c3 ?c4 ?c5 ?_)
 case c1=>
  intro j u hj
  match j,hj with
  | 0,hj=>simp at hj;subst hj;simp [Addr.add]
 case c2=>intro u hu;simp at hu;subst hu;rfl
 case c3=>unfold maxLen;omega
 case c4=>omega
 case c5=>have:=hb1.size;simp;omega
 intro v' w2 hown' hgrow _
 have hlt:b<w1.heap.size:=by
  rcases Nat.lt_or_ge b w1.heap.size with h'|h'
  ·exact h'
  ·simp [Array.getElem?_eq_none h']at H9
 have hb2:w2.heap[b]?=some (.cells #[.pointer (some ⟨b,0,none⟩),v] 268 (0,0)):=by rw [hgrow.block b (by simp;omega) (fun e=>hne e.symm),Lib.alloc_old w1 _ b hlt];exact H9
 have d0:w2.cell? ⟨b,0,none⟩=some (.pointer (some ⟨b,0,none⟩)):=(by rw [Lib.cell_of_heap hb2];rfl);have d1:w2.cell? ⟨b,1,none⟩=some v:=(by rw [Lib.cell_of_heap hb2];rfl);have f1:w2.frozen? ⟨b,1,none⟩=false:=Lib.frozen_of_heap hb2 1
 obtain⟨g,cap,rfl⟩:∃g cap,v'=.slice (some ⟨g,0,none⟩) (bs.length+1) cap:=by
  rcases hown'.2 with⟨_,h0⟩|⟨g,cap,cur,hv,_⟩
  ·omega
  ·exact⟨g,cap,hv⟩
 go_wp2;go_ret;refine⟨rfl,.inr ?_,?_,?_⟩
 ·exact Lib.BuilderAt.put (T:=268) (e:=5) hB hb2 (bs':=bs ++ [.int .u8 c]) (by simpa using hown') (by decide)
 ·exact((hb1.alloc (by have:=hb1.size;omega) _).grown hgrow (by have:=hb1.size;simp;omega) (fun k hk=>(hown.lt k hk).1)).setCell (p:=⟨b,1,none⟩) hB _
 ·exact((ho1.alloc _).grown hgrow (Z1 (hown.alloc _))).setCell ⟨b,1,none⟩ rfl _
theorem Sk(B b:Nat)(bs:List Value)(s:ByteArray)(w:World)(h:G2 B b bs w)(hlen:bs.length+s.size<=140737488355328)(eR:B<=w.heap.size) :
  Calls Tryz.prog 220 #[.pointer (some ⟨b,0,none⟩),.string s] w fun e w'=>e=.returned (.tuple #[.int .i64 s.size,.nilIface])/\(G2 B b (bs++Lib.strCells s) w'/\Below B w w'/\Lib.OthersKept 5 (some b) w w'):=by
 obtain⟨i0,hi,hz0,hz1,hz2⟩:=info_parts tU;go_enter Tryz.func220,Tryz.ntmps220
 go_wp2_with (go_at_call 249;refine(tJ B b bs _ h).mono ?_)
 rintro e w1 ⟨rfl,h1,hb1,ho1⟩;obtain⟨hB,v,H9,hown,hne⟩:=h1;have c0:w1.cell? ⟨b,0,none⟩=some (.pointer (some ⟨b,0,none⟩)):=(by rw [Lib.cell_of_heap H9];rfl);have c1:w1.cell? ⟨b,1,none⟩=some v:=by rw [Lib.cell_of_heap H9];rfl
 go_wp2_with (at_builtin;refine Lib.wpList_append_own_string _ rfl _ _ 85 9 rfl B 5 i0 Tryz.underlying85 Tryz.underlying9 hi hz0 hz1 hz2 _ _ _ rfl hown s rfl ?c3 ?c4 ?c5 ?_)
 case c3=>unfold maxLen;omega
 case c4=>omega
 case c5=>have:=hb1.size;omega
 intro v' w2 hown' hgrow _
 have hlt:b<w1.heap.size:=by
  rcases Nat.lt_or_ge b w1.heap.size with h'|h'
  ·exact h'
  ·simp [Array.getElem?_eq_none h']at H9
 have hb2:w2.heap[b]?=some (.cells #[.pointer (some ⟨b,0,none⟩),v] 268 (0,0)):=by rw [hgrow.block b hlt (fun e=>hne e.symm)];exact H9
 have d0:w2.cell? ⟨b,0,none⟩=some (.pointer (some ⟨b,0,none⟩)):=(by rw [Lib.cell_of_heap hb2];rfl);have d1:w2.cell? ⟨b,1,none⟩=some v:=(by rw [Lib.cell_of_heap hb2];rfl);have f1:w2.frozen? ⟨b,1,none⟩=false:=Lib.frozen_of_heap hb2 1
 obtain⟨ao,n',cap,rfl⟩:∃ao n' cap,v'=.slice ao n' cap:=by
  rcases hown'.2 with⟨hv,_⟩|⟨g,cap,cur,hv,_⟩
  ·exact⟨_,_,_,hv⟩
  ·exact⟨_,_,_,hv⟩
 go_wp2;go_ret2;refine⟨rfl,.inr ?_,?_,?_⟩
 ·exact Lib.BuilderAt.put (T:=268) (e:=5) hB hb2 (bs':=bs++Lib.strCells s) (by simpa [Lib.strCells_length]using hown') (by decide)
 ·exact(hb1.grown hgrow (by have:=hb1.size;omega) (fun k hk=>(hown.lt k hk).1)).setCell (p:=⟨b,1,none⟩) hB _
 ·exact(ho1.grown hgrow (Z1 hown)).setCell ⟨b,1,none⟩ rfl _
end Go.Proofs.YtdaefncphfeaeaaGreatDoor
namespace Go.Proofs.YtdaefncphfeaeaaGreatDoor
open Go.RowKit Kl Go.Lib Go.Sort
theorem AgJ(u:Nat)(Pw:u<18446744073709551616)(w:World)(hw:Ai w):Calls Tryz.prog 251 #[.int .u64 u,.int .i64 10] w (A0 (D u) w):=by
 have htab:=hw.pow;by_cases hs:u<100
 ·go_enter Tryz.func251,Tryz.ntmps251
  go_wp2_with (go_at_call 257;refine(Tryz.internal_strconv_small u hs _).mono ?_;rintro e w' ⟨rfl,rfl⟩)
  go_ret;exact⟨rfl,Aa.refl _⟩
 ·have hu1:1<=u:=(by omega);have AqR:Lib.nDigits u<=20:=(by have:=Lib.numDigits_eq u hu1 Pw;split at this<;>omega);have hb3:Lib.nDigits u<=23:=(by omega);have He:Tryz.prog.arrayLen 301=24:=by simp [Program.arrayLen,Tryz.underlying301]
  have Arn:∀W,(Instr.sliceAt 301 (.pointer (some ⟨w.heap.size,0,none⟩)) none (some (.int .i64 (Lib.nDigits u:Int))) none).run Tryz.prog W=.ok (.slice (some ⟨w.heap.size,0,none⟩) (Lib.nDigits u) 24) W:=fun W=>by
   rw [run_sliceAt_array_h W 301 ⟨w.heap.size,0,none⟩ (by simp [Program.arrayLen,Program.elem,Tryz.underlying301]) .i64 (Lib.nDigits u:Int) (by omega) (by rw [He];omega)]
   go_simp
  have eX:Holds (fun (b:UInt8)=>Value.int .u8 (b.toNat:Int)) (w.alloc (.cells Lib.zeros24 301)) w.heap.size 0 (Array.replicate (Lib.nDigits u) 0):=Lib.holds_zero0 w _ _ (by omega);have ig:=Tryz.internal_strconv_formatBase10 w.heap.size 0 24 u (Array.replicate (Lib.nDigits u) 0) (w.alloc (.cells Lib.zeros24 301)) eX (by rw [Array.size_replicate];exact Lib.lt_pow_nDigits u) Pw (by rw [Array.size_replicate];omega);rw [Array.size_replicate]at ig;have qN:=Asb eX;clear eX He;go_enter Tryz.func251,Tryz.ntmps251
  go_wp2_with (go_at_call 258;refine(Tryz.internal_strconv_numDigits u hu1 Pw _ (Lib.tabIs_alloc htab _)).mono ?_;rintro e w' ⟨rfl,rfl⟩)
  go_at_call 259
  refine ig.mono ?_;rintro e w' ⟨rfl,k,v',dk,rfl,hF⟩
  have hcv:(convert 85 9 (.slice (some ⟨w.heap.size,0,none⟩) (Lib.nDigits u) 24)).run Tryz.prog ((putRow (fun (b:UInt8)=>Value.int .u8 (b.toNat:Int)) (w.alloc (.cells Lib.zeros24 301)) w.heap.size 0 dk).drewN k)=.ok (.string ⟨(Lib.decDigits u).toArray⟩) ((putRow (fun (b:UInt8)=>Value.int .u8 (b.toNat:Int)) (w.alloc (.cells Lib.zeros24 301)) w.heap.size 0 dk).drewN k):=by
   have h:=run_convert_bytes_back (P:=Tryz.prog) ((putRow (fun (b:UInt8)=>Value.int .u8 (b.toNat:Int)) (w.alloc (.cells Lib.zeros24 301)) w.heap.size 0 dk).drewN k) 85 9 5 ⟨w.heap.size,0,none⟩ 24 (Lib.decDigits u) Tryz.underlying85 Tryz.underlying5 Tryz.underlying9 (fun j hj=>by
    rw [Lib.row_is_numeral hF j hj,Lib.add_plain,World.cell?_drewN]
    exact cell?_putRow (fun (b:UInt8)=>Value.int .u8 (b.toNat:Int)) _ w.heap.size 0 _ dk qN.out (by rw [hF.size,Array.size_replicate]) j (by rw [hF.size];rw [Lib.decDigits_length]at hj;exact hj))
   rw [Lib.decDigits_length]at h;exact h
  go_wp2;go_ret;obtain⟨os,eo⟩:=Lib.fin_at w (.cells Lib.zeros24 301) dk k 0;exact⟨rfl,eo▸vX w k os⟩
theorem wS(u:Nat)(Pw:u<18446744073709551616)(w:World)(hw:Ai w):Calls Tryz.prog 219 #[.int .u64 u,.int .i64 10] w (A0 (D u) w):=by
 go_enter Tryz.func219,Tryz.ntmps219;(go_wp2_with fail);refine(AgJ u Pw _ hw).mono ?_;rintro e w1 ⟨rfl,hx⟩;go_wp2;go_ret;exact⟨rfl,hx⟩
/-! ### Parsing -/
theorem AoO(a:Nat)(r:Bs):a<=Ec a r:=by
 rw [AbG];have:a*1<=a*10^r.length:=Nat.mul_le_mul_left _ (Nat.one_le_pow _ _ (by omega));omega
theorem Z5(m:Nat)(hm:m<18446744073709551616):∀(l:Bs) (acc:Nat),BP l→Lib.parseUintM m acc l=if l = []∨Ec acc l<=m then .ok (Ec acc l)else .range
 | [],acc,_=>by simp [Lib.parseUintM,Ec]
 | c::r,acc,h=>by
  rw [WB]at h;have hc:48<=c.toNat/\c.toNat<=57:=h.1;have hd:=eB h.1;rw [pH];have h1:=AoO (acc*10+dv c) r;have ih:=Z5 m hm r (acc*10+dv c) h.2;have e:c.toNat-48=dv c:=rfl;rw [Lib.parseUintM,if_pos hc,e];by_cases h2:1844674407370955162<=acc
  ·rw [if_pos h2,if_neg (by simp;omega)]
  ·rw [if_neg h2];by_cases h3:m<acc*10+dv c
   ·rw [if_pos h3,if_neg (by simp;omega)]
   ·rw [if_neg h3,ih];by_cases h4:Ec (acc*10+dv c) r<=m
    ·rw [if_pos (.inr h4),if_pos (.inr h4)]
    ·rw [if_neg (by simp;exact⟨fun e=>h4 (by rw [e];simpa [Ec]using h3),by omega⟩),if_neg (by simp;omega)]
theorem Aaa:∀(l:Bs) (acc:Nat),Lib.parseUint10 acc l=Lib.parseUintM 18446744073709551615 acc l
 | [],acc=>rfl
 | c::r,acc=>by
  rw [Lib.parseUint10,Lib.parseUintM,Aaa r];by_cases h:48<=c.toNat/\c.toNat<=57
  ·rw [if_pos h,if_pos h];by_cases h2:1844674407370955162<=acc
   ·rw [if_pos h2,if_pos h2]
   ·rw [if_neg h2,if_neg h2];by_cases h3:18446744073709551616<=acc*10+(c.toNat-48)
    ·rw [if_pos h3,if_pos (by omega)]
    ·rw [if_neg h3,if_neg (by omega)]
  ·rw [if_neg h,if_neg h]
theorem AlR{l:Bs}(hne:l≠[])(h:BP l)(hv:val l<18446744073709551616):Lib.parseUintB 64 l=.ok (val l):=by
 unfold Lib.parseUintB;rw [if_neg hne,Z5 _ (by omega) l 0 h,if_pos (.inr (by show val l<=18446744073709551615;omega))]
 rfl
theorem Aae(l:Bs)(hne:l≠[])(h:BP l)(hv:val l<18446744073709551616)(hl:l.length<1000000)(w:World) :
  Calls Tryz.prog 215 #[S l,.int .i64 10,.int .i64 64] w (Bg (.tuple #[.int .u64 (val l:Nat),.nilIface]) w):=
 (Tryz.strconv_ParseUint_10_at64_ok _ (by rw [IR];omega) (val l) (AlR hne h hv) w).mono fun _ _ ⟨h1,h2⟩=>⟨h1,by rcases h2 with rfl|rfl;exact Aa.refl _;exact vW w _⟩
theorem pZ(n:Nat):∃c r,D n=c::r/\¬(c.toNat=43∨c.toNat=45)/\c.toNat≠45:=by
 match hd:D n,IX n with
 | c::r,_=>have:=C7 n c (by rw [hd];simp);have h1:=this.1;exact⟨c,r,rfl,by omega,by omega⟩
theorem Aad(n:Nat):Lib.parseMag (D n)=if n<18446744073709551616 then .ok n else .range:=by
 unfold Lib.parseMag;rw [if_neg (IX n),Aaa,Z5 _ (by omega) _ 0 (C7 n)];have e:Ec 0 (D n)=n:=F3 n;rw [e];by_cases h:n<18446744073709551616
 ·rw [if_pos h,if_pos (.inr (by omega))]
 ·rw [if_neg h,if_neg (by simp;exact⟨IX n,by omega⟩)]
theorem Ae2(z:Int):Lib.atoiAll (I z)=if -9223372036854775808<=z/\z<=9223372036854775807 then .ok z else .range:=by
 rcases Ed z with⟨n,rfl,e⟩|⟨n,hn,rfl,e⟩
 ·obtain⟨c,r,hd,h1,h2⟩:=pZ n;have hp:=Aad n;rw [e];rw [hd]at hp ⊢;unfold Lib.atoiAll;simp only [if_neg h1,hp];by_cases h:n<18446744073709551616
  ·rw [if_pos h];simp only [h2,not_false_eq_true,true_and,false_and,if_false];by_cases h3:9223372036854775808<=n
   ·rw [if_pos h3,if_neg (by omega)]
   ·rw [if_neg h3,if_pos (by omega)]
  ·rw [if_neg h];rw [if_neg (by omega)]
 ·have hp:=Aad n;rw [e];unfold Lib.atoiAll;have eM:(45:UInt8).toNat=45:=rfl;simp only [eM,or_true,if_true,hp];by_cases h:n<18446744073709551616
  ·rw [if_pos h];simp only [not_true_eq_false,true_and,false_and,if_false];by_cases h3:9223372036854775808<n
   ·rw [if_pos h3,if_neg (by omega)]
   ·rw [if_neg h3,if_pos (by omega)]
  ·rw [if_neg h];rw [if_neg (by omega)]
theorem G3{z:Int}{k:Nat}(hk:0<k)(h:z.natAbs<10^k):(I z).length<=k+1:=by
 rcases Ed z with⟨n,rfl,e⟩|⟨n,hn,rfl,e⟩
 ·rw [e];have:=Ck hk (n:=n) (by simpa using h);omega
 ·rw [e,List.length_cons];have:=Ck hk (n:=n) (by simpa using h);omega
theorem vV{w w':World}(h:w'=w∨∃t,w'=Lib.bytesWorld w 5 t):Aa w w':=by
 rcases h with rfl|⟨t,rfl⟩
 ·exact Aa.refl _
 ·exact vW w _
theorem O6(z:Int)(h0:-9223372036854775808<=z)(h1:z<=9223372036854775807)(w:World) :
  Calls Tryz.prog 57 #[S (I z)] w (Bg (.tuple #[.int .i64 z,.nilIface]) w):=
 (Tryz.strconv_Atoi_ok _ (by have:=G3 (z:=z) (k:=20) (by omega) (by omega);rw [IR];omega) z (by show Lib.atoiAll (I z)=_;rw [Ae2,if_pos ⟨h0,h1⟩]) w).mono fun _ _ ⟨h1,h2⟩=>⟨h1,vV h2⟩
def AdN(k:IntKind)(w:World)(e:Ending)(w':World):Prop:=∃(n:Int) (t:TypeId) (p:Value),e=.returned (.tuple #[.int k n,.iface t p])/\Aa w w'
theorem Aab(n:Nat):Lib.parseUintB 64 (D n)=if n<18446744073709551616 then .ok n else .range:=by
 unfold Lib.parseUintB;rw [if_neg (IX n),Z5 _ (by omega) _ 0 (C7 n)];have e:Ec 0 (D n)=n:=F3 n;have e2:(2:Nat)^64-1=18446744073709551615:=(by decide);rw [e,e2];by_cases h:n<18446744073709551616
 ·rw [if_pos h,if_pos (.inr (by omega))]
 ·rw [if_neg h,if_neg (by simp;exact⟨IX n,by omega⟩)]
theorem Aac(z:Int):Lib.parseIntB 64 (I z)=if -9223372036854775808<=z/\z<=9223372036854775807 then .ok z else .range:=by
 have vN:(2:Nat)^(64-1)=9223372036854775808:=by decide
 rcases Ed z with⟨n,rfl,e⟩|⟨n,hn,rfl,e⟩
 ·obtain⟨c,r,hd,h1,h2⟩:=pZ n;have hp:=Aab n;rw [e];rw [hd]at hp ⊢;unfold Lib.parseIntB;simp only [if_neg h1,hp];by_cases h:n<18446744073709551616
  ·rw [if_pos h];simp only [h2,not_false_eq_true,true_and,false_and,if_false,vN];by_cases h3:9223372036854775808<=n
   ·rw [if_pos h3,if_neg (by omega)]
   ·rw [if_neg h3,if_pos (by omega)]
  ·rw [if_neg h];rw [if_neg (by omega)]
 ·have hp:=Aab n;rw [e];unfold Lib.parseIntB;have eM:(45:UInt8).toNat=45:=rfl;simp only [eM,or_true,if_true,hp];by_cases h:n<18446744073709551616
  ·rw [if_pos h];simp only [not_true_eq_false,true_and,false_and,if_false,vN];by_cases h3:9223372036854775808<n
   ·rw [if_pos h3,if_neg (by omega)]
   ·rw [if_neg h3,if_pos (by omega)]
  ·rw [if_neg h];rw [if_neg (by omega)]
theorem AlP(z:Int)(h0:-9223372036854775808<=z)(h1:z<=9223372036854775807)(w:World) :
  Calls Tryz.prog 238 #[S (I z),.int .i64 10,.int .i64 64] w (Bg (.tuple #[.int .i64 z,.nilIface]) w):=
 (Tryz.strconv_ParseInt_10_at64_ok _ (by have:=G3 (z:=z) (k:=20) (by omega) (by omega);rw [IR];omega) z (by show Lib.parseIntB 64 (I z)=_;rw [Aac,if_pos ⟨h0,h1⟩]) w).mono fun _ _ ⟨h1,h2⟩=>⟨h1,vV h2⟩
theorem AlQ(z:Int)(h:¬(-9223372036854775808<=z/\z<=9223372036854775807))(hl:(I z).length<1000000)(w:World)(hw:Ai w) :
  Calls Tryz.prog 238 #[S (I z),.int .i64 10,.int .i64 64] w (AdN .i64 w):=by
 obtain⟨tp,p,hv⟩:=hw.rng;exact(Tryz.strconv_ParseInt_10_at64_range_var _ (by rw [IR];omega) (by show Lib.parseIntB 64 (I z)=_;rw [Aac,if_neg h]) tp p w hv).mono fun _ _ ⟨N,h1,_,_,h2⟩=>⟨_,_,_,h1,h2⟩
end Go.Proofs.YtdaefncphfeaeaaGreatDoor
