/- Z10: E4 E5 E6. -/
import Derived.Test.YtdaefncphfeaeaaGreatDoorZ07
set_option maxRecDepth 100000
set_option maxHeartbeats 8000000
namespace Go.Proofs.YtdaefncphfeaeaaGreatDoor
open Go.RowKit Kl
def Ad8(p q:List Nat)(k:Int)(w:World)(o i:Value)(wr:World):Prop:=
 ∃(n:Nat) (out:List Int),Ix p q k n out/\i=.int .i64 (n:Nat)/\wr.ownsRow w.heap.size 3 1 o out.length (zs out)/\Aa w wr
theorem nF{w:World}{base:Nat}{e:TypeId}{v:Value}{n:Nat}{l:List Int}(h:w.ownsRow base e 1 v n (zs l)) :
  ∃A c,v=.slice A n c/\(0<n→∃g,A=some ⟨g,0,none⟩/\base<=g)/\n<=c/\c<=9223372036854775807:=by
 rcases h.2 with⟨rfl,h0⟩|⟨g,cap,cur,rfl,hb,_,hn,hm,_,_⟩
 ·exact⟨none,0,by rw [h0],by omega,by omega,by omega⟩
 ·exact⟨some ⟨g,0,none⟩,cap,rfl,fun _=>⟨g,rfl,hb⟩,hn,hm⟩
theorem AmZ(p q:List Nat)(k:Int)(N M:Nat)(hM:M<=50000)(Jk:N<10000^M)(hN:(Ah 10000 p:Int)+k*(Ah 10000 q:Nat)=(N:Int))(Bv:-10000<=k)(hk2:k<=10000)
  (hp:∀x∈p,x<10000) (hq:∀x∈q,x<10000) (hpl:p.length<=20000) (EG:q.length<=20000) (u v:Value) (w:World) (hu:RZ w u (zn p)) (hv:RZ w v (zn q)) :
  Calls Tryz.prog 107 #[u,v,.int .i64 k,.int .i64 0] w (LD N w):=by
 obtain⟨B,cb,rfl,Bo⟩:=hv;have hcb:=Bo.cap;have Me:=Bo.max;rw [AW]at hcb ⊢;have HN:=Asb hN;have HM:=Asb Jk;have HP:=Asb hp;have HQ:=Asb hq;clear hN Jk hp hq;have how:(w.alloc (.cells #[] 3)).ownsRow w.heap.size 3 1 (.slice (some ⟨w.heap.size,0,none⟩) 0 0) 0 (zs []):=zg w w.heap.size [] (Asf _) (by simp);have hu1:=hu.ext ((Aa.refl w).alloc (.cells #[] 3));obtain⟨A,ca,rfl,B5⟩:=hu;rw [AW]at hu1 ⊢;go_enter Tryz.func107,Tryz.ntmps107
 go_wp2_with (at_builtin;go_loud (refine sR rfl _ _ rfl (w.alloc (.cells #[] 3)) w.heap.size (.slice (some ⟨w.heap.size,0,none⟩) 0 0) 0 [] rfl how (zn p) (.slice A p.length ca) rfl hu1 (by rw [AW];omega) (by simp) ?_;intro v1 w1 hown1 hx1))
 have hx1:=hx1 w ((Aa.refl w).alloc _) (Asf _);rw [List.nil_append,AW,Nat.zero_add]at hown1;clear how hu1 B5
 go_loopw [9,10] (fun o i wr=>Ad8 p q k w o i wr) (fun _ i _=>q.length-(intOf i).toNat)
 case atStart=>exact⟨0,zn p,Ix.start HP.out q k,rfl,by rw [AW];exact hown1,hx1⟩
 case round=>
  clear hown1 hx1;obtain⟨i,out,hJ,rfl,hown,Ac⟩:=hrel;have hsz:=Ac.size;have hle:=hJ.le;have FQ:=hJ.len;have hl2:=hJ.len2;by_cases hi:i<q.length
  ·go_wp2
   go_loopw [9] (fun o wr=>∃out,Ix p q k i out/\wr.ownsRow w.heap.size 3 1 o out.length (zs out)/\Aa w wr) (fun o _=>i+1-(match o with | .slice _ n _=>n|_=>0))
   case atStart=>exact⟨out,hJ,hown,Ac⟩
   case round=>
    clear hJ hown Ac hsz FQ hl2;obtain⟨out,hJ,hown,Ac⟩:=hrel;have hsz:=Ac.size;have FQ:=hJ.len;have hl2:=hJ.len2;obtain⟨A1,c1,Dk,YL,hc1,hc2⟩:=nF hown;by_cases hlo:out.length<=i
    ·subst Dk
     go_wp2_with (at_builtin;refine Ql rfl _ _ rfl wr w.heap.size (.slice A1 out.length c1) out.length out rfl hown (by omega) _ 0 rfl rfl hsz ?_;intro v2 w2 hown2 hx2)
     obtain⟨A2,c2,hf2,_,_,_⟩:=nF hown2;subst hf2;go_roundw
     case rel=>exact⟨out ++ [0],hJ.grow hlo,by rw [List.length_append];exact hown2,hx2 _ Ac (Asf _)⟩
     case measure=>simp;omega
    ·have jx:i<out.length:=(by omega);obtain⟨g1,rfl,hg1⟩:=YL (by omega);subst Dk
     have hgo:wr.cell? ⟨g1,i,none⟩=some (.int .i64 (az out i)):=by rw [hown.cellAt i (by omega)];exact PQ jx
     have Jp:=hown.frozenAt i;obtain⟨bb,ob,rfl,DX⟩:=Bo.ad (by rw [AW];omega);have hgb:=Ac.cellS (DX i (by rw [AW];omega));rw [JI]at hgb;have hst:=(hown.stored i (.int .i64 (az out i+k*(Ag q i:Nat)))).1;rw [pR]at hst;have HST:=Asb hst;have hstep:=hJ.step hi jx HQ.out Bv hk2;have L8:=Asb hstep;have kh:=xr Bv hk2 (Cd HQ.out hi);have C6:=hJ.bd i;clear DX hst hstep;obtain⟨x,hx⟩:=AcG (az out i);obtain⟨y,hy⟩:∃y,k*(Ag q i:Nat)=y:=⟨_,rfl⟩;rw [←hx]at hgo C6 HST L8;rw [hy]at kh HST L8;clear hx;have hw1:IntKind.i64.wrap y=y:=Asm _ (by omega);have hw2:IntKind.i64.wrap (x+y)=x+y:=Asm _ (by omega);have KR:(0:Int)<=(i:Int):=(by omega);have Pg:(i:Int)<(out.length:Int):=(by omega);have Ma:(i:Int)<(q.length:Int):=(by omega);(go_wp2_with fail)
     go_region
     go_wp2;go_roundw
     case rel=>exact⟨i+1,_,L8.out,by go_num,Rx (by simpa using HST.out),(Ac.setCell (p:=⟨g1,i,none⟩) hg1 _).drew⟩
     case measure=>simp [intOf];omega
  ·obtain rfl:i=q.length:=(by omega);obtain⟨hs1,hs2,hs3⟩:=hJ.done;rw [HN.out]at hs1;have cr:=fun v W=>Aa2 out N M hM HM.out hs1 (by omega) hs2 v W;have Gc:=Asb hs2;clear hs1 hs2 hi;have AU:RZ wr u9 out:=RZ.of_own hown rfl (by omega);(go_wp2_with fail);(with_reducible refine(cr _ _ AU).mono ?_);rintro e w2 ⟨v2,rfl,hv2,hx2⟩;go_wp2;go_ret;exact⟨v2,rfl,hv2,Ac.trans hx2⟩
theorem PK(p q:Nat)(k:Int)(N M:Nat)(hM:M<=50000)(Jk:N<10000^M)(hN:(p:Int)+k*(q:Nat)=(N:Int))(Bv:-10000<=k)(hk2:k<=10000)
  (hpl:(pc 10000 p).length<=20000) (EG:(pc 10000 q).length<=20000) (u v:Value) (w:World) (hu:RZ w u (zn (pc 10000 p))) (hv:RZ w v (zn (pc 10000 q))) :
  Calls Tryz.prog 107 #[u,v,.int .i64 k,.int .i64 0] w (LD N w):=
 AmZ _ _ k N M hM Jk (by rw [AM (by omega),AM (by omega)];exact hN) Bv hk2 (AX (by omega) p) (AX (by omega) q) hpl EG u v w hu hv
theorem Alc{x y:Nat}(hx:x<10000)(hy:y<10000):x*y<=100000000:=Asq (Nat.mul_le_mul (Nat.le_of_lt hx) (Nat.le_of_lt hy)) (by omega)
theorem Anm(p q:List Nat)(M:Nat)(hM:M<=50000)(Jk:Ah 10000 p*Ah 10000 q<10000^M)(hp:∀x∈p,x<10000)(hq:∀x∈q,x<10000)(hpl:p.length<=20000)(EG:q.length<=20000)
  (u v:Value) (w:World) (hu:RZ w u (zn p)) (hv:RZ w v (zn q)) :
  Calls Tryz.prog 110 #[u,v] w (LD (Ah 10000 p*Ah 10000 q) w):=by
 obtain⟨A,ca,rfl,B5⟩:=hu;obtain⟨B,cb,rfl,Bo⟩:=hv;have FH:=B5.cap;have Jr:=B5.max;have hcb:=Bo.cap;have Me:=Bo.max;rw [AW]at FH hcb ⊢;rw [AW];have hmk:=UX (p.length+q.length) (by omega) ((p.length:Int)+(q.length:Int)) (by omega);have how:=Vo w w.heap.size (p.length+q.length) (Asf _) (by omega);have HM:=Asb Jk;have HP:=Asb hp;have HQ:=Asb hq;clear Jk hp hq;go_enter Tryz.func110,Tryz.ntmps110;go_wp2;clear hmk;obtain⟨N,hN⟩:=AcG (p.length+q.length);rw [←hN]at how ⊢;have HN:=Asb hN;clear hN;obtain⟨H,hH⟩:=AcG w.heap.size;rw [←hH]at how;simp only [←hH];have HH:=Asb hH;clear hH
 go_loopw [6] (fun i wr=>∃(n:Nat) (out:List Nat),n<=p.length/\i=.int .i64 (n:Nat)/\MS N n 0 (Ag p n) q out (Ah 10000 (p.take n)*Ah 10000 q)/\wr.ownsRow H 3 1 (.slice (some ⟨H,0,none⟩) N N) N (zs (zn out))/\Aa w wr) (fun i _=>p.length-(intOf i).toNat)
 case atStart=>exact⟨0,List.replicate N 0,by omega,rfl,⟨by omega,by simp,fun j=>by rw [show Ag (List.replicate N 0) j=0 by unfold Ag;rw [List.getD_eq_getElem?_getD];by_cases h:j<N<;>simp [h]];omega,by rw [Vh (fun j hj=>by simp at hj;simp [Ag,hj])];simp [Ah]⟩,how,(Aa.refl w).alloc _⟩
 case round=>
  clear how;obtain⟨i,out,hi,rfl,hT,hown,Ac⟩:=hrel;by_cases hk:i<p.length
  ·obtain⟨ba,oa,rfl,DW⟩:=B5.ad (by rw [AW];omega);have hg0:=DW i (by rw [AW];omega);rw [JI]at hg0;have Ay:=Cd HP.out hk;obtain⟨x,hx⟩:=AcG (Ag p i);rw [←hx]at hg0 Ay hT;have HX:=Asb hx;clear DW hx;go_wp2
   go_loopw [7] (fun k wr=>∃(n:Nat) (out:List Nat),k=.int .i64 (n:Nat)/\MS N i n x q out (Ah 10000 (p.take i)*Ah 10000 q)/\wr.ownsRow H 3 1 (.slice (some ⟨H,0,none⟩) N N) N (zs (zn out))/\Aa w wr) (fun k _=>q.length-(intOf k).toNat)
   case atStart=>exact⟨0,out,rfl,hT,hown,Ac⟩
   case round=>
    clear hT hown Ac;obtain⟨k,out,rfl,hT,hown,Ac⟩:=hrel;have Co:=hT.le;have hg:=Ac.cellS hg0;by_cases hkb:k<q.length
    ·obtain⟨bb,ob,rfl,DX⟩:=Bo.ad (by rw [AW];omega);have hgb:=Ac.cellS (DX k (by rw [AW];omega));rw [JI]at hgb;have hyb:=Cd HQ.out hkb;have XD:=HN.out;have EY:=hT.len
     have hgo:wr.cell? ⟨H,i+k,none⟩=some (.int .i64 (Ag out (i+k):Nat)):=by rw [hown.cellAt (i+k) (by omega),PQ (by rw [AW];omega),JI]
     have Jp:=hown.frozenAt (i+k);have hst:=(hown.stored (i+k) (.int .i64 ((Ag out (i+k)+x*Ag q k:Nat):Int))).1;rw [pR,Acd]at hst;have HST:=Asb hst;have hstep:=hT.step hkb (by omega) Ay HQ.out;have L8:=Asb hstep;have C6:=hT.bd (i+k);rw [if_neg (by omega)]at C6;have hm:=Alc Ay hyb;have OX:Ag out (i+k)<=2000000000000:=Asq C6 (Nat.mul_le_mul_right _ (show i<=20000 by omega));clear DX hst hstep EY XD C6;obtain⟨z,hz⟩:=AcG (Ag out (i+k));obtain⟨y,hy⟩:=AcG (Ag q k);rw [←hz]at hgo OX HST L8;rw [←hy]at hgb hyb hm HST L8;obtain⟨t,ht⟩:=AcG (x*y);rw [←ht]at hm HST L8;have YY:(x:Int)*(y:Int)=(t:Int):=(by rw [ht];simp);have hik:(i:Int)+(k:Int)=((i+k:Nat):Int):=(by omega);clear hz hy ht;obtain⟨j,hj⟩:∃j,i+k=j:=⟨_,rfl⟩;rw [hj]at hgo Jp HST L8 hik;have jQ:(j:Int)<(N:Int):=(by have:=HN.out;omega);have hj0:(0:Int)<=(j:Int):=(by omega);have Ma:(i:Int)<(p.length:Int):=(by omega);have hk2:(k:Int)<(q.length:Int):=(by omega);have hw0:IntKind.i64.wrap (j:Int)=j:=Asm _ (by omega);have hw1:IntKind.i64.wrap (t:Int)=t:=Asm _ (by omega);have hw2:IntKind.i64.wrap ((z:Int)+(t:Int))=(z:Int)+(t:Int):=Asm _ (by omega);clear hj;(go_wp2_with fail)
     go_region
     go_wp2;go_roundw
     case rel=>exact⟨k+1,_,by go_num,L8.out,Rx (by simpa using HST.out),(Ac.setCell (p:=⟨H,j,none⟩) (by have:=HH.out;simp;omega) _).drew⟩
     case measure=>simp [intOf];omega
    ·obtain rfl:k=q.length:=(by omega);have Ep:=hT.next (p:=p) HX.out hk rfl (Ag p (i+1));have VW:=Asb Ep;clear Ep hkb;go_wp2;go_roundw
     case rel=>exact⟨i+1,out,by omega,by go_num,VW.out,hown,Ac⟩
     case measure=>simp [intOf];omega
  ·obtain rfl:i=p.length:=(by omega);have Cy:=hT.sum;rw [List.take_length]at Cy
   have qf:CW (zn out)=((Ah 10000 p*Ah 10000 q:Nat):Int):=by rw [mX,Cy];simp [Ah]
   have EY:=hT.len;have XD:=HN.out
   have C6:∀x∈zn out,-1000000000000000<=x/\x<=1000000000000000:=by intro x hx;simp only [zn,List.mem_map]at hx;obtain⟨y,hy,rfl⟩:=hx;obtain⟨j,hj,rfl⟩:=List.getElem_of_mem hy;have:=hT.bd j;have e:Ag out j=out[j]:=(by simp [Ag,hj]);rw [e]at this;have h2:(if j<p.length+0 then p.length+1 else p.length)*100000000<=20001*100000000:=Nat.mul_le_mul_right _ (by split<;>omega);omega
   have cr:=fun v W=>Aa2 (zn out) _ M hM HM.out qf (by rw [AW];omega) C6 v W;have AU:RZ wr (.slice (some ⟨H,0,none⟩) N N) (zn out):=RZ.of_own hown (by rw [AW];omega) (by rw [AW];omega);have aT:=Asb C6;clear Cy qf EY XD C6 hk;(go_wp2_with fail);(with_reducible refine(cr _ _ AU).mono ?_);rintro e w2 ⟨v2,rfl,hv2,hx2⟩;go_wp2;go_ret;exact⟨v2,rfl,hv2,Ac.trans hx2⟩
theorem Anl(p q M:Nat)(hM:M<=50000)(Jk:p*q<10000^M)(hpl:(pc 10000 p).length<=20000)(EG:(pc 10000 q).length<=20000)(u v:Value)(w:World)(hu:RZ w u (zn (pc 10000 p)))(hv:RZ w v (zn (pc 10000 q))) :
  Calls Tryz.prog 110 #[u,v] w (LD (p*q) w):=by
 have h:=Anm (pc 10000 p) (pc 10000 q) M hM (by rw [AM (by omega),AM (by omega)];exact Jk) (AX (by omega) p) (AX (by omega) q) hpl EG u v w hu hv
 rwa [AM (by omega),AM (by omega)]at h
theorem AlX{l:List Nat}(hl:∀x∈l,x<10000):∃k,k<=l.length/\pc 10000 (Ah 10000 l)=l.take k:=by
 obtain⟨k,hk,hx⟩:∃k,CX l k/\(k=0∨Ag l (k-1)≠0):=by
  have:∀n k,k<=n→CX l k→∃k,CX l k/\(k=0∨Ag l (k-1)≠0):=by
   intro n
   induction n with
   | zero=>intro k hk h;exact⟨k,h,.inl (by omega)⟩
   | succ n ih=>
    intro k hk h;by_cases h0:k=0
    ·exact⟨k,h,.inl h0⟩
    ·by_cases hx:Ag l (k-1)=0
     ·exact ih (k-1) (by omega) (h.step h0 hx)
     ·exact⟨k,h,.inr hx⟩
  exact this l.length l.length (Asf _) (CX.start l)
 exact⟨k,hk.1,(hk.done4 hl hx).symm⟩
theorem GY.pc4{w:World}{A:Option Addr}{c:Nat}{l:List Nat}(h:GY w A c (zn l))(hl:∀x∈l,x<10000):GY w A c (zn (pc 10000 (Ah 10000 l))):=by
 obtain⟨k,hk,e⟩:=AlX hl;obtain⟨A',c',e1,h1⟩:=h.takeN hk;simp only [Value.slice.injEq]at e1;obtain⟨rfl,_,rfl⟩:=e1;rw [e];exact h1
theorem GY.setCell{w:World}{A:Option Addr}{c:Nat}{l:List Int}(h:GY w A c l){p:Addr}(u:Value)(hp:∀b o,A=some ⟨b,o,none⟩→b≠p.block):GY (w.setCell p u) A c l:=
 ⟨h.cap,h.max,h.len,fun h0=>by
  obtain⟨b,o,e,hc⟩:=h.ad h0;refine⟨b,o,e,fun j hj=>?_⟩;rw [World.cell?_setCell_other _ _ _ _ (by rintro rfl;exact hp b o e rfl)]
  exact hc j hj⟩
theorem AmR(l:List Nat)(A:Option Addr)(c n:Nat)(hn:n=l.length)(w:World)(hr:GY w A c (zn l))(hl:∀x∈l,x<10000) :
  Calls Tryz.prog 181 #[.slice A n c] w (fun e w'=>e=.returned (.slice A (pc 10000 (Ah 10000 l)).length c)/\w=w'):=by
 subst hn;have BF:=hr.cap;have hmax:=hr.max;have hlen:=hr.len;rw [AW]at BF hlen;go_enter Tryz.func181,Tryz.ntmps181;go_wp2
 go_loop [0] (fun v=>∃k:Nat,CX l k/\v=.slice A k c) (fun v=>match v with | .slice _ n _=>n|_=>0)
 case atStart=>exact⟨l.length,CX.start l,rfl⟩
 case round=>
  obtain⟨k,hk,rfl⟩:=hrel;have Co:=hk.1;by_cases h0:k=0
  ·subst h0;go_wp2;go_ret;exact⟨by rw [←hk.done4 hl (.inl rfl)];simp,rfl⟩
  ·obtain⟨b,o,rfl,hc⟩:=hr.ad (by rw [AW];omega);have hg:=hc (k-1) (by rw [AW];omega);rw [JI]at hg;clear hc;by_cases hx:Ag l (k-1)=0
   ·rw [hx]at hg;go_wp2
    go_round
    case rel=>exact⟨k-1,hk.step h0 hx,rfl⟩
    case measure=>simp;omega
   ·have hx':(((Ag l (k-1):Nat):Int) == 0)=false:=(by simpa using hx);go_wp2;go_ret;exact⟨by rw [←hk.done4 hl (.inr hx)];show Ending.returned (.slice _ k c)=.returned (.slice _ (l.take k).length c);rw [List.length_take,Nat.min_eq_left Co],rfl⟩
theorem nL(b:Nat)(hb:2<=b):∀(i n:Nat),i<(pc b n).length→Ag (pc b n) i=n/b^i%b
 | i,n,h=>by
  have hn:0<n:=by
   rcases Nat.eq_zero_or_pos n with rfl|h0
   ·rw [Fz]at h;simp at h
   ·exact h0
  rw [R2 hb hn]at h ⊢
  match i with
  | 0=>simp [Ag]
  | i+1=>have ih:=nL b hb i (n/b) (by simpa using h);have e:Ag ((n%b)::pc b (n/b)) (i+1)=Ag (pc b (n/b)) i:=(by simp [Ag]);rw [e,ih,Nat.div_div_eq_div_mul,Nat.pow_succ,Nat.mul_comm]
theorem vI(x i:Nat):x/10000^i=10000*(x/10000^(i+1))+x/10000^i%10000:=by
 have h:=Nat.div_add_mod (x/10000^i) 10000;rw [Nat.div_div_eq_div_mul,←Nat.pow_succ]at h;exact h.symm
def AdS(a b:Nat)(w:World)(e:Ending)(w':World):Prop:=∃v1 v2,e=.returned (.tuple #[v1,v2])/\RZ w' v1 (zn (pc 10000 a))/\RZ w' v2 (zn (pc 10000 b))/\Aa w w'
structure Wn(x y N i:Nat)(out:List Nat):Prop where
 len:out.length=N
 lt:∀z∈out,z<10000
 zero:∀j,j<i→Ag out j=0
 sum:Ah 10000 out=10000^i*(x/10000^i/y)
theorem Wn.step{x y N i d:Nat}{out:List Nat}(h:Wn x y N (i+1) out)(hi:i<N)(hd:x/10000^i/y=10000*(x/10000^(i+1)/y)+d)(N5:d<10000):Wn x y N i (out.set i d):=by
 have hl:=h.len;refine⟨by rw [List.length_set];exact hl,Zk h.lt N5,fun j hj=>?_,?_⟩
 ·rw [sY _ (by omega),if_neg (by omega)];exact h.zero j (by omega)
 ·have hs:=Vg (b:=10000) (l:=out) (j:=i) d (by omega);rw [h.zero i (by omega),h.sum,Nat.mul_zero,Nat.add_zero]at hs;rw [hs,hd,Nat.mul_add,Nat.pow_succ,Nat.mul_assoc]
def AdG(x y N H:Nat)(w:World)(rest i:Value)(wr:World):Prop:=
 ∃(n:Nat) (out:List Nat),n<=N/\Wn x y N n out/\i=.int .i64 ((n:Int)-1)/\RZ wr rest (zn (pc 10000 (x/10000^n%y)))/\wr.ownsRow H 3 1 (.slice (some ⟨H,0,none⟩) N N) N (zs (zn out))/\Aa w wr
theorem Anf(x y:Nat)(hy:0<y)(Lc:(pc 10000 x).length<=20000)(P4:(pc 10000 y).length<=10000)(u v:Value)(w:World)(hu:RZ w u (zn (pc 10000 x)))(hv:RZ w v (zn (pc 10000 y))) :
  Calls Tryz.prog 178 #[u,v] w (AdS (x/y) (x%y) w):=by
 obtain⟨A,ca,rfl,B5⟩:=hu;obtain⟨B,cb,rfl,Bo⟩:=hv;have FH:=B5.cap;have Jr:=B5.max;have hcb:=Bo.cap;have Me:=Bo.max;rw [AW]at FH hcb ⊢;rw [AW];have tu:=mP (b:=10000) (by omega) x;have ug:=mP (b:=10000) (by omega) y;have Gr:=nL 10000 (by omega);obtain⟨N,hN⟩:∃N,(pc 10000 x).length=N:=⟨_,rfl⟩;have VQ:Hid (∀i,i<N→Ag (pc 10000 x) i=x/10000^i%10000):=Asb (fun i hi=>Gr i x (by omega));have HXL:=Asb tu;have Wj:=Asb ug;have Um:=AX (b:=10000) (by omega) x;have bL:=Asb Um;have og:RZ w (.slice B (pc 10000 y).length cb) (zn (pc 10000 y)):=⟨B,cb,by rw [AW],Bo⟩;have bS:=Asb og;rw [hN]at FH Lc ⊢;have HN:=Asb hN;obtain⟨L,hL⟩:∃L,(pc 10000 y).length=L:=⟨_,rfl⟩;rw [hL]at hcb P4 bS Wj ⊢;have Iv:=Asb hL;have hmk:=UX N (by omega) (N:Int) (by omega);have how:=Vo w w.heap.size N (Asf _) (by omega);clear tu ug Gr Um hN hL Bo og;go_enter Tryz.func178,Tryz.ntmps178;go_wp2;clear hmk;obtain⟨H,hH⟩:=AcG w.heap.size;rw [←hH]at how;simp only [←hH];have HH:=Asb hH;clear hH
 go_loopw [7,8] (fun r i wr=>AdG x y N H w r i wr) (fun _ i _=>(intOf i+1).toNat)
 case atStart=>
  have h0:x/10000^N=0:=Nat.div_eq_of_lt (by rw [←HN.out];exact HXL.out);refine⟨N,List.replicate N 0,Asf _,⟨by simp,by intro z hz;rw [List.mem_replicate]at hz;omega,fun j hj=>by simp [Ag,hj],?_⟩,rfl,?_,how,(Aa.refl w).alloc _⟩
  ·rw [h0,Vh (fun j hj=>by simp at hj;simp [Ag,hj])];simp
  ·rw [h0,Nat.zero_mod,Fz];exact RZ.nil _
 case round=>
  clear how;obtain⟨n,out,hn,hP,rfl,Jw,hown,Ac⟩:=hrel;by_cases FS:0<n
  ·obtain⟨i,rfl⟩:∃i,n=i+1:=⟨n-1,by omega⟩;rw [show (((i+1:Nat):Int)-1)=(i:Int)by omega];have ApJ:H<wr.heap.size:=World.block_lt_of_cell? wr ⟨H,i,none⟩ ((hown.cellAt i (by omega)).trans (PQ (by rw [AW,hP.len];omega)));obtain⟨ba,oa,rfl,DW⟩:=B5.ad (by rw [AW,HN.out];omega);have hg:=Ac.cellS (DW i (by rw [AW,HN.out];omega));rw [JI]at hg;obtain⟨p,hp⟩:=AcG (Ag (pc 10000 x) i);have QV:=Cd bL.out (show i<(pc 10000 x).length by rw [HN.out];omega);rw [←hp]at hg QV;have hstep:=vI x i;rw [←VQ.out i (by omega),←hp]at hstep;obtain⟨r,hr⟩:=AcG (x/10000^(i+1)%y);have YK:r<y:=(by rw [hr];exact Nat.mod_lt _ hy);rw [←hr]at Jw;obtain⟨B8,BR⟩:=Amy (x/10000^(i+1)) p y 10000 hy;rw [←hstep,←hr]at B8 BR;have N5:=AfE hy YK QV;obtain⟨t,ht⟩:=AcG (10000*r+p);rw [←ht]at B8 BR N5;have qm:Ah 10000 (p::pc 10000 r)=t:=by rw [Ah,AM (by omega),ht];omega
   have lI:t<10000^(L+1):=by have h1:=Wj.out;have h2:10000*(r+1)<=10000*10000^L:=Nat.mul_le_mul_left _ (by omega);rw [Nat.pow_succ,Nat.mul_comm];omega
   have hrl:(pc 10000 r).length<=L:=Ll (by omega) (Nat.lt_trans YK Wj.out);have Gy:(pc 10000 t).length<=L+1:=Ll (by omega) lI
   have hlc:∀z∈p::pc 10000 r,z<10000:=by
    intro z hz
    rcases List.mem_cons.1 hz with rfl|hz
    ·exact QV
    ·exact AX (by omega) r z hz
   obtain⟨d,hd⟩:=AcG (t/y);rw [←hd]at B8 N5;have yI:=hP.step (d:=d) (by omega) B8 N5;have Wb:=Asb yI;have HD:=Asb hd;have HTO:=Asb qm;have HTL:=Asb lI;have qR:=Asb hlc;have HQ2:=Asb BR;obtain⟨A7,c7,rfl,YH⟩:=Jw;have hw0:(wr.alloc (.cells #[.int .i64 (p:Nat)] 3)).ownsRow wr.heap.size 3 1 (.slice (some ⟨wr.heap.size,0,none⟩) 1 1) 1 (zs [(p:Int)]):=zg wr wr.heap.size [(p:Int)] (Asf _) (by simp);have hx0:=(Aa.refl wr).alloc (.cells #[.int .i64 (p:Nat)] 3);have YL:RZ (wr.alloc (.cells #[.int .i64 (p:Nat)] 3)) (.slice A7 (pc 10000 r).length c7) (zn (pc 10000 r)):=⟨A7,c7,by rw [AW],YH.ext hx0⟩;rw [AW];have N1:=YH.cap;have hm7:=YH.max;rw [AW]at N1;have CS:x/10000^i%y=t%y:=BR;clear DW hp hstep hr B8 BR ht qm lI hlc hd yI CS YH hP
   go_wp2_with (at_builtin;refine sR rfl _ _ rfl (wr.alloc (.cells #[.int .i64 (p:Nat)] 3)) wr.heap.size (.slice (some ⟨wr.heap.size,0,none⟩) 1 1) 1 [(p:Int)] rfl hw0 (zn (pc 10000 r)) (.slice A7 (pc 10000 r).length c7) rfl YL (by rw [AW];omega) (by simp) ?_;intro v1 w1 hown1 hx1)
   have hx1:=hx1 wr hx0 (Asf _);have Po:RZ w1 v1 (zn (p::pc 10000 r)):=RZ.of_own (by exact hown1) (by simp [zn];omega) (by rw [AW];simp;omega);obtain⟨A1,c1,Dk,hbl,_,_⟩:=nF hown1;obtain⟨g1,rfl,hg1⟩:=hbl (by omega)
   have hne:∀b o,some (⟨g1,0,none⟩:Addr)=some ⟨b,o,none⟩→b≠H:=by intro b o e;simp only [Asj,Addr.mk.injEq]at e;omega
   have HNE:=Asb hne;subst Dk;obtain⟨A1',c1',e1,hz1⟩:=Po;simp only [Value.slice.injEq]at e1;obtain⟨rfl,_,rfl⟩:=e1;have cc:=AmR (p::pc 10000 r) _ c1 (1+(zn (pc 10000 r)).length) (by rw [AW];simp;omega) w1 hz1 qR.out;have hz2:=hz1.pc4 qR.out;rw [HTO.out]at cc hz2;clear hown1 YL hw0 hx0 hbl hne hz1;(with_reducible refine cc.mono ?_);rintro e w2 ⟨rfl,rfl⟩;have gh:=Ac.trans hx1;have hown2:=Ap hown hx1;have hc1:=hz2.cap;have hm1:=hz2.max;rw [AW]at hc1;have hv2:RZ w1 (.slice (some ⟨g1,0,none⟩) (pc 10000 t).length c1) (zn (pc 10000 t)):=⟨_,_,by rw [AW],hz2⟩;clear hx1 Ac hown cc hg;go_wp2
   have jn:=fun (m:Nat) (hm:m<=9999)=>PK 0 y (m:Int) (m*y) (L+1) (by omega) (by
    have h1:=Wj.out;rw [Nat.pow_succ,Nat.mul_comm]
    exact Nat.mul_lt_mul'' h1 (by omega)) (by simp) (by omega) (by omega) (by rw [Fz];simp) (by rw [Iv.out];omega) (.slice none 0 0) (.slice B L cb)
   go_loopw [9,10] (fun lo hi wr=>∃a b:Nat,lo=.int .i64 (a:Nat)/\hi=.int .i64 (b:Nat)/\a<=d/\d<=b/\b<=9999/\Aa w1 wr) (fun lo hi _=>(intOf hi).toNat-(intOf lo).toNat)
   case atStart=>exact⟨0,9999,rfl,rfl,by omega,by omega,by omega,Aa.refl _⟩
   case round=>
    obtain⟨a,b,rfl,rfl,had,TR,EB,JY⟩:=hrel;by_cases hab:a<b
    ·obtain⟨m,hm⟩:=AcG ((a+b+1)/2);have FR:((a:Int)+b+1)/2=(m:Int):=(by omega);have Ur:m<=9999:=(by omega);have Jr:a<m:=(by omega);have kh:m<=b:=(by omega);have hm1:(1:Int)<=(m:Int):=(by omega);clear hm;have ol:=(bS.out.ext (gh.trans JY));have j1:=jn m Ur _ (RZ.nil _ |> fun h=>by rw [Fz];exact h) ol;(go_wp2_with fail);(with_reducible refine j1.mono ?_);rintro e w4 ⟨v4,rfl,hv4,Af⟩;have qw:=(hv2.ext JY).ext Af;have ls:=Aa8 t (m*y) _ v4 w4 qw hv4;have iZ:=JY.trans Af;by_cases hlt:t<m*y
     case' pos=>have KJ:d<m:=(by rw [HD.out];exact(Nat.div_lt_iff_lt_mul hy).2 hlt);rw [decide_eq_true hlt]at ls
     case' neg=>have KJ:m<=d:=(by rw [HD.out];exact(Nat.le_div_iff_mul_le hy).2 (by omega));rw [decide_eq_false hlt]at ls
     all_goals
      clear hlt qw hv4 Af j1 ol;(go_wp2_with fail);(with_reducible refine ls.mono ?_);rintro e w5 ⟨rfl,Ae⟩;have gi:=iZ.trans Ae;clear ls;go_wp2;go_roundw
      case rel=>first|exact⟨a,m-1,rfl,by congr 1<;>omega,by omega,by omega,by omega,gi⟩|exact⟨m,b,rfl,rfl,by omega,by omega,by omega,gi⟩
      case measure=>simp [intOf];omega
    ·obtain rfl:a=b:=(by omega);obtain rfl:a=d:=(by omega);have Ait:=gh.trans JY;have Ft:=Ap hown2 JY;have Jp:=Ft.frozenAt i;have hst:=(Ft.stored i (.int .i64 (a:Nat))).1;rw [pR,Acd]at hst;have EY:out.length=N:=(by have:=Wb.out.len;rwa [List.length_set]at this);have hcl:=Ft.cellAt i (by omega);rw [PQ (by rw [AW];omega)]at hcl;have HST:=Asb hst;have hsc:=Ait.setCell (p:=⟨H,i,none⟩) (by have:=HH.out;simp;omega) (.int .i64 (a:Nat));have hv3:RZ (wr.setCell ⟨H,i,none⟩ (.int .i64 (a:Nat))) (.slice (some ⟨g1,0,none⟩) (pc 10000 t).length c1) (zn (pc 10000 t)):=⟨_,_,by rw [AW],(hz2.ext JY).setCell _ HNE.out⟩;have om:=bS.out.ext hsc
     have jQ:((t:Nat):Int)+(-(a:Int))*(y:Nat)=((t%y:Nat):Int):=by have h1:=Nat.div_add_mod t y;rw [←HD.out,Nat.mul_comm]at h1;rw [Int.neg_mul,←Int.natCast_mul];omega
     have jn2:=PK t y (-(a:Int)) (t%y) (L+1) (by omega) (Nat.lt_of_le_of_lt (Nat.mod_le _ _) HTL.out) jQ (by omega) (by omega) (by omega) (by rw [Iv.out];omega) _ _ _ hv3 om;clear hst jn hab jQ hv3 om hv2;(go_wp2_with fail);(with_reducible refine jn2.mono ?_);rintro e w4 ⟨v4,rfl,hv4,Af⟩;have iZ:=hsc.trans Af;go_wp2;go_roundw
     case rel=>exact⟨i,out.set i a,by omega,Wb.out,by go_num,by rw [HQ2.out];exact hv4,Ap HST.out Af,iZ⟩
     case measure=>simp [intOf]
  ·obtain rfl:n=0:=(by omega);have hl:=hP.len;have hs:=hP.sum;simp only [Nat.pow_zero,Nat.div_one,Nat.one_mul]at hs Jw;have AU:RZ wr (.slice (some ⟨H,0,none⟩) N N) (zn out):=RZ.of_own hown (by rw [AW];omega) (by rw [AW];omega);have HS:=Asb hs;clear hl hs;(go_wp2_with fail);(with_reducible refine(ZK out _ _ AU hP.lt).mono ?_);rintro e w2 ⟨v2,rfl,hv2,hx2⟩;go_wp2;go_ret2;exact⟨v2,u7,rfl,by rw [←HS.out];exact hv2,Jw.ext hx2,Ac.trans hx2⟩
end Go.Proofs.YtdaefncphfeaeaaGreatDoor
