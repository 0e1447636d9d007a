/- X11: Int5. -/
import Derived.Test.YtjalkoacphhgdaaGreatDoorX01
set_option maxRecDepth 100000
set_option maxHeartbeats 2000000
namespace Go.Proofs.YtjalkoacphhgdaaGreatDoor
open Go.RowKit Kl
theorem TX{b:Nat} : ∀{l:List Nat} {j:Nat} (y:Nat),j<l.length→Ag b (l.set j y)+b^j*Ah l j=Ag b l+b^j*y
 | x::l,0,y,_=>by simp [Ag,Ah];omega
 | x::l,j+1,y,h=>by have ih:=TX (b:=b) (l:=l) (j:=j) y (by simpa using h);have e:Ah (x::l) (j+1)=Ah l j:=(by simp [Ah]);rw [List.set_cons_succ,e];simp only [Ag,Nat.pow_succ];generalize Ag b (l.set j y)=p at *;generalize Ag b l=q at *;generalize Ah l j=r at *;have:b*(p+b^j*r)=b*(q+b^j*y):=(by rw [ih]);rw [Nat.mul_add,Nat.mul_add]at this;rw [Nat.mul_comm (b^j) b,Nat.mul_assoc,Nat.mul_assoc];omega
theorem Y0(l:List Nat)(j y:Nat):(Bi l).set j (.int .u64 (y:Nat))=Bi (l.set j y):=by simp [Bi,List.map_set]
theorem X9{l:List Nat}{j y b:Nat}(h:∀x∈l,x<b)(hy:y<b):∀x∈l.set j y,x<b:=by
 intro x hx
 rcases List.mem_or_eq_of_mem_set hx with h1|h1
 ·exact h x h1
 ·rw [h1];exact hy
theorem TQ{x y:Nat}(hx:x<1000000000)(hy:y<1000000000):x*y<=999999998000000001:=by
 have h1:x*y<=999999999*999999999:=Nat.mul_le_mul (by omega) (by omega);omega
structure Zt(n:Nat)(out:List Nat)(v:Nat):Prop where
 len:out.length=n
 lt:∀x∈out,x<1000000000
 sum:Ag 1000000000 out=v
structure KN(n i k x:Nat)(b out:List Nat)(c v:Nat):Prop where
 len:out.length=n
 lt:∀x∈out,x<1000000000
 le:k<=b.length
 cl:c<1000000000
 sum:Ag 1000000000 out+1000000000^(i+k)*c=v+1000000000^i*(x*Ag 1000000000 (b.take k))
theorem KN.start{n i x v:Nat}{b out:List Nat}(h:Zt n out v):KN n i 0 x b out 0 v:=
 ⟨h.len,h.lt,Nat.zero_le _,by omega,by simp [Ag,h.sum]⟩
theorem KN.step{n i k x c v s:Nat}{b out:List Nat}(h:KN n i k x b out c v)(hk:k<b.length)(hn:i+k<n)(hx:x<1000000000)(hb:∀y∈b,y<1000000000)
  (hs:s=c+(Ah out (i+k)+x*Ah b k)):KN n i (k+1) x b (out.set (i+k) (s%1000000000)) (s/1000000000) v:=by
 have h1:=Cj hb hk;have h2:=Cj h.lt (show i+k<out.length by rw [h.len];exact hn);have h3:=TQ hx h1;have h4:=h.cl;refine⟨by rw [List.length_set,h.len],X9 h.lt (by omega),hk,by omega,?_⟩;have e:=TX (b:=1000000000) (l:=out) (j:=i+k) (s%1000000000) (by rw [h.len];exact hn);have EJ:=h.sum;rw [Md hk,Gq,List.length_take,Nat.min_eq_left h.le,Nat.mul_add,Nat.mul_add];have e1:1000000000^(i+(k+1))=1000000000^(i+k)*1000000000:=by rw [show i+(k+1)=i+k+1 by omega,Nat.pow_succ]
 have e2:1000000000^i*(x*(1000000000^k*Ah b k))=1000000000^(i+k)*(x*Ah b k):=by rw [Nat.pow_add,Nat.mul_left_comm x,Nat.mul_assoc]
 rw [e1,e2];have hm:s%1000000000+1000000000*(s/1000000000)=c+(Ah out (i+k)+x*Ah b k):=(by omega);generalize x*Ah b k=t at *;generalize s%1000000000=r at *;generalize s/1000000000=q at *;generalize 1000000000^(i+k)=p at *;generalize 1000000000^i*(x*Ag 1000000000 (b.take k))=g at *
 have:p*r+p*1000000000*q=p*c+(p*Ah out (i+k)+p*t):=by rw [Nat.mul_assoc,←Nat.mul_add,hm,Nat.mul_add,Nat.mul_add]
 omega
structure KO(n k:Nat)(out:List Nat)(c v:Nat):Prop where
 len:out.length=n
 lt:∀x∈out,x<1000000000
 cl:c<1000000000
 sum:Ag 1000000000 out+1000000000^k*c=v
theorem KN.up{n i x c v:Nat}{b out:List Nat}(h:KN n i b.length x b out c v):KO n (i+b.length) out c (v+1000000000^i*(x*Ag 1000000000 b)):=
 ⟨h.len,h.lt,h.cl,by have:=h.sum;rwa [List.take_length]at this⟩
theorem KO.room{n k c v m:Nat}{out:List Nat}(h:KO n k out c v)(hc:0<c)(hv:v<1000000000^m):k<m:=by
 have h1:=h.sum;have h2:1000000000^k*1<=1000000000^k*c:=Nat.mul_le_mul_left _ hc;have:1000000000^k<1000000000^m:=(by omega);exact(Nat.pow_lt_pow_iff_right (by omega)).1 this
theorem KO.step{n k c v s:Nat}{out:List Nat}(h:KO n k out c v)(hk:k<n)(hs:s=c+Ah out k):KO n (k+1) (out.set k (s%1000000000)) (s/1000000000) v:=by
 have h2:=Cj h.lt (show k<out.length by rw [h.len];exact hk);have h4:=h.cl;refine⟨by rw [List.length_set,h.len],X9 h.lt (by omega),by omega,?_⟩;have e:=TX (b:=1000000000) (l:=out) (j:=k) (s%1000000000) (by rw [h.len];exact hk);have EJ:=h.sum;rw [Nat.pow_succ];have hm:s%1000000000+1000000000*(s/1000000000)=c+Ah out k:=(by omega);generalize s%1000000000=r at *;generalize s/1000000000=q at *;generalize 1000000000^k=p at *
 have:p*r+p*1000000000*q=p*c+p*Ah out k:=by rw [Nat.mul_assoc,←Nat.mul_add,hm,Nat.mul_add]
 omega
theorem KO.done{n k v:Nat}{out:List Nat}(h:KO n k out 0 v):Zt n out v:=⟨h.len,h.lt,by have:=h.sum;simpa using this⟩
theorem AnR{a b:List Nat}{i:Nat}(hi:i<a.length) :
  Ag 1000000000 (a.take i)*Ag 1000000000 b+1000000000^i*(Ah a i*Ag 1000000000 b)=Ag 1000000000 (a.take (i+1))*Ag 1000000000 b:=by
 rw [Md hi,Gq,List.length_take,Nat.min_eq_left (by omega),Nat.add_mul,Nat.mul_assoc]
theorem AnQ{a b:List Nat}{i:Nat}(hi:i<=a.length)(ha:∀x∈a,x<1000000000)(hb:∀x∈b,x<1000000000) :
  Ag 1000000000 (a.take i)*Ag 1000000000 b<1000000000^(i+b.length):=by
 have h1:=IA (l:=a.take i) (b:=1000000000) fun x hx=>ha x (List.mem_of_mem_take hx);have h2:=IA hb;rw [List.length_take,Nat.min_eq_left hi]at h1;rw [Nat.pow_add];exact Nat.mul_lt_mul'' h1 h2
theorem y9(a b:List Nat)(u v:Value)(w:World)(hu:Rd w u a)(hv:Rd w v b)(Fj:a.length<40000)(Fl:b.length<40000)(ha:∀x∈a,x<1000000000)(hb:∀x∈b,x<1000000000) :
  Calls Tryz.prog 226 #[u,v] w (RB (Ag 1000000000 a*Ag 1000000000 b) w):=by
 obtain⟨A,ca,rfl,Ct⟩:=hu;obtain⟨B,cb,rfl,BX⟩:=hv;have Wq:=Ct.cap;have hcb:=BX.cap;have WN:=Ct.max;have Tl:=BX.max;have hmk:=jS (a.length+b.length+1) (by omega) ((a.length:Int)+(b.length:Int)+1) (by omega);have how:=kW w w.heap.size (a.length+b.length+1) (AqK _) (by omega);go_enter Tryz.func226,Tryz.ntmps226;go_wp2;clear hmk;obtain⟨N,hN⟩:=AqG (a.length+b.length+1);rw [←hN]at how ⊢;have HN:=AqH hN;clear hN;obtain⟨H,hH⟩:=AqG w.heap.size;rw [←hH]at how;simp only [←hH];have HH:=AqH hH;clear hH
 go_loopw [21] (fun i wr=>∃(k:Nat) (out:List Nat),k<=a.length/\i=.int .i64 k/\Zt N out (Ag 1000000000 (a.take k)*Ag 1000000000 b)/\wr.ownsRow H 184 1 (.slice (some ⟨H,0,none⟩) N N) N (Bi out)/\Aa w wr)
  (fun i _=>a.length-(intOf i).toNat)
 case atStart=>exact⟨0,List.replicate N 0,Nat.zero_le _,rfl,⟨by simp,by intro x hx;rw [List.mem_replicate]at hx;omega,by rw [kF (fun j hj=>by simp at hj;simp [Ah,hj])];simp [Ag]⟩,how,(Aa.refl w).alloc _⟩
 case round=>
  obtain⟨i,out,hi,rfl,hT,hown,Ac⟩:=hrel;obtain⟨wo,rfl⟩:=AqG (wr:World);clear how;by_cases hk:i<a.length
  ·obtain⟨ba,oa,rfl,G4⟩:=Ct.ad (by omega);have hg:=Ac.cellS (G4 i hk);have AD:=Cj ha hk;clear G4;go_wp2
   go_loopw [8,28] (fun c k wr=>∃(q cn:Nat) (out:List Nat),k=.int .i64 q/\c=.int .u64 cn/\KN N i q (Ah a i) b out cn (Ag 1000000000 (a.take i)*Ag 1000000000 b)/\wr.ownsRow H 184 1 (.slice (some ⟨H,0,none⟩) N N) N (Bi out)/\Aa w wr)
    (fun _ k _=>b.length-(intOf k).toNat)
   case atStart=>exact⟨0,0,out,rfl,rfl,KN.start hT,hown,Ac⟩
   case round=>
    clear hT hown Ac hg;obtain⟨q,cn,out,rfl,rfl,hT,hown,Ac⟩:=hrel;have hq:=hT.le;have Ek:=hT.cl;have hNN:=HN.out;have AD:=Cj ha hk;by_cases hkb:q<b.length
    ·obtain⟨bb,ob,rfl,G5⟩:=BX.ad (by omega);have hgb:=Ac.cellS (G5 q hkb);have hxb:=Cj hb hkb;clear G5;have I6:=hT.len;have hxo:=Cj hT.lt (show i+q<out.length by omega)
     have hgo:wr.cell? ⟨H,i+q,none⟩=some (.int .u64 (Ah out (i+q):Nat)):=by rw [hown.cellAt (i+q) (by omega)];simp [Bi,Ah,show i+q<out.length by omega]
     have Qc:=hown.frozenAt (i+q);have hmu:=TQ AD hxb;clear I6;go_wp2;go_roundw
     case rel=>have hst:=(hown.stored (i+q) (.int .u64 ((cn+(Ah out (i+q)+Ah a i*Ah b q))%1000000000:Nat))).1;rw [Y0]at hst;exact⟨q+1,_,_,by go_num,by go_num,hT.step hkb (by omega) AD hb rfl,by simpa using hst,Ac.setCell (by have:=HH.out;simp;omega) _⟩
     case measure=>simp [intOf];omega
    ·obtain rfl:q=b.length:=(by omega);go_wp2
     go_loopw [8,11] (fun c k wr=>∃(q cn:Nat) (out:List Nat),k=.int .i64 q/\c=.int .u64 cn/\q<=i+b.length+1/\KO N q out cn (Ag 1000000000 (a.take (i+1))*Ag 1000000000 b)/\wr.ownsRow H 184 1 (.slice (some ⟨H,0,none⟩) N N) N (Bi out)/\Aa w wr)
      (fun _ k _=>i+b.length+1-(intOf k).toNat)
     case atStart=>have Qr:=hT.up;rw [AnR hk]at Qr;exact⟨i+b.length,cn,out,by go_num,rfl,by omega,Qr,hown,Ac⟩
     case round=>
      clear hT hown Ac Ek hq;obtain⟨q,cn,out,rfl,rfl,hq,hT,hown,Ac⟩:=hrel;have Ek:=hT.cl;by_cases hc0:0<cn
      ·have hroom:=hT.room hc0 (AnQ (i:=i+1) hk ha hb);have I6:=hT.len;have hxo:=Cj hT.lt (show q<out.length by omega)
       have hgo:wr.cell? ⟨H,q,none⟩=some (.int .u64 (Ah out q:Nat)):=by rw [hown.cellAt q (by omega)];simp [Bi,Ah,show q<out.length by omega]
       have Qc:=hown.frozenAt q;clear I6;go_wp2;go_roundw
       case rel=>have hst:=(hown.stored q (.int .u64 ((cn+Ah out q)%1000000000:Nat))).1;rw [Y0]at hst;exact⟨q+1,_,_,by go_num,by go_num,by omega,hT.step (by omega) rfl,by simpa using hst,Ac.setCell (by have:=HH.out;simp;omega) _⟩
       case measure=>simp [intOf];omega
      ·obtain rfl:cn=0:=(by omega);go_wp2;go_roundw
       case rel=>exact⟨i+1,out,hk,by go_num,hT.done,hown,Ac⟩
       case measure=>simp [intOf];omega
  ·obtain rfl:i=a.length:=(by omega);have I6:=hT.len;have EJ:=hT.sum;rw [List.take_length]at EJ;have HS:=AqH EJ;have HO:=AqH I6;clear EJ I6;(go_wp2_with fail);have AN:Rd wo (.slice (some ⟨H,0,none⟩) N N) out:=Rd.of_own (by rw [HO.out];exact hown) (by have:=HN.out;have:=HO.out;omega);refine(zh _ _ _ AN hT.lt).mono ?_;rintro e w2 ⟨v2,rfl,hv2,hx2,ho2⟩;have Pg:=AqH ho2;clear ho2;go_wp2;go_ret;exact⟨v2,rfl,by rw [←HS.out];exact hv2,Ac.trans hx2,fun b hb=>by have:=kT hown b (by rw [←Pg.out];exact hb);have:=HH.out;omega⟩
theorem AnP(a b:List Nat)(u v:Value)(w:World)(hu:Rd w u a)(hv:Rd w v b)(Fj:a.length<40000)(Fl:b.length<40000)(ha:∀x∈a,x<1000000000)(hb:∀x∈b,x<1000000000) :
  Calls Tryz.prog 226 #[u,v] w (NT (Ag 1000000000 a*Ag 1000000000 b) w):=
 (y9 a b u v w hu hv Fj Fl ha hb).mono fun _ _ h=>h.plain
end Go.Proofs.YtjalkoacphhgdaaGreatDoor
