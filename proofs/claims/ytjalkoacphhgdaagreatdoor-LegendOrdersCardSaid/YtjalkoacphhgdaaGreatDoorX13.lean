/- X13: Zed E1 E2. -/
import Derived.Test.YtjalkoacphhgdaaGreatDoorX11
import Derived.Test.YtjalkoacphhgdaaGreatDoorX03
import Derived.Deep.RegionHeld3
namespace Go.Proofs.YtjalkoacphhgdaaGreatDoor
open Go.RowKit Kl
def az(l:List Int)(i:Nat):Int:=l.getD i 0
def zs(l:List Int):List Value:=l.map fun x=>.int .i64 x
def zn(l:List Nat):List Int:=l.map fun (x:Nat)=>(x:Int)
theorem Aaq(l:List Nat):(zn l).length=l.length:=by simp [zn]
theorem Ac5(l:List Nat)(i:Nat):az (zn l) i=(Ah l i:Nat):=by
 unfold az zn Ah;rw [List.getD_eq_getElem?_getD,List.getD_eq_getElem?_getD,List.getElem?_map]
 cases l[i]?<;>rfl
theorem Aar{l:List Int}{j:Nat}(h:j<l.length):(zs l)[j]?=some (.int .i64 (az l j)):=by
 unfold zs az;rw [List.getElem?_map,List.getD_eq_getElem?_getD,AqP h];rfl
def Dc:List Int→Int
 | []=>0
 | x::l=>x+10000*Dc l
theorem qd:∀l:List Nat,Dc (zn l)=(Ag 10000 l:Nat)
 | []=>rfl
 | x::l=>by have e:zn (x::l)=(x:Int)::zn l:=rfl;rw [e,Dc,Ag,qd l];omega
theorem Akt(l m:List Int):Dc (l++m)=Dc l+10000^l.length*Dc m:=by
 induction l with
 | nil=>simp [Dc]
 | cons x l ih=>simp only [List.cons_append,Dc,ih,List.length_cons,Int.pow_succ,Int.mul_add];rw [Int.mul_comm ((10000:Int)^l.length) 10000,Int.mul_assoc];omega
theorem qc(l:List Int)(x:Int):Dc (l ++ [x])=Dc l+10000^l.length*x:=by rw [Akt];simp [Dc]
theorem pz:∀{l:List Int} {j:Nat} (y:Int),j<l.length→Dc (l.set j y)=Dc l+10000^j*(y-az l j)
 | x::l,0,y,_=>by simp [Dc,az];omega
 | x::l,j+1,y,h=>by have ih:=pz (l:=l) (j:=j) y (by simpa using h);have e:az (x::l) (j+1)=az l j:=(by simp [az]);rw [List.set_cons_succ,Dc,Dc,ih,e,Int.mul_add,Int.pow_succ,Int.mul_comm ((10000:Int)^j) 10000,Int.mul_assoc];omega
theorem AnI{l:List Int}{k:Nat}(h:k<l.length):l.take (k+1)=l.take k ++ [az l k]:=by
 rw [AqN h];simp [az,h]
theorem Uh(n:Nat):((10000:Int)^n)=((10000^n:Nat):Int):=by simp
/-! ### carry -/
def cB:Int:=1000000000000000
structure K7(l:List Int)(i:Nat)(out:List Nat)(over:Int):Prop where
 len:out.length=i
 lt:∀x∈out,x<10000
 lo:-1000000000000000<=over
 hi:over<=1000000000000000
 sum:(Ag 10000 out:Int)+10000^i*over=Dc (l.take i)
theorem K7.start(l:List Int):K7 l 0 [] 0:=⟨rfl,by simp,by omega,by omega,by simp [Ag,Dc]⟩
theorem K7.step{l:List Int}{i:Nat}{out:List Nat}{over x s:Int}{n:Nat}(h:K7 l i out over)(hx:x=if i<l.length then az l i else 0)(hs:s=over+x)(hb1:-1000000000000000<=x)(hb2:x<=1000000000000000)(hn:(n:Int)=s%10000) :
  K7 l (i+1) (out ++ [n]) ((s-n)/10000):=by
 have hl:=h.lo;have hh:=h.hi;refine⟨by rw [List.length_append,h.len];rfl,?_,by omega,by omega,?_⟩
 ·intro y hy
  rcases List.mem_append.1 hy with hy|hy
  ·exact h.lt y hy
  ·simp at hy;subst hy;omega
 ·have e1:Dc (l.take (i+1))=Dc (l.take i)+10000^i*x:=by
   by_cases hi:i<l.length
   ·rw [if_pos hi]at hx;rw [AnI hi,qc,List.length_take,Nat.min_eq_left (by omega),hx]
   ·rw [if_neg hi]at hx;rw [AqS (by omega),AqS (by omega),hx];simp
  have EJ:=h.sum;rw [e1,←EJ,Gq,h.len,Int.pow_succ];have e2:s=n+10000*((s-n)/10000):=(by omega);rw [Int.natCast_add,Int.natCast_mul,←Uh,Int.mul_assoc,Int.add_assoc,Int.add_assoc,←Int.mul_add,←Int.mul_add,←hs,←e2]
theorem K7.room{l:List Int}{i M:Nat}{out:List Nat}{over:Int}(h:K7 l i out over)(hi:l.length<=i)(hp:0<over)(hM:Dc l<10000^M):i<M:=by
 have hs:=h.sum;rw [AqS hi]at hs;have h2:(10000:Int)^i*1<=10000^i*over:=Int.mul_le_mul_of_nonneg_left (by omega) (by rw [Uh];exact Int.natCast_nonneg _)
 have h5:((10000^i:Nat):Int)<((10000^M:Nat):Int):=by rw [←Uh,←Uh];generalize (10000:Int)^i=P at *;generalize (10000:Int)^M=R at *;generalize P*over=T at *;omega
 exact(Nat.pow_lt_pow_iff_right (by omega)).1 (Int.ofNat_lt.1 h5)
theorem K7.done{l:List Int}{i N:Nat}{out:List Nat}(h:K7 l i out 0)(hi:l.length<=i)(hN:Dc l=(N:Int)):Ag 10000 out=N:=by
 have hs:=h.sum;rw [AqS hi]at hs;simp at hs;omega
/-! ### joined -/
structure JI(p q:List Nat)(k:Int)(i:Nat)(out:List Int):Prop where
 le:i<=q.length
 len:i<=out.length
 len2:out.length<=p.length+i+1
 bd:∀j,-100000000*(10000:Int)<=az out j/\az out j<=100000000*10000
 bd2:∀j,i<=j→0<=az out j/\az out j<10000
 sum:Dc out=(Ag 10000 p:Int)+k*(Ag 10000 (q.take i):Nat)
theorem Ac4{l:List Int}{j:Nat}(h:l.length<=j):az l j=0:=by unfold az;rw [List.getD_eq_getElem?_getD,List.getElem?_eq_none h];rfl
theorem rF{p:List Nat}(hp:∀x∈p,x<10000)(j:Nat):0<=az (zn p) j/\az (zn p) j<10000:=by
 by_cases h:j<p.length
 ·rw [Ac5];have:=Cj hp h;omega
 ·rw [Ac4 (by rw [Aaq];omega)];omega
theorem JI.start{p:List Nat}(hp:∀x∈p,x<10000)(q:List Nat)(k:Int):JI p q k 0 (zn p):=
 ⟨by omega,by omega,by rw [Aaq];omega,fun j=>by have:=rF hp j;omega,fun j _=>rF hp j,by rw [qd];simp [Ag]⟩
theorem rE(l:List Int)(j:Nat):az (l ++ [0]) j=az l j:=by
 unfold az;rw [List.getD_eq_getElem?_getD,List.getD_eq_getElem?_getD]
 rcases Nat.lt_trichotomy j l.length with h|h|h
 ·rw [List.getElem?_append_left h]
 ·subst h;rw [List.getElem?_append_right (by omega),List.getElem?_eq_none (AqK _)];simp
 ·rw [List.getElem?_eq_none (by simp;omega),List.getElem?_eq_none (by omega)]
theorem JI.grow{p q:List Nat}{k:Int}{i:Nat}{out:List Int}(h:JI p q k i out)(hl:out.length<=i):JI p q k i (out ++ [0]):=
 ⟨h.le,by have:=h.len;simp;omega,by have:=h.len;have:=h.len2;simp at *;omega,fun j=>by rw [rE];exact h.bd j,fun j hj=>by rw [rE];exact h.bd2 j hj,by rw [qc,h.sum];simp⟩
theorem rD{l:List Int}{i:Nat}(y:Int)(hi:i<l.length)(j:Nat):az (l.set i y) j=if j=i then y else az l j:=by
 unfold az;rw [List.getD_eq_getElem?_getD,List.getD_eq_getElem?_getD];by_cases h:j=i
 ·subst h;rw [if_pos rfl,List.getElem?_set_self hi];rfl
 ·rw [if_neg h,List.getElem?_set_ne (by omega)]
theorem AjT{k:Int}{x:Nat}(h1:-10000<=k)(h2:k<=10000)(hx:x<10000):-100000000<=k*(x:Int)/\k*(x:Int)<=100000000:=by
 have a1:(-10000:Int)*x<=k*x:=Int.mul_le_mul_of_nonneg_right h1 (by omega);have a2:k*x<=(10000:Int)*x:=Int.mul_le_mul_of_nonneg_right h2 (by omega);omega
theorem JI.step{p q:List Nat}{k:Int}{i:Nat}{out:List Int}(h:JI p q k i out)(hi:i<q.length)(hl:i<out.length)(hq:∀x∈q,x<10000)(h1:-10000<=k)(h2:k<=10000) :
  JI p q k (i+1) (out.set i (az out i+k*(Ah q i:Nat))):=by
 have hm:=AjT h1 h2 (Cj hq hi);refine⟨hi,by rw [List.length_set];omega,by have:=h.len2;rw [List.length_set];omega,fun j=>?_,fun j hj=>?_,?_⟩
 ·rw [rD _ hl]
  split
  ·have:=h.bd2 i (AqK _);omega
  ·exact h.bd j
 ·rw [rD _ hl,if_neg (by omega)];exact h.bd2 j (by omega)
 ·rw [pz _ hl,h.sum,Md hi,Gq,List.length_take,Nat.min_eq_left (by omega),Int.natCast_add,Int.natCast_mul,←Uh,Int.mul_add];have e:az out i+k*(Ah q i:Nat)-az out i=k*(Ah q i:Nat):=(by omega);rw [e,Int.mul_left_comm,Int.add_assoc]
theorem JI.done{p q:List Nat}{k:Int}{out:List Int}(h:JI p q k q.length out):Dc out=(Ag 10000 p:Int)+k*(Ag 10000 q:Nat)/\(∀x∈out,-1000000000000000<=x/\x<=1000000000000000)/\out.length<=p.length+q.length+1:=by
 refine⟨by rw [h.sum,List.take_length],fun x hx=>?_,h.len2⟩;obtain⟨j,hj,rfl⟩:=List.getElem_of_mem hx;have:=h.bd j;have e:az out j=out[j]:=(by unfold az;rw [List.getD_eq_getElem?_getD,AqP hj];rfl);rw [e]at this;omega
/-! ### times -/
structure Pv(n i k x:Nat)(q out:List Nat)(v:Nat):Prop where
 le:k<=q.length
 len:out.length=n
 bd:∀j,Ah out j<=(if j<i+k then i+1 else i)*100000000
 sum:Ag 10000 out=v+10000^i*(x*Ag 10000 (q.take k))
theorem rC{l:List Nat}{i:Nat}(y:Nat)(hi:i<l.length)(j:Nat):Ah (l.set i y) j=if j=i then y else Ah l j:=by
 unfold Ah;rw [List.getD_eq_getElem?_getD,List.getD_eq_getElem?_getD];by_cases h:j=i
 ·subst h;rw [if_pos rfl,List.getElem?_set_self hi];rfl
 ·rw [if_neg h,List.getElem?_set_ne (by omega)]
theorem Pv.step{n i k x v:Nat}{q out:List Nat}(h:Pv n i k x q out v)(hk:k<q.length)(hn:i+k<n)(hx:x<10000)(hq:∀y∈q,y<10000) :
  Pv n i (k+1) x q (out.set (i+k) (Ah out (i+k)+x*Ah q k)) v:=by
 have hl:=h.len;have hy:=Cj hq hk;have hm:x*Ah q k<=100000000:=AqU (Nat.mul_le_mul (Nat.le_of_lt hx) (Nat.le_of_lt hy)) (by omega);refine⟨hk,by rw [List.length_set];exact hl,fun j=>?_,?_⟩
 ·rw [rC _ (by omega)];have h1:=h.bd j
  split
  ·subst j;rw [if_neg (by omega)]at h1;rw [if_pos (by omega)];omega
  ·by_cases hj:j<i+k
   ·rw [if_pos hj]at h1;rw [if_pos (by omega)];exact h1
   ·rw [if_neg hj]at h1;rw [if_neg (by omega)];exact h1
 ·have hs:=TX (b:=10000) (l:=out) (j:=i+k) (Ah out (i+k)+x*Ah q k) (by omega);have h2:=h.sum;rw [Md hk,Gq,List.length_take,Nat.min_eq_left (by omega),Nat.mul_add x,Nat.mul_add (10000^i)]
  have e:10000^i*(x*(10000^k*Ah q k))=10000^(i+k)*(x*Ah q k):=by rw [Nat.pow_add,Nat.mul_left_comm x,Nat.mul_assoc]
  rw [e];rw [Nat.mul_add]at hs;omega
theorem Pv.next{n i x v:Nat}{p q out:List Nat}(h:Pv n i q.length x q out v)(hx:x=Ah p i)(hi:i<p.length)(hv:v=Ag 10000 (p.take i)*Ag 10000 q)(y:Nat) :
  Pv n (i+1) 0 y q out (Ag 10000 (p.take (i+1))*Ag 10000 q):=by
 refine⟨by omega,h.len,fun j=>?_,?_⟩
 ·have h1:=h.bd j;refine AqU h1 (Nat.mul_le_mul_right _ ?_);by_cases a:j<i+q.length
  ·rw [if_pos a];by_cases b:j<i+1+0
   ·rw [if_pos b];omega
   ·rw [if_neg b];omega
  ·rw [if_neg a];by_cases b:j<i+1+0
   ·rw [if_pos b];omega
   ·rw [if_neg b];omega
 ·rw [h.sum,List.take_length,hv,hx,Md hi,Gq,List.length_take,Nat.min_eq_left (by omega),Nat.add_mul];simp [Ag,Nat.mul_assoc]
/-! ### parts: one digit of a quotient -/
theorem Adm{W:World}{b o:Nat}{cs:Array Value}{t:TypeId}{fz:Nat×Nat}{v:Value}(h:W.heap[b]?=some (.cells cs t fz))(hv:cs[o]?=some v):W.cell? ⟨b,o,none⟩=some v:=by
 unfold World.cell?;simp [h,hv]
structure KL(w:World)(A:Option Addr)(c:Nat)(l:List Int):Prop where
 cap:l.length<=c
 max:c<=9223372036854775807
 len:l.length<=100000
 ad:0<l.length→∃b o,A=some ⟨b,o,none⟩/\∀j,j<l.length→w.cell? ⟨b,o+j,none⟩=some (.int .i64 (az l j))
def RZ(w:World)(v:Value)(l:List Int):Prop:=∃A c,v=.slice A l.length c/\KL w A c l
theorem KL.ext{w w':World}{A:Option Addr}{c:Nat}{l:List Int}(h:KL w A c l)(hx:Aa w w'):KL w' A c l:=
 ⟨h.cap,h.max,h.len,fun h0=>by
  obtain⟨b,o,e,hc⟩:=h.ad h0
  exact⟨b,o,e,fun j hj=>hx.cellS (hc j hj)⟩⟩
theorem RZ.ext{w w':World}{v:Value}{l:List Int}(h:RZ w v l)(hx:Aa w w'):RZ w' v l:=by
 obtain⟨A,c,e,h⟩:=h;exact⟨A,c,e,h.ext hx⟩
theorem RZ.nil(w:World):RZ w (.slice none 0 0) (zn []):=⟨none,0,rfl,by simp [zn],by omega,by simp [zn],fun h=>by simp [zn]at h⟩
theorem RZ.of_own{w:World}{base:Nat}{e:TypeId}{v:Value}{n:Nat}{l:List Int}(h:w.ownsRow base e 1 v n (zs l))(hn:n=l.length)(hl:l.length<=100000):RZ w v l:=by
 subst hn
 rcases h.2 with⟨rfl,h0⟩|⟨g,cap,cur,rfl,_,_,hn,hm,_,_⟩
 ·exact⟨none,0,by rw [h0],by omega,by omega,hl,fun h=>by omega⟩
 ·refine⟨some ⟨g,0,none⟩,cap,rfl,hn,hm,hl,fun _=>⟨g,0,rfl,fun j hj=>?_⟩⟩;have:=h.cells (g:=g) rfl j _ (Aar hj)
  rwa [Addr.add_lit]at this
theorem RZ.lit(w:World)(l:List Int)(t:TypeId)(hl:l.length<=100000):RZ (w.alloc (.cells (zs l).toArray t)) (.slice (some ⟨w.heap.size,0,none⟩) l.length l.length) l:=
 ⟨some ⟨w.heap.size,0,none⟩,l.length,rfl,AqK _,by omega,hl,fun _=>⟨w.heap.size,0,rfl,fun j hj=>by
  refine Adm (AqJ w _) ?_;rw [Nat.zero_add,←Array.getElem?_toList]
  exact Aar hj⟩⟩
theorem KL.take{w:World}{A:Option Addr}{c:Nat}{l:List Int}(h:KL w A c l){k:Nat}(hk:k<=l.length):RZ w (.slice A k c) (l.take k):=by
 have e:(l.take k).length=k:=(by rw [List.length_take];omega);refine⟨A,c,by rw [e],by have:=h.cap;omega,h.max,by have:=h.len;omega,fun h0=>?_⟩;obtain⟨b,o,e1,hc⟩:=h.ad (by omega);refine⟨b,o,e1,fun j hj=>?_⟩
 have:az (l.take k) j=az l j:=by rw [e]at hj;simp [az,hj]
 rw [this];exact hc j (by omega)
theorem Tryz.infoI:(Tryz.prog.info? 3).map (fun i=>(i.zero,i.size,i.bytes))=some (some (.int .i64 0),1,8):=by kernel_rfl
theorem AjP(n:Nat)(hn:n<=200000)(c:Int)(hc:c=(n:Int))(W:World) :
  (Instr.makeSlice 68 (.int .i64 c) (.int .i64 c)).run Tryz.prog W=.ok (.slice (some ⟨W.heap.size,0,none⟩) n n) (W.alloc (.cells (madeCells #[.int .i64 0] n) 3)):=by
 subst hc;obtain⟨i0,hi,hz0,hz1,hz2⟩:=info_parts Tryz.infoI;have h:=run_make (P:=Tryz.prog) W 68 3 i0 (.int .i64 0) Tryz.underlying68 hi hz0 .i64 .i64 n n (by omega) (by omega) (by rw [hz2];omega) (by omega);rw [hz1,Nat.mul_one]at h;simp only [Int.toNat_natCast]at h;exact h
theorem rk(W:World)(base n:Nat)(hb:base<=W.heap.size)(hn:n<=200000) :
  (W.alloc (.cells (madeCells #[.int .i64 0] n) 3)).ownsRow base 3 1 (.slice (some ⟨W.heap.size,0,none⟩) n n) n (zs (zn (List.replicate n 0))):=by
 have h:=World.ownsRow_lit (w:=W) (base:=base) (e:=3) (size:=1) (madeCells #[.int .i64 0] n) n hb (by unfold maxLen;omega) (by rw [size_madeCells];omega);rw [toList_madeCells_one]at h
 simpa [zs,zn]using h
section
variable {ops : Array Oper} {rest : List Oper} {o : Oper} {a : Act} {Q : Exit → Act → World → Prop}
end
/-! ### take -/
structure RG(n:Nat)(s:Bs)(e:Nat)(o:List Nat):Prop where
 le:e<=s.length
 lt:∀x∈o,x<10000
 len:e+o.length<=s.length
 sum:n=val (s.take e)*10000^o.length+Ag 10000 o
theorem RG.start(s:Bs):RG (val s) s s.length []:=⟨AqK _,by simp,by simp,by simp [Ag]⟩
theorem Aof{l:Bs}(h:BD l)(hl:l.length<=4):val l<10000:=by
 have h1:=GR h;have h2:10^l.length<=10^4:=Nat.pow_le_pow_right (by omega) hl;have h3:(10:Nat)^4=10000:=(by decide);omega
theorem RG.step{n:Nat}{s:Bs}{e:Nat}{o:List Nat}(h:RG n s e o)(ha:BD s)(h0:0<e):RG n s (e-4) (o ++ [val ((s.take e).drop (e-4))]):=by
 have hd:BD ((s.take e).drop (e-4)):=qM (Z3 ha e) _;have Dx:((s.take e).drop (e-4)).length=e-(e-4):=(by rw [List.length_drop,List.length_take,Nat.min_eq_left h.le]);have hv:=Aof hd (by omega);have hle:=h.le;refine⟨by omega,?_,by have:=h.len;rw [List.length_append,List.length_singleton];omega,?_⟩
 ·intro x hx
  rcases List.mem_append.1 hx with hx|hx
  ·exact h.lt x hx
  ·simp at hx;subst hx;exact hv
 ·have hs:val (s.take e)=val (s.take (e-4))*10000+val ((s.take e).drop (e-4)):=by
   conv=>lhs;rw [←List.take_append_drop (e-4) (s.take e)]
   rw [val_append,Dx,List.take_take,Nat.min_eq_left (by omega)];by_cases h4:4<=e
   ·rw [show e-(e-4)=4 by omega]
   ·rw [show e-4=0 by omega];simp [FS]
  rw [Gq,List.length_append,List.length_singleton,Nat.pow_succ];have:=h.sum;rw [hs]at this;rw [this];generalize 10000^o.length=p;generalize val (s.take (e-4))=a;generalize val ((s.take e).drop (e-4))=b;rw [Nat.add_mul,Nat.mul_assoc,Nat.mul_comm 10000 p,Nat.mul_comm b p];omega
end Go.Proofs.YtjalkoacphhgdaaGreatDoor
