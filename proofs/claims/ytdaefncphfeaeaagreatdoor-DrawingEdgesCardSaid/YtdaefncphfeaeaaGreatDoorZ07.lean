/- Z07: Zed E1 E2 E3. -/
import Derived.Test.YtdaefncphfeaeaaGreatDoorZ06
import Derived.Test.YtdaefncphfeaeaaGreatDoorZ03
import Derived.Deep.RegionHeld3
set_option maxRecDepth 100000
set_option maxHeartbeats 4000000
namespace Go.Proofs.YtdaefncphfeaeaaGreatDoor
open Go.RowKit Kl
def az(l:List Int)(i:Nat):Int:=l.getD i 0
def zs(l:List Int):List Value:=l.map fun x=>.int .i64 x
def zn(l:List Nat):List Int:=l.map fun (x:Nat)=>(x:Int)
theorem AW(l:List Nat):(zn l).length=l.length:=by simp [zn]
theorem JI(l:List Nat)(i:Nat):az (zn l) i=(Ag l i:Nat):=by
 unfold az zn Ag;rw [List.getD_eq_getElem?_getD,List.getD_eq_getElem?_getD,List.getElem?_map]
 cases l[i]?<;>rfl
theorem PQ{l:List Int}{j:Nat}(h:j<l.length):(zs l)[j]?=some (.int .i64 (az l j)):=by
 unfold zs az;rw [List.getElem?_map,List.getD_eq_getElem?_getD,Asl h];rfl
theorem pP(l m:List Nat):zn (l++m)=zn l++zn m:=by simp [zn]
theorem pR(l:List Int)(j:Nat)(y:Int):(zs l).set j (.int .i64 y)=zs (l.set j y):=by simp [zs,List.map_set]
theorem Acd(l:List Nat)(j y:Nat):(zn l).set j (y:Int)=zn (l.set j y):=by simp [zn,List.map_set]
theorem Apq(l:List Nat)(k:Nat):(zn l).take k=zn (l.take k):=by simp [zn,List.map_take]
def CW:List Int→Int
 | []=>0
 | x::l=>x+10000*CW l
theorem mX:∀l:List Nat,CW (zn l)=(Ah 10000 l:Nat)
 | []=>rfl
 | x::l=>by have e:zn (x::l)=(x:Int)::zn l:=rfl;rw [e,CW,Ah,mX l];omega
theorem Alr(l m:List Int):CW (l++m)=CW l+10000^l.length*CW m:=by
 induction l with
 | nil=>simp [CW]
 | cons x l ih=>simp only [List.cons_append,CW,ih,List.length_cons,Int.pow_succ,Int.mul_add];rw [Int.mul_comm ((10000:Int)^l.length) 10000,Int.mul_assoc];omega
theorem yq(l:List Int)(x:Int):CW (l ++ [x])=CW l+10000^l.length*x:=by rw [Alr];simp [CW]
theorem yo:∀{l:List Int} {j:Nat} (y:Int),j<l.length→CW (l.set j y)=CW l+10000^j*(y-az l j)
 | x::l,0,y,_=>by simp [CW,az];omega
 | x::l,j+1,y,h=>by have ih:=yo (l:=l) (j:=j) y (by simpa using h);have e:az (x::l) (j+1)=az l j:=(by simp [az]);rw [List.set_cons_succ,CW,CW,ih,e,Int.mul_add,Int.pow_succ,Int.mul_comm ((10000:Int)^j) 10000,Int.mul_assoc];omega
theorem Ao2{l:List Int}{k:Nat}(h:k<l.length):l.take (k+1)=l.take k ++ [az l k]:=by
 rw [Asi h];simp [az,h]
theorem Oh(n:Nat):((10000:Int)^n)=((10000^n:Nat):Int):=by simp
/-! ### carry -/
def cB:Int:=1000000000000000
structure Is(l:List Int)(i:Nat)(out:List Nat)(over:Int):Prop where
 len:out.length=i
 lt:∀x∈out,x<10000
 lo:-1000000000000000<=over
 hi:over<=1000000000000000
 sum:(Ah 10000 out:Int)+10000^i*over=CW (l.take i)
theorem Is.start(l:List Int):Is l 0 [] 0:=⟨rfl,by simp,by omega,by omega,by simp [Ah,CW]⟩
theorem Is.step{l:List Int}{i:Nat}{out:List Nat}{over x s:Int}{n:Nat}(h:Is l i out over)(hx:x=if i<l.length then az l i else 0)(hs:s=over+x)(hb1:-1000000000000000<=x)(hb2:x<=1000000000000000)(hn:(n:Int)=s%10000) :
  Is l (i+1) (out ++ [n]) ((s-n)/10000):=by
 have hl:=h.lo;have hh:=h.hi;refine⟨by rw [List.length_append,h.len];rfl,?_,by omega,by omega,?_⟩
 ·intro y hy
  rcases List.mem_append.1 hy with hy|hy
  ·exact h.lt y hy
  ·simp at hy;subst hy;omega
 ·have e1:CW (l.take (i+1))=CW (l.take i)+10000^i*x:=by
   by_cases hi:i<l.length
   ·rw [if_pos hi]at hx;rw [Ao2 hi,yq,List.length_take,Nat.min_eq_left (by omega),hx]
   ·rw [if_neg hi]at hx;rw [Aso (by omega),Aso (by omega),hx];simp
  have Cy:=h.sum;rw [e1,←Cy,Ho,h.len,Int.pow_succ];have e2:s=n+10000*((s-n)/10000):=(by omega);rw [Int.natCast_add,Int.natCast_mul,←Oh,Int.mul_assoc,Int.add_assoc,Int.add_assoc,←Int.mul_add,←Int.mul_add,←hs,←e2]
theorem Is.nonneg{l:List Int}{i:Nat}{out:List Nat}{over:Int}(h:Is l i out over)(hi:l.length<=i)(h0:0<=CW l):0<=over:=by
 have hs:=h.sum;rw [Aso hi]at hs;have h1:=Il h.lt;rw [h.len]at h1
 rcases Int.lt_or_le over 0 with hn|hn
 ·exfalso
  have h2:(10000:Int)^i*over<=10000^i*(-1):=Int.mul_le_mul_of_nonneg_left (by omega) (by rw [Oh];exact Int.natCast_nonneg _);have h3:=Oh i;omega
 ·exact hn
theorem Is.room{l:List Int}{i M:Nat}{out:List Nat}{over:Int}(h:Is l i out over)(hi:l.length<=i)(hp:0<over)(hM:CW l<10000^M):i<M:=by
 have hs:=h.sum;rw [Aso hi]at hs;have h2:(10000:Int)^i*1<=10000^i*over:=Int.mul_le_mul_of_nonneg_left (by omega) (by rw [Oh];exact Int.natCast_nonneg _)
 have h5:((10000^i:Nat):Int)<((10000^M:Nat):Int):=by rw [←Oh,←Oh];generalize (10000:Int)^i=P at *;generalize (10000:Int)^M=R at *;generalize P*over=T at *;omega
 exact(Nat.pow_lt_pow_iff_right (by omega)).1 (Int.ofNat_lt.1 h5)
theorem Is.done{l:List Int}{i N:Nat}{out:List Nat}(h:Is l i out 0)(hi:l.length<=i)(hN:CW l=(N:Int)):Ah 10000 out=N:=by
 have hs:=h.sum;rw [Aso hi]at hs;simp at hs;omega
/-! ### joined -/
structure Ix(p q:List Nat)(k:Int)(i:Nat)(out:List Int):Prop where
 le:i<=q.length
 len:i<=out.length
 len2:out.length<=p.length+i+1
 bd:∀j,-100000000*(10000:Int)<=az out j/\az out j<=100000000*10000
 bd2:∀j,i<=j→0<=az out j/\az out j<10000
 sum:CW out=(Ah 10000 p:Int)+k*(Ah 10000 (q.take i):Nat)
theorem Ae3{l:List Int}{j:Nat}(h:l.length<=j):az l j=0:=by unfold az;rw [List.getD_eq_getElem?_getD,List.getElem?_eq_none h];rfl
theorem tB{p:List Nat}(hp:∀x∈p,x<10000)(j:Nat):0<=az (zn p) j/\az (zn p) j<10000:=by
 by_cases h:j<p.length
 ·rw [JI];have:=Cd hp h;omega
 ·rw [Ae3 (by rw [AW];omega)];omega
theorem Ix.start{p:List Nat}(hp:∀x∈p,x<10000)(q:List Nat)(k:Int):Ix p q k 0 (zn p):=
 ⟨by omega,by omega,by rw [AW];omega,fun j=>by have:=tB hp j;omega,fun j _=>tB hp j,by rw [mX];simp [Ah]⟩
theorem tA(l:List Int)(j:Nat):az (l ++ [0]) j=az l j:=by
 unfold az;rw [List.getD_eq_getElem?_getD,List.getD_eq_getElem?_getD]
 rcases Nat.lt_trichotomy j l.length with h|h|h
 ·rw [List.getElem?_append_left h]
 ·subst h;rw [List.getElem?_append_right (by omega),List.getElem?_eq_none (Asf _)];simp
 ·rw [List.getElem?_eq_none (by simp;omega),List.getElem?_eq_none (by omega)]
theorem Ix.grow{p q:List Nat}{k:Int}{i:Nat}{out:List Int}(h:Ix p q k i out)(hl:out.length<=i):Ix p q k i (out ++ [0]):=
 ⟨h.le,by have:=h.len;simp;omega,by have:=h.len;have:=h.len2;simp at *;omega,fun j=>by rw [tA];exact h.bd j,fun j hj=>by rw [tA];exact h.bd2 j hj,by rw [yq,h.sum];simp⟩
theorem sZ{l:List Int}{i:Nat}(y:Int)(hi:i<l.length)(j:Nat):az (l.set i y) j=if j=i then y else az l j:=by
 unfold az;rw [List.getD_eq_getElem?_getD,List.getD_eq_getElem?_getD];by_cases h:j=i
 ·subst h;rw [if_pos rfl,List.getElem?_set_self hi];rfl
 ·rw [if_neg h,List.getElem?_set_ne (by omega)]
theorem xr{k:Int}{x:Nat}(h1:-10000<=k)(h2:k<=10000)(hx:x<10000):-100000000<=k*(x:Int)/\k*(x:Int)<=100000000:=by
 have a1:(-10000:Int)*x<=k*x:=Int.mul_le_mul_of_nonneg_right h1 (by omega);have a2:k*x<=(10000:Int)*x:=Int.mul_le_mul_of_nonneg_right h2 (by omega);omega
theorem Ix.step{p q:List Nat}{k:Int}{i:Nat}{out:List Int}(h:Ix p q k i out)(hi:i<q.length)(hl:i<out.length)(hq:∀x∈q,x<10000)(h1:-10000<=k)(h2:k<=10000) :
  Ix p q k (i+1) (out.set i (az out i+k*(Ag q i:Nat))):=by
 have hm:=xr h1 h2 (Cd hq hi);refine⟨hi,by rw [List.length_set];omega,by have:=h.len2;rw [List.length_set];omega,fun j=>?_,fun j hj=>?_,?_⟩
 ·rw [sZ _ hl]
  split
  ·have:=h.bd2 i (Asf _);omega
  ·exact h.bd j
 ·rw [sZ _ hl,if_neg (by omega)];exact h.bd2 j (by omega)
 ·rw [yo _ hl,h.sum,MB hi,Ho,List.length_take,Nat.min_eq_left (by omega),Int.natCast_add,Int.natCast_mul,←Oh,Int.mul_add];have e:az out i+k*(Ag q i:Nat)-az out i=k*(Ag q i:Nat):=(by omega);rw [e,Int.mul_left_comm,Int.add_assoc]
theorem Ix.done{p q:List Nat}{k:Int}{out:List Int}(h:Ix p q k q.length out):CW out=(Ah 10000 p:Int)+k*(Ah 10000 q:Nat)/\(∀x∈out,-1000000000000000<=x/\x<=1000000000000000)/\out.length<=p.length+q.length+1:=by
 refine⟨by rw [h.sum,List.take_length],fun x hx=>?_,h.len2⟩;obtain⟨j,hj,rfl⟩:=List.getElem_of_mem hx;have:=h.bd j;have e:az out j=out[j]:=(by unfold az;rw [List.getD_eq_getElem?_getD,Asl hj];rfl);rw [e]at this;omega
/-! ### times -/
structure MS(n i k x:Nat)(q out:List Nat)(v:Nat):Prop where
 le:k<=q.length
 len:out.length=n
 bd:∀j,Ag out j<=(if j<i+k then i+1 else i)*100000000
 sum:Ah 10000 out=v+10000^i*(x*Ah 10000 (q.take k))
theorem sY{l:List Nat}{i:Nat}(y:Nat)(hi:i<l.length)(j:Nat):Ag (l.set i y) j=if j=i then y else Ag l j:=by
 unfold Ag;rw [List.getD_eq_getElem?_getD,List.getD_eq_getElem?_getD];by_cases h:j=i
 ·subst h;rw [if_pos rfl,List.getElem?_set_self hi];rfl
 ·rw [if_neg h,List.getElem?_set_ne (by omega)]
theorem MS.step{n i k x v:Nat}{q out:List Nat}(h:MS n i k x q out v)(hk:k<q.length)(hn:i+k<n)(hx:x<10000)(hq:∀y∈q,y<10000) :
  MS n i (k+1) x q (out.set (i+k) (Ag out (i+k)+x*Ag q k)) v:=by
 have hl:=h.len;have hy:=Cd hq hk;have hm:x*Ag q k<=100000000:=Asq (Nat.mul_le_mul (Nat.le_of_lt hx) (Nat.le_of_lt hy)) (by omega);refine⟨hk,by rw [List.length_set];exact hl,fun j=>?_,?_⟩
 ·rw [sY _ (by omega)];have h1:=h.bd j
  split
  ·subst j;rw [if_neg (by omega)]at h1;rw [if_pos (by omega)];omega
  ·by_cases hj:j<i+k
   ·rw [if_pos hj]at h1;rw [if_pos (by omega)];exact h1
   ·rw [if_neg hj]at h1;rw [if_neg (by omega)];exact h1
 ·have hs:=Vg (b:=10000) (l:=out) (j:=i+k) (Ag out (i+k)+x*Ag q k) (by omega);have h2:=h.sum;rw [MB hk,Ho,List.length_take,Nat.min_eq_left (by omega),Nat.mul_add x,Nat.mul_add (10000^i)]
  have e:10000^i*(x*(10000^k*Ag q k))=10000^(i+k)*(x*Ag q k):=by rw [Nat.pow_add,Nat.mul_left_comm x,Nat.mul_assoc]
  rw [e];rw [Nat.mul_add]at hs;omega
theorem MS.next{n i x v:Nat}{p q out:List Nat}(h:MS n i q.length x q out v)(hx:x=Ag p i)(hi:i<p.length)(hv:v=Ah 10000 (p.take i)*Ah 10000 q)(y:Nat) :
  MS n (i+1) 0 y q out (Ah 10000 (p.take (i+1))*Ah 10000 q):=by
 refine⟨by omega,h.len,fun j=>?_,?_⟩
 ·have h1:=h.bd j;refine Asq h1 (Nat.mul_le_mul_right _ ?_);by_cases a:j<i+q.length
  ·rw [if_pos a];by_cases b:j<i+1+0
   ·rw [if_pos b];omega
   ·rw [if_neg b];omega
  ·rw [if_neg a];by_cases b:j<i+1+0
   ·rw [if_pos b];omega
   ·rw [if_neg b];omega
 ·rw [h.sum,List.take_length,hv,hx,MB hi,Ho,List.length_take,Nat.min_eq_left (by omega),Nat.add_mul];simp [Ah,Nat.mul_assoc]
/-! ### parts: one digit of a quotient -/
theorem Amy(X p q B:Nat)(hq:0<q):(B*X+p)/q=B*(X/q)+(B*(X%q)+p)/q/\(B*X+p)%q=(B*(X%q)+p)%q:=by
 have h:=Nat.div_add_mod X q
 have e:B*X+p=(B*(X%q)+p)+q*(B*(X/q)):=by
  conv=>lhs;rw [←h,Nat.mul_add,Nat.mul_left_comm]
  omega
 constructor
 ·conv=>lhs;rw [e]
  rw [Nat.add_mul_div_left _ _ hq];omega
 ·conv=>lhs;rw [e]
  rw [Nat.add_mul_mod_self_left]
theorem AfE{R p q B:Nat}(hq:0<q)(hR:R<q)(hp:p<B):(B*R+p)/q<B:=by
 rw [Nat.div_lt_iff_lt_mul hq]
 calc B*R+p<B*R+B:=by omega
  _=B*(R+1):=by rw [Nat.mul_add];simp
  _<=B*q:=Nat.mul_le_mul_left _ hR
theorem Afa{W:World}{b o:Nat}{cs:Array Value}{t:TypeId}{fz:Nat×Nat}{v:Value}(h:W.heap[b]?=some (.cells cs t fz))(hv:cs[o]?=some v):W.cell? ⟨b,o,none⟩=some v:=by
 unfold World.cell?;simp [h,hv]
theorem An8{P:Program}(w:World)(base:Nat)(t ty e:TypeId)(i:TypeInfo)(size:Nat)(ht:P.underlying t=some (.slice e))(hi:P.info? e=some i)
  (v:Value) (n c:Nat) (xs:List Value) (hown:w.ownsRow base e size v n xs) :
  (Builtin.append_ #[t,t] ty #[v,.slice none 0 c]).run P w=.ok v w:=by
 rcases hown.2 with⟨rfl,rfl⟩|⟨g,cap,cur,rfl,_,_,Ut,_⟩
 ·simp [Builtin.append_,run_underlying ht,sizeOf,typeInfo,hi,Builtin.lenOf,Builtin.firstCells]
 ·simp [Builtin.append_,run_underlying ht,sizeOf,typeInfo,hi,Builtin.lenOf,Builtin.firstCells,Ut,storeCells]
structure GY(w:World)(A:Option Addr)(c:Nat)(l:List Int):Prop where
 cap:l.length<=c
 max:c<=9223372036854775807
 len:l.length<=100000
 ad:0<l.length→∃b o,A=some ⟨b,o,none⟩/\∀j,j<l.length→w.cell? ⟨b,o+j,none⟩=some (.int .i64 (az l j))
def RZ(w:World)(v:Value)(l:List Int):Prop:=∃A c,v=.slice A l.length c/\GY w A c l
theorem GY.ext{w w':World}{A:Option Addr}{c:Nat}{l:List Int}(h:GY w A c l)(hx:Aa w w'):GY w' A c l:=
 ⟨h.cap,h.max,h.len,fun h0=>by
  obtain⟨b,o,e,hc⟩:=h.ad h0
  exact⟨b,o,e,fun j hj=>hx.cellS (hc j hj)⟩⟩
theorem RZ.ext{w w':World}{v:Value}{l:List Int}(h:RZ w v l)(hx:Aa w w'):RZ w' v l:=by
 obtain⟨A,c,e,h⟩:=h;exact⟨A,c,e,h.ext hx⟩
theorem RZ.nil(w:World):RZ w (.slice none 0 0) (zn []):=⟨none,0,rfl,by simp [zn],by omega,by simp [zn],fun h=>by simp [zn]at h⟩
theorem RZ.of_own{w:World}{base:Nat}{e:TypeId}{v:Value}{n:Nat}{l:List Int}(h:w.ownsRow base e 1 v n (zs l))(hn:n=l.length)(hl:l.length<=100000):RZ w v l:=by
 subst hn
 rcases h.2 with⟨rfl,h0⟩|⟨g,cap,cur,rfl,_,_,hn,hm,_,_⟩
 ·exact⟨none,0,by rw [h0],by omega,by omega,hl,fun h=>by omega⟩
 ·refine⟨some ⟨g,0,none⟩,cap,rfl,hn,hm,hl,fun _=>⟨g,0,rfl,fun j hj=>?_⟩⟩;have:=h.cells (g:=g) rfl j _ (PQ hj)
  rwa [Addr.add_lit]at this
theorem RZ.lit(w:World)(l:List Int)(t:TypeId)(hl:l.length<=100000):RZ (w.alloc (.cells (zs l).toArray t)) (.slice (some ⟨w.heap.size,0,none⟩) l.length l.length) l:=
 ⟨some ⟨w.heap.size,0,none⟩,l.length,rfl,Asf _,by omega,hl,fun _=>⟨w.heap.size,0,rfl,fun j hj=>by
  refine Afa (Ase w _) ?_;rw [Nat.zero_add,←Array.getElem?_toList]
  exact PQ hj⟩⟩
theorem GY.take{w:World}{A:Option Addr}{c:Nat}{l:List Int}(h:GY w A c l){k:Nat}(hk:k<=l.length):RZ w (.slice A k c) (l.take k):=by
 have e:(l.take k).length=k:=(by rw [List.length_take];omega);refine⟨A,c,by rw [e],by have:=h.cap;omega,h.max,by have:=h.len;omega,fun h0=>?_⟩;obtain⟨b,o,e1,hc⟩:=h.ad (by omega);refine⟨b,o,e1,fun j hj=>?_⟩
 have:az (l.take k) j=az l j:=by rw [e]at hj;simp [az,hj]
 rw [this];exact hc j (by omega)
theorem Tryz.infoI:(Tryz.prog.info? 3).map (fun i=>(i.zero,i.size,i.bytes))=some (some (.int .i64 0),1,8):=by kernel_rfl
def LD(n:Nat)(w:World)(e:Ending)(w':World):Prop:=∃v,e=.returned v/\RZ w' v (zn (pc 10000 n))/\Aa w w'
theorem UX(n:Nat)(hn:n<=200000)(c:Int)(hc:c=(n:Int))(W:World) :
  (Instr.makeSlice 135 (.int .i64 c) (.int .i64 c)).run Tryz.prog W=.ok (.slice (some ⟨W.heap.size,0,none⟩) n n) (W.alloc (.cells (madeCells #[.int .i64 0] n) 3)):=by
 subst hc;obtain⟨i0,hi,hz0,hz1,hz2⟩:=info_parts Tryz.infoI;have h:=run_make (P:=Tryz.prog) W 135 3 i0 (.int .i64 0) Tryz.underlying135 hi hz0 .i64 .i64 n n (by omega) (by omega) (by rw [hz2];omega) (by omega);rw [hz1,Nat.mul_one]at h;simp only [Int.toNat_natCast]at h;exact h
theorem Vo(W:World)(base n:Nat)(hb:base<=W.heap.size)(hn:n<=200000) :
  (W.alloc (.cells (madeCells #[.int .i64 0] n) 3)).ownsRow base 3 1 (.slice (some ⟨W.heap.size,0,none⟩) n n) n (zs (zn (List.replicate n 0))):=by
 have h:=World.ownsRow_lit (w:=W) (base:=base) (e:=3) (size:=1) (madeCells #[.int .i64 0] n) n hb (by unfold maxLen;omega) (by rw [size_madeCells];omega);rw [toList_madeCells_one]at h
 simpa [zs,zn]using h
theorem zg(W:World)(base:Nat)(l:List Int)(hb:base<=W.heap.size)(hn:l.length<=200000) :
  (W.alloc (.cells (zs l).toArray 3)).ownsRow base 3 1 (.slice (some ⟨W.heap.size,0,none⟩) l.length l.length) l.length (zs l):=by
 have h:=World.ownsRow_lit (w:=W) (base:=base) (e:=3) (size:=1) (zs l).toArray l.length hb (by unfold maxLen;omega) (by simp [zs])
 simpa using h
section
variable {ops : Array Oper} {rest : List Oper} {o : Oper} {a : Act} {Q : Exit → Act → World → Prop}
theorem Apg{K:Act→World→Prop}(s x:Operand)(ho:o.op=.call {callee:=.builtin .append,args:=#[s,x],argTypes:=#[135,135]})
  (wr:World) (base:Nat) (v:Value) (n:Nat) (xs:List Int) (hs:a.eval s=v) (hown:wr.ownsRow base 3 1 v n (zs xs)) (hn:n<200000) (z:Int) (y:Int) (hz:z=y)
  (hx:a.eval x=.slice (some ⟨wr.heap.size,0,none⟩) 1 1) (hbase:base<=wr.heap.size)
  (h:∀v' w',w'.ownsRow base 3 1 v' (n+1) (zs (xs ++ [y]))→(∀w0,Aa w0 wr→w0.heap.size<=base→Aa w0 w')→K (a.put o.dst v') w') :
  o.wp Tryz.prog a (wr.alloc (.cells #[.int .i64 z] 3)) K Q:=by
 obtain⟨i0,hi,hz0,hz1,hz2⟩:=info_parts Tryz.infoI;subst hz;refine wp_append_own _ s x 135 ho base 3 i0 (.int .i64 0) 1 8 Tryz.underlying135 hi hz0 hz1 hz2 rfl (by omega) v n (zs xs) hs (hown.alloc _) ⟨wr.heap.size,0,none⟩ 1 1 [.int .i64 z] hx rfl ?_ ?_ ?_ ?_ ?_ ?_
 ·intro j u hu
  match j,hu with
  | 0,hu=>
   simp only [List.getElem?_cons_zero,Asj]at hu;subst hu;rw [Addr.add_lit,World.cell?_alloc_at _ _ _ _ (by simp)]
   rfl
  | j+1,hu=>simp at hu
 ·intro u hu;simp only [Ass]at hu;subst hu;rfl
 ·unfold maxLen;omega
 ·omega
 ·simp;omega
 ·intro v' w' h2 h3 _;refine h v' w' (by simpa [zs]using h2) fun w0 he hb=>?_;exact(he.alloc _).grownOwn h3 (hown.alloc _) hb
theorem Ql(hgd:o.guard=none)(s x:Operand)(ho:o.op=.call {callee:=.builtin .append,args:=#[s,x],argTypes:=#[135,135]})
  (wr:World) (base:Nat) (v:Value) (n:Nat) (xs:List Int) (hs:a.eval s=v) (hown:wr.ownsRow base 3 1 v n (zs xs)) (hn:n<200000) (z:Int) (y:Int) (hz:z=y)
  (hx:a.eval x=.slice (some ⟨wr.heap.size,0,none⟩) 1 1) (hbase:base<=wr.heap.size)
  (h:∀v' w',w'.ownsRow base 3 1 v' (n+1) (zs (xs ++ [y]))→(∀w0,Aa w0 wr→w0.heap.size<=base→Aa w0 w')→wpList Tryz.prog ops Q rest (a.put o.dst v') w') :
  wpList Tryz.prog ops Q (o::rest) a (wr.alloc (.cells #[.int .i64 z] 3)):=
 wpList_plain hgd fun _ hK=>Apg s x ho wr base v n xs hs hown hn z y hz hx hbase fun v' w' h2 h3=>hK _ _ (h v' w' h2 h3)
theorem sR(hgd:o.guard=none)(s x:Operand)(ho:o.op=.call {callee:=.builtin .append,args:=#[s,x],argTypes:=#[135,135]})
  (wr:World) (base:Nat) (v:Value) (n:Nat) (xs:List Int) (hs:a.eval s=v) (hown:wr.ownsRow base 3 1 v n (zs xs)) (l:List Int) (vx:Value) (hx:a.eval x=vx) (hr:RZ wr vx l) (hn:n+l.length<200000) (hbase:base<=wr.heap.size)
  (h:∀v' w',w'.ownsRow base 3 1 v' (n+l.length) (zs (xs++l))→(∀w0,Aa w0 wr→w0.heap.size<=base→Aa w0 w')→wpList Tryz.prog ops Q rest (a.put o.dst v') w') :
  wpList Tryz.prog ops Q (o::rest) a wr:=by
 obtain⟨i0,hi,hz0,hz1,hz2⟩:=info_parts Tryz.infoI;obtain⟨A,c,rfl,B5⟩:=hr;refine wpList_plain hgd fun K hK=>?_;by_cases h0:l.length=0
 ·obtain rfl:l = []:=List.length_eq_zero_iff.1 h0;rw [List.append_nil]at h
  cases A with
  | none=>
   have hrun:=An8 (P:=Tryz.prog) wr base 135 o.type 3 i0 1 Tryz.underlying135 hi v n c (zs xs) hown;unfold Oper.wp execOp;simp only [ho,resolve,invoke,builtin,Sem.run_bind,Sem.run_pure,Result.andThen_ok,List.map_toArray,List.map_cons,List.map_nil,hs,hx,List.length_nil,hrun];exact hK _ _ (h v wr hown fun w0 he hb=>he)
  | some ad=>refine wp_append_own _ s x 135 ho base 3 i0 (.int .i64 0) 1 8 Tryz.underlying135 hi hz0 hz1 hz2 rfl (by omega) v n (zs xs) hs hown ad 0 c [] hx rfl (fun j u hu=>by simp at hu) (fun u hu=>by simp at hu) (by unfold maxLen;omega) (by omega) hbase ?_;intro v' w' h2 h3 _;exact hK _ _ (h v' w' (by simpa using h2) fun w0 he hb=>he.grownOwn h3 hown hb)
 ·obtain⟨b,off,rfl,hc⟩:=B5.ad (by omega);refine wp_append_own _ s x 135 ho base 3 i0 (.int .i64 0) 1 8 Tryz.underlying135 hi hz0 hz1 hz2 rfl (by omega) v n (zs xs) hs hown ⟨b,off,none⟩ l.length c (zs l) hx (by simp [zs]) ?_ ?_ (by unfold maxLen;omega) (by omega) hbase ?_
  ·intro j u hu
   have hj:j<l.length:=by
    have:=(List.getElem?_eq_some_iff.1 hu).1
    simpa [zs]using this
   rw [PQ hj]at hu;rw [←Option.some.inj hu,Addr.add_lit];exact hc j hj
  ·intro u hu;simp only [zs,List.mem_map]at hu;obtain⟨z,_,rfl⟩:=hu
   rfl
  ·intro v' w' h2 h3 _;exact hK _ _ (h v' w' (by simpa [zs]using h2) fun w0 he hb=>he.grownOwn h3 hown hb)
end
theorem CX.done4{l:List Nat}{k:Nat}(h:CX l k)(hl:∀x∈l,x<10000)(hx:k=0∨Ag l (k-1)≠0):l.take k=pc 10000 (Ah 10000 l):=by
 rw [←h.sum (b:=10000)];refine(nM (by omega) (fun x hm=>hl x (List.mem_of_mem_take hm)) ?_).symm;intro hne
 rcases hx with rfl|hx
 ·simp at hne
 ·have hk:=h.1
  have h0:0<k:=by
   rcases Nat.eq_zero_or_pos k with rfl|h0
   ·simp at hne
   ·exact h0
  rw [List.getLast_take];have e:l[k-1]?=some (l[k-1]'(by omega)):=Asl (by omega);rw [e];simp [Ag,List.getD,e]at hx ⊢;exact hx
theorem GY.takeN{w:World}{A:Option Addr}{c:Nat}{l:List Nat}(h:GY w A c (zn l)){k:Nat}(hk:k<=l.length):RZ w (.slice A k c) (zn (l.take k)):=by
 rw [←Apq];exact h.take (by rw [AW];exact hk)
theorem ZK(l:List Nat)(v:Value)(w:World)(hv:RZ w v (zn l))(hl:∀x∈l,x<10000) :
  Calls Tryz.prog 181 #[v] w (LD (Ah 10000 l) w):=by
 obtain⟨A,c,rfl,hr⟩:=hv;have BF:=hr.cap;have hmax:=hr.max;have hlen:=hr.len;rw [AW]at BF hlen ⊢;go_enter Tryz.func181,Tryz.ntmps181;go_wp2
 go_loop [0] (fun v=>∃k:Nat,CX l k/\v=.slice A k c) (fun v=>match v with | .slice _ n _=>n|_=>0)
 case atStart=>exact⟨l.length,CX.start l,rfl⟩
 case round=>
  obtain⟨k,hk,rfl⟩:=hrel;have Co:=hk.1;by_cases h0:k=0
  ·subst h0;go_wp2;go_ret;exact⟨_,rfl,by rw [←hk.done4 hl (.inl rfl)];exact hr.takeN (by omega),Aa.refl _⟩
  ·obtain⟨b,o,rfl,hc⟩:=hr.ad (by rw [AW];omega);have hg:=hc (k-1) (by rw [AW];omega);rw [JI]at hg;clear hc;by_cases hx:Ag l (k-1)=0
   ·rw [hx]at hg;go_wp2
    go_round
    case rel=>exact⟨k-1,hk.step h0 hx,rfl⟩
    case measure=>simp;omega
   ·have hx':(((Ag l (k-1):Nat):Int) == 0)=false:=(by simpa using hx);go_wp2;go_ret;exact⟨_,rfl,by rw [←hk.done4 hl (.inr hx)];exact hr.takeN (by omega),Aa.refl _⟩
/-! ### take -/
structure O4(n:Nat)(s:Bs)(e:Nat)(o:List Nat):Prop where
 le:e<=s.length
 lt:∀x∈o,x<10000
 len:e+o.length<=s.length
 sum:n=val (s.take e)*10000^o.length+Ah 10000 o
theorem O4.start(s:Bs):O4 (val s) s s.length []:=⟨Asf _,by simp,by simp,by simp [Ah]⟩
theorem AoP{l:Bs}(h:BP l)(hl:l.length<=4):val l<10000:=by
 have h1:=GU h;have h2:10^l.length<=10^4:=Nat.pow_le_pow_right (by omega) hl;have h3:(10:Nat)^4=10000:=(by decide);omega
theorem O4.step{n:Nat}{s:Bs}{e:Nat}{o:List Nat}(h:O4 n s e o)(ha:BP s)(h0:0<e):O4 n s (e-4) (o ++ [val ((s.take e).drop (e-4))]):=by
 have hd:BP ((s.take e).drop (e-4)):=dA (SE ha e) _;have EX:((s.take e).drop (e-4)).length=e-(e-4):=(by rw [List.length_drop,List.length_take,Nat.min_eq_left h.le]);have hv:=AoP hd (by omega);have hle:=h.le;refine⟨by omega,?_,by have:=h.len;rw [List.length_append,List.length_singleton];omega,?_⟩
 ·intro x hx
  rcases List.mem_append.1 hx with hx|hx
  ·exact h.lt x hx
  ·simp at hx;subst hx;exact hv
 ·have hs:val (s.take e)=val (s.take (e-4))*10000+val ((s.take e).drop (e-4)):=by
   conv=>lhs;rw [←List.take_append_drop (e-4) (s.take e)]
   rw [val_append,EX,List.take_take,Nat.min_eq_left (by omega)];by_cases h4:4<=e
   ·rw [show e-(e-4)=4 by omega]
   ·rw [show e-4=0 by omega];simp [G1]
  rw [Ho,List.length_append,List.length_singleton,Nat.pow_succ];have:=h.sum;rw [hs]at this;rw [this];generalize 10000^o.length=p;generalize val (s.take (e-4))=a;generalize val ((s.take e).drop (e-4))=b;rw [Nat.add_mul,Nat.mul_assoc,Nat.mul_comm 10000 p,Nat.mul_comm b p];omega
theorem Ao3(s:Bs)(b i:Nat)(hb:b<=i)(hi:i<s.length):(s.take (i+1)).drop b=(s.take i).drop b ++ [s[i]]:=by
 rw [Asi hi,List.drop_append_of_le_length (by rw [List.length_take];omega)]
def AdX(s:Bs)(w:World)(p e:Value)(wr:World):Prop:=
 ∃(z:Int) (o:List Nat),O4 (val s) s z.toNat o/\e=.int .i64 z/\-4<=z/\wr.ownsRow w.heap.size 3 1 p o.length (zs (zn o))/\Aa w wr
theorem Seg.digitT{s:ByteArray}{m:Bs}(h:Seg s 0 m){b j:Nat}(hb:b<=j)(hj:j<m.length)(h4:j<b+4) :
  ∃(c:UInt8) (v:Nat) (CS:j<s.size),s[j]=c/\(48:Int)<=(c.toNat:Int)/\(c.toNat:Int)<=57/\v=val ((m.take j).drop b)/\(v:Int)<=999/\((val ((m.take (j+1)).drop b):Nat):Int)=10*(v:Int)+(c.toNat:Int)-48:=by
 have CS:j<s.size:=(by have:=h.le;omega);have e:=h.at_ j CS (by omega) (by omega);rw [Nat.sub_zero]at e;have hid:=h.all m[j] (Asg hj);have hd:=dA (SE h.all j) b;have hv:=GU hd;have h3:10^((m.take j).drop b).length<=10^3:=Nat.pow_le_pow_right (by omega) (by rw [List.length_drop,List.length_take];omega);have h5:(10:Nat)^3=1000:=(by decide);have d1:=hid.1;have d2:=hid.2;refine⟨m[j],_,CS,by rw [e];simp [List.getD,hj],by omega,by omega,rfl,by omega,?_⟩;rw [Ao3 m b j hb hj,VJ];unfold dv;omega
theorem Anj(s:ByteArray)(m:Bs)(hm:Seg s 0 m)(hs:s.size=m.length)(hl:m.length<=20000)(w:World):Calls Tryz.prog 105 #[.string s] w (LD (val m) w):=by
 have HS:=Asb hs;have HM:=Asb hm;have how:w.ownsRow w.heap.size 3 1 (.slice none 0 0) 0 (zs (zn [])):=⟨rfl,.inl ⟨rfl,rfl⟩⟩;have hs2:s.size<=20000:=(by omega);clear hs hm;go_enter Tryz.func105,Tryz.ntmps105;go_wp2
 go_loopw [3,4] (fun p e wr=>AdX m w p e wr) (fun _ e _=>(intOf e).toNat)
 case atStart=>exact⟨m.length,[],by simpa using O4.start m,by rw [←HS.out],by omega,how,Aa.refl _⟩
 case round=>
  clear how;obtain⟨z,o,hT,rfl,hz4,hown,Ac⟩:=hrel;have hle:=hT.le;have hlen:=hT.len;have hsz:=Ac.size;by_cases hz0:0<z
  ·obtain⟨k,rfl⟩:=Int.eq_ofNat_of_zero_le (show 0<=z by omega);rw [Int.toNat_natCast]at hT hle hlen;have h0:0<k:=(by omega);have hmax:max (0:Int) ((k:Int)-4)=((k-4:Nat):Int):=(by omega);obtain⟨b,hb⟩:=AcG (k-4);rw [←hb]at hmax;have H9:b<=k:=(by omega);have QP:(k:Int)<=s.size:=(by have:=HS.out;omega);have HB:=Asb hb;clear hb;go_wp2
   all_goals
    clear hmax
    go_loop [5,6] (fun n i=>∃j:Nat,b<=j/\j<=k/\i=.int .i64 (j:Nat)/\n=.int .i64 (val ((m.take j).drop b):Nat)) (fun _ i=>k-(intOf i).toNat)
    case atStart=>exact⟨b,by omega,by omega,by have:=HB.out;congr 1<;>omega,by rw [List.drop_eq_nil_of_le (by rw [List.length_take];omega)];rfl⟩
    case round=>
     obtain⟨j,DD,Mc,rfl,rfl⟩:=hrel;by_cases hlt:j<k
     ·obtain⟨c,v,CS,e,d1,d2,hv,Et,hn⟩:=HM.out.digitT DD (show j<m.length by omega) (by have:=HB.out;omega);rw [←hv];have HN:=Asb hn;clear hv hn;go_wp2
      go_round
      case rel=>exact⟨j+1,by omega,by omega,by go_num,by rw [HN.out]⟩
      case measure=>simp [intOf];omega
     ·obtain rfl:j=k:=(by omega);have hst:=hT.step HM.out.all h0;rw [←HB.out]at hst;obtain⟨x,hx⟩:=AcG (val ((m.take j).drop b));rw [←hx]at hst ⊢;have HT:=Asb hst;clear hx hst
      go_wp2_with (at_builtin;refine Ql rfl _ _ rfl wr w.heap.size u3 o.length (zn o) rfl hown (by omega) _ (x:Int) rfl rfl hsz ?_;intro v1 w1 hown1 hx1)
      go_roundw
      case rel=>
       refine⟨_,o ++ [x],?_,rfl,by omega,?_,hx1 _ Ac (Asf _)⟩
       ·rw [show ((j:Int)-4).toNat=b by have:=HB.out;omega];exact HT.out
       rw [pP]
       simpa [zn]using hown1
      case measure=>have:=HB.out;simp [intOf];omega
  ·have U8:z.toNat=0:=(by omega);rw [U8]at hT hle hlen;clear U8;have Cy:=hT.sum;rw [List.take_zero,G1,Nat.zero_mul,Nat.zero_add]at Cy;have HS:=Asb Cy;clear Cy;(go_wp2_with fail);have AU:RZ wr u3 (zn o):=RZ.of_own hown (by rw [AW]) (by rw [AW];omega);(with_reducible refine(ZK o _ _ AU hT.lt).mono ?_);rintro e w2 ⟨v2,rfl,hv2,hx2⟩;go_wp2;go_ret;exact⟨v2,rfl,by rw [HS.out];exact hv2,Ac.trans hx2⟩
theorem Ank(l:Bs)(ha:BP l)(hl:l.length<=20000)(w:World):Calls Tryz.prog 105 #[S l] w (LD (val l) w):=by
 have h:=IQ [] l [] ha;simp only [List.nil_append,List.append_nil,List.length_nil]at h;exact Anj _ l h (by simp [ByteArray.size]) hl w
theorem RO(n:Nat)(hl:(D n).length<=20000)(w:World):Calls Tryz.prog 105 #[S (D n)] w (LD n w):=by
 have h:=Ank (D n) (C7 n) hl w
 rwa [F3]at h
theorem Anz{a b:Bool}(h:a=b):Ending.returned (.bool a)=.returned (.bool b):=by rw [h]
theorem AoB(s:Int):(s.tmod 10000=s%10000/\(0<=s∨s%10000=0))∨(s<0/\s%10000≠0/\s.tmod 10000=s%10000-10000):=by
 have h:=Int.tmod_eq_emod (a:=s) (b:=10000);by_cases h0:0<=s∨(10000:Int)∣s
 ·rw [if_pos h0]at h;refine .inl ⟨by omega,?_⟩
  rcases h0 with h0|h0
  ·exact .inl h0
  ·right;omega
 ·rw [if_neg h0]at h;exact .inr ⟨by omega,by omega,by rw [h];rfl⟩
theorem Ana(a b:List Nat)(u v:Value)(w:World)(hu:RZ w u (zn a))(hv:RZ w v (zn b))(ha:∀x∈a,x<10000)(hb:∀x∈b,x<10000)(YO:Hw a)(Mk:Hw b) :
  Calls Tryz.prog 108 #[u,v] w (Dq (decide (Ah 10000 a<Ah 10000 b)) w):=by
 obtain⟨A,ca,rfl,B5⟩:=hu;obtain⟨B,cb,rfl,Bo⟩:=hv;have FH:=B5.cap;have hcb:=Bo.cap;have Jr:=B5.max;have Me:=Bo.max;have Gu:=B5.len;have EW:=Bo.len;rw [AW]at FH hcb Gu EW ⊢;rw [AW];by_cases hab:a.length=b.length
 ·have hne:(((a.length:Nat):Int) != (b.length:Nat))=false:=(by simp [hab]);go_enter Tryz.func108,Tryz.ntmps108;have L1:=Asb hab;clear hab;go_wp2
  go_loopw [5] (fun i wr=>∃z:Int,-1<=z/\z<a.length/\a.drop (z+1).toNat=b.drop (z+1).toNat/\i=.int .i64 z/\Aa w wr) (fun i _=>(intOf i+1).toNat)
  case atStart=>exact⟨(a.length:Int)-1,by omega,by omega,by rw [show ((a.length:Int)-1+1).toNat=a.length by omega,List.drop_length,L1.out,List.drop_length],rfl,Aa.refl w⟩
  case round=>
   obtain⟨z,hz1,hz2,hd,rfl,Ac⟩:=hrel;have HD:=Asb hd;clear hd;by_cases h0:z<0
   ·have e:a=b:=(by have:=HD.out;rw [show (z+1).toNat=0 by omega]at this;simpa using this);have hf:decide (Ah 10000 a<Ah 10000 b)=false:=(by rw [e];simp);have HF:=Asb hf;clear e hf;go_wp2;go_ret;exact⟨Anz HF.out.symm,Ac⟩
   ·obtain⟨n,rfl⟩:=Int.eq_ofNat_of_zero_le (show 0<=z by omega);have Bv:n<a.length:=(by omega);have hk2:n<b.length:=(by have:=L1.out;omega);obtain⟨ba,oa,rfl,DW⟩:=B5.ad (by rw [AW];omega);have N8:=Ac.cellS (DW n (by rw [AW];omega));obtain⟨bb,ob,rfl,DX⟩:=Bo.ad (by rw [AW];omega);have hgb:=Ac.cellS (DX n (by rw [AW];omega));rw [JI]at N8 hgb;have Ay:=Cd ha Bv;have hxb:=Cd hb hk2;have C3:a.drop (n+1)=b.drop (n+1):=(by have:=HD.out;rwa [show ((n:Int)+1).toNat=n+1 by omega]at this);have Ov:=Asb C3;clear DW DX HD C3
    rcases Nat.lt_trichotomy (Ag a n) (Ag b n)with hx|hx|hx
    ·have h1:(((Ag a n:Nat):Int) != (Ag b n:Nat))=true:=(by rw [bne_iff_ne];omega);have hf:decide (Ah 10000 a<Ah 10000 b)=true:=decide_eq_true (Zu (b:=10000) n ha hb L1.out Bv Ov.out hx);rw [hf];clear hf;(go_wp2_with fail)
     go_quiet (fail)
     (go_wp2_with fail)
     go_quiet (fail)
     go_wp2;go_ret;exact⟨rfl,(Ac.drewN _).drewN _⟩
    ·have h1:(((Ag a n:Nat):Int) != (Ag b n:Nat))=false:=(by simp [hx]);have HX:=Asb hx;clear hx;(go_wp2_with fail)
     go_quiet (fail)
     go_wp2;go_roundw
     case rel=>refine⟨(n:Int)-1,by omega,by omega,?_,by go_num,Ac.drewN _⟩;rw [show ((n:Int)-1+1).toNat=n by omega,KC Bv,KC hk2,HX.out,Ov.out]
     case measure=>simp [intOf]
    ·have h1:(((Ag a n:Nat):Int) != (Ag b n:Nat))=true:=(by rw [bne_iff_ne];omega);have Dc:=Zu (b:=10000) n hb ha L1.out.symm hk2 Ov.out.symm hx;have hf:decide (Ah 10000 a<Ah 10000 b)=false:=decide_eq_false (by omega);rw [hf];clear hf Dc;have h2:decide (Ag a n<Ag b n)=false:=decide_eq_false (by omega);(go_wp2_with fail)
     go_quiet (fail)
     (go_wp2_with fail)
     go_quiet (fail)
     go_wp2;go_ret;exact⟨rfl,(Ac.drewN _).drewN _⟩
 ·have hne:(((a.length:Nat):Int) != (b.length:Nat))=true:=(by rw [bne_iff_ne];omega);by_cases hlt:a.length<b.length
  ·have hf:decide (Ah 10000 a<Ah 10000 b)=true:=decide_eq_true (Zv (by omega) ha Mk hlt);rw [hf];clear hf;go_enter Tryz.func108,Tryz.ntmps108;go_wp2;go_ret;exact⟨rfl,Aa.refl w⟩
  ·have Dc:=Zv (b:=10000) (by omega) hb YO (show b.length<a.length by omega);have hf:decide (Ah 10000 a<Ah 10000 b)=false:=decide_eq_false (by omega);rw [hf];clear hf Dc;have h2:decide (a.length<b.length)=false:=decide_eq_false hlt;go_enter Tryz.func108,Tryz.ntmps108;go_wp2;go_ret;exact⟨rfl,Aa.refl w⟩
theorem Aa8(p q:Nat)(u v:Value)(w:World)(hu:RZ w u (zn (pc 10000 p)))(hv:RZ w v (zn (pc 10000 q))) :
  Calls Tryz.prog 108 #[u,v] w (Dq (decide (p<q)) w):=by
 have h:=Ana _ _ u v w hu hv (AX (by omega) p) (AX (by omega) q) (FY (by omega) p) (FY (by omega) q)
 rwa [AM (by omega),AM (by omega)]at h
/-! ### carry -/
def Ach(l:List Int)(w:World)(p over i:Value)(wr:World):Prop:=
 ∃(k:Nat) (o:List Nat) (z:Int),Is l k o z/\i=.int .i64 (k:Nat)/\over=.int .i64 z/\k<=50000/\wr.ownsRow w.heap.size 3 1 p k (zs (zn o))/\Aa w wr
theorem Aa2(l:List Int)(N M:Nat)(hM:M<=50000)(Jk:N<10000^M)(hN:CW l=(N:Int))(EX:l.length<=50000)(C6:∀x∈l,-1000000000000000<=x/\x<=1000000000000000)(v:Value)(w:World)(hv:RZ w v l) :
  Calls Tryz.prog 183 #[v] w (LD N w):=by
 obtain⟨A,c,rfl,hr⟩:=hv;have BF:=hr.cap;have hmax:=hr.max;have hlen:=hr.len;have yA:CW l<10000^M:=(by rw [hN,Oh];exact Int.ofNat_lt.2 Jk);have HN:=Asb hN;have HM:=Asb yA;have HB:=Asb C6;clear hN Jk yA C6;have how:w.ownsRow w.heap.size 3 1 (.slice none 0 0) 0 (zs (zn [])):=⟨rfl,.inl ⟨rfl,rfl⟩⟩;go_enter Tryz.func183,Tryz.ntmps183;go_wp2
 go_loopw [3,4,5] (fun p over i wr=>Ach l w p over i wr) (fun _ over i _=>(l.length-(intOf i).toNat)*10000000000000000+(intOf over).toNat)
 case atStart=>exact⟨0,[],0,Is.start l,rfl,rfl,by omega,how,Aa.refl _⟩
 case round=>
  clear how;obtain⟨k,o,z,hC,rfl,rfl,hk5,hown,Ac⟩:=hrel;have hlo:=hC.lo;have Yl:=hC.hi;have hsz:=Ac.size;by_cases hk:k<l.length
  ·obtain⟨b,off,rfl,hc⟩:=hr.ad (by omega);have hg:=Ac.cellS (hc k hk);have zN:az l k=l[k]:=(by unfold az;rw [List.getD_eq_getElem?_getD,Asl hk];rfl);have hb:=HB.out _ (Asg hk);rw [←zN]at hb;obtain⟨b1,b2⟩:=hb;obtain⟨x,hx⟩:=AcG (az l k);rw [←hx]at hg b1 b2;obtain⟨s,hs⟩:∃s,z+x=s:=⟨_,rfl⟩;obtain⟨n,hn⟩:=Int.eq_ofNat_of_zero_le (show 0<=s%10000 by omega);have hst:=hC.step (x:=x) (s:=s) (n:=n) (by rw [if_pos hk,hx]) hs.symm b1 b2 hn.symm;have HST:=Asb hst;have Df:n<10000:=(by omega);have hs1:-2000000000000000<=s:=(by omega);have hs2:s<=2000000000000000:=(by omega);have ey:(10000:Int)∣s-n:=(by omega);have hq:(s-n).tdiv 10000=(s-n)/10000:=Int.tdiv_eq_ediv_of_dvd ey;have lH:=AoB s;obtain⟨q,Jv⟩:=AcG ((s-n)/10000);rw [←Jv]at hq;have HQ:=Asb Jv;have EG:=HST.out.lo;have hqh:=HST.out.hi;rw [←Jv]at EG hqh;clear hc zN hx hst ey;by_cases GI:s.tmod 10000<0
   case' pos=>
    obtain⟨t,ht⟩:∃t,s.tmod 10000=t:=⟨_,rfl⟩;have htn:t+10000=n:=(by omega);have U8:t<0:=(by omega);have Rc:-10000<t:=(by omega);have hs0:s<0:=(by omega);clear GI lH hn Jv
    go_wp2_with (at_builtin;refine Ql rfl _ _ rfl wr w.heap.size u3 k (zn o) rfl hown (by omega) _ (n:Int) (by omega) rfl hsz ?_;intro v1 w1 hown1 hx1)
   case' neg=>
    have Aj2:s.tmod 10000=n:=(by omega);clear GI Jv;by_cases hs0:0<=s
    case' pos=>
     have hem:s%10000=n:=(by omega);clear lH hn Aj2
     go_wp2_with (at_builtin;refine Ql rfl _ _ rfl wr w.heap.size u3 k (zn o) rfl hown (by omega) _ (n:Int) (by omega) rfl hsz ?_;intro v1 w1 hown1 hx1)
    case' neg=>
     clear lH hn
     go_wp2_with (at_builtin;refine Ql rfl _ _ rfl wr w.heap.size u3 k (zn o) rfl hown (by omega) _ (n:Int) (by omega) rfl hsz ?_;intro v1 w1 hown1 hx1)
   all_goals
    go_roundw
    case rel=>have hst:=HST.out;rw [←HQ.out]at hst;exact⟨k+1,_,_,hst,by go_num,by first|rfl|(congr 1;exact HQ.out.symm)|(rw [HQ.out]),by omega,by rw [pP];exact hown1,hx1 _ Ac (Asf _)⟩
    case measure=>simp [intOf];omega
  ·have hz0:=hC.nonneg (by omega) (by rw [HN.out];omega);by_cases hz:0<z
   ·have hkM:=hC.room (by omega) hz HM.out;have hne:(z != 0)=true:=(by rw [bne_iff_ne];omega);obtain⟨n,hn⟩:=Int.eq_ofNat_of_zero_le (show 0<=z%10000 by omega);have hst:=hC.step (x:=0) (s:=z) (n:=n) (by rw [if_neg hk]) (by omega) (by omega) (by omega) hn.symm;have HST:=Asb hst;have hd:decide (k<l.length)=false:=decide_eq_false hk;have Mq:0<=z-n:=(by omega);clear hst
    go_wp2_with (at_builtin;refine Ql rfl _ _ rfl wr w.heap.size u3 k (zn o) rfl hown (by omega) _ (n:Int) (by omega) rfl hsz ?_;intro v1 w1 hown1 hx1)
    go_roundw
    case rel=>exact⟨k+1,_,_,HST.out,by go_num,rfl,by omega,by rw [pP];exact hown1,hx1 _ Ac (Asf _)⟩
    case measure=>simp [intOf];omega
   ·obtain rfl:z=0:=(by omega);have hd:decide (k<l.length)=false:=decide_eq_false hk;have Cy:=hC.done (by omega) HN.out;have EY:=hC.len;have HS:=Asb Cy;have HO:=Asb EY;clear Cy EY;(go_wp2_with fail);have AU:RZ wr u3 (zn o):=RZ.of_own hown (by rw [AW,HO.out]) (by rw [AW,HO.out];omega);(with_reducible refine(ZK o _ _ AU hC.lt).mono ?_);rintro e w2 ⟨v2,rfl,hv2,hx2⟩;go_wp2;go_ret;exact⟨v2,rfl,by rw [←HS.out];exact hv2,Ac.trans hx2⟩
end Go.Proofs.YtdaefncphfeaeaaGreatDoor
