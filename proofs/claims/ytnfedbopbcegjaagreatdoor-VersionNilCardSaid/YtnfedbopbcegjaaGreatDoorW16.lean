/- W16. -/
import Derived.Test.YtnfedbopbcegjaaGreatDoorW15
set_option maxRecDepth 100000
set_option maxHeartbeats 8000000
namespace Go.Proofs.YtnfedbopbcegjaaGreatDoor
open Go.RowKit Kl
def K8(q:Rat):Prop:=∃a:Int,a.natAbs<=9/\q=(a:Rat)/2
structure Da(p:Pt):Prop where
 x:K8 p.x
 y:K8 p.y
structure Gb(s:Sg):Prop where
 a:Da s.a
 b:Da s.b
def Ho(n:Nat)(q:Rat):Prop:=∃a:Int,a.natAbs<=n/\q=(a:Rat)/4
theorem Ho.sz{n K:Nat}{q:Rat}(h:Ho n q)(hn:n<10^K)(hK:0<K):Sz K q:=by
 obtain⟨a,ha,rfl⟩:=h;have:(a:Rat)/4=mkRat a 4:=(by rw [Rat.mkRat_eq_div];rfl);rw [this];have h10:10^1<=10^K:=Nat.pow_le_pow_right (by omega) (by omega);exact Sz.mkRat (by omega) (by omega) (by omega)
theorem K8.sz{K:Nat}{q:Rat}(h:K8 q)(hK:1<=K):Sz K q:=by
 obtain⟨a,ha,rfl⟩:=h;have:(a:Rat)/2=mkRat a 2:=(by rw [Rat.mkRat_eq_div];rfl);rw [this];have h10:10^1<=10^K:=Nat.pow_le_pow_right (by omega) (by omega);exact Sz.mkRat (by omega) (by omega) (by omega)
theorem Da.sz{K:Nat}{p:Pt}(h:Da p)(hK:1<=K):A0 K p:=⟨h.x.sz hK,h.y.sz hK⟩
theorem Gb.sz{K:Nat}{s:Sg}(h:Gb s)(hK:1<=K):G7 K s:=⟨h.a.sz hK,h.b.sz hK⟩
theorem UD{x y:Int}{m n:Nat}(h1:x.natAbs<=m)(h2:y.natAbs<=n):(x*y).natAbs<=m*n:=by
 rw [Int.natAbs_mul];exact Nat.mul_le_mul h1 h2
theorem fG{p a b:Pt}(hp:Da p)(ha:Da a)(hb:Da b):Ho 648 (Ar p a b):=by
 obtain⟨⟨p1,DT,e1⟩,⟨p2,MK,e2⟩⟩:=hp;obtain⟨⟨a1,ha1,e3⟩,⟨a2,ha2,e4⟩⟩:=ha;obtain⟨⟨b1,hb1,e5⟩,⟨b2,hb2,e6⟩⟩:=hb;refine⟨(a1-p1)*(b2-p2)-(a2-p2)*(b1-p1),?_,?_⟩
 ·have h1:=UD (x:=a1-p1) (y:=b2-p2) (m:=18) (n:=18) (by omega) (by omega);have h2:=UD (x:=a2-p2) (y:=b1-p1) (m:=18) (n:=18) (by omega) (by omega);generalize (a1-p1)*(b2-p2)=X at *;generalize (a2-p2)*(b1-p1)=Y at *;omega
 ·unfold Ar;rw [e1,e2,e3,e4,e5,e6];simp only [Rat.intCast_sub,Rat.intCast_mul]
  grind
theorem Ho.add{m n:Nat}{p q:Rat}(hp:Ho m p)(hq:Ho n q):Ho (m+n) (p+q):=by
 obtain⟨a,ha,rfl⟩:=hp;obtain⟨b,hb,rfl⟩:=hq;refine⟨a+b,by omega,?_⟩;rw [Rat.intCast_add];grind
theorem Ho.mono{m n:Nat}{p:Rat}(hp:Ho m p)(h:m<=n):Ho n p:=by
 obtain⟨a,ha,rfl⟩:=hp;exact⟨a,by omega,rfl⟩
end Go.Proofs.YtnfedbopbcegjaaGreatDoor
namespace Go.Proofs.YtnfedbopbcegjaaGreatDoor
section
open Go.RowKit Kl
theorem Ad.of_own'{w:World}{base:Nat}{e:TypeId}{size:Nat}(_:0<size){v:Value}{n:Nat}{xs:List Value}(h:w.ownsRow base e size v n xs) :
  ∃A c,v=.slice A n c/\Ad w A xs/\n<=c/\c<=9223372036854775807:=by
 obtain⟨hl,h⟩:=h
 rcases h with⟨rfl,rfl⟩|⟨g,cap,cur,rfl,hb,hg,hn,hm,hs,ht⟩
 ·exact⟨none,0,rfl,⟨fun h1=>by omega⟩,by omega,by omega⟩
 ·refine⟨some ⟨g,0,none⟩,cap,rfl,⟨fun _=>⟨g,0,rfl,fun j hj=>?_⟩⟩,hn,by unfold maxLen at hm;omega⟩;have hh:w.ownsRow base e size (.slice (some ⟨g,0,none⟩) n cap) n xs:=⟨hl,.inr ⟨g,cap,cur,rfl,hb,hg,hn,hm,hs,ht⟩⟩;rw [Nat.zero_add,hh.cellAt j (by omega),AjS hj]
theorem Vh{o:Oper}{a:Act}{K:Act→World→Prop}{Q:Exit→Act→World→Prop}(s x:Operand)(t:TypeId)(ho:o.op=.call {callee:=.builtin .append,args:=#[s,x],argTypes:=#[t,t]})
  (e:TypeId) (i:TypeInfo) (z:Value) (size bytes:Nat) (ht:Tryz.prog.underlying t=some (.slice e)) (hi:Tryz.prog.info? e=some i) (hz:i.zero=some z)
  (hsize:i.size=size) (hby:i.bytes=bytes) (hzs:z.cells.size=size) (hsz:0<size) (TC:bytes<=64)
  (wN:World) (base:Nat) (v:Value) (n:Nat) (xs:List Value) (hs:a.eval s=v) (hown:wN.ownsRow base e size v n xs) (hn:n<200000)
  (g:Nat) (cs:Array Value) (hb:wN.heap[g]?=some (.cells cs e)) (hcs:cs.size=size) (h1:∀u∈cs.toList,u.oneCell'=true)
  (hx:a.eval x=.slice (some ⟨g,0,none⟩) 1 1) (hbase:base<=wN.heap.size)
  (h:∀v' w',w'.ownsRow base e size v' (n+1) (xs++cs.toList)→(∀w0,Aa w0 wN→w0.heap.size<=base→Aa w0 w')→wN.grownBy w' v.ownBlock→K (a.put o.dst v') w') :
  o.wp Tryz.prog a wN K Q:=by
 have XO:(n+1)*bytes<=140737488355328:=AjX (Nat.mul_le_mul (show n+1<=200000 by omega) TC) (by omega);have H8:n+1<=maxLen:=(by unfold maxLen;omega);refine wp_append_own _ s x t ho base e i z size bytes ht hi hz hsize hby hzs hsz v n xs hs hown ⟨g,0,none⟩ 1 1 cs.toList hx ?_ ?_ h1 H8 XO hbase ?_
 ·simp [hcs]
 ·intro j u hu;rw [Addr.add_lit,Nat.zero_add];refine Ab hb ?_;rw [←Array.getElem?_toList];exact hu
 ·intro v' w' h2 h3 _;refine h v' w' h2 (fun w0 he BH=>?_) h3
  exact he.grown h3 fun k hk=>by
   rcases hown.2 with⟨rfl,_⟩|⟨g,cap,cur,rfl,hb',_⟩
   ·cases hk
   ·simp only [Value.ownBlock,AjR]at hk;omega
def BQ(l:List Sg):List Value:=l.flatMap fun s=>[S (R s.a.x),S (R s.a.y),S (R s.b.x),S (R s.b.y)]
theorem yN(l:List Sg)(d:Sg):BQ (l ++ [d])=BQ l ++ [S (R d.a.x),S (R d.a.y),S (R d.b.x),S (R d.b.y)]:=by unfold BQ;simp
theorem aC(l:List Pt)(d:Pt):flat (Aq (l ++ [d]))=flat (Aq l) ++ [S (R d.x),S (R d.y)]:=by unfold Aq flat;simp [aA]
theorem Tryz.infoPt:(Tryz.prog.info? 28).map (fun i=>(i.zero,i.size,i.bytes))=some (some (.agg #[S [],S []]),2,32):=by kernel_rfl
section
variable {ops : Array Oper} {rest : List Oper} {o : Oper} {a : Act} {K : Act → World → Prop} {Q : Exit → Act → World → Prop} {E : Prop}
theorem AhJ(s x:Operand)(ho:o.op=.call {callee:=.builtin .append,args:=#[s,x],argTypes:=#[41,41]})
  (wN:World) (base:Nat) (v:Value) (n:Nat) (l:List Pt) (hs:a.eval s=v) (hown:wN.ownsRow base 28 2 v n (flat (Aq l))) (hn:n<200000) (d:Pt)
  (g:Nat) (hb:wN.heap[g]?=some (.cells #[S (R d.x),S (R d.y)] 28)) (hx:a.eval x=.slice (some ⟨g,0,none⟩) 1 1) (hbase:base<=wN.heap.size)
  (h:∀v' w',w'.ownsRow base 28 2 v' (n+1) (flat (Aq (l ++ [d])))→(∀w0,Aa w0 wN→w0.heap.size<=base→Aa w0 w')→wN.grownBy w' v.ownBlock→K (a.put o.dst v') w') :
  o.wp Tryz.prog a wN K Q:=by
 obtain⟨i0,hi,hz0,hz1,hz2⟩:=info_parts Tryz.infoPt;refine Vh s x 41 ho 28 i0 _ 2 32 Tryz.underlying41 hi hz0 hz1 hz2 rfl (by omega) (by omega) wN base v n _ hs hown hn g _ hb rfl ?_ hx hbase ?_
 ·intro u hu;simp only [List.mem_cons,AjY,or_false]at hu
  rcases hu with rfl|rfl<;>rfl
 ·intro v' w' h1 h2 h3;exact h v' w' (by rw [aC];exact h1) h2 h3
end
end
section
open Go.RowKit Kl
theorem Jm(a b:Rat):a<b∨a=b∨b<a:=by grind
theorem LQ{a b:Rat}(h:a<=b):a<b∨a=b:=by grind
def Up(x y:Rat):Prop:=0<y∨(y=0/\0<x)
theorem Af0{a b:Rat}(ha:0<a)(h:0<a*b):0<b:=by
 rcases Jm b 0 with hb|hb|hb
 ·have:=Rat.mul_pos ha (show 0 < -b by grind)
  grind
 ·subst hb;grind
 ·exact hb
theorem QW{a b:Rat}(ha:0<a)(h:0<=a*b):0<=b:=by
 rcases Jm b 0 with hb|hb|hb
 ·have:=Rat.mul_pos ha (show 0 < -b by grind)
  grind
 ·grind
 ·grind
theorem Wl{ux uy vx vy wx wy:Rat}(hu:Up ux uy)(hv:Up vx vy)(hw:Up wx wy)(h1:0<ux*vy-uy*vx)(h2:0<vx*wy-vy*wx):0<ux*wy-uy*wx:=by
 have Ou:0<=uy:=(by unfold Up at hu;grind);have Jb:0<=wy:=by unfold Up at hw;grind
 rcases hv with hv|⟨hv,hv'⟩
 ·have e:vy*(ux*wy-uy*wx)=wy*(ux*vy-uy*vx)+uy*(vx*wy-vy*wx):=(by grind);refine Af0 hv ?_;rw [e];have a1:=Rat.mul_nonneg Jb (Rat.le_of_lt h1);have a2:=Rat.mul_nonneg Ou (Rat.le_of_lt h2)
  rcases LQ Jb with hw1|hw1
  ·have:=Rat.mul_pos hw1 h1;grind
  ·rcases LQ Ou with hu1|hu1
   ·have:=Rat.mul_pos hu1 h2;grind
   ·exfalso
    have hwx:0<wx:=(by unfold Up at hw;grind);have:=Rat.mul_pos hv hwx;subst hw1;subst hu1;clear a1 a2 e
    grind
 ·exfalso
  have:=Rat.mul_nonneg Ou (Rat.le_of_lt hv');subst hv
  grind
theorem iO{ux uy vx vy wx wy:Rat}(hu:Up ux uy)(hv:Up vx vy)(hw:Up wx wy)(h1:ux*vy-uy*vx<=0)(h2:vx*wy-vy*wx<=0):ux*wy-uy*wx<=0:=by
 have Ou:0<=uy:=(by unfold Up at hu;grind);have Jb:0<=wy:=by unfold Up at hw;grind
 rcases hv with hv|⟨hv,hv'⟩
 ·have e:vy*(-(ux*wy-uy*wx))=wy*(-(ux*vy-uy*vx))+uy*(-(vx*wy-vy*wx)):=by grind
  have:0<=-(ux*wy-uy*wx):=by
   refine QW hv ?_;rw [e];have a1:=Rat.mul_nonneg Jb (show 0<=-(ux*vy-uy*vx)by grind);have a2:=Rat.mul_nonneg Ou (show 0<=-(vx*wy-vy*wx)by grind)
   grind
  grind
 ·subst hv
  have AcU:wy=0:=by
   rcases LQ Jb with hw1|hw1
   ·have:=Rat.mul_pos hv' hw1;grind
   ·exact hw1.symm
  have hwx:0<wx:=(by unfold Up at hw;grind);have:=Rat.mul_nonneg Ou (Rat.le_of_lt hwx);subst AcU
  grind
/-! ### Directions around a place -/
theorem P9(p q:Rat):AC p q<0↔p<q:=by unfold AC;grind
theorem S6(p q:Rat):AC p q=0↔p=q:=by unfold AC;grind
theorem PC(p q:Rat):0<AC p q↔q<p:=by unfold AC;grind
theorem yQ(q:Rat):AV q=0↔q=0:=by unfold AV;grind
theorem UY(q:Rat):0<AV q↔0<q:=by unfold AV;grind
theorem Kh(p q:Pt):BC p q=0↔Up (q.x-p.x) (q.y-p.y):=by
 unfold BC Il Up;simp only [PC,S6];constructor
 ·intro h;by_cases h1:p.y<q.y
  ·left;grind
  ·rw [if_neg h1]at h;by_cases h2:q.y=p.y
   ·rw [if_pos h2]at h;by_cases h3:p.x<q.x
    ·right;grind
    ·rw [if_neg h3]at h;cases h
   ·rw [if_neg h2]at h;cases h
 ·rintro(h|⟨h1,h2⟩)
  ·rw [if_pos (by grind)]
  ·rw [if_neg (by grind),if_pos (by grind),if_pos (by grind)]
theorem QU(p q:Pt):BC p q=0∨BC p q=1:=by
 unfold BC Il
 (repeat' split)<;>simp
theorem LE{p q:Pt}(hne:q≠p)(h:BC p q=1):Up (p.x-q.x) (p.y-q.y):=by
 have h0:¬Up (q.x-p.x) (q.y-p.y):=(by rw [←Kh];omega);unfold Up at *;by_cases h1:q.y=p.y
 ·right
  refine⟨by grind,?_⟩;have:q.x≠p.x:=fun e=>hne (by cases p;cases q;simp_all)
  grind
 ·left;grind
def CU(p a b:Pt):Int:=if BC p a-BC p b≠0 then BC p a-BC p b else -AV (Ar p a b)
theorem iV(p a b:Pt):CU p a b<0↔BC p a<BC p b∨(BC p a=BC p b/\0<Ar p a b):=by
 unfold CU;have hs:=UY (Ar p a b)
 split
 ·constructor
  ·intro h;left;omega
  ·rintro(h|⟨h,_⟩)<;>omega
 ·constructor
  ·intro h;exact .inr ⟨by omega,hs.1 (by omega)⟩
  ·rintro(h|⟨_,h⟩)
   ·omega
   ·have:=hs.2 h;omega
theorem iW(p a b:Pt):CU p a b=0↔BC p a=BC p b/\Ar p a b=0:=by
 unfold CU;have hs:=yQ (Ar p a b)
 split
 ·constructor
  ·intro h;omega
  ·rintro⟨h,_⟩;omega
 ·constructor
  ·intro h;exact⟨by omega,hs.1 (by omega)⟩
  ·rintro⟨_,h⟩;have:=hs.2 h;omega
theorem qu(p a:Pt):Ar p a a=0:=by unfold Ar;grind
theorem VR(p a b:Pt):Ar p b a =-Ar p a b:=by unfold Ar;grind
theorem VS(p a b:Pt):Ar p a b=(p.x-a.x)*(p.y-b.y)-(p.y-a.y)*(p.x-b.x):=by unfold Ar;grind
theorem yi{p a b c:Pt}(ha:a≠p)(hb:b≠p)(hc:c≠p)(h1:CU p a b<0)(h2:CU p b c<0):CU p a c<0:=by
 rw [iV]at *
 rcases h1 with h1|⟨e1,h1⟩
 ·left
  rcases h2 with h2|⟨e2,h2⟩<;>omega
 ·rcases h2 with h2|⟨e2,h2⟩
  ·left;omega
  ·right
   refine⟨by omega,?_⟩
   rcases QU p a with ea|ea
   ·unfold Ar at *;exact Wl ((Kh p a).1 ea) ((Kh p b).1 (by omega)) ((Kh p c).1 (by omega)) h1 h2
   ·rw [VS]at *;exact Wl (LE ha ea) (LE hb (by omega)) (LE hc (by omega)) h1 h2
theorem yg{p a b c:Pt}(ha:a≠p)(hb:b≠p)(hc:c≠p)(h1:¬CU p a b<0)(h2:¬CU p b c<0):¬CU p a c<0:=by
 rw [iV]at *;rintro(h|⟨e,h⟩)
 ·have:¬BC p a<BC p b:=fun h=>h1 (.inl h);have:¬BC p b<BC p c:=fun h=>h2 (.inl h);omega
 ·have e1:¬BC p a<BC p b:=fun h=>h1 (.inl h);have e2:¬BC p b<BC p c:=fun h=>h2 (.inl h);have f1:BC p a=BC p b:=(by omega);have f2:BC p b=BC p c:=by omega
  have g1:Ar p a b<=0:=by
   have:¬0<Ar p a b:=fun h=>h1 (.inr ⟨f1,h⟩)
   grind
  have g2:Ar p b c<=0:=by
   have:¬0<Ar p b c:=fun h=>h2 (.inr ⟨f2,h⟩)
   grind
  have:Ar p a c<=0:=by
   rcases QU p a with ea|ea
   ·unfold Ar at *;exact iO ((Kh p a).1 ea) ((Kh p b).1 (by omega)) ((Kh p c).1 (by omega)) g1 g2
   ·rw [VS]at *;exact iO (LE ha ea) (LE hb (by omega)) (LE hc (by omega)) g1 g2
  grind
end
section
open Go.RowKit Kl
/-! ### Segments without a common place but an end of both -/
def Et(a b z:Pt):Prop:=∃t:Rat,0<=t/\t<=1/\z.x=a.x+t*(b.x-a.x)/\z.y=a.y+t*(b.y-a.y)
theorem Et.swap{a b z:Pt}(h:Et a b z):Et b a z:=by
 obtain⟨t,h0,h1,hx,hy⟩:=h;exact⟨1-t,by grind,by grind,by grind,by grind⟩
theorem QS(a b:Pt):AS a b<=0↔a.x<b.x∨(a.x=b.x/\a.y<=b.y):=by
 unfold AS;have h1:=S6 a.x b.x;have h2:=P9 a.x b.x;have h3:=P9 a.y b.y;have h4:=PC a.x b.x;have h5:=PC a.y b.y
 split
 ·constructor
  ·intro h
   left
   exact h2.1 (by omega)
  ·rintro(h|⟨h,_⟩)
   ·have:=h2.2 h;omega
   ·exact absurd (h1.2 h) (by assumption)
 ·have e:a.x=b.x:=h1.1 (by omega);constructor
  ·intro h
   right
   refine⟨e,?_⟩;have:¬b.y<a.y:=fun h6=>by have:=h5.2 h6;omega
   grind
  ·rintro(h|⟨_,h⟩)
   ·grind
   ·have:¬0<AC a.y b.y:=fun h6=>(by have:=h5.1 h6;grind);omega
theorem AdO(a b:Pt):0<AS a b↔b.x<a.x∨(a.x=b.x/\b.y<a.y):=by
 have:=QS a b;constructor
 ·intro h;have h1:¬(a.x<b.x∨(a.x=b.x/\a.y<=b.y)):=fun h2=>by have:=this.2 h2;omega
  grind
 ·intro h;have h1:¬AS a b<=0:=fun h2=>(by have:=this.1 h2;grind);omega
theorem UB{t d:Rat}(h0:0<=t)(h1:t<=1)(hd:0<=d):0<=t*d/\t*d<=d:=by
 have a:=Rat.mul_nonneg h0 hd;have b:=Rat.mul_nonneg (show 0<=1-t by grind) hd;exact⟨a,by grind⟩
theorem Km{a b:Rat}(h:a*b=0):a=0∨b=0:=Rat.mul_eq_zero.1 h
theorem vS{a b z:Pt}(hz:Et a b z)(hl:AS a b<=0):LK a b z=true:=by
 obtain⟨t,h0,h1,hx,hy⟩:=hz;rw [QS]at hl;have ea:Ar a b z=0:=by unfold Ar;rw [hx,hy];grind
 have l1:AS a z<=0:=by
  rw [QS]
  rcases hl with hl|⟨hl,hl2⟩
  ·have:=UB h0 h1 (show 0<=b.x-a.x by grind)
   rcases LQ this.1 with h|h
   ·left;grind
   ·right
    have ht:t=0:=by rcases Km h.symm with h|h<;>grind
    subst ht;constructor<;>grind
  ·right
   have:=UB h0 h1 (show 0<=b.y-a.y by grind);constructor<;>grind
 have l2:AS z b<=0:=by
  rw [QS]
  rcases hl with hl|⟨hl,hl2⟩
  ·have:=UB (show 0<=1-t by grind) (show 1-t<=1 by grind) (show 0<=b.x-a.x by grind)
   rcases LQ this.1 with h|h
   ·left;grind
   ·right
    have ht:t=1:=by rcases Km h.symm with h|h<;>grind
    subst ht;constructor<;>grind
  ·right
   have:=UB h0 h1 (show 0<=b.y-a.y by grind);constructor<;>grind
 unfold LK Ji;rw [(yQ _).2 ea];simp [l1,l2]
theorem Afx{a b z:Pt}(hz:Et a b z):Jl a b z=true:=by
 unfold Jl
 split
 ·rename_i h
  refine vS hz.swap ?_;rw [AdO]at h;rw [QS]
  grind
 ·exact vS hz (by omega)
structure EJ(a b c d:Pt):Prop where
 pc:Et a b c→c=a∨c=b
 pd:Et a b d→d=a∨d=b
 pa:Et c d a→a=c∨a=d
 pb:Et c d b→b=c∨b=d
 px:a≠c→a≠d→b≠c→b≠d→Ar a b c*Ar a b d<0→Ar c d a*Ar c d b<0→False
theorem EJ.symm{a b c d:Pt}(h:EJ a b c d):EJ c d a b:=
 ⟨h.pa,h.pb,h.pc,h.pd,fun h1 h2 h3 h4 h5 h6=>h.px (Ne.symm h1) (Ne.symm h3) (Ne.symm h2) (Ne.symm h4) h6 h5⟩
theorem fH(a b c:Pt):Ar b a c =-Ar a b c:=by unfold Ar;grind
theorem EJ.left{a b c d:Pt}(h:EJ a b c d):EJ b a c d:=
 ⟨fun k=>(h.pc k.swap).symm,fun k=>(h.pd k.swap).symm,h.pb,h.pa,fun h1 h2 h3 h4 h5 h6=>h.px h3 h4 h1 h2 (by rw [fH,fH a b d]at h5;grind) (by grind)⟩
theorem EJ.right{a b c d:Pt}(h:EJ a b c d):EJ a b d c:=h.symm.left.symm
theorem yS{p q:Rat}(h:p*q<0):AV p*AV q<0:=by
 rcases Jm p 0 with hp|hp|hp
 ·have:0<q:=by
   rcases Jm q 0 with hq|hq|hq
   ·have:=Rat.mul_pos (show 0 < -p by grind) (show 0 < -q by grind);grind
   ·subst hq;grind
   ·exact hq
  have e1:AV p = -1:=(by unfold AV;grind);have e2:AV q=1:=(by unfold AV;grind);rw [e1,e2];decide
 ·subst hp;grind
 ·have:q<0:=by
   rcases Jm q 0 with hq|hq|hq
   ·exact hq
   ·subst hq;grind
   ·have:=Rat.mul_pos hp hq;grind
  have e1:AV p=1:=(by unfold AV;grind);have e2:AV q = -1:=(by unfold AV;grind);rw [e1,e2];decide
theorem S7{x y z:Pt}(h:J2 x y z=false)(hz:Et x y z):z=x∨z=y:=by
 unfold J2 at h;rw [Afx hz,Bool.true_and]at h;rw [Bool.and_eq_false_iff]at h
 rcases h with h|h
 ·left;exact BN.1 (by simpa using h)
 ·right;exact BN.1 (by simpa using h)
theorem Ae3{a b c d:Pt}(h:LL a b c d=false):EJ a b c d:=by
 unfold LL at h;rw [Bool.or_eq_false_iff]at h;obtain⟨h1,h2⟩:=h;rw [List.any_eq_false]at h1;have m1:=h1 (c,d,a) (by simp [Hi]);have m2:=h1 (c,d,b) (by simp [Hi]);have m3:=h1 (a,b,c) (by simp [Hi]);have m4:=h1 (a,b,d) (by simp [Hi]);simp only [Bool.not_eq_true]at m1 m2 m3 m4;refine⟨S7 m3,S7 m4,S7 m1,S7 m2,?_⟩;intro k1 k2 k3 k4 k5 k6
 have hs:UZ a b c d=false:=by
  unfold UZ
  have f:∀{p q:Pt},p≠q→Ah p q=false:=fun hn=>by rw [Bool.eq_false_iff];exact fun e=>hn (BN.1 e)
  rw [f k1,f k2,f k3,f k4];rfl
 have hp:O7 a b c d=true:=by unfold O7 Jo;rw [decide_eq_true (yS k5),decide_eq_true (yS k6)];rfl
 rw [hs,hp]at h2
 cases h2
theorem ye{p a b:Pt}(h:EJ p a p b)(ha:a≠p)(hb:b≠p)(h0:CU p a b=0):a=b:=by
 rw [iW]at h0;obtain⟨e,h0⟩:=h0
 have key:∀{ux uy vx vy:Rat},Up ux uy→Up vx vy→ux*vy-uy*vx=0→∃t:Rat,(0<=t/\t<=1/\ux=t*vx/\uy=t*vy)∨(0<=t/\t<=1/\vx=t*ux/\vy=t*uy):=by
  have half:∀{ux uy vx vy:Rat},0<vy→0<=uy→uy<=vy→ux*vy-uy*vx=0→0<=uy/vy/\uy/vy<=1/\ux=uy/vy*vx/\uy=uy/vy*vy:=by
   intro ux uy vx vy hv hu hl h;have hv0:vy≠0:=(by grind);have e:uy/vy*vy=uy:=(by rw [Rat.div_def,Rat.mul_assoc,Rat.mul_comm vy⁻¹,Rat.mul_inv_cancel _ hv0];grind);refine⟨QW hv (by rw [Rat.mul_comm,e];exact hu),?_,?_,e.symm⟩
   ·have:=QW (b:=1-uy/vy) hv (by grind)
    grind
   ·have h1:vy*(ux-uy/vy*vx)=0:=by generalize uy/vy=q at *;have:vy*(ux-q*vx)=vy*ux-(q*vy)*vx:=(by grind);rw [this,e];grind
    rcases Km h1 with h2|h2
    ·exact absurd h2 hv0
    ·grind
  intro ux uy vx vy hu hv h
  rcases hu with hu|⟨hu,FS⟩
  ·rcases hv with hv|⟨hv,hv'⟩
   ·by_cases hl:uy<=vy
    ·exact⟨_,.inl (half hv (by grind) hl h)⟩
    ·exact⟨_,.inr (half hu (by grind) (by grind) (by grind))⟩
   ·exfalso
    have:=Rat.mul_pos hu hv';subst hv;grind
  ·rcases hv with hv|⟨hv,hv'⟩
   ·exfalso
    have:=Rat.mul_pos hv FS;subst hu;grind
   ·subst hu;subst hv;by_cases hl:ux<=vx
    ·have:=half (ux:=0) (vx:=0) hv' (by grind) hl (by grind);exact⟨_,.inl ⟨this.1,this.2.1,this.2.2.2,by grind⟩⟩
    ·have:=half (ux:=0) (vx:=0) FS (by grind) (show vx<=ux by grind) (by grind);exact⟨_,.inr ⟨this.1,this.2.1,this.2.2.2,by grind⟩⟩
 have main:∃t:Rat,(0<=t/\t<=1/\a.x-p.x=t*(b.x-p.x)/\a.y-p.y=t*(b.y-p.y))∨(0<=t/\t<=1/\b.x-p.x=t*(a.x-p.x)/\b.y-p.y=t*(a.y-p.y)):=by
  rcases QU p a with ea|ea
  ·exact key ((Kh p a).1 ea) ((Kh p b).1 (by omega)) h0
  ·rw [VS]at h0;obtain⟨t,ht⟩:=key (LE ha ea) (LE hb (by omega)) h0;exact⟨t,ht.imp (fun ⟨h1,h2,h3,h4⟩=>⟨h1,h2,by grind,by grind⟩) (fun ⟨h1,h2,h3,h4⟩=>⟨h1,h2,by grind,by grind⟩)⟩
 obtain⟨t,⟨h1,h2,h3,h4⟩|⟨h1,h2,h3,h4⟩⟩:=main
 ·rcases h.pb ⟨t,h1,h2,by grind,by grind⟩with e|e
  ·exact absurd e ha
  ·exact e
 ·rcases h.pd ⟨t,h1,h2,by grind,by grind⟩with e|e
  ·exact absurd e hb
  ·exact e.symm
end
section
open Go.RowKit Kl
theorem Ahe(w:World)(l:Bs):∃W c,(convert 9 37 (S l)).run Tryz.prog w=.ok (.slice (some ⟨w.heap.size,0,none⟩) l.length c) W/\Aa w W/\∀j (h:j<l.length),W.cell? ⟨w.heap.size,j,none⟩=some (.int .u8 (l[j].toNat:Nat)):=by
 refine⟨Go.Lib.bytesWorld w 5 ⟨l.toArray⟩,_,Go.Lib.run_convert_string_bytes w 9 37 5 ⟨l.toArray⟩ Tryz.underlying9 Tryz.underlying37 Tryz.underlying5,?_,?_⟩
 ·have h1:Aa w (w.drew.alloc (.cells (Go.Lib.bytesCells w 5 ⟨l.toArray⟩) 5)):=(Aa.refl w).drew.alloc _;refine⟨h1.os,h1.tape,h1.output,?_,fun j hj=>Go.Lib.bytesWorld_at_old w 5 ⟨l.toArray⟩ j hj⟩;rw [Go.Lib.bytesWorld_size];omega
 ·intro j h;have:=Go.Lib.bytesWorld_cell w 5 ⟨l.toArray⟩ j (show j<l.toArray.size by simpa using h);rw [this];simp [List.getD_eq_getElem?_getD,h]
end
end Go.Proofs.YtnfedbopbcegjaaGreatDoor
namespace Kl
def Jg(i:Nat)(b:UInt8):Bool:=Ik b||(decide (i≠0)&&KX b)
theorem Aes{l:Bs}{k:Nat}(hk:k<l.length)(h:Jg k l[k]=false):nameB l=false:=by
 cases l with
 | nil=>rfl
 | cons b l=>
  unfold nameB;unfold Jg at h
  cases k with
  | zero=>
   simp only [List.getElem_cons_zero,ne_eq,not_true,decide_false,Bool.false_and,Bool.or_false]at h;show (decide (l.length<32)&&(Ik b&&l.all (fun c=>Ik c||KX c)))=false;rw [h];simp
  | succ k=>
   simp only [List.getElem_cons_succ]at h;have Yr:k<l.length:=by simpa using hk
   have h2:l.all (fun c=>Ik c||KX c)=false:=by rw [List.all_eq_false];exact⟨l[k],List.getElem_mem Yr,by simpa using h⟩
   show (decide (l.length<32)&&(Ik b&&l.all (fun c=>Ik c||KX c)))=false;rw [h2];simp
theorem Aet{l:Bs}(h0:l≠[])(h1:l.length<=32)(h:∀k (hk:k<l.length),Jg k l[k]=true):nameB l=true:=by
 cases l with
 | nil=>exact absurd rfl h0
 | cons b l=>
  unfold nameB;rw [Bool.and_eq_true,Bool.and_eq_true];refine⟨decide_eq_true (by simp only [List.length_cons]at h1;omega),?_,?_⟩
  ·have:=h 0 (by simp)
   simpa [Jg]using this
  ·rw [List.all_eq_true];intro c hc;obtain⟨j,hj,rfl⟩:=List.getElem_of_mem hc;have:=h (j+1) (by simpa using hj)
   simpa [Jg]using this
end Kl
namespace Go.Proofs.YtnfedbopbcegjaaGreatDoor
open Go.RowKit Kl
theorem Zr(l:Bs)(hl:l.length<1000000)(w:World) :
  Calls Tryz.prog 25 #[S l] w (BE (nameB l) w):=by
 obtain⟨W,c,hcv,hx,hcell⟩:=Ahe w l;by_cases h0:l = []
 ·subst h0;clear hcv hcell;go_enter Tryz.func25,Tryz.ntmps25;go_wp2;go_ret;exact⟨Rn rfl,Aa.refl _⟩
 ·have e1:(l == [])=false:=beq_false_of_ne h0
  have e2:l.isEmpty=false:=by cases l with|nil=>exact absurd rfl h0|cons a b=>rfl
  have H0:=AjK h0;by_cases h1:32<l.length
  ·have ho:nameB l=false:=by
    cases l with
    | nil=>rfl
    | cons b l=>show (decide (l.length < 32) && _)=false;rw [decide_eq_false (by simp only [List.length_cons]at h1;omega)];rfl
   have HO:=AjK ho;have h1':(32:Int)<(l.length:Int):=(by omega);clear ho hcv hcell;go_enter Tryz.func25,Tryz.ntmps25;go_wp2;go_ret;exact⟨Rn (by rw [HO.out]),Aa.refl _⟩
  ·have h1':¬((32:Int)<(l.length:Int)):=(by omega);have Aih:(l.length:Int)<=32:=(by omega);have HC:=AjK hcell;have HX:=AjK hx;obtain⟨r,hr0⟩:=AjJ (nameB l);rw [←hr0];have HR:=AjK hr0;clear hcell hx hr0;obtain⟨bw,C2⟩:=AjJ w.heap.size;rw [←C2]at hcv;have gu:=AjK C2;clear C2;go_enter Tryz.func25,Tryz.ntmps25
   go_upto_region 4 with fail
   go_loopw [17] (fun kv wr=>∃(k:Nat),kv=.int .i64 (k:Nat)/\k<=l.length/\(∀i (h:i<l.length),i<k→Jg i l[i]=true)/\wr=W) (fun kv _=>l.length-(intOf kv).toNat)
   case atStart=>exact⟨0,rfl,by omega,by intro i _ h;omega,rfl⟩
   case round=>
    obtain⟨k,rfl,hk,NQ,rfl⟩:=hrel;have cO:=AjK NQ;clear NQ;by_cases hkn:k<l.length
    ·have hk0:(0:Int)<=(k:Int):=(by omega);have El:(k:Int)<(l.length:Int):=(by omega);have v1:IntKind.wrap .i64 ((k:Int)+1)=(k:Int)+1:=AjT _ (by omega);have hg:=HC.out k hkn;rw [←gu.out]at hg;have hg0:wr.cell? ⟨bw,0+k,none⟩=some (.int .u8 (l[k].toNat:Nat)):=(by rw [Nat.zero_add];exact hg);obtain⟨b,hb⟩:=AjJ (l[k]);rw [←hb]at hg hg0;have HB:=AjK hb;clear hb
     go_upto_region 6 with fail
     go_cut [5] (fun v wx=>v=.bool (Ik b)/\wx=wr)
     case first=>
      by_cases a1:97<=b.toNat<;>by_cases a2:b.toNat<=122<;>by_cases a3:65<=b.toNat<;>by_cases a4:b.toNat<=90
      all_goals
       have hv:Ik b=((decide (97<=b.toNat)&&decide (b.toNat<=122))||(decide (65<=b.toNat)&&decide (b.toNat<=90))):=rfl;simp only [a1,a2,a3,a4,decide_true,decide_false,Bool.and_true,Bool.and_false,Bool.or_true,Bool.or_false]at hv;have HV:=AjK hv;clear hv;go_wp2
       all_goals go_meet
       all_goals exact⟨by rw [HV.out];try (first|rfl|(congr 1;rw [Bool.eq_iff_iff];simp;omega)),rfl⟩
     case rest=>
      obtain⟨rfl,rfl⟩:=hcut;obtain⟨lt,hlt⟩:=AjJ (Ik b);rw [←hlt];have jf:=AjK hlt;clear hlt
      go_upto_region 7 with fail
      go_cut [6] (fun v wx=>v=.bool (KX b)/\wx=wc)
      case first=>
       have c95:((b.toNat:Int) == 95)=decide (b.toNat=95):=by rw [Bool.eq_iff_iff,beq_iff_eq,decide_eq_true_iff];omega
       by_cases a1:48<=b.toNat<;>by_cases a2:b.toNat<=57<;>by_cases a3:b.toNat=95
       all_goals
        have hv:KX b=((decide (48<=b.toNat)&&decide (b.toNat<=57))||decide (b.toNat=95)):=rfl;simp only [a1,a2,a3,decide_true,decide_false,Bool.and_true,Bool.and_false,Bool.or_true,Bool.or_false]at hv;have HV:=AjK hv;clear hv;go_wp2
        all_goals go_meet
        all_goals exact⟨by rw [HV.out];try (first|rfl|(congr 1;rw [Bool.eq_iff_iff];simp;omega)),rfl⟩
      case rest=>
       obtain⟨rfl,rfl⟩:=hcut;obtain⟨dt,JQ⟩:=AjJ (KX b);rw [←JQ];have ic:=AjK JQ;clear JQ;have Cj:Jg k b=(lt||(decide (k≠0)&&dt)):=(by rw [jf.out,ic.out];rfl);have Ma:=AjK Cj;clear Cj
       have good:Jg k b=true→∀i (h:i<l.length),i<k+1→Jg i l[i]=true:=by
        intro hg i hi hik;by_cases e:i=k
        ·subst e;rw [←HB.out];exact hg
        ·exact cO.out i hi (by omega)
       have bad:Jg k b=false→r=false:=fun h=>(by rw [HR.out];exact Aes hkn (by rw [←HB.out];exact h));have HG:=AjK good;have cQ:=AjK bad;clear good bad
       cases lt
       ·by_cases Ud:k=0
        ·subst Ud;have hr:r=false:=cQ.out (by rw [Ma.out];rfl);have Ju:=AjK hr;clear hr;go_wp2;go_ret;exact⟨Rn (by rw [Ju.out]),HX.out⟩
        ·have t0:((k:Int) == 0)=false:=beq_false_of_ne (by omega)
         cases dt
         ·have hr:r=false:=cQ.out (by rw [Ma.out];simp);have Ju:=AjK hr;clear hr Ud;go_wp2;go_ret;exact⟨Rn (by rw [Ju.out]),HX.out⟩
         ·have hg2:=AjK (HG.out (by rw [Ma.out];simp [Ud]));clear Ud;go_wp2;go_roundw
          case rel=>exact⟨k+1,by go_num,hkn,hg2.out,by trivial⟩
          case measure=>simp [intOf];omega
       ·have hg2:=AjK (HG.out (by rw [Ma.out];simp));go_wp2;go_roundw
        case rel=>exact⟨k+1,by go_num,hkn,hg2.out,by trivial⟩
        case measure=>simp [intOf];omega
    ·have C3:k=l.length:=(by omega);subst C3;have hr:r=true:=(by rw [HR.out];exact Aet H0.out (by omega) (fun i hi=>cO.out i hi hi));have Ju:=AjK hr;clear hr;go_wp2;go_ret;exact⟨Rn (by rw [Ju.out]),HX.out⟩
end Go.Proofs.YtnfedbopbcegjaaGreatDoor
