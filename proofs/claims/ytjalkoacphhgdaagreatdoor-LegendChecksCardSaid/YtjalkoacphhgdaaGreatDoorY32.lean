/- Y32: LGE. -/
import Derived.Test.YtjalkoacphhgdaaGreatDoorY31
set_option maxHeartbeats 4000000
namespace Kl
def Ns(x:En):Bool:=decide (90<x.u.length)||(decide (90<x.s.length)||decide (90<x.t.length))
def OP(l:List En):Bool:=(decide (l.length<=5)||(decide (19<=l.length)&&decide (l.length<=22))) && !l.any Ns
end Kl
namespace Go.Proofs.YtjalkoacphhgdaaGreatDoor
open Go.RowKit Kl
theorem AbR(x:En)(w:World):Calls Tryz.prog 65 #[Fq x] w (Br (Ns x) w):=by
 have hx:=(Aa.refl w).alloc (.cells #[S x.u,S x.s,.int .i64 x.p,S x.t] 40);obtain⟨r,hr⟩:=Am8 (Ns x);rw [←hr];unfold Ns at hr;unfold Fq;by_cases h1:90<x.u.length
 ·have HR:=Am9 (show r=true by rw [hr,decide_eq_true h1];rfl);have t1:(90:Int)<(x.u.length:Int):=(by omega);clear hr;go_enter Tryz.func65,Tryz.ntmps65;go_wp2;go_ret;exact⟨Dm (by rw [HR.out]),hx⟩
 ·have t1:¬(90:Int)<(x.u.length:Int):=(by omega);by_cases h2:90<x.s.length
  ·have HR:=Am9 (show r=true by rw [hr,decide_eq_false h1,decide_eq_true h2];rfl);have t2:(90:Int)<(x.s.length:Int):=(by omega);clear hr;go_enter Tryz.func65,Tryz.ntmps65;go_wp2;go_ret;exact⟨Dm (by rw [HR.out]),hx⟩
  ·have t2:¬(90:Int)<(x.s.length:Int):=(by omega);by_cases h3:90<x.t.length
   ·have HR:=Am9 (show r=true by rw [hr,decide_eq_false h1,decide_eq_false h2,decide_eq_true h3];rfl);have t3:(90:Int)<(x.t.length:Int):=(by omega);clear hr;go_enter Tryz.func65,Tryz.ntmps65;go_wp2;go_ret;exact⟨Dm (by rw [HR.out]),hx⟩
   ·have HR:=Am9 (show r=false by rw [hr,decide_eq_false h1,decide_eq_false h2,decide_eq_false h3];rfl);have t3:¬(90:Int)<(x.t.length:Int):=(by omega);clear hr;go_enter Tryz.func65,Tryz.ntmps65;go_wp2;go_ret;exact⟨Dm (by rw [HR.out]),hx⟩
theorem AbA:∀args w,(callFunc 65 args).run Tryz.prog w=.ok (.enter 65 args) w:=enters_of Tryz.func65 (by kernel_rfl) rfl
theorem AbQ(l:List En)(A:Option Addr)(c:Nat)(w:World)(hr:Ae w A (Bg l))(hc:l.length<=c)(hcm:c<=9223372036854775807) :
  Calls Tryz.prog 26 #[.slice A l.length c] w (Br (OP l) w):=by
 have an:=Yc (cb:=#[]) AbA Ns l A c w hr hc hcm (fun y _ W _=>AbR y W);obtain⟨r,hr0⟩:=Am8 (OP l);rw [←hr0];unfold OP at hr0;obtain⟨n,hn⟩:=Am8 l.length;rw [←hn]at hr0 an ⊢;clear hr hn hc;generalize l.any Ns=bb at *;by_cases h1:n<=5
 ·have HR:=Am9 (show r = !bb by rw [hr0,decide_eq_true h1];simp);have t1:(n:Int)<=5:=(by omega);clear hr0 h1;go_enter Tryz.func26,Tryz.ntmps26;(go_wp2_with fail);(with_reducible refine an.mono ?_);rintro e w1 ⟨rfl,hx⟩;go_wp2;go_ret;exact⟨Dm (by rw [HR.out]),hx⟩
 ·have t1:¬(n:Int)<=5:=(by omega);by_cases h2:19<=n
  ·have t2:(19:Int)<=(n:Int):=(by omega);by_cases h3:n<=22
   ·have HR:=Am9 (show r = !bb by rw [hr0,decide_eq_true h2,decide_eq_true h3];simp);have t3:(n:Int)<=22:=(by omega);clear hr0 h1 h2 h3;go_enter Tryz.func26,Tryz.ntmps26;(go_wp2_with fail);(with_reducible refine an.mono ?_);rintro e w1 ⟨rfl,hx⟩;go_wp2;go_ret;exact⟨Dm (by rw [HR.out]),hx⟩
   ·have HR:=Am9 (show r=false by rw [hr0,decide_eq_false h1,decide_eq_false h3];simp);have t3:¬(n:Int)<=22:=(by omega);clear hr0 h1 h2 h3 an;go_enter Tryz.func26,Tryz.ntmps26;go_wp2;go_ret;exact⟨Dm (by rw [HR.out]),Aa.refl _⟩
  ·have HR:=Am9 (show r=false by rw [hr0,decide_eq_false h1,decide_eq_false h2];simp);have t2:¬(19:Int)<=(n:Int):=(by omega);clear hr0 h1 h2 an;go_enter Tryz.func26,Tryz.ntmps26;go_wp2;go_ret;exact⟨Dm (by rw [HR.out]),Aa.refl _⟩
theorem AbS{l:List En}(h:OP l=true):∀e∈l,If e:=by
 intro e he;unfold OP at h;rw [Bool.and_eq_true,Bool.not_eq_true',List.any_eq_false]at h;have h2:=h.2 e he;unfold Ns at h2;simp only [Bool.or_eq_true,decide_eq_true_eq,not_or]at h2;exact⟨by omega,by omega,by omega⟩
theorem Ajh(l:List En)(A:Option Addr)(c:Nat)(z:Int)(hz:z≠0)(B:Option Addr)(n d:Nat)(w:World)(op:∀W,Aa w W→Calls Tryz.prog 57 #[.slice A l.length c,.slice B n d] W (Az z W)) :
  Calls Tryz.prog 20 #[.slice A l.length c,.slice B n d] w (Ce (.tuple #[.slice none 0 0,.int .i64 z]) w):=by
 have hE:=(Aa.refl w).alloc (.cells #[.slice B n d] 32);have op1:=op _ hE;have t1:(z != 0)=true:=(by rw [bne_iff_ne];exact hz);clear hz op;go_enter Tryz.func20,Tryz.ntmps20;(go_wp2_with fail);(with_reducible refine op1.mono ?_);rintro e w1 ⟨rfl,hx1⟩;go_wp2;go_ret2;exact⟨rfl,hE.trans hx1⟩
theorem Agm(l:List En)(A:Option Addr)(c:Nat)(m0 m1 m2:Value)(w:World)(hr:Ae w A (Bg l))(hc:l.length<=c)(hcm:c<=9223372036854775807)(hl:∀e∈l,If e)(h:BK l≠0) :
  Calls Tryz.prog 28 #[.slice A l.length c,.agg #[m0,m1,m2]] w (Ce (.tuple #[.slice none 0 0,.int .i64 (BK l)]) w):=by
 have hE:=((Aa.refl w).alloc (.cells #[.slice A l.length c] 26)).alloc (.cells #[m0,m1,m2] 36);have ck:=Nt l A c _ (hr.ext hE) hc hcm hl;generalize BK l=z at *;have t1:(z != 0)=true:=(by rw [bne_iff_ne];exact h);clear h hr;go_enter Tryz.func28,Tryz.ntmps28;(go_wp2_with fail);(with_reducible refine ck.mono ?_);rintro e w1 ⟨rfl,hx⟩;go_wp2;go_ret2;exact⟨rfl,hE.trans hx⟩
theorem AjZ(l:List En)(A:Option Addr)(c:Nat)(m0 m1 m2:Value)(w:World)(hr:Ae w A (Bg l))(hc:l.length<=c)(hcm:c<=9223372036854775807)(hl:∀e∈l,If e)(h:BK l≠0) :
  Calls Tryz.prog 29 #[.slice A l.length c,.agg #[m0,m1,m2]] w (Ce (.tuple #[.slice none 0 0,.int .i64 (BK l)]) w):=by
 have hE:=(Aa.refl w).alloc (.cells #[m0,m1,m2] 36);have ck:=Nt l A c _ (hr.ext hE) hc hcm hl;generalize BK l=z at *;have t1:(z != 0)=true:=(by rw [bne_iff_ne];exact h);clear h hr;go_enter Tryz.func29,Tryz.ntmps29;(go_wp2_with fail);(with_reducible refine ck.mono ?_);rintro e w1 ⟨rfl,hx⟩;go_wp2;go_ret2;exact⟨rfl,hE.trans hx⟩
end Go.Proofs.YtjalkoacphhgdaaGreatDoor
