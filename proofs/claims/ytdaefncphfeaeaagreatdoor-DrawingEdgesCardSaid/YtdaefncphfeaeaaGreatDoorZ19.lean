/- Z19: G10 G11 F1 F2 F3. -/
import Derived.Test.YtdaefncphfeaeaaGreatDoorZ18
set_option maxRecDepth 100000
set_option maxHeartbeats 8000000
namespace Go.Proofs.YtdaefncphfeaeaaGreatDoor
open Go.RowKit Kl
section
theorem AnG{P:Program}{w:World}(ts:Array TypeId)(t:TypeId)(k:IntKind)(a b c d e:Int):(Builtin.max_ ts t #[.int k a,.int k b,.int k c,.int k d,.int k e]).run P w=.ok (.int k (max (max (max (max a b) c) d) e)) w:=by
 have m:∀x y:Int,(if y>x then y else x)=max x y:=(by intro x y;split<;>omega);simp only [Builtin.max_,List.foldlM_cons,List.foldlM_nil,Builtin.max2];simp [m]
attribute [local go_sem] AnG
theorem D6{w:World}{b:Nat}{a0 a1:Value}{t:TypeId}(v0 v1:Value)(h:w.heap[b]?=some (.cells #[a0,a1] t)) :
  ((w.setCell ⟨b,0,none⟩ v0).setCell ⟨b,1,none⟩ v1).heap[b]?=some (.cells #[v0,v1] t):=by
 simp only [World.setCell,Array.getElem?_modify,h];simp
def steps(c:Cv)(p:Sg):Nat:=(max (max (max (max 1 (Br c p.a-Br c p.b)) (Br c p.b-Br c p.a)) (Bt c p.a-Bt c p.b)) (Bt c p.b-Bt c p.a)).toNat
def KB(c:Cv)(p:Sg)(n i:Nat):Int×Int:=(Br c (atR p (mkRat i n)),Bt c (atR p (mkRat i n)))
def Ta(c:Cv)(p:Sg):List (Int×Int):=(List.range (steps c p+1)).map (KB c p (steps c p))
def cL(l:List (Int×Int))(w:World)(e:Ending)(w':World):Prop:=
 ∃A k,e=.returned (.tuple #[.slice A l.length k,.int .i64 0])/\Am w' A (Jf l)/\l.length<=k/\k<=9223372036854775807/\Aa w w'
theorem Afs{c:Cv}{s p:Sg}{a:Nat}(hc:It c)(hs:DK a s)(h:Eg c s=some p):DK (6*a+7) p:=by
 have key:∀(fr way:Rat) (m:Nat) (o:Option (Rat×Rat)) (l h:Rat),(∀l h,o=some (l,h)→Sz m l/\Sz m h)→Sz m (-fr/way)→AZ fr way o=some (l,h)→Sz m l/\Sz m h:=by
  intro fr way m o l h ho hk e;obtain⟨l0,h0,e0⟩:=WP e;obtain⟨z1,z2⟩:=ho l0 h0 e0;rw [e0,O8]at e
  split at e
  ·split at e
   ·simp only [Asj,Prod.mk.injEq]at e;obtain⟨rfl,rfl⟩:=e;exact⟨z1,z2⟩
   ·cases e
  ·split at e
   ·simp only [Asj,Prod.mk.injEq]at e;obtain⟨rfl,rfl⟩:=e;exact⟨Aby z1 hk,z2⟩
   ·simp only [Asj,Prod.mk.injEq]at e;obtain⟨rfl,rfl⟩:=e;exact⟨z1,Abz z2 hk⟩
 unfold Eg at h
 split at h
 ·cases h
 ·next l hh e=>
  split at h
  ·cases h
  ·simp only [Asj]at h;subst h;have dx:=hs.b.x.sub hs.a.x;have dy:=hs.b.y.sub hs.a.y;have d:∀{x y:Rat},Sz (a+3+1) x→Sz (a+a+1) y→Sz (3*a+5) (-x/y):=fun hx hy=>(Sz.div (by omega) hx.neg hy).mono (by omega);have m0:Sz (3*a+5) 0:=⟨by show 0<10^_;exact Aal _,by show 1<10^_;exact Nat.one_lt_pow (by omega) (by omega)⟩;have m1:Sz (3*a+5) 1:=⟨by show 1<10^_;exact Nat.one_lt_pow (by omega) (by omega),by show 1<10^_;exact Nat.one_lt_pow (by omega) (by omega)⟩;have f1:Sz (a+3+1) (s.a.x-c.low.x):=hs.a.x.sub hc.low.x;have f2:Sz (a+3+1) (c.high.x-s.a.x):=(hc.high.x.sub hs.a.x).mono (by omega);have f3:Sz (a+3+1) (s.a.y-c.low.y):=hs.a.y.sub hc.low.y;have f4:Sz (a+3+1) (c.high.y-s.a.y):=(hc.high.y.sub hs.a.y).mono (by omega);have k1:=fun l h=>key _ _ (3*a+5) (some (0,1)) l h (by rintro _ _ ⟨⟩;exact⟨m0,m1⟩) (d f1 dx);have k2:=fun l h=>key _ _ (3*a+5) _ l h k1 (d f2 dx.neg);have k3:=fun l h=>key _ _ (3*a+5) _ l h k2 (d f3 dy);obtain⟨z1,z2⟩:=key _ _ (3*a+5) _ l hh k3 (d f4 dy.neg) e;have g1:=VE hs z1;have g2:=VE hs z2;exact⟨⟨g1.x.mono (by omega),g1.y.mono (by omega)⟩,⟨g2.x.mono (by omega),g2.y.mono (by omega)⟩⟩
theorem Abv{i n:Nat}(hn:0<n)(hi:i<=10000)(DZ:n<=10000):Sz 5 (mkRat i n):=
 Sz.mkRat hn (by rw [Ash];have:(10:Nat)^5=100000:=(by decide);omega) (by have:(10:Nat)^5=100000:=(by decide);omega)
theorem AgP{i n:Nat}(hn:0<n)(hi:i<=n):0<=mkRat i n/\mkRat i n<=1:=by
 rw [Rat.mkRat_eq_div];have hp:(0:Rat)<(n:Rat):=Rat.natCast_pos.2 hn;have h0:(0:Rat)<=((i:Int):Rat):=(by rw [Rat.intCast_natCast];exact Rat.natCast_nonneg);constructor
 ·rw [←Rat.not_lt,Rat.div_lt_iff hp,Rat.not_lt,Rat.zero_mul];exact h0
 ·rw [←Rat.not_lt,Rat.lt_div_iff hp,Rat.not_lt,Rat.one_mul,Rat.intCast_natCast];exact Rat.natCast_le_natCast.2 hi
theorem AkB(c:Cv)(hc:It c)(s p:Sg){a:Nat}(hs:DK a s)(ha:0<a)(ha2:a<=200)(hn:Eg c s=some p)(w:World)(hw:Ai w) :
  Calls Tryz.prog 61 #[BQ c,Ax s] w (cL (Ta c p) w):=by
 obtain⟨ia,ib⟩:=Afq hn;have hsp:=Afs hc hs hn;have ca:=dV hc.ok ia;have cb:=dV hc.ok ib;have ra:=oK hc.ok ia;have rb:=oK hc.ok ib;have w2:=hc.ok.w2;have h2:=hc.ok.h2;have e2:=((Aa.refl w).alloc (.cells #[S (R c.low.x),S (R c.low.y),S (R c.high.x),S (R c.high.y),.int .i64 (c.W:Nat),.int .i64 (c.H:Nat)] 37)).alloc (.cells #[S (R s.a.x),S (R s.a.y),S (R s.b.x),S (R s.b.y)] 74);have hb0:=(Below.heap_alloc (w.alloc (.cells #[S (R c.low.x),S (R c.low.y),S (R c.high.x),S (R c.high.y),.int .i64 (c.W:Nat),.int .i64 (c.H:Nat)] 37)) (.cells #[S (R s.a.x),S (R s.a.y),S (R s.b.x),S (R s.b.y)] 74) w.heap.size (by simp)).trans (Ase w _);have xG:=D3.of hb0;clear hb0;have cl:=Afr c s hc hs ha ha2 _ (hw.ext e2);rw [uM hn]at cl;have ZC:=R7 c p.a hc hsp.a (by omega) (by omega) (by omega) (by omega) (by omega) (by omega);have ZD:=R7 c p.b hc hsp.b (by omega) (by omega) (by omega) (by omega) (by omega) (by omega)
 have Fv:∀n i:Nat,0<n→i<=n→n<=2000→∀W,Ai W→Calls Tryz.prog 48 #[BQ c,Ak (atR p (mkRat i n))] W (Bg (.tuple #[I2 (KB c p n i).1 (KB c p n i).2,.int .i64 0]) W):=by intro n i h0 hi h3 W hW;obtain⟨u0,u1⟩:=AgP h0 hi;have hin:=Akh ia ib u0 u1;have cc:=dV hc.ok hin;have rr:=oK hc.ok hin;exact R7 c _ hc (VE hsp (Abv h0 (by omega) (by omega))) (by omega) (by omega) (by omega) (by omega) (by omega) (by omega) W hW
 have hat:∀n i:Nat,0<n→i<=n→n<=2000→∀W,Ai W→Calls Tryz.prog 33 #[Ax p,S (R (mkRat i n))] W (Bg (Ak (atR p (mkRat i n))) W):=by intro n i h0 hi h3 W hW;exact Qm p _ hsp (Abv h0 (by omega) (by omega)) (by omega) (by omega) (by omega) W hW
 have hst:steps c p=(max (max (max (max 1 (Br c p.a-Br c p.b)) (Br c p.b-Br c p.a)) (Bt c p.a-Bt c p.b)) (Bt c p.b-Bt c p.a)).toNat:=rfl;obtain⟨L,hL⟩:=AcG (Ta c p);rw [←hL];have HL:=Asb hL;obtain⟨n,FT⟩:=AcG (steps c p);have HN:=Asb FT;rw [←FT]at hst;obtain⟨c1,hc1⟩:=AcG (Br c p.a);obtain⟨c2,hc2⟩:=AcG (Br c p.b);obtain⟨r1,hr1⟩:=AcG (Bt c p.a);obtain⟨r2,hr2⟩:=AcG (Bt c p.b);rw [←hc1,←hr1]at ZC;rw [←hc2,←hr2]at ZD;rw [←hc1,←hc2,←hr1,←hr2]at hst;rw [←hc1]at ca;rw [←hc2]at cb;rw [←hr1]at ra;rw [←hr2]at rb;have Df:max 1 (max (c1-c2) (max (c2-c1) (max (r1-r2) (r2-r1))))=(n:Int):=(by omega);have FS:0<n:=(by omega);have DZ:n<=2000:=(by omega);have HM:=Asb Df;obtain⟨ca1,ca2⟩:=ca;obtain⟨uA,uC⟩:=cb;obtain⟨ra1,ra2⟩:=ra;obtain⟨rb1,rb2⟩:=rb;unfold BQ Ax at cl;unfold BQ Ak I2 at ZC ZD;unfold BQ Ax;clear hc hs hn ia ib hsp hst hL FT hc1 hc2 hr1 hr2 Df;go_enter Tryz.func61,Tryz.ntmps61;(go_wp2_with fail);(with_reducible refine cl.mono ?_);rintro e w1 ⟨rfl,hx⟩;have hC:=xG.ext hx;have hE:=e2.trans hx;clear xG e2 hx cl;have hC:=hC.ext ((Aa.refl w1).alloc (.cells #[S (R p.a.x),S (R p.a.y),S (R p.b.x),S (R p.b.y)] 74));have hE:=hE.alloc (.cells #[S (R p.a.x),S (R p.a.y),S (R p.b.x),S (R p.b.y)] 74);have AS:=Ase w1 (.cells #[S (R p.a.x),S (R p.a.y),S (R p.b.x),S (R p.b.y)] 74)
 go_upto_region 4 with fail
 generalize w1.alloc (.cells #[S (R p.a.x),S (R p.a.y),S (R p.b.x),S (R p.b.y)] 74)=V at *;obtain⟨bp,Hh⟩:=AcG w1.heap.size;rw [←Hh]at AS ⊢;clear Hh;have hP:IV V bp p:=⟨Ab AS rfl,Ab AS rfl,Ab AS rfl,Ab AS rfl⟩;clear AS;obtain⟨q1,q2,q3,q4,q5,q6⟩:=hC;obtain⟨k1,k2,k3,k4⟩:=hP;(go_wp2_with fail);(with_reducible refine(ZC _ (hw.ext hE)).mono ?_);rintro e w3 ⟨rfl,hx⟩;replace hE:=hE.trans hx;have hC:=(D3.mk q1 q2 q3 q4 q5 q6).ext hx;have hP:=(IV.mk k1 k2 k3 k4).ext hx;clear q1 q2 q3 q4 q5 q6 k1 k2 k3 k4 hx ZC;have hE:=hE.alloc (.cells #[.int .i64 c1,.int .i64 r1] 61);have hC:=hC.ext ((Aa.refl w3).alloc (.cells #[.int .i64 c1,.int .i64 r1] 61));have hP:=hP.ext ((Aa.refl w3).alloc (.cells #[.int .i64 c1,.int .i64 r1] 61));have Bj:=Ase w3 (.cells #[.int .i64 c1,.int .i64 r1] 61)
 go_upto_region 7 with fail
 generalize w3.alloc (.cells #[.int .i64 c1,.int .i64 r1] 61)=V at *;obtain⟨ba,TC⟩:=AcG w3.heap.size;rw [←TC]at Bj ⊢;clear TC;obtain⟨q1,q2,q3,q4,q5,q6⟩:=hC;obtain⟨k1,k2,k3,k4⟩:=hP;(go_wp2_with fail);(with_reducible refine(ZD _ (hw.ext hE)).mono ?_);rintro e w4 ⟨rfl,hx⟩;replace hE:=hE.trans hx;have hC:=(D3.mk q1 q2 q3 q4 q5 q6).ext hx;have hP:=(IV.mk k1 k2 k3 k4).ext hx;replace Bj:=(hx.block _ (Asd Bj)).trans Bj;clear q1 q2 q3 q4 q5 q6 k1 k2 k3 k4 hx ZD;have hE:=hE.alloc (.cells #[.int .i64 c2,.int .i64 r2] 61);have hx:=(Aa.refl w4).alloc (.cells #[.int .i64 c2,.int .i64 r2] 61);have hC:=hC.ext hx;have hP:=hP.ext hx;replace Bj:=(hx.block _ (Asd Bj)).trans Bj;clear hx;have BA:=Ase w4 (.cells #[.int .i64 c2,.int .i64 r2] 61)
 go_upto_region 10 with fail
 generalize w4.alloc (.cells #[.int .i64 c2,.int .i64 r2] 61)=V at *;obtain⟨bb,ae⟩:=AcG w4.heap.size;rw [←ae]at BA ⊢;clear ae;have a0:=Ab (o:=0) Bj rfl;have a1:=Ab (o:=1) Bj rfl;have b0:=Ab (o:=0) BA rfl;have b1:=Ab (o:=1) BA rfl;have Df:=HM.out
 go_upto_region 12 with fail
 clear Df a0 a1 b0 b1 Bj BA;have HC:=hC;have HP:=hP;have hV:=hE;go_wp2
 go_loopw [12,69] (fun out i wr=>∃j:Nat,i=.int .i64 (j:Nat)/\j<=n+1/\wr.ownsRow V.heap.size 61 2 out j (Jf ((List.range j).map (KB c p n)))/\V.heap.size<=wr.heap.size/\Aa V wr) (fun _ i _=>n+1-(intOf i).toNat)
 case atStart=>exact⟨0,rfl,by omega,World.ownsRow_nil _ _ _ _,Asf _,Aa.refl _⟩
 case round=>
  obtain⟨j,rfl,hj,hown,hsz,Ac⟩:=hrel;by_cases hlt:j<n+1
  ·have Mg:=nX (j:Int) (n:Int) (by omega) (by omega) (by omega) (by omega) wr (hw.ext (hE.trans Ac));rw [Int.toNat_natCast]at Mg;unfold GQ at Mg;have hj0:(0:Int)<=(j:Int):=(by omega);(go_wp2_with fail);(with_reducible refine Mg.mono ?_);rintro e w5 ⟨rfl,Ae⟩
   go_upto_region 16 with fail
   have C5:=hV.trans (Ac.trans Ae);have Tm:=HC.ext (Ac.trans Ae);have ES:=HP.ext (Ac.trans Ae);have DL:=hat n j FS (by omega) DZ;have Hq:=Fv n j FS (by omega) DZ;obtain⟨d1,Eo⟩:=AcG ((KB c p n j).1);obtain⟨d2,C3⟩:=AcG ((KB c p n j).2);rw [←Eo,←C3]at Hq;unfold Ax Ak at DL;unfold BQ Ak I2 at Hq;have HD:Hid (KB c p n j=(d1,d2)):=Asb (by rw [Eo,C3]);clear Eo C3 Mg hE hC hP
   go_cut [16,17] (fun v16 v17 wx=>∃b,v16=.pointer (some ⟨b,0,none⟩)/\v17=.int .i64 0/\wx.heap[b]?=some (.cells #[.int .i64 d1,.int .i64 d2] 61)/\Aa w5 wx)
   case first=>
    obtain⟨q1,q2,q3,q4,q5,q6⟩:=Tm;obtain⟨k1,k2,k3,k4⟩:=ES;have Tm:=D3.mk q1 q2 q3 q4 q5 q6;have ES:=IV.mk k1 k2 k3 k4;have Rk:=hw.ext C5;have hs1:w.heap.size<w5.heap.size:=World.block_lt_of_cell? w5 _ q1;have hs2:bp<w5.heap.size:=World.block_lt_of_cell? w5 _ k1
    go_region_held3 (fun w'=>w'.cell? ⟨w.heap.size,0,none⟩=some (S (R c.low.x))/\w'.cell? ⟨w.heap.size,1,none⟩=some (S (R c.low.y))/\w'.cell? ⟨w.heap.size,2,none⟩=some (S (R c.high.x))/\w'.cell? ⟨w.heap.size,3,none⟩=some (S (R c.high.y))/\w'.cell? ⟨w.heap.size,4,none⟩=some (.int .i64 (c.W:Nat))/\w'.cell? ⟨w.heap.size,5,none⟩=some (.int .i64 (c.H:Nat))/\w'.cell? ⟨bp,0,none⟩=some (S (R p.a.x))/\w'.cell? ⟨bp,1,none⟩=some (S (R p.a.y))/\w'.cell? ⟨bp,2,none⟩=some (S (R p.b.x))/\w'.cell? ⟨bp,3,none⟩=some (S (R p.b.y)))
     (first|go_keep|(refine⟨?_,?_,?_,?_,?_,?_,?_,?_,?_,?_⟩<;>(rw [World.cell?_setCell_far _ _ _ _ (by simp only [ne_eq];omega),World.cell?_setCell_far _ _ _ _ (by simp only [ne_eq];omega)];assumption)))
     (first|((with_reducible refine(DL _ ?_).mono ?_);(exact Rk.ext (by first|exact(Aa.refl _).drew|exact((Aa.refl _).alloc _).drew));rintro e w6 ⟨rfl,Ao⟩;have X6:Aa w5 w6:=(by first|exact(Aa.refl _).drew.trans Ao|exact((Aa.refl _).alloc _).drew.trans Ao);obtain⟨g1,g2,g3,g4,g5,g6⟩:=Tm.ext X6;obtain⟨h1,h2,h3,h4⟩:=ES.ext X6;have s6:=X6.size;(first|(have Z6:w6.heap[w5.heap.size]?=some (.cells #[.int .i64 0,.int .i64 0] 61):=(Ao.block _ (by simp)).trans (Ase w5 _))|skip))|((with_reducible refine(Hq _ ?_).mono ?_);(exact Rk.ext (by first|exact X6|exact X6.alloc _));rintro e w7 ⟨rfl,Aj⟩;have X7:Aa w5 w7:=(by first|exact X6.trans Aj|exact(X6.alloc _).trans Aj);obtain⟨i1,i2,i3,i4,i5,i6⟩:=Tm.ext X7;obtain⟨m1,m2,m3,m4⟩:=ES.ext X7;have s7:=X7.size;(first|(have Z7:w7.heap[w5.heap.size]?=some (.cells #[.int .i64 0,.int .i64 0] 61):=(Aj.block _ (Asd Z6)).trans Z6;have y1:=Ab (o:=0) Z7 rfl;have y2:=Ab (o:=1) Z7 rfl;have y3:=An (o:=0) Z7;have y4:=An (o:=1) Z7)|(have Z7:w7.heap[w6.heap.size]?=some (.cells #[.int .i64 0,.int .i64 0] 61):=(Aj.block _ (by simp)).trans (Ase w6 _);have y1:=Ab (o:=0) Z7 rfl;have y2:=Ab (o:=1) Z7 rfl;have y3:=An (o:=0) Z7;have y4:=An (o:=1) Z7)|skip)))
    all_goals go_wp2
    all_goals go_meet
    all_goals first
     | exact⟨_,rfl,rfl,Ase w7 _,X7.alloc _⟩
     | exact⟨_,rfl,rfl,D6 _ _ Z7,(X7.setCell (by simp only [];omega) _).setCell (by simp only [];omega) _⟩
     | exact⟨_,rfl,rfl,D6 _ _ Z7,(X7.setCell (Asf _) _).setCell (Asf _) _⟩
   case rest=>
    obtain⟨b,rfl,rfl,As,Dz⟩:=hcut;have g0:=Ab (o:=0) As rfl;have g1:=Ab (o:=1) As rfl;have Nn:=Ac.trans (Ae.trans Dz);have hown2:=Ap hown (Ae.trans Dz);have U7:V.heap.size<=wc.heap.size:=Nn.size;clear DL Hq Tm ES C5
    go_wp2_with (at_builtin;go_loud (refine Aen rfl _ _ rfl wc V.heap.size u12 j ((List.range j).map (KB c p n)) rfl hown2 (by omega) (d1,d2) rfl U7 ?_);intro v8 w8 IC AE)
    go_roundw
    case rel=>
     refine⟨j+1,by go_num,hlt,?_,?_,AE V Nn (Asf _)⟩
     ·rw [List.range_succ,List.map_append,List.map_singleton,HD.out];exact IC
     ·exact(AE V Nn (Asf _)).size
    case measure=>simp [intOf];omega
  ·have BK:j=n+1:=(by omega);have hlen:((List.range j).map (KB c p n)).length=j:=(by simp);obtain⟨A,k,rfl,AU,Bv,hk2⟩:=Am.of_own hown hlen.symm;have Tt:L=(List.range j).map (KB c p n):=(by rw [HL.out,BK];unfold Ta;rw [←HN.out]);have hle:(n:Int)+1<=(j:Int):=(by omega);have VT:=Asb Tt;have Su:=Asb hlen;have hR:Hid (cL L w (.returned (.tuple #[.slice A j k,.int .i64 0])) wr):=Asb ⟨A,k,by rw [Tt,hlen],by rw [Tt];exact AU,by rw [Tt,hlen];exact Bv,hk2,hV.trans Ac⟩;clear Tt hlen BK hlt;go_wp2;go_ret2;exact hR.out
end
theorem Ad9(c:Cv)(hc:It c)(s:Sg){a:Nat}(hs:DK a s)(ha:0<a)(ha2:a<=200)(p:Sg)(hn:Eg c s=some p)(w:World)(hw:Ai w) :
  Calls Tryz.prog 23 #[BQ c,Ax s] w (cL (Ta c p) w):=by
 have e2:=((Aa.refl w).alloc (.cells #[S (R c.low.x),S (R c.low.y),S (R c.high.x),S (R c.high.y),.int .i64 (c.W:Nat),.int .i64 (c.H:Nat)] 37)).alloc (.cells #[S (R s.a.x),S (R s.a.y),S (R s.b.x),S (R s.b.y)] 74);obtain⟨W,hW⟩:=AcG ((w.alloc (.cells #[S (R c.low.x),S (R c.low.y),S (R c.high.x),S (R c.high.y),.int .i64 (c.W:Nat),.int .i64 (c.H:Nat)] 37)).alloc (.cells #[S (R s.a.x),S (R s.a.y),S (R s.b.x),S (R s.b.y)] 74));rw [←hW]at e2;have hsz:W.heap.size=w.heap.size+1+1:=by rw [hW];simp
 have hz:∀p∈[s.a,s.b],Aq a p:=by
  intro p hp;simp only [List.mem_cons,Asr,or_false]at hp
  rcases hp with rfl|rfl
  ·exact hs.a
  ·exact hs.b
 have op:=AlD c hc (FW s.a) (FW s.b) true (by simp only [true_iff];exact Vl hz ha ha2) (V9 hz ha ha2) W (hw.ext e2);unfold FW at op;rw [GA]at op;have ah:W.heap[w.heap.size]?=some (.cells #[S (R c.low.x),S (R c.low.y),S (R c.high.x),S (R c.high.y),.int .i64 (c.W:Nat),.int .i64 (c.H:Nat)] 37):=by rw [hW];exact(Below.heap_alloc _ _ _ (by simp)).trans (Ase w _)
 have Em:W.heap[w.heap.size+1]?=some (.cells #[S (R s.a.x),S (R s.a.y),S (R s.b.x),S (R s.b.y)] 74):=by
  rw [hW];have h:=Ase (w.alloc (.cells #[S (R c.low.x),S (R c.low.y),S (R c.high.x),S (R c.high.y),.int .i64 (c.W:Nat),.int .i64 (c.H:Nat)] 37)) (.cells #[S (R s.a.x),S (R s.a.y),S (R s.b.x),S (R s.b.y)] 74)
  rwa [Asn]at h
 obtain⟨V,hV⟩:=AcG (W.alloc (.cells #[S (R s.a.x),S (R s.a.y),S (R s.b.x),S (R s.b.y)] 35));rw [←hV,hsz]at op;have C9:Aa W V:=(by rw [hV];exact(Aa.refl W).alloc _);have hE:=e2.trans C9;have hC:=(D3.of ah).ext C9;have hS:=(IV.mk (s:=s) (Ab Em rfl) (Ab Em rfl) (Ab Em rfl) (Ab Em rfl)).ext C9;have ln:=AkB c hc s p hs ha ha2 hn;unfold BQ at op;unfold BQ Ax at ln;unfold BQ Ax;rw [hW]at hV;clear hc hs hz hn hsz hW e2 ah Em C9;go_enter Tryz.func23,Tryz.ntmps23;(go_wp2_with fail);rw [←hV];clear hV;(with_reducible refine op.mono ?_);rintro e w1 ⟨rfl,hx⟩;replace hE:=hE.trans hx;obtain⟨q1,q2,q3,q4,q5,q6⟩:=hC.ext hx;obtain⟨k1,k2,k3,k4⟩:=hS.ext hx;clear hC hS op hx;(go_wp2_with fail);(with_reducible refine(ln _ (hw.ext hE)).mono ?_);rintro e w2 ⟨A,k,rfl,AU,Bv,hk2,hx⟩;go_wp2;go_ret2;exact⟨A,k,rfl,AU,Bv,hk2,hE.trans hx⟩
theorem RL(z:Int)(h0:-9223372036854775808<=z)(h1:z<=9223372036854775807)(w:World)(hw:Ai w):Calls Tryz.prog 39 #[.int .i64 z] w (A0 (I z) w):=by
 have hi:=J0 z h0 h1 w hw;clear h0 h1;go_enter Tryz.func39,Tryz.ntmps39;(go_wp2_with fail);(with_reducible refine hi.mono ?_);rintro e w1 ⟨rfl,hx1⟩;go_wp2;go_ret;exact⟨rfl,hx1⟩
structure Low(n:Int)(d g:Nat)(n':Int)(d':Nat):Prop where
 R:R (mkRat n d)=EQ n' d'
 e1:n.tdiv (g:Int)=n'
 e2:(d:Int)/(g:Int)=(d':Int)
 g0:0<g
 gd:g<=d
 b1:n'.natAbs<=n.natAbs
 b2:d'<=d
theorem mN(n:Int){d:Nat}(hd:0<d):∃n' d',Low n d (Nat.gcd n.natAbs d) n' d':=by
 have hgn:((Nat.gcd n.natAbs d:Nat):Int)∣n:=Int.natAbs_dvd_natAbs.1 (by rw [Ash];exact Nat.gcd_dvd_left ..);refine⟨n/(Nat.gcd n.natAbs d:Nat),d/Nat.gcd n.natAbs d,Qe n hd,Int.tdiv_eq_ediv_of_dvd hgn,by simp,Nat.gcd_pos_of_pos_right _ hd,Nat.gcd_le_right _ hd,P8 _ _ hgn,Nat.div_le_self _ _⟩
theorem Anh(n:Int)(d:Nat)(hd:0<d)(Df:-9000000000000000000<=n)(DZ:n<=9000000000000000000)(C3:d<=9000000000000000000)(w:World)(hw:Ai w) :
  Calls Tryz.prog 96 #[S (I n),S (I (d:Int))] w (A0 (R (mkRat n d)) w):=by
 obtain⟨n',d',ND⟩:=mN n hd;obtain⟨g,hg⟩:=AcG (Nat.gcd n.natAbs d);rw [←hg]at ND;obtain⟨hR,e1,e2,hg0,hgd,b1,b2⟩:=ND;have ln:(I n').length<=20:=G3 (z:=n') (k:=19) (by omega) (by omega);have ld:(D d').length<=19:=Ck (by omega) (by omega);have DL:=O6 n (by omega) (by omega);have at2:=O6 (d:Int) (by omega) (by omega);have HR:=Asb hR;have HG:=Asb hg;have H1:=Asb e1;have H2:=Asb e2;have i1:=fun W hW=>J0 n' (by omega) (by omega) W hW;have i2:=fun W hW=>J0 (d':Int) (by omega) (by omega) W hW;rw [Ci]at i2;obtain⟨na,NF⟩:=AcG (n.natAbs:Nat);have Us:na<=9000000000000000000:=(by omega);have JE:=Asb NF;clear hR hg e1 e2 NF;by_cases GI:n<0
 case' pos=>have kE:-n=(na:Int):=(by have:=JE.out;omega);go_enter Tryz.func96,Tryz.ntmps96;(go_wp2_with fail);(with_reducible refine(DL _).mono ?_);rintro e w1 ⟨rfl,hx⟩;(go_wp2_with fail);(with_reducible refine(at2 _).mono ?_);rintro e w2 ⟨rfl,hx2⟩;have hE:=hx.trans hx2;go_wp2;clear kE
 case' neg=>obtain⟨m,hm⟩:=Int.eq_ofNat_of_zero_le (show 0<=n by omega);obtain rfl:m=na:=(by have:=JE.out;omega);subst hm;go_enter Tryz.func96,Tryz.ntmps96;(go_wp2_with fail);(with_reducible refine(DL _).mono ?_);rintro e w1 ⟨rfl,hx⟩;(go_wp2_with fail);(with_reducible refine(at2 _).mono ?_);rintro e w2 ⟨rfl,hx2⟩;have hE:=hx.trans hx2;go_wp2
 all_goals
  clear DL at2 hx hx2
  go_loopw [9,10] (fun x y wr=>∃a b:Nat,x=.int .i64 (a:Nat)/\y=.int .i64 (b:Nat)/\Nat.gcd a b=g/\a<=9000000000000000000/\b<=9000000000000000000/\Aa w wr) (fun _ y _=>(intOf y).natAbs)
  case atStart=>exact⟨_,d,rfl,rfl,by rw [HG.out,←JE.out],Us,C3,hE⟩
  case round=>
   obtain⟨a,b,rfl,rfl,DC,ha,hb,Ac⟩:=hrel;by_cases hb0:b=0
   ·subst hb0;obtain rfl:a=g:=(by rw [←DC];simp);clear DC;have e1:=H1.out;have e2:=H2.out;have QM:(0:Int)<(a:Int):=(by omega);have jM:((a:Int) == 0)=false:=(by rw [beq_eq_false_iff_ne];omega);by_cases CU:d'=1
    ·subst CU;have HF:Hid (R (mkRat _ d)=I n'):=Asb (by rw [HR.out];rfl);(go_wp2_with fail)
     go_quiet (fail)
     (go_wp2_with fail);(with_reducible refine(i1 _ (hw.ext (Ac.drewN _))).mono ?_);rintro e w3 ⟨rfl,hx3⟩;go_wp2;go_ret;exact⟨Ch (by rw [HF.out]),(Ac.drewN _).trans hx3⟩
    ·have HF:Hid (R (mkRat _ d)=I n'++47::D d'):=Asb (by rw [HR.out];exact if_neg CU);have TR:((d':Int) == 1)=false:=(by rw [beq_eq_false_iff_ne];omega);clear CU;(go_wp2_with fail)
     go_quiet (fail)
     (go_wp2_with fail);(with_reducible refine(i1 _ (hw.ext (Ac.drewN _))).mono ?_);rintro e w3 ⟨rfl,hx3⟩;have hx3:=(Ac.drewN _).trans hx3;(go_wp2_with fail);(with_reducible refine(i2 _ (hw.ext hx3)).mono ?_);rintro e w4 ⟨rfl,Af⟩;go_wp2;go_ret;exact⟨Ch (by rw [HF.out];apply ByteArray.ext;simp),hx3.trans Af⟩
   ·have hlt:a%b<b:=Nat.mod_lt _ (by omega);have I7:((b:Int) != 0)=true:=(by rw [bne_iff_ne];omega);have Bu:((b:Int) == 0)=false:=(by rw [beq_eq_false_iff_ne];omega);have AS:(0:Int)<(b:Int):=(by omega);have JC:Hid (Nat.gcd b (a%b)=g):=Asb (by rw [←DC,Nat.gcd_comm b,←Nat.gcd_rec,Nat.gcd_comm]);clear DC;(go_wp2_with fail)
    go_quiet (fail)
    go_wp2;go_roundw
    case rel=>exact⟨b,a%b,rfl,by go_num,JC.out,hb,by omega,Ac.drewN _⟩
    case measure=>simp [intOf];omega
theorem Aa9(n:Int)(d:Nat)(hd:0<d)(Df:-9000000000000000000<=n)(DZ:n<=9000000000000000000)(C3:d<=9000000000000000000)(w:World)(hw:Ai w) :
  Calls Tryz.prog 41 #[.int .i64 n,.int .i64 (d:Nat)] w (A0 (R (mkRat n d)) w):=by
 obtain⟨n',d',ND⟩:=mN n hd;obtain⟨g,hg⟩:=AcG (Nat.gcd n.natAbs d);rw [←hg]at ND;obtain⟨hR,e1,e2,hg0,hgd,b1,b2⟩:=ND;have ln:(I n').length<=20:=G3 (z:=n') (k:=19) (by omega) (by omega);have ld:(D d').length<=19:=Ck (by omega) (by omega);have HR:=Asb hR;have HG:=Asb hg;have H1:=Asb e1;have H2:=Asb e2;have i1:=fun W hW=>J0 n' (by omega) (by omega) W hW;have i2:=fun W hW=>J0 (d':Int) (by omega) (by omega) W hW;rw [Ci]at i2;obtain⟨na,NF⟩:=AcG (n.natAbs:Nat);have Us:na<=9000000000000000000:=(by omega);have GI:IntKind.i64.wrap (-n) = -n:=Asm _ (by omega);have JE:=Asb NF;clear hR hg e1 e2 NF;by_cases Eo:d=1
 ·subst Eo
  have hn':n'=n:=by have h1:=HG.out;rw [Nat.gcd_one_right]at h1;rw [←H1.out,h1];simp
  have DY:d'=1:=by have h1:=HG.out;rw [Nat.gcd_one_right]at h1;have:=H2.out;rw [h1]at this;simp at this;omega
  have HF:Hid (R (mkRat n 1)=I n):=Asb (by rw [HR.out,DY,hn'];rfl);subst hn';clear DY;go_enter Tryz.func41,Tryz.ntmps41;(go_wp2_with fail);(with_reducible refine(i1 _ hw).mono ?_);rintro e w3 ⟨rfl,hx3⟩;go_wp2;go_ret;exact⟨Ch (by rw [HF.out]),hx3⟩
 ·have Aio:((d:Int) != 1)=true:=(by rw [bne_iff_ne];omega);have hmx:max n (-n)=(na:Int):=(by have:=JE.out;omega);clear Eo;go_enter Tryz.func41,Tryz.ntmps41;go_wp2;clear hmx Aio
  go_loopw [5,6] (fun x y wr=>∃a b:Nat,x=.int .i64 (a:Nat)/\y=.int .i64 (b:Nat)/\Nat.gcd a b=g/\a<=9000000000000000000/\b<=9000000000000000000/\Aa w wr) (fun _ y _=>(intOf y).natAbs)
  case atStart=>exact⟨na,d,by first|rfl|(have:=JE.out;congr 1;split<;>omega),rfl,by rw [HG.out,←JE.out],Us,C3,Aa.refl _⟩
  case round=>
   obtain⟨a,b,rfl,rfl,DC,ha,hb,Ac⟩:=hrel;by_cases hb0:b=0
   ·subst hb0;obtain rfl:a=g:=(by rw [←DC];simp);clear DC;have e1:=H1.out;have e2:=H2.out;have QM:(0:Int)<(a:Int):=(by omega);have jM:((a:Int) == 0)=false:=(by rw [beq_eq_false_iff_ne];omega);by_cases CU:d'=1
    ·subst CU;have HF:Hid (R (mkRat n d)=I n'):=Asb (by rw [HR.out];rfl);(go_wp2_with fail)
     go_quiet (fail)
     (go_wp2_with fail);(with_reducible refine(i1 _ (hw.ext (Ac.drewN _))).mono ?_);rintro e w3 ⟨rfl,hx3⟩;go_wp2;go_ret;exact⟨Ch (by rw [HF.out]),(Ac.drewN _).trans hx3⟩
    ·have HF:Hid (R (mkRat n d)=I n'++47::D d'):=Asb (by rw [HR.out];exact if_neg CU);have TR:((d':Int) == 1)=false:=(by rw [beq_eq_false_iff_ne];omega);clear CU;(go_wp2_with fail)
     go_quiet (fail)
     (go_wp2_with fail);(with_reducible refine(i1 _ (hw.ext (Ac.drewN _))).mono ?_);rintro e w3 ⟨rfl,hx3⟩;have hx3:=(Ac.drewN _).trans hx3;(go_wp2_with fail);(with_reducible refine(i2 _ (hw.ext hx3)).mono ?_);rintro e w4 ⟨rfl,Af⟩;go_wp2;go_ret;exact⟨Ch (by rw [HF.out];apply ByteArray.ext;simp),hx3.trans Af⟩
   ·have hlt:a%b<b:=Nat.mod_lt _ (by omega);have I7:((b:Int) != 0)=true:=(by rw [bne_iff_ne];omega);have Bu:((b:Int) == 0)=false:=(by rw [beq_eq_false_iff_ne];omega);have AS:(0:Int)<(b:Int):=(by omega);have JC:Hid (Nat.gcd b (a%b)=g):=Asb (by rw [←DC,Nat.gcd_comm b,←Nat.gcd_rec,Nat.gcd_comm]);clear DC;(go_wp2_with fail)
    go_quiet (fail)
    go_wp2;go_roundw
    case rel=>exact⟨b,a%b,rfl,by go_num,JC.out,hb,by omega,Ac.drewN _⟩
    case measure=>simp [intOf];omega
theorem Aa3(n:Int)(d:Nat)(hd:0<d)(l1:(I n).length<=9)(l2:(I (d:Int)).length<=9)(w:World)(hw:Ai w) :
  Calls Tryz.prog 38 #[S (I n),S (I (d:Int))] w (A0 (R (mkRat n d)) w):=by
 have b1:=Ko l1;have b2:=Ko l2;have e9:(10:Nat)^9=1000000000:=(by decide);rw [e9]at b1 b2;have sm:=Anh n d hd (by omega) (by omega) (by omega);have i1:decide (((I n).length:Int)<=9)=true:=(by rw [decide_eq_true_eq];omega);have i2:decide (((I (d:Int)).length:Int)<=9)=true:=(by rw [decide_eq_true_eq];omega);have l1':((I n).length:Int)<=9:=(by omega);have l2':((I (d:Int)).length:Int)<=9:=(by omega);clear b1 b2 e9 hd l1 l2;go_enter Tryz.func38,Tryz.ntmps38;(go_wp2_with fail);(with_reducible refine(sm _ hw).mono ?_);rintro e w3 ⟨rfl,hx3⟩;go_wp2;go_ret;exact⟨rfl,hx3⟩
theorem AaD(n:Int)(d:Nat)(hd:0<d)(h1:n.natAbs<10000000)(h2:d<10000000)(w:World)(hw:Ai w) :
  Calls Tryz.prog 11 #[.int .i64 n,.int .i64 (d:Nat)] w (A0 (R (mkRat n d)) w):=by
 have e7:(10:Nat)^7=10000000:=(by decide);have l1:(I n).length<=9:=Asq (G3 (k:=7) (by omega) (by omega)) (by omega);have l2:(I (d:Int)).length<=9:=Asq (G3 (z:=(d:Int)) (k:=7) (by omega) (by rw [Ash];omega)) (by omega);have o1:=RL n (by omega) (by omega);have o2:=RL (d:Int) (by omega) (by omega);have fr:=Aa3 n d hd l1 l2;clear e7 l1 l2 hd h1 h2;go_enter Tryz.func11,Tryz.ntmps11;(go_wp2_with fail);(with_reducible refine(o1 _ hw).mono ?_);rintro e w1 ⟨rfl,hx⟩;(go_wp2_with fail);(with_reducible refine(o2 _ (hw.ext hx)).mono ?_);rintro e w2 ⟨rfl,hx2⟩;replace hx:=hx.trans hx2;(go_wp2_with fail);(with_reducible refine(fr _ (hw.ext hx)).mono ?_);rintro e w3 ⟨rfl,hx3⟩;go_wp2;go_ret;exact⟨rfl,hx.trans hx3⟩
theorem Seg.digitB{s:ByteArray}{b:Nat}{m:Bs}(h:Seg s b m)(hs:s.size<=9){j:Nat}(h1:b<=j)(h2:j<b+m.length) :
  ∃(c:UInt8) (v:Nat) (hj:j<s.size),s[j]=c/\(48:Int)<=(c.toNat:Int)/\(c.toNat:Int)<=57/\((c.toNat:Int) != 47)=true/\v=val (m.take (j-b))/\(v:Int)<=999999999/\
   ((val (m.take (j+1-b)):Nat):Int)=10*(v:Int)+((c.toNat:Int)-48):=by
 have hj:j<s.size:=(by have:=h.le;omega);obtain⟨c,e1,d,e2⟩:=h.digit hj h1 h2;have hv:=AbI h.all (k:=j-b);have h8:10^(j-b)<=10^9:=Nat.pow_le_pow_right (by omega) (by omega);have h10:(10:Nat)^9=1000000000:=(by decide);have:=d.1;have:=d.2;refine⟨c,_,hj,e1,by omega,by omega,?_,rfl,by omega,by rw [e2];omega⟩;rw [bne_iff_ne];omega
theorem AmH(s:ByteArray)(m:Bs)(hm:Seg s 0 m)(hs:s.size=0+m.length)(hmax:s.size<=9)(h0:0<m.length)(w:World) :
  Calls Tryz.prog 40 #[.string s] w (fun e w'=>e=.returned (.tuple #[.int .i64 ((val m:Int)),.int .i64 1,.bool true])/\w=w'):=by
 have hp:(0:Int)<(s.size:Int):=(by omega);have Ur:(s.size:Int)<=9:=(by omega);obtain⟨c0,-,hs0,e0,d0,d1,-⟩:=hm.digitB hmax (j:=0) (by omega) (by omega);have hc:((c0.toNat:Int) == 45)=false:=(by rw [beq_eq_false_iff_ne];omega);clear d0 d1;have HS:=Asb hs;clear hs;go_enter Tryz.func40,Tryz.ntmps40;go_wp2;clear hc e0 hp
 go_loop [2,5] (fun n i=>∃j:Nat,0<=j/\j<=0+m.length/\i=.int .i64 (j:Nat)/\n=.int .i64 (val (m.take (j-0)):Nat)) (fun _ i=>s.size-(intOf i).toNat)
 case atStart=>exact⟨0,by omega,by omega,rfl,by simp [G1]⟩
 case round=>
  obtain⟨j,hj0,DD,rfl,rfl⟩:=hrel;have Ph:j<=s.size:=(by have:=HS.out;omega);by_cases hlt:j<0+m.length
  ·obtain⟨c,v,CS,e,d1,d2,CY,hv,Et,hn⟩:=hm.digitB hmax hj0 hlt;have Hj:(j:Int)<(s.size:Int):=(by omega);have Fq:(0:Int)<=(j:Int):=(by omega);rw [←hv];have HN:=Asb hn;clear hv hn;go_wp2
   go_round
   case rel=>exact⟨j+1,by omega,by omega,by go_num,by rw [HN.out]⟩
   case measure=>simp [intOf];omega
  ·have BK:j=0+m.length:=(by omega);have ht:m.take (j-0)=m:=by rw [BK];simp
   have Et:((val m:Nat):Int)<=999999999:=by have h1:=GU hm.all;have h2:10^m.length<=10^9:=Nat.pow_le_pow_right (by omega) (by have:=HS.out;omega);have h3:(10:Nat)^9=1000000000:=(by decide);omega
   rw [ht];have Fq:(0:Int)<=(j:Int):=(by omega);have hle:(s.size:Int)<=(j:Int):=(by have:=HS.out;omega);clear ht BK hlt;go_wp2;go_ret3;exact⟨by first|rfl|simp,rfl⟩
theorem AmF(s:ByteArray)(m m2:Bs)(hm:Seg s 0 m)(FR:Seg s (0+m.length+1) m2)(hs:s.size=0+m.length+1+m2.length)(h2:0<m2.length)(hq:∃h:0+m.length<s.size,s[0+m.length]=47)(hmax:s.size<=9)(h0:0<m.length)(w:World) :
  Calls Tryz.prog 40 #[.string s] w (fun e w'=>e=.returned (.tuple #[.int .i64 ((val m:Int)),.int .i64 (val m2:Nat),.bool true])/\w=w'):=by
 have hp:(0:Int)<(s.size:Int):=(by omega);have Ur:(s.size:Int)<=9:=(by omega);obtain⟨c0,-,hs0,e0,d0,d1,-⟩:=hm.digitB hmax (j:=0) (by omega) (by omega);have hc:((c0.toNat:Int) == 45)=false:=(by rw [beq_eq_false_iff_ne];omega);clear d0 d1;have HS:=Asb hs;clear hs;go_enter Tryz.func40,Tryz.ntmps40;go_wp2;clear hc e0 hp
 go_loop [2,5] (fun n i=>∃j:Nat,0<=j/\j<=0+m.length/\i=.int .i64 (j:Nat)/\n=.int .i64 (val (m.take (j-0)):Nat)) (fun _ i=>s.size-(intOf i).toNat)
 case atStart=>exact⟨0,by omega,by omega,rfl,by simp [G1]⟩
 case round=>
  obtain⟨j,hj0,DD,rfl,rfl⟩:=hrel;have Ph:j<=s.size:=(by have:=HS.out;omega);by_cases hlt:j<0+m.length
  ·obtain⟨c,v,CS,e,d1,d2,CY,hv,Et,hn⟩:=hm.digitB hmax hj0 hlt;have Hj:(j:Int)<(s.size:Int):=(by omega);have Fq:(0:Int)<=(j:Int):=(by omega);rw [←hv];have HN:=Asb hn;clear hv hn;go_wp2
   go_round
   case rel=>exact⟨j+1,by omega,by omega,by go_num,by rw [HN.out]⟩
   case measure=>simp [intOf];omega
  ·have BK:j=0+m.length:=(by omega);have ht:m.take (j-0)=m:=by rw [BK];simp
   have Et:((val m:Nat):Int)<=999999999:=by have h1:=GU hm.all;have h2:10^m.length<=10^9:=Nat.pow_le_pow_right (by omega) (by have:=HS.out;omega);have h3:(10:Nat)^9=1000000000:=(by decide);omega
   rw [ht];have Fq:(0:Int)<=(j:Int):=(by omega);have CS:j<s.size:=(by have:=HS.out;omega);have Hj:(j:Int)<(s.size:Int):=(by omega);obtain⟨c,hc⟩:=AcG (47:UInt8);have e:s[j]=c:=(by rw [hc];obtain⟨_,e⟩:=hq;simp only [BK];exact e);have CY:((c.toNat:Int) != 47)=false:=(by rw [hc];rfl);have hsz:s.size=j+1+m2.length:=(by have:=HS.out;omega);have Gc:=Asb hsz;rw [←BK]at FR;clear ht BK hlt hc hsz;go_wp2;clear CY e
   go_loop [3,5] (fun n i=>∃k:Nat,j+1<=k/\k<=j+1+m2.length/\i=.int .i64 (k:Nat)/\n=.int .i64 (val (m2.take (k-(j+1))):Nat)) (fun _ i=>s.size-(intOf i).toNat)
   case atStart=>exact⟨j+1,by omega,by omega,by go_num,by simp [G1]⟩
   case round=>
    obtain⟨k,hk0,Bv,rfl,rfl⟩:=hrel;have jW:k<=s.size:=(by have:=Gc.out;omega);by_cases hlt2:k<j+1+m2.length
    ·obtain⟨c,v,QP,e,d1,d2,CY,hv,lM,hn⟩:=FR.digitB hmax hk0 hlt2;have Uo:(k:Int)<(s.size:Int):=(by omega);have Uh:(0:Int)<=(k:Int):=(by omega);rw [←hv];have HN:=Asb hn;clear hv hn CY;go_wp2
     go_round
     case rel=>exact⟨k+1,by omega,by omega,by go_num,by rw [HN.out]⟩
     case measure=>simp [intOf];omega
    ·have Ka:k=j+1+m2.length:=(by omega);have Kg:m2.take (k-(j+1))=m2:=(by rw [Ka];simp);have hle:(s.size:Int)<=(k:Int):=(by have:=Gc.out;omega);rw [Kg];clear Kg Ka hlt2;go_wp2;go_ret3;exact⟨by first|rfl|simp,rfl⟩
theorem AmI(s:ByteArray)(m:Bs)(hm:Seg s 1 m)(hs:s.size=1+m.length)(hmax:s.size<=9)(h0:0<m.length)(hc:∃(h:0<s.size),s[0]=45)(w:World) :
  Calls Tryz.prog 40 #[.string s] w (fun e w'=>e=.returned (.tuple #[.int .i64 (-(val m:Int)),.int .i64 1,.bool true])/\w=w'):=by
 have hp:(0:Int)<(s.size:Int):=(by omega);have Ur:(s.size:Int)<=9:=(by omega);obtain⟨hs0,e0⟩:=hc;obtain⟨c0,hc0⟩:=AcG (45:UInt8);rw [←hc0]at e0;have hc:((c0.toNat:Int) == 45)=true:=(by rw [hc0];rfl);clear hc0;have HS:=Asb hs;clear hs;go_enter Tryz.func40,Tryz.ntmps40;go_wp2;clear hc e0 hp
 go_loop [2,5] (fun n i=>∃j:Nat,1<=j/\j<=1+m.length/\i=.int .i64 (j:Nat)/\n=.int .i64 (val (m.take (j-1)):Nat)) (fun _ i=>s.size-(intOf i).toNat)
 case atStart=>exact⟨1,by omega,by omega,rfl,by simp [G1]⟩
 case round=>
  obtain⟨j,hj0,DD,rfl,rfl⟩:=hrel;have Ph:j<=s.size:=(by have:=HS.out;omega);by_cases hlt:j<1+m.length
  ·obtain⟨c,v,CS,e,d1,d2,CY,hv,Et,hn⟩:=hm.digitB hmax hj0 hlt;have Hj:(j:Int)<(s.size:Int):=(by omega);have Fq:(0:Int)<=(j:Int):=(by omega);rw [←hv];have HN:=Asb hn;clear hv hn;go_wp2
   go_round
   case rel=>exact⟨j+1,by omega,by omega,by go_num,by rw [HN.out]⟩
   case measure=>simp [intOf];omega
  ·have BK:j=1+m.length:=(by omega);have ht:m.take (j-1)=m:=by rw [BK];simp
   have Et:((val m:Nat):Int)<=999999999:=by have h1:=GU hm.all;have h2:10^m.length<=10^9:=Nat.pow_le_pow_right (by omega) (by have:=HS.out;omega);have h3:(10:Nat)^9=1000000000:=(by decide);omega
   rw [ht];have Fq:(0:Int)<=(j:Int):=(by omega);have hle:(s.size:Int)<=(j:Int):=(by have:=HS.out;omega);clear ht BK hlt;go_wp2;go_ret3;exact⟨by first|rfl|simp,rfl⟩
theorem AmG(s:ByteArray)(m m2:Bs)(hm:Seg s 1 m)(FR:Seg s (1+m.length+1) m2)(hs:s.size=1+m.length+1+m2.length)(h2:0<m2.length)(hq:∃h:1+m.length<s.size,s[1+m.length]=47)(hmax:s.size<=9)(h0:0<m.length)(hc:∃(h:0<s.size),s[0]=45)(w:World) :
  Calls Tryz.prog 40 #[.string s] w (fun e w'=>e=.returned (.tuple #[.int .i64 (-(val m:Int)),.int .i64 (val m2:Nat),.bool true])/\w=w'):=by
 have hp:(0:Int)<(s.size:Int):=(by omega);have Ur:(s.size:Int)<=9:=(by omega);obtain⟨hs0,e0⟩:=hc;obtain⟨c0,hc0⟩:=AcG (45:UInt8);rw [←hc0]at e0;have hc:((c0.toNat:Int) == 45)=true:=(by rw [hc0];rfl);clear hc0;have HS:=Asb hs;clear hs;go_enter Tryz.func40,Tryz.ntmps40;go_wp2;clear hc e0 hp
 go_loop [2,5] (fun n i=>∃j:Nat,1<=j/\j<=1+m.length/\i=.int .i64 (j:Nat)/\n=.int .i64 (val (m.take (j-1)):Nat)) (fun _ i=>s.size-(intOf i).toNat)
 case atStart=>exact⟨1,by omega,by omega,rfl,by simp [G1]⟩
 case round=>
  obtain⟨j,hj0,DD,rfl,rfl⟩:=hrel;have Ph:j<=s.size:=(by have:=HS.out;omega);by_cases hlt:j<1+m.length
  ·obtain⟨c,v,CS,e,d1,d2,CY,hv,Et,hn⟩:=hm.digitB hmax hj0 hlt;have Hj:(j:Int)<(s.size:Int):=(by omega);have Fq:(0:Int)<=(j:Int):=(by omega);rw [←hv];have HN:=Asb hn;clear hv hn;go_wp2
   go_round
   case rel=>exact⟨j+1,by omega,by omega,by go_num,by rw [HN.out]⟩
   case measure=>simp [intOf];omega
  ·have BK:j=1+m.length:=(by omega);have ht:m.take (j-1)=m:=by rw [BK];simp
   have Et:((val m:Nat):Int)<=999999999:=by have h1:=GU hm.all;have h2:10^m.length<=10^9:=Nat.pow_le_pow_right (by omega) (by have:=HS.out;omega);have h3:(10:Nat)^9=1000000000:=(by decide);omega
   rw [ht];have Fq:(0:Int)<=(j:Int):=(by omega);have CS:j<s.size:=(by have:=HS.out;omega);have Hj:(j:Int)<(s.size:Int):=(by omega);obtain⟨c,hc⟩:=AcG (47:UInt8);have e:s[j]=c:=(by rw [hc];obtain⟨_,e⟩:=hq;simp only [BK];exact e);have CY:((c.toNat:Int) != 47)=false:=(by rw [hc];rfl);have hsz:s.size=j+1+m2.length:=(by have:=HS.out;omega);have Gc:=Asb hsz;rw [←BK]at FR;clear ht BK hlt hc hsz;go_wp2;clear CY e
   go_loop [3,5] (fun n i=>∃k:Nat,j+1<=k/\k<=j+1+m2.length/\i=.int .i64 (k:Nat)/\n=.int .i64 (val (m2.take (k-(j+1))):Nat)) (fun _ i=>s.size-(intOf i).toNat)
   case atStart=>exact⟨j+1,by omega,by omega,by go_num,by simp [G1]⟩
   case round=>
    obtain⟨k,hk0,Bv,rfl,rfl⟩:=hrel;have jW:k<=s.size:=(by have:=Gc.out;omega);by_cases hlt2:k<j+1+m2.length
    ·obtain⟨c,v,QP,e,d1,d2,CY,hv,lM,hn⟩:=FR.digitB hmax hk0 hlt2;have Uo:(k:Int)<(s.size:Int):=(by omega);have Uh:(0:Int)<=(k:Int):=(by omega);rw [←hv];have HN:=Asb hn;clear hv hn CY;go_wp2
     go_round
     case rel=>exact⟨k+1,by omega,by omega,by go_num,by rw [HN.out]⟩
     case measure=>simp [intOf];omega
    ·have Ka:k=j+1+m2.length:=(by omega);have Kg:m2.take (k-(j+1))=m2:=(by rw [Ka];simp);have hle:(s.size:Int)<=(k:Int):=(by have:=Gc.out;omega);rw [Kg];clear Kg Ka hlt2;go_wp2;go_ret3;exact⟨by first|rfl|simp,rfl⟩
theorem Vu(q:Rat)(hl:(R q).length<=9)(w:World):Calls Tryz.prog 40 #[S (R q)] w (fun e w'=>e=.returned (.tuple #[.int .i64 q.num,.int .i64 q.den,.bool true])/\w=w'):=by
 have hp:=Ly q.num.natAbs;have Ju:=Ly q.den;have e1:((val (D q.num.natAbs):Nat):Int)=q.num.natAbs:=(by rw [F3]);by_cases hd:q.den=1
 ·rw [MR hd]at hl ⊢;by_cases hn:q.num<0
  ·rw [MI.1 hn]at hl ⊢;have h:=IQ [45] (D q.num.natAbs) [] (C7 _);simp only [List.append_nil,List.singleton_append,List.length_singleton]at h;have r:=AmI _ _ h (by rw [CN];simp;omega) (by rw [CN];exact hl) hp ⟨by rw [CN];simp,rfl⟩ w;rw [e1,show -(q.num.natAbs:Int)=q.num by omega]at r;rw [hd];exact r
  ·rw [MI.2 hn]at hl ⊢;have h:=IQ [] (D q.num.natAbs) [] (C7 _);simp only [List.append_nil,List.nil_append,List.length_nil]at h;have r:=AmH _ _ h (by rw [CN];simp) (by rw [CN];exact hl) hp w;rw [e1,show (q.num.natAbs:Int)=q.num by omega]at r;rw [hd];exact r
 ·rw [O1 hd]at hl ⊢;have e2:((val (D q.den):Nat):Int)=q.den:=(by rw [F3]);by_cases hn:q.num<0
  ·rw [MI.1 hn]at hl ⊢;have h:=IQ [45] (D q.num.natAbs) (47::D q.den) (C7 _);have h2:=IQ (45::D q.num.natAbs ++ [47]) (D q.den) [] (C7 _);simp only [List.append_nil,List.length_singleton,List.append_assoc,List.cons_append,List.nil_append]at h h2;rw [show (45::(D q.num.natAbs ++ [47])).length=1+(D q.num.natAbs).length+1 by simp;omega]at h2;have r:=AmG _ _ _ h h2 (by rw [CN];simp;omega) Ju ⟨by rw [CN];simp;omega,by rw [O7];simp [List.getD,Nat.add_comm 1]⟩ (by rw [CN];exact hl) hp ⟨by rw [CN];simp,rfl⟩ w;rw [e1,e2,show -(q.num.natAbs:Int)=q.num by omega]at r;exact r
  ·rw [MI.2 hn]at hl ⊢;have h:=IQ [] (D q.num.natAbs) (47::D q.den) (C7 _);have h2:=IQ (D q.num.natAbs ++ [47]) (D q.den) [] (C7 _);simp only [List.append_nil,List.nil_append,List.length_nil,List.append_assoc,List.cons_append]at h h2;rw [show List.length (D q.num.natAbs ++ [(47:UInt8)])=0+(D q.num.natAbs).length+1 by simp]at h2;have r:=AmF _ _ _ h h2 (by rw [CN];simp;omega) Ju ⟨by rw [CN];simp,by rw [O7];simp [List.getD]⟩ (by rw [CN];exact hl) hp w;rw [e1,e2,show (q.num.natAbs:Int)=q.num by omega]at r;exact r
theorem Wt{q:Rat}{k:Nat}(h:(R q).length<=k):q.num.natAbs<10^k/\q.den<10^k∨k=0:=by
 by_cases hk:k=0
 ·exact .inr hk
 ·left
  by_cases hd:q.den=1
  ·rw [MR hd]at h;exact⟨Ko h,by rw [hd];exact Nat.one_lt_pow hk (by omega)⟩
  ·rw [O1 hd,List.length_append,List.length_cons]at h;exact⟨Ko (by omega),J1 (by omega)⟩
theorem nZ(p q:Rat)(h1:(R p).length<=9)(h2:(R q).length<=9)(w:World)(hw:Ai w):Calls Tryz.prog 12 #[S (R p),S (R q)] w (A0 (R (p+q)) w):=by
 have q1:=Vu p h1;have q2:=Vu q h2;have e9:(10:Nat)^9=1000000000:=(by decide);obtain⟨s1,s2⟩:=(Wt h1).resolve_right (by omega);obtain⟨s3,s4⟩:=(Wt h2).resolve_right (by omega);rw [e9]at s1 s2 s3 s4;have w1:=IU (x:=p.num) (y:=(q.den:Int)) s1 (by rw [Ash];exact s4);have w2:=IU (x:=q.num) (y:=(p.den:Int)) s3 (by rw [Ash];exact s2);have w3:=IU (x:=(p.den:Int)) (y:=(q.den:Int)) (by rw [Ash];exact s2) (by rw [Ash];exact s4);have b1:=K1 (x:=p.num) (y:=(q.den:Int)) s1 (by rw [Ash];exact s4);have b2:=K1 (x:=q.num) (y:=(p.den:Int)) s3 (by rw [Ash];exact s2);have b3:=K1 (x:=(p.den:Int)) (y:=(q.den:Int)) (by rw [Ash];exact s2) (by rw [Ash];exact s4);have w4:IntKind.i64.wrap (p.num*(q.den:Int)+q.num*(p.den:Int))=p.num*(q.den:Int)+q.num*(p.den:Int):=Asm _ (by omega);have sm:=Aa9 (p.num*(q.den:Int)+q.num*(p.den:Int)) (p.den*q.den) (Nat.mul_pos p.den_pos q.den_pos) (by omega) (by omega) (by rw [←Int.natCast_mul,Ash]at b3;omega);rw [Int.natCast_mul,←Rat.add_def']at sm;clear b1 b2 b3 h1 h2 e9 s1 s2 s3 s4;go_enter Tryz.func12,Tryz.ntmps12;(go_wp2_with fail);(with_reducible refine(q1 _).mono ?_);rintro e w1 ⟨rfl,rfl⟩;(go_wp2_with fail);(with_reducible refine(q2 _).mono ?_);rintro e w2 ⟨rfl,rfl⟩;(go_wp2_with fail);(with_reducible refine(sm _ hw).mono ?_);rintro e w3 ⟨rfl,hx3⟩;go_wp2;go_ret;exact⟨rfl,hx3⟩
end Go.Proofs.YtdaefncphfeaeaaGreatDoor
