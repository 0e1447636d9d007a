/- U16: ShF1 ShF2 ShF3 ShF4 ShH1 ShH2 ShH3 ShH4 ShS1 ShS2 ShRg ShS3 ShS4 ShS5. -/
import Derived.Test.YtbejphgbbpplbaaGreatDoorU12
import Derived.Test.YtbejphgbbpplbaaGreatDoorU14
set_option maxRecDepth 100000
set_option maxHeartbeats 16000000
namespace Go.Proofs.YtbejphgbbpplbaaGreatDoor
open Go.RowKit Kl
theorem Aan(z:Int)(h0:-9223372036854775808<=z)(h1:z<=9223372036854775807)(w:World)(hw:Al w):Calls Tryz.prog 39 #[.int .i64 z] w (BK (I z) w):=by
 have hi:=Rc z h0 h1 w hw;clear h0 h1;go_enter Tryz.func39,Tryz.ntmps39;(go_wp2_with fail);(with_reducible refine hi.mono ?_);rintro e w1 ⟨rfl,hx1⟩;go_wp2;go_ret;exact⟨rfl,hx1⟩
structure Low(n:Int)(d g:Nat)(n':Int)(d':Nat):Prop where
 R:R (mkRat n d)=Fu n' d'
 e1:n.tdiv (g:Int)=n'
 e2:(d:Int)/(g:Int)=(d':Int)
 g0:0<g
 gd:g<=d
 b1:n'.natAbs<=n.natAbs
 b2:d'<=d
theorem Ak3(n:Int){d:Nat}(hd:0<d):∃n' d',Low n d (Nat.gcd n.natAbs d) n' d':=by
 have hgn:((Nat.gcd n.natAbs d:Nat):Int)∣n:=Int.natAbs_dvd_natAbs.1 (by rw [Asb];exact Nat.gcd_dvd_left ..);refine⟨n/(Nat.gcd n.natAbs d:Nat),d/Nat.gcd n.natAbs d,rI n hd,Int.tdiv_eq_ediv_of_dvd hgn,by simp,Nat.gcd_pos_of_pos_right _ hd,Nat.gcd_le_right _ hd,lR _ _ hgn,Nat.div_le_self _ _⟩
theorem AmY(n:Int)(d:Nat)(hd:0<d)(OW:-9000000000000000000<=n)(D1:n<=9000000000000000000)(GN:d<=9000000000000000000)(w:World)(hw:Al w) :
  Calls Tryz.prog 89 #[S (I n),S (I (d:Int))] w (BK (R (mkRat n d)) w):=by
 obtain⟨n',d',Ub⟩:=Ak3 n hd;obtain⟨g,hg⟩:=ArV (Nat.gcd n.natAbs d);rw [←hg]at Ub;obtain⟨hR,e1,e2,hg0,hgd,b1,b2⟩:=Ub;have ln:(I n').length<=20:=Oj (z:=n') (k:=19) (by omega) (by omega);have ld:(D d').length<=19:=Io (by omega) (by omega);have Ou:=aI n (by omega) (by omega);have at2:=aI (d:Int) (by omega) (by omega);have HR:=ArW hR;have HG:=ArW hg;have H1:=ArW e1;have H2:=ArW e2;have i1:=fun W hW=>Rc n' (by omega) (by omega) W hW;have i2:=fun W hW=>Rc (d':Int) (by omega) (by omega) W hW;rw [FM]at i2;obtain⟨na,ju⟩:=ArV (n.natAbs:Nat);have Ai7:na<=9000000000000000000:=(by omega);have Z7:=ArW ju;clear hR hg e1 e2 ju;by_cases LI:n<0
 case' pos=>have Ai8:-n=(na:Int):=(by have:=Z7.out;omega);go_enter Tryz.func89,Tryz.ntmps89;(go_wp2_with fail);(with_reducible refine(Ou _).mono ?_);rintro e w1 ⟨rfl,hx⟩;(go_wp2_with fail);(with_reducible refine(at2 _).mono ?_);rintro e w2 ⟨rfl,hx2⟩;have hE:=hx.trans hx2;go_wp2;clear Ai8
 case' neg=>obtain⟨m,hm⟩:=Int.eq_ofNat_of_zero_le (show 0<=n by omega);obtain rfl:m=na:=(by have:=Z7.out;omega);subst hm;go_enter Tryz.func89,Tryz.ntmps89;(go_wp2_with fail);(with_reducible refine(Ou _).mono ?_);rintro e w1 ⟨rfl,hx⟩;(go_wp2_with fail);(with_reducible refine(at2 _).mono ?_);rintro e w2 ⟨rfl,hx2⟩;have hE:=hx.trans hx2;go_wp2
 all_goals
  clear Ou at2 hx hx2
  go_loopw [9,10] (fun x y wr=>∃a b:Nat,x=.int .i64 (a:Nat)/\y=.int .i64 (b:Nat)/\Nat.gcd a b=g/\a<=9000000000000000000/\b<=9000000000000000000/\Aa w wr) (fun _ y _=>(intOf y).natAbs)
  case atStart=>exact⟨_,d,rfl,rfl,by rw [HG.out,←Z7.out],Ai7,GN,hE⟩
  case round=>
   obtain⟨a,b,rfl,rfl,GQ,ha,hb,Ad⟩:=hrel;by_cases hb0:b=0
   ·subst hb0;obtain rfl:a=g:=(by rw [←GQ];simp);clear GQ;have e1:=H1.out;have e2:=H2.out;have Ny:(0:Int)<(a:Int):=(by omega);have hgz:((a:Int) == 0)=false:=(by rw [beq_eq_false_iff_ne];omega);by_cases Fe:d'=1
    ·subst Fe;have HF:Hid (R (mkRat _ d)=I n'):=ArW (by rw [HR.out];rfl);(go_wp2_with fail)
     go_quiet (fail)
     (go_wp2_with fail);(with_reducible refine(i1 _ (hw.ext (Ad.drewN _))).mono ?_);rintro e w3 ⟨rfl,hx3⟩;go_wp2;go_ret;exact⟨Hh (by rw [HF.out]),(Ad.drewN _).trans hx3⟩
    ·have HF:Hid (R (mkRat _ d)=I n'++47::D d'):=ArW (by rw [HR.out];exact if_neg Fe);have gi:((d':Int) == 1)=false:=(by rw [beq_eq_false_iff_ne];omega);clear Fe;(go_wp2_with fail)
     go_quiet (fail)
     (go_wp2_with fail);(with_reducible refine(i1 _ (hw.ext (Ad.drewN _))).mono ?_);rintro e w3 ⟨rfl,hx3⟩;have hx3:=(Ad.drewN _).trans hx3;(go_wp2_with fail);(with_reducible refine(i2 _ (hw.ext hx3)).mono ?_);rintro e w4 ⟨rfl,Aj⟩;go_wp2;go_ret;exact⟨Hh (by rw [HF.out];apply ByteArray.ext;simp),hx3.trans Aj⟩
   ·have hlt:a%b<b:=Nat.mod_lt _ (by omega);have Nq:((b:Int) != 0)=true:=(by rw [bne_iff_ne];omega);have Dy:((b:Int) == 0)=false:=(by rw [beq_eq_false_iff_ne];omega);have AK:(0:Int)<(b:Int):=(by omega);have M5:Hid (Nat.gcd b (a%b)=g):=ArW (by rw [←GQ,Nat.gcd_comm b,←Nat.gcd_rec,Nat.gcd_comm]);clear GQ;(go_wp2_with fail)
    go_quiet (fail)
    go_wp2;go_roundw
    case rel=>exact⟨b,a%b,rfl,by go_num,M5.out,hb,by omega,Ad.drewN _⟩
    case measure=>simp [intOf];omega
theorem AmX(n:Int)(d:Nat)(hd:0<d)(l1:(I n).length<=9)(l2:(I (d:Int)).length<=9)(w:World)(hw:Al w) :
  Calls Tryz.prog 38 #[S (I n),S (I (d:Int))] w (BK (R (mkRat n d)) w):=by
 have b1:=YP l1;have b2:=YP l2;have e9:(10:Nat)^9=1000000000:=(by decide);rw [e9]at b1 b2;have sm:=AmY n d hd (by omega) (by omega) (by omega);have i1:decide (((I n).length:Int)<=9)=true:=(by rw [decide_eq_true_eq];omega);have i2:decide (((I (d:Int)).length:Int)<=9)=true:=(by rw [decide_eq_true_eq];omega);have l1':((I n).length:Int)<=9:=(by omega);have l2':((I (d:Int)).length:Int)<=9:=(by omega);clear b1 b2 e9 hd l1 l2;go_enter Tryz.func38,Tryz.ntmps38;(go_wp2_with fail);(with_reducible refine(sm _ hw).mono ?_);rintro e w3 ⟨rfl,hx3⟩;go_wp2;go_ret;exact⟨rfl,hx3⟩
theorem Aao(n:Int)(d:Nat)(hd:0<d)(h1:n.natAbs<10000000)(h2:d<10000000)(w:World)(hw:Al w) :
  Calls Tryz.prog 9 #[.int .i64 n,.int .i64 (d:Nat)] w (BK (R (mkRat n d)) w):=by
 have e7:(10:Nat)^7=10000000:=(by decide);have l1:(I n).length<=9:=Asl (Oj (k:=7) (by omega) (by omega)) (by omega);have l2:(I (d:Int)).length<=9:=Asl (Oj (z:=(d:Int)) (k:=7) (by omega) (by rw [Asb];omega)) (by omega);have o1:=Aan n (by omega) (by omega);have o2:=Aan (d:Int) (by omega) (by omega);have fr:=AmX n d hd l1 l2;clear e7 l1 l2 hd h1 h2;go_enter Tryz.func9,Tryz.ntmps9;(go_wp2_with fail);(with_reducible refine(o1 _ hw).mono ?_);rintro e w1 ⟨rfl,hx⟩;(go_wp2_with fail);(with_reducible refine(o2 _ (hw.ext hx)).mono ?_);rintro e w2 ⟨rfl,hx2⟩;replace hx:=hx.trans hx2;(go_wp2_with fail);(with_reducible refine(fr _ (hw.ext hx)).mono ?_);rintro e w3 ⟨rfl,hx3⟩;go_wp2;go_ret;exact⟨rfl,hx.trans hx3⟩
theorem vh(x:Int):mkRat x 1=(x:Rat):=by
 apply Rat.ext
 ·rw [Rat.num_mkRat];simp
 ·rw [Rat.den_mkRat];simp
structure Fr where
 a:Int
 b:Int
 s:Int
 t:Int
 u:Int
 v:Int
structure Fr.Ok(f:Fr):Prop where
 a1:-128<=f.a
 a2:f.a<=127
 b1:-128<=f.b
 b2:f.b<=127
 s1:0<=f.s
 s2:f.s<=255
 t1:0<=f.t
 t2:f.t<=255
 u1:0<=f.u
 u2:f.u<=255
 v1:0<=f.v
 v2:f.v<=255
def Ai(a b c:Pt):Rat:=(b.x-a.x)*(c.y-a.y)-(b.y-a.y)*(c.x-a.x)
theorem sU(a b c:Pt){k:Nat}(ha:Aq k a)(hb:Aq k b)(hc:Aq k c)(hk:0<k)(hk2:k<=1)(w:World)(hw:Al w) :
  Calls Tryz.prog 176 #[Af a,Af b,Af c] w (BK (R (Ai a b c)) w):=by
 have s1:=EK b.x a.x (a:=k) (b:=k) ⟨hb.x,ha.x,hk,hk,by omega⟩;have s2:=EK b.y a.y (a:=k) (b:=k) ⟨hb.y,ha.y,hk,hk,by omega⟩;have s3:=EK c.x a.x (a:=k) (b:=k) ⟨hc.x,ha.x,hk,hk,by omega⟩;have s4:=EK c.y a.y (a:=k) (b:=k) ⟨hc.y,ha.y,hk,hk,by omega⟩;have m1:=Mh (b.x-a.x) (c.y-a.y) (a:=k+k+1) (b:=k+k+1) ⟨hb.x.sub ha.x,hc.y.sub ha.y,by omega,by omega,by omega⟩;have m2:=Mh (b.y-a.y) (c.x-a.x) (a:=k+k+1) (b:=k+k+1) ⟨hb.y.sub ha.y,hc.x.sub ha.x,by omega,by omega,by omega⟩;have sb:=EK ((b.x-a.x)*(c.y-a.y)) ((b.y-a.y)*(c.x-a.x)) (a:=k+k+1+(k+k+1)) (b:=k+k+1+(k+k+1)) ⟨(hb.x.sub ha.x).mul (hc.y.sub ha.y),(hb.y.sub ha.y).mul (hc.x.sub ha.x),by omega,by omega,by omega⟩;have e:Ai a b c=(b.x-a.x)*(c.y-a.y)-(b.y-a.y)*(c.x-a.x):=rfl;rw [←e]at sb;obtain⟨r,hr⟩:=ArV (Ai a b c);rw [←hr]at sb ⊢;unfold Af;clear ha hb hc e hr;go_enter Tryz.func176,Tryz.ntmps176;(go_wp2_with fail);obtain⟨W,hW,hE,hb1,hb2,hb3⟩:=Je w (.cells #[S (R a.x),S (R a.y)] 94) (.cells #[S (R b.x),S (R b.y)] 94) (.cells #[S (R c.x),S (R c.y)] 94);rw [←hW];clear hW;have hA:JI W w.heap.size a:=⟨Ab hb1 rfl,Ab hb1 rfl⟩;have hB:JI W (w.heap.size+1) b:=⟨Ab hb2 rfl,Ab hb2 rfl⟩;have hC:JI W (w.heap.size+1+1) c:=⟨Ab hb3 rfl,Ab hb3 rfl⟩;clear hb1 hb2 hb3;have H6:=(Aa.refl W).drew;have FW:=hE.drew;obtain⟨k1,k2⟩:=hA;obtain⟨k3,k4⟩:=hB;have hA:=JI.mk k1 k2;have hB:=JI.mk k3 k4
 go_region_held3 (fun w'=>w'.cell? ⟨w.heap.size,0,none⟩=some (S (R a.x))/\w'.cell? ⟨w.heap.size,1,none⟩=some (S (R a.y))/\w'.cell? ⟨w.heap.size+1,0,none⟩=some (S (R b.x))/\w'.cell? ⟨w.heap.size+1,1,none⟩=some (S (R b.y)))
  (go_keep)
  (first|((with_reducible refine(s1 _ (hw.ext FW)).mono ?_);rintro e w1 ⟨rfl,hx1⟩;obtain⟨q1,q2⟩:=hA.ext (H6.trans hx1);obtain⟨q3,q4⟩:=hB.ext (H6.trans hx1))|((with_reducible refine(s2 _ (hw.ext (FW.trans hx1))).mono ?_);rintro e w2 ⟨rfl,hx2⟩;obtain⟨t1,t2⟩:=hA.ext (H6.trans (hx1.trans hx2));obtain⟨t3,t4⟩:=hB.ext (H6.trans (hx1.trans hx2))))
 have hV:=H6.trans (hx1.trans hx2);replace hE:=hE.trans hV;replace hA:=hA.ext hV;replace hC:=hC.ext hV;clear H6 FW hx1 hx2 k1 k2 k3 k4 q1 q2 q3 q4 t1 t2 t3 t4 hV hB s1 s2;have H6:=(Aa.refl w2).drew;have FW:=hE.drew;obtain⟨k1,k2⟩:=hA;obtain⟨k3,k4⟩:=hC;have hA:=JI.mk k1 k2;have hC:=JI.mk k3 k4;(go_wp2_with fail)
 go_region_held3 (fun w'=>w'.cell? ⟨w.heap.size,0,none⟩=some (S (R a.x))/\w'.cell? ⟨w.heap.size,1,none⟩=some (S (R a.y))/\w'.cell? ⟨w.heap.size+1+1,0,none⟩=some (S (R c.x))/\w'.cell? ⟨w.heap.size+1+1,1,none⟩=some (S (R c.y)))
  (go_keep)
  (first|((with_reducible refine(s3 _ (hw.ext FW)).mono ?_);rintro e w3 ⟨rfl,hx1⟩;obtain⟨q1,q2⟩:=hA.ext (H6.trans hx1);obtain⟨q3,q4⟩:=hC.ext (H6.trans hx1))|((with_reducible refine(s4 _ (hw.ext (FW.trans hx1))).mono ?_);rintro e w4 ⟨rfl,hx2⟩;obtain⟨t1,t2⟩:=hA.ext (H6.trans (hx1.trans hx2));obtain⟨t3,t4⟩:=hC.ext (H6.trans (hx1.trans hx2))))
 replace hE:=hE.trans (H6.trans (hx1.trans hx2));clear hA hC H6 FW hx1 hx2 k1 k2 k3 k4 q1 q2 q3 q4 t1 t2 t3 t4 s3 s4;(go_wp2_with fail);(with_reducible refine(m1 _ (hw.ext hE)).mono ?_);rintro e w5 ⟨rfl,hx⟩;replace hE:=hE.trans hx;(go_wp2_with fail);(with_reducible refine(m2 _ (hw.ext hE)).mono ?_);rintro e w6 ⟨rfl,hx2⟩;replace hE:=hE.trans hx2;(go_wp2_with fail);(with_reducible refine(sb _ (hw.ext hE)).mono ?_);rintro e w7 ⟨rfl,hx3⟩;replace hE:=hE.trans hx3;go_wp2;go_ret;exact⟨rfl,hE⟩
theorem AoR(a b c:Pt){k:Nat}(ha:Aq k a)(hb:Aq k b)(hc:Aq k c)(hk:0<k)(hk2:k<=1)(w:World)(hw:Al w) :
  Calls Tryz.prog 170 #[Af a,Af b,Af c] w (Av (AI (Ai a b c)) w):=by
 have ar:=sU a b c ha hb hc hk hk2;have sg:=Pv (Ai a b c);have hE:=(((Aa.refl w).alloc (.cells #[S (R a.x),S (R a.y)] 94)).alloc (.cells #[S (R b.x),S (R b.y)] 94)).alloc (.cells #[S (R c.x),S (R c.y)] 94);unfold Af at ar ⊢;clear ha hb hc;go_enter Tryz.func170,Tryz.ntmps170;(go_wp2_with fail);(with_reducible refine(ar _ (hw.ext hE)).mono ?_);rintro e w1 ⟨rfl,hx⟩;(go_wp2_with fail);(with_reducible refine(sg _).mono ?_);rintro e w2 ⟨rfl,hx2⟩;go_wp2;go_ret;exact⟨rfl,hE.trans (hx.trans hx2)⟩
def AX(a b:Pt):Int:=if AH a.x b.x≠0 then AH a.x b.x else AH a.y b.y
theorem Akt(a b:Pt){k:Nat}(ha:Aq k a)(hb:Aq k b)(hk:0<k)(hk2:k<=1)(w:World)(hw:Al w) :
  Calls Tryz.prog 171 #[Af a,Af b] w (Av (AX a b) w):=by
 have c1:=FB a.x b.x (a:=k) (b:=k) ⟨ha.x,hb.x,hk,hk,by omega⟩;have c2:=FB a.y b.y (a:=k) (b:=k) ⟨ha.y,hb.y,hk,hk,by omega⟩;have hE:=((Aa.refl w).alloc (.cells #[S (R a.x),S (R a.y)] 94)).alloc (.cells #[S (R b.x),S (R b.y)] 94);obtain⟨r,hr⟩:=ArV (AX a b);rw [←hr]
 have hA:(w.alloc (.cells #[S (R a.x),S (R a.y)] 94)).alloc (.cells #[S (R b.x),S (R b.y)] 94) |>.heap[w.heap.size]?=some (.cells #[S (R a.x),S (R a.y)] 94):=(Below.heap_alloc _ _ _ (by simp)).trans (ArY w _)
 have hB:=ArY (w.alloc (.cells #[S (R a.x),S (R a.y)] 94)) (.cells #[S (R b.x),S (R b.y)] 94);rw [Ash]at hB;obtain⟨x,hx0⟩:=ArV (AH a.x b.x)
 have LO:r=if x≠0 then x else AH a.y b.y:=by rw [hr,hx0];rfl
 rw [←hx0]at c1;unfold Af;clear ha hb hr hx0;by_cases h:x=0
 ·subst h;replace LO:r=AH a.y b.y:=(by rw [LO];rfl);simp only [←LO]at c2;clear LO;go_enter Tryz.func171,Tryz.ntmps171;(go_wp2_with fail);(with_reducible refine(c1 _ (hw.ext hE)).mono ?_);rintro e w1 ⟨rfl,hx⟩;replace hE:=hE.trans hx;replace hA:=(hx.block _ (ArX hA)).trans hA;replace hB:=(hx.block _ (ArX hB)).trans hB;have k1:=Ab (o:=1) hA rfl;have k2:=Ab (o:=1) hB rfl;(go_wp2_with fail);(with_reducible refine(c2 _ (hw.ext hE)).mono ?_);rintro e w2 ⟨rfl,hx2⟩;go_wp2;go_ret;exact⟨rfl,hE.trans hx2⟩
 ·replace LO:r=x:=(by rw [LO,if_pos h]);have hne:(x != 0)=true:=(by rw [bne_iff_ne];exact h);subst LO;clear c2 h;go_enter Tryz.func171,Tryz.ntmps171;(go_wp2_with fail);(with_reducible refine(c1 _ (hw.ext hE)).mono ?_);rintro e w1 ⟨rfl,hx⟩;go_wp2;go_ret;exact⟨rfl,hE.trans hx⟩
def Ak(l:List Pt):List (Bs×Bs):=l.map Me
theorem Ca{w:World}{A:Option Addr}{l:List Pt}(hr:Ae w A (flat (Ak l))){j:Nat}(h:j<l.length):∃b o,A=some ⟨b,o,none⟩/\w.cell? ⟨b,o+j*2,none⟩=some (S (R l[j].x))/\w.cell? ⟨b,o+j*2+1,none⟩=some (S (R l[j].y)):=by
 have hl:(Ak l).length=l.length:=(by simp [Ak]);obtain⟨b,o,e,hcs⟩:=hr.ad (by rw [flat_length];omega);obtain⟨f1,f2⟩:=flat_get (Ak l) j (by omega);have hg1:=hcs (j*2) (by rw [flat_length];omega);have hg2:=hcs (j*2+1) (by rw [flat_length];omega);rw [Asf (by rw [flat_length];omega),Ase]at f1 f2;rw [f1]at hg1;rw [f2,←Nat.add_assoc]at hg2;have e2:(Ak l)[j]'(by omega)=Me l[j]:=(by simp [Ak]);rw [e2]at hg1 hg2;exact⟨b,o,e,hg1,hg2⟩
structure Oq(l:List Pt):Prop where
 n3:3<=l.length
 n60:l.length<=60
 turn:∀(i n:Nat) (hi:i<l.length) (hn:n<l.length),n≠i→n≠(i+1)%l.length→0<Ai l[i] (l[(i+1)%l.length]'(Nat.mod_lt _ (by omega))) l[n]
 less:∀(n:Nat) (h:n+1<l.length),¬AX l[n+1] (l[0]'(by omega))<0
theorem mQ(l:List Pt)(hp:Oq l){k:Nat}(hz:∀p∈l,Aq k p)(hk:0<k)(hk2:k<=1)(A:Option Addr)(c:Nat)(w:World)(hw:Al w)(hr:Ae w A (flat (Ak l)))(hc:l.length<=c)(_:c<=9223372036854775807) :
  Calls Tryz.prog 101 #[.slice A l.length c] w (Av 0 w):=by
 obtain⟨h3,dD,hturn,jn⟩:=hp;have HT:=ArW hturn;have HL:=ArW jn;have HZ:=ArW hz;clear hturn jn hz;go_enter Tryz.func101,Tryz.ntmps101;go_wp2
 go_loopw [21] (fun i wr=>∃j:Nat,i=.int .i64 (j:Nat)/\j<=l.length/\Aa w wr) (fun i _=>l.length-(intOf i).toNat)
 case atStart=>exact⟨0,rfl,by omega,Aa.refl _⟩
 case round=>
  obtain⟨j,rfl,hj,Ad⟩:=hrel;by_cases hlt:j<l.length
  ·obtain⟨b,o,rfl,hg1,hg2⟩:=Ca (hr.ext Ad) hlt;have QZ:=HZ.out l[j] (Asa hlt);obtain⟨p,hp⟩:=ArV (l[j]);rw [←hp]at hg1 hg2 QZ;have hx1:=Ad.alloc (.cells #[S (R p.x),S (R p.y)] 94);have ck:=aW (R p.x) (R p.y) true (by simp only [true_iff];exact⟨Pp QZ.x hk (by omega),Pp QZ.y hk (by omega)⟩) (YX QZ.x hk (by omega)) (YX QZ.y hk (by omega)) _ (hw.ext hx1);rw [Jh]at ck;have hj0:(0:Int)<=(j:Int):=(by omega);have A7:(j:Int)<(l.length:Int):=(by omega);clear hp QZ;(go_wp2_with fail);(with_reducible refine ck.mono ?_);rintro e w2 ⟨rfl,hx2⟩;go_wp2;go_roundw
   case rel=>exact⟨j+1,by go_num,hlt,hx1.trans hx2⟩
   case measure=>simp [intOf];omega
  ·have hle:(l.length:Int)<=(j:Int):=(by omega);have hd:decide (j<l.length)=false:=(by simp [hlt]);have CO:decide ((j:Int)<(l.length:Int))=false:=(by simp;omega);clear hlt;go_wp2
   (try first|simp only [hd]|simp only [CO])
   clear hle hd CO
   go_loopw [33] (fun i wr=>∃i':Nat,i=.int .i64 (i':Nat)/\i'<=l.length/\Aa w wr) (fun i _=>l.length-(intOf i).toNat)
   case atStart=>exact⟨0,rfl,by omega,Ad⟩
   case round=>
    obtain⟨i,rfl,hi,TN⟩:=hrel;by_cases hlt:i<l.length
    ·obtain⟨b,o,rfl,hg1,hg2⟩:=Ca (hr.ext TN) hlt;obtain⟨kk,Bf⟩:=ArV ((i+1)%l.length);have CP:kk<l.length:=(by rw [Bf];exact Nat.mod_lt _ (by omega));have Ku:((i:Int)+1)%(l.length:Int)=(kk:Int):=(by rw [Bf];simp);obtain⟨pa,DK⟩:=ArV (l[i]);have QX:=HZ.out l[i] (Asa hlt);rw [←DK]at hg1 hg2 QX;have GR:(0:Int)<=(i:Int):=(by omega);have TR:(i:Int)<(l.length:Int):=(by omega);have hx1:=TN.alloc (.cells #[S (R pa.x),S (R pa.y)] 94);have Aw:=ArY wr (.cells #[S (R pa.x),S (R pa.y)] 94);have qC:=ArW Bf;have Vk:=ArW DK;clear Bf DK;go_wp2;rw [Ku];clear Ku hg1 hg2;generalize wr.alloc (.cells #[S (R pa.x),S (R pa.y)] 94)=V at *;obtain⟨ba,aw⟩:=ArV wr.heap.size;rw [←aw]at Aw ⊢;clear aw TN
     go_loopw [45] (fun i wr=>∃n:Nat,i=.int .i64 (n:Nat)/\n<=l.length/\Aa V wr) (fun i _=>l.length-(intOf i).toNat)
     case atStart=>exact⟨0,rfl,by omega,Aa.refl _⟩
     case round=>
      obtain⟨n,rfl,hn,Kt⟩:=hrel;by_cases LF:n<l.length
      ·obtain⟨_,_,e1,hg1,hg2⟩:=Ca (hr.ext (hx1.trans Kt)) LF;obtain⟨_,_,e2,hg3,hg4⟩:=Ca (hr.ext (hx1.trans Kt)) CP;simp only [Ase,Addr.mk.injEq,and_true]at e1 e2;obtain⟨rfl,rfl⟩:=e1;obtain⟨e2,e3⟩:=e2;subst e2 e3;obtain⟨px,Pa⟩:=ArV (l[n]);obtain⟨pk,LN⟩:=ArV (l[kk]);have Pi:=HZ.out l[n] (Asa LF);have kR:=HZ.out l[kk] (Asa CP);rw [←Pa]at hg1 hg2 Pi;rw [←LN]at hg3 hg4 kR;have HPX:=ArW Pa;have HPK:=ArW LN;clear Pa LN;have TA:=(Kt.block _ (ArX Aw)).trans Aw;have NC:=Kt.alloc (.cells #[S (R px.x),S (R px.y)] 94);have Ap:=ArY wr (.cells #[S (R px.x),S (R px.y)] 94);have Ef:(0:Int)<=(n:Int):=(by omega);have hnl:(n:Int)<(l.length:Int):=(by omega);have hk0:(0:Int)<=(kk:Int):=(by omega);have AqQ:(kk:Int)<(l.length:Int):=(by omega);have hxx:=(Aa.refl wr).alloc (.cells #[S (R px.x),S (R px.y)] 94);replace TA:=(hxx.block _ (ArX TA)).trans TA;have hg3':=hxx.cellS hg3;have iJ:=hxx.cellS hg4
       go_upto_region 19 with fail
       clear hg1 hg2 hg3 hg4;generalize wr.alloc (.cells #[S (R px.x),S (R px.y)] 94)=U at *;obtain⟨bx,Js⟩:=ArV wr.heap.size;rw [←Js]at Ap ⊢;clear Js hxx;by_cases GU:n=i
       ·have t1:((n:Int) != (i:Int))=false:=(by rw [GU];simp);clear GU
        go_quiet (fail)
        go_wp2;go_roundw
        case rel=>exact⟨n+1,by go_num,LF,NC.drewN _⟩
        case measure=>simp [intOf];omega
       ·have t1:((n:Int) != (i:Int))=true:=(by rw [bne_iff_ne];omega);have t1n:(n != i)=true:=(by rw [bne_iff_ne];exact GU);have t1e:(n == i)=false:=(by rw [beq_eq_false_iff_ne];exact GU);by_cases IE:n=kk
        ·have t2n:(n != kk)=false:=(by rw [IE];simp);have t2:((n:Int) != (kk:Int))=false:=(by rw [IE];simp);clear IE GU
         go_quiet (fail)
         go_wp2;go_roundw
         case rel=>exact⟨n+1,by go_num,LF,NC.drewN _⟩
         case measure=>simp [intOf];omega
        ·have t2:((n:Int) != (kk:Int))=true:=(by rw [bne_iff_ne];omega);have t2n:(n != kk)=true:=(by rw [bne_iff_ne];exact IE);have t2e:(n == kk)=false:=by rw [beq_eq_false_iff_ne];exact IE
         have zU:0<Ai pa pk px:=by have h:=HT.out i n hlt LF GU (by rw [←qC.out];exact IE);rw [Vk.out,HPK.out,HPX.out];simp only [qC.out];exact h
         have tn:=AoR pa pk px QX kR Pi hk (by omega);rw [nU zU]at tn;have c1:=Ab (o:=0) TA rfl;have c2:=Ab (o:=1) TA rfl;have c3:=Ab (o:=0) Ap rfl;have c4:=Ab (o:=1) Ap rfl;have hU:=hw.ext (hx1.trans NC);unfold Af at tn;clear Pi kR zU GU IE
         go_region_held3 (fun w'=>w'.cell? ⟨ba,0,none⟩=some (S (R pa.x))/\w'.cell? ⟨ba,1,none⟩=some (S (R pa.y))/\w'.cell? ⟨b,o+kk*2,none⟩=some (S (R pk.x))/\w'.cell? ⟨b,o+kk*2+1,none⟩=some (S (R pk.y))/\w'.cell? ⟨bx,0,none⟩=some (S (R px.x))/\w'.cell? ⟨bx,1,none⟩=some (S (R px.y)))
          (go_keep)
          (first|((with_reducible refine(tn _ (hU.ext (Aa.refl U).drew)).mono ?_);rintro e w5 ⟨rfl,Ax⟩;have X5:=(Aa.refl U).drew.trans Ax;have d1:=X5.cellS c1;have d2:=X5.cellS c2;have d3:=X5.cellS c3;have d4:=X5.cellS c4;have d5:=X5.cellS hg3';have d6:=X5.cellS iJ))
         go_wp2;go_roundw
         case rel=>exact⟨n+1,by go_num,LF,NC.trans X5⟩
         case measure=>simp [intOf];omega
      ·have hle:(l.length:Int)<=(n:Int):=(by omega);go_wp2;go_roundw
       case rel=>exact⟨i+1,by go_num,hlt,hx1.trans Kt⟩
       case measure=>simp [intOf];omega
    ·have hle:(l.length:Int)<=(i:Int):=(by omega);have hd:decide (i<l.length)=false:=(by simp [hlt]);have CO:decide ((i:Int)<(l.length:Int))=false:=(by simp;omega);have Ain:0<l.length:=(by omega);obtain⟨b,o,rfl,_,_⟩:=Ca (hr.ext TN) Ain;have Fe:(1:Int)<=(l.length:Int):=(by omega);have hlc:(l.length:Int)<=(c:Int):=(by omega);have hm1:(l.length:Int)-1=((l.length-1:Nat):Int):=(by omega);obtain⟨m,hme⟩:=ArV (l.length-1);rw [←hme]at hm1;have HM:=ArW hme;clear hme hlt;go_wp2;rw [←HM.out];clear hle hd CO hm1 Fe hlc
     go_loopw [73] (fun i wr=>∃n:Nat,i=.int .i64 (n:Nat)/\n<=m/\Aa w wr) (fun i _=>m-(intOf i).toNat)
     case atStart=>exact⟨0,rfl,by omega,TN⟩
     case round=>
      obtain⟨n,rfl,hn,Kt⟩:=hrel;by_cases LF:n<m
      ·have Fz:n+1<l.length:=(by rw [HM.out]at LF;omega);have hl0:0<l.length:=(by omega);obtain⟨_,_,e1,hg1,hg2⟩:=Ca (hr.ext Kt) Fz;obtain⟨_,_,e2,hg3,hg4⟩:=Ca (hr.ext Kt) hl0;simp only [Ase,Addr.mk.injEq,and_true]at e1 e2;obtain⟨rfl,rfl⟩:=e1;obtain⟨e2,e3⟩:=e2;subst e2 e3;obtain⟨px,Pa⟩:=ArV (l[n+1]);obtain⟨p0,Dn⟩:=ArV (l[0]);have Pi:=HZ.out l[n+1] (Asa Fz);have hz0:=HZ.out l[0] (Asa hl0);have Ce:=HL.out n Fz;rw [←Pa]at hg1 hg2 Pi;rw [←Dn]at hg3 hg4 hz0;rw [←Pa,←Dn]at Ce;have ls:=Akt px p0 Pi hz0 hk (by omega);obtain⟨r,Gz⟩:=ArV (AX px p0);rw [←Gz]at Ce ls;have hr0:0<=r:=(by omega);have e2:o+(n+1)*2=o+2+n*2:=(by omega);rw [e2]at hg1 hg2;rw [Nat.zero_mul,Nat.add_zero]at hg3 hg4;have Ef:(0:Int)<=(n:Int):=(by omega);have hnl:(n:Int)<(m:Int):=(by omega);have hl0':(0:Int)<(l.length:Int):=(by omega);have NC:=Kt.alloc (.cells #[S (R px.x),S (R px.y)] 94);have Ap:=ArY wr (.cells #[S (R px.x),S (R px.y)] 94);have hxx:=(Aa.refl wr).alloc (.cells #[S (R px.x),S (R px.y)] 94);have hg3':=hxx.cellS hg3;have iJ:=hxx.cellS hg4;unfold Af at ls;clear Ce Gz Pa Dn Pi hz0 e2
       go_upto_region 26 with fail
       clear hg1 hg2 hg3 hg4;generalize wr.alloc (.cells #[S (R px.x),S (R px.y)] 94)=U at *;obtain⟨bx,Js⟩:=ArV wr.heap.size;rw [←Js]at Ap ⊢;clear Js hxx;have c3:=Ab (o:=0) Ap rfl;have c4:=Ab (o:=1) Ap rfl;have hU:=hw.ext NC
       go_region_held3 (fun w'=>w'.cell? ⟨b,o,none⟩=some (S (R p0.x))/\w'.cell? ⟨b,o+1,none⟩=some (S (R p0.y))/\w'.cell? ⟨bx,0,none⟩=some (S (R px.x))/\w'.cell? ⟨bx,1,none⟩=some (S (R px.y)))
        (go_keep)
        (first|((with_reducible refine(ls _ (hU.ext (Aa.refl U).drew)).mono ?_);rintro e w5 ⟨rfl,Ax⟩;have X5:=(Aa.refl U).drew.trans Ax;have d1:=X5.cellS c3;have d2:=X5.cellS c4;have d3:=X5.cellS hg3';have d4:=X5.cellS iJ))
       go_wp2;go_roundw
       case rel=>exact⟨n+1,by go_num,LF,NC.trans X5⟩
       case measure=>simp [intOf];omega
      ·have hle:(m:Int)<=(n:Int):=(by omega);go_wp2;go_ret;exact⟨rfl,Kt⟩
theorem Y2(x y:Int)(b o:Nat)(w:World)(h1:w.cell? ⟨b,o,none⟩=some (.int .i64 x))(h2:w.cell? ⟨b,o+1,none⟩=some (.int .i64 y)) :
  Calls Tryz.prog 98 #[.slice (some ⟨b,o,none⟩) 2 2] w (Av (if x≠0 then x else y) w):=by
 obtain⟨r,hr⟩:=ArV (if x≠0 then x else y);rw [←hr];have HR:=ArW hr;clear hr;go_enter Tryz.func98,Tryz.ntmps98;go_wp2
 go_loopw [8] (fun i wr=>∃j:Nat,i=.int .i64 (j:Nat)/\j<=2/\(1<=j→x=0)/\(2<=j→y=0)/\wr=w) (fun i _=>2-(intOf i).toNat)
 case atStart=>exact⟨0,rfl,by omega,by omega,by omega,rfl⟩
 case round=>
  obtain⟨j,rfl,hj,hx,hy,rfl⟩:=hrel;by_cases j0:j=0
  ·subst j0;by_cases hx0:x=0
   ·have t:(x != 0)=false:=(by rw [hx0];rfl);have HX:=ArW hx0;clear hx hy hx0;go_wp2;go_roundw
    case rel=>exact⟨1,rfl,by omega,fun _=>HX.out,by omega,by trivial⟩
    case measure=>simp [intOf]
   ·have t:(x != 0)=true:=(by rw [bne_iff_ne];exact hx0);have LO:r=x:=(by rw [HR.out,if_pos hx0]);subst LO;clear hx hy hx0;go_wp2;go_ret;exact⟨rfl,Aa.refl _⟩
  ·by_cases j1:j=1
   ·subst j1;have hx0:x=0:=hx (by omega);have hry:r=y:=(by rw [HR.out,if_neg (by omega)]);subst hry;have HX:=ArW hx0;by_cases Es:r=0
    ·have t:(r != 0)=false:=(by rw [Es];rfl);have HY:=ArW Es;clear hx hy hx0 Es j0;go_wp2;go_roundw
     case rel=>exact⟨2,rfl,by omega,fun _=>HX.out,fun _=>HY.out,by trivial⟩
     case measure=>simp [intOf]
    ·have t:(r != 0)=true:=(by rw [bne_iff_ne];exact Es);clear hx hy hx0 Es j0;go_wp2;go_ret;exact⟨rfl,Aa.refl _⟩
   ·have j2:j=2:=(by omega);subst j2;have hx0:x=0:=hx (by omega);have Es:y=0:=hy (by omega);have hr0:r=0:=(by rw [HR.out,if_neg (by omega),Es]);subst hr0;clear hx hy hx0 Es j0 j1;go_wp2;go_ret;exact⟨rfl,Aa.refl _⟩
theorem IO(a b:Pt){k:Nat}(ha:Aq k a)(hb:Aq k b)(hk:0<k)(hk2:k<=1)(w:World)(hw:Al w) :
  Calls Tryz.prog 110 #[Af a,Af b] w (Av (AX a b) w):=by
 have c1:=FB a.x b.x (a:=k) (b:=k) ⟨ha.x,hb.x,hk,hk,by omega⟩;have c2:=FB a.y b.y (a:=k) (b:=k) ⟨ha.y,hb.y,hk,hk,by omega⟩;have hE:=((Aa.refl w).alloc (.cells #[S (R a.x),S (R a.y)] 94)).alloc (.cells #[S (R b.x),S (R b.y)] 94);obtain⟨x,hx0⟩:=ArV (AH a.x b.x);obtain⟨y,Es⟩:=ArV (AH a.y b.y)
 have hr:AX a b=if x≠0 then x else y:=by rw [hx0,Es];rfl
 rw [hr];rw [←hx0]at c1;rw [←Es]at c2
 have hA:(w.alloc (.cells #[S (R a.x),S (R a.y)] 94)).alloc (.cells #[S (R b.x),S (R b.y)] 94) |>.heap[w.heap.size]?=some (.cells #[S (R a.x),S (R a.y)] 94):=(Below.heap_alloc _ _ _ (by simp)).trans (ArY w _)
 have hB:=ArY (w.alloc (.cells #[S (R a.x),S (R a.y)] 94)) (.cells #[S (R b.x),S (R b.y)] 94);rw [Ash]at hB;obtain⟨r,Gz⟩:=ArV (if x≠0 then x else y:Int);have HRE:=ArW Gz;rw [←Gz];unfold Af
 have NN:∀(b o:Nat) (w:World),w.cell? ⟨b,o,none⟩=some (.int .i64 x)→w.cell? ⟨b,o+1,none⟩=some (.int .i64 y)→Calls Tryz.prog 98 #[.slice (some ⟨b,o,none⟩) 2 2] w (Av r w):=by intro b o w h1 h2;rw [Gz];exact Y2 x y b o w h1 h2
 clear ha hb hr hx0 Es Gz;go_enter Tryz.func110,Tryz.ntmps110
 go_upto_region 1 with fail
 generalize (w.alloc (.cells #[S (R a.x),S (R a.y)] 94)).alloc (.cells #[S (R b.x),S (R b.y)] 94)=V at *;have hs:=hE.size;obtain⟨ba,Aw⟩:=ArV w.heap.size;rw [←Aw]at hA hB ⊢;clear Aw hs;have k1:=Ab (o:=0) hA rfl;have k2:=Ab (o:=1) hA rfl;have k3:=Ab (o:=0) hB rfl;have k4:=Ab (o:=1) hB rfl;have hV:=hw.ext hE;clear hA hB
 go_region_held3 (fun w'=>w'.cell? ⟨ba,0,none⟩=some (S (R a.x))/\w'.cell? ⟨ba,1,none⟩=some (S (R a.y))/\w'.cell? ⟨ba+1,0,none⟩=some (S (R b.x))/\w'.cell? ⟨ba+1,1,none⟩=some (S (R b.y)))
  (go_keep)
  (first|((with_reducible refine(c1 _ (hV.ext (Aa.refl V).drew)).mono ?_);rintro e w5 ⟨rfl,Ax⟩;have X5:Aa V w5:=(Aa.refl V).drew.trans Ax;have d1:=X5.cellS k1;have d2:=X5.cellS k2;have d3:=X5.cellS k3;have d4:=X5.cellS k4)|((with_reducible refine(c2 _ (hV.ext X5)).mono ?_);rintro e w6 ⟨rfl,BF⟩;have X6:Aa V w6:=X5.trans BF;have f1:=X6.cellS k1;have f2:=X6.cellS k2;have f3:=X6.cellS k3;have f4:=X6.cellS k4)|((with_reducible refine(NN w6.heap.size 0 (w6.alloc (.cells #[.int .i64 x,.int .i64 y] 3)) (Ab (o:=0) (ArY w6 _) rfl) (Ab (o:=1) (ArY w6 _) rfl)).mono ?_);rintro e w7 ⟨rfl,AQ⟩;have X7:Aa V w7:=(X6.alloc _).trans AQ;have g1:=X7.cellS k1;have g2:=X7.cellS k2;have g3:=X7.cellS k3;have g4:=X7.cellS k4))
 go_wp2;go_ret;exact⟨rfl,hE.trans X7⟩
theorem yo(a b c:Pt){k:Nat}(ha:Aq k a)(hb:Aq k b)(hc:Aq k c)(hk:0<k)(hk2:k<=1)(w:World)(hw:Al w) :
  Calls Tryz.prog 229 #[Af a,Af b,Af c] w (BK (R (Ai a b c)) w):=by
 have s1:=EK b.x a.x (a:=k) (b:=k) ⟨hb.x,ha.x,hk,hk,by omega⟩;have s2:=EK b.y a.y (a:=k) (b:=k) ⟨hb.y,ha.y,hk,hk,by omega⟩;have s3:=EK c.x a.x (a:=k) (b:=k) ⟨hc.x,ha.x,hk,hk,by omega⟩;have s4:=EK c.y a.y (a:=k) (b:=k) ⟨hc.y,ha.y,hk,hk,by omega⟩;have m1:=Mh (b.x-a.x) (c.y-a.y) (a:=k+k+1) (b:=k+k+1) ⟨hb.x.sub ha.x,hc.y.sub ha.y,by omega,by omega,by omega⟩;have m2:=Mh (b.y-a.y) (c.x-a.x) (a:=k+k+1) (b:=k+k+1) ⟨hb.y.sub ha.y,hc.x.sub ha.x,by omega,by omega,by omega⟩;have sb:=EK ((b.x-a.x)*(c.y-a.y)) ((b.y-a.y)*(c.x-a.x)) (a:=k+k+1+(k+k+1)) (b:=k+k+1+(k+k+1)) ⟨(hb.x.sub ha.x).mul (hc.y.sub ha.y),(hb.y.sub ha.y).mul (hc.x.sub ha.x),by omega,by omega,by omega⟩;have e:Ai a b c=(b.x-a.x)*(c.y-a.y)-(b.y-a.y)*(c.x-a.x):=rfl;rw [←e]at sb;obtain⟨r,hr⟩:=ArV (Ai a b c);rw [←hr]at sb ⊢;unfold Af;clear ha hb hc e hr;go_enter Tryz.func229,Tryz.ntmps229;(go_wp2_with fail);obtain⟨W,hW,hE,hb1,hb2,hb3⟩:=Je w (.cells #[S (R a.x),S (R a.y)] 94) (.cells #[S (R b.x),S (R b.y)] 94) (.cells #[S (R c.x),S (R c.y)] 94);rw [←hW];clear hW
 have SO:∀w',Aa W w'→(w'.cell? ⟨w.heap.size,0,none⟩=some (S (R a.x))/\w'.cell? ⟨w.heap.size,1,none⟩=some (S (R a.y))/\w'.cell? ⟨w.heap.size+1,0,none⟩=some (S (R b.x))/\w'.cell? ⟨w.heap.size+1,1,none⟩=some (S (R b.y))/\w'.cell? ⟨w.heap.size+1+1,0,none⟩=some (S (R c.x))/\w'.cell? ⟨w.heap.size+1+1,1,none⟩=some (S (R c.y))):=fun w' h=>⟨h.cellS (Ab hb1 rfl),h.cellS (Ab hb1 rfl),h.cellS (Ab hb2 rfl),h.cellS (Ab hb2 rfl),h.cellS (Ab hb3 rfl),h.cellS (Ab hb3 rfl)⟩
 have Cu:=hw.ext hE;have X:Aa W W:=Aa.refl W;clear hb1 hb2 hb3
 go_region_held3 (fun w'=>w'.cell? ⟨w.heap.size,0,none⟩=some (S (R a.x))/\w'.cell? ⟨w.heap.size,1,none⟩=some (S (R a.y))/\w'.cell? ⟨w.heap.size+1,0,none⟩=some (S (R b.x))/\w'.cell? ⟨w.heap.size+1,1,none⟩=some (S (R b.y))/\w'.cell? ⟨w.heap.size+1+1,0,none⟩=some (S (R c.x))/\w'.cell? ⟨w.heap.size+1+1,1,none⟩=some (S (R c.y)))
  (first|with_reducible exact SO _ X|with_reducible exact SO _ X.drew)
  (first|((with_reducible refine(s1 _ (Cu.ext (by first|exact X|exact X.drew))).mono ?_);rintro e w1 ⟨rfl,hx1⟩;replace X:Aa W w1:=(by first|exact X.trans hx1|exact X.drew.trans hx1))|((with_reducible refine(s2 _ (Cu.ext (by first|exact X|exact X.drew))).mono ?_);rintro e w1 ⟨rfl,hx1⟩;replace X:Aa W w1:=(by first|exact X.trans hx1|exact X.drew.trans hx1))|((with_reducible refine(s3 _ (Cu.ext (by first|exact X|exact X.drew))).mono ?_);rintro e w1 ⟨rfl,hx1⟩;replace X:Aa W w1:=(by first|exact X.trans hx1|exact X.drew.trans hx1))|((with_reducible refine(s4 _ (Cu.ext (by first|exact X|exact X.drew))).mono ?_);rintro e w1 ⟨rfl,hx1⟩;replace X:Aa W w1:=(by first|exact X.trans hx1|exact X.drew.trans hx1))|((with_reducible refine(m1 _ (Cu.ext (by first|exact X|exact X.drew))).mono ?_);rintro e w1 ⟨rfl,hx1⟩;replace X:Aa W w1:=(by first|exact X.trans hx1|exact X.drew.trans hx1))|((with_reducible refine(m2 _ (Cu.ext (by first|exact X|exact X.drew))).mono ?_);rintro e w1 ⟨rfl,hx1⟩;replace X:Aa W w1:=(by first|exact X.trans hx1|exact X.drew.trans hx1))|((with_reducible refine(sb _ (Cu.ext (by first|exact X|exact X.drew))).mono ?_);rintro e w1 ⟨rfl,hx1⟩;replace X:Aa W w1:=(by first|exact X.trans hx1|exact X.drew.trans hx1)))
 go_wp2;go_ret;exact⟨rfl,hE.trans X⟩
theorem Mg(a b c:Pt){k:Nat}(ha:Aq k a)(hb:Aq k b)(hc:Aq k c)(hk:0<k)(hk2:k<=1)(w:World)(hw:Al w) :
  Calls Tryz.prog 152 #[Af a,Af b,Af c] w (Av (AI (Ai a b c)) w):=by
 have ar:=yo a b c ha hb hc hk hk2;have sg:=Pv (Ai a b c);have hE:=(((Aa.refl w).alloc (.cells #[S (R a.x),S (R a.y)] 94)).alloc (.cells #[S (R b.x),S (R b.y)] 94)).alloc (.cells #[S (R c.x),S (R c.y)] 94);unfold Af at ar ⊢;clear ha hb hc;go_enter Tryz.func152,Tryz.ntmps152;(go_wp2_with fail);(with_reducible refine(ar _ (hw.ext hE)).mono ?_);rintro e w1 ⟨rfl,hx⟩;(go_wp2_with fail);(with_reducible refine(sg _).mono ?_);rintro e w2 ⟨rfl,hx2⟩;go_wp2;go_ret;exact⟨rfl,hE.trans (hx.trans hx2)⟩
def J8(y x:Int):Int:=if 0<y then 0 else if y=0 then (if 0<x then 0 else 1)else 1
def BR(p q:Pt):Int:=J8 (AH q.y p.y) (AH q.x p.x)
theorem Ak4{y x:Int}(h:0<y):J8 y x=0:=if_pos h
theorem Ak5{y x:Int}(h:y=0)(hx:0<x):J8 y x=0:=by unfold J8;rw [if_neg (by omega),if_pos h,if_pos hx]
theorem Ak6{y x:Int}(h:y=0)(hx:¬0<x):J8 y x=1:=by unfold J8;rw [if_neg (by omega),if_pos h,if_neg hx]
theorem Ak7{y x:Int}(h:y<0):J8 y x=1:=by unfold J8;rw [if_neg (by omega),if_neg (by omega)]
theorem y9(p q:Pt){k:Nat}(hp:Aq k p)(hq:Aq k q)(hk:0<k)(hk2:k<=1)(w:World)(hw:Al w) :
  Calls Tryz.prog 231 #[Af p,Af q] w (Av (BR p q) w):=by
 have c1:=FB q.y p.y (a:=k) (b:=k) ⟨hq.y,hp.y,hk,hk,by omega⟩;have c2:=FB q.x p.x (a:=k) (b:=k) ⟨hq.x,hp.x,hk,hk,by omega⟩;unfold BR;generalize AH q.y p.y=y at *;generalize AH q.x p.x=x at *;have hb1:=(Below.heap_alloc (w.alloc (.cells #[S (R p.x),S (R p.y)] 94)) (.cells #[S (R q.x),S (R q.y)] 94) w.heap.size (by simp)).trans (ArY w (.cells #[S (R p.x),S (R p.y)] 94));have hb2:=ArY (w.alloc (.cells #[S (R p.x),S (R p.y)] 94)) (.cells #[S (R q.x),S (R q.y)] 94);rw [Ash]at hb2;have hE:=((Aa.refl w).alloc (.cells #[S (R p.x),S (R p.y)] 94)).alloc (.cells #[S (R q.x),S (R q.y)] 94);unfold Af;clear hp hq;obtain⟨r,hr⟩:=ArV (J8 y x);rw [←hr];have HR:=ArW hr;clear hr;go_enter Tryz.func231,Tryz.ntmps231
 go_upto_region 1 with fail
 generalize (w.alloc (.cells #[S (R p.x),S (R p.y)] 94)).alloc (.cells #[S (R q.x),S (R q.y)] 94)=V at *;obtain⟨ba,Aw⟩:=ArV w.heap.size;rw [←Aw]at hb1 hb2 ⊢;clear Aw;have k1:=Ab (o:=0) hb1 rfl;have k2:=Ab (o:=1) hb1 rfl;have k3:=Ab (o:=0) hb2 rfl;have k4:=Ab (o:=1) hb2 rfl;clear hb1 hb2;(go_wp2_with fail);(with_reducible refine(c1 _ (hw.ext hE)).mono ?_);rintro e w1 ⟨rfl,hx1⟩;have j1:=hx1.cellS k1;have j2:=hx1.cellS k2;have j3:=hx1.cellS k3;have j4:=hx1.cellS k4;replace hE:=hE.trans hx1;clear k1 k2 k3 k4 hx1;by_cases y1:0<y
 ·have e0:r=0:=(by rw [HR.out,Ak4 y1]);subst e0;have d1:decide (0<y)=true:=decide_eq_true y1;clear c2 c1;go_wp2;go_ret;exact⟨rfl,hE⟩
 ·by_cases y0:y=0
  ·subst y0;by_cases x1:0<x
   ·have e0:r=0:=(by rw [HR.out,Ak5 rfl x1]);subst e0;have d1:decide (0<x)=true:=decide_eq_true x1;clear c1 y1;(go_wp2_with fail);(with_reducible refine(c2 _ (hw.ext hE)).mono ?_);rintro e w2 ⟨rfl,hx2⟩;go_wp2;go_ret;exact⟨rfl,hE.trans hx2⟩
   ·have e0:r=1:=(by rw [HR.out,Ak6 rfl x1]);subst e0;have d1:decide (0<x)=false:=decide_eq_false x1;have x2:x<=0:=(by omega);clear c1 y1 x1;(go_wp2_with fail);(with_reducible refine(c2 _ (hw.ext hE)).mono ?_);rintro e w2 ⟨rfl,hx2⟩;go_wp2;go_ret;exact⟨rfl,hE.trans hx2⟩
  ·have e0:r=1:=(by rw [HR.out,Ak7 (by omega)]);subst e0;have d1:decide (0<y)=false:=decide_eq_false y1;have d2:decide (y=0)=false:=decide_eq_false y0;have d3:(y == 0)=false:=(by rw [beq_eq_false_iff_ne];exact y0);have y2:y<0:=(by omega);clear c2 c1 y1;go_wp2;go_ret;exact⟨rfl,hE⟩
def KA(u v t:Int):Bool:=decide (u<=0)&&(decide (v<=0)&&decide (t=0))
def NM(a b p:Pt):Bool:=KA (AX a p) (AX p b) (AI (Ai a b p))
def Hg(a b p:Pt):Bool:=if 0<AX a b then NM b a p else NM a b p
theorem Amy(a b p:Pt){k:Nat}(ha:Aq k a)(hb:Aq k b)(hp:Aq k p)(hk:0<k)(hk2:k<=1)(hz:¬0<AX a b)(w:World)(hw:Al w) :
  Calls Tryz.prog 151 #[Af a,Af b,Af p] w (Bw (NM a b p) w):=by
 have c0:=IO a b ha hb hk hk2;have c1:=IO a p ha hp hk hk2;have c2:=IO p b hp hb hk hk2;have c3:=Mg a b p ha hb hp hk hk2;unfold NM;generalize AX a b=z at *;generalize AX a p=u at *;generalize AX p b=v at *;generalize AI (Ai a b p)=t at *;obtain⟨W,hW,hE,hb1,hb2,hb3⟩:=Je w (.cells #[S (R a.x),S (R a.y)] 94) (.cells #[S (R b.x),S (R b.y)] 94) (.cells #[S (R p.x),S (R p.y)] 94);obtain⟨r,hr⟩:=ArV (KA u v t);rw [←hr];have HR:=ArW hr;unfold Af at c0 c1 c2 c3 ⊢;clear ha hb hp hr;go_enter Tryz.func151,Tryz.ntmps151
 go_upto_region 1 with fail
 rw [←hW];clear hW;obtain⟨ba,Aw⟩:=ArV w.heap.size;have hle:w.heap.size<=ba:=(by omega);rw [←Aw]at hb1 hb2 hb3 ⊢;clear Aw;have k1:=Ab (o:=0) hb1 rfl;have k2:=Ab (o:=1) hb1 rfl;have k3:=Ab (o:=0) hb2 rfl;have k4:=Ab (o:=1) hb2 rfl;(go_wp2_with fail);(with_reducible refine(c0 _ (hw.ext hE)).mono ?_);rintro e w1 ⟨rfl,hx1⟩;replace hb1:=(hx1.block _ (ArX hb1)).trans hb1;replace hb2:=(hx1.block _ (ArX hb2)).trans hb2;replace hb3:=(hx1.block _ (ArX hb3)).trans hb3;replace hE:=hE.trans hx1;clear k1 k2 k3 k4 hx1 c0;have dz:decide (0<z)=false:=decide_eq_false (by omega);have hz':z<=0:=(by omega);clear hz
 go_upto_region 3 with fail
 have DC:=hE;have n1:=hb1;have n2:=hb2;have n3:=hb3;obtain⟨V,hV⟩:=ArV w1;rw [←hV]at DC n1 n2 n3 ⊢;clear hV hb1 hb2 hb3 hE dz;have k1:=Ab (o:=0) n1 rfl;have k2:=Ab (o:=1) n1 rfl;have k3:=Ab (o:=0) n2 rfl;have k4:=Ab (o:=1) n2 rfl;have k5:=Ab (o:=0) n3 rfl;have k6:=Ab (o:=1) n3 rfl;clear n1 n2 n3;(go_wp2_with fail);(with_reducible refine(c1 _ (hw.ext DC)).mono ?_);rintro e w2 ⟨rfl,hx2⟩;have j1:=hx2.cellS k1;have j2:=hx2.cellS k2;have j3:=hx2.cellS k3;have j4:=hx2.cellS k4;have j5:=hx2.cellS k5;have j6:=hx2.cellS k6;replace DC:=DC.trans hx2;clear k1 k2 k3 k4 k5 k6 hx2 c1;by_cases hu:u<=0
 ·have du:decide (u<=0)=true:=decide_eq_true hu;(go_wp2_with fail);(with_reducible refine(c2 _ (hw.ext DC)).mono ?_);rintro e w3 ⟨rfl,hx3⟩;have i1:=hx3.cellS j1;have i2:=hx3.cellS j2;have i3:=hx3.cellS j3;have i4:=hx3.cellS j4;have i5:=hx3.cellS j5;have i6:=hx3.cellS j6;replace DC:=DC.trans hx3;clear j1 j2 j3 j4 j5 j6 hx3 c2;by_cases hv:v<=0
  ·have dv:decide (v<=0)=true:=decide_eq_true hv;have hrt:r=decide (t=0):=(by rw [HR.out];unfold KA;rw [du,dv];rfl);have PK:=ArW hrt;clear hrt;(go_wp2_with fail);(with_reducible refine(c3 _ (hw.ext DC)).mono ?_);rintro e w4 ⟨rfl,Aj⟩;go_wp2;go_ret;exact⟨by rw [PK.out];rfl,DC.trans Aj⟩
  ·have dv:decide (v<=0)=false:=decide_eq_false hv;have hrt:r=false:=(by rw [HR.out];unfold KA;rw [du,dv];rfl);subst hrt;have hv':0<v:=(by omega);clear hv c3;go_wp2;go_ret;exact⟨rfl,DC⟩
 ·have du:decide (u<=0)=false:=decide_eq_false hu;have hrt:r=false:=(by rw [HR.out];unfold KA;rw [du];rfl);subst hrt;have QR:0<u:=(by omega);clear hu c2 c3;go_wp2;go_ret;exact⟨rfl,DC⟩
theorem Amx(a b p:Pt){k:Nat}(ha:Aq k a)(hb:Aq k b)(hp:Aq k p)(hk:0<k)(hk2:k<=1)(hz:0<AX a b)(w:World)(hw:Al w) :
  Calls Tryz.prog 151 #[Af a,Af b,Af p] w (Bw (NM b a p) w):=by
 have c0:=IO a b ha hb hk hk2;have c1:=IO b p hb hp hk hk2;have c2:=IO p a hp ha hk hk2;have c3:=Mg b a p hb ha hp hk hk2;unfold NM;generalize AX a b=z at *;generalize AX b p=u at *;generalize AX p a=v at *;generalize AI (Ai b a p)=t at *;obtain⟨W,hW,hE,hb1,hb2,hb3⟩:=Je w (.cells #[S (R a.x),S (R a.y)] 94) (.cells #[S (R b.x),S (R b.y)] 94) (.cells #[S (R p.x),S (R p.y)] 94);obtain⟨r,hr⟩:=ArV (KA u v t);rw [←hr];have HR:=ArW hr;unfold Af at c0 c1 c2 c3 ⊢;clear ha hb hp hr;go_enter Tryz.func151,Tryz.ntmps151
 go_upto_region 1 with fail
 rw [←hW];clear hW;obtain⟨ba,Aw⟩:=ArV w.heap.size;have hle:w.heap.size<=ba:=(by omega);rw [←Aw]at hb1 hb2 hb3 ⊢;clear Aw;have k1:=Ab (o:=0) hb1 rfl;have k2:=Ab (o:=1) hb1 rfl;have k3:=Ab (o:=0) hb2 rfl;have k4:=Ab (o:=1) hb2 rfl;(go_wp2_with fail);(with_reducible refine(c0 _ (hw.ext hE)).mono ?_);rintro e w1 ⟨rfl,hx1⟩;replace hb1:=(hx1.block _ (ArX hb1)).trans hb1;replace hb2:=(hx1.block _ (ArX hb2)).trans hb2;replace hb3:=(hx1.block _ (ArX hb3)).trans hb3;replace hE:=hE.trans hx1;clear k1 k2 k3 k4 hx1 c0;have dz:decide (0<z)=true:=decide_eq_true hz;have k1:=Ab (o:=0) hb1 rfl;have k2:=Ab (o:=1) hb1 rfl;have k3:=Ab (o:=0) hb2 rfl;have k4:=Ab (o:=1) hb2 rfl;have f1:=AB (o:=0) hb1;have f2:=AB (o:=1) hb1;have f3:=AB (o:=0) hb2;have f4:=AB (o:=1) hb2
 go_upto_region 3 with fail
 obtain⟨V,hV⟩:=ArV ((((w1.setCell ⟨ba,0,none⟩ (S (R b.x))).setCell ⟨ba,1,none⟩ (S (R b.y))).setCell ⟨ba+1,0,none⟩ (S (R a.x))).setCell ⟨ba+1,1,none⟩ (S (R a.y)));rw [←hV]
 have DC:Aa w V:=by rw [hV];exact(((hE.setCell (p:=⟨ba,0,none⟩) hle _).setCell (p:=⟨ba,1,none⟩) hle _).setCell (p:=⟨ba+1,0,none⟩) (Nat.le_succ_of_le hle) _).setCell (p:=⟨ba+1,1,none⟩) (Nat.le_succ_of_le hle) _
 have n1:V.heap[ba]?=some (.cells #[S (R b.x),S (R b.y)] 94):=by rw [hV,Below.heap_setCell _ _ _ _ (show ba≠ba+1 by omega),Below.heap_setCell _ _ _ _ (show ba≠ba+1 by omega)];exact PW _ _ hb1
 have n2:V.heap[ba+1]?=some (.cells #[S (R a.x),S (R a.y)] 94):=by rw [hV];exact PW _ _ (by rw [Below.heap_setCell _ _ _ _ (show ba+1≠ba by omega),Below.heap_setCell _ _ _ _ (show ba+1≠ba by omega)];exact hb2)
 have n3:V.heap[ba+1+1]?=some (.cells #[S (R p.x),S (R p.y)] 94):=by rw [hV,Below.heap_setCell _ _ _ _ (show ba+1+1≠ba+1 by omega),Below.heap_setCell _ _ _ _ (show ba+1+1≠ba+1 by omega),Below.heap_setCell _ _ _ _ (show ba+1+1≠ba by omega),Below.heap_setCell _ _ _ _ (show ba+1+1≠ba by omega)];exact hb3
 clear hV k1 k2 k3 k4 f1 f2 f3 f4 hb1 hb2 hb3 hE dz;have k1:=Ab (o:=0) n1 rfl;have k2:=Ab (o:=1) n1 rfl;have k3:=Ab (o:=0) n2 rfl;have k4:=Ab (o:=1) n2 rfl;have k5:=Ab (o:=0) n3 rfl;have k6:=Ab (o:=1) n3 rfl;clear n1 n2 n3;(go_wp2_with fail);(with_reducible refine(c1 _ (hw.ext DC)).mono ?_);rintro e w2 ⟨rfl,hx2⟩;have j1:=hx2.cellS k1;have j2:=hx2.cellS k2;have j3:=hx2.cellS k3;have j4:=hx2.cellS k4;have j5:=hx2.cellS k5;have j6:=hx2.cellS k6;replace DC:=DC.trans hx2;clear k1 k2 k3 k4 k5 k6 hx2 c1;by_cases hu:u<=0
 ·have du:decide (u<=0)=true:=decide_eq_true hu;(go_wp2_with fail);(with_reducible refine(c2 _ (hw.ext DC)).mono ?_);rintro e w3 ⟨rfl,hx3⟩;have i1:=hx3.cellS j1;have i2:=hx3.cellS j2;have i3:=hx3.cellS j3;have i4:=hx3.cellS j4;have i5:=hx3.cellS j5;have i6:=hx3.cellS j6;replace DC:=DC.trans hx3;clear j1 j2 j3 j4 j5 j6 hx3 c2;by_cases hv:v<=0
  ·have dv:decide (v<=0)=true:=decide_eq_true hv;have hrt:r=decide (t=0):=(by rw [HR.out];unfold KA;rw [du,dv];rfl);have PK:=ArW hrt;clear hrt;(go_wp2_with fail);(with_reducible refine(c3 _ (hw.ext DC)).mono ?_);rintro e w4 ⟨rfl,Aj⟩;go_wp2;go_ret;exact⟨by rw [PK.out];rfl,DC.trans Aj⟩
  ·have dv:decide (v<=0)=false:=decide_eq_false hv;have hrt:r=false:=(by rw [HR.out];unfold KA;rw [du,dv];rfl);subst hrt;have hv':0<v:=(by omega);clear hv c3;go_wp2;go_ret;exact⟨rfl,DC⟩
 ·have du:decide (u<=0)=false:=decide_eq_false hu;have hrt:r=false:=(by rw [HR.out];unfold KA;rw [du];rfl);subst hrt;have QR:0<u:=(by omega);clear hu c2 c3;go_wp2;go_ret;exact⟨rfl,DC⟩
theorem ze(a b p:Pt){k:Nat}(ha:Aq k a)(hb:Aq k b)(hp:Aq k p)(hk:0<k)(hk2:k<=1)(w:World)(hw:Al w) :
  Calls Tryz.prog 151 #[Af a,Af b,Af p] w (Bw (Hg a b p) w):=by
 unfold Hg
 split
 ·exact Amx a b p ha hb hp hk hk2 (by assumption) w hw
 ·exact Amy a b p ha hb hp hk hk2 (by assumption) w hw
structure Ac(W:World) where
 w:World
 h:Aa W w
instance (W:World):Inhabited (Ac W):=⟨⟨W,Aa.refl W⟩⟩
theorem Ac.cell{W:World}{a:Addr}{v:Value}(h:W.cell? a=some v)(p:Ac W):p.w.cell? a=some v:=p.h.cellS h
theorem Bp{P:Program}{id:Nat}{Q:Exit→Act→World→Prop}{a:Act}{W:World}{l:List Oper}(hm:P.follows .mixedOrders=true)(hB:Region.lexB .any l.toArray=true)
  (h:wpQuiet P l.toArray (fun w'=>∃p:Ac W,w'=p.w) (fun a'=>∀w',(∃p:Ac W,w'=p.w)→Q .normal a' w') l a):(Code.region id l.toArray true).wp P Q a W:=
 wp_region_quiet (C:=fun w'=>∃p:Ac W,w'=p.w) hm hB ⟨⟨W.drew,(Aa.refl W).drew⟩,rfl⟩ (by simpa using h)
section
variable {P : Program} {f : FuncId} {args : Array Value} {W : World} {p : Ac W}
theorem Agm{v:Value}(h:Calls P f args p.w (Cy v p.w)):Calls P f args p.w fun e w''=>e=.returned v/\∃q:Ac W,w''=q.w:=
 h.mono fun _ w1 ⟨he,hx⟩=>⟨he,⟨w1,p.h.trans hx⟩,rfl⟩
theorem Di{n:Int}(h:Calls P f args p.w (Av n p.w)):Calls P f args p.w fun e w''=>e=.returned (.int .i64 n)/\∃q:Ac W,w''=q.w:=
 h.mono fun _ w1 ⟨he,hx⟩=>⟨he,⟨w1,p.h.trans hx⟩,rfl⟩
theorem Lm{l:Bs}(h:Calls P f args p.w (BK l p.w)):Calls P f args p.w fun e w''=>e=.returned (S l)/\∃q:Ac W,w''=q.w:=
 h.mono fun _ w1 ⟨he,hx⟩=>⟨he,⟨w1,p.h.trans hx⟩,rfl⟩
theorem cR{b:Bool}(h:Calls P f args p.w (Bw b p.w)):Calls P f args p.w fun e w''=>e=.returned (.bool b)/\∃q:Ac W,w''=q.w:=
 h.mono fun _ w1 ⟨he,hx⟩=>⟨he,⟨w1,p.h.trans hx⟩,rfl⟩
end
def An(p q:Pt):Bool:=decide (p.x=q.x)&&decide (p.y=q.y)
theorem BY{p q:Pt} : An p q=true↔p=q:=by
 unfold An;rw [Bool.and_eq_true,decide_eq_true_eq,decide_eq_true_eq];constructor
 ·rintro⟨h1,h2⟩
  cases p;cases q;simp_all
 ·rintro rfl;exact⟨rfl,rfl⟩
theorem JZ(p q:Rat):(R p == R q)=decide (p=q):=by
 by_cases h:p=q
 ·subst h;simp
 ·rw [decide_eq_false h,beq_eq_false_iff_ne];exact fun e=>h (Sx e)
theorem Px(p q:Pt)(W:World):(binOp .eql 94 (.agg #[S (R p.x),S (R p.y)]) (.agg #[S (R q.x),S (R q.y)])).run Tryz.prog W=.ok (.bool (An p q)) W:=by
 unfold An;rw [←JZ,←JZ]
 cases b1:(R p.x == R q.x)<;>cases b2:(R p.y == R q.y)<;>simp [go_sem,b1,b2]
theorem RA(p q:Pt)(W:World):(binOp .neq 94 (.agg #[S (R p.x),S (R p.y)]) (.agg #[S (R q.x),S (R q.y)])).run Tryz.prog W=.ok (.bool (!An p q)) W:=by
 unfold An;rw [←JZ,←JZ]
 cases b1:(R p.x == R q.x)<;>cases b2:(R p.y == R q.y)<;>simp [go_sem,b1,b2]
theorem RD(q:Rat):-1<=AI q/\AI q<=1:=by unfold AI;split<;>(try split)<;>omega
def Lh(x y z:Pt):Bool:=Hg x y z&&(!An z x && !An z y)
def YO(a b c d:Pt):Bool:=An a c||(An a d||(An b c||An b d))
def KL(a b c:Pt):Int:=AI (Ai a b c)
def Ru(a b c d:Pt):Bool:=decide (KL a b c*KL a b d<0)&&decide (KL c d a*KL c d b<0)
def IV(a b c d:Pt):List (Pt×Pt×Pt):=[(c,d,a),(c,d,b),(a,b,c),(a,b,d)]
def NR(a b c d:Pt):Bool:=(IV a b c d).any (fun t=>Lh t.1 t.2.1 t.2.2)||(!YO a b c d&&Ru a b c d)
def RH(a b c d:Pt):Array Value:=#[S (R c.x),S (R c.y),S (R d.x),S (R d.y),S (R a.x),S (R a.y),S (R c.x),S (R c.y),S (R d.x),S (R d.y),S (R b.x),S (R b.y),S (R a.x),S (R a.y),S (R b.x),S (R b.y),S (R c.x),S (R c.y),S (R a.x),S (R a.y),S (R b.x),S (R b.y),S (R d.x),S (R d.y)]
theorem AoN(a b c d:Pt){k:Nat}(ha:Aq k a)(hb:Aq k b)(hc:Aq k c)(hd:Aq k d){j:Nat}(hj:j<4) :
  ∃x y z:Pt,(∀W,(Instr.index 205 (.agg (RH a b c d)) (.int .i64 (j:Nat))).run Tryz.prog W=.ok (.agg #[S (R x.x),S (R x.y),S (R y.x),S (R y.y),S (R z.x),S (R z.y)]) W)/\(IV a b c d)[j]?=some (x,y,z)/\Aq k x/\Aq k y/\Aq k z:=by
 obtain rfl|rfl|rfl|rfl:j=0∨j=1∨j=2∨j=3:=by omega
 ·exact⟨c,d,a,fun W=>by unfold RH;kernel_rfl,rfl,hc,hd,ha⟩
 ·exact⟨c,d,b,fun W=>by unfold RH;kernel_rfl,rfl,hc,hd,hb⟩
 ·exact⟨a,b,c,fun W=>by unfold RH;kernel_rfl,rfl,ha,hb,hc⟩
 ·exact⟨a,b,d,fun W=>by unfold RH;kernel_rfl,rfl,ha,hb,hd⟩
theorem Aem(w:World)(o1 o2 o3 o4:Obj):∃W,W=(((w.alloc o1).alloc o2).alloc o3).alloc o4/\Aa w W/\W.heap[w.heap.size]?=some o1/\W.heap[w.heap.size+1]?=some o2/\W.heap[w.heap.size+1+1]?=some o3/\W.heap[w.heap.size+1+1+1]?=some o4:=by
 obtain⟨V,hV,hE,h1,h2,h3⟩:=Je w o1 o2 o3;have hs:V.heap.size=w.heap.size+1+1+1:=(by rw [hV];simp);have h4:=ArY V o4;have hx:=(Aa.refl V).alloc o4;rw [hs]at h4;exact⟨V.alloc o4,by rw [hV],hE.alloc o4,(hx.block _ (ArX h1)).trans h1,(hx.block _ (ArX h2)).trans h2,(hx.block _ (ArX h3)).trans h3,h4⟩
theorem Amm(a b c d:Pt){k:Nat}(ha:Aq k a)(hb:Aq k b)(hc:Aq k c)(hd:Aq k d)(hk:0<k)(hk2:k<=1)(w:World)(hw:Al w) :
  Calls Tryz.prog 80 #[Af a,Af b,Af c,Af d] w (Bw (NR a b c d) w):=by
 have t1:=Mg a b c ha hb hc hk hk2;have t2:=Mg a b d ha hb hd hk hk2;have t3:=Mg c d a hc hd ha hk hk2;have t4:=Mg c d b hc hd hb hk hk2;have XO:=@AoN a b c d k ha hb hc hd;unfold RH at XO;have r1:=RD (Ai a b c);have r2:=RD (Ai a b d);have r3:=RD (Ai c d a);have r4:=RD (Ai c d b);obtain⟨r,hr⟩:=ArV (NR a b c d);rw [←hr];have HR:=ArW hr;have HP:=ArW (show Ru a b c d=(decide (KL a b c*KL a b d<0)&&decide (KL c d a*KL c d b<0))from rfl);have KX:=ArW (show YO a b c d=(An a c||(An a d||(An b c||An b d)))from rfl);have pe:=Px;have pn:=RA;unfold Af at t1 t2 t3 t4 ⊢;obtain⟨W,hW,hE,hb1,hb2,hb3,hb4⟩:=Aem w (.cells #[S (R a.x),S (R a.y)] 94) (.cells #[S (R b.x),S (R b.y)] 94) (.cells #[S (R c.x),S (R c.y)] 94) (.cells #[S (R d.x),S (R d.y)] 94);clear hr ha hb hc hd;go_enter Tryz.func80,Tryz.ntmps80
 go_upto_region 1 with fail
 rw [←hW];clear hW;obtain⟨ba,Aw⟩:=ArV w.heap.size;rw [←Aw]at hb1 hb2 hb3 hb4 ⊢;clear Aw;have k1:=Ab (o:=0) hb1 rfl;have k2:=Ab (o:=1) hb1 rfl;have k3:=Ab (o:=0) hb2 rfl;have k4:=Ab (o:=1) hb2 rfl;have k5:=Ab (o:=0) hb3 rfl;have k6:=Ab (o:=1) hb3 rfl;have k7:=Ab (o:=0) hb4 rfl;have k8:=Ab (o:=1) hb4 rfl
 go_cut [9] (fun v9 wx=>∃sh,v9=.bool sh/\sh=YO a b c d/\wx=W)
 case first=>
  cases e1:An a c
  ·cases e2:An a d
   ·cases e3:An b c
    ·cases e4:An b d
     ·go_wp2;go_meet;exact⟨_,rfl,by rw [KX.out,e1,e2,e3,e4];rfl,rfl⟩
     ·go_wp2;go_meet;exact⟨_,rfl,by rw [KX.out,e1,e2,e3,e4];rfl,rfl⟩
    ·go_wp2;go_meet;exact⟨_,rfl,by rw [KX.out,e1,e2,e3];rfl,rfl⟩
   ·go_wp2;go_meet;exact⟨_,rfl,by rw [KX.out,e1,e2];rfl,rfl⟩
  ·go_wp2;go_meet;exact⟨_,rfl,by rw [KX.out,e1];rfl,rfl⟩
 case rest=>
  obtain⟨sh,rfl,LP,rfl⟩:=hcut;have JQ:=ArW LP;clear LP KX;have Cu:=hw.ext hE
  go_upto_region 3 with fail
  go_loopw [47] (fun i wr=>∃j:Nat,i=.int .i64 (j:Nat)/\j<=4/\(∀t∈(IV a b c d).take j,Lh t.1 t.2.1 t.2.2=false)/\Aa wc wr) (fun i _=>4-(intOf i).toNat)
  case atStart=>exact⟨0,rfl,by omega,by simp,Aa.refl _⟩
  case round=>
   obtain⟨j,rfl,hj,Ah,Ad⟩:=hrel;have HO:=ArW Ah;clear Ah;by_cases hlt:j<4
   ·obtain⟨x,y,z,hix,EC,zx,zy,zz⟩:=XO hlt;have mG:=ze x y z zx zy zz hk hk2;have HX:=ArW (show Lh x y z=(Hg x y z&&(!An z x && !An z y))from rfl);have HG:=ArW EC;have hj0:(j:Int)<4:=(by omega);unfold Af at mG;clear EC XO zx zy zz t1 t2 t3 t4 r1 r2 r3 r4 k1 k2 k3 k4 k5 k6 k7 k8 hb1 hb2 hb3 hb4
    go_upto_region 5 with fail
    have Dj:=ArY wr (.cells #[S (R x.x),S (R x.y),S (R y.x),S (R y.y),S (R z.x),S (R z.y)] 204);have Fg:=Ad.alloc (.cells #[S (R x.x),S (R x.y),S (R y.x),S (R y.y),S (R z.x),S (R z.y)] 204);generalize wr.alloc (.cells #[S (R x.x),S (R x.y),S (R y.x),S (R y.y),S (R z.x),S (R z.y)] 204)=V at *;obtain⟨bv,ep⟩:=ArV wr.heap.size;rw [←ep]at Dj ⊢;clear ep;have s1:=Ab (o:=0) Dj rfl;have s2:=Ab (o:=1) Dj rfl;have s3:=Ab (o:=2) Dj rfl;have s4:=Ab (o:=3) Dj rfl;have s5:=Ab (o:=4) Dj rfl;have s6:=Ab (o:=5) Dj rfl;(go_wp2_with fail);(with_reducible refine(mG _ (Cu.ext Fg)).mono ?_);rintro e w1 ⟨rfl,hx1⟩;have Co:=(hx1.block _ (ArX Dj)).trans Dj;have hxb:=Fg.trans hx1;have q1:=Ab (o:=0) Co rfl;have q2:=Ab (o:=1) Co rfl;have q3:=Ab (o:=2) Co rfl;have q4:=Ab (o:=3) Co rfl;have q5:=Ab (o:=4) Co rfl;have q6:=Ab (o:=5) Co rfl;clear s1 s2 s3 s4 s5 s6 Dj hx1 Fg mG Co
    have hgo:Lh x y z=false→∀t∈(IV a b c d).take (j+1),Lh t.1 t.2.1 t.2.2=false:=by
     intro h0 t ht;have hl:j<(IV a b c d).length:=hlt;rw [Asd hl]at ht
     rcases List.mem_append.1 ht with h|h
     ·exact HO.out t h
     ·have e0:(IV a b c d)[j]=(x,y,z):=Option.some.inj ((Asf hl).symm.trans HG.out);rw [e0,Asn]at h;rw [h];exact h0
    have hst:Lh x y z=true→r=true:=by
     intro h0;rw [HR.out];unfold NR;rw [Bool.or_eq_true]
     left
     rw [List.any_eq_true];exact⟨(x,y,z),List.mem_of_getElem? HG.out,h0⟩
    have Zv:=ArW hgo;have HST:=ArW hst;clear hgo hst
    cases e0:Hg x y z
    ·have HE:=ArW e0;clear e0;go_wp2;go_roundw
     case rel=>exact⟨j+1,by go_num,by omega,Zv.out (by rw [HX.out,HE.out];rfl),hxb⟩
     case measure=>simp [intOf];omega
    ·cases e1:An z x
     ·cases e2:An z y
      ·have HE:=ArW (And.intro e0 (And.intro e1 e2));have hrt:r=true:=HST.out (by rw [HX.out,e0,e1,e2];rfl);subst hrt;go_wp2;go_ret;exact⟨rfl,hE.trans hxb⟩
      ·have HE:=ArW (And.intro e0 (And.intro e1 e2));go_wp2;go_roundw
       case rel=>exact⟨j+1,by go_num,by omega,Zv.out (by rw [HX.out,HE.out.1,HE.out.2.1,HE.out.2.2];rfl),hxb⟩
       case measure=>simp [intOf];omega
     ·have HE:=ArW (And.intro e0 e1);go_wp2;go_roundw
      case rel=>exact⟨j+1,by go_num,by omega,Zv.out (by rw [HX.out,HE.out.1,HE.out.2];rfl),hxb⟩
      case measure=>simp [intOf];omega
   ·have hle:(4:Int)<=(j:Int):=(by omega);obtain rfl:j=4:=by omega
    have hno:(IV a b c d).any (fun t=>Lh t.1 t.2.1 t.2.2)=false:=by rw [List.any_eq_false];intro t ht;rw [HO.out t (by rw [Asi (by simp [IV])];exact ht)];simp
    have GX:r=(!sh&&Ru a b c d):=(by rw [HR.out,JQ.out];unfold NR;rw [hno];rfl);have G7:=ArW GX;replace hb1:=(Ad.block _ (ArX hb1)).trans hb1;replace hb2:=(Ad.block _ (ArX hb2)).trans hb2;replace hb3:=(Ad.block _ (ArX hb3)).trans hb3;replace hb4:=(Ad.block _ (ArX hb4)).trans hb4;replace hE:=hE.trans Ad;clear k1 k2 k3 k4 k5 k6 k7 k8 hno GX HO JQ Cu Ad XO
    cases sh
    ·have k1:∀p:Ac wr,p.w.cell? ⟨ba,0,none⟩=some (S (R a.x)):=Ac.cell (Ab hb1 rfl);have k2:∀p:Ac wr,p.w.cell? ⟨ba,1,none⟩=some (S (R a.y)):=Ac.cell (Ab hb1 rfl);have k3:∀p:Ac wr,p.w.cell? ⟨ba+1,0,none⟩=some (S (R b.x)):=Ac.cell (Ab hb2 rfl);have k4:∀p:Ac wr,p.w.cell? ⟨ba+1,1,none⟩=some (S (R b.y)):=Ac.cell (Ab hb2 rfl);have k5:∀p:Ac wr,p.w.cell? ⟨ba+1+1,0,none⟩=some (S (R c.x)):=Ac.cell (Ab hb3 rfl);have k6:∀p:Ac wr,p.w.cell? ⟨ba+1+1,1,none⟩=some (S (R c.y)):=Ac.cell (Ab hb3 rfl);have k7:∀p:Ac wr,p.w.cell? ⟨ba+1+1+1,0,none⟩=some (S (R d.x)):=Ac.cell (Ab hb4 rfl);have k8:∀p:Ac wr,p.w.cell? ⟨ba+1+1+1,1,none⟩=some (S (R d.y)):=Ac.cell (Ab hb4 rfl);have hwr:=hw.ext hE;have Ie:r=Ru a b c d:=(by rw [G7.out];simp);rw [HP.out]at Ie;unfold KL at Ie;generalize AI (Ai a b c)=u1 at *;generalize AI (Ai a b d)=u2 at *;generalize AI (Ai c d a)=u3 at *;generalize AI (Ai c d b)=u4 at *;obtain⟨Yg,Tg⟩:=ArV (u1*u2);obtain⟨m34,Ti⟩:=ArV (u3*u4)
     have UU:IntKind.i64.wrap (u1*u2)=Yg:=by
      rw [Tg];clear Tg Ti Ie;obtain rfl|rfl|rfl:u1 = -1∨u1=0∨u1=1:=by omega
      all_goals (obtain rfl|rfl|rfl:u2 = -1∨u2=0∨u2=1:=by omega)
      all_goals rfl
     have w34:IntKind.i64.wrap (u3*u4)=m34:=by
      rw [Ti];clear Tg Ti Ie;obtain rfl|rfl|rfl:u3 = -1∨u3=0∨u3=1:=by omega
      all_goals (obtain rfl|rfl|rfl:u4 = -1∨u4=0∨u4=1:=by omega)
      all_goals rfl
     rw [←Tg,←Ti]at Ie;clear hb1 hb2 hb3 hb4 r1 r2 r3 r4 G7 HP Tg Ti;by_cases n1:Yg<0
     ·have d1:decide (Yg<0)=true:=decide_eq_true n1;rw [d1,Bool.true_and]at Ie;have HRP:=ArW Ie;clear Ie n1
      go_upto_region 8 with fail
      refine Bp (by kernel_rfl) (by kernel_rfl) ?_
      repeat (go_big_quiet_step (first|(with_reducible refine Di (t1 _ (hwr.ext (Ac.h _))))|(with_reducible refine Di (t2 _ (hwr.ext (Ac.h _))))|(with_reducible refine Di (t3 _ (hwr.ext (Ac.h _))))|(with_reducible refine Di (t4 _ (hwr.ext (Ac.h _))))))
      refine wpQuiet_nil ?_;rintro _ ⟨p,rfl⟩;go_wp2;go_ret;exact⟨by rw [HRP.out];rfl,hE.trans p.h⟩
     ·have d1:decide (Yg<0)=false:=decide_eq_false n1;rw [d1,Bool.false_and]at Ie;subst Ie;clear t3 t4 n1
      go_upto_region 8 with fail
      refine Bp (by kernel_rfl) (by kernel_rfl) ?_
      repeat (go_big_quiet_step (first|(with_reducible refine Di (t1 _ (hwr.ext (Ac.h _))))|(with_reducible refine Di (t2 _ (hwr.ext (Ac.h _))))|(with_reducible refine Di (t3 _ (hwr.ext (Ac.h _))))|(with_reducible refine Di (t4 _ (hwr.ext (Ac.h _))))))
      refine wpQuiet_nil ?_;rintro _ ⟨p,rfl⟩;go_wp2;go_ret;exact⟨rfl,hE.trans p.h⟩
    ·have hrt:r=false:=(by rw [G7.out];rfl);subst hrt
     go_upto_region 8 with fail
     refine Bp (by kernel_rfl) (by kernel_rfl) ?_
     repeat (go_big_quiet_step (first|(with_reducible refine Di (t1 _ (hwr.ext (Ac.h _))))|(with_reducible refine Di (t2 _ (hwr.ext (Ac.h _))))|(with_reducible refine Di (t3 _ (hwr.ext (Ac.h _))))|(with_reducible refine Di (t4 _ (hwr.ext (Ac.h _))))))
     refine wpQuiet_nil ?_;rintro _ ⟨p,rfl⟩;go_wp2;go_ret;exact⟨rfl,hE.trans p.h⟩
def Fh(l:List Pt)(p:Pt):Int:=match l.findIdx? (An p)with|some j=>(j:Int)|none=>-1
theorem qs{l:List Pt}{p:Pt}{j:Nat}(hj:j<l.length)(hno:∀q∈l.take j,An p q=false)(h:An p l[j]=true):Fh l p=(j:Int):=by
 unfold Fh
 have:l.findIdx? (An p)=some j:=by rw [List.findIdx?_eq_some_iff_getElem];refine⟨hj,h,fun i hi=>?_⟩;rw [Bool.not_eq_true];refine hno l[i] ?_;rw [List.mem_take_iff_getElem];exact⟨i,by omega,rfl⟩
 rw [this]
theorem qu{l:List Pt}{p:Pt}(hno:∀q∈l,An p q=false):Fh l p = -1:=by
 unfold Fh
 have:l.findIdx? (An p)=none:=by rw [List.findIdx?_eq_none_iff];exact hno
 rw [this]
theorem Aj3(l:List Pt)(p:Pt):decide (0<=Fh l p)=l.any (An p):=by
 unfold Fh
 cases h:l.findIdx? (An p)with
 | none=>
  rw [List.findIdx?_eq_none_iff]at h
  symm
  simp only [Int.reduceNeg,Int.reduceLE,decide_false,List.any_eq_false];intro x hx;rw [h x hx];simp
 | some j=>
  rw [List.findIdx?_eq_some_iff_getElem]at h;obtain⟨hj,h1,_⟩:=h;rw [decide_eq_true (by simp)]
  symm
  rw [List.any_eq_true];exact⟨_,Asa hj,h1⟩
theorem q8(l:List Pt)(p:Pt)(A:Option Addr)(c:Nat)(w:World)(hr:Ae w A (flat (Ak l)))(hc:l.length<=c)(hcm:c<=9223372036854775807) :
  Calls Tryz.prog 147 #[.slice A l.length c,Af p] w (Av (Fh l p) w):=by
 have pe:=Px;have hb0:=ArY w (.cells #[S (R p.x),S (R p.y)] 94);have hE:=(Aa.refl w).alloc (.cells #[S (R p.x),S (R p.y)] 94);obtain⟨r,hr0⟩:=ArV (Fh l p);rw [←hr0];have HR:=ArW hr0;unfold Af;clear hr0;go_enter Tryz.func147,Tryz.ntmps147
 go_upto_region 2 with fail
 generalize w.alloc (.cells #[S (R p.x),S (R p.y)] 94)=V at *;obtain⟨bp,AK⟩:=ArV w.heap.size;rw [←AK]at hb0 ⊢;clear AK
 go_loopw [8] (fun i wr=>∃j:Nat,i=.int .i64 (j:Nat)/\j<=l.length/\(∀q∈l.take j,An p q=false)/\Aa V wr) (fun i _=>l.length-(intOf i).toNat)
 case atStart=>exact⟨0,rfl,by omega,by simp,Aa.refl _⟩
 case round=>
  obtain⟨j,rfl,hj,Ah,Ad⟩:=hrel;have HO:=ArW Ah;clear Ah;have hbr:=(Ad.block _ (ArX hb0)).trans hb0;have s1:=Ab (o:=0) hbr rfl;have s2:=Ab (o:=1) hbr rfl;clear hbr;by_cases hlt:j<l.length
  ·obtain⟨b,o,rfl,hg1,hg2⟩:=Ca (hr.ext (hE.trans Ad)) hlt;obtain⟨q,hq⟩:=ArV (l[j]);rw [←hq]at hg1 hg2;have hj0:(0:Int)<=(j:Int):=(by omega);have A7:(j:Int)<(l.length:Int):=(by omega);have HQ:=ArW hq;clear hq
   cases e0:An p q
   ·have HE:=ArW e0
    go_upto_region 4 with fail
    go_quiet (fail)
    go_wp2;go_roundw
    case rel=>
     refine⟨j+1,by go_num,hlt,?_,Ad.drewN _⟩;intro x hx;rw [Asd hlt,←HQ.out]at hx
     rcases List.mem_append.1 hx with h|h
     ·exact HO.out x h
     ·simp only [Asn]at h;rw [h];exact HE.out
    case measure=>simp [intOf];omega
   ·have Ct:r=(j:Int):=(by rw [HR.out];exact qs hlt HO.out (by rw [←HQ.out];exact e0));subst Ct
    go_upto_region 4 with fail
    go_quiet (fail)
    go_wp2;go_ret;exact⟨rfl,(hE.trans Ad).drewN _⟩
  ·have hle:(l.length:Int)<=(j:Int):=(by omega);have Ct:r = -1:=(by rw [HR.out];exact qu (by have:=HO.out;rw [Asi (by omega)]at this;exact this));subst Ct;clear s1 s2;go_wp2;go_ret;exact⟨rfl,hE.trans Ad⟩
theorem contains_c(l:List Pt)(p:Pt)(A:Option Addr)(c:Nat)(w:World)(hr:Ae w A (flat (Ak l)))(hc:l.length<=c)(hcm:c<=9223372036854775807) :
  Calls Tryz.prog 78 #[.slice A l.length c,Af p] w (Bw (l.any (An p)) w):=by
 have hE:=(Aa.refl w).alloc (.cells #[S (R p.x),S (R p.y)] 94);have ix:=q8 l p A c (w.alloc (.cells #[S (R p.x),S (R p.y)] 94)) (hr.ext hE) hc hcm;have ha:=Aj3 l p;obtain⟨r,hr0⟩:=ArV (l.any (An p));rw [←hr0]at ha ⊢;generalize Fh l p=z at *;unfold Af at ix ⊢;clear hr hr0;go_enter Tryz.func78,Tryz.ntmps78;(go_wp2_with fail);(with_reducible refine ix.mono ?_);rintro e w1 ⟨rfl,hx⟩;go_wp2;go_ret;exact⟨by rw [←ha];rfl,hE.trans hx⟩
/-! ### Edges -/
structure AD where
 f:Int
 t:Int
 l:Int
 r:Int
def cG(e:AD):Value:=.agg #[.int .i64 e.f,.int .i64 e.t,.int .i64 e.l,.int .i64 e.r]
def B6(l:List AD):List Value:=l.flatMap (fun e=>[.int .i64 e.f,.int .i64 e.t,.int .i64 e.l,.int .i64 e.r])
theorem AfD(l:List AD):(B6 l).length=l.length*4:=by
 induction l with
 | nil=>rfl
 | cons e l ih=>unfold B6 at *;simp only [List.flatMap_cons,List.length_append,ih,List.length_cons,List.length_nil];omega
theorem vX:∀(l:List AD) (j:Nat) (h:j<l.length),(B6 l)[j*4]?=some (.int .i64 l[j].f)/\(B6 l)[j*4+1]?=some (.int .i64 l[j].t)/\(B6 l)[j*4+2]?=some (.int .i64 l[j].l)/\(B6 l)[j*4+3]?=some (.int .i64 l[j].r)
 | e::l,0,_=>⟨rfl,rfl,rfl,rfl⟩
 | e::l,j+1,h=>by
  have ih:=vX l j (by simpa using h);have e0:B6 (e::l)=.int .i64 e.f :: .int .i64 e.t :: .int .i64 e.l :: .int .i64 e.r::B6 l:=rfl;rw [e0];have e1:(j+1)*4=j*4+1+1+1+1:=(by omega);rw [e1]
  simpa using ih
theorem UI{w:World}{A:Option Addr}{l:List AD}(hr:Ae w A (B6 l)){j:Nat}(h:j<l.length):∃b o,A=some ⟨b,o,none⟩/\w.cell? ⟨b,o+j*4,none⟩=some (.int .i64 l[j].f)/\w.cell? ⟨b,o+j*4+1,none⟩=some (.int .i64 l[j].t)/\w.cell? ⟨b,o+j*4+2,none⟩=some (.int .i64 l[j].l)/\w.cell? ⟨b,o+j*4+3,none⟩=some (.int .i64 l[j].r):=by
 have hl:=AfD l;obtain⟨b,o,e,hcs⟩:=hr.ad (by omega);obtain⟨f1,f2,f3,f4⟩:=vX l j h;have g1:=hcs (j*4) (by omega);have g2:=hcs (j*4+1) (by omega);have g3:=hcs (j*4+2) (by omega);have g4:=hcs (j*4+3) (by omega);rw [Asf (by omega),Ase]at f1 f2 f3 f4;rw [f1]at g1;rw [f2,←Nat.add_assoc]at g2;rw [f3,←Nat.add_assoc]at g3;rw [f4,←Nat.add_assoc]at g4;exact⟨b,o,e,g1,g2,g3,g4⟩
theorem An5{P:Program}{w:World}(ts:Array TypeId)(t:TypeId)(k:IntKind)(a b:Int):(Builtin.min_ ts t #[.int k a,.int k b]).run P w=.ok (.int k (min a b)) w:=by
 have m:∀x y:Int,(if y<x then y else x)=min x y:=(by intro x y;split<;>omega);simp only [Builtin.min_,List.foldlM_cons,List.foldlM_nil,Builtin.min2];simp [m]
theorem An3{P:Program}{w:World}(ts:Array TypeId)(t:TypeId)(k:IntKind)(a b:Int):(Builtin.max_ ts t #[.int k a,.int k b]).run P w=.ok (.int k (max a b)) w:=by
 have m:∀x y:Int,(if y>x then y else x)=max x y:=(by intro x y;split<;>omega);simp only [Builtin.max_,List.foldlM_cons,List.foldlM_nil,Builtin.max2];simp [m]
def FT(f e:AD):Bool:=(decide (f.f=e.f)&&decide (f.t=e.t))||(decide (f.f=e.t)&&decide (f.t=e.f))
theorem AfC(f e:AD)(b:Nat)(t:TypeId)(w:World)(hb:w.heap[b]?=some (.cells #[.int .i64 e.f,.int .i64 e.t,.int .i64 e.l,.int .i64 e.r] t)) :
  Calls Tryz.prog 150 #[cG f,.pointer (some ⟨b,0,none⟩)] w (Bw (FT f e) w):=by
 have k1:=Ab (o:=0) hb rfl;have k2:=Ab (o:=1) hb rfl;have hx:=(Aa.refl w).alloc (.cells #[.int .i64 f.f,.int .i64 f.t,.int .i64 f.l,.int .i64 f.r] 126);have j1:=hx.cellS k1;have j2:=hx.cellS k2;obtain⟨r,hr⟩:=ArV (FT f e);rw [←hr];have HR:=ArW hr;have GX:r=((f.f == e.f)&&(f.t == e.t)||(f.f == e.t)&&(f.t == e.f)):=hr;unfold cG;clear hr hb k1 k2 HR
 cases h1:(f.f == e.f)<;>cases h2:(f.t == e.t)<;>cases h3:(f.f == e.t)<;>cases h4:(f.t == e.f)
 all_goals (
  rw [h1,h2,h3,h4]at GX;have HH:=ArW GX;clear GX;go_enter Tryz.func150,Tryz.ntmps150;go_wp2;go_ret
  exact⟨by rw [HH.out];rfl,hx⟩)
def EL(n:Nat)(z:Int):Bool:=decide (-1<=z)&&decide (z<(n:Int))
theorem AaL(z:Int)(b n g:Nat)(F:Option Addr)(v0 v1:Value)(t:TypeId)(w:World)(hb:w.heap[b]?=some (.cells #[v0,v1,.slice F n g] t)) :
  Calls Tryz.prog 148 #[.int .i64 z,.pointer (some ⟨b,0,none⟩)] w (Bw (EL n z) w):=by
 have k1:=Ab (o:=2) hb rfl;obtain⟨r,hr⟩:=ArV (EL n z);rw [←hr];have HR:=ArW hr;clear hr hb;by_cases h1:-1<=z
 ·have d1:decide (-1<=z)=true:=decide_eq_true h1;by_cases h2:z<(n:Int)
  ·have d2:decide (z<(n:Int))=true:=decide_eq_true h2;have HH:=ArW (show r=true by rw [HR.out];unfold EL;rw [d1,d2];rfl);go_enter Tryz.func148,Tryz.ntmps148;go_wp2;go_ret;exact⟨by rw [HH.out];rfl,Aa.refl _⟩
  ·have d2:decide (z<(n:Int))=false:=decide_eq_false h2;have HH:=ArW (show r=false by rw [HR.out];unfold EL;rw [d1,d2];rfl);clear h2;go_enter Tryz.func148,Tryz.ntmps148;go_wp2;go_ret;exact⟨by rw [HH.out];rfl,Aa.refl _⟩
 ·have d1:decide (-1<=z)=false:=decide_eq_false h1;have HH:=ArW (show r=false by rw [HR.out];unfold EL;rw [d1];rfl);clear h1;go_enter Tryz.func148,Tryz.ntmps148;go_wp2;go_ret;exact⟨by rw [HH.out];rfl,Aa.refl _⟩
end Go.Proofs.YtbejphgbbpplbaaGreatDoor
