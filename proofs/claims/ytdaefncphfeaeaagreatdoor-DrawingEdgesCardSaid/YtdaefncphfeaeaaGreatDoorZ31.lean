/- Z31: Q6 Q7 Q8 Q9 QD. -/
import Derived.Test.YtdaefncphfeaeaaGreatDoorZ29
set_option maxRecDepth 100000
set_option maxHeartbeats 16000000
namespace Go.Proofs.YtdaefncphfeaeaaGreatDoor
open Go.RowKit Kl
theorem mK(a b:Pt)(ha:Aq 20 a)(hb:Aq 20 b)(w:World)(hw:Ai w):Calls Tryz.prog 159 #[Ak a,Ak b] w (AQ (Bp a b) w):=by
 have c1:=CJ a.x b.x (a:=20) (b:=20) ⟨ha.x,hb.x,by omega,by omega,by omega⟩;have c2:=CJ a.y b.y (a:=20) (b:=20) ⟨ha.y,hb.y,by omega,by omega,by omega⟩;have k1:=Ase w (.cells #[S (R a.x),S (R a.y)] 35);have hE:=((Aa.refl w).alloc (.cells #[S (R a.x),S (R a.y)] 35)).alloc (.cells #[S (R b.x),S (R b.y)] 35);have hb1:=(Below.heap_alloc (w.alloc (.cells #[S (R a.x),S (R a.y)] 35)) (.cells #[S (R b.x),S (R b.y)] 35) w.heap.size (by simp)).trans k1;have hb2:=Ase (w.alloc (.cells #[S (R a.x),S (R a.y)] 35)) (.cells #[S (R b.x),S (R b.y)] 35);rw [Asn]at hb2
 have hl:Bp a b=if AD a.x b.x≠0 then AD a.x b.x else AD a.y b.y:=rfl
 rw [hl];obtain⟨u,hu⟩:=AcG (AD a.x b.x);obtain⟨v,hv⟩:=AcG (AD a.y b.y);rw [←hu]at c1 ⊢;rw [←hv]at c2 ⊢;obtain⟨r,hr⟩:=AcG (if u≠0 then u else v);rw [←hr];have HR:=Asb hr;unfold Ak;clear hr hu hv hl k1 ha hb;go_enter Tryz.func159,Tryz.ntmps159
 go_upto_region 1 with fail
 generalize (w.alloc (.cells #[S (R a.x),S (R a.y)] 35)).alloc (.cells #[S (R b.x),S (R b.y)] 35)=V at *;obtain⟨bp,AS⟩:=AcG w.heap.size;rw [←AS]at hb1 hb2 ⊢;clear AS;have q1:=Ab (o:=0) hb1 rfl;have q2:=Ab (o:=0) hb2 rfl;have q3:=Ab (o:=1) hb1 rfl;have q4:=Ab (o:=1) hb2 rfl;(go_wp2_with fail);(with_reducible refine(c1 _ (hw.ext hE)).mono ?_);rintro e w1 ⟨rfl,hx1⟩;have hw1:=hw.ext (hE.trans hx1);replace q3:=hx1.cellS q3;replace q4:=hx1.cellS q4;by_cases h0:u=0
 ·subst h0;obtain rfl:r=v:=(by rw [HR.out,if_neg (by omega)]);(go_wp2_with fail);(with_reducible refine(c2 _ hw1).mono ?_);rintro e w2 ⟨rfl,hx2⟩;go_wp2;go_ret;exact⟨rfl,(hE.trans hx1).trans hx2⟩
 ·obtain rfl:r=u:=(by rw [HR.out,if_pos h0]);go_wp2;go_ret;exact⟨rfl,hE.trans hx1⟩
theorem Aao(p q:Pt):Ar p q=Ar q p:=by
 cases h:Ar q p
 ·rw [Bool.eq_false_iff]at h ⊢;exact fun k=>h (Di.2 (Di.1 k).symm)
 ·exact Di.2 (Di.1 h).symm
def Zf(a b:Hf):Bool:=decide (Bp a.a b.a<0)||(decide (Bp a.a b.a=0)&&decide (Bp a.b b.b<0))
theorem Ak7(a b:Hf)(h1:Aq 20 a.a)(h2:Aq 20 a.b)(h3:Aq 20 b.a)(h4:Aq 20 b.b)(w:World)(hw:Ai w):Calls Tryz.prog 157 #[Jo a,Jo b] w (Dq (Zf a b) w):=by
 have c1:=mK a.a b.a h1 h3;have c2:=mK a.b b.b h2 h4;have k1:=Ase w (.cells #[S (R a.a.x),S (R a.a.y),S (R a.b.x),S (R a.b.y),.int .i64 a.l] 137);have hE:=((Aa.refl w).alloc (.cells #[S (R a.a.x),S (R a.a.y),S (R a.b.x),S (R a.b.y),.int .i64 a.l] 137)).alloc (.cells #[S (R b.a.x),S (R b.a.y),S (R b.b.x),S (R b.b.y),.int .i64 b.l] 137);have hb1:=(Below.heap_alloc (w.alloc (.cells #[S (R a.a.x),S (R a.a.y),S (R a.b.x),S (R a.b.y),.int .i64 a.l] 137)) (.cells #[S (R b.a.x),S (R b.a.y),S (R b.b.x),S (R b.b.y),.int .i64 b.l] 137) w.heap.size (by simp)).trans k1;have hb2:=Ase (w.alloc (.cells #[S (R a.a.x),S (R a.a.y),S (R a.b.x),S (R a.b.y),.int .i64 a.l] 137)) (.cells #[S (R b.a.x),S (R b.a.y),S (R b.b.x),S (R b.b.y),.int .i64 b.l] 137);rw [Asn]at hb2;obtain⟨r,hr⟩:=AcG (Zf a b);rw [←hr];unfold Zf at hr;obtain⟨u,hu⟩:=AcG (Bp a.a b.a);obtain⟨v,hv⟩:=AcG (Bp a.b b.b);rw [←hu]at c1 hr;rw [←hv]at c2 hr;unfold Jo;unfold Ak at c1 c2;clear hu hv k1 h1 h2 h3 h4;go_enter Tryz.func157,Tryz.ntmps157
 go_upto_region 1 with fail
 generalize (w.alloc (.cells #[S (R a.a.x),S (R a.a.y),S (R a.b.x),S (R a.b.y),.int .i64 a.l] 137)).alloc (.cells #[S (R b.a.x),S (R b.a.y),S (R b.b.x),S (R b.b.y),.int .i64 b.l] 137)=V at *;obtain⟨bp,AS⟩:=AcG w.heap.size;rw [←AS]at hb1 hb2 ⊢;clear AS;have q1:=Ab (o:=0) hb1 rfl;have q2:=Ab (o:=1) hb1 rfl;have q3:=Ab (o:=2) hb1 rfl;have q4:=Ab (o:=3) hb1 rfl;have p1:=Ab (o:=0) hb2 rfl;have p2:=Ab (o:=1) hb2 rfl;have p3:=Ab (o:=2) hb2 rfl;have p4:=Ab (o:=3) hb2 rfl;(go_wp2_with fail);(with_reducible refine(c1 _ (hw.ext hE)).mono ?_);rintro e w1 ⟨rfl,hx1⟩;have hx:=hE.trans hx1;have hw1:=hw.ext hx;replace q3:=hx1.cellS q3;replace q4:=hx1.cellS q4;replace p3:=hx1.cellS p3;replace p4:=hx1.cellS p4;clear q1 q2 p1 p2 hb1 hb2 hE hx1 c1;by_cases g1:u<0
 ·rw [decide_eq_true g1,Bool.true_or]at hr;subst hr;go_wp2;go_ret;exact⟨rfl,hx⟩
 ·have d1:decide (u<0)=false:=decide_eq_false g1;rw [d1,Bool.false_or]at hr;by_cases g2:u=0
  ·subst g2;rw [decide_eq_true rfl,Bool.true_and]at hr;have HR:=Asb hr;clear hr d1 g1;(go_wp2_with fail);(with_reducible refine(c2 _ hw1).mono ?_);rintro e w2 ⟨rfl,hx2⟩;go_wp2;go_ret;exact⟨by rw [HR.out];rfl,hx.trans hx2⟩
  ·have d2:decide (u=0)=false:=decide_eq_false g2;rw [d2,Bool.false_and]at hr;subst hr;go_wp2;go_ret;exact⟨rfl,hx⟩
theorem wn(l:List Pt)(p:Pt)(A:Option Addr)(c:Nat)(v1 v2:Value)(w:World)(hr:Am w A (flat (AI l)))(hc:l.length<=c)(hcm:c<=9223372036854775807) :
  Calls Tryz.prog 160 #[.agg #[.slice A l.length c,v1,v2],Ak p] w (AQ (FV l p) w):=by
 have pe:=RR;have k1:=Ase w (.cells #[.slice A l.length c,v1,v2] 43);have hE:=((Aa.refl w).alloc (.cells #[.slice A l.length c,v1,v2] 43)).alloc (.cells #[S (R p.x),S (R p.y)] 35);have hb1:=(Below.heap_alloc (w.alloc (.cells #[.slice A l.length c,v1,v2] 43)) (.cells #[S (R p.x),S (R p.y)] 35) w.heap.size (by simp)).trans k1;have hb2:=Ase (w.alloc (.cells #[.slice A l.length c,v1,v2] 43)) (.cells #[S (R p.x),S (R p.y)] 35);rw [Asn]at hb2;obtain⟨r,hr0⟩:=AcG (FV l p);rw [←hr0];have HR:=Asb hr0;unfold Ak;clear hr0 k1;go_enter Tryz.func160,Tryz.ntmps160
 go_upto_region 2 with fail
 generalize (w.alloc (.cells #[.slice A l.length c,v1,v2] 43)).alloc (.cells #[S (R p.x),S (R p.y)] 35)=V at *;obtain⟨bp,AS⟩:=AcG w.heap.size;rw [←AS]at hb1 hb2 ⊢;clear AS
 go_loopw [5] (fun i wr=>∃j:Nat,i=.int .i64 (j:Nat)/\j<=l.length/\(∀q∈l.take j,Ar p q=false)/\Aa V wr) (fun i _=>l.length-(intOf i).toNat)
 case atStart=>exact⟨0,rfl,by omega,by simp,Aa.refl _⟩
 case round=>
  obtain⟨j,rfl,hj,Au,Ac⟩:=hrel;have HO:=Asb Au;clear Au;have hbr:=(Ac.block _ (Asd hb1)).trans hb1;have Ia:=(Ac.block _ (Asd hb2)).trans hb2;have m0:=Ab (o:=0) hbr rfl;have n0:∀q:Ad wr,q.w.cell? ⟨bp,0,none⟩=some (.slice A l.length c):=Ad.cell m0;have n1:∀q:Ad wr,q.w.cell? ⟨bp+1,0,none⟩=some (S (R p.x)):=Ad.cell (Ab (o:=0) Ia rfl);have n2:∀q:Ad wr,q.w.cell? ⟨bp+1,1,none⟩=some (S (R p.y)):=Ad.cell (Ab (o:=1) Ia rfl);clear hbr Ia;by_cases hlt:j<l.length
  ·obtain⟨b,o,hA,hg1,hg2⟩:=BO (hr.ext (hE.trans Ac)) hlt;obtain⟨q,hq⟩:=AcG (l[j]);rw [←hq]at hg1 hg2;have j1:∀z:Ad wr,z.w.cell? ⟨b,o+j*2,none⟩=some (S (R q.x)):=Ad.cell hg1;have j2:∀z:Ad wr,z.w.cell? ⟨b,o+j*2+1,none⟩=some (S (R q.y)):=Ad.cell hg2;have hj0:(0:Int)<=(j:Int):=(by omega);have AG:(j:Int)<(l.length:Int):=(by omega);have HQ:=Asb hq;subst hA;clear hq hg1 hg2
   cases e0:Ar p q
   ·have HE:=Asb e0;have e1:Ar q p=false:=(by rw [←e0];exact Aao q p);clear e0
    go_upto_region 4 with fail
    refine Bi (by kernel_rfl) (by kernel_rfl) ?_
    repeat (go_big_quiet_step (fail))
    refine wpQuiet_nil ?_;rintro _ ⟨z,rfl⟩;go_wp2;go_roundw
    case rel=>
     refine⟨j+1,by go_num,hlt,?_,Ac.trans z.h⟩;intro x hx;rw [Asi hlt,←HQ.out]at hx
     rcases List.mem_append.1 hx with h|h
     ·exact HO.out x h
     ·simp only [Ass]at h;rw [h];exact HE.out
    case measure=>simp [intOf];omega
   ·have Hl:r=(j:Int):=(by rw [HR.out];exact ut hlt HO.out (by rw [←HQ.out];exact e0));have e1:Ar q p=true:=(by rw [←e0];exact Aao q p);clear e0;subst Hl
    go_upto_region 4 with fail
    refine Bi (by kernel_rfl) (by kernel_rfl) ?_
    repeat (go_big_quiet_step (fail))
    refine wpQuiet_nil ?_;rintro _ ⟨z,rfl⟩;go_wp2;go_ret;exact⟨rfl,(hE.trans Ac).trans z.h⟩
  ·have hle:(l.length:Int)<=(j:Int):=(by omega);have Hl:r = -1:=(by rw [HR.out];exact uu (by have:=HO.out;rw [Aso (by omega)]at this;exact this));subst Hl;clear n0 n1 n2;go_wp2;go_ret;exact⟨rfl,hE.trans Ac⟩
def rO(l:List Hf):Prop:=∀h∈l,BL h.a/\BL h.b
def Je(l:List Hf)(p:Pt):Nat:=l.countP (fun h=>Ar h.a p)
theorem Alg(l:List Hf)(hl:rO l)(hlen:l.length<=100000)(i:Nat)(hi:i<l.length)(A:Option Addr)(c:Nat)(w:World)(hw:Ai w)(hr:Am w A (Bl l))(hc:l.length<=c)(hcm:c<=9223372036854775807) :
  Calls Tryz.prog 155 #[.slice A l.length c,.int .i64 (i:Nat)] w fun e w'=>∃k:Int,e=.returned (.int .i64 k)/\Aa w w'/\(k<0∨∃kk,∃h:kk<l.length,k=(kk:Int)/\Je l l[i].b=2/\Ar l[i].a l[kk].b=false):=by
 have pe:=RR;have pn:=Vz;obtain⟨h0,Ue⟩:=AcG (l[i]);have hs0:=hl _ (Asg hi);rw [←Ue]at hs0;have qN:=Asb Ue;have HL:=Asb hl;rw [←Ue];have KR:(0:Int)<=(i:Int):=(by omega);have Pg:(i:Int)<(l.length:Int):=by omega
 have hat:∀wr,Aa w wr→∃b o,A=some ⟨b,o,none⟩/\Kv wr b (o+i*5) h0:=fun wr hx=>by obtain⟨b,o,e,h⟩:=M6 (hr.ext hx) hi;exact⟨b,o,e,by rw [Ue];exact h⟩
 clear hl Ue;obtain⟨bA,oA,rfl,-⟩:=hat w (Aa.refl w)
 have hat':∀wr,Aa w wr→Kv wr bA (oA+i*5) h0:=fun wr hx=>by obtain⟨b,o,e,h⟩:=hat wr hx;simp only [Asj,Addr.mk.injEq,and_true]at e;obtain⟨rfl,rfl⟩:=e;exact h
 clear hat;go_enter Tryz.func155,Tryz.ntmps155
 go_upto_region 3 with fail
 go_loopw [5,6,7] (fun cv nv iv wr=>∃(j:Nat) (nx:Int),iv=.int .i64 (j:Nat)/\cv=.int .i64 ((Je (l.take j) h0.b:Nat):Int)/\nv=.int .i64 nx/\j<=l.length/\Aa w wr/\(nx = -1∨∃kk:Nat,kk<l.length/\nx=(kk:Int))) (fun _ _ iv _=>l.length-(intOf iv).toNat)
 case atStart=>exact⟨0,-1,rfl,rfl,rfl,by omega,Aa.refl _,.inl rfl⟩
 case round=>
  obtain⟨j,nx,rfl,rfl,rfl,hj,Ac,Ep⟩:=hrel;have HN:=Asb Ep;have OL:=hat' wr Ac;obtain⟨a0,a1,a2,a3,a4⟩:=OL;have b0:∀q:Ad wr,q.w.cell? ⟨bA,oA+i*5,none⟩=some (S (R h0.a.x)):=Ad.cell a0;have b1:∀q:Ad wr,q.w.cell? ⟨bA,oA+i*5+1,none⟩=some (S (R h0.a.y)):=Ad.cell a1;have b2:∀q:Ad wr,q.w.cell? ⟨bA,oA+i*5+2,none⟩=some (S (R h0.b.x)):=Ad.cell a2;have b3:∀q:Ad wr,q.w.cell? ⟨bA,oA+i*5+3,none⟩=some (S (R h0.b.y)):=Ad.cell a3;have b4:∀q:Ad wr,q.w.cell? ⟨bA,oA+i*5+4,none⟩=some (.int .i64 h0.l):=Ad.cell a4;clear Ep;by_cases hlt:j<l.length
  ·obtain⟨dH,mV,e,f0,f1,f2,f3,f4⟩:=M6 (hr.ext Ac) hlt;simp only [Asj,Addr.mk.injEq,and_true]at e;obtain⟨rfl,rfl⟩:=e;obtain⟨x,hx⟩:=AcG (l[j]);rw [←hx]at f0 f1 f2 f3 f4;have j0:∀q:Ad wr,q.w.cell? ⟨bA,oA+j*5,none⟩=some (S (R x.a.x)):=Ad.cell f0;have j1:∀q:Ad wr,q.w.cell? ⟨bA,oA+j*5+1,none⟩=some (S (R x.a.y)):=Ad.cell f1;have j2:∀q:Ad wr,q.w.cell? ⟨bA,oA+j*5+2,none⟩=some (S (R x.b.x)):=Ad.cell f2;have j3:∀q:Ad wr,q.w.cell? ⟨bA,oA+j*5+3,none⟩=some (S (R x.b.y)):=Ad.cell f3;have hj0:(0:Int)<=(j:Int):=(by omega);have AG:(j:Int)<(l.length:Int):=by omega
   have By:Je (l.take (j+1)) h0.b=Je (l.take j) h0.b+if Ar x.a h0.b=true then 1 else 0:=by unfold Je;rw [Asi hlt,List.countP_append,←hx,List.countP_singleton]
   have Aie:Je (l.take j) h0.b<=l.length:=Asq List.countP_le_length (by rw [List.length_take];omega);have hcw:IntKind.wrap .i64 (((Je (l.take j) h0.b:Nat):Int)+1)=((Je (l.take j) h0.b:Nat):Int)+1:=Asm _ (by omega);clear f0 f1 f2 f3 f4 a0 a1 a2 a3 a4;obtain⟨cn,ei⟩:=AcG (Je (l.take j) h0.b);rw [←ei]at By hcw ⊢;have HC:=Asb By;clear By ei hx Aie
   cases e0:Ar x.a h0.b
   ·go_upto_region 5 with fail
    refine Bi (by kernel_rfl) (by kernel_rfl) ?_
    repeat (go_big_quiet_step (fail))
    refine wpQuiet_nil ?_;rintro _ ⟨q,rfl⟩;go_wp2;go_roundw
    case rel=>exact⟨j+1,nx,by go_num,by rw [HC.out,e0];rfl,rfl,hlt,Ac.trans q.h,HN.out⟩
    case measure=>simp [intOf];omega
   ·cases e1:Ar x.b h0.a
    ·go_upto_region 5 with fail
     refine Bi (by kernel_rfl) (by kernel_rfl) ?_
     repeat (go_big_quiet_step (fail))
     refine wpQuiet_nil ?_;rintro _ ⟨q,rfl⟩
     go_upto_region 7 with fail
     obtain⟨W1,hx1⟩:=q;have i0:∀q:Ad W1,q.w.cell? ⟨bA,oA+i*5,none⟩=some (S (R h0.a.x)):=fun q=>b0 ⟨q.w,hx1.trans q.h⟩;have i1:∀q:Ad W1,q.w.cell? ⟨bA,oA+i*5+1,none⟩=some (S (R h0.a.y)):=fun q=>b1 ⟨q.w,hx1.trans q.h⟩;have i2:∀q:Ad W1,q.w.cell? ⟨bA,oA+j*5+2,none⟩=some (S (R x.b.x)):=fun q=>j2 ⟨q.w,hx1.trans q.h⟩;have i3:∀q:Ad W1,q.w.cell? ⟨bA,oA+j*5+3,none⟩=some (S (R x.b.y)):=fun q=>j3 ⟨q.w,hx1.trans q.h⟩;clear b0 b1 b2 b3 b4 j0 j1 j2 j3;refine Bi (by kernel_rfl) (by kernel_rfl) ?_
     repeat (go_big_quiet_step (fail))
     refine wpQuiet_nil ?_;rintro _ ⟨q,rfl⟩;go_wp2;go_roundw
     case rel=>exact⟨j+1,(j:Int),by go_num,by rw [HC.out,e0];go_num,rfl,hlt,Ac.trans (hx1.trans q.h),.inr ⟨j,hlt,rfl⟩⟩
     case measure=>simp [intOf];omega
    ·go_upto_region 5 with fail
     refine Bi (by kernel_rfl) (by kernel_rfl) ?_
     repeat (go_big_quiet_step (fail))
     refine wpQuiet_nil ?_;rintro _ ⟨q,rfl⟩
     go_upto_region 7 with fail
     obtain⟨W1,hx1⟩:=q;have i0:∀q:Ad W1,q.w.cell? ⟨bA,oA+i*5,none⟩=some (S (R h0.a.x)):=fun q=>b0 ⟨q.w,hx1.trans q.h⟩;have i1:∀q:Ad W1,q.w.cell? ⟨bA,oA+i*5+1,none⟩=some (S (R h0.a.y)):=fun q=>b1 ⟨q.w,hx1.trans q.h⟩;have i2:∀q:Ad W1,q.w.cell? ⟨bA,oA+j*5+2,none⟩=some (S (R x.b.x)):=fun q=>j2 ⟨q.w,hx1.trans q.h⟩;have i3:∀q:Ad W1,q.w.cell? ⟨bA,oA+j*5+3,none⟩=some (S (R x.b.y)):=fun q=>j3 ⟨q.w,hx1.trans q.h⟩;clear b0 b1 b2 b3 b4 j0 j1 j2 j3;refine Bi (by kernel_rfl) (by kernel_rfl) ?_
     repeat (go_big_quiet_step (fail))
     refine wpQuiet_nil ?_;rintro _ ⟨q,rfl⟩;go_wp2;go_roundw
     case rel=>exact⟨j+1,nx,by go_num,by rw [HC.out,e0];go_num,rfl,hlt,Ac.trans (hx1.trans q.h),HN.out⟩
     case measure=>simp [intOf];omega
  ·have FO:j=l.length:=(by omega);subst FO;have hnl:(l.length:Int)<=(l.length:Int):=(by omega);obtain⟨cn,By⟩:=AcG (Je (l.take l.length) h0.b);rw [←By];have Sq:=Asb (show cn=Je l h0.b by rw [By,List.take_length]);clear By;by_cases h2:cn=2
   ·subst h2
    rcases HN.out with rfl|⟨kk,Dd,rfl⟩
    ·go_upto_region 9 with fail
     refine Bi (by kernel_rfl) (by kernel_rfl) ?_
     repeat (go_big_quiet_step (fail))
     refine wpQuiet_nil ?_;rintro _ ⟨q,rfl⟩;go_wp2;go_ret;exact⟨-1,rfl,Ac.trans q.h,.inl (by omega)⟩
    ·obtain⟨dH,mV,e,f0,f1,f2,f3,f4⟩:=M6 (hr.ext Ac) Dd;simp only [Asj,Addr.mk.injEq,and_true]at e;obtain⟨rfl,rfl⟩:=e;have Es:=HL.out _ (Asg Dd);obtain⟨y,hy⟩:=AcG (l[kk]);rw [←hy]at f0 f1 f2 f3 f4 Es;have HY:=Asb hy;have j2:∀q:Ad wr,q.w.cell? ⟨bA,oA+kk*5+2,none⟩=some (S (R y.b.x)):=Ad.cell f2;have j3:∀q:Ad wr,q.w.cell? ⟨bA,oA+kk*5+3,none⟩=some (S (R y.b.y)):=Ad.cell f3;have j4:∀q:Ad wr,q.w.cell? ⟨bA,oA+kk*5+4,none⟩=some (.int .i64 y.l):=Ad.cell f4;have hk0:(0:Int)<=(kk:Int):=(by omega);have Bv:(kk:Int)<(l.length:Int):=(by omega);have Ul:decide ((kk:Int)<0)=false:=decide_eq_false (by omega);clear hy f0 f1 f2 f3 f4 a0 a1 a2 a3 a4;by_cases P4:y.l=h0.l
     ·have hyn:(y.l != h0.l)=false:=by rw [P4];simp
      go_upto_region 9 with fail
      refine Bi (by kernel_rfl) (by kernel_rfl) ?_
      repeat (go_big_quiet_step (fail))
      refine wpQuiet_nil ?_;rintro W1 ⟨q,hq⟩;have hx1:Aa wr W1:=hq▸q.h;clear hq q;have i0:∀q:Ad W1,q.w.cell? ⟨bA,oA+i*5,none⟩=some (S (R h0.a.x)):=fun q=>b0 ⟨q.w,hx1.trans q.h⟩;have i1:∀q:Ad W1,q.w.cell? ⟨bA,oA+i*5+1,none⟩=some (S (R h0.a.y)):=fun q=>b1 ⟨q.w,hx1.trans q.h⟩;have i2:∀q:Ad W1,q.w.cell? ⟨bA,oA+i*5+2,none⟩=some (S (R h0.b.x)):=fun q=>b2 ⟨q.w,hx1.trans q.h⟩;have i3:∀q:Ad W1,q.w.cell? ⟨bA,oA+i*5+3,none⟩=some (S (R h0.b.y)):=fun q=>b3 ⟨q.w,hx1.trans q.h⟩;have k2:∀q:Ad W1,q.w.cell? ⟨bA,oA+kk*5+2,none⟩=some (S (R y.b.x)):=fun q=>j2 ⟨q.w,hx1.trans q.h⟩;have k3:∀q:Ad W1,q.w.cell? ⟨bA,oA+kk*5+3,none⟩=some (S (R y.b.y)):=fun q=>j3 ⟨q.w,hx1.trans q.h⟩;have hw1:=hw.ext (Ac.trans hx1);have tc:=fun (q:Ad W1)=>AoX h0.a h0.b y.b hs0.1.sz2 hs0.2.sz2 Es.2.sz2 q.w (hw1.ext q.h);obtain⟨sg,EH⟩:=AcG (AN (Aw h0.a h0.b y.b));rw [←EH]at tc;unfold Ak AaG at tc;clear b0 b1 b2 b3 b4 j2 j3 j4 EH
      go_upto_region 11 with fail
      refine Bi (by kernel_rfl) (by kernel_rfl) ?_
      repeat (go_big_quiet_step (with_reducible refine eG (tc _)))
      refine wpQuiet_nil ?_;rintro W2 ⟨q,hq⟩;have hx2:Aa W1 W2:=hq▸q.h;clear hq q;have n0:∀q:Ad W2,q.w.cell? ⟨bA,oA+i*5,none⟩=some (S (R h0.a.x)):=fun q=>i0 ⟨q.w,hx2.trans q.h⟩;have n1:∀q:Ad W2,q.w.cell? ⟨bA,oA+i*5+1,none⟩=some (S (R h0.a.y)):=fun q=>i1 ⟨q.w,hx2.trans q.h⟩;have n2:∀q:Ad W2,q.w.cell? ⟨bA,oA+kk*5+2,none⟩=some (S (R y.b.x)):=fun q=>k2 ⟨q.w,hx2.trans q.h⟩;have n3:∀q:Ad W2,q.w.cell? ⟨bA,oA+kk*5+3,none⟩=some (S (R y.b.y)):=fun q=>k3 ⟨q.w,hx2.trans q.h⟩;clear i0 i1 i2 i3 k2 k3 tc;have Cs:=Ac.trans (hx1.trans hx2);by_cases hs:sg=0
      ·subst hs
       cases e1:Ar h0.a y.b
       ·have Iu:=Asb e1
        go_upto_region 12 with fail
        refine Bi (by kernel_rfl) (by kernel_rfl) ?_
        repeat (go_big_quiet_step (fail))
        refine wpQuiet_nil ?_;rintro _ ⟨q,rfl⟩;go_wp2;go_ret;exact⟨(kk:Int),rfl,Cs.trans q.h,.inr ⟨kk,Dd,rfl,Sq.out.symm,by rw [←HY.out];exact Iu.out⟩⟩
       ·go_upto_region 12 with fail
        refine Bi (by kernel_rfl) (by kernel_rfl) ?_
        repeat (go_big_quiet_step (fail))
        refine wpQuiet_nil ?_;rintro _ ⟨q,rfl⟩;go_wp2;go_ret;exact⟨-1,rfl,Cs.trans q.h,.inl (by omega)⟩
      ·have Cp:(sg != 0)=true:=by rw [bne,beq_false_of_ne hs];rfl
       go_upto_region 12 with fail
       refine Bi (by kernel_rfl) (by kernel_rfl) ?_
       repeat (go_big_quiet_step (fail))
       refine wpQuiet_nil ?_;rintro _ ⟨q,rfl⟩;go_wp2;go_ret;exact⟨-1,rfl,Cs.trans q.h,.inl (by omega)⟩
     ·have hyn:(y.l != h0.l)=true:=by rw [bne,beq_false_of_ne P4];rfl
      go_upto_region 9 with fail
      refine Bi (by kernel_rfl) (by kernel_rfl) ?_
      repeat (go_big_quiet_step (fail))
      refine wpQuiet_nil ?_;rintro _ ⟨q,rfl⟩;go_wp2;go_ret;exact⟨-1,rfl,Ac.trans q.h,.inl (by omega)⟩
   ·have wY:¬((cn:Int)=2):=(by omega);have h2n:((cn:Int) != 2)=true:=(by rw [bne,beq_false_of_ne wY];rfl);clear a0 a1 a2 a3 a4
    go_upto_region 9 with fail
    refine Bi (by kernel_rfl) (by kernel_rfl) ?_
    repeat (go_big_quiet_step (fail))
    refine wpQuiet_nil ?_;rintro _ ⟨q,rfl⟩;go_wp2;go_ret;exact⟨-1,rfl,Ac.trans q.h,.inl (by omega)⟩
theorem AB(w:World)(o1 o2 o3:Obj):(((w.alloc o1).alloc o2).alloc o3).drew.heap[w.heap.size]?=some o1/\(((w.alloc o1).alloc o2).alloc o3).drew.heap[w.heap.size+1]?=some o2/\(((w.alloc o1).alloc o2).alloc o3).drew.heap[w.heap.size+1+1]?=some o3/\Aa w (((w.alloc o1).alloc o2).alloc o3).drew:=by
 obtain⟨W,rfl,hE,h1,h2,h3⟩:=G9 w o1 o2 o3;exact⟨h1,h2,h3,hE.drew⟩
theorem Yb(h:Hf):(Bl [h]).toArray=#[.string ⟨(R h.a.x).toArray⟩,.string ⟨(R h.a.y).toArray⟩,.string ⟨(R h.b.x).toArray⟩,.string ⟨(R h.b.y).toArray⟩,.int .i64 h.l]:=rfl
theorem Aic(h k:Hf):(Bl [h,k]).toArray=#[.string ⟨(R h.a.x).toArray⟩,.string ⟨(R h.a.y).toArray⟩,.string ⟨(R h.b.x).toArray⟩,.string ⟨(R h.b.y).toArray⟩,.int .i64 h.l,.string ⟨(R k.a.x).toArray⟩,.string ⟨(R k.a.y).toArray⟩,.string ⟨(R k.b.x).toArray⟩,.string ⟨(R k.b.y).toArray⟩,.int .i64 k.l]:=rfl
def Dg(b:Pt)(h:Hf):Bool:=!Ar h.a b && !Ar h.b b
def NU(l:List Hf)(x y:Hf):List Hf:=l.filter (Dg x.b) ++ [⟨x.a,y.b,x.l⟩,⟨y.b,x.a,Ez l x⟩]
theorem Aku(l:List Hf)(hlen:l.length<=100000)(i k:Nat)(hi:i<l.length)(hk:k<l.length)(A:Option Addr)(c:Nat)(w:World)(hr:Am w A (Bl l))(hc:l.length<=c)(hcm:c<=9223372036854775807) :
  Calls Tryz.prog 156 #[.slice A l.length c,.int .i64 (i:Nat),.int .i64 (k:Nat)] w fun e w'=>∃v,e=.returned v/\w'.ownsRow w.heap.size 137 5 v (NU l l[i] l[k]).length (Bl (NU l l[i] l[k]))/\Aa w w':=by
 have pe:=RR;have pn:=Vz;obtain⟨x,hx⟩:=AcG (l[i]);obtain⟨y,hy⟩:=AcG (l[k]);rw [←hx,←hy];have KR:(0:Int)<=(i:Int):=(by omega);have Pg:(i:Int)<(l.length:Int):=(by omega);have hk0:(0:Int)<=(k:Int):=(by omega);have Bv:(k:Int)<(l.length:Int):=by omega
 have lZ:∀wr,Aa w wr→∃b o,A=some ⟨b,o,none⟩/\Kv wr b (o+i*5) x:=fun wr hE=>by obtain⟨b,o,e,h⟩:=M6 (hr.ext hE) hi;exact⟨b,o,e,by rw [hx];exact h⟩
 have uf:∀wr,Aa w wr→∃b o,A=some ⟨b,o,none⟩/\Kv wr b (o+k*5) y:=fun wr hE=>by obtain⟨b,o,e,h⟩:=M6 (hr.ext hE) hk;exact⟨b,o,e,by rw [hy];exact h⟩
 obtain⟨bA,oA,rfl,-⟩:=lZ w (Aa.refl w)
 have hx':∀wr,Aa w wr→Kv wr bA (oA+i*5) x:=fun wr hx=>by obtain⟨b,o,e,h⟩:=lZ wr hx;simp only [Asj,Addr.mk.injEq,and_true]at e;obtain⟨rfl,rfl⟩:=e;exact h
 have hy':∀wr,Aa w wr→Kv wr bA (oA+k*5) y:=fun wr hx=>by obtain⟨b,o,e,h⟩:=uf wr hx;simp only [Asj,Addr.mk.injEq,and_true]at e;obtain⟨rfl,rfl⟩:=e;exact h
 have bc:=fun (w1:World) (h1:Aa w w1)=>WE l x (some ⟨bA,oA,none⟩) c w1 (hr.ext h1) hc hcm;obtain⟨ot,kN⟩:=AcG (Ez l x);rw [←kN]at bc;have hJ:NU l x y=l.filter (Dg x.b) ++ [⟨x.a,y.b,x.l⟩,⟨y.b,x.a,ot⟩]:=(by rw [kN];rfl);rw [hJ];have hbA:bA<w.heap.size:=World.block_lt_of_cell? w _ (hx' w (Aa.refl w)).c0;have hl0:(0:Int)<=(l.length:Int):=(by omega);clear hx hy lZ uf kN hJ;have H0:=hx' w (Aa.refl w);have H1:=hy' w (Aa.refl w);obtain⟨a0,a1,a2,a3,a4⟩:=H0;obtain⟨b0,b1,b2,b3,b4⟩:=H1;have X:Aa w w:=Aa.refl w
 have SO:∀w',Aa w w'→(w'.cell? ⟨bA,oA+i*5,none⟩=some (S (R x.a.x))/\w'.cell? ⟨bA,oA+i*5+1,none⟩=some (S (R x.a.y))/\w'.cell? ⟨bA,oA+i*5+2,none⟩=some (S (R x.b.x))/\w'.cell? ⟨bA,oA+i*5+3,none⟩=some (S (R x.b.y))/\w'.cell? ⟨bA,oA+k*5+2,none⟩=some (S (R y.b.x))/\w'.cell? ⟨bA,oA+k*5+3,none⟩=some (S (R y.b.y))):=fun w' h=>⟨h.cellS a0,h.cellS a1,h.cellS a2,h.cellS a3,h.cellS b2,h.cellS b3⟩
 go_enter Tryz.func156,Tryz.ntmps156
 go_upto_region 2 with fail
 go_cut [8,9,10] (fun v8 v9 v10 wx=>∃p q r,v8=.pointer (some ⟨p,0,none⟩)/\v9=.pointer (some ⟨q,0,none⟩)/\v10=.pointer (some ⟨r,0,none⟩)/\wx.heap[p]?=some (.cells #[S (R x.a.x),S (R x.a.y)] 35)/\wx.heap[q]?=some (.cells #[S (R x.b.x),S (R x.b.y)] 35)/\wx.heap[r]?=some (.cells #[S (R y.b.x),S (R y.b.y)] 35)/\w.heap.size<=p/\w.heap.size<=q/\w.heap.size<=r/\Aa w wx)
 case first=>
  go_region_held3 (fun w'=>w'.cell? ⟨bA,oA+i*5,none⟩=some (S (R x.a.x))/\w'.cell? ⟨bA,oA+i*5+1,none⟩=some (S (R x.a.y))/\w'.cell? ⟨bA,oA+i*5+2,none⟩=some (S (R x.b.x))/\w'.cell? ⟨bA,oA+i*5+3,none⟩=some (S (R x.b.y))/\w'.cell? ⟨bA,oA+k*5+2,none⟩=some (S (R y.b.x))/\w'.cell? ⟨bA,oA+k*5+3,none⟩=some (S (R y.b.y)))
   ((refine SO _ ?_;repeat (first|exact X|(with_reducible refine Aa.drew ?_)|(with_reducible refine Aa.alloc ?_ _)|(with_reducible refine Aa.setCell ?_ (by simp) _))))
   (fail)
  all_goals go_wp2
  all_goals go_meet
  all_goals (
   refine⟨_,_,_,rfl,rfl,rfl,?_,?_,?_,by omega,by omega,by omega,?_⟩
   all_goals try unfold S
   all_goals first
    | with_reducible exact(AB _ _ _ _).1
    | with_reducible exact(AB _ _ _ _).2.1
    | with_reducible exact(AB _ _ _ _).2.2.1
    | with_reducible exact(AB _ _ _ _).2.2.2)
 case rest=>
  obtain⟨p,q,r,rfl,rfl,rfl,hp,hq,BY,lp,lq,lr,hX⟩:=hcut;obtain⟨wx,rfl⟩:=GN hX;have c0:=hX.cellS a0;have c1:=hX.cellS a1;have c2:=hX.cellS a2;have c3:=hX.cellS a3;have c4:=hX.cellS a4;have bx:=bc wx hX;unfold Jo at bx;clear SO X a0 a1 a2 a3 b0 b1 b2 b3 b4 bc;(go_wp2_with fail);(with_reducible refine bx.mono ?_);rintro e w1 ⟨rfl,hx1⟩;have D9:=hX.trans hx1;have Er:=(hx1.block _ (Asd hp)).trans hp;have B8:=(hx1.block _ (Asd hq)).trans hq;have hr1:=(hx1.block _ (Asd BY)).trans BY;clear hp hq BY c0 c1 c2 c3 c4 bx
  go_upto_region 5 with fail
  go_loopw [7,37] (fun ov iv wr=>∃j:Nat,iv=.int .i64 (j:Nat)/\j<=l.length/\wr.ownsRow w1.heap.size 137 5 ov ((l.take j).filter (Dg x.b)).length (Bl ((l.take j).filter (Dg x.b)))/\Aa w1 wr) (fun _ iv _=>l.length-(intOf iv).toNat)
  case atStart=>exact⟨0,rfl,by omega,⟨rfl,.inl ⟨rfl,rfl⟩⟩,Aa.refl _⟩
  case round=>
   obtain⟨j,rfl,hj,hown,Ac⟩:=hrel;by_cases hlt:j<l.length
   ·obtain⟨dH,mV,e,f0,f1,f2,f3,f4⟩:=M6 (hr.ext (D9.trans Ac)) hlt;simp only [Asj,Addr.mk.injEq,and_true]at e;obtain⟨rfl,rfl⟩:=e;obtain⟨h,hh⟩:=AcG (l[j]);rw [←hh]at f0 f1 f2 f3 f4
    have NN:(l.take (j+1)).filter (Dg x.b)=(l.take j).filter (Dg x.b)++(if Dg x.b h=true then [h] else []):=by rw [Asi hlt,List.filter_append,←hh];simp [List.filter_cons]
    have FQ:((l.take j).filter (Dg x.b)).length<200000:=by have:=List.length_filter_le (Dg x.b) (l.take j);rw [List.length_take]at this;omega
    have hj0:(0:Int)<=(j:Int):=(by omega);have AG:(j:Int)<(l.length:Int):=(by omega);have HT:=Asb NN;generalize (l.take j).filter (Dg x.b)=lj at *;clear hh NN;have As:=Ase wr (.cells #[S (R h.a.x),S (R h.a.y),S (R h.b.x),S (R h.b.y),.int .i64 h.l] 137);have E4:=(Aa.refl wr).alloc (.cells #[S (R h.a.x),S (R h.a.y),S (R h.b.x),S (R h.b.y),.int .i64 h.l] 137);have Ig:=((Ac.trans E4).block _ (Asd B8)).trans B8;have GK:=Ap hown E4;have Dv:=Ac.trans E4
    go_upto_region 7 with fail
    unfold S at As E4 Ig GK Dv;generalize (wr.alloc (.cells #[.string ⟨(R h.a.x).toArray⟩,.string ⟨(R h.a.y).toArray⟩,.string ⟨(R h.b.x).toArray⟩,.string ⟨(R h.b.y).toArray⟩,.int .i64 h.l] 137))=W4 at *;obtain⟨bh,El⟩:=AcG wr.heap.size;rw [←El]at As ⊢;clear El f0 f1 f2 f3 f4 E4;have z0:=Ab (o:=0) As rfl;have z1:=Ab (o:=1) As rfl;have z2:=Ab (o:=2) As rfl;have z3:=Ab (o:=3) As rfl;have z4:=Ab (o:=4) As rfl;have y0:=Ab (o:=0) Ig rfl;have y1:=Ab (o:=1) Ig rfl
    cases e1:Ar h.a x.b
    ·cases e2:Ar h.b x.b
     ·have hk:Dg x.b h=true:=(by unfold Dg;rw [e1,e2];rfl);have HK:=Asb (show (l.take (j+1)).filter (Dg x.b)=lj ++ [h] by rw [HT.out,if_pos hk]);have hbase:w1.heap.size<=W4.heap.size:=Dv.size;obtain⟨Zs,oc,rfl,-,-,-⟩:=Am.of_own' (by omega) GK
      go_wp2_with (at_builtin;go_loud (refine dD rfl _ _ rfl _ w1.heap.size (.slice Zs lj.length oc) lj.length lj [h] rfl (Ap GK ((Aa.refl W4).alloc _)) FQ (by simp) W4.heap.size 1 rfl (by rw [Yb];exact Ase W4 _) rfl (by simp;omega) ?_);intro v7 w7 Gw LZ Gt)
      have BW:=LZ w1 (Dv.trans ((Aa.refl W4).alloc _)) (Asf _);clear Gt LZ z0 z1 z2 z3 z4 y0 y1;go_wp2;go_roundw
      case rel=>exact⟨j+1,by go_num,hlt,by rw [HK.out,List.length_append];exact Gw,BW⟩
      case measure=>simp [intOf];omega
     ·have hk:Dg x.b h=false:=(by unfold Dg;rw [e1,e2];rfl);have HK:=Asb (show (l.take (j+1)).filter (Dg x.b)=lj by rw [HT.out,hk];simp);go_wp2;go_roundw
      case rel=>exact⟨j+1,by go_num,hlt,by rw [HK.out];exact GK,Dv⟩
      case measure=>simp [intOf];omega
    ·have hk:Dg x.b h=false:=(by unfold Dg;rw [e1];rfl);have HK:=Asb (show (l.take (j+1)).filter (Dg x.b)=lj by rw [HT.out,hk];simp);go_wp2;go_roundw
     case rel=>exact⟨j+1,by go_num,hlt,by rw [HK.out];exact GK,Dv⟩
     case measure=>simp [intOf];omega
   ·have FO:j=l.length:=(by omega);subst FO;rw [List.take_length]at hown
    have FQ:(l.filter (Dg x.b)).length<200000:=by have:=List.length_filter_le (Dg x.b) l;omega
    obtain⟨lj,kD⟩:=AcG (l.filter (Dg x.b));rw [←kD]at hown FQ;have HLJ:=Asb kD;clear kD;have Ju:=(Ac.block _ (Asd Er)).trans Er;have hr2:=(Ac.block _ (Asd hr1)).trans hr1;obtain⟨-,-,-,-,c4⟩:=hx' wr (D9.trans Ac);have y0:=Ab (o:=0) Ju rfl;have y1:=Ab (o:=1) Ju rfl;have y2:=Ab (o:=0) hr2 rfl;have y3:=Ab (o:=1) hr2 rfl;have hbase:w1.heap.size<=wr.heap.size:=Ac.size;have Cs:=D9.trans Ac;have hnl:(l.length:Int)<=(l.length:Int):=(by omega);obtain⟨Zs,oc,rfl,-,-,-⟩:=Am.of_own' (by omega) hown;have p1':=Ac;obtain⟨-,-,-,-,d4⟩:=hx' w1 D9;have X:=Ac
    have SO:∀w',Aa w1 w'→(w'.cell? ⟨p,0,none⟩=some (S (R x.a.x))/\w'.cell? ⟨p,1,none⟩=some (S (R x.a.y))/\w'.cell? ⟨r,0,none⟩=some (S (R y.b.x))/\w'.cell? ⟨r,1,none⟩=some (S (R y.b.y))/\w'.cell? ⟨bA,oA+i*5+4,none⟩=some (.int .i64 x.l)):=fun w' h=>⟨h.cellS (Ab Er rfl),h.cellS (Ab Er rfl),h.cellS (Ab hr1 rfl),h.cellS (Ab hr1 rfl),h.cellS d4⟩
    clear Er B8 hr1 Ju hr2 p1'
    go_upto_region 10 with fail
    go_region_held3 (fun w'=>w'.cell? ⟨p,0,none⟩=some (S (R x.a.x))/\w'.cell? ⟨p,1,none⟩=some (S (R x.a.y))/\w'.cell? ⟨r,0,none⟩=some (S (R y.b.x))/\w'.cell? ⟨r,1,none⟩=some (S (R y.b.y))/\w'.cell? ⟨bA,oA+i*5+4,none⟩=some (.int .i64 x.l))
     (first|with_reducible exact SO _ X|with_reducible exact SO _ X.drew|with_reducible exact SO _ (X.alloc _)|with_reducible exact SO _ (X.alloc _).drew|with_reducible exact SO _ (X.drew.alloc _))
     (first|(refine Abo rfl _ _ rfl _ w1.heap.size (.slice Zs lj.length oc) lj.length lj [⟨x.a,y.b,x.l⟩,⟨y.b,x.a,ot⟩] rfl (Ap hown ((Aa.refl wr).alloc _).drew) FQ (by simp) wr.heap.size 2 rfl (by rw [Aic];exact Ase wr _) rfl (by simp;omega) ?_;intro v7 w7 Gw LZ Gt;replace X:=LZ w1 (X.alloc _).drew (Asf _)))
    go_wp2;go_ret;have AP:=Oc Gw (Asq D9.size (Asf _));exact⟨v7,rfl,by rw [List.length_append,←HLJ.out];exact AP,D9.trans X⟩
def Ey(n:Nat)(l:List Hf):Prop:=∀h∈l,BL h.a/\BL h.b/\h.a≠h.b/\-1<=h.l/\h.l<(n:Int)
theorem Ey.ok{n:Nat}{l:List Hf}(h:Ey n l):rO l:=fun x hx=>⟨(h x hx).1,(h x hx).2.1⟩
theorem Ey.back{n:Nat}{l:List Hf}(h:Ey n l)(x:Hf):-1<=Ez l x/\Ez l x<(n:Int):=by
 rcases Ae8 l x with e|⟨y,hy,e⟩
 ·rw [e];omega
 ·rw [e];exact⟨(h y hy).2.2.2.1,(h y hy).2.2.2.2⟩
theorem nT{p q:Pt}(h:Ar p q=false):p≠q:=by
 rintro rfl;rw [Di.2 rfl]at h
 cases h
theorem Akt{n:Nat}{l:List Hf}(h:Ey n l){x y:Hf}(hx:x∈l)(hy:y∈l)(hne:Ar x.a y.b=false):Ey n (NU l x y):=by
 intro z hz;unfold NU at hz
 rcases List.mem_append.1 hz with hz|hz
 ·exact h z (List.mem_filter.1 hz).1
 ·have h1:=h x hx;have h2:=h y hy;have h3:=h.back x;have h4:=nT hne;simp only [List.mem_cons,Asr,or_false]at hz
  rcases hz with rfl|rfl
  ·exact⟨h1.1,h2.2.1,h4,h1.2.2.2.1,h1.2.2.2.2⟩
  ·exact⟨h2.2.1,h1.1,h4.symm,h3.1,h3.2⟩
theorem uQ{α:Type}{p q:α→Bool} : ∀{l:List α},(∀x∈l,p x=true→q x=true)→(∃x∈l,q x=true/\p x=false)→l.countP p<l.countP q
 | [],_,h=>by obtain⟨x,hx,_⟩:=h;cases hx
 | a::l,h1,h2=>by
  have hle:l.countP p<=l.countP q:=List.countP_mono_left (fun x hx=>h1 x (List.mem_cons_of_mem _ hx));obtain⟨x,hx,hq,hp⟩:=h2
  rcases List.mem_cons.1 hx with rfl|hx
  ·rw [List.countP_cons,List.countP_cons,hq,hp];simp;omega
  ·have:=uQ (fun x hx=>h1 x (List.mem_cons_of_mem _ hx)) ⟨x,hx,hq,hp⟩;have ha:=h1 a List.mem_cons_self;rw [List.countP_cons,List.countP_cons]
   cases FU:p a
   ·cases q a<;>simp<;>omega
   ·rw [ha FU];simp;omega
theorem Aks{n:Nat}{l:List Hf}(h:Ey n l){x y:Hf}(hx:x∈l)(hc:Je l x.b=2):(NU l x y).length<l.length:=by
 have h1:2<l.countP (fun z=>!Dg x.b z):=by
  rw [←hc];refine uQ (fun z _ hz=>?_) ⟨x,hx,?_,?_⟩
  ·unfold Dg;rw [hz];simp
  ·unfold Dg;rw [Di.2 (rfl:x.b=x.b)];simp
  ·rw [Bool.eq_false_iff];exact fun k=>(h x hx).2.2.1 (Di.1 k)
 have h2:=List.length_eq_countP_add_countP (Dg x.b) (l:=l)
 have h3:l.countP (fun a=>decide ¬Dg x.b a=true)=l.countP (fun z=>!Dg x.b z):=by congr 1;funext a;cases Dg x.b a<;>rfl
 rw [h3]at h2;unfold NU;rw [List.length_append,←List.countP_eq_length_filter];simp only [List.length_cons,List.length_nil];omega
def IY(a b q:Pt):Prop:=Kq a.x b.x q.x=true/\Kq a.y b.y q.y=true
theorem within_iff(a b x:Rat):Kq a b x=true↔(a<=x∨b<=x)/\(x<=a∨x<=b):=by
 unfold Kq BE BD;simp only [Bool.and_eq_true,decide_eq_true_eq];constructor
 ·rintro⟨h1,h2⟩;constructor
  ·split at h1<;>grind
  ·split at h2<;>grind
 ·rintro⟨h1,h2⟩;constructor
  ·split<;>grind
  ·split<;>grind
def dst(p q:Pt):Nat:=((p.x*2).floor-(q.x*2).floor).natAbs+((p.y*2).floor-(q.y*2).floor).natAbs
theorem AgF(a:Int):((a:Rat)/2*2).floor=a:=by
 have:(a:Rat)/2*2=(a:Rat):=(by grind);rw [this];exact Rat.floor_intCast a
theorem dZ(u v:Int×Int):dst (gp u) (gp v)=(u.1-v.1).natAbs+(u.2-v.2).natAbs:=by
 unfold dst gp;simp only [AgF]
theorem AfV{p q:Pt}(hp:BL p)(hq:BL q):dst p q<=12:=by
 obtain⟨u,hu,rfl⟩:=hp;obtain⟨v,hv,rfl⟩:=hq;rw [dZ];have:=hu.x0;have:=hu.x1;have:=hu.y0;have:=hu.y1;have:=hv.x0;have:=hv.x1;have:=hv.y0;have:=hv.y1;omega
theorem Ake{u v t:Int×Int} : IY (gp u) (gp v) (gp t)↔((u.1<=t.1∨v.1<=t.1)/\(t.1<=u.1∨t.1<=v.1))/\((u.2<=t.2∨v.2<=t.2)/\(t.2<=u.2∨t.2<=v.2)):=by
 unfold IY gp;simp only [within_iff,AhH]
theorem AfW{a b q:Pt}(ha:BL a)(hb:BL b)(hq:BL q)(h:IY a b q)(hne:q≠a):dst q b<dst a b:=by
 obtain⟨u,hu,rfl⟩:=ha;obtain⟨v,hv,rfl⟩:=hb;obtain⟨t,ht,rfl⟩:=hq;rw [Ake]at h;rw [dZ,dZ];have hn:¬(t.1=u.1/\t.2=u.2):=fun k=>hne (by rw [show t=u from Prod.ext k.1 k.2]);omega
theorem Akf(a b:Pt):IY a b b:=by
 unfold IY;rw [within_iff,within_iff]
 grind
theorem Akg{a b n q:Pt}(h1:IY a b n)(h2:IY a n q):IY a b q:=by
 unfold IY at *;rw [within_iff,within_iff]at *
 grind
theorem AeV{a b q:Pt}(h:Qp a b q=true):IY a b q:=by
 unfold Qp at h;simp only [Bool.and_eq_true]at h;exact h.2
structure MP(w:World)(A:Option Addr)(c:Nat)(P:List (List Pt×Bs)):Prop where
 c1:P.length<=c
 c2:c<=9223372036854775807
 row:∀j (h:j<P.length),∃b o A' c',A=some ⟨b,o,none⟩/\w.cell? ⟨b,o+j*3,none⟩=some (.slice A' P[j].1.length c')/\w.cell? ⟨b,o+j*3+1,none⟩=some (S P[j].2)/\w.cell? ⟨b,o+j*3+2,none⟩=some (.slice none 0 0)/\Am w A' (flat (AI P[j].1))/\P[j].1.length<=c'/\c'<=9223372036854775807
theorem MP.ext{w w':World}{A:Option Addr}{c:Nat}{P:List (List Pt×Bs)}(h:MP w A c P)(hx:Aa w w'):MP w' A c P:=
 ⟨h.c1,h.c2,fun j hj=>by
  obtain⟨b,o,A',c',h1,h2,h3,h4,h5,h6,h7⟩:=h.row j hj
  exact⟨b,o,A',c',h1,hx.cellS h2,hx.cellS h3,hx.cellS h4,h5.ext hx,h6,h7⟩⟩
structure S2(P:List (List Pt×Bs)):Prop where
 len:P.length<=18
 pts:∀e∈P,(∀p∈e.1,BL p)/\e.1.length<=4
end Go.Proofs.YtdaefncphfeaeaaGreatDoor
