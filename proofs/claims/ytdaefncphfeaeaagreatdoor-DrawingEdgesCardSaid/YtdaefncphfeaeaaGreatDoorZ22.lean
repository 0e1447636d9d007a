/- Z22: F4 H1 H2 H3. -/
import Derived.Test.YtdaefncphfeaeaaGreatDoorZ19
set_option maxRecDepth 100000
set_option maxHeartbeats 8000000
namespace Go.Proofs.YtdaefncphfeaeaaGreatDoor
open Go.RowKit Kl
theorem AkX(x:Int):mkRat x 1=(x:Rat):=by
 apply Rat.ext
 ·rw [Rat.num_mkRat];simp
 ·rw [Rat.den_mkRat];simp
theorem ZL(n:Int)(h1:n.natAbs<10000000)(w:World)(hw:Ai w):Calls Tryz.prog 11 #[.int .i64 n,.int .i64 1] w (A0 (R (n:Rat)) w):=by
 rw [←AkX];exact AaD n 1 (by omega) h1 (by omega) w hw
theorem AaC(n:Int)(h1:n.natAbs<10000000)(w:World)(hw:Ai w):Calls Tryz.prog 11 #[.int .i64 n,.int .i64 2] w (A0 (R (mkRat n 2)) w):=
 AaD n 2 (by omega) h1 (by omega) w hw
theorem vk(x y:Int)(hx:x.natAbs<10000000)(hy:y.natAbs<10000000)(w:World)(hw:Ai w):Calls Tryz.prog 21 #[.int .i64 x,.int .i64 y] w (Bg (Ak ⟨x,y⟩) w):=by
 have o1:=ZL x hx;have o2:=ZL y hy;have hb:=Ase w (.cells #[S [],S []] 35);have hE:=(Aa.refl w).alloc (.cells #[S [],S []] 35);unfold Ak;clear hx hy;go_enter Tryz.func21,Tryz.ntmps21;(go_wp2_with fail);rw [show (⟨#[]⟩:ByteArray)=⟨([]:Bs).toArray⟩from rfl];(with_reducible refine(o1 _ (hw.ext hE)).mono ?_);rintro e w1 ⟨rfl,hx⟩;replace hb:=(hx.block _ (Asd hb)).trans hb;replace hE:=hE.trans hx;(go_wp2_with fail);(with_reducible refine(o2 _ (hw.ext hE)).mono ?_);rintro e w2 ⟨rfl,hx2⟩;replace hb:=(hx2.block _ (Asd hb)).trans hb;replace hE:=hE.trans hx2;have g1:=Ab (o:=0) hb rfl;have g2:=Ab (o:=1) hb rfl;have g3:=An (o:=0) hb;have g4:=An (o:=1) hb;obtain⟨e1,e2⟩:=set2 (S (R (x:Rat))) (S (R (y:Rat))) g1 g2;go_wp2;refine bodyPost_ret (v:=.agg #[S (R (x:Rat)),S (R (y:Rat))]) (by simp [results,Tryz.results21,go_sem,e1,e2]) rfl ?_;exact⟨rfl,(hE.setCell (Asf _) _).setCell (Asf _) _⟩
structure Fr where
 a:Int
 b:Int
 s:Int
 t:Int
 u:Int
 v:Int
structure Fr.Ok(f:Fr):Prop where
 a1:-128<=f.a
 a2:f.a<=127
 b1:-128<=f.b
 b2:f.b<=127
 s1:0<=f.s
 s2:f.s<=255
 t1:0<=f.t
 t2:f.t<=255
 u1:0<=f.u
 u2:f.u<=255
 v1:0<=f.v
 v2:f.v<=255
def Ng(f:Fr):Value:=.agg #[.int .i8 f.a,.int .i8 f.b,.int .u8 f.s,.int .u8 f.t,.int .u8 f.u,.int .u8 f.v]
def OH(f:Fr):Pt:=⟨((f.a.tmod 8:Int):Rat),((f.b.tmod 8:Int):Rat)⟩
def DT(f:Fr):Cv:=⟨OH f,⟨(OH f).x+mkRat (1+f.s%12) 2,(OH f).y+mkRat (1+f.t%12) 2⟩,(1+f.u%30).toNat,(1+f.v%30).toNat⟩
theorem RY(a:Int):-7<=a.tmod 8/\a.tmod 8<=7:=by
 have h:=Int.natAbs_tmod a 8;have h2:=Nat.mod_lt a.natAbs (show 0<(8:Int).natAbs by decide);have:(8:Int).natAbs=8:=rfl;omega
theorem aE(a:Int):Sz 1 ((a.tmod 8:Int):Rat):=Sz.int (by omega) (by have:=RY a;omega)
theorem Ao5:(10:Nat)^2=100:=by decide
theorem pC(s:Int):Sz 2 (mkRat (1+s%12) 2):=Sz.mkRat (by omega) (by rw [Ao5];omega) (by decide)
theorem gC(s:Int):0<mkRat (1+s%12) 2:=by
 rw [Rat.mkRat_eq_div];have h1:(0:Rat)<((1+s%12:Int):Rat):=Rat.intCast_pos.2 (by omega);have h2:(0:Rat)<((2:Nat):Rat):=Rat.natCast_pos.2 (by omega);rw [Rat.div_def];exact Rat.mul_pos h1 (Rat.inv_pos.2 h2)
theorem Abx(a s:Int):Sz 3 (((a.tmod 8:Int):Rat)+mkRat (1+s%12) 2):=by
 have hp:=gC s;have ht:=RY a;rw [Rat.add_def'];have hd:((a.tmod 8:Int):Rat).den=1:=rfl;have hn:((a.tmod 8:Int):Rat).num=a.tmod 8:=rfl;have hz:=pC s;have e2:(10:Nat)^2=100:=(by decide);have e3:(10:Nat)^3=1000:=by decide
 have TS:(mkRat (1+s%12) 2).den<=2:=by rw [Rat.den_mkRat,if_neg (by omega)];exact Nat.div_le_self _ _
 have Aqo:=(mkRat (1+s%12) 2).den_pos;have Y5:=hz.num;rw [hd,hn];refine Sz.mkRat (by omega) ?_ (by omega)
 have h1:(a.tmod 8*((mkRat (1+s%12) 2).den:Int)).natAbs<=7*2:=by rw [Int.natAbs_mul,Ash];exact Nat.mul_le_mul (by omega) TS
 have h2:=Int.natAbs_add_le (a.tmod 8*((mkRat (1+s%12) 2).den:Int)) ((mkRat (1+s%12) 2).num*((1:Nat):Int));rw [show ((1:Nat):Int)=1 from rfl,Int.mul_one]at h2 ⊢;omega
theorem AgK(f:Fr):It (DT f):=by
 refine⟨⟨?_,?_,?_,?_,?_,?_⟩,⟨(aE _).mono (by omega),(aE _).mono (by omega)⟩,⟨Abx _ _,Abx _ _⟩⟩
 ·have:=gC f.s;show (OH f).x<(OH f).x+mkRat (1+f.s%12) 2;grind
 ·have:=gC f.t;show (OH f).y<(OH f).y+mkRat (1+f.t%12) 2;grind
 ·show 1<=(1+f.u%30).toNat;omega
 ·show (1+f.u%30).toNat<=2000;omega
 ·show 1<=(1+f.v%30).toNat;omega
 ·show (1+f.v%30).toNat<=2000;omega
theorem AeS{w:World}{b:Nat}{a0 a1 a2 a3 a4 a5:Value}{t:TypeId}(v0 v1 v2 v3 v4 v5:Value)(h:w.heap[b]?=some (.cells #[a0,a1,a2,a3,a4,a5] t)) :
  ((((((w.setCell ⟨b,0,none⟩ v0).setCell ⟨b,1,none⟩ v1).setCell ⟨b,2,none⟩ v2).setCell ⟨b,3,none⟩ v3).setCell ⟨b,4,none⟩ v4).setCell ⟨b,5,none⟩ v5).heap[b]?=some (.cells #[v0,v1,v2,v3,v4,v5] t):=by
 simp only [World.setCell,Array.getElem?_modify,h];simp
theorem AkQ(f:Fr)(hf:f.Ok)(w:World)(hw:Ai w):Calls Tryz.prog 6 #[Ng f] w (Bg (BQ (DT f)) w):=by
 obtain⟨a,b,s,t,u,v⟩:=f;obtain⟨a1,a2,b1,b2,s1,s2,t1,t2,u1,u2,v1,v2⟩:=hf;simp only at a1 a2 b1 b2 s1 s2 t1 t2 u1 u2 v1 v2;have YO:=RY a;have Mk:=RY b;have la:=vk (a.tmod 8) (b.tmod 8) (by omega) (by omega);have o1:=AaC (1+s%12) (by omega);have o2:=AaC (1+t%12) (by omega);have O5:=nZ ((a.tmod 8:Int):Rat) (mkRat (1+s%12) 2) (Asq (Hv (by omega) (aE a)) (by omega)) (Asq (Hv (by omega) (pC s)) (by omega));have Qi:=nZ ((b.tmod 8:Int):Rat) (mkRat (1+t%12) 2) (Asq (Hv (by omega) (aE b)) (by omega)) (Asq (Hv (by omega) (pC t)) (by omega));obtain⟨lx,hlx⟩:=AcG (((a.tmod 8:Int):Rat):Rat);obtain⟨ly,Yw⟩:=AcG (((b.tmod 8:Int):Rat):Rat);obtain⟨px,Fv⟩:=AcG (mkRat (1+s%12) 2:Rat);obtain⟨py,NL⟩:=AcG (mkRat (1+t%12) 2:Rat)
 have HV:Hid (BQ (DT ⟨a,b,s,t,u,v⟩)=.agg #[S (R lx),S (R ly),S (R (lx+px)),S (R (ly+py)),.int .i64 (1+u%30),.int .i64 (1+v%30)]):=Asb (by
  rw [hlx,Yw,Fv,NL];have e1:((1+u%30).toNat:Int)=1+u%30:=(by omega);have e2:((1+v%30).toNat:Int)=1+v%30:=(by omega);show Value.agg #[_,_,_,_,.int .i64 ((1+u%30).toNat:Int),.int .i64 ((1+v%30).toNat:Int)]=_
  rw [e1,e2];rfl)
 unfold Ak at la;rw [←hlx,←Yw]at la;rw [←Fv]at o1;rw [←NL]at o2;rw [←hlx,←Fv]at O5;rw [←Yw,←NL]at Qi;rw [HV.out];unfold Ng;have hb1:=Ase w (.cells #[.int .i8 a,.int .i8 b,.int .u8 s,.int .u8 t,.int .u8 u,.int .u8 v] 26);clear hlx Yw Fv NL;go_enter Tryz.func6,Tryz.ntmps6;(go_wp2_with fail)
 obtain⟨W,hW,hE,hb1,hb2⟩:∃W,W=(w.alloc (.cells #[.int .i8 a,.int .i8 b,.int .u8 s,.int .u8 t,.int .u8 u,.int .u8 v] 26)).alloc (.cells #[S [],S [],S [],S [],.int .i64 0,.int .i64 0] 37)/\Aa w W/\W.heap[w.heap.size]?=some (.cells #[.int .i8 a,.int .i8 b,.int .u8 s,.int .u8 t,.int .u8 u,.int .u8 v] 26)/\W.heap[w.heap.size+1]?=some (.cells #[S [],S [],S [],S [],.int .i64 0,.int .i64 0] 37):=by
  refine⟨_,rfl,((Aa.refl _).alloc _).alloc _,(Below.heap_alloc _ _ _ (by simp)).trans hb1,?_⟩;have h:=Ase (w.alloc (.cells #[.int .i8 a,.int .i8 b,.int .u8 s,.int .u8 t,.int .u8 u,.int .u8 v] 26)) (.cells #[S [],S [],S [],S [],.int .i64 0,.int .i64 0] 37)
  rwa [Asn]at h
 rw [show (⟨#[]⟩:ByteArray)=⟨([]:Bs).toArray⟩from rfl,←hW];clear hW;(with_reducible refine(la _ (hw.ext hE)).mono ?_);rintro e w1 ⟨rfl,hx⟩;have hx:=hx.alloc (.cells #[S (R lx),S (R ly)] 35);replace hb1:=(hx.block _ (Asd hb1)).trans hb1;replace hb2:=(hx.block _ (Asd hb2)).trans hb2;replace hE:=hE.trans hx;have hb3:=Ase w1 (.cells #[S (R lx),S (R ly)] 35)
 go_upto_region 2 with fail
 generalize w1.alloc (.cells #[S (R lx),S (R ly)] 35)=V at *;obtain⟨bp,Hh⟩:=AcG w1.heap.size;rw [←Hh]at hb3 ⊢;clear Hh hx la;have k1:=Ab (o:=0) hb3 rfl;have k2:=Ab (o:=1) hb3 rfl;have k3:=Ab (o:=2) hb1 rfl;have k4:=Ab (o:=3) hb1 rfl;have La:=hw.ext hE
 go_cut [4] (fun v4 wx=>∃b,v4=.pointer (some ⟨b,0,none⟩)/\wx.heap[b]?=some (.cells #[S (R (lx+px)),S (R (ly+py))] 35)/\Aa V wx)
 case first=>
  have hs1:w.heap.size<V.heap.size:=Asd hb1;have ea:s.tmod 12=s%12:=Int.tmod_eq_emod_of_nonneg s1;have eb:IntKind.i64.wrap (s%12)=s%12:=Asm _ (by omega);have ec:IntKind.i64.wrap (1+s%12)=1+s%12:=Asm _ (by omega);have ed:t.tmod 12=t%12:=Int.tmod_eq_emod_of_nonneg t1;have ee:IntKind.i64.wrap (t%12)=t%12:=Asm _ (by omega);have ef:IntKind.i64.wrap (1+t%12)=1+t%12:=Asm _ (by omega);have hs2:bp<V.heap.size:=Asd hb3
  go_region_held3 (fun w'=>w'.cell? ⟨bp,0,none⟩=some (S (R lx))/\w'.cell? ⟨bp,1,none⟩=some (S (R ly))/\w'.cell? ⟨w.heap.size,2,none⟩=some (.int .u8 s)/\w'.cell? ⟨w.heap.size,3,none⟩=some (.int .u8 t))
   (first|go_keep|(refine⟨?_,?_,?_,?_⟩<;>(rw [World.cell?_setCell_far _ _ _ _ (by simp only [ne_eq];omega),World.cell?_setCell_far _ _ _ _ (by simp only [ne_eq];omega)];assumption)))
   (first
    | ((with_reducible refine(o1 _ ?_).mono ?_);(exact La.ext (by first | exact(Aa.refl _).drew | exact((Aa.refl _).alloc _).drew));rintro e w6 ⟨rfl,Ao⟩;have X6:Aa V w6:=(by first | exact(Aa.refl _).drew.trans Ao | exact((Aa.refl _).alloc _).drew.trans Ao);have g1:=X6.cellS k1;have g2:=X6.cellS k2;have g3:=X6.cellS k3;have g4:=X6.cellS k4;have s6:=X6.size;(first | (have Z6:w6.heap[V.heap.size]?=some (.cells #[S [],S []] 35):=(Ao.block _ (by simp)).trans (Ase V _)) | skip))
    | ((with_reducible refine(O5 _ ?_).mono ?_);(exact La.ext (by first | exact X6 | exact X6.alloc _));rintro e w7 ⟨rfl,Aj⟩;have X7:Aa V w7:=(by first | exact X6.trans Aj | exact(X6.alloc _).trans Aj);have h1:=X7.cellS k1;have h2:=X7.cellS k2;have h3:=X7.cellS k3;have h4:=X7.cellS k4;have s7:=X7.size;(first | (have Z7:w7.heap[V.heap.size]?=some (.cells #[S [],S []] 35):=(Aj.block _ (Asd Z6)).trans Z6) | (have Z7:w7.heap[w6.heap.size]?=some (.cells #[S [],S []] 35):=(Aj.block _ (by simp)).trans (Ase w6 _)) | skip))
    | ((with_reducible refine(o2 _ ?_).mono ?_);(exact La.ext (by first | exact X7 | exact X7.alloc _));rintro e w8 ⟨rfl,AE⟩;have X8:Aa V w8:=(by first | exact X7.trans AE | exact(X7.alloc _).trans AE);have i1:=X8.cellS k1;have i2:=X8.cellS k2;have i3:=X8.cellS k3;have i4:=X8.cellS k4;have s8:=X8.size;(first | (have Z8:=(AE.block _ (Asd Z7)).trans Z7) | (have Z8:w8.heap[w7.heap.size]?=some (.cells #[S [],S []] 35):=(AE.block _ (by simp)).trans (Ase w7 _)) | skip))
    | ((with_reducible refine(Qi _ ?_).mono ?_);(exact La.ext (by first | exact X8 | exact X8.alloc _));rintro e w9 ⟨rfl,Az⟩;have X9:Aa V w9:=(by first | exact X8.trans Az | exact(X8.alloc _).trans Az);have j1:=X9.cellS k1;have j2:=X9.cellS k2;have j3:=X9.cellS k3;have j4:=X9.cellS k4;have s9:=X9.size;(first | (have Z9:=(Az.block _ (Asd Z8)).trans Z8;have y1:=Ab (o:=0) Z9 rfl;have y2:=Ab (o:=1) Z9 rfl;have y3:=An (o:=0) Z9;have y4:=An (o:=1) Z9) | (have Z9:w9.heap[w8.heap.size]?=some (.cells #[S [],S []] 35):=(Az.block _ (by simp)).trans (Ase w8 _);have y1:=Ab (o:=0) Z9 rfl;have y2:=Ab (o:=1) Z9 rfl;have y3:=An (o:=0) Z9;have y4:=An (o:=1) Z9) | skip)))
  all_goals go_wp2
  all_goals go_meet
  all_goals first
   | exact⟨_,rfl,Ase w9 _,X9.alloc _⟩
   | exact⟨_,rfl,D6 _ _ Z9,(X9.setCell (by simp only [];omega) _).setCell (by simp only [];omega) _⟩
   | exact⟨_,rfl,D6 _ _ Z9,(X9.setCell (Asf _) _).setCell (Asf _) _⟩
 case rest=>obtain⟨bh,rfl,hb4,Dz⟩:=hcut;replace hb1:=(Dz.block _ (Asd hb1)).trans hb1;replace hb2:=(Dz.block _ (Asd hb2)).trans hb2;replace hb3:=(Dz.block _ (Asd hb3)).trans hb3;replace hE:=hE.trans Dz;have p1:=Ab (o:=0) hb3 rfl;have p2:=Ab (o:=1) hb3 rfl;have p3:=Ab (o:=0) hb4 rfl;have p4:=Ab (o:=1) hb4 rfl;have p5:=Ab (o:=4) hb1 rfl;have p6:=Ab (o:=5) hb1 rfl;have c0:=Ab (o:=0) hb2 rfl;have c1:=Ab (o:=1) hb2 rfl;have c2:=Ab (o:=2) hb2 rfl;have c3:=Ab (o:=3) hb2 rfl;have c4:=Ab (o:=4) hb2 rfl;have c5:=Ab (o:=5) hb2 rfl;have f0:=An (o:=0) hb2;have f1:=An (o:=1) hb2;have f2:=An (o:=2) hb2;have f3:=An (o:=3) hb2;have f4:=An (o:=4) hb2;have f5:=An (o:=5) hb2;have hZ:=AeS (S (R lx)) (S (R ly)) (S (R (lx+px))) (S (R (ly+py))) (.int .i64 (1+u%30)) (.int .i64 (1+v%30)) hb2;have hle:w.heap.size<=w.heap.size+1:=(by omega);have xP:=(((((hE.setCell (p:=⟨w.heap.size+1,0,none⟩) hle (S (R lx))).setCell (p:=⟨w.heap.size+1,1,none⟩) hle (S (R ly))).setCell (p:=⟨w.heap.size+1,2,none⟩) hle (S (R (lx+px)))).setCell (p:=⟨w.heap.size+1,3,none⟩) hle (S (R (ly+py)))).setCell (p:=⟨w.heap.size+1,4,none⟩) hle (.int .i64 (1+u%30))).setCell (p:=⟨w.heap.size+1,5,none⟩) hle (.int .i64 (1+v%30));obtain⟨X,hX⟩:=AcG (((((((wc.setCell ⟨w.heap.size+1,0,none⟩ (S (R lx))).setCell ⟨w.heap.size+1,1,none⟩ (S (R ly))).setCell ⟨w.heap.size+1,2,none⟩ (S (R (lx+px)))).setCell ⟨w.heap.size+1,3,none⟩ (S (R (ly+py)))).setCell ⟨w.heap.size+1,4,none⟩ (.int .i64 (1+u%30))).setCell ⟨w.heap.size+1,5,none⟩ (.int .i64 (1+v%30))));rw [←hX]at hZ xP;have x0:=Ab (o:=0) hZ rfl;have x1:=Ab (o:=1) hZ rfl;have x2:=Ab (o:=2) hZ rfl;have x3:=Ab (o:=3) hZ rfl;have x4:=Ab (o:=4) hZ rfl;have x5:=Ab (o:=5) hZ rfl;have HX:=Asb hX;clear hX;go_wp2;rw [←HX.out];refine bodyPost_ret (v:=.agg #[S (R lx),S (R ly),S (R (lx+px)),S (R (ly+py)),.int .i64 (1+u%30),.int .i64 (1+v%30)]) (by simp [results,Tryz.results6,go_sem,x0,x1,x2,x3,x4,x5]) rfl ?_;exact⟨rfl,xP⟩
def CP(f:Rat→Rat→Rat):List Rat→Rat
 | []=>0
 | x::l=>l.foldl f x
theorem wQ(f:Rat→Rat→Rat){l:List Rat}(h:l≠[])(y:Rat):CP f (l ++ [y])=f (CP f l) y:=by
 match l,h with
 | x::l,_=>simp [CP,List.foldl_append]
theorem Xn(f:Rat→Rat→Rat)(hf:∀x y,f x y=x∨f x y=y):∀(l:List Rat) (x:Rat),l.foldl f x=x∨l.foldl f x∈l
 | [],x=>.inl rfl
 | y::l,x=>by
  rw [List.foldl_cons]
  rcases Xn f hf l (f x y)with h|h
  ·rcases hf x y with h2|h2
   ·left;rw [h,h2]
   ·right;rw [h,h2];exact List.mem_cons_self ..
  ·right;exact List.mem_cons_of_mem _ h
def GP(l:List Rat):List Value:=l.map fun q=>S (R q)
theorem RG(l:List Rat):(GP l).length=l.length:=by simp [GP]
theorem xm(x y:Rat):BE x y=x∨BE x y=y:=by unfold BE;split<;>simp
theorem AkW(l:List Rat)(h0:0<l.length){k:Nat}(hk:0<k)(hk2:k<=1900)(hz:∀q∈l,Sz k q)(A:Option Addr)(c:Nat)(w:World)(hw:Ai w)(hr:Am w A (GP l))(hc:l.length<=c)(hcm:c<=9223372036854775807) :
  Calls Tryz.prog 70 #[.slice A l.length c,.func (.func 71) #[] #[]] w (A0 (R (CP BE l)) w):=by
 obtain⟨b,o,rfl,hcs⟩:=hr.ad (by rw [RG];exact h0)
 have Db:∀j (h:j<l.length),w.cell? ⟨b,o+j,none⟩=some (S (R l[j])):=by intro j h;have:=hcs j (by rw [RG];exact h);unfold GP at this;rw [List.getElem_map]at this;exact this
 have hg0:=Db 0 h0;rw [Nat.add_zero]at hg0;have hlen:(1:Int)<=(l.length:Int):=(by omega);have HG:=Asb Db;have HZ:=Asb hz;obtain⟨rv,CH⟩:=AcG (CP BE l);rw [←CH];have Hu:=Asb CH;clear Db hz hcs hr CH;go_enter Tryz.func70,Tryz.ntmps70;go_wp2
 go_loopw [5,6] (fun v i wr=>∃j:Nat,i=.int .i64 (j:Nat)/\1<=j/\j<=l.length/\v=S (R (CP BE (l.take j)))/\Aa w wr) (fun _ i _=>l.length-(intOf i).toNat)
 case atStart=>
  refine⟨1,rfl,by omega,by omega,?_,Aa.refl _⟩
  match l,h0 with
  | x::l,_=>rfl
 case round=>
  obtain⟨j,rfl,DD,hj,rfl,Ac⟩:=hrel;have hne:l.take j≠[]:=by intro e;have:(l.take j).length=0:=(by rw [e];rfl);rw [List.length_take]at this;omega
  have Ev:Sz k (CP BE (l.take j)):=by
   match ht:l.take j,hne with
   | x::t,_=>
    have hm:∀y∈x::t,y∈l:=fun y hy=>List.mem_of_mem_take (by rw [ht];exact hy)
    rcases Xn BE xm t x with h|h
    ·show Sz k (t.foldl BE x);rw [h];exact HZ.out x (hm x (List.mem_cons_self ..))
    ·exact HZ.out _ (hm _ (List.mem_cons_of_mem _ h))
  by_cases hlt:j<l.length
  ·have hg:=Ac.cellS (HG.out j hlt);have D2:=HZ.out l[j] (Asg hlt)
   have Cp:CP BE (l.take (j+1))=BE (CP BE (l.take j)) l[j]:=by rw [Asi hlt,wQ _ hne]
   have cp:=CJ l[j] (CP BE (l.take j)) (a:=k) (b:=k) ⟨D2,Ev,hk,hk,by omega⟩;obtain⟨x,hx⟩:=AcG (l[j]);obtain⟨m,hm⟩:=AcG (CP BE (l.take j));rw [←hx,←hm]at cp;rw [←hx]at hg;rw [←hx,←hm]at Cp;rw [←hm];have F6:=Asb Cp;have hj0:(0:Int)<=(j:Int):=(by omega);have AG:(j:Int)<(l.length:Int):=(by omega);clear hx hm Ev D2 hne Cp;by_cases hlt2:x<m
   ·rw [OB hlt2]at cp;have HF:Hid (BE m x=x):=Asb (if_pos hlt2);clear hlt2;(go_wp2_with fail);(with_reducible refine(cp _ (hw.ext Ac)).mono ?_);rintro e w2 ⟨rfl,hx2⟩;have hg2:=hx2.cellS hg;go_wp2;go_roundw
    case rel=>exact⟨j+1,by go_num,by omega,hlt,by rw [F6.out,HF.out],Ac.trans hx2⟩
    case measure=>simp [intOf];omega
   ·obtain⟨sg,EH,qc⟩:∃z:Int,z=AD x m/\¬z<0:=by
     by_cases e:x=m
     ·exact⟨_,rfl,by rw [Qu e];omega⟩
     ·exact⟨_,rfl,by rw [SR (by grind)];omega⟩
    rw [←EH]at cp;have HF:Hid (BE m x=m):=Asb (if_neg hlt2);clear EH hlt2;(go_wp2_with fail);(with_reducible refine(cp _ (hw.ext Ac)).mono ?_);rintro e w2 ⟨rfl,hx2⟩;go_wp2;go_roundw
    case rel=>exact⟨j+1,by go_num,by omega,hlt,by rw [F6.out,HF.out],Ac.trans hx2⟩
    case measure=>simp [intOf];omega
  ·have CH:CP BE (l.take j)=rv:=(by rw [Hu.out,Aso (by omega)]);have hle:(l.length:Int)<=(j:Int):=(by omega);rw [CH];clear CH Ev hne;go_wp2;go_ret;exact⟨rfl,Ac⟩
theorem xj(x y:Rat):BD x y=x∨BD x y=y:=by unfold BD;split<;>simp
theorem AkT(l:List Rat)(h0:0<l.length){k:Nat}(hk:0<k)(hk2:k<=1900)(hz:∀q∈l,Sz k q)(A:Option Addr)(c:Nat)(w:World)(hw:Ai w)(hr:Am w A (GP l))(hc:l.length<=c)(hcm:c<=9223372036854775807) :
  Calls Tryz.prog 74 #[.slice A l.length c,.func (.func 71) #[] #[]] w (A0 (R (CP BD l)) w):=by
 obtain⟨b,o,rfl,hcs⟩:=hr.ad (by rw [RG];exact h0)
 have Db:∀j (h:j<l.length),w.cell? ⟨b,o+j,none⟩=some (S (R l[j])):=by intro j h;have:=hcs j (by rw [RG];exact h);unfold GP at this;rw [List.getElem_map]at this;exact this
 have hg0:=Db 0 h0;rw [Nat.add_zero]at hg0;have hlen:(1:Int)<=(l.length:Int):=(by omega);have HG:=Asb Db;have HZ:=Asb hz;obtain⟨rv,CH⟩:=AcG (CP BD l);rw [←CH];have Hu:=Asb CH;clear Db hz hcs hr CH;go_enter Tryz.func74,Tryz.ntmps74;go_wp2
 go_loopw [5,6] (fun v i wr=>∃j:Nat,i=.int .i64 (j:Nat)/\1<=j/\j<=l.length/\v=S (R (CP BD (l.take j)))/\Aa w wr) (fun _ i _=>l.length-(intOf i).toNat)
 case atStart=>
  refine⟨1,rfl,by omega,by omega,?_,Aa.refl _⟩
  match l,h0 with
  | x::l,_=>rfl
 case round=>
  obtain⟨j,rfl,DD,hj,rfl,Ac⟩:=hrel;have hne:l.take j≠[]:=by intro e;have:(l.take j).length=0:=(by rw [e];rfl);rw [List.length_take]at this;omega
  have Ev:Sz k (CP BD (l.take j)):=by
   match ht:l.take j,hne with
   | x::t,_=>
    have hm:∀y∈x::t,y∈l:=fun y hy=>List.mem_of_mem_take (by rw [ht];exact hy)
    rcases Xn BD xj t x with h|h
    ·show Sz k (t.foldl BD x);rw [h];exact HZ.out x (hm x (List.mem_cons_self ..))
    ·exact HZ.out _ (hm _ (List.mem_cons_of_mem _ h))
  by_cases hlt:j<l.length
  ·have hg:=Ac.cellS (HG.out j hlt);have D2:=HZ.out l[j] (Asg hlt)
   have Cp:CP BD (l.take (j+1))=BD (CP BD (l.take j)) l[j]:=by rw [Asi hlt,wQ _ hne]
   have cp:=CJ l[j] (CP BD (l.take j)) (a:=k) (b:=k) ⟨D2,Ev,hk,hk,by omega⟩;obtain⟨x,hx⟩:=AcG (l[j]);obtain⟨m,hm⟩:=AcG (CP BD (l.take j));rw [←hx,←hm]at cp;rw [←hx]at hg;rw [←hx,←hm]at Cp;rw [←hm];have F6:=Asb Cp;have hj0:(0:Int)<=(j:Int):=(by omega);have AG:(j:Int)<(l.length:Int):=(by omega);clear hx hm Ev D2 hne Cp;by_cases hlt2:m<x
   ·rw [SR hlt2]at cp;have HF:Hid (BD m x=x):=Asb (if_pos hlt2);clear hlt2;(go_wp2_with fail);(with_reducible refine(cp _ (hw.ext Ac)).mono ?_);rintro e w2 ⟨rfl,hx2⟩;have hg2:=hx2.cellS hg;go_wp2;go_roundw
    case rel=>exact⟨j+1,by go_num,by omega,hlt,by rw [F6.out,HF.out],Ac.trans hx2⟩
    case measure=>simp [intOf];omega
   ·obtain⟨sg,EH,qc⟩:∃z:Int,z=AD x m/\¬z>0:=by
     by_cases e:x=m
     ·exact⟨_,rfl,by rw [Qu e];omega⟩
     ·exact⟨_,rfl,by rw [OB (by grind)];omega⟩
    rw [←EH]at cp;have HF:Hid (BD m x=m):=Asb (if_neg hlt2);clear EH hlt2;(go_wp2_with fail);(with_reducible refine(cp _ (hw.ext Ac)).mono ?_);rintro e w2 ⟨rfl,hx2⟩;go_wp2;go_roundw
    case rel=>exact⟨j+1,by go_num,by omega,hlt,by rw [F6.out,HF.out],Ac.trans hx2⟩
    case measure=>simp [intOf];omega
  ·have CH:CP BD (l.take j)=rv:=(by rw [Hu.out,Aso (by omega)]);have hle:(l.length:Int)<=(j:Int):=(by omega);rw [CH];clear CH Ev hne;go_wp2;go_ret;exact⟨rfl,Ac⟩
def Aw(a b c:Pt):Rat:=(b.x-a.x)*(c.y-a.y)-(b.y-a.y)*(c.x-a.x)
theorem Aeu(a b c:Pt){k:Nat}(ha:Aq k a)(hb:Aq k b)(hc:Aq k c)(hk:0<k)(hk2:k<=400)(w:World)(hw:Ai w) :
  Calls Tryz.prog 210 #[Ak a,Ak b,Ak c] w (A0 (R (Aw a b c)) w):=by
 have s1:=BS b.x a.x (a:=k) (b:=k) ⟨hb.x,ha.x,hk,hk,by omega⟩;have s2:=BS b.y a.y (a:=k) (b:=k) ⟨hb.y,ha.y,hk,hk,by omega⟩;have s3:=BS c.x a.x (a:=k) (b:=k) ⟨hc.x,ha.x,hk,hk,by omega⟩;have s4:=BS c.y a.y (a:=k) (b:=k) ⟨hc.y,ha.y,hk,hk,by omega⟩;have m1:=Io (b.x-a.x) (c.y-a.y) (a:=k+k+1) (b:=k+k+1) ⟨hb.x.sub ha.x,hc.y.sub ha.y,by omega,by omega,by omega⟩;have m2:=Io (b.y-a.y) (c.x-a.x) (a:=k+k+1) (b:=k+k+1) ⟨hb.y.sub ha.y,hc.x.sub ha.x,by omega,by omega,by omega⟩;have sb:=BS ((b.x-a.x)*(c.y-a.y)) ((b.y-a.y)*(c.x-a.x)) (a:=k+k+1+(k+k+1)) (b:=k+k+1+(k+k+1)) ⟨(hb.x.sub ha.x).mul (hc.y.sub ha.y),(hb.y.sub ha.y).mul (hc.x.sub ha.x),by omega,by omega,by omega⟩;have e:Aw a b c=(b.x-a.x)*(c.y-a.y)-(b.y-a.y)*(c.x-a.x):=rfl;rw [←e]at sb;obtain⟨r,hr⟩:=AcG (Aw a b c);rw [←hr]at sb ⊢;unfold Ak;clear ha hb hc e hr;go_enter Tryz.func210,Tryz.ntmps210;(go_wp2_with fail);obtain⟨W,hW,hE,hb1,hb2,hb3⟩:=G9 w (.cells #[S (R a.x),S (R a.y)] 35) (.cells #[S (R b.x),S (R b.y)] 35) (.cells #[S (R c.x),S (R c.y)] 35);rw [←hW];clear hW;have hA:Ga W w.heap.size a:=⟨Ab hb1 rfl,Ab hb1 rfl⟩;have hB:Ga W (w.heap.size+1) b:=⟨Ab hb2 rfl,Ab hb2 rfl⟩;have hC:Ga W (w.heap.size+1+1) c:=⟨Ab hb3 rfl,Ab hb3 rfl⟩;clear hb1 hb2 hb3;have Bd:=(Aa.refl W).drew;have Cm:=hE.drew;obtain⟨k1,k2⟩:=hA;obtain⟨k3,k4⟩:=hB;have hA:=Ga.mk k1 k2;have hB:=Ga.mk k3 k4
 go_region_held3 (fun w'=>w'.cell? ⟨w.heap.size,0,none⟩=some (S (R a.x))/\w'.cell? ⟨w.heap.size,1,none⟩=some (S (R a.y))/\w'.cell? ⟨w.heap.size+1,0,none⟩=some (S (R b.x))/\w'.cell? ⟨w.heap.size+1,1,none⟩=some (S (R b.y)))
  (go_keep)
  (first|((with_reducible refine(s1 _ (hw.ext Cm)).mono ?_);rintro e w1 ⟨rfl,hx1⟩;obtain⟨q1,q2⟩:=hA.ext (Bd.trans hx1);obtain⟨q3,q4⟩:=hB.ext (Bd.trans hx1))|((with_reducible refine(s2 _ (hw.ext (Cm.trans hx1))).mono ?_);rintro e w2 ⟨rfl,hx2⟩;obtain⟨t1,t2⟩:=hA.ext (Bd.trans (hx1.trans hx2));obtain⟨t3,t4⟩:=hB.ext (Bd.trans (hx1.trans hx2))))
 have hV:=Bd.trans (hx1.trans hx2);replace hE:=hE.trans hV;replace hA:=hA.ext hV;replace hC:=hC.ext hV;clear Bd Cm hx1 hx2 k1 k2 k3 k4 q1 q2 q3 q4 t1 t2 t3 t4 hV hB s1 s2;have Bd:=(Aa.refl w2).drew;have Cm:=hE.drew;obtain⟨k1,k2⟩:=hA;obtain⟨k3,k4⟩:=hC;have hA:=Ga.mk k1 k2;have hC:=Ga.mk k3 k4;(go_wp2_with fail)
 go_region_held3 (fun w'=>w'.cell? ⟨w.heap.size,0,none⟩=some (S (R a.x))/\w'.cell? ⟨w.heap.size,1,none⟩=some (S (R a.y))/\w'.cell? ⟨w.heap.size+1+1,0,none⟩=some (S (R c.x))/\w'.cell? ⟨w.heap.size+1+1,1,none⟩=some (S (R c.y)))
  (go_keep)
  (first|((with_reducible refine(s3 _ (hw.ext Cm)).mono ?_);rintro e w3 ⟨rfl,hx1⟩;obtain⟨q1,q2⟩:=hA.ext (Bd.trans hx1);obtain⟨q3,q4⟩:=hC.ext (Bd.trans hx1))|((with_reducible refine(s4 _ (hw.ext (Cm.trans hx1))).mono ?_);rintro e w4 ⟨rfl,hx2⟩;obtain⟨t1,t2⟩:=hA.ext (Bd.trans (hx1.trans hx2));obtain⟨t3,t4⟩:=hC.ext (Bd.trans (hx1.trans hx2))))
 replace hE:=hE.trans (Bd.trans (hx1.trans hx2));clear hA hC Bd Cm hx1 hx2 k1 k2 k3 k4 q1 q2 q3 q4 t1 t2 t3 t4 s3 s4;(go_wp2_with fail);(with_reducible refine(m1 _ (hw.ext hE)).mono ?_);rintro e w5 ⟨rfl,hx⟩;replace hE:=hE.trans hx;(go_wp2_with fail);(with_reducible refine(m2 _ (hw.ext hE)).mono ?_);rintro e w6 ⟨rfl,hx2⟩;replace hE:=hE.trans hx2;(go_wp2_with fail);(with_reducible refine(sb _ (hw.ext hE)).mono ?_);rintro e w7 ⟨rfl,hx3⟩;replace hE:=hE.trans hx3;go_wp2;go_ret;exact⟨rfl,hE⟩
theorem AoG(a b c:Pt){k:Nat}(ha:Aq k a)(hb:Aq k b)(hc:Aq k c)(hk:0<k)(hk2:k<=400)(w:World)(hw:Ai w) :
  Calls Tryz.prog 131 #[Ak a,Ak b,Ak c] w (AQ (AN (Aw a b c)) w):=by
 have ar:=Aeu a b c ha hb hc hk hk2;have sg:=Lo (Aw a b c);have hE:=(((Aa.refl w).alloc (.cells #[S (R a.x),S (R a.y)] 35)).alloc (.cells #[S (R b.x),S (R b.y)] 35)).alloc (.cells #[S (R c.x),S (R c.y)] 35);unfold Ak at ar ⊢;clear ha hb hc;go_enter Tryz.func131,Tryz.ntmps131;(go_wp2_with fail);(with_reducible refine(ar _ (hw.ext hE)).mono ?_);rintro e w1 ⟨rfl,hx⟩;(go_wp2_with fail);(with_reducible refine(sg _).mono ?_);rintro e w2 ⟨rfl,hx2⟩;go_wp2;go_ret;exact⟨rfl,hE.trans (hx.trans hx2)⟩
def Bp(a b:Pt):Int:=if AD a.x b.x≠0 then AD a.x b.x else AD a.y b.y
theorem AkA(a b:Pt){k:Nat}(ha:Aq k a)(hb:Aq k b)(hk:0<k)(hk2:k<=400)(w:World)(hw:Ai w) :
  Calls Tryz.prog 132 #[Ak a,Ak b] w (AQ (Bp a b) w):=by
 have c1:=CJ a.x b.x (a:=k) (b:=k) ⟨ha.x,hb.x,hk,hk,by omega⟩;have c2:=CJ a.y b.y (a:=k) (b:=k) ⟨ha.y,hb.y,hk,hk,by omega⟩;have hE:=((Aa.refl w).alloc (.cells #[S (R a.x),S (R a.y)] 35)).alloc (.cells #[S (R b.x),S (R b.y)] 35);obtain⟨r,hr⟩:=AcG (Bp a b);rw [←hr]
 have hA:(w.alloc (.cells #[S (R a.x),S (R a.y)] 35)).alloc (.cells #[S (R b.x),S (R b.y)] 35) |>.heap[w.heap.size]?=some (.cells #[S (R a.x),S (R a.y)] 35):=(Below.heap_alloc _ _ _ (by simp)).trans (Ase w _)
 have hB:=Ase (w.alloc (.cells #[S (R a.x),S (R a.y)] 35)) (.cells #[S (R b.x),S (R b.y)] 35);rw [Asn]at hB;obtain⟨x,hx0⟩:=AcG (AD a.x b.x)
 have Mj:r=if x≠0 then x else AD a.y b.y:=by rw [hr,hx0];rfl
 rw [←hx0]at c1;unfold Ak;clear ha hb hr hx0;by_cases h:x=0
 ·subst h;replace Mj:r=AD a.y b.y:=(by rw [Mj];rfl);simp only [←Mj]at c2;clear Mj;go_enter Tryz.func132,Tryz.ntmps132;(go_wp2_with fail);(with_reducible refine(c1 _ (hw.ext hE)).mono ?_);rintro e w1 ⟨rfl,hx⟩;replace hE:=hE.trans hx;replace hA:=(hx.block _ (Asd hA)).trans hA;replace hB:=(hx.block _ (Asd hB)).trans hB;have k1:=Ab (o:=1) hA rfl;have k2:=Ab (o:=1) hB rfl;(go_wp2_with fail);(with_reducible refine(c2 _ (hw.ext hE)).mono ?_);rintro e w2 ⟨rfl,hx2⟩;go_wp2;go_ret;exact⟨rfl,hE.trans hx2⟩
 ·replace Mj:r=x:=(by rw [Mj,if_pos h]);have hne:(x != 0)=true:=(by rw [bne_iff_ne];exact h);subst Mj;clear c2 h;go_enter Tryz.func132,Tryz.ntmps132;(go_wp2_with fail);(with_reducible refine(c1 _ (hw.ext hE)).mono ?_);rintro e w1 ⟨rfl,hx⟩;go_wp2;go_ret;exact⟨rfl,hE.trans hx⟩
def AI(l:List Pt):List (Bs×Bs):=l.map FW
theorem BO{w:World}{A:Option Addr}{l:List Pt}(hr:Am w A (flat (AI l))){j:Nat}(h:j<l.length):∃b o,A=some ⟨b,o,none⟩/\w.cell? ⟨b,o+j*2,none⟩=some (S (R l[j].x))/\w.cell? ⟨b,o+j*2+1,none⟩=some (S (R l[j].y)):=by
 have hl:(AI l).length=l.length:=(by simp [AI]);obtain⟨b,o,e,hcs⟩:=hr.ad (by rw [flat_length];omega);obtain⟨f1,f2⟩:=flat_get (AI l) j (by omega);have hg1:=hcs (j*2) (by rw [flat_length];omega);have hg2:=hcs (j*2+1) (by rw [flat_length];omega);rw [Asl (by rw [flat_length];omega),Asj]at f1 f2;rw [f1]at hg1;rw [f2,←Nat.add_assoc]at hg2;have e2:(AI l)[j]'(by omega)=FW l[j]:=(by simp [AI]);rw [e2]at hg1 hg2;exact⟨b,o,e,hg1,hg2⟩
structure cJ(l:List Pt):Prop where
 n3:3<=l.length
 n60:l.length<=60
 turn:∀(i n:Nat) (hi:i<l.length) (hn:n<l.length),n≠i→n≠(i+1)%l.length→0<Aw l[i] (l[(i+1)%l.length]'(Nat.mod_lt _ (by omega))) l[n]
 less:∀(n:Nat) (h:n+1<l.length),¬Bp l[n+1] (l[0]'(by omega))<0
theorem Amg(l:List Pt)(hp:cJ l){k:Nat}(hz:∀p∈l,Aq k p)(hk:0<k)(hk2:k<=200)(A:Option Addr)(c:Nat)(w:World)(hw:Ai w)(hr:Am w A (flat (AI l)))(hc:l.length<=c)(_:c<=9223372036854775807) :
  Calls Tryz.prog 62 #[.slice A l.length c] w (AQ 0 w):=by
 obtain⟨h3,eO,hturn,ju⟩:=hp;have HT:=Asb hturn;have HL:=Asb ju;have HZ:=Asb hz;clear hturn ju hz;go_enter Tryz.func62,Tryz.ntmps62;go_wp2
 go_loopw [21] (fun i wr=>∃j:Nat,i=.int .i64 (j:Nat)/\j<=l.length/\Aa w wr) (fun i _=>l.length-(intOf i).toNat)
 case atStart=>exact⟨0,rfl,by omega,Aa.refl _⟩
 case round=>
  obtain⟨j,rfl,hj,Ac⟩:=hrel;by_cases hlt:j<l.length
  ·obtain⟨b,o,rfl,hg1,hg2⟩:=BO (hr.ext Ac) hlt;have D2:=HZ.out l[j] (Asg hlt);obtain⟨p,hp⟩:=AcG (l[j]);rw [←hp]at hg1 hg2 D2;have hx1:=Ac.alloc (.cells #[S (R p.x),S (R p.y)] 35);have ck:=SL (R p.x) (R p.y) true (by simp only [true_iff];exact⟨Li D2.x hk hk2,Li D2.y hk hk2⟩) (PP D2.x hk (by omega)) (PP D2.y hk (by omega)) _ (hw.ext hx1);rw [GA]at ck;have hj0:(0:Int)<=(j:Int):=(by omega);have AG:(j:Int)<(l.length:Int):=(by omega);clear hp D2;(go_wp2_with fail);(with_reducible refine ck.mono ?_);rintro e w2 ⟨rfl,hx2⟩;go_wp2;go_roundw
   case rel=>exact⟨j+1,by go_num,hlt,hx1.trans hx2⟩
   case measure=>simp [intOf];omega
  ·have hle:(l.length:Int)<=(j:Int):=(by omega);have hd:decide (j<l.length)=false:=(by simp [hlt]);have DY:decide ((j:Int)<(l.length:Int))=false:=(by simp;omega);clear hlt;go_wp2
   (try first|simp only [hd]|simp only [DY])
   clear hle hd DY
   go_loopw [33] (fun i wr=>∃i':Nat,i=.int .i64 (i':Nat)/\i'<=l.length/\Aa w wr) (fun i _=>l.length-(intOf i).toNat)
   case atStart=>exact⟨0,rfl,by omega,Ac⟩
   case round=>
    obtain⟨i,rfl,hi,TZ⟩:=hrel;by_cases hlt:i<l.length
    ·obtain⟨b,o,rfl,hg1,hg2⟩:=BO (hr.ext TZ) hlt;obtain⟨kk,Dd⟩:=AcG ((i+1)%l.length);have Co:kk<l.length:=(by rw [Dd];exact Nat.mod_lt _ (by omega));have Kb:((i:Int)+1)%(l.length:Int)=(kk:Int):=(by rw [Dd];simp);obtain⟨pa,FU⟩:=AcG (l[i]);have Rq:=HZ.out l[i] (Asg hlt);rw [←FU]at hg1 hg2 Rq;have KR:(0:Int)<=(i:Int):=(by omega);have CB:(i:Int)<(l.length:Int):=(by omega);have hx1:=TZ.alloc (.cells #[S (R pa.x),S (R pa.y)] 35);have Bj:=Ase wr (.cells #[S (R pa.x),S (R pa.y)] 35);have bI:=Asb Dd;have VY:=Asb FU;clear Dd FU;go_wp2;rw [Kb];clear Kb hg1 hg2;generalize wr.alloc (.cells #[S (R pa.x),S (R pa.y)] 35)=V at *;obtain⟨ba,TC⟩:=AcG wr.heap.size;rw [←TC]at Bj ⊢;clear TC TZ
     go_loopw [45] (fun i wr=>∃n:Nat,i=.int .i64 (n:Nat)/\n<=l.length/\Aa V wr) (fun i _=>l.length-(intOf i).toNat)
     case atStart=>exact⟨0,rfl,by omega,Aa.refl _⟩
     case round=>
      obtain⟨n,rfl,hn,KQ⟩:=hrel;by_cases Md:n<l.length
      ·obtain⟨_,_,e1,hg1,hg2⟩:=BO (hr.ext (hx1.trans KQ)) Md;obtain⟨_,_,e2,hg3,hg4⟩:=BO (hr.ext (hx1.trans KQ)) Co;simp only [Asj,Addr.mk.injEq,and_true]at e1 e2;obtain⟨rfl,rfl⟩:=e1;obtain⟨e2,e3⟩:=e2;subst e2 e3;obtain⟨px,Fv⟩:=AcG (l[n]);obtain⟨pk,Mi⟩:=AcG (l[kk]);have Mr:=HZ.out l[n] (Asg Md);have P5:=HZ.out l[kk] (Asg Co);rw [←Fv]at hg1 hg2 Mr;rw [←Mi]at hg3 hg4 P5;have HPX:=Asb Fv;have HPK:=Asb Mi;clear Fv Mi;have TD:=(KQ.block _ (Asd Bj)).trans Bj;have Eu:=KQ.alloc (.cells #[S (R px.x),S (R px.y)] 35);have As:=Ase wr (.cells #[S (R px.x),S (R px.y)] 35);have FS:(0:Int)<=(n:Int):=(by omega);have hnl:(n:Int)<(l.length:Int):=(by omega);have hk0:(0:Int)<=(kk:Int):=(by omega);have Ai6:(kk:Int)<(l.length:Int):=(by omega);have hxx:=(Aa.refl wr).alloc (.cells #[S (R px.x),S (R px.y)] 35);replace TD:=(hxx.block _ (Asd TD)).trans TD;have hg3':=hxx.cellS hg3;have QL:=hxx.cellS hg4
       go_upto_region 19 with fail
       clear hg1 hg2 hg3 hg4;generalize wr.alloc (.cells #[S (R px.x),S (R px.y)] 35)=U at *;obtain⟨bx,JW⟩:=AcG wr.heap.size;rw [←JW]at As ⊢;clear JW hxx;by_cases NG:n=i
       ·have t1:((n:Int) != (i:Int))=false:=(by rw [NG];simp);clear NG
        go_quiet (fail)
        go_wp2;go_roundw
        case rel=>exact⟨n+1,by go_num,Md,Eu.drewN _⟩
        case measure=>simp [intOf];omega
       ·have t1:((n:Int) != (i:Int))=true:=(by rw [bne_iff_ne];omega);have t1n:(n != i)=true:=(by rw [bne_iff_ne];exact NG);have t1e:(n == i)=false:=(by rw [beq_eq_false_iff_ne];exact NG);by_cases Js:n=kk
        ·have t2n:(n != kk)=false:=(by rw [Js];simp);have t2:((n:Int) != (kk:Int))=false:=(by rw [Js];simp);clear Js NG
         go_quiet (fail)
         go_wp2;go_roundw
         case rel=>exact⟨n+1,by go_num,Md,Eu.drewN _⟩
         case measure=>simp [intOf];omega
        ·have t2:((n:Int) != (kk:Int))=true:=(by rw [bne_iff_ne];omega);have t2n:(n != kk)=true:=(by rw [bne_iff_ne];exact Js);have t2e:(n == kk)=false:=by rw [beq_eq_false_iff_ne];exact Js
         have zK:0<Aw pa pk px:=by have h:=HT.out i n hlt Md NG (by rw [←bI.out];exact Js);rw [VY.out,HPK.out,HPX.out];simp only [bI.out];exact h
         have tn:=AoG pa pk px Rq P5 Mr hk (by omega);rw [ZT zK]at tn;have c1:=Ab (o:=0) TD rfl;have c2:=Ab (o:=1) TD rfl;have c3:=Ab (o:=0) As rfl;have c4:=Ab (o:=1) As rfl;have hU:=hw.ext (hx1.trans Eu);unfold Ak at tn;clear Mr P5 zK NG Js
         go_region_held3 (fun w'=>w'.cell? ⟨ba,0,none⟩=some (S (R pa.x))/\w'.cell? ⟨ba,1,none⟩=some (S (R pa.y))/\w'.cell? ⟨b,o+kk*2,none⟩=some (S (R pk.x))/\w'.cell? ⟨b,o+kk*2+1,none⟩=some (S (R pk.y))/\w'.cell? ⟨bx,0,none⟩=some (S (R px.x))/\w'.cell? ⟨bx,1,none⟩=some (S (R px.y)))
          (go_keep)
          (first|((with_reducible refine(tn _ (hU.ext (Aa.refl U).drew)).mono ?_);rintro e w5 ⟨rfl,Ae⟩;have X5:=(Aa.refl U).drew.trans Ae;have d1:=X5.cellS c1;have d2:=X5.cellS c2;have d3:=X5.cellS c3;have d4:=X5.cellS c4;have d5:=X5.cellS hg3';have d6:=X5.cellS QL))
         go_wp2;go_roundw
         case rel=>exact⟨n+1,by go_num,Md,Eu.trans X5⟩
         case measure=>simp [intOf];omega
      ·have hle:(l.length:Int)<=(n:Int):=(by omega);go_wp2;go_roundw
       case rel=>exact⟨i+1,by go_num,hlt,hx1.trans KQ⟩
       case measure=>simp [intOf];omega
    ·have hle:(l.length:Int)<=(i:Int):=(by omega);have hd:decide (i<l.length)=false:=(by simp [hlt]);have DY:decide ((i:Int)<(l.length:Int))=false:=(by simp;omega);have AiB:0<l.length:=(by omega);obtain⟨b,o,rfl,_,_⟩:=BO (hr.ext TZ) AiB;have CU:(1:Int)<=(l.length:Int):=(by omega);have hlc:(l.length:Int)<=(c:Int):=(by omega);have hm1:(l.length:Int)-1=((l.length-1:Nat):Int):=(by omega);obtain⟨m,hme⟩:=AcG (l.length-1);rw [←hme]at hm1;have HM:=Asb hme;clear hme hlt;go_wp2;rw [←HM.out];clear hle hd DY hm1 CU hlc
     go_loopw [73] (fun i wr=>∃n:Nat,i=.int .i64 (n:Nat)/\n<=m/\Aa w wr) (fun i _=>m-(intOf i).toNat)
     case atStart=>exact⟨0,rfl,by omega,TZ⟩
     case round=>
      obtain⟨n,rfl,hn,KQ⟩:=hrel;by_cases Md:n<m
      ·have De:n+1<l.length:=(by rw [HM.out]at Md;omega);have hl0:0<l.length:=(by omega);obtain⟨_,_,e1,hg1,hg2⟩:=BO (hr.ext KQ) De;obtain⟨_,_,e2,hg3,hg4⟩:=BO (hr.ext KQ) hl0;simp only [Asj,Addr.mk.injEq,and_true]at e1 e2;obtain⟨rfl,rfl⟩:=e1;obtain⟨e2,e3⟩:=e2;subst e2 e3;obtain⟨px,Fv⟩:=AcG (l[n+1]);obtain⟨p0,Be⟩:=AcG (l[0]);have Mr:=HZ.out l[n+1] (Asg De);have hz0:=HZ.out l[0] (Asg hl0);have EX:=HL.out n De;rw [←Fv]at hg1 hg2 Mr;rw [←Be]at hg3 hg4 hz0;rw [←Fv,←Be]at EX;have ls:=AkA px p0 Mr hz0 hk (by omega);obtain⟨r,EZ⟩:=AcG (Bp px p0);rw [←EZ]at EX ls;have hr0:0<=r:=(by omega);have e2:o+(n+1)*2=o+2+n*2:=(by omega);rw [e2]at hg1 hg2;rw [Nat.zero_mul,Nat.add_zero]at hg3 hg4;have FS:(0:Int)<=(n:Int):=(by omega);have hnl:(n:Int)<(m:Int):=(by omega);have hl0':(0:Int)<(l.length:Int):=(by omega);have Eu:=KQ.alloc (.cells #[S (R px.x),S (R px.y)] 35);have As:=Ase wr (.cells #[S (R px.x),S (R px.y)] 35);have hxx:=(Aa.refl wr).alloc (.cells #[S (R px.x),S (R px.y)] 35);have hg3':=hxx.cellS hg3;have QL:=hxx.cellS hg4;unfold Ak at ls;clear EX EZ Fv Be Mr hz0 e2
       go_upto_region 26 with fail
       clear hg1 hg2 hg3 hg4;generalize wr.alloc (.cells #[S (R px.x),S (R px.y)] 35)=U at *;obtain⟨bx,JW⟩:=AcG wr.heap.size;rw [←JW]at As ⊢;clear JW hxx;have c3:=Ab (o:=0) As rfl;have c4:=Ab (o:=1) As rfl;have hU:=hw.ext Eu
       go_region_held3 (fun w'=>w'.cell? ⟨b,o,none⟩=some (S (R p0.x))/\w'.cell? ⟨b,o+1,none⟩=some (S (R p0.y))/\w'.cell? ⟨bx,0,none⟩=some (S (R px.x))/\w'.cell? ⟨bx,1,none⟩=some (S (R px.y)))
        (go_keep)
        (first|((with_reducible refine(ls _ (hU.ext (Aa.refl U).drew)).mono ?_);rintro e w5 ⟨rfl,Ae⟩;have X5:=(Aa.refl U).drew.trans Ae;have d1:=X5.cellS c3;have d2:=X5.cellS c4;have d3:=X5.cellS hg3';have d4:=X5.cellS QL))
       go_wp2;go_roundw
       case rel=>exact⟨n+1,by go_num,Md,Eu.trans X5⟩
       case measure=>simp [intOf];omega
      ·have hle:(m:Int)<=(n:Int):=(by omega);go_wp2;go_ret;exact⟨rfl,KQ⟩
end Go.Proofs.YtdaefncphfeaeaaGreatDoor
