/- Z18: G6 G7 G8A G9. -/
import Derived.Test.YtdaefncphfeaeaaGreatDoorZ17
set_option maxRecDepth 100000
set_option maxHeartbeats 16000000
namespace Go.Proofs.YtdaefncphfeaeaaGreatDoor
open Go.RowKit Kl
theorem AeR(w:World)(o1 o2 o3 o4 o5:Obj):∃W,W=((((w.alloc o1).alloc o2).alloc o3).alloc o4).alloc o5/\Aa w W/\W.heap[w.heap.size]?=some o1/\W.heap[w.heap.size+1]?=some o2/\W.heap[w.heap.size+1+1]?=some o3/\W.heap[w.heap.size+1+1+1]?=some o4/\W.heap[w.heap.size+1+1+1+1]?=some o5:=by
 obtain⟨V,hV,hE,h1,h2,h3⟩:=G9 w o1 o2 o3;have hs:V.heap.size=w.heap.size+1+1+1:=(by rw [hV];simp);have h4:=Ase V o4;have h5:=Ase (V.alloc o4) o5;rw [Asn,hs]at h5;rw [hs]at h4;rw [←hV];have g:=fun k (hk:k<V.heap.size)=>(Below.heap_alloc (V.alloc o4) o5 k (by simp;omega)).trans (Below.heap_alloc V o4 k hk);refine⟨_,rfl,(hE.alloc _).alloc _,(g _ (by omega)).trans h1,(g _ (by omega)).trans h2,(g _ (by omega)).trans h3,?_,h5⟩;exact(Below.heap_alloc _ _ _ (by simp;omega)).trans h4
structure IV(W:World)(b:Nat)(s:Sg):Prop where
 k1:W.cell? ⟨b,0,none⟩=some (S (R s.a.x))
 k2:W.cell? ⟨b,1,none⟩=some (S (R s.a.y))
 k3:W.cell? ⟨b,2,none⟩=some (S (R s.b.x))
 k4:W.cell? ⟨b,3,none⟩=some (S (R s.b.y))
theorem IV.ext{W V:World}{b:Nat}{s:Sg}(h:IV W b s)(hx:Aa W V):IV V b s:=⟨hx.cellS h.k1,hx.cellS h.k2,hx.cellS h.k3,hx.cellS h.k4⟩
theorem K7{B:Nat}{W V:World}(h:Below B W V){b o:Nat}{v:Value}(hb:b<B)(hc:W.cell? ⟨b,o,none⟩=some v):V.cell? ⟨b,o,none⟩=some v:=
 (Below.cell h (p:=⟨b,o,none⟩) hb).trans hc
theorem IV.below{B:Nat}{W V:World}{b:Nat}{s:Sg}(h:IV W b s)(hx:Below B W V)(hb:b<B):IV V b s:=⟨K7 hx hb h.k1,K7 hx hb h.k2,K7 hx hb h.k3,K7 hx hb h.k4⟩
theorem D3.below{B:Nat}{W V:World}{b:Nat}{c:Cv}(h:D3 W b c)(hx:Below B W V)(hb:b<B):D3 V b c:=
 ⟨K7 hx hb h.k1,K7 hx hb h.k2,K7 hx hb h.k3,K7 hx hb h.k4,K7 hx hb h.k5,K7 hx hb h.k6⟩
def Qs(c:Cv)(s:Sg):Value:=match Eg c s with|none=>.tuple #[.agg #[S [],S [],S [],S []],.bool false]|some p=>.tuple #[Ax p,.bool true]
theorem SQ{c:Cv}{s:Sg}(h:Eg c s=none):Qs c s=.tuple #[.agg #[S [],S [],S [],S []],.bool false]:=by unfold Qs;rw [h]
theorem uM{c:Cv}{s p:Sg}(h:Eg c s=some p):Qs c s=.tuple #[Ax p,.bool true]:=by unfold Qs;rw [h]
structure Oq(w V:World)(c:Cv)(s:Sg)(l h:Rat)(m:Nat):Prop where
 ext:Aa w V
 C:D3 V w.heap.size c
 S:IV V (w.heap.size+1) s
 Z:V.heap[w.heap.size+1+1]?=some (.cells #[Go.Proofs.YtdaefncphfeaeaaGreatDoor.S [],Go.Proofs.YtdaefncphfeaeaaGreatDoor.S [],Go.Proofs.YtdaefncphfeaeaaGreatDoor.S [],Go.Proofs.YtdaefncphfeaeaaGreatDoor.S []] 74)
 B:Oo V (w.heap.size+1+1+1) l h
 l:Sz m l
 h:Sz m h
theorem Oq.trans{w V U:World}{c:Cv}{s:Sg}{l h:Rat}{m:Nat}(hs:Oq w V c s l h m)(hx:Aa V U):Oq w U c s l h m:=
 ⟨hs.ext.trans hx,hs.C.ext hx,hs.S.ext hx,(hx.block _ (Asd hs.Z)).trans hs.Z,hs.B.ext hx,hs.l,hs.h⟩
theorem Oq.below{w V U:World}{c:Cv}{s:Sg}{l h l' h':Rat}{m:Nat}(hs:Oq w V c s l h m)(hx:Below (w.heap.size+1+1+1) V U)(hb:Oo U (w.heap.size+1+1+1) l' h')(hl:Sz m l')(hh:Sz m h'):Oq w U c s l' h' m:=
 ⟨hs.ext.trans_below hx (by omega),hs.C.below hx (by omega),hs.S.below hx (by omega),(hx.block _ (by omega)).trans hs.Z,hb,hl,hh⟩
theorem RS{w:World}{b:Nat}{a0 a1 a2 a3:Value}(v0 v1 v2 v3:Value)(g0:w.cell? ⟨b,0,none⟩=some a0)(g1:w.cell? ⟨b,1,none⟩=some a1)(g2:w.cell? ⟨b,2,none⟩=some a2)(g3:w.cell? ⟨b,3,none⟩=some a3) :
  ∃W,W=(((w.setCell ⟨b,0,none⟩ v0).setCell ⟨b,1,none⟩ v1).setCell ⟨b,2,none⟩ v2).setCell ⟨b,3,none⟩ v3/\W.cell? ⟨b,0,none⟩=some v0/\W.cell? ⟨b,1,none⟩=some v1/\W.cell? ⟨b,2,none⟩=some v2/\W.cell? ⟨b,3,none⟩=some v3:=by
 have n:∀(W:World) (v:Value) (i j:Nat),i≠j→(W.setCell ⟨b,i,none⟩ v).cell? ⟨b,j,none⟩=W.cell? ⟨b,j,none⟩:=fun W v i j h=>World.cell?_setCell_other _ _ _ _ (by simp);refine⟨_,rfl,?_,?_,?_,?_⟩
 ·rw [n _ _ _ _ (by decide),n _ _ _ _ (by decide),n _ _ _ _ (by decide)];exact World.cell?_setCell_same _ _ _ g0
 ·rw [n _ _ _ _ (by decide),n _ _ _ _ (by decide)];exact World.cell?_setCell_same _ _ _ ((n _ _ _ _ (by decide)).trans g1)
 ·rw [n _ _ _ _ (by decide)];exact World.cell?_setCell_same _ _ _ ((n _ _ _ _ (by decide)).trans ((n _ _ _ _ (by decide)).trans g2))
 ·exact World.cell?_setCell_same _ _ _ ((n _ _ _ _ (by decide)).trans ((n _ _ _ _ (by decide)).trans ((n _ _ _ _ (by decide)).trans g3)))
theorem Afr(c:Cv)(s:Sg)(hc:It c){a:Nat}(hs:DK a s)(ha:0<a)(ha2:a<=200)(w:World)(hw:Ai w) :
  Calls Tryz.prog 130 #[BQ c,Ax s] w (Bg (Qs c s) w):=by
 have Kc:∀(fn:Fn) (first cap:Array Value) (w:World),(Instr.makeFunc fn first cap).run Tryz.prog w=.ok (.func fn first cap) w:=fun _ _ _ _=>rfl;obtain⟨m,hm⟩:=AcG (3*a+5);have TW:=hs.b.x.sub hs.a.x;have TX:=hs.b.y.sub hs.a.y;have f1:Sz (a+4) (s.a.x-c.low.x):=(hs.a.x.sub hc.low.x).mono (by omega);have f2:Sz (a+4) (c.high.x-s.a.x):=(hc.high.x.sub hs.a.x).mono (by omega);have f3:Sz (a+4) (s.a.y-c.low.y):=(hs.a.y.sub hc.low.y).mono (by omega);have f4:Sz (a+4) (c.high.y-s.a.y):=(hc.high.y.sub hs.a.y).mono (by omega);have sx:=BS s.b.x s.a.x (a:=a) (b:=a) ⟨hs.b.x,hs.a.x,ha,ha,by omega⟩;have sy:=BS s.b.y s.a.y (a:=a) (b:=a) ⟨hs.b.y,hs.a.y,ha,ha,by omega⟩;have t1:=BS s.a.x c.low.x (a:=a) (b:=3) ⟨hs.a.x,hc.low.x,ha,by omega,by omega⟩;have t2:=BS c.high.x s.a.x (a:=3) (b:=a) ⟨hc.high.x,hs.a.x,by omega,ha,by omega⟩;have t3:=BS s.a.y c.low.y (a:=a) (b:=3) ⟨hs.a.y,hc.low.y,ha,by omega,by omega⟩;have t4:=BS c.high.y s.a.y (a:=3) (b:=a) ⟨hc.high.y,hs.a.y,by omega,ha,by omega⟩;obtain⟨dx,iU⟩:=AcG (s.b.x-s.a.x);obtain⟨dy,iV⟩:=AcG (s.b.y-s.a.y);obtain⟨g1,hg1⟩:=AcG (s.a.x-c.low.x);obtain⟨g2,hg2⟩:=AcG (c.high.x-s.a.x);obtain⟨g3,hg3⟩:=AcG (s.a.y-c.low.y);obtain⟨g4,hg4⟩:=AcG (c.high.y-s.a.y);have Ss:Hid (MX c s=AZ g4 (-dy) (AZ g3 dy (AZ g2 (-dx) (AZ g1 dx (some (0,1)))))):=Asb (by unfold MX;rw [hg1,hg2,hg3,hg4,iU,iV]);rw [←iU]at TW sx;rw [←iV]at TX sy;rw [←hg1]at f1 t1;rw [←hg2]at f2 t2;rw [←hg3]at f3 t3;rw [←hg4]at f4 t4;have nx:=Vt dx (k:=a+a+1) (by omega) (by omega) TW;have ny:=Vt dy (k:=a+a+1) (by omega) (by omega) TX;have b1:=fun l h (hl:Sz m l) (hh:Sz m h)=>WL g1 dx l h f1 TW hl hh (by omega) (by omega) (by omega) (by omega) (w.heap.size+1+1+1);have b2:=fun l h (hl:Sz m l) (hh:Sz m h)=>WL g2 (-dx) l h f2 TW.neg hl hh (by omega) (by omega) (by omega) (by omega) (w.heap.size+1+1+1);have b3:=fun l h (hl:Sz m l) (hh:Sz m h)=>WL g3 dy l h f3 TX hl hh (by omega) (by omega) (by omega) (by omega) (w.heap.size+1+1+1);have b4:=fun l h (hl:Sz m l) (hh:Sz m h)=>WL g4 (-dy) l h f4 TX.neg hl hh (by omega) (by omega) (by omega) (by omega) (w.heap.size+1+1+1);have m0:Sz m 0:=⟨by show 0<10^m;exact Aal m,by show 1<10^m;exact Nat.one_lt_pow (by omega) (by omega)⟩;have m1:Sz m 1:=⟨by show 1<10^m;exact Nat.one_lt_pow (by omega) (by omega),by show 1<10^m;exact Nat.one_lt_pow (by omega) (by omega)⟩;have MM:=Asb hm;have HS:=Asb hs;obtain⟨rv,CH⟩:=AcG (Qs c s);have Hu:=Asb CH;rw [←CH];unfold BQ Ax;clear iU iV hg1 hg2 hg3 hg4 f1 f2 f3 f4 TW TX hs hc CH hm;go_enter Tryz.func130,Tryz.ntmps130;(go_wp2_with fail);clear Kc;obtain⟨W,hW,hE,hb1,hb2,hb3,hb4,hb5⟩:=AeR w (.cells #[S (R c.low.x),S (R c.low.y),S (R c.high.x),S (R c.high.y),.int .i64 (c.W:Nat),.int .i64 (c.H:Nat)] 37) (.cells #[S (R s.a.x),S (R s.a.y),S (R s.b.x),S (R s.b.y)] 74) (.cells #[S [],S [],S [],S []] 74) (.cells #[S [48]] 33) (.cells #[S [49]] 33);rw [←hW];have st:Oq w W c s 0 1 m:=⟨hE,D3.of hb1,⟨Ab hb2 rfl,Ab hb2 rfl,Ab hb2 rfl,Ab hb2 rfl⟩,hb3,⟨by rw [G7];exact hb4,by rw [S3];exact hb5⟩,m0,m1⟩;clear hW hE hb1 hb2 hb3 hb4 hb5 m0 m1
 have Bd:=(Aa.refl W).drew;obtain⟨k1,k2,k3,k4⟩:=st.S;have Cm:=st.ext.drew
 go_region_held3 (fun w'=>w'.cell? ⟨w.heap.size+1,0,none⟩=some (S (R s.a.x))/\w'.cell? ⟨w.heap.size+1,1,none⟩=some (S (R s.a.y))/\w'.cell? ⟨w.heap.size+1,2,none⟩=some (S (R s.b.x))/\w'.cell? ⟨w.heap.size+1,3,none⟩=some (S (R s.b.y)))
  (go_keep)
  (first|((with_reducible refine(sx _ (hw.ext Cm)).mono ?_);rintro e w1 ⟨rfl,hx1⟩;obtain⟨q1,q2,q3,q4⟩:=st.S.ext (Bd.trans hx1))|((with_reducible refine(sy _ (hw.ext (Cm.trans hx1))).mono ?_);rintro e w2 ⟨rfl,hx2⟩;obtain⟨s1,s2,s3,s4⟩:=st.S.ext (Bd.trans (hx1.trans hx2))))
 replace st:=st.trans (Bd.trans (hx1.trans hx2));clear Bd Cm hx1 hx2 k1 k2 k3 k4 q1 q2 q3 q4 s1 s2 s3 s4 sx sy;obtain⟨c1,c2,c3,c4,c5,c6⟩:=st.C;obtain⟨k1,k2,k3,k4⟩:=st.S;(go_wp2_with fail);(with_reducible refine(t1 _ (hw.ext st.ext)).mono ?_);rintro e wa1 ⟨rfl,hx⟩;replace st:=st.trans hx;clear hx c1 c2 c3 c4 c5 c6 k1 k2 k3 k4 t1;have JS:=b1 _ _ st.l st.h _ (hw.ext st.ext) st.B;(go_wp2_with fail);(with_reducible refine JS.mono ?_);rintro e wb1 ⟨bb1,l1,h1,rfl,Bw,hbds,Pv,hsm,hzl,hzh⟩;clear b1 JS
 cases bb1
 ·have Ade:=Asb Pv;obtain⟨rfl,rfl⟩:=hsm rfl;replace st:=st.below Bw hbds st.l st.h;clear Pv Bw hbds hsm hzl hzh;have hn:Eg c s=none:=(by unfold Eg;rw [Ss.out,show AZ _ _ _=none from Ade.out,Qo,Qo,Qo]);have hv:rv=_:=Hu.out.trans (SQ hn);subst hv;have z0:=Ab (o:=0) st.Z rfl;have z1:=Ab (o:=1) st.Z rfl;have z2:=Ab (o:=2) st.Z rfl;have z3:=Ab (o:=3) st.Z rfl;have y0:=An (o:=0) st.Z;have y1:=An (o:=1) st.Z;have y2:=An (o:=2) st.Z;have y3:=An (o:=3) st.Z;obtain⟨X,hX,x0,x1,x2,x3⟩:=RS (S []) (S []) (S []) (S []) z0 z1 z2 z3;clear hn;go_wp2;rw [show (⟨#[]⟩:ByteArray)=⟨([]:Bs).toArray⟩from rfl,←hX];refine bodyPost_ret (v:=.tuple #[.agg #[S [],S [],S [],S []],.bool false]) (by simp [results,Tryz.results130,go_sem,x0,x1,x2,x3]) rfl ⟨rfl,?_⟩;rw [hX];exact(((st.ext.setCell (by show w.heap.size<=w.heap.size+1+1;omega) _).setCell (by show w.heap.size<=w.heap.size+1+1;omega) _).setCell (by show w.heap.size<=w.heap.size+1+1;omega) _).setCell (by show w.heap.size<=w.heap.size+1+1;omega) _
 have Wg:Hid (AZ _ _ _=some (l1,h1)):=Asb Pv;replace st:=st.below Bw hbds hzl hzh;clear Pv Bw hbds hsm hzl hzh;obtain⟨c1,c2,c3,c4,c5,c6⟩:=st.C;obtain⟨k1,k2,k3,k4⟩:=st.S;(go_wp2_with fail);(with_reducible refine(t2 _ (hw.ext st.ext)).mono ?_);rintro e wa2 ⟨rfl,hx⟩;replace st:=st.trans hx;clear hx c1 c2 c3 c4 c5 c6 k1 k2 k3 k4 t2;(go_wp2_with fail);(with_reducible refine(nx _).mono ?_);rintro e wc2 ⟨rfl,hx⟩;replace st:=st.trans hx;clear hx nx;have JS:=b2 _ _ st.l st.h _ (hw.ext st.ext) st.B;(go_wp2_with fail);(with_reducible refine JS.mono ?_);rintro e wb2 ⟨bb2,l2,h2,rfl,Bw,hbds,KZ,hsm,hzl,hzh⟩;clear b2 JS
 cases bb2
 ·have Adf:=Asb KZ;obtain⟨rfl,rfl⟩:=hsm rfl;replace st:=st.below Bw hbds st.l st.h;clear KZ Bw hbds hsm hzl hzh;have hn:Eg c s=none:=(by unfold Eg;rw [Ss.out,Wg.out,show AZ _ _ _=none from Adf.out,Qo,Qo]);have hv:rv=_:=Hu.out.trans (SQ hn);subst hv;have z0:=Ab (o:=0) st.Z rfl;have z1:=Ab (o:=1) st.Z rfl;have z2:=Ab (o:=2) st.Z rfl;have z3:=Ab (o:=3) st.Z rfl;have y0:=An (o:=0) st.Z;have y1:=An (o:=1) st.Z;have y2:=An (o:=2) st.Z;have y3:=An (o:=3) st.Z;obtain⟨X,hX,x0,x1,x2,x3⟩:=RS (S []) (S []) (S []) (S []) z0 z1 z2 z3;clear hn;go_wp2;rw [show (⟨#[]⟩:ByteArray)=⟨([]:Bs).toArray⟩from rfl,←hX];refine bodyPost_ret (v:=.tuple #[.agg #[S [],S [],S [],S []],.bool false]) (by simp [results,Tryz.results130,go_sem,x0,x1,x2,x3]) rfl ⟨rfl,?_⟩;rw [hX];exact(((st.ext.setCell (by show w.heap.size<=w.heap.size+1+1;omega) _).setCell (by show w.heap.size<=w.heap.size+1+1;omega) _).setCell (by show w.heap.size<=w.heap.size+1+1;omega) _).setCell (by show w.heap.size<=w.heap.size+1+1;omega) _
 have bX:Hid (AZ _ _ _=some (l2,h2)):=Asb KZ;replace st:=st.below Bw hbds hzl hzh;clear KZ Bw hbds hsm hzl hzh;obtain⟨c1,c2,c3,c4,c5,c6⟩:=st.C;obtain⟨k1,k2,k3,k4⟩:=st.S;(go_wp2_with fail);(with_reducible refine(t3 _ (hw.ext st.ext)).mono ?_);rintro e wa3 ⟨rfl,hx⟩;replace st:=st.trans hx;clear hx c1 c2 c3 c4 c5 c6 k1 k2 k3 k4 t3;have JS:=b3 _ _ st.l st.h _ (hw.ext st.ext) st.B;(go_wp2_with fail);(with_reducible refine JS.mono ?_);rintro e wb3 ⟨bb3,l3,h3,rfl,Bw,hbds,hst3,hsm,hzl,hzh⟩;clear b3 JS
 cases bb3
 ·have Adg:=Asb hst3;obtain⟨rfl,rfl⟩:=hsm rfl;replace st:=st.below Bw hbds st.l st.h;clear hst3 Bw hbds hsm hzl hzh;have hn:Eg c s=none:=(by unfold Eg;rw [Ss.out,Wg.out,bX.out,show AZ _ _ _=none from Adg.out,Qo]);have hv:rv=_:=Hu.out.trans (SQ hn);subst hv;have z0:=Ab (o:=0) st.Z rfl;have z1:=Ab (o:=1) st.Z rfl;have z2:=Ab (o:=2) st.Z rfl;have z3:=Ab (o:=3) st.Z rfl;have y0:=An (o:=0) st.Z;have y1:=An (o:=1) st.Z;have y2:=An (o:=2) st.Z;have y3:=An (o:=3) st.Z;obtain⟨X,hX,x0,x1,x2,x3⟩:=RS (S []) (S []) (S []) (S []) z0 z1 z2 z3;clear hn;go_wp2;rw [show (⟨#[]⟩:ByteArray)=⟨([]:Bs).toArray⟩from rfl,←hX];refine bodyPost_ret (v:=.tuple #[.agg #[S [],S [],S [],S []],.bool false]) (by simp [results,Tryz.results130,go_sem,x0,x1,x2,x3]) rfl ⟨rfl,?_⟩;rw [hX];exact(((st.ext.setCell (by show w.heap.size<=w.heap.size+1+1;omega) _).setCell (by show w.heap.size<=w.heap.size+1+1;omega) _).setCell (by show w.heap.size<=w.heap.size+1+1;omega) _).setCell (by show w.heap.size<=w.heap.size+1+1;omega) _
 have rD:Hid (AZ _ _ _=some (l3,h3)):=Asb hst3;replace st:=st.below Bw hbds hzl hzh;clear hst3 Bw hbds hsm hzl hzh;obtain⟨c1,c2,c3,c4,c5,c6⟩:=st.C;obtain⟨k1,k2,k3,k4⟩:=st.S;(go_wp2_with fail);(with_reducible refine(t4 _ (hw.ext st.ext)).mono ?_);rintro e wa4 ⟨rfl,hx⟩;replace st:=st.trans hx;clear hx c1 c2 c3 c4 c5 c6 k1 k2 k3 k4 t4;(go_wp2_with fail);(with_reducible refine(ny _).mono ?_);rintro e wc4 ⟨rfl,hx⟩;replace st:=st.trans hx;clear hx ny;have JS:=b4 _ _ st.l st.h _ (hw.ext st.ext) st.B;(go_wp2_with fail);(with_reducible refine JS.mono ?_);rintro e wb4 ⟨bb4,l4,h4,rfl,Bw,hbds,hst4,hsm,hzl,hzh⟩;clear b4 JS
 cases bb4
 ·have Adh:=Asb hst4;obtain⟨rfl,rfl⟩:=hsm rfl;replace st:=st.below Bw hbds st.l st.h;clear hst4 Bw hbds hsm hzl hzh;have hn:Eg c s=none:=(by unfold Eg;rw [Ss.out,Wg.out,bX.out,rD.out,show AZ _ _ _=none from Adh.out]);have hv:rv=_:=Hu.out.trans (SQ hn);subst hv;have z0:=Ab (o:=0) st.Z rfl;have z1:=Ab (o:=1) st.Z rfl;have z2:=Ab (o:=2) st.Z rfl;have z3:=Ab (o:=3) st.Z rfl;have y0:=An (o:=0) st.Z;have y1:=An (o:=1) st.Z;have y2:=An (o:=2) st.Z;have y3:=An (o:=3) st.Z;obtain⟨X,hX,x0,x1,x2,x3⟩:=RS (S []) (S []) (S []) (S []) z0 z1 z2 z3;clear hn;go_wp2;rw [show (⟨#[]⟩:ByteArray)=⟨([]:Bs).toArray⟩from rfl,←hX];refine bodyPost_ret (v:=.tuple #[.agg #[S [],S [],S [],S []],.bool false]) (by simp [results,Tryz.results130,go_sem,x0,x1,x2,x3]) rfl ⟨rfl,?_⟩;rw [hX];exact(((st.ext.setCell (by show w.heap.size<=w.heap.size+1+1;omega) _).setCell (by show w.heap.size<=w.heap.size+1+1;omega) _).setCell (by show w.heap.size<=w.heap.size+1+1;omega) _).setCell (by show w.heap.size<=w.heap.size+1+1;omega) _
 have Adc:Hid (AZ _ _ _=some (l4,h4)):=Asb hst4;replace st:=st.below Bw hbds hzl hzh;clear hst4 Bw hbds hsm hzl hzh;have xW:MX c s=some (l4,h4):=(by rw [Ss.out,Wg.out,bX.out,rD.out,Adc.out]);have cm:=CJ l4 h4 (a:=m) (b:=m) ⟨st.l,st.h,by have:=MM.out;omega,by have:=MM.out;omega,by have:=MM.out;omega⟩;have HL:=Asb xW;clear xW;obtain⟨LI,bd2⟩:=st.B;have j1:=Ab (o:=0) LI rfl;have j2:=Ab (o:=0) bd2 rfl;by_cases hlt:h4<l4
 ·have hn:Eg c s=none:=(by unfold Eg;rw [HL.out];exact if_pos hlt);have hv:rv=_:=Hu.out.trans (SQ hn);subst hv;rw [SR hlt]at cm;clear hn LI bd2 hlt;(go_wp2_with fail);(with_reducible refine(cm _ (hw.ext st.ext)).mono ?_);rintro e wd ⟨rfl,hx⟩;replace st:=st.trans hx;have z0:=Ab (o:=0) st.Z rfl;have z1:=Ab (o:=1) st.Z rfl;have z2:=Ab (o:=2) st.Z rfl;have z3:=Ab (o:=3) st.Z rfl;have y0:=An (o:=0) st.Z;have y1:=An (o:=1) st.Z;have y2:=An (o:=2) st.Z;have y3:=An (o:=3) st.Z;obtain⟨X,hX,x0,x1,x2,x3⟩:=RS (S []) (S []) (S []) (S []) z0 z1 z2 z3;go_wp2;rw [show (⟨#[]⟩:ByteArray)=⟨([]:Bs).toArray⟩from rfl,←hX];refine bodyPost_ret (v:=.tuple #[.agg #[S [],S [],S [],S []],.bool false]) (by simp [results,Tryz.results130,go_sem,x0,x1,x2,x3]) rfl ⟨rfl,?_⟩;rw [hX];exact(((st.ext.setCell (by show w.heap.size<=w.heap.size+1+1;omega) _).setCell (by show w.heap.size<=w.heap.size+1+1;omega) _).setCell (by show w.heap.size<=w.heap.size+1+1;omega) _).setCell (by show w.heap.size<=w.heap.size+1+1;omega) _
 ·have hn:Eg c s=some ⟨atR s l4,atR s h4⟩:=(by unfold Eg;rw [HL.out];exact if_neg hlt);have hv:rv=_:=Hu.out.trans (uM hn);subst hv
  obtain⟨sg,EH,qc⟩:∃z:Int,z=AD l4 h4/\¬0<z:=by
   by_cases e:l4=h4
   ·exact⟨_,rfl,by rw [Qu e];omega⟩
   ·exact⟨_,rfl,by rw [OB (by grind)];omega⟩
  rw [←EH]at cm;have DL:=Qm s l4 (i:=a) (m:=m) HS.out st.l ha (by have:=MM.out;omega) (by have:=MM.out;omega);have at2:=Qm s h4 (i:=a) (m:=m) HS.out st.h ha (by have:=MM.out;omega) (by have:=MM.out;omega);unfold Ax Ak at DL at2;unfold Ax;clear hn LI bd2 hlt EH;(go_wp2_with fail);(with_reducible refine(cm _ (hw.ext st.ext)).mono ?_);rintro e V ⟨rfl,hx⟩;replace st:=st.trans hx;clear hx cm j1 j2;obtain⟨LI,bd2⟩:=st.B;have j1:=Ab (o:=0) LI rfl;have j2:=Ab (o:=0) bd2 rfl;obtain⟨k1,k2,k3,k4⟩:=st.S;have Bd:=(Aa.refl V).drew;have Cm:=st.ext.drew;clear LI bd2;(go_wp2_with fail)
  go_region_held3 (fun w'=>w'.cell? ⟨w.heap.size+1,0,none⟩=some (S (R s.a.x))/\w'.cell? ⟨w.heap.size+1,1,none⟩=some (S (R s.a.y))/\w'.cell? ⟨w.heap.size+1,2,none⟩=some (S (R s.b.x))/\w'.cell? ⟨w.heap.size+1,3,none⟩=some (S (R s.b.y))/\w'.cell? ⟨w.heap.size+1+1+1,0,none⟩=some (S (R l4))/\w'.cell? ⟨w.heap.size+1+1+1+1,0,none⟩=some (S (R h4)))
   (first|go_keep|(refine⟨?_,?_,?_,?_,?_,?_⟩<;>(rw [World.cell?_setCell_far _ _ _ _ (by simp only [];omega),World.cell?_setCell_far _ _ _ _ (by simp only [];omega),World.cell?_setCell_far _ _ _ _ (by simp only [];omega),World.cell?_setCell_far _ _ _ _ (by simp only [];omega)];assumption)))
   (first|((with_reducible refine(DL _ (hw.ext Cm)).mono ?_);rintro e w1 ⟨rfl,hx1⟩;obtain⟨q1,q2,q3,q4⟩:=st.S.ext (Bd.trans hx1);have q5:=(Bd.trans hx1).cellS j1;have q6:=(Bd.trans hx1).cellS j2)|((with_reducible refine(at2 _ (hw.ext (Cm.trans hx1))).mono ?_);rintro e w2 ⟨rfl,hx2⟩;have st2:=st.trans (Bd.trans (hx1.trans hx2));obtain⟨s1,s2,s3,s4⟩:=st2.S;have s5:=(Bd.trans (hx1.trans hx2)).cellS j1;have s6:=(Bd.trans (hx1.trans hx2)).cellS j2;have z0:=Ab (o:=0) st2.Z rfl;have z1:=Ab (o:=1) st2.Z rfl;have z2:=Ab (o:=2) st2.Z rfl;have z3:=Ab (o:=3) st2.Z rfl;have y0:=An (o:=0) st2.Z;have y1:=An (o:=1) st2.Z;have y2:=An (o:=2) st2.Z;have y3:=An (o:=3) st2.Z))
  obtain⟨X,hX,x0,x1,x2,x3⟩:=RS (S (R (atR s l4).x)) (S (R (atR s l4).y)) (S (R (atR s h4).x)) (S (R (atR s h4).y)) z0 z1 z2 z3;go_wp2;rw [←hX];refine bodyPost_ret (v:=.tuple #[.agg #[S (R (atR s l4).x),S (R (atR s l4).y),S (R (atR s h4).x),S (R (atR s h4).y)],.bool true]) (by simp [results,Tryz.results130,go_sem,x0,x1,x2,x3]) rfl ⟨rfl,?_⟩;rw [hX];exact(((st2.ext.setCell (by show w.heap.size<=w.heap.size+1+1;omega) _).setCell (by show w.heap.size<=w.heap.size+1+1;omega) _).setCell (by show w.heap.size<=w.heap.size+1+1;omega) _).setCell (by show w.heap.size<=w.heap.size+1+1;omega) _
theorem Li{q:Rat}{k:Nat}(h:Sz k q)(hk:0<k)(hk2:k<=200):EK (R q):=
 ⟨q,rfl,Asq (Ck hk h.num) hk2,Asq (Ck hk h.den) hk2⟩
theorem PP{q:Rat}{k:Nat}(h:Sz k q)(hk:0<k)(hk2:k<=40000):(R q).length<100000:=by have:=Hv hk h;omega
def FW(p:Pt):Bs×Bs:=(R p.x,R p.y)
theorem Vl{l:List Pt}{k:Nat}(h:∀p∈l,Aq k p)(hk:0<k)(hk2:k<=200):NZ (l.map FW):=by
 intro q hq;obtain⟨p,hp,rfl⟩:=List.mem_map.1 hq;exact⟨Li (h p hp).x hk hk2,Li (h p hp).y hk hk2⟩
theorem V9{l:List Pt}{k:Nat}(h:∀p∈l,Aq k p)(hk:0<k)(hk2:k<=200):RV (l.map FW):=by
 intro q hq;obtain⟨p,hp,rfl⟩:=List.mem_map.1 hq;exact⟨PP (h p hp).x hk (by omega),PP (h p hp).y hk (by omega)⟩
theorem Aak(p q:Bs×Bs)(ok:Bool)(Au:ok=true↔NZ [p,q])(Bf:RV [p,q])(w:World)(hw:Ai w) :
  Calls Tryz.prog 59 #[.slice (some ⟨w.heap.size,0,none⟩) 2 2] (w.alloc (.cells #[S p.1,S p.2,S q.1,S q.2] 35)) (AQ (E8 ok) (w.alloc (.cells #[S p.1,S p.2,S q.1,S q.2] 35))):=
 nP [p,q] ok Au _ 2 _ (hw.ext ((Aa.refl w).alloc _)) (Am.lit w #[S p.1,S p.2,S q.1,S q.2] 35) (by simp) (by omega) Bf
theorem Aaj(p:Bs×Bs)(ok:Bool)(Au:ok=true↔NZ [p])(Bf:RV [p])(w:World)(hw:Ai w) :
  Calls Tryz.prog 59 #[.slice (some ⟨w.heap.size,0,none⟩) 1 1] (w.alloc (.cells #[S p.1,S p.2] 35)) (AQ (E8 ok) (w.alloc (.cells #[S p.1,S p.2] 35))):=
 nP [p] ok Au _ 1 _ (hw.ext ((Aa.refl w).alloc _)) (Am.lit w #[S p.1,S p.2] 35) (by simp) (by omega) Bf
theorem WZ(c:Cv)(hc:It c)(w:World)(hw:Ai w):Calls Tryz.prog 27 #[BQ c] w (AQ 0 w):=by
 have hz:∀p∈[c.low,c.high],Aq 3 p:=by
  intro p hp;simp only [List.mem_cons,Asr,or_false]at hp
  rcases hp with rfl|rfl
  ·exact hc.low
  ·exact hc.high
 have e1:=(Aa.refl w).alloc (.cells #[S (R c.low.x),S (R c.low.y),S (R c.high.x),S (R c.high.y),.int .i64 (c.W:Nat),.int .i64 (c.H:Nat)] 37);have pc:=Aak (FW c.low) (FW c.high) true (by simp only [true_iff];exact Vl hz (by omega) (by omega)) (V9 hz (by omega) (by omega)) _ (hw.ext e1);unfold FW at pc;simp only [Asn]at pc;rw [GA]at pc;have c1:=CJ c.low.x c.high.x (a:=3) (b:=3) ⟨hc.low.x,hc.high.x,by omega,by omega,by omega⟩;have c2:=CJ c.low.y c.high.y (a:=3) (b:=3) ⟨hc.low.y,hc.high.y,by omega,by omega,by omega⟩;rw [OB hc.ok.x]at c1;rw [OB hc.ok.y]at c2;have hb0:=Ase w (.cells #[S (R c.low.x),S (R c.low.y),S (R c.high.x),S (R c.high.y),.int .i64 (c.W:Nat),.int .i64 (c.H:Nat)] 37);have e2:=e1.alloc (.cells #[S (R c.low.x),S (R c.low.y),S (R c.high.x),S (R c.high.y)] 35);have d1:decide ((c.W:Int)<1)=false:=(by rw [decide_eq_false_iff_not];have:=hc.ok.w1;omega);have d2:decide ((2000:Int)<(c.W:Int))=false:=(by rw [decide_eq_false_iff_not];have:=hc.ok.w2;omega);have d3:decide ((c.H:Int)<1)=false:=(by rw [decide_eq_false_iff_not];have:=hc.ok.h1;omega);have d4:decide ((2000:Int)<(c.H:Int))=false:=(by rw [decide_eq_false_iff_not];have:=hc.ok.h2;omega);have C0:=(D3.of hb0).ext ((Aa.refl _).alloc (.cells #[S (R c.low.x),S (R c.low.y),S (R c.high.x),S (R c.high.y)] 35));unfold BQ;clear hz hb0 hc;go_enter Tryz.func27,Tryz.ntmps27;(go_wp2_with fail);(with_reducible refine pc.mono ?_);rintro e w1 ⟨rfl,hx⟩;have hE:=e2.trans hx;have C1:=C0.ext hx;clear C0 hx e1 e2;obtain⟨k1,k2,k3,k4,k5,k6⟩:=C1;(go_wp2_with fail);(with_reducible refine(c1 _ (hw.ext hE)).mono ?_);rintro e w2 ⟨rfl,hx⟩;obtain⟨q1,q2,q3,q4,q5,q6⟩:=(D3.mk k1 k2 k3 k4 k5 k6).ext hx;replace hE:=hE.trans hx;(go_wp2_with fail);(with_reducible refine(c2 _ (hw.ext hE)).mono ?_);rintro e w3 ⟨rfl,hx2⟩;obtain⟨s1,s2,s3,s4,s5,s6⟩:=(D3.mk q1 q2 q3 q4 q5 q6).ext hx2;replace hE:=hE.trans hx2;go_wp2;go_ret;exact⟨rfl,hE⟩
theorem AlE(c:Cv)(hc:It c)(l:List (Bs×Bs))(ok:Bool)(Au:ok=true↔NZ l)(A:Option Addr)(cap:Nat)(w:World)(hw:Ai w)(hr:Am w A (flat l))(BF:l.length<=cap)(hcm:cap<=9223372036854775807)(hlen:RV l) :
  Calls Tryz.prog 60 #[BQ c,.slice A l.length cap] w (AQ (E8 ok) w):=by
 have e1:=(Aa.refl w).alloc (.cells #[S (R c.low.x),S (R c.low.y),S (R c.high.x),S (R c.high.y),.int .i64 (c.W:Nat),.int .i64 (c.H:Nat)] 37);have dc:=WZ c hc _ (hw.ext e1);have pc:=fun W (h:Aa w W)=>nP l ok Au A cap W (hw.ext h) (hr.ext h) BF hcm hlen;unfold BQ at dc ⊢;clear Au hlen;go_enter Tryz.func60,Tryz.ntmps60;(go_wp2_with fail);(with_reducible refine dc.mono ?_);rintro e w1 ⟨rfl,hx⟩;have hE:=e1.trans hx;(go_wp2_with fail);(with_reducible refine(pc _ hE).mono ?_);rintro e w2 ⟨rfl,hx2⟩;go_wp2;go_ret;exact⟨rfl,hE.trans hx2⟩
theorem AdI(c:Cv)(p:Pt)(hc:It c){a:Nat}(hp:Aq a p)(ha:0<a)(ha2:a<=200)(c1:-1000000<=Br c p)(c2:Br c p<=1000000)(r1:-1000000<=Bt c p)(r2:Bt c p<=1000000)(w:World)(hw:Ai w) :
  Calls Tryz.prog 22 #[BQ c,Ak p] w (Bg (.tuple #[I2 (Br c p) (Bt c p),.int .i64 0]) w):=by
 have hz:∀q∈[p],Aq a q:=(by intro q hq;simp only [Ass]at hq;rw [hq];exact hp);obtain⟨W,hW,hE,hb1,hb2,hb3⟩:=G9 w (.cells #[S (R c.low.x),S (R c.low.y),S (R c.high.x),S (R c.high.y),.int .i64 (c.W:Nat),.int .i64 (c.H:Nat)] 37) (.cells #[S (R p.x),S (R p.y)] 35) (.cells #[.int .i64 0,.int .i64 0] 61);have dc:=WZ c hc;have pc:=Aaj (FW p) true (by simp only [true_iff];exact Vl hz ha ha2) (V9 hz ha ha2);have px:=R7 c p hc hp ha (by omega) c1 c2 r1 r2;obtain⟨col,N4⟩:=AcG (Br c p);obtain⟨row,hrow⟩:=AcG (Bt c p);rw [←N4,←hrow]at px ⊢;rw [GA]at pc;unfold FW at pc;unfold BQ Ak I2 at px;unfold BQ at dc;unfold BQ Ak I2;have hC:=D3.of hb1;have hP:Ga W (w.heap.size+1) p:=⟨Ab hb2 rfl,Ab hb2 rfl⟩;have hZ:=hb3;clear hz hc hp c1 c2 r1 r2 N4 hrow hb1 hb2 hb3;go_enter Tryz.func22,Tryz.ntmps22;(go_wp2_with fail);rw [←hW];clear hW;(with_reducible refine(dc _ (hw.ext hE)).mono ?_);rintro e w1 ⟨rfl,hx⟩;replace hE:=hE.trans hx;replace hC:=hC.ext hx;replace hP:=hP.ext hx;replace hZ:=(hx.block _ (Asd hZ)).trans hZ;clear hx;obtain⟨k1,k2⟩:=hP;(go_wp2_with fail);(with_reducible refine(pc _ (hw.ext hE)).mono ?_);rintro e w2 ⟨rfl,hx⟩;have hx:=((Aa.refl w1).alloc (.cells #[S (R p.x),S (R p.y)] 35)).trans hx;have hP:=(Ga.mk k1 k2).ext hx;replace hE:=hE.trans hx;replace hC:=hC.ext hx;replace hZ:=(hx.block _ (Asd hZ)).trans hZ;clear hx k1 k2;obtain⟨k1,k2⟩:=hP;obtain⟨q1,q2,q3,q4,q5,q6⟩:=hC;(go_wp2_with fail);(with_reducible refine(px _ (hw.ext hE)).mono ?_);rintro e w3 ⟨rfl,hx⟩;replace hE:=hE.trans hx;replace hZ:=(hx.block _ (Asd hZ)).trans hZ;have g1:=Ab (o:=0) hZ rfl;have g2:=Ab (o:=1) hZ rfl;have g3:=An (o:=0) hZ;have g4:=An (o:=1) hZ;obtain⟨e1,e2⟩:=set2 (.int .i64 col) (.int .i64 row) g1 g2;go_wp2;refine bodyPost_ret (v:=.tuple #[.agg #[.int .i64 col,.int .i64 row],.int .i64 0]) (by simp [results,Tryz.results22,go_sem,e1,e2]) rfl ?_;exact⟨rfl,(hE.setCell (by show w.heap.size<=w.heap.size+1+1;omega) _).setCell (by show w.heap.size<=w.heap.size+1+1;omega) _⟩
structure rY where
 fx:Bs
 fy:Bs
 tx:Bs
 ty:Bs
def rY.pts(t:rY):List (Bs×Bs):=[(t.fx,t.fy),(t.tx,t.ty)]
theorem AlD(c:Cv)(hc:It c)(p q:Bs×Bs)(ok:Bool)(Au:ok=true↔NZ [p,q])(Bf:RV [p,q])(w:World)(hw:Ai w) :
  Calls Tryz.prog 60 #[BQ c,.slice (some ⟨w.heap.size,0,none⟩) 2 2] (w.alloc (.cells #[S p.1,S p.2,S q.1,S q.2] 35)) (AQ (E8 ok) (w.alloc (.cells #[S p.1,S p.2,S q.1,S q.2] 35))):=
 AlE c hc [p,q] ok Au _ 2 _ (hw.ext ((Aa.refl w).alloc _)) (Am.lit w #[S p.1,S p.2,S q.1,S q.2] 35) (by simp) (by omega) Bf
theorem Qn{w:World}{b:Nat}{a0 a1 a2 a3:Value}{t:TypeId}(v0 v1 v2 v3:Value)(h:w.heap[b]?=some (.cells #[a0,a1,a2,a3] t)) :
  ((((w.setCell ⟨b,0,none⟩ v0).setCell ⟨b,1,none⟩ v1).setCell ⟨b,2,none⟩ v2).setCell ⟨b,3,none⟩ v3).heap[b]?=some (.cells #[v0,v1,v2,v3] t):=by
 simp only [World.setCell,Array.getElem?_modify,h];simp
theorem Tryz.infoDot:(Tryz.prog.info? 61).map (fun i=>(i.zero,i.size,i.bytes))=some (some (.agg #[.int .i64 0,.int .i64 0]),2,16):=by kernel_rfl
def Jf(l:List (Int×Int)):List Value:=l.flatMap fun d=>[.int .i64 d.1,.int .i64 d.2]
theorem uZ(l:List (Int×Int)):(Jf l).length=l.length*2:=by
 induction l with
 | nil=>rfl
 | cons p l ih=>unfold Jf at *;simp only [List.flatMap_cons,List.length_append,List.length_cons,List.length_nil];omega
theorem AfC(l:List (Int×Int))(d:Int×Int):Jf (l ++ [d])=Jf l ++ [.int .i64 d.1,.int .i64 d.2]:=by unfold Jf;simp
theorem Am.of_own{w:World}{base:Nat}{e:TypeId}{v:Value}{n:Nat}{l:List (Int×Int)}(h:w.ownsRow base e 2 v n (Jf l))(hn:n=l.length):∃A c,v=.slice A n c/\Am w A (Jf l)/\n<=c/\c<=9223372036854775807:=by
 subst hn
 rcases h.2 with⟨rfl,h0⟩|⟨g,cap,cur,rfl,_,hg,hn,hm,_,_⟩
 ·exact⟨none,0,by rw [h0],⟨fun h1=>by rw [uZ]at h1;omega⟩,by omega,by omega⟩
 ·refine⟨some ⟨g,0,none⟩,cap,rfl,⟨fun _=>⟨g,0,rfl,fun j hj=>?_⟩⟩,hn,by unfold maxLen at hm;omega⟩;rw [Nat.zero_add,h.cellAt j (by rw [uZ]at hj;exact hj),Asl hj]
section
variable {ops : Array Oper} {rest : List Oper} {o : Oper} {a : Act} {Q : Exit → Act → World → Prop}
theorem Aen(hgd:o.guard=none)(s x:Operand)(ho:o.op=.call {callee:=.builtin .append,args:=#[s,x],argTypes:=#[70,70]})
  (wr:World) (base:Nat) (v:Value) (n:Nat) (l:List (Int×Int)) (hs:a.eval s=v) (hown:wr.ownsRow base 61 2 v n (Jf l)) (hn:n<200000) (d:Int×Int)
  (hx:a.eval x=.slice (some ⟨wr.heap.size,0,none⟩) 1 1) (hbase:base<=wr.heap.size)
  (h:∀v' w',w'.ownsRow base 61 2 v' (n+1) (Jf (l ++ [d]))→(∀w0,Aa w0 wr→w0.heap.size<=base→Aa w0 w')→wpList Tryz.prog ops Q rest (a.put o.dst v') w') :
  wpList Tryz.prog ops Q (o::rest) a (wr.alloc (.cells #[.int .i64 d.1,.int .i64 d.2] 61)):=by
 obtain⟨i0,hi,hz0,hz1,hz2⟩:=info_parts Tryz.infoDot;refine wpList_plain hgd fun K hK=>?_;refine wp_append_own _ s x 70 ho base 61 i0 (.agg #[.int .i64 0,.int .i64 0]) 2 16 Tryz.underlying70 hi hz0 hz1 hz2 rfl (by omega) v n (Jf l) hs (hown.alloc _) ⟨wr.heap.size,0,none⟩ 1 1 [.int .i64 d.1,.int .i64 d.2] hx rfl ?_ ?_ ?_ ?_ ?_ ?_
 ·intro j u hu;have hj:j<2:=(by have:=(List.getElem?_eq_some_iff.1 hu).1;simpa using this);rw [Addr.add_lit];refine Ab (Ase wr _) ?_;rw [Nat.zero_add,←Array.getElem?_toList];exact hu
 ·intro u hu;simp only [List.mem_cons,Asr,or_false]at hu
  rcases hu with rfl|rfl<;>rfl
 ·unfold maxLen;omega
 ·omega
 ·simp;omega
 ·intro v' w' h2 h3 _;refine hK _ _ (h v' w' (by rw [AfC];exact h2) fun w0 he hb=>?_);have hg:=hown.alloc (.cells #[.int .i64 d.1,.int .i64 d.2] 61)
  exact(he.alloc _).grown h3 fun k hk=>by
   rcases hg.2 with⟨rfl,_⟩|⟨g,cap,cur,rfl,hb',_⟩
   ·cases hk
   ·simp only [Value.ownBlock,Asj]at hk;omega
end
end Go.Proofs.YtdaefncphfeaeaaGreatDoor
