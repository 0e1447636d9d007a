/- K36: ShKA3 ShKB ShKC. -/
import Derived.Test.YtgnejnampofhoaaGreatDoorK35
set_option maxRecDepth 100000
set_option maxHeartbeats 16000000
namespace Go.Proofs.YtgnejnampofhoaaGreatDoor
open Go.RowKit Kl
def Ja(m:MapZ):List Pt:=Ev RP ((BD m.pts m.eds).map (·.1)).length ((BD m.pts m.eds).map (·.1))
def jL(m:MapZ):List Sg:=Ev OZ ((AG m.pts m.eds).map (·.1)).length ((AG m.pts m.eds).map (·.1))
def Cv(m:MapZ)(fa:List Bs):Fy:=GH fa (BR (Ja m)) (AG m.pts m.eds) (jL m)
def Iu(m:MapZ)(fa:List Bs):MapZ:=⟨Ja m,(Cv m fa).ed,(Cv m fa).fa.length⟩
def EZ(m:MapZ):Bool:=
 Oh m&&(m.pts.all Qy&&(decide (m.eds.length<=1000)&&((BD m.pts m.eds).all (fun e=>szB e.1&&(e.2.all szB&&(decide (e.2.length<100000)&&UZ e)))&&(decide ((BD m.pts m.eds).length<=400)&&(decide ((BD m.pts m.eds).map (·.1)).Nodup &&
 ((AG m.pts m.eds).all (fun e=>szB e.1.a&&(szB e.1.b&&decide (-1<=e.2/\e.2<(m.nf:Int))))&&(AG m.pts m.eds).all (fun e=>(AG m.pts m.eds).any (fun e'=>AN e'.1 (AV e.1)))))))))
theorem FD{w:World}{b bm:Nat}(hne:bm≠b)(x y z:Value)(o:Nat):(((w.setCell ⟨b,0,none⟩ x).setCell ⟨b,1,none⟩ y).setCell ⟨b,2,none⟩ z).cell? ⟨bm,o,none⟩=w.cell? ⟨bm,o,none⟩:=by
 refine World.cell?_of_block ?_;show (((w.setCell ⟨b,0,none⟩ x).setCell ⟨b,1,none⟩ y).setCell ⟨b,2,none⟩ z).heap[bm]?=w.heap[bm]?;rw [B7 (by exact hne),B7 (by exact hne),B7 (by exact hne)]
theorem JP{m:MapZ}(h:EZ m=true):El m=0/\∀p∈m.pts,Cz p:=by
 unfold EZ at h;simp only [Bool.and_eq_true,List.all_eq_true]at h;exact⟨uk h.1,fun p hp=>Qz (h.2.1 p hp)⟩
theorem BP.but{w w':World}{A:Option Addr}{t t':TypeId}{b:Nat}{cs:Array Value}{r:Nat×Nat}(h:BP w A t)(hb:Ax (fun q=>q=b) w w')(hm:w.heap[b]?=some (.cells cs t' r))(hne:t≠t'):BP w' A t:=fun x e=>by
 obtain⟨c,q,hx⟩:=h x e;exact⟨c,q,(hb.block _ (Ajx hx) (Ct hx hm hne)).trans hx⟩
def ek(w:World)(m:MapZ)(A8:List Bs)(e:Ending)(w':World):Prop:=
 ∃A B F c d g,e=.returned (.tuple #[As A B F m c d g,.int .i64 0])/\JF w m A8 e w'/\Bj m c d g/\Ae w' A (flat (Ai m.pts))/\Ae w' B (Au m.eds)/\Ae w' F (A8.map S)/\m.nf=A8.length/\Ac w w'/\BP w' A 27/\BP w' B 118/\BP w' F 9
def FZ(w:World)(A B F:Option Addr):Prop:=BP w A 27/\BP w B 118/\BP w F 9
theorem FZ.ext{w w':World}{A B F:Option Addr}(h:FZ w A B F)(hx:Ac w w'):FZ w' A B F:=⟨h.1.ext hx,h.2.1.ext hx,h.2.2.ext hx⟩
theorem FZ.but{w w':World}{A B F:Option Addr}{b:Nat}{cs:Array Value}{r:Nat×Nat}(h:FZ w A B F)(hb:Ax (fun q=>q=b) w w')(hm:w.heap[b]?=some (.cells cs 35 r)):FZ w' A B F:=
 ⟨h.1.but hb hm (by decide),h.2.1.but hb hm (by decide),h.2.2.but hb hm (by decide)⟩
def MA(w:World)(m:MapZ)(A8:List Bs)(e:Ending)(w':World):Prop:=
 ∃A B F c d g,e=.returned (.tuple #[As A B F m c d g,.int .i64 0])/\Bj m c d g/\Ae w' A (flat (Ai m.pts))/\Ae w' B (Au m.eds)/\Ae w' F (A8.map S)/\m.nf=A8.length/\Ac w w'/\FZ w' A B F
theorem xI(m:MapZ)(fa:List Bs)(Bn:m.nf=fa.length)(hb:EZ m=true)(A B F:Option Addr)(c d g:Nat)(An:Bj m c d g)(w:World)(hw:Ao w)(hA:Ae w A (flat (Ai m.pts)))(hB:Ae w B (Au m.eds))(hF:Ae w F (fa.map S))(FT:∀x,F=some x→x.block<w.heap.size)(h8:m.nf<=100000) :
  Calls Tryz.prog 49 #[As A B F m c d g] w (ek w (Iu m fa) (Cv m fa).fa):=by
 obtain⟨hck,hgr⟩:=JP hb;unfold EZ at hb;simp only [Bool.and_eq_true,List.all_eq_true,decide_eq_true_eq]at hb;obtain⟨h0,-,h2,h3,h4,h5,h6,h7⟩:=hb;unfold Oh at h0;simp only [Bool.and_eq_true,decide_eq_true_eq]at h0;have Es:=Qs h0.2.1 h0.2.2.1;have pc:=fun W (hx:Ac w W)=>M4 m hgr A B F c d g An W (hw.ext hx) (hA.ext hx) (hB.ext hx);rw [hck]at pc;have oc:=fun W (hx:Ac w W)=>Vb m A B F c d g An Es (by omega) W (hA.ext hx) (hB.ext hx)
 have cn:=fun (W W':World) (h1:Ac w W) (hx:Ac W W') (r b1 b2:Nat) (E:List (Pt×Value×Nat)) (hn:Br W.heap.size W' r b1 b2 (AG m.pts m.eds) E (BD m.pts m.eds))=>jO (hw.ext h1) hx hn
  (fun e k=>⟨IO (h3 e k).1,fun p hp=>IO ((h3 e k).2.1 p hp)⟩) (by omega) (fun e k=>(h3 e k).2.2.1) h5 (fun e k p q OM=>by
   have:=(h3 e k).2.2.2;unfold UZ at this;rw [OM]at this
   exact of_decide_eq_true this)
  (fun e k=>⟨IO (h6 e k).1,IO (h6 e k).2.1⟩) (by rw [Pf];omega) (fun e k=>by
   have:=h7 e k;rw [List.any_eq_true]at this;obtain⟨x,hx,hs⟩:=this
   exact⟨x,hx,Hd.1 hs⟩) F g fa ((hF.ext h1).ext hx) (fun x e=>Aj8 (FT x e) (h1.trans hx).size) (by rw [←Bn];exact h8) (fun x k=>by have:=(h6 x k).2.2;omega) (pts:=Ja m) (by rw [dG];rfl) (ws:=jL m) (by rw [Vy];rfl) (st:=Cv m fa) rfl
 rw [←Bn]at cn;have h1:=Ajy w (.cells #[.slice A m.pts.length c,.slice B m.eds.length d,.slice F m.nf g] 35);have h2':=Ajy (w.alloc (.cells #[.slice A m.pts.length c,.slice B m.eds.length d,.slice F m.nf g] 35)) (.cells #[.slice none 0 0,.slice none 0 0,.slice none 0 0] 35);rw [Aj6]at h2';have e2:=(Ac.refl (w.alloc (.cells #[.slice A m.pts.length c,.slice B m.eds.length d,.slice F m.nf g] 35))).alloc (.cells #[.slice none 0 0,.slice none 0 0,.slice none 0 0] 35);have hM:=(e2.block _ (Ajx h1)).trans h1;have hE:=((Ac.refl w).alloc (.cells #[.slice A m.pts.length c,.slice B m.eds.length d,.slice F m.nf g] 35)).trans e2;unfold As at pc oc ⊢;have HN:=Ajw Bn;clear h0 h2 h3 h4 h5 h6 h7 Es hck hgr FT hF hA hB An Bn h1 e2;go_enter Tryz.func49,Tryz.ntmps49
 go_upto_region 1 with fail
 generalize (w.alloc (.cells #[.slice A m.pts.length c,.slice B m.eds.length d,.slice F m.nf g] 35)).alloc (.cells #[.slice none 0 0,.slice none 0 0,.slice none 0 0] 35)=V at *;obtain⟨bm,AD⟩:=Ajv w.heap.size;have CM:w.heap.size<=bm+1:=(by omega);rw [←AD]at hM h2' ⊢;clear AD;have k1:=Aa (o:=0) hM rfl;have k2:=Aa (o:=1) hM rfl;have k3:=Aa (o:=2) hM rfl;(go_wp2_with fail);(with_reducible refine(pc V hE).mono ?_);rintro e w1 ⟨rfl,hx1⟩;have X1:=hE.trans hx1;have Bt:=(hx1.block _ (Ajx hM)).trans hM;have hR1:=(hx1.block _ (Ajx h2')).trans h2';clear k1 k2 k3 hM h2' pc;have k1:w1.cell? ⟨bm,0,none⟩=some (.slice A m.pts.length c):=Aa Bt rfl;have k2:w1.cell? ⟨bm,1,none⟩=some (.slice B m.eds.length d):=Aa Bt rfl;have k3:w1.cell? ⟨bm,2,none⟩=some (.slice F m.nf g):=Aa Bt rfl;have X:Ac w1 w1:=Ac.refl w1;have SO:=fun (w':World) (h:Ac w1 w')=>(⟨h.cellS k1,h.cellS k2,h.cellS k3⟩:_/\_/\_)
 go_upto_region 4 with fail
 go_region_held3 (fun w'=>w'.cell? ⟨bm,0,none⟩=some (.slice A m.pts.length c)/\w'.cell? ⟨bm,1,none⟩=some (.slice B m.eds.length d)/\w'.cell? ⟨bm,2,none⟩=some (.slice F m.nf g))
  (first|exact SS|with_reducible exact SO _ X.drew|with_reducible exact SO _ X)
  (first
   | ((with_reducible refine(cn w1.drew w2 (X1.trans (Ac.refl w1).drew) xo r b1 b2 E BM).mono ?_);rintro e w3 ⟨A3,B3,F3,c3,d3,g3,rfl,-,y1,y2,y3,y4,y5,xc,u1,u2,u3⟩;replace X:Ac w1 w3:=X.trans xc;have AA:=(X.block _ (Ajx hR1)).trans hR1;have g0:=Aa (o:=0) AA rfl;have g1:=Aa (o:=1) AA rfl;have g2:=Aa (o:=2) AA rfl;have Gd:=Aj (o:=0) AA;have g4:=Aj (o:=1) AA;have g5:=Aj (o:=2) AA;have SS:=(⟨(FD (show bm≠bm+1 by omega) (.slice A3 (Ja m).length c3) (.slice B3 (Cv m fa).ed.length d3) (.slice F3 (Cv m fa).fa.length g3) 0).trans (X.cellS k1),(FD (show bm≠bm+1 by omega) (.slice A3 (Ja m).length c3) (.slice B3 (Cv m fa).ed.length d3) (.slice F3 (Cv m fa).fa.length g3) 1).trans (X.cellS k2),(FD (show bm≠bm+1 by omega) (.slice A3 (Ja m).length c3) (.slice B3 (Cv m fa).ed.length d3) (.slice F3 (Cv m fa).fa.length g3) 2).trans (X.cellS k3)⟩:_/\_/\_);unfold As)
   | ((with_reducible refine(oc _ (X1.trans X.drew)).mono ?_);rintro e w2 ⟨r,b1,b2,E,rfl,xo,BM⟩;replace X:Ac w1 w2:=X.drew.trans xo))
 have bb:=(((Ax.refl (fun q=>q=bm+1) w3).setCell (p:=⟨bm+1,0,none⟩) (.inl rfl) (.slice A3 (Ja m).length c3)).setCell (p:=⟨bm+1,1,none⟩) (.inl rfl) (.slice B3 (Cv m fa).ed.length d3)).setCell (p:=⟨bm+1,2,none⟩) (.inl rfl) (.slice F3 (Cv m fa).fa.length g3);have fA:=BV y2 bb AA (fun j hj=>by obtain⟨s,h⟩:=Ht hj;rw [h];simp);have fB:=BV y3 bb AA (fun j hj=>by obtain⟨s,h⟩:=Hp hj;rw [h];simp);have fF:=BV y4 bb AA (fun j hj=>by rw [List.getElem_map];simp);have v1:=u1.but bb AA (by decide);have v2:=u2.but bb AA (by decide);have v3:=u3.but bb AA (by decide);have A7:=Ck (.slice A3 (Ja m).length c3) (.slice B3 (Cv m fa).ed.length d3) (.slice F3 (Cv m fa).fa.length g3) AA;have t1:=Aa (o:=0) A7 rfl;have t2:=Aa (o:=1) A7 rfl;have t3:=Aa (o:=2) A7 rfl;have Hx:=(((X1.trans X).setCell (p:=⟨bm+1,0,none⟩) CM (.slice A3 (Ja m).length c3)).setCell (p:=⟨bm+1,1,none⟩) CM (.slice B3 (Cv m fa).ed.length d3)).setCell (p:=⟨bm+1,2,none⟩) CM (.slice F3 (Cv m fa).fa.length g3);have BX:=Ajw (And.intro y1 (And.intro fA (And.intro fB (And.intro fF (And.intro y5 (And.intro Hx (And.intro v1 (And.intro v2 v3))))))));clear fA fB fF Hx v1 v2 v3 u1 u2 u3 bb y1 y2 y3 y4 y5 SS SO;go_wp2;refine bodyPost_ret (v:=.tuple #[.agg #[.slice A3 (Ja m).length c3,.slice B3 (Cv m fa).ed.length d3,.slice F3 (Cv m fa).fa.length g3],.int .i64 0]) (by simp [results,Tryz.results49,go_sem,t1,t2,t3]) rfl ?_;exact⟨A3,B3,F3,c3,d3,g3,rfl,⟨A3,B3,F3,c3,d3,g3,rfl,BX.out.1,BX.out.2.1,BX.out.2.2.1,BX.out.2.2.2.1,rfl,BX.out.2.2.2.2.2.1⟩,BX.out.1,BX.out.2.1,BX.out.2.2.1,BX.out.2.2.2.1,rfl,BX.out.2.2.2.2.2⟩
theorem xH(m:MapZ)(fa:List Bs)(Bn:m.nf=fa.length)(hb:EZ m=true)(A B F:Option Addr)(c d g:Nat)(An:Bj m c d g)(w:World)(hw:Ao w)(hA:Ae w A (flat (Ai m.pts)))(hB:Ae w B (Au m.eds))(hF:Ae w F (fa.map S))(FT:∀x,F=some x→x.block<w.heap.size)(h8:m.nf<=100000) :
  Calls Tryz.prog 49 #[As A B F m c d g] w (MA w (Iu m fa) (Cv m fa).fa):=
 (xI m fa Bn hb A B F c d g An w hw hA hB hF FT h8).mono fun _ _ h=>by obtain⟨A,B,F,c,d,g,h1,-,h2,h3,h4,h5,h6,h7,h8,h9,h10⟩:=h;exact⟨A,B,F,c,d,g,h1,h2,h3,h4,h5,h6,h7,h8,h9,h10⟩
theorem xJ(m:MapZ)(fa:List Bs)(Bn:m.nf=fa.length)(hb:EZ m=true)(A B F:Option Addr)(c d g:Nat)(An:Bj m c d g)(w:World)(hw:Ao w)(hA:Ae w A (flat (Ai m.pts)))(hB:Ae w B (Au m.eds))(hF:Ae w F (fa.map S))(FT:∀x,F=some x→x.block<w.heap.size)(h8:m.nf<=100000) :
  Calls Tryz.prog 49 #[As A B F m c d g] w (JF w (Iu m fa) (Cv m fa).fa):=
 (xI m fa Bn hb A B F c d g An w hw hA hB hF FT h8).mono fun _ _ h=>by obtain⟨_,_,_,_,_,_,_,h,_⟩:=h;exact h
def onE(pts:List Pt)(p:Pt)(e:EdZ):Bool:=EL (DV pts e.f) (DV pts e.t) p
theorem Adp(m:MapZ)(p:Pt)(hg:∀q∈m.pts,Cz q)(hp:Cz p)(e:EdZ)(r1:0<=e.f)(r2:e.f<(m.pts.length:Int))(r3:0<=e.t)(r4:e.t<(m.pts.length:Int))(A:Option Addr)(c:Nat)(v1 v2:Value)(bm bp:Nat)(w:World)(hw:Ao w)
  (AD:w.heap[bm]?=some (.cells #[.slice A m.pts.length c,v1,v2] 35)) (Aw:w.heap[bp]?=some (.cells #[S (R p.x),S (R p.y)] 27)) (hA:Ae w A (flat (Ai m.pts))) :
  Calls Tryz.prog 177 #[Hq e,.pointer (some ⟨bm,0,none⟩),.pointer (some ⟨bp,0,none⟩)] w (By (onE m.pts p e) w):=by
 obtain⟨ef,et,el,er⟩:=e;simp only at r1 r2 r3 r4;obtain⟨a,rfl⟩:∃a:Nat,ef=(a:Int):=⟨ef.toNat,by omega⟩;obtain⟨b,rfl⟩:∃b:Nat,et=(b:Int):=⟨et.toNat,by omega⟩;have ha:a<m.pts.length:=(by omega);have hb:b<m.pts.length:=(by omega);have hE:=(Ac.refl w).alloc (.cells #[.int .i64 (a:Nat),.int .i64 (b:Nat),.int .i64 el,.int .i64 er] 118);have C7:=Ajy w (.cells #[.int .i64 (a:Nat),.int .i64 (b:Nat),.int .i64 el,.int .i64 er] 118);obtain⟨ba,oa,rfl,ha1,ha2⟩:=BW (hA.ext hE) ha;obtain⟨qw,oa',he,hb1,hb2⟩:=BW (hA.ext hE) hb;obtain⟨rfl,rfl⟩:ba=qw/\oa=oa':=(by simpa using he);have OD:=hg _ (Aj0 ha);have hgb:=hg _ (Aj0 hb)
 have sE:onE m.pts p ⟨(a:Int),(b:Int),el,er⟩=EL m.pts[a] m.pts[b] p:=by unfold onE DV;simp [ha,hb]
 rw [sE];generalize m.pts[a]=pa at *;generalize m.pts[b]=pb at *;have on:=fun W (hx:Ac w W)=>bT pa pb p (k:=1) (OD.sz (by omega)) (hgb.sz (by omega)) (hp.sz (by omega)) (by omega) (by omega) W (hw.ext hx);obtain⟨r,hr⟩:=Ajv (EL pa pb p);rw [←hr]at on ⊢;have pV:=(hE.block _ (Ajx AD)).trans AD;have YE:=(hE.block _ (Ajx Aw)).trans Aw;unfold Hq;unfold Ak at on;clear sE hr OD hgb hg hp he hA AD Aw;go_enter Tryz.func177,Tryz.ntmps177
 go_upto_region 1 with fail
 generalize w.alloc (.cells #[.int .i64 (a:Nat),.int .i64 (b:Nat),.int .i64 el,.int .i64 er] 118)=V at *;obtain⟨bq,QW⟩:=Ajv w.heap.size;rw [←QW]at C7 ⊢;clear QW;have q1:∀q:Af V,q.w.cell? ⟨bm,0,none⟩=some (.slice (some ⟨ba,oa,none⟩) m.pts.length c):=Af.cell (Aa pV rfl);have q2:∀q:Af V,q.w.cell? ⟨bq,0,none⟩=some (.int .i64 (a:Nat)):=Af.cell (Aa C7 rfl);have q3:∀q:Af V,q.w.cell? ⟨bq,1,none⟩=some (.int .i64 (b:Nat)):=Af.cell (Aa C7 rfl);have q4:∀q:Af V,q.w.cell? ⟨bp,0,none⟩=some (S (R p.x)):=Af.cell (Aa YE rfl);have q5:∀q:Af V,q.w.cell? ⟨bp,1,none⟩=some (S (R p.y)):=Af.cell (Aa YE rfl);have a1:∀q:Af V,q.w.cell? ⟨ba,oa+a*2,none⟩=some (S (R pa.x)):=Af.cell ha1;have a2:∀q:Af V,q.w.cell? ⟨ba,oa+a*2+1,none⟩=some (S (R pa.y)):=Af.cell ha2;have a3:∀q:Af V,q.w.cell? ⟨ba,oa+b*2,none⟩=some (S (R pb.x)):=Af.cell hb1;have a4:∀q:Af V,q.w.cell? ⟨ba,oa+b*2+1,none⟩=some (S (R pb.y)):=Af.cell hb2;have Pg:=fun (q:Af V)=>on q.w (hE.trans q.h);clear pV YE C7 ha1 ha2 hb1 hb2 on ha hb;refine CW (by kernel_rfl) (by kernel_rfl) ?_
 repeat (go_big_quiet_step (with_reducible refine Xv (Pg _)))
 refine wpQuiet_nil ?_;rintro _ ⟨q,rfl⟩;have HX:=Ajw (hE.trans q.h);clear q1 q2 q3 q4 q5 a1 a2 a3 a4 Pg;go_wp2;go_ret;exact⟨rfl,HX.out⟩
theorem yv:∀args w,(callFunc 177 args).run Tryz.prog w=.ok (.enter 177 args) w:=enters_of Tryz.func177 (by kernel_rfl) rfl
def N8(m:MapZ)(p:Pt)(f:Nat):Bool:=
 EZ m&&(Qy p&&(m.eds.all (fun e=>!onE m.pts p e)&&match C5 p ((AG m.pts m.eds).map (·.1))with|some x=>decide (AI x.1 (AG m.pts m.eds)=(f:Int))|none=>false))
theorem RS(m:MapZ)(p:Pt)(f:Nat)(hb:N8 m p f=true)(A B F:Option Addr)(c d g:Nat)(An:Bj m c d g)(w:World)(hw:Ao w)(hA:Ae w A (flat (Ai m.pts)))(hB:Ae w B (Au m.eds)) :
  Calls Tryz.prog 97 #[As A B F m c d g,Ak p] w (Bp (.tuple #[.int .i64 (f:Nat),.bool true,.int .i64 0]) w):=by
 unfold N8 at hb;simp only [Bool.and_eq_true]at hb;obtain⟨b1,b2,b3,b4⟩:=hb;obtain⟨hck,hgr⟩:=JP b1;have hp:=Qz b2;unfold EZ at b1;simp only [Bool.and_eq_true,List.all_eq_true,decide_eq_true_eq]at b1;obtain⟨h0,-,h2,-,-,-,-,-⟩:=b1;unfold Oh at h0;simp only [Bool.and_eq_true,decide_eq_true_eq]at h0;obtain⟨-,c1,c2,c3,-⟩:=h0;have Es:=Qs c1 c2;have N3:=UX Es hgr c3
 obtain⟨x,AO,hlk⟩:∃x,C5 p ((AG m.pts m.eds).map (·.1))=some x/\AI x.1 (AG m.pts m.eds)=(f:Int):=by
  cases Km:C5 p ((AG m.pts m.eds).map (·.1))with
  | none=>rw [Km]at b4;cases b4
  | some x=>rw [Km]at b4;exact⟨x,rfl,of_decide_eq_true b4⟩
 have Aw:∀l:List Sg,l.Perm ((AG m.pts m.eds).map (·.1))→C5 p l=some x:=fun l hl=>by rw [←AO];exact iT N3.x.good p hl (fun t ht=>hl.mem_iff.1 ht)
 have hno:m.eds.any (onE m.pts p)=false:=by
  rw [List.any_eq_false];intro e he;have:=List.all_eq_true.1 b3 e he
  simpa using this
 have R7:∀e∈m.eds,0<=e.f/\e.f<(m.pts.length:Int)/\0<=e.t/\e.t<(m.pts.length:Int):=by intro e he;obtain⟨j,hj,rfl⟩:=List.getElem_of_mem he;have:=Qk (Og (l:=m.eds) c2 j hj);omega
 obtain⟨hM,hP,hE⟩:(((w.alloc (.cells #[.slice A m.pts.length c,.slice B m.eds.length d,.slice F m.nf g] 35)).alloc (.cells #[S (R p.x),S (R p.y)] 27)).heap[w.heap.size]?=some (.cells #[.slice A m.pts.length c,.slice B m.eds.length d,.slice F m.nf g] 35))
   /\(((w.alloc (.cells #[.slice A m.pts.length c,.slice B m.eds.length d,.slice F m.nf g] 35)).alloc (.cells #[S (R p.x),S (R p.y)] 27)).heap[w.heap.size+1]?=some (.cells #[S (R p.x),S (R p.y)] 27))
   /\Ac w ((w.alloc (.cells #[.slice A m.pts.length c,.slice B m.eds.length d,.slice F m.nf g] 35)).alloc (.cells #[S (R p.x),S (R p.y)] 27)):=by
  have h1:=Ajy w (.cells #[.slice A m.pts.length c,.slice B m.eds.length d,.slice F m.nf g] 35);have h2:=Ajy (w.alloc (.cells #[.slice A m.pts.length c,.slice B m.eds.length d,.slice F m.nf g] 35)) (.cells #[S (R p.x),S (R p.y)] 27);rw [Aj6]at h2;have e1:=(Ac.refl w).alloc (.cells #[.slice A m.pts.length c,.slice B m.eds.length d,.slice F m.nf g] 35);have e2:=(Ac.refl (w.alloc (.cells #[.slice A m.pts.length c,.slice B m.eds.length d,.slice F m.nf g] 35))).alloc (.cells #[S (R p.x),S (R p.y)] 27);exact⟨(e2.block _ (Ajx h1)).trans h1,h2,e1.trans e2⟩
 have pc:=fun W (hx:Ac w W)=>M4 m hgr A B F c d g An W (hw.ext hx) (hA.ext hx) (hB.ext hx);rw [hck]at pc;have GY:Az 1 p:=hp.sz (by omega);have ck:=fun W (hx:Ac w W)=>MO (R p.x) (R p.y) true (by simp only [true_iff];exact⟨KO GY.x (by omega) (by omega),KO GY.y (by omega) (by omega)⟩) (P0 GY.x (by omega) (by omega)) (P0 GY.y (by omega) (by omega)) W (hw.ext hx);rw [GI]at ck;have oc:=fun W (hx:Ac w W)=>Vb m A B F c d g An Es (by omega) W (hA.ext hx) (hB.ext hx)
 have an:=fun W (hx:Ac w W) (bm bp:Nat) (h1:W.heap[bm]?=some (.cells #[.slice A m.pts.length c,.slice B m.eds.length d,.slice F m.nf g] 35)) (h2:W.heap[bp]?=some (.cells #[S (R p.x),S (R p.y)] 27))=>
  nw (cb:=#[.pointer (some ⟨bm,0,none⟩),.pointer (some ⟨bp,0,none⟩)]) yv (onE m.pts p) m.eds B d W (hB.ext hx) An.d1 An.d2
   (fun e he W' hx'=>Adp m p hgr hp e (R7 e he).1 (R7 e he).2.1 (R7 e he).2.2.1 (R7 e he).2.2.2 A c _ _ bm bp W' (hw.ext (hx.trans hx')) ((hx'.block _ (Ajx h1)).trans h1) ((hx'.block _ (Ajx h2)).trans h2) (hA.ext (hx.trans hx')))
 rw [hno]at an;have bl:=fun (W W':World) (h1:Ac w W) (hx:Ac W W') (r b1 b2:Nat) (E:List (Pt×Value×Nat)) (hn:Br W.heap.size W' r b1 b2 (AG m.pts m.eds) E (BD m.pts m.eds))=>iS hn p (fun e he=>RX Es hgr e.1 (List.mem_map_of_mem he)) hp (hw.ext (h1.trans hx));unfold As at pc oc ⊢;unfold Ak at bl ⊢;have SE:=Ajw Aw;have jf:=Ajw hlk;have HF:=Ajw (show ∃z,z=(f:Int)from⟨_,rfl⟩);clear b2 b3 b4 hck hgr hp c1 c2 c3 Es N3 AO Aw hlk hno R7 hA hB h2;go_enter Tryz.func97,Tryz.ntmps97
 go_upto_region 1 with fail
 generalize (w.alloc (.cells #[.slice A m.pts.length c,.slice B m.eds.length d,.slice F m.nf g] 35)).alloc (.cells #[S (R p.x),S (R p.y)] 27)=V at *;obtain⟨bm,AD⟩:=Ajv w.heap.size;rw [←AD]at hM hP ⊢;clear AD;have k1:=Aa (o:=0) hM rfl;have k2:=Aa (o:=1) hM rfl;have k3:=Aa (o:=2) hM rfl;(go_wp2_with fail);(with_reducible refine(pc V hE).mono ?_);rintro e w1 ⟨rfl,hx1⟩;have X1:=hE.trans hx1;have TU:=(hx1.block _ (Ajx hP)).trans hP;have Bt:=(hx1.block _ (Ajx hM)).trans hM;clear k1 k2 k3;have j1:=Aa (o:=0) TU rfl;have j2:=Aa (o:=1) TU rfl;(go_wp2_with fail);(with_reducible refine(ck w1 X1).mono ?_);rintro e w2 ⟨rfl,hx2⟩;have X2:=X1.trans hx2;have Yf:=(hx2.block _ (Ajx TU)).trans TU;have EC:=(hx2.block _ (Ajx Bt)).trans Bt;clear j1 j2;have k2:=Aa (o:=1) EC rfl;have U0:∀(fn:Fn) (first cap:Array Value) (w:World),(Instr.makeFunc fn first cap).run Tryz.prog w=.ok (.func fn first cap) w:=fun _ _ _ _=>rfl;have iD:=an w2 X2 bm (bm+1) EC Yf;(go_wp2_with fail);(with_reducible refine iD.mono ?_);rintro e w3 ⟨rfl,hx3⟩;have X3:=X2.trans hx3;have nY:=(hx3.block _ (Ajx Yf)).trans Yf;have Cd:=(hx3.block _ (Ajx EC)).trans EC;clear k2 an iD U0;have k1:=Aa (o:=0) Cd rfl;have k2:=Aa (o:=1) Cd rfl;have k3:=Aa (o:=2) Cd rfl;(go_wp2_with fail);(with_reducible refine(oc w3 X3).mono ?_);rintro e w4 ⟨r,b1,b2,E,rfl,Aq,OJ⟩;have Yg:=(Aq.block _ (Ajx nY)).trans nY;clear k1 k2 k3;have j1:=Aa (o:=0) Yg rfl;have j2:=Aa (o:=1) Yg rfl;have iW:=bl w3 w4 X3 Aq r b1 b2 E OJ;clear bl oc ck pc;(go_wp2_with fail);(with_reducible refine iW.mono ?_);rintro e w5 ⟨l,hl,rfl,AE⟩;rw [SE.out l hl];have X5:=(X3.trans Aq).trans AE;have hn5:=OJ.ext AE;have lk:=@M7 x.1 (AG m.pts m.eds);rw [jf.out]at lk;obtain⟨⟨⟨ax,ay⟩,⟨bx,Qj⟩⟩,hh⟩:=x;unfold Qh Tv;unfold AC at lk;simp only at lk ⊢;have Hy:=Ajy w5 (.cells #[S (R ax),S (R ay),S (R bx),S (R Qj)] 175);have Ow:=(Ac.refl w5).alloc (.cells #[S (R ax),S (R ay),S (R bx),S (R Qj)] 175);have Mj:=hn5.ext Ow;have X6:=X5.trans Ow;have hf0:¬((f:Int)<0):=(by omega);have OC:decide ((f:Int)<0)=false:=decide_eq_false hf0;clear iW hl OJ Yg j1 j2
 go_upto_region 10 with fail
 generalize w5.alloc (.cells #[S (R ax),S (R ay),S (R bx),S (R Qj)] 175)=W6 at *;obtain⟨bs,B8⟩:=Ajv w5.heap.size;rw [←B8]at Hy ⊢;clear B8;have q1:∀q:Af W6,q.w.cell? ⟨r,0,none⟩=some (.map (some b1)):=Af.cell (Aa Mj.cell rfl);have q2:∀q:Af W6,q.w.cell? ⟨bs,0,none⟩=some (S (R ax)):=Af.cell (Aa Hy rfl);have q3:∀q:Af W6,q.w.cell? ⟨bs,1,none⟩=some (S (R ay)):=Af.cell (Aa Hy rfl);have q4:∀q:Af W6,q.w.cell? ⟨bs,2,none⟩=some (S (R bx)):=Af.cell (Aa Hy rfl);have q5:∀q:Af W6,q.w.cell? ⟨bs,3,none⟩=some (S (R Qj)):=Af.cell (Aa Hy rfl);have q6:=fun (q:Af W6)=>lk (Mj.ext q.h).left;refine CW (by kernel_rfl) (by kernel_rfl) ?_
 repeat (go_big_quiet_step (fail))
 refine wpQuiet_nil ?_;rintro W7 ⟨q,hq⟩;have AL:Ac W6 W7:=hq▸q.h;clear hq q q1 q2 q3 q4 q5 q6;have rR:=Mj.ext AL;have Eb:=(AL.block _ (Ajx Hy)).trans Hy;have X7:=X6.trans AL;have q1:∀q:Af W7,q.w.cell? ⟨r,0,none⟩=some (.map (some b1)):=Af.cell (Aa rR.cell rfl);have q2:∀q:Af W7,q.w.cell? ⟨bs,0,none⟩=some (S (R ax)):=Af.cell (Aa Eb rfl);have q3:∀q:Af W7,q.w.cell? ⟨bs,1,none⟩=some (S (R ay)):=Af.cell (Aa Eb rfl);have q4:∀q:Af W7,q.w.cell? ⟨bs,2,none⟩=some (S (R bx)):=Af.cell (Aa Eb rfl);have q5:∀q:Af W7,q.w.cell? ⟨bs,3,none⟩=some (S (R Qj)):=Af.cell (Aa Eb rfl);have q6:=fun (q:Af W7)=>lk (rR.ext q.h).left
 go_upto_region 12 with fail
 refine CW (by kernel_rfl) (by kernel_rfl) ?_
 repeat (go_big_quiet_step (fail))
 refine wpQuiet_nil ?_;rintro W8 ⟨q,hq⟩;have AX:Ac W7 W8:=hq▸q.h;have X8:=X7.trans AX;clear hq q q1 q2 q3 q4 q5 q6;go_wp2;go_ret3;exact⟨rfl,X8⟩
theorem AgV(m:MapZ)(fa:List Bs)(Bn:m.nf=fa.length)(p:Pt)(f:Nat)(hf:f<fa.length)(hb:N8 m p f=true)(A B F:Option Addr)(c d g:Nat)(An:Bj m c d g)(w:World)(hw:Ao w)(hA:Ae w A (flat (Ai m.pts)))(hB:Ae w B (Au m.eds))(hF:Ae w F (fa.map S)) :
  Calls Tryz.prog 45 #[As A B F m c d g,Ak p] w (Bp (.tuple #[S fa[f],.bool true,.int .i64 0]) w):=by
 have lc:=fun W (hx:Ac w W)=>RS m p f hb A B F c d g An W (hw.ext hx) (hA.ext hx) (hB.ext hx);have h1:=Ajy w (.cells #[.slice A m.pts.length c,.slice B m.eds.length d,.slice F m.nf g] 35);have h2:=Ajy (w.alloc (.cells #[.slice A m.pts.length c,.slice B m.eds.length d,.slice F m.nf g] 35)) (.cells #[S (R p.x),S (R p.y)] 27);rw [Aj6]at h2;have e2:=(Ac.refl (w.alloc (.cells #[.slice A m.pts.length c,.slice B m.eds.length d,.slice F m.nf g] 35))).alloc (.cells #[S (R p.x),S (R p.y)] 27);have hM:=(e2.block _ (Ajx h1)).trans h1;have hE:=((Ac.refl w).alloc (.cells #[.slice A m.pts.length c,.slice B m.eds.length d,.slice F m.nf g] 35)).trans e2;obtain⟨s,hs⟩:=Ajv (fa[f]);obtain⟨bf,of,rfl,Um⟩:=hF.ad (by rw [List.length_map];omega);have ZD:=Um f (by rw [List.length_map];exact hf);rw [List.getElem_map,←hs]at ZD;rw [←hs];have hf0:(0:Int)<=(f:Int):=(by omega);have YQ:(f:Int)<(m.nf:Int):=(by omega);unfold As at lc ⊢;unfold Ak at lc ⊢;clear hs Um hF hA hB hb An h1 e2 Bn hf;go_enter Tryz.func45,Tryz.ntmps45
 go_upto_region 1 with fail
 generalize (w.alloc (.cells #[.slice A m.pts.length c,.slice B m.eds.length d,.slice (some ⟨bf,of,none⟩) m.nf g] 35)).alloc (.cells #[S (R p.x),S (R p.y)] 27)=V at *;obtain⟨bm,AD⟩:=Ajv w.heap.size;rw [←AD]at hM h2 ⊢;clear AD;have k1:=Aa (o:=0) hM rfl;have k2:=Aa (o:=1) hM rfl;have k3:=Aa (o:=2) hM rfl;have j1:=Aa (o:=0) h2 rfl;have j2:=Aa (o:=1) h2 rfl;(go_wp2_with fail);(with_reducible refine(lc V hE).mono ?_);rintro e w1 ⟨rfl,hx1⟩;have X1:=hE.trans hx1;replace k3:=hx1.cellS k3;replace ZD:=X1.cellS ZD;clear k1 k2 j1 j2 lc hM h2;go_wp2;go_ret3;exact⟨rfl,X1⟩
theorem Tryz.infoIr:(Tryz.prog.info? 85).map (fun i=>(i.zero,i.size,i.bytes))=some (some (.slice none 0 0),1,24):=by kernel_rfl
section
variable {ops : Array Oper} {rest : List Oper} {o : Oper} {a : Act} {Q : Exit → Act → World → Prop}
theorem ou(hgd:o.guard=none)(s x:Operand)(ho:o.op=.call {callee:=.builtin .append,args:=#[s,x],argTypes:=#[85,85]})
  (wN:World) (base:Nat) (v:Value) (l:List Int) (hs:a.eval s=v) (hown:wN.ownsRow base 3 1 v l.length (zs l)) (hn:l.length<200000) (d:Int)
  (g:Nat) (hb:wN.heap[g]?=some (.cells #[.int .i64 d] 3)) (hx:a.eval x=.slice (some ⟨g,0,none⟩) 1 1) (hbase:base<=wN.heap.size)
  (h:∀v' w',w'.ownsRow base 3 1 v' (l.length+1) (zs (l ++ [d]))→wN.grownBy w' v.ownBlock→wpList Tryz.prog ops Q rest (a.put o.dst v') w') :
  wpList Tryz.prog ops Q (o::rest) a wN:=by
 obtain⟨i0,hi,hz0,hz1,hz2⟩:=info_parts Tryz.infoI;refine wpList_plain hgd fun K hK=>Sx s x 85 ho 3 i0 _ 1 8 Tryz.underlying85 hi hz0 hz1 hz2 rfl (by omega) (by omega) wN base v l.length _ hs hown hn g _ hb rfl ?_ hx hbase ?_
 ·intro u hu;simp only [List.mem_cons,AjA,or_false]at hu;rw [hu];rfl
 ·intro v' w' h1 _ h3;refine hK _ _ (h v' w' ?_ h3);have:zs (l ++ [d])=zs l++#[Value.int .i64 d].toList:=(by simp [zs]);rw [this];exact h1
theorem ow(hgd:o.guard=none)(s x:Operand)(ho:o.op=.call {callee:=.builtin .append,args:=#[s,x],argTypes:=#[225,225]})
  (wN:World) (base:Nat) (hs:a.eval s=.slice none 0 0) (d:Value) (hd:d.oneCell'=true)
  (g:Nat) (hb:wN.heap[g]?=some (.cells #[d] 85)) (hx:a.eval x=.slice (some ⟨g,0,none⟩) 1 1) (hbase:base<=wN.heap.size)
  (h:∀v' w',w'.ownsRow base 85 1 v' 1 [d]→Ac wN w'→wpList Tryz.prog ops Q rest (a.put o.dst v') w') :
  wpList Tryz.prog ops Q (o::rest) a wN:=by
 obtain⟨i0,hi,hz0,hz1,hz2⟩:=info_parts Tryz.infoIr;refine wpList_plain hgd fun K hK=>Sx s x 225 ho 85 i0 _ 1 24 Tryz.underlying225 hi hz0 hz1 hz2 rfl (by omega) (by omega) wN base (.slice none 0 0) 0 [] hs ⟨rfl,.inl ⟨rfl,rfl⟩⟩ (by omega) g _ hb rfl ?_ hx hbase ?_
 ·intro u hu;simp only [List.mem_cons,AjA,or_false]at hu;rw [hu];exact hd
 ·intro v' w' h1 _ h3;exact hK _ _ (h v' w' h1 ((Ac.refl wN).grown h3 (fun k hk=>by simp [Value.ownBlock]at hk)))
end
def Lv(w:World)(v:Value)(l:List Int):Prop:=∃bo co bl cl,v=.slice (some ⟨bo,0,none⟩) 1 co/\w.cell? ⟨bo,0,none⟩=some (.slice bl l.length cl)/\w.ownsRow 0 3 1 (.slice bl l.length cl) l.length (zs l)
theorem Lv.ext{w w':World}{v:Value}{l:List Int}(h:Lv w v l)(hx:Ac w w'):Lv w' v l:=by
 obtain⟨bo,co,bl,cl,h1,h2,h3⟩:=h;exact⟨bo,co,bl,cl,h1,hx.cellS h2,A9 h3 hx⟩
theorem AcE(d:Value)(hd:d.oneCell'=true)(g:Nat)(w:World)(hb:w.heap[g]?=some (.cells #[d] 85)) :
  Calls Tryz.prog 258 #[.slice none 0 0,.int .i64 0,.slice (some ⟨g,0,none⟩) 1 1] w (fun e w'=>∃v,e=.returned v/\w'.ownsRow w.heap.size 85 1 v 1 [d]/\Ac w w'):=by
 go_enter Tryz.func258,Tryz.ntmps258
 go_wp2_with (at_builtin;go_loud (refine ow rfl _ _ rfl w w.heap.size rfl d hd g hb rfl (Ajz _) ?_);intro v9 w9 BS Dz)
 go_ret;exact⟨_,rfl,BS,Dz⟩
theorem AeD(m:MapZ)(f:Nat)(hf:f<m.nf)(hck:El m=0)(hgr:∀p∈m.pts,Cz p)(A B F:Option Addr)(c d g:Nat)(An:Bj m c d g)(w:World)(hw:Ao w)(hA:Ae w A (flat (Ai m.pts)))(hB:Ae w B (Au m.eds)) :
  Calls Tryz.prog 256 #[As A B F m c d g,.int .i64 (f:Nat)] w (AK 0 w):=by
 have hM:=Ajy w (.cells #[.slice A m.pts.length c,.slice B m.eds.length d,.slice F m.nf g] 35);have hE:=(Ac.refl w).alloc (.cells #[.slice A m.pts.length c,.slice B m.eds.length d,.slice F m.nf g] 35);have pc:=M4 m hgr A B F c d g An _ (hw.ext hE) (hA.ext hE) (hB.ext hE);rw [hck]at pc;unfold As at pc ⊢;have f0:¬((f:Int)<0):=(by omega);have f1:¬((m.nf:Int)<=(f:Int)):=(by omega);have f2:decide ((f:Int)<0)=false:=decide_eq_false f0;have f3:decide ((m.nf:Int)<=(f:Int))=false:=decide_eq_false f1;clear hA hB hgr An hck;go_enter Tryz.func256,Tryz.ntmps256
 go_upto_region 1 with fail
 generalize w.alloc (.cells #[.slice A m.pts.length c,.slice B m.eds.length d,.slice F m.nf g] 35)=V at *;obtain⟨bm,AD⟩:=Ajv w.heap.size;rw [←AD]at hM ⊢;clear AD;have k1:=Aa (o:=0) hM rfl;have k2:=Aa (o:=1) hM rfl;have k3:=Aa (o:=2) hM rfl;(go_wp2_with fail);(with_reducible refine pc.mono ?_);rintro e w1 ⟨rfl,hx1⟩;replace k3:=hx1.cellS k3;clear k1 k2 pc hM;go_wp2;go_ret;exact⟨rfl,hE.trans hx1⟩
def IF(pts:List Pt)(c:List Sg):List Int:=c.map (fun s=>DU pts s.a)
def Xn(m:MapZ):List (List Sg):=MP ((AG m.pts m.eds).map (·.1)) (G2 m.pts m.eds)
def Jz(L:List (Sg×Int))(f:Int)(c:List Sg):Bool:=match c with
 | []=>false
 | s::_=>decide (AI s L=f)
def Xl(m:MapZ)(f:Nat)(l:List Int):Bool:=
 EZ m&&(decide (f<m.nf)&&match (Xn m).filter (Jz (AG m.pts m.eds) (f:Int))with
 | [c]=>decide (0 < GE c) && decide (IF m.pts c=l)
 | _=>false)
theorem Vj{w:World}{B:Nat}{e:TypeId}{s n c:Nat}{A:Option Addr}{xs:List Value}(h:w.ownsRow B e s (.slice A (n+1) c) (n+1) xs):∃g,A=some ⟨g,0,none⟩:=by
 rcases h.2 with⟨h',_⟩|⟨g,cap,cur,h',_⟩
 ·simp only [Value.slice.injEq]at h';omega
 ·simp only [Value.slice.injEq]at h';exact⟨g,h'.1⟩
theorem zm{α:Type}{p:α→Bool}{C:List α}{c0:α}(h:C.filter p = [c0]){j:Nat}(hj:j<C.length)(hp:p C[j]=true):(C.take j).filter p = []/\C[j]=c0:=by
 have e:C=C.take j++C[j]::C.drop (j+1):=(by rw [←List.drop_eq_getElem_cons hj,List.take_append_drop]);rw [e,List.filter_append,List.filter_cons_of_pos hp]at h
 cases h1:(C.take j).filter p with
 | nil=>
  rw [h1,List.nil_append,List.cons.injEq]at h;exact⟨rfl,h.1⟩
 | cons a l=>rw [h1]at h;simp at h
theorem zo{α:Type}{p:α→Bool}{C:List α}{j:Nat}(hj:j<C.length):(C.take (j+1)).filter p=(C.take j).filter p++if p C[j] then [C[j]] else []:=by
 rw [Aj2 hj,List.filter_append]
 congr 1
 cases h:p C[j]<;>simp [h]
theorem AeA(m:MapZ)(f:Nat)(l:List Int)(hb:Xl m f l=true)(A B F:Option Addr)(c d g:Nat)(An:Bj m c d g)(w:World)(hw:Ao w)(hA:Ae w A (flat (Ai m.pts)))(hB:Ae w B (Au m.eds)) :
  Calls Tryz.prog 163 #[As A B F m c d g,.int .i64 (f:Nat)] w (fun e w'=>∃v,e=.returned (.tuple #[v,.int .i64 0])/\Lv w' v l/\Ac w w'):=by
 unfold Xl at hb;simp only [Bool.and_eq_true,decide_eq_true_eq]at hb;obtain⟨b1,hf,b3⟩:=hb;obtain⟨hck,hgr⟩:=JP b1;unfold EZ at b1;simp only [Bool.and_eq_true,List.all_eq_true,decide_eq_true_eq]at b1;obtain⟨h0,-,h2,-,-,-,-,-⟩:=b1;unfold Oh at h0;simp only [Bool.and_eq_true,decide_eq_true_eq]at h0;obtain⟨-,c1,c2,c3,-⟩:=h0;have Es:=Qs c1 c2;have N3:=UX Es hgr c3;obtain⟨C,hC⟩:=Ajv (Xn m);obtain⟨L,hL⟩:=Ajv (AG m.pts m.eds)
 obtain⟨c0,hc0,QR,rE⟩:∃c0,C.filter (Jz L (f:Int)) = [c0]/\0<GE c0/\IF m.pts c0=l:=by
  rw [hC,hL]
  cases CN:(Xn m).filter (Jz (AG m.pts m.eds) (f:Int))with
  | nil=>rw [CN]at b3;cases b3
  | cons x r=>
   cases r with
   | nil=>
    rw [CN]at b3;simp only [Bool.and_eq_true,decide_eq_true_eq]at b3;exact⟨x,rfl,b3⟩
   | cons y r=>rw [CN]at b3;cases b3
 have Ky:=aU m.pts m.eds;have sX:G2 m.pts m.eds=(BD m.pts m.eds).map (fun e=>(e.1,CV e.1 e.2)):=cQ _ _;have XN:GL ((AG m.pts m.eds).map (·.1)) ((BD m.pts m.eds).map (fun e=>(e.1,CV e.1 e.2)))=C:=(by rw [hC,←sX,Xm];rfl);obtain⟨U,Ap,hall⟩:=kU Ky.sorted;rw [XN]at Ap;have qZ:=RX Es hgr;have hrl:∀e∈BD m.pts m.eds,e.2.length<100000:=fun e he=>by have:=Pe m.pts m.eds e he;omega
 have R9:∀e∈(BD m.pts m.eds).map (fun e=>(e.1,CV e.1 e.2)),e.2.length<100000:=by intro e he;rw [List.mem_map]at he;obtain⟨x,hx,rfl⟩:=he;have:=hrl x hx;rw [show (CV x.1 x.2).length=x.2.length from(Su x.1 x.2).length_eq];exact this
 have nA:∀i (hi:i<C.length),(∀s∈C[i],F7 s)/\0<C[i].length/\C[i].length<=100000:=
  fun i hi=>(NN.row ⟨Ap,hall,N3.x.good,qZ,by rw [List.length_map,Pf];omega⟩ hi)
 have fc:=fun W (hx:Ac w W)=>AeD m f hf hck hgr A B F c d g An W (hw.ext hx) (hA.ext hx) (hB.ext hx);have oc:=fun W (hx:Ac w W)=>Vb m A B F c d g An Es (by omega) W (hA.ext hx) (hB.ext hx);have so:=fun (W W':World) (h1:Ac w W) (hx:Ac W W') (r b1 b2:Nat) (E:List (Pt×Value×Nat)) (hn:Br W.heap.size W' r b1 b2 (AG m.pts m.eds) E (BD m.pts m.eds))=>sort_c (hw.ext h1) hx hn (yK N3 Ky hrl);have cy:=fun (W W':World) (h1:Ac w W) (hx:Ac W W') (r b1 b2:Nat) (E:List (Pt×Value×Nat)) (hn:Br W.heap.size W' r b1 b2 (AG m.pts m.eds) E ((BD m.pts m.eds).map (fun e=>(e.1,CV e.1 e.2))))=>kV (hw.ext h1) hx hn Ky.sorted N3 (by rw [Pf];omega) R9;rw [XN]at cy;rw [←hL]at oc so cy;have hM:=Ajy w (.cells #[.slice A m.pts.length c,.slice B m.eds.length d,.slice F m.nf g] 35);have hE:=(Ac.refl w).alloc (.cells #[.slice A m.pts.length c,.slice B m.eds.length d,.slice F m.nf g] 35);have hcc:=An.c1;have hcm:=An.c2;unfold As at fc oc ⊢;have SH:=Ajw hc0;have fh:=Ajw QR;have eS:=Ajw rE;have gb:=Ajw nA;have HA:=Ajw hA;clear hC hL hc0 QR rE nA Ky sX XN Ap hall qZ hrl R9 Es N3 hck hgr b3 c1 c2 c3 h2 hA hB An;go_enter Tryz.func163,Tryz.ntmps163
 go_upto_region 1 with fail
 generalize w.alloc (.cells #[.slice A m.pts.length c,.slice B m.eds.length d,.slice F m.nf g] 35)=V at *;obtain⟨bm,AD⟩:=Ajv w.heap.size;rw [←AD]at hM ⊢;clear AD;have k1:=Aa (o:=0) hM rfl;have k2:=Aa (o:=1) hM rfl;have k3:=Aa (o:=2) hM rfl;(go_wp2_with fail);(with_reducible refine(fc V hE).mono ?_);rintro e w1 ⟨rfl,hx1⟩;replace k1:=hx1.cellS k1;replace k2:=hx1.cellS k2;replace k3:=hx1.cellS k3;have X1:=hE.trans hx1;(go_wp2_with fail);(with_reducible refine(oc w1 X1).mono ?_);rintro e w2 ⟨r,b1,b2,E,rfl,hx2,BM⟩;have zQ:=so w1 w2 X1 hx2 r b1 b2 E BM;clear so oc fc BM;(go_wp2_with fail);(with_reducible refine zQ.mono ?_);rintro e w3 ⟨rfl,hx3,-,FR⟩;have kS:=cy w1 w3 X1 hx3 r b1 b2 E FR;clear cy zQ;(go_wp2_with fail);(with_reducible refine kS.mono ?_);rintro e w4 ⟨A4,cap4,rfl,Fh,Aq⟩;have Dg:=hx3.trans Aq;have OJ:=FR.ext Aq;have C0:=((hx1.trans Dg).block _ (Ajx hM)).trans hM;have X4:=X1.trans Dg;obtain⟨n,hn⟩:=Ajv C.length;have Aig:n<=cap4:=(by rw [hn];exact Fh.cap1);have Aih:=Fh.cap2;rw [←hn];have HN:=Ajw hn;have IR:=Ajw Fh;have fC:=Ajw OJ;have eX:=Ajw C0;have fj:=Ajw (HA.out.ext X4);obtain⟨W4,rfl⟩:=aQ X4;clear kS Fh OJ FR C0 hM k1 k2 k3 hx3 Aq Dg hx1 hx2 hn
 go_upto_region 8 with fail
 go_loopw [8,27] (fun ov kv wr=>∃(O:Value) (j:Nat),O=ov/\kv=.int .i64 (j:Nat)/\j<=n/\Ac W4 wr/\((O=.slice none 0 0/\(C.take j).filter (Jz L (f:Int)) = [])∨(Lv wr O l/\(C.take j).filter (Jz L (f:Int)) = [c0]))) (fun _ kv _=>n-(intOf kv).toNat)
 case atStart=>exact⟨_,0,rfl,rfl,by omega,Ac.refl _,.inl ⟨rfl,rfl⟩⟩
 case round=>
  obtain⟨O,j,rfl,rfl,hj,Ag,sJ⟩:=hrel;have We:=Ajw sJ;clear sJ;by_cases hjn:j<n
  ·have Uu:j<C.length:=(by rw [←HN.out];exact hjn);obtain⟨bA,oA,A',c',rfl,hcell,Bi,hc1,hc2⟩:=IR.out.row j Uu;obtain⟨Zb,Cl,hle⟩:=gb.out j Uu;have hst:=zo (p:=Jz L (f:Int)) Uu;have Zp:=fun hp=>zm SH.out Uu hp;obtain⟨cj,Rb⟩:=Ajv (C[j]);rw [←Rb]at hcell Bi hc1 Zb Cl hle hst Zp;have HST:=Ajw hst;have ji:=Ajw Zp;have il:=Ajw Zb;replace hcell:=Ag.cellS hcell;have Z9:=Bi.ext Ag;have DN:=J4 Z9 Cl;obtain⟨s0,hs0⟩:=Ajv (cj[0]);rw [←hs0]at DN
   have rZ:Jz L (f:Int) cj=decide (AI s0 L=(f:Int)):=by
    rw [hs0]
    cases cj with
    | nil=>simp at Cl
    | cons x r=>rfl
   have fD:=Ajw rZ;obtain⟨bR,oR,rfl,z1,z2,z3,z4⟩:=DN;have hj0:(0:Int)<=(j:Int):=(by omega);have Ku:(j:Int)<(n:Int):=(by omega);have CQ:(0:Int)<(cj.length:Int):=(by omega);clear Rb hs0 rZ hst Zp Zb Bi;simp only [Nat.zero_mul,Nat.add_zero]at z1 z2 z3 z4;have q1:∀q:Af wr,q.w.cell? ⟨r,0,none⟩=some (.map (some b1)):=Af.cell (Ag.cellS (Aa fC.out.cell rfl));have q2:∀q:Af wr,q.w.cell? ⟨bR,oR,none⟩=some (S (R s0.a.x)):=Af.cell z1;have q3:∀q:Af wr,q.w.cell? ⟨bR,oR+1,none⟩=some (S (R s0.a.y)):=Af.cell z2;have q4:∀q:Af wr,q.w.cell? ⟨bR,oR+2,none⟩=some (S (R s0.b.x)):=Af.cell z3;have q5:∀q:Af wr,q.w.cell? ⟨bR,oR+3,none⟩=some (S (R s0.b.y)):=Af.cell z4;have q6:=fun (q:Af wr)=>M7 s0 L (fC.out.ext (Ag.trans q.h)).left;obtain⟨zl,hzl⟩:=Ajv (AI s0 L);rw [←hzl]at q6;unfold AC at q6;have SY:=Ajw hzl;clear hzl;by_cases UH:zl=(f:Int)
   case neg=>
    have hzb:(zl != (f:Int))=true:=(by rw [bne,beq_false_of_ne UH];rfl);have hp:Jz L (f:Int) cj=false:=(by rw [fD.out,←SY.out];exact decide_eq_false UH);have HP:=Ajw hp;clear hp
    go_upto_region 10 with fail
    refine CW (by kernel_rfl) (by kernel_rfl) ?_
    repeat (go_big_quiet_step (fail))
    refine wpQuiet_nil ?_;rintro W7 ⟨q,hq⟩;have AL:Ac wr W7:=hq▸q.h;clear hq q q1 q2 q3 q4 q5 q6 z1 z2 z3 z4;go_wp2;go_roundw
    case rel=>
     refine⟨O,j+1,rfl,by go_num,hjn,Ag.trans AL,?_⟩;rw [HST.out,HP.out,if_neg Bool.false_ne_true,List.append_nil]
     rcases We.out with⟨h1,h2⟩|⟨h1,h2⟩
     ·exact .inl ⟨h1,h2⟩
     ·exact .inr ⟨h1.ext AL,h2⟩
    case measure=>simp [intOf];omega
   case pos=>
    have hzb:(zl != (f:Int))=false:=(by rw [UH];simp);have hp:Jz L (f:Int) cj=true:=(by rw [fD.out,←SY.out];exact decide_eq_true UH);obtain⟨CN,Ra⟩:=ji.out hp
    have hnil:O=Value.slice none 0 0:=by
     rcases We.out with⟨h1,-⟩|⟨-,h2⟩
     ·exact h1
     ·rw [CN]at h2;cases h2
    subst hnil;have ig:=Ajw (show (C.take (j+1)).filter (Jz L (f:Int)) = [c0] by rw [HST.out,hp,CN,if_pos rfl,Ra];rfl);have hlen:cj.length=l.length:=(by rw [Ra,←eS.out];simp [IF]);have rD:IF m.pts cj=l:=by rw [Ra];exact eS.out
    have Mp:AM (GE cj)=1:=by have h:=fh.out;rw [←Ra]at h;unfold AM;rw [if_neg (by grind),if_neg (by grind)]
    have iq:=Ajw rD;have rA:=il.out;have ar:=fun (W':World) (hx:Ac W4 W')=>iO cj (some ⟨bR,oR,none⟩) c' rA Cl hle hc1 hc2 W' (hw.ext (X4.trans hx));have sg:=Pq (GE cj);rw [Mp]at sg;generalize GE cj=qa at *;have AR:=Ajw ar;have SG:=Ajw sg;clear hp CN Ra rD Mp rA ar sg
    go_upto_region 10 with fail
    refine CW (by kernel_rfl) (by kernel_rfl) ?_
    repeat (go_big_quiet_step (fail))
    refine wpQuiet_nil ?_;rintro W7 ⟨q,hq⟩;have AL:Ac wr W7:=hq▸q.h;clear hq q q1 q2 q3 q4 q5 q6 z1 z2 z3 z4 hcell;have UE:=Ag.trans AL;obtain⟨W7,rfl⟩:=aQ UE
    go_upto_region 12 with fail
    go_upto_region 13 with fail
    go_loopw [11,43] (fun lv iv w8=>∃i:Nat,iv=.int .i64 (i:Nat)/\i<=cj.length/\w8.ownsRow W7.heap.size 3 1 lv i (zs (IF m.pts (cj.take i)))/\Ac W7 w8) (fun _ iv _=>cj.length-(intOf iv).toNat)
    case atStart=>exact⟨0,rfl,by omega,⟨rfl,.inl ⟨rfl,rfl⟩⟩,Ac.refl _⟩
    case round=>
     obtain⟨i,rfl,hi,hown,AX⟩:=hrel;obtain⟨lA,lc,rfl⟩:=KQ (by omega) hown;by_cases Jq:i<cj.length
     ·obtain⟨qu,oR',he,y1,y2,y3,y4⟩:=J4 (Z9.ext (AL.trans AX)) Jq;obtain⟨rfl,rfl⟩:bR=qu/\oR=oR':=by simpa using he
      have Zt:IF m.pts (cj.take (i+1))=IF m.pts (cj.take i) ++ [DU m.pts cj[i].a]:=by unfold IF;rw [Aj2 Jq,List.map_append];rfl
      have Me:(IF m.pts (cj.take i)).length=i:=(by unfold IF;rw [List.length_map,List.length_take];omega);obtain⟨s,hs⟩:=Ajv (cj[i]);rw [←hs]at y1 y2 y3 y4 Zt;have NS:=Ajw Zt;have VR:=Ajw Me;have Jp:(0:Int)<=(i:Int):=(by omega);have Nu:(i:Int)<(cj.length:Int):=(by omega);have Hy:=Ajy wr (.cells #[S (R s.a.x),S (R s.a.y),S (R s.b.x),S (R s.b.y)] 175);have Ow:=(Ac.refl wr).alloc (.cells #[S (R s.a.x),S (R s.a.y),S (R s.b.x),S (R s.b.y)] 175);have BS:=A9 hown Ow;have Dz:=AX.trans Ow;clear hs he Zt Me hown
      go_upto_region 15 with fail
      generalize wr.alloc (.cells #[S (R s.a.x),S (R s.a.y),S (R s.b.x),S (R s.b.y)] 175)=W9 at *;obtain⟨bs,B8⟩:=Ajv wr.heap.size;rw [←B8]at Hy ⊢;clear B8 y1 y2 y3 y4 Ow AX;have Hw:=UE.trans Dz;have FH:=(Hw.block _ (Ajx eX.out)).trans eX.out;have k0:W9.cell? ⟨bm,0,none⟩=some (.slice A m.pts.length c):=Aa FH rfl;have k1:=Aa (o:=0) Hy rfl;have k2:=Aa (o:=1) Hy rfl;have ix:=UI m.pts s.a A c W9 (fj.out.ext Hw) hcc hcm;generalize DU m.pts s.a=z at *;unfold Ak at ix;clear FH Hy;(go_wp2_with fail);(with_reducible refine ix.mono ?_);rintro e w10 ⟨rfl,hx10⟩;have Z0:=A9 BS hx10;have tR:=Dz.trans hx10;clear k0 k1 k2 ix BS
      go_wp2_with (at_builtin;go_loud (refine ou rfl _ _ rfl _ W7.heap.size (.slice lA i lc) (IF m.pts (cj.take i)) rfl (by rw [VR.out];exact A9 Z0 ((Ac.refl w10).alloc _)) (by rw [VR.out];omega) z w10.heap.size (Ajy w10 _) rfl (Aj9 tR.size ((Ac.refl w10).alloc _).size) ?_);intro v11 w11 hown11 hg11)
      rw [VR.out,←NS.out]at hown11;have DR:Ac W7 w11:=(tR.alloc _).grown hg11 (fun k hk=>(Z0.lt k hk).1);clear hg11 Z0;go_wp2;go_roundw
      case rel=>exact⟨i+1,by go_num,Jq,hown11,DR⟩
      case measure=>simp [intOf];omega
     ·have Rk:i=cj.length:=(by omega);subst Rk;have Ai4:(cj.length:Int)<=(cj.length:Int):=(by omega);rw [Aj7 (Ajz _),iq.out,hlen]at hown;rw [hlen];have WO:=AR.out wr (UE.trans AX) (Z9.ext (AL.trans AX));rw [hlen]at WO;(go_wp2_with fail);(with_reducible refine WO.mono ?_);rintro e w9 ⟨rfl,Dz⟩;(go_wp2_with fail);(with_reducible refine(SG.out w9).mono ?_);rintro e w10 ⟨rfl,hx10⟩;have hbR:=Ajy w10 (.cells #[.slice lA l.length lc] 85);have nH:=(Ac.refl w10).alloc (.cells #[.slice lA l.length lc] 85);have LP:=AX.trans (Dz.trans (hx10.trans nH));have ins:=AcE (.slice lA l.length lc) rfl w10.heap.size _ hbR;clear WO;(go_wp2_with fail);(with_reducible refine ins.mono ?_);rintro e w11 ⟨v,rfl,ho,DR⟩
      obtain⟨g,co,hv,qV⟩:∃g co,v=.slice (some ⟨g,0,none⟩) 1 co/\w11.cell? ⟨g,0,none⟩=some (.slice lA l.length lc):=by obtain⟨oA,oc,rfl,hr,-,-⟩:=Ae.of_own' (show 0<1 by omega) ho;obtain⟨g,rfl⟩:=Vj ho;have hc0:=ho.cellAt 0;exact⟨g,oc,rfl,by first|exact hc0|exact hc0 (by omega)⟩
      have sF:Lv w11 v l:=⟨g,co,lA,lc,hv,qV,A9 (Ig hown (Nat.zero_le _)) (Dz.trans (hx10.trans (nH.trans DR)))⟩;have jt:=Ajw sF;have kz:=Ajw (UE.trans (LP.trans DR));clear sF ho hv qV hown;go_wp2;go_roundw
      case rel=>exact⟨v,j+1,rfl,by go_num,hjn,kz.out,.inr ⟨jt.out,ig.out⟩⟩
      case measure=>simp [intOf];omega
  ·have Jr:j=n:=(by omega);subst Jr;have hle:(j:Int)<=(j:Int):=by omega
   have hO:Lv wr O l:=by
    rcases We.out with⟨-,h2⟩|⟨h1,-⟩
    ·exfalso
     have h3:=SH.out;rw [Aj7 (by rw [←HN.out];exact Ajz _),h3]at h2
     cases h2
    ·exact h1
   have HO:=Ajw hO;clear hO;go_wp2;go_ret2;exact⟨O,rfl,HO.out,X4.trans Ag⟩
end Go.Proofs.YtgnejnampofhoaaGreatDoor
