/- J42: KB KC. -/
import Derived.Test.YtnddllipjippnaaGreatDoorJ41
set_option maxRecDepth 100000
set_option maxHeartbeats 16000000
namespace Go.Proofs.YtnddllipjippnaaGreatDoor
open Go.RowKit Kl
def onE(pts:List Pt)(p:Pt)(e:EdZ):Bool:=FM (Ev pts e.f) (Ev pts e.t) p
theorem AhC(m:MapZ)(p:Pt)(hg:∀q∈m.pts,Db q)(hp:Db p)(e:EdZ)(r1:0<=e.f)(r2:e.f<(m.pts.length:Int))(r3:0<=e.t)(r4:e.t<(m.pts.length:Int))(A:Option Addr)(c:Nat)(v1 v2:Value)(bm bp:Nat)(w:World)(hw:Am w)
  (AW:w.heap[bm]?=some (.cells #[.slice A m.pts.length c,v1,v2] 35)) (Au:w.heap[bp]?=some (.cells #[S (R p.x),S (R p.y)] 24)) (hA:Af w A (flat (Aq m.pts))) :
  Calls Tryz.prog 112 #[I2 e,.pointer (some ⟨bm,0,none⟩),.pointer (some ⟨bp,0,none⟩)] w (BF (onE m.pts p e) w):=by
 obtain⟨ef,et,el,er⟩:=e;simp only at r1 r2 r3 r4;obtain⟨a,rfl⟩:∃a:Nat,ef=(a:Int):=⟨ef.toNat,by omega⟩;obtain⟨b,rfl⟩:∃b:Nat,et=(b:Int):=⟨et.toNat,by omega⟩;have ha:a<m.pts.length:=(by omega);have hb:b<m.pts.length:=(by omega);have hE:=(Ab.refl w).alloc (.cells #[.int .i64 (a:Nat),.int .i64 (b:Nat),.int .i64 el,.int .i64 er] 51);have D5:=Ao6 w (.cells #[.int .i64 (a:Nat),.int .i64 (b:Nat),.int .i64 el,.int .i64 er] 51);obtain⟨ba,oa,rfl,ha1,ha2⟩:=Co (hA.ext hE) ha;obtain⟨ba',oa',he,hb1,hb2⟩:=Co (hA.ext hE) hb;obtain⟨rfl,rfl⟩:ba=ba'/\oa=oa':=(by simpa using he);have L1:=hg _ (Ao8 ha);have hgb:=hg _ (Ao8 hb)
 have cd:onE m.pts p ⟨(a:Int),(b:Int),el,er⟩=FM m.pts[a] m.pts[b] p:=by unfold onE Ev;simp [ha,hb]
 rw [cd];generalize m.pts[a]=pa at *;generalize m.pts[b]=pb at *;have on:=fun W (hx:Ab w W)=>kS pa pb p (k:=200) (L1.sz (by omega)) (hgb.sz (by omega)) (hp.sz (by omega)) (by omega) (by omega) W (hw.ext hx);obtain⟨r,hr⟩:=Ao3 (FM pa pb p);rw [←hr]at on ⊢;have xR:=(hE.block _ (Ao5 AW)).trans AW;have dL:=(hE.block _ (Ao5 Au)).trans Au;unfold I2;unfold Ak at on;clear cd hr L1 hgb hg hp he hA AW Au;go_enter Tryz.func112,Tryz.ntmps112
 go_upto_region 1 with fail
 generalize w.alloc (.cells #[.int .i64 (a:Nat),.int .i64 (b:Nat),.int .i64 el,.int .i64 er] 51)=V at *;obtain⟨bq,Tm⟩:=Ao3 w.heap.size;rw [←Tm]at D5 ⊢;clear Tm;have q1:∀q:Ad V,q.w.cell? ⟨bm,0,none⟩=some (.slice (some ⟨ba,oa,none⟩) m.pts.length c):=Ad.cell (Aa xR rfl);have q2:∀q:Ad V,q.w.cell? ⟨bq,0,none⟩=some (.int .i64 (a:Nat)):=Ad.cell (Aa D5 rfl);have q3:∀q:Ad V,q.w.cell? ⟨bq,1,none⟩=some (.int .i64 (b:Nat)):=Ad.cell (Aa D5 rfl);have q4:∀q:Ad V,q.w.cell? ⟨bp,0,none⟩=some (S (R p.x)):=Ad.cell (Aa dL rfl);have q5:∀q:Ad V,q.w.cell? ⟨bp,1,none⟩=some (S (R p.y)):=Ad.cell (Aa dL rfl);have a1:∀q:Ad V,q.w.cell? ⟨ba,oa+a*2,none⟩=some (S (R pa.x)):=Ad.cell ha1;have a2:∀q:Ad V,q.w.cell? ⟨ba,oa+a*2+1,none⟩=some (S (R pa.y)):=Ad.cell ha2;have a3:∀q:Ad V,q.w.cell? ⟨ba,oa+b*2,none⟩=some (S (R pb.x)):=Ad.cell hb1;have a4:∀q:Ad V,q.w.cell? ⟨ba,oa+b*2+1,none⟩=some (S (R pb.y)):=Ad.cell hb2;have QN:=fun (q:Ad V)=>on q.w (hE.trans q.h);clear xR dL D5 ha1 ha2 hb1 hb2 on ha hb;refine Di (by kernel_rfl) (by kernel_rfl) ?_
 repeat (go_big_quiet_step (with_reducible refine ZY (QN _)))
 refine wpQuiet_nil ?_;rintro _ ⟨q,rfl⟩;have HX:=Ao4 (hE.trans q.h);clear q1 q2 q3 q4 q5 a1 a2 a3 a4 QN;go_wp2;go_ret;exact⟨rfl,HX.out⟩
theorem Ad8:∀args w,(callFunc 112 args).run Tryz.prog w=.ok (.enter 112 args) w:=enters_of Tryz.func112 (by kernel_rfl) rfl
def QJ(m:MapZ)(p:Pt)(f:Nat):Bool:=
 Hx m&&(S6 p&&(m.eds.all (fun e=>!onE m.pts p e)&&match CS p ((AH m.pts m.eds).map (·.1))with|some x=>decide (AS x.1 (AH m.pts m.eds)=(f:Int))|none=>false))
theorem XD(m:MapZ)(p:Pt)(f:Nat)(hb:QJ m p f=true)(A B F:Option Addr)(c d g:Nat)(AP:CY m c d g)(w:World)(hw:Am w)(hA:Af w A (flat (Aq m.pts)))(hB:Af w B (A9 m.eds)) :
  Calls Tryz.prog 60 #[AO A B F m c d g,Ak p] w (BG (.tuple #[.int .i64 (f:Nat),.bool true,.int .i64 0]) w):=by
 unfold QJ at hb;simp only [Bool.and_eq_true]at hb;obtain⟨b1,b2,b3,b4⟩:=hb;obtain⟨hck,hgr⟩:=La b1;have hp:=S7 b2;unfold Hx at b1;simp only [Bool.and_eq_true,List.all_eq_true,decide_eq_true_eq]at b1;obtain⟨h0,-,h2,-,-,-,-,-⟩:=b1;unfold PH at h0;simp only [Bool.and_eq_true,decide_eq_true_eq]at h0;obtain⟨-,c1,c2,c3,-⟩:=h0;have F8:=Sv c1 c2;have N3:=XQ F8 hgr c3
 obtain⟨x,As,hlk⟩:∃x,CS p ((AH m.pts m.eds).map (·.1))=some x/\AS x.1 (AH m.pts m.eds)=(f:Int):=by
  cases Ck:CS p ((AH m.pts m.eds).map (·.1))with
  | none=>rw [Ck]at b4;cases b4
  | some x=>rw [Ck]at b4;exact⟨x,rfl,of_decide_eq_true b4⟩
 have Au:∀l:List Sg,l.Perm ((AH m.pts m.eds).map (·.1))→CS p l=some x:=fun l hl=>by rw [←As];exact pX N3.x.good p hl (fun t ht=>hl.mem_iff.1 ht)
 have hno:m.eds.any (onE m.pts p)=false:=by
  rw [List.any_eq_false];intro e he;have:=List.all_eq_true.1 b3 e he
  simpa using this
 have TT:∀e∈m.eds,0<=e.f/\e.f<(m.pts.length:Int)/\0<=e.t/\e.t<(m.pts.length:Int):=by intro e he;obtain⟨j,hj,rfl⟩:=List.getElem_of_mem he;have:=Sj (PG (l:=m.eds) c2 j hj);omega
 obtain⟨hM,hP,hE⟩:(((w.alloc (.cells #[.slice A m.pts.length c,.slice B m.eds.length d,.slice F m.nf g] 35)).alloc (.cells #[S (R p.x),S (R p.y)] 24)).heap[w.heap.size]?=some (.cells #[.slice A m.pts.length c,.slice B m.eds.length d,.slice F m.nf g] 35))
   /\(((w.alloc (.cells #[.slice A m.pts.length c,.slice B m.eds.length d,.slice F m.nf g] 35)).alloc (.cells #[S (R p.x),S (R p.y)] 24)).heap[w.heap.size+1]?=some (.cells #[S (R p.x),S (R p.y)] 24))
   /\Ab w ((w.alloc (.cells #[.slice A m.pts.length c,.slice B m.eds.length d,.slice F m.nf g] 35)).alloc (.cells #[S (R p.x),S (R p.y)] 24)):=by
  have h1:=Ao6 w (.cells #[.slice A m.pts.length c,.slice B m.eds.length d,.slice F m.nf g] 35);have h2:=Ao6 (w.alloc (.cells #[.slice A m.pts.length c,.slice B m.eds.length d,.slice F m.nf g] 35)) (.cells #[S (R p.x),S (R p.y)] 24);rw [AoE]at h2;have e1:=(Ab.refl w).alloc (.cells #[.slice A m.pts.length c,.slice B m.eds.length d,.slice F m.nf g] 35);have e2:=(Ab.refl (w.alloc (.cells #[.slice A m.pts.length c,.slice B m.eds.length d,.slice F m.nf g] 35))).alloc (.cells #[S (R p.x),S (R p.y)] 24);exact⟨(e2.block _ (Ao5 h1)).trans h1,h2,e1.trans e2⟩
 have pc:=fun W (hx:Ab w W)=>Pa m hgr A B F c d g AP W (hw.ext hx) (hA.ext hx) (hB.ext hx);rw [hck]at pc;have Ii:Az 200 p:=hp.sz (by omega);have ck:=fun W (hx:Ab w W)=>GF (R p.x) (R p.y) true (by simp only [true_iff];exact⟨LX Ii.x (by omega) (by omega),LX Ii.y (by omega) (by omega)⟩) (Rj Ii.x (by omega) (by omega)) (Rj Ii.y (by omega) (by omega)) W (hw.ext hx);rw [Ek]at ck;have oc:=fun W (hx:Ab w W)=>XW m A B F c d g AP F8 (by omega) W (hA.ext hx) (hB.ext hx)
 have an:=fun W (hx:Ab w W) (bm bp:Nat) (h1:W.heap[bm]?=some (.cells #[.slice A m.pts.length c,.slice B m.eds.length d,.slice F m.nf g] 35)) (h2:W.heap[bp]?=some (.cells #[S (R p.x),S (R p.y)] 24))=>
  Ab1 (cb:=#[.pointer (some ⟨bm,0,none⟩),.pointer (some ⟨bp,0,none⟩)]) Ad8 (onE m.pts p) m.eds B d W (hB.ext hx) AP.d1 AP.d2
   (fun e he W' hx'=>AhC m p hgr hp e (TT e he).1 (TT e he).2.1 (TT e he).2.2.1 (TT e he).2.2.2 A c _ _ bm bp W' (hw.ext (hx.trans hx')) ((hx'.block _ (Ao5 h1)).trans h1) ((hx'.block _ (Ao5 h2)).trans h2) (hA.ext (hx.trans hx')))
 rw [hno]at an;have bl:=fun (W W':World) (h1:Ab w W) (hx:Ab W W') (r b1 b2:Nat) (E:List (Pt×Value×Nat)) (hn:BD W.heap.size W' r b1 b2 (AH m.pts m.eds) E (BN m.pts m.eds))=>pW hn p (k:=200) (fun e he=>N3.sz e.1 (List.mem_map_of_mem he)) (hp.sz (by omega)) (by omega) (by omega) (hw.ext (h1.trans hx));unfold AO at pc oc ⊢;unfold Ak at bl ⊢;have UU:=Ao4 Au;have HLK:=Ao4 hlk;have HF:=Ao4 (show ∃z,z=(f:Int)from⟨_,rfl⟩);clear b2 b3 b4 hck hgr hp c1 c2 c3 F8 N3 As Au hlk hno TT hA hB h2;go_enter Tryz.func60,Tryz.ntmps60
 go_upto_region 1 with fail
 generalize (w.alloc (.cells #[.slice A m.pts.length c,.slice B m.eds.length d,.slice F m.nf g] 35)).alloc (.cells #[S (R p.x),S (R p.y)] 24)=V at *;obtain⟨bm,AW⟩:=Ao3 w.heap.size;rw [←AW]at hM hP ⊢;clear AW;have k1:=Aa (o:=0) hM rfl;have k2:=Aa (o:=1) hM rfl;have k3:=Aa (o:=2) hM rfl;(go_wp2_with fail);(with_reducible refine(pc V hE).mono ?_);rintro e w1 ⟨rfl,hx1⟩;have X1:=hE.trans hx1;have Wk:=(hx1.block _ (Ao5 hP)).trans hP;have Cp:=(hx1.block _ (Ao5 hM)).trans hM;clear k1 k2 k3;have j1:=Aa (o:=0) Wk rfl;have j2:=Aa (o:=1) Wk rfl;(go_wp2_with fail);(with_reducible refine(ck w1 X1).mono ?_);rintro e w2 ⟨rfl,hx2⟩;have X2:=X1.trans hx2;have bQ:=(hx2.block _ (Ao5 Wk)).trans Wk;have F7:=(hx2.block _ (Ao5 Cp)).trans Cp;clear j1 j2;have k2:=Aa (o:=1) F7 rfl;have Xh:∀(fn:Fn) (first cap:Array Value) (w:World),(Instr.makeFunc fn first cap).run Tryz.prog w=.ok (.func fn first cap) w:=fun _ _ _ _=>rfl;have pI:=an w2 X2 bm (bm+1) F7 bQ;(go_wp2_with fail);(with_reducible refine pI.mono ?_);rintro e w3 ⟨rfl,hx3⟩;have X3:=X2.trans hx3;have vV:=(hx3.block _ (Ao5 bQ)).trans bQ;have CV:=(hx3.block _ (Ao5 F7)).trans F7;clear k2 an pI Xh;have k1:=Aa (o:=0) CV rfl;have k2:=Aa (o:=1) CV rfl;have k3:=Aa (o:=2) CV rfl;(go_wp2_with fail);(with_reducible refine(oc w3 X3).mono ?_);rintro e w4 ⟨r,b1,b2,E,rfl,Ag,Qr⟩;have bS:=(Ag.block _ (Ao5 vV)).trans vV;clear k1 k2 k3;have j1:=Aa (o:=0) bS rfl;have j2:=Aa (o:=1) bS rfl;have qA:=bl w3 w4 X3 Ag r b1 b2 E Qr;clear bl oc ck pc;(go_wp2_with fail);(with_reducible refine qA.mono ?_);rintro e w5 ⟨l,hl,rfl,Ae⟩;rw [UU.out l hl];have X5:=(X3.trans Ag).trans Ae;have hn5:=Qr.ext Ae;have lk:=@NJ x.1 (AH m.pts m.eds);rw [HLK.out]at lk;obtain⟨⟨⟨ax,ay⟩,⟨bx,Sc⟩⟩,hh⟩:=x;unfold Sa VD;unfold AC at lk;simp only at lk ⊢;have IA:=Ao6 w5 (.cells #[S (R ax),S (R ay),S (R bx),S (R Sc)] 140);have PV:=(Ab.refl w5).alloc (.cells #[S (R ax),S (R ay),S (R bx),S (R Sc)] 140);have Nu:=hn5.ext PV;have X6:=X5.trans PV;have hf0:¬((f:Int)<0):=(by omega);have Qm:decide ((f:Int)<0)=false:=decide_eq_false hf0;clear qA hl Qr bS j1 j2
 go_upto_region 10 with fail
 generalize w5.alloc (.cells #[S (R ax),S (R ay),S (R bx),S (R Sc)] 140)=W6 at *;obtain⟨bs,B7⟩:=Ao3 w5.heap.size;rw [←B7]at IA ⊢;clear B7;have q1:∀q:Ad W6,q.w.cell? ⟨r,0,none⟩=some (.map (some b1)):=Ad.cell (Aa Nu.cell rfl);have q2:∀q:Ad W6,q.w.cell? ⟨bs,0,none⟩=some (S (R ax)):=Ad.cell (Aa IA rfl);have q3:∀q:Ad W6,q.w.cell? ⟨bs,1,none⟩=some (S (R ay)):=Ad.cell (Aa IA rfl);have q4:∀q:Ad W6,q.w.cell? ⟨bs,2,none⟩=some (S (R bx)):=Ad.cell (Aa IA rfl);have q5:∀q:Ad W6,q.w.cell? ⟨bs,3,none⟩=some (S (R Sc)):=Ad.cell (Aa IA rfl);have q6:=fun (q:Ad W6)=>lk (Nu.ext q.h).left;refine Di (by kernel_rfl) (by kernel_rfl) ?_
 repeat (go_big_quiet_step (fail))
 refine wpQuiet_nil ?_;rintro W7 ⟨q,hq⟩;have Aw:Ab W6 W7:=hq▸q.h;clear hq q q1 q2 q3 q4 q5 q6;have ai:=Nu.ext Aw;have EF:=(Aw.block _ (Ao5 IA)).trans IA;have X7:=X6.trans Aw;have q1:∀q:Ad W7,q.w.cell? ⟨r,0,none⟩=some (.map (some b1)):=Ad.cell (Aa ai.cell rfl);have q2:∀q:Ad W7,q.w.cell? ⟨bs,0,none⟩=some (S (R ax)):=Ad.cell (Aa EF rfl);have q3:∀q:Ad W7,q.w.cell? ⟨bs,1,none⟩=some (S (R ay)):=Ad.cell (Aa EF rfl);have q4:∀q:Ad W7,q.w.cell? ⟨bs,2,none⟩=some (S (R bx)):=Ad.cell (Aa EF rfl);have q5:∀q:Ad W7,q.w.cell? ⟨bs,3,none⟩=some (S (R Sc)):=Ad.cell (Aa EF rfl);have q6:=fun (q:Ad W7)=>lk (ai.ext q.h).left
 go_upto_region 12 with fail
 refine Di (by kernel_rfl) (by kernel_rfl) ?_
 repeat (go_big_quiet_step (fail))
 refine wpQuiet_nil ?_;rintro W8 ⟨q,hq⟩;have AX:Ab W7 W8:=hq▸q.h;have X8:=X7.trans AX;clear hq q q1 q2 q3 q4 q5 q6;go_wp2;go_ret3;exact⟨rfl,X8⟩
theorem Al4(m:MapZ)(fa:List Bs)(Cr:m.nf=fa.length)(p:Pt)(f:Nat)(hf:f<fa.length)(hb:QJ m p f=true)(A B F:Option Addr)(c d g:Nat)(AP:CY m c d g)(w:World)(hw:Am w)(hA:Af w A (flat (Aq m.pts)))(hB:Af w B (A9 m.eds))(hF:Af w F (fa.map S)) :
  Calls Tryz.prog 30 #[AO A B F m c d g,Ak p] w (BG (.tuple #[S fa[f],.bool true,.int .i64 0]) w):=by
 have lc:=fun W (hx:Ab w W)=>XD m p f hb A B F c d g AP W (hw.ext hx) (hA.ext hx) (hB.ext hx);have h1:=Ao6 w (.cells #[.slice A m.pts.length c,.slice B m.eds.length d,.slice F m.nf g] 35);have h2:=Ao6 (w.alloc (.cells #[.slice A m.pts.length c,.slice B m.eds.length d,.slice F m.nf g] 35)) (.cells #[S (R p.x),S (R p.y)] 24);rw [AoE]at h2;have e2:=(Ab.refl (w.alloc (.cells #[.slice A m.pts.length c,.slice B m.eds.length d,.slice F m.nf g] 35))).alloc (.cells #[S (R p.x),S (R p.y)] 24);have hM:=(e2.block _ (Ao5 h1)).trans h1;have hE:=((Ab.refl w).alloc (.cells #[.slice A m.pts.length c,.slice B m.eds.length d,.slice F m.nf g] 35)).trans e2;obtain⟨s,hs⟩:=Ao3 (fa[f]);obtain⟨bf,of,rfl,WL⟩:=hF.ad (by rw [List.length_map];omega);have gG:=WL f (by rw [List.length_map];exact hf);rw [List.getElem_map,←hs]at gG;rw [←hs];have hf0:(0:Int)<=(f:Int):=(by omega);have dX:(f:Int)<(m.nf:Int):=(by omega);unfold AO at lc ⊢;unfold Ak at lc ⊢;clear hs WL hF hA hB hb AP h1 e2 Cr hf;go_enter Tryz.func30,Tryz.ntmps30
 go_upto_region 1 with fail
 generalize (w.alloc (.cells #[.slice A m.pts.length c,.slice B m.eds.length d,.slice (some ⟨bf,of,none⟩) m.nf g] 35)).alloc (.cells #[S (R p.x),S (R p.y)] 24)=V at *;obtain⟨bm,AW⟩:=Ao3 w.heap.size;rw [←AW]at hM h2 ⊢;clear AW;have k1:=Aa (o:=0) hM rfl;have k2:=Aa (o:=1) hM rfl;have k3:=Aa (o:=2) hM rfl;have j1:=Aa (o:=0) h2 rfl;have j2:=Aa (o:=1) h2 rfl;(go_wp2_with fail);(with_reducible refine(lc V hE).mono ?_);rintro e w1 ⟨rfl,hx1⟩;have X1:=hE.trans hx1;replace k3:=hx1.cellS k3;replace gG:=X1.cellS gG;clear k1 k2 j1 j2 lc hM h2;go_wp2;go_ret3;exact⟨rfl,X1⟩
theorem Tryz.infoIr:(Tryz.prog.info? 76).map (fun i=>(i.zero,i.size,i.bytes))=some (some (.slice none 0 0),1,24):=by kernel_rfl
section
variable {ops : Array Oper} {rest : List Oper} {o : Oper} {a : Act} {Q : Exit → Act → World → Prop}
theorem Ab7(hgd:o.guard=none)(s x:Operand)(ho:o.op=.call {callee:=.builtin .append,args:=#[s,x],argTypes:=#[76,76]})
  (wN:World) (base:Nat) (v:Value) (l:List Int) (hs:a.eval s=v) (hown:wN.ownsRow base 3 1 v l.length (zs l)) (hn:l.length<200000) (d:Int)
  (g:Nat) (hb:wN.heap[g]?=some (.cells #[.int .i64 d] 3)) (hx:a.eval x=.slice (some ⟨g,0,none⟩) 1 1) (hbase:base<=wN.heap.size)
  (h:∀v' w',w'.ownsRow base 3 1 v' (l.length+1) (zs (l ++ [d]))→wN.grownBy w' v.ownBlock→wpList Tryz.prog ops Q rest (a.put o.dst v') w') :
  wpList Tryz.prog ops Q (o::rest) a wN:=by
 obtain⟨i0,hi,hz0,hz1,hz2⟩:=info_parts Tryz.infoI;refine wpList_plain hgd fun K hK=>UF s x 76 ho 3 i0 _ 1 8 Tryz.underlying76 hi hz0 hz1 hz2 rfl (by omega) (by omega) wN base v l.length _ hs hown hn g _ hb rfl ?_ hx hbase ?_
 ·intro u hu;simp only [List.mem_cons,AoI,or_false]at hu;rw [hu];rfl
 ·intro v' w' h1 _ h3;refine hK _ _ (h v' w' ?_ h3);have:zs (l ++ [d])=zs l++#[Value.int .i64 d].toList:=(by simp [zs]);rw [this];exact h1
theorem Ab8(hgd:o.guard=none)(s x:Operand)(ho:o.op=.call {callee:=.builtin .append,args:=#[s,x],argTypes:=#[117,117]})
  (wN:World) (base:Nat) (hs:a.eval s=.slice none 0 0) (d:Value) (hd:d.oneCell'=true)
  (g:Nat) (hb:wN.heap[g]?=some (.cells #[d] 76)) (hx:a.eval x=.slice (some ⟨g,0,none⟩) 1 1) (hbase:base<=wN.heap.size)
  (h:∀v' w',w'.ownsRow base 76 1 v' 1 [d]→Ab wN w'→wpList Tryz.prog ops Q rest (a.put o.dst v') w') :
  wpList Tryz.prog ops Q (o::rest) a wN:=by
 obtain⟨i0,hi,hz0,hz1,hz2⟩:=info_parts Tryz.infoIr;refine wpList_plain hgd fun K hK=>UF s x 117 ho 76 i0 _ 1 24 Tryz.underlying117 hi hz0 hz1 hz2 rfl (by omega) (by omega) wN base (.slice none 0 0) 0 [] hs ⟨rfl,.inl ⟨rfl,rfl⟩⟩ (by omega) g _ hb rfl ?_ hx hbase ?_
 ·intro u hu;simp only [List.mem_cons,AoI,or_false]at hu;rw [hu];exact hd
 ·intro v' w' h1 _ h3;exact hK _ _ (h v' w' h1 ((Ab.refl wN).grown h3 (fun k hk=>by simp [Value.ownBlock]at hk)))
end
def MB(w:World)(v:Value)(l:List Int):Prop:=∃bo co bl cl,v=.slice (some ⟨bo,0,none⟩) 1 co/\w.cell? ⟨bo,0,none⟩=some (.slice bl l.length cl)/\w.ownsRow 0 3 1 (.slice bl l.length cl) l.length (zs l)
theorem MB.ext{w w':World}{v:Value}{l:List Int}(h:MB w v l)(hx:Ab w w'):MB w' v l:=by
 obtain⟨bo,co,bl,cl,h1,h2,h3⟩:=h;exact⟨bo,co,bl,cl,h1,hx.cellS h2,AL h3 hx⟩
theorem Aha(d:Value)(hd:d.oneCell'=true)(g:Nat)(w:World)(hb:w.heap[g]?=some (.cells #[d] 76)) :
  Calls Tryz.prog 121 #[.slice none 0 0,.int .i64 0,.slice (some ⟨g,0,none⟩) 1 1] w (fun e w'=>∃v,e=.returned v/\w'.ownsRow w.heap.size 76 1 v 1 [d]/\Ab w w'):=by
 go_enter Tryz.func121,Tryz.ntmps121
 go_wp2_with (at_builtin;go_loud (refine Ab8 rfl _ _ rfl w w.heap.size rfl d hd g hb rfl (Ao7 _) ?_);intro v9 w9 CE Ah)
 go_ret;exact⟨_,rfl,CE,Ah⟩
theorem Ajd(m:MapZ)(f:Nat)(hf:f<m.nf)(hck:Fx m=0)(hgr:∀p∈m.pts,Db p)(A B F:Option Addr)(c d g:Nat)(AP:CY m c d g)(w:World)(hw:Am w)(hA:Af w A (flat (Aq m.pts)))(hB:Af w B (A9 m.eds)) :
  Calls Tryz.prog 118 #[AO A B F m c d g,.int .i64 (f:Nat)] w (AI 0 w):=by
 have hM:=Ao6 w (.cells #[.slice A m.pts.length c,.slice B m.eds.length d,.slice F m.nf g] 35);have hE:=(Ab.refl w).alloc (.cells #[.slice A m.pts.length c,.slice B m.eds.length d,.slice F m.nf g] 35);have pc:=Pa m hgr A B F c d g AP _ (hw.ext hE) (hA.ext hE) (hB.ext hE);rw [hck]at pc;unfold AO at pc ⊢;have f0:¬((f:Int)<0):=(by omega);have f1:¬((m.nf:Int)<=(f:Int)):=(by omega);have f2:decide ((f:Int)<0)=false:=decide_eq_false f0;have f3:decide ((m.nf:Int)<=(f:Int))=false:=decide_eq_false f1;clear hA hB hgr AP hck;go_enter Tryz.func118,Tryz.ntmps118
 go_upto_region 1 with fail
 generalize w.alloc (.cells #[.slice A m.pts.length c,.slice B m.eds.length d,.slice F m.nf g] 35)=V at *;obtain⟨bm,AW⟩:=Ao3 w.heap.size;rw [←AW]at hM ⊢;clear AW;have k1:=Aa (o:=0) hM rfl;have k2:=Aa (o:=1) hM rfl;have k3:=Aa (o:=2) hM rfl;(go_wp2_with fail);(with_reducible refine pc.mono ?_);rintro e w1 ⟨rfl,hx1⟩;replace k3:=hx1.cellS k3;clear k1 k2 pc hM;go_wp2;go_ret;exact⟨rfl,hE.trans hx1⟩
def J5(pts:List Pt)(c:List Sg):List Int:=c.map (fun s=>Et pts s.a)
def ZP(m:MapZ):List (List Sg):=Oi ((AH m.pts m.eds).map (·.1)) (Hj m.pts m.eds)
def Kw(L:List (Sg×Int))(f:Int)(c:List Sg):Bool:=match c with
 | []=>false
 | s::_=>decide (AS s L=f)
def ZN(m:MapZ)(f:Nat)(l:List Int):Bool:=
 Hx m&&(decide (f<m.nf)&&match (ZP m).filter (Kw (AH m.pts m.eds) (f:Int))with
 | [c]=>decide (0 < Hu c) && decide (J5 m.pts c=l)
 | _=>false)
theorem Yh{w:World}{B:Nat}{e:TypeId}{s n c:Nat}{A:Option Addr}{xs:List Value}(h:w.ownsRow B e s (.slice A (n+1) c) (n+1) xs):∃g,A=some ⟨g,0,none⟩:=by
 rcases h.2 with⟨h',_⟩|⟨g,cap,cur,h',_⟩
 ·simp only [Value.slice.injEq]at h';omega
 ·simp only [Value.slice.injEq]at h';exact⟨g,h'.1⟩
theorem AdP{α:Type}{p:α→Bool}{C:List α}{c0:α}(h:C.filter p = [c0]){j:Nat}(hj:j<C.length)(hp:p C[j]=true):(C.take j).filter p = []/\C[j]=c0:=by
 have e:C=C.take j++C[j]::C.drop (j+1):=(by rw [←List.drop_eq_getElem_cons hj,List.take_append_drop]);rw [e,List.filter_append,List.filter_cons_of_pos hp]at h
 cases h1:(C.take j).filter p with
 | nil=>
  rw [h1,List.nil_append,List.cons.injEq]at h;exact⟨rfl,h.1⟩
 | cons a l=>rw [h1]at h;simp at h
theorem AdQ{α:Type}{p:α→Bool}{C:List α}{j:Nat}(hj:j<C.length):(C.take (j+1)).filter p=(C.take j).filter p++if p C[j] then [C[j]] else []:=by
 rw [AoA hj,List.filter_append]
 congr 1
 cases h:p C[j]<;>simp [h]
theorem Aja(m:MapZ)(f:Nat)(l:List Int)(hb:ZN m f l=true)(A B F:Option Addr)(c d g:Nat)(AP:CY m c d g)(w:World)(hw:Am w)(hA:Af w A (flat (Aq m.pts)))(hB:Af w B (A9 m.eds)) :
  Calls Tryz.prog 65 #[AO A B F m c d g,.int .i64 (f:Nat)] w (fun e w'=>∃v,e=.returned (.tuple #[v,.int .i64 0])/\MB w' v l/\Ab w w'):=by
 unfold ZN at hb;simp only [Bool.and_eq_true,decide_eq_true_eq]at hb;obtain⟨b1,hf,b3⟩:=hb;obtain⟨hck,hgr⟩:=La b1;unfold Hx at b1;simp only [Bool.and_eq_true,List.all_eq_true,decide_eq_true_eq]at b1;obtain⟨h0,-,h2,-,-,-,-,-⟩:=b1;unfold PH at h0;simp only [Bool.and_eq_true,decide_eq_true_eq]at h0;obtain⟨-,c1,c2,c3,-⟩:=h0;have F8:=Sv c1 c2;have N3:=XQ F8 hgr c3;obtain⟨C,hC⟩:=Ao3 (ZP m);obtain⟨L,hL⟩:=Ao3 (AH m.pts m.eds)
 obtain⟨c0,hc0,Tf,zK⟩:∃c0,C.filter (Kw L (f:Int)) = [c0]/\0<Hu c0/\J5 m.pts c0=l:=by
  rw [hC,hL]
  cases D6:(ZP m).filter (Kw (AH m.pts m.eds) (f:Int))with
  | nil=>rw [D6]at b3;cases b3
  | cons x r=>
   cases r with
   | nil=>
    rw [D6]at b3;simp only [Bool.and_eq_true,decide_eq_true_eq]at b3;exact⟨x,rfl,b3⟩
   | cons y r=>rw [D6]at b3;cases b3
 have LH:=jQ m.pts m.eds;have fk:Hj m.pts m.eds=(BN m.pts m.eds).map (fun e=>(e.1,Dh e.1 e.2)):=lC _ _;have aW:Hz ((AH m.pts m.eds).map (·.1)) ((BN m.pts m.eds).map (fun e=>(e.1,Dh e.1 e.2)))=C:=(by rw [hC,←fk,ZO];rfl);obtain⟨U,Ai,hall⟩:=sE LH.sorted;rw [aW]at Ai;have zF:=XP F8 hgr;have hrl:∀e∈BN m.pts m.eds,e.2.length<100000:=fun e he=>by have:=QL m.pts m.eds e he;omega
 have TU:∀e∈(BN m.pts m.eds).map (fun e=>(e.1,Dh e.1 e.2)),e.2.length<100000:=by intro e he;rw [List.mem_map]at he;obtain⟨x,hx,rfl⟩:=he;have:=hrl x hx;rw [show (Dh x.1 x.2).length=x.2.length from(UC x.1 x.2).length_eq];exact this
 have uX:∀i (hi:i<C.length),(∀s∈C[i],IZ s)/\0<C[i].length/\C[i].length<=100000:=
  fun i hi=>(Pm.row ⟨Ai,hall,N3.x.good,zF,by rw [List.length_map,QM];omega⟩ hi)
 have fc:=fun W (hx:Ab w W)=>Ajd m f hf hck hgr A B F c d g AP W (hw.ext hx) (hA.ext hx) (hB.ext hx);have oc:=fun W (hx:Ab w W)=>XW m A B F c d g AP F8 (by omega) W (hA.ext hx) (hB.ext hx);have so:=fun (W W':World) (h1:Ab w W) (hx:Ab W W') (r b1 b2:Nat) (E:List (Pt×Value×Nat)) (hn:BD W.heap.size W' r b1 b2 (AH m.pts m.eds) E (BN m.pts m.eds))=>sort_c (hw.ext h1) hx hn (rh N3 LH hrl);have cy:=fun (W W':World) (h1:Ab w W) (hx:Ab W W') (r b1 b2:Nat) (E:List (Pt×Value×Nat)) (hn:BD W.heap.size W' r b1 b2 (AH m.pts m.eds) E ((BN m.pts m.eds).map (fun e=>(e.1,Dh e.1 e.2))))=>sF (hw.ext h1) hx hn LH.sorted N3 (by rw [QM];omega) TU;rw [aW]at cy;rw [←hL]at oc so cy;have hM:=Ao6 w (.cells #[.slice A m.pts.length c,.slice B m.eds.length d,.slice F m.nf g] 35);have hE:=(Ab.refl w).alloc (.cells #[.slice A m.pts.length c,.slice B m.eds.length d,.slice F m.nf g] 35);have hcc:=AP.c1;have hcm:=AP.c2;unfold AO at fc oc ⊢;have UV:=Ao4 hc0;have yb:=Ao4 Tf;have nC:=Ao4 zK;have yu:=Ao4 uX;have HA:=Ao4 hA;clear hC hL hc0 Tf zK uX LH fk aW Ai hall zF hrl TU F8 N3 hck hgr b3 c1 c2 c3 h2 hA hB AP;go_enter Tryz.func65,Tryz.ntmps65
 go_upto_region 1 with fail
 generalize w.alloc (.cells #[.slice A m.pts.length c,.slice B m.eds.length d,.slice F m.nf g] 35)=V at *;obtain⟨bm,AW⟩:=Ao3 w.heap.size;rw [←AW]at hM ⊢;clear AW;have k1:=Aa (o:=0) hM rfl;have k2:=Aa (o:=1) hM rfl;have k3:=Aa (o:=2) hM rfl;(go_wp2_with fail);(with_reducible refine(fc V hE).mono ?_);rintro e w1 ⟨rfl,hx1⟩;replace k1:=hx1.cellS k1;replace k2:=hx1.cellS k2;replace k3:=hx1.cellS k3;have X1:=hE.trans hx1;(go_wp2_with fail);(with_reducible refine(oc w1 X1).mono ?_);rintro e w2 ⟨r,b1,b2,E,rfl,hx2,Cf⟩;have uj:=so w1 w2 X1 hx2 r b1 b2 E Cf;clear so oc fc Cf;(go_wp2_with fail);(with_reducible refine uj.mono ?_);rintro e w3 ⟨rfl,hx3,-,Ie⟩;have rY:=cy w1 w3 X1 hx3 r b1 b2 E Ie;clear cy uj;(go_wp2_with fail);(with_reducible refine rY.mono ?_);rintro e w4 ⟨A4,cap4,rfl,CN,Ag⟩;have Fg:=hx3.trans Ag;have Qr:=Ie.ext Ag;have Lo:=((hx1.trans Fg).block _ (Ao5 hM)).trans hM;have X4:=X1.trans Fg;obtain⟨n,hn⟩:=Ao3 C.length;have AmU:n<=cap4:=(by rw [hn];exact CN.cap1);have AmV:=CN.cap2;rw [←hn];have HN:=Ao4 hn;have JI:=Ao4 CN;have nM:=Ao4 Qr;have nJ:=Ao4 Lo;have yc:=Ao4 (HA.out.ext X4);obtain⟨W4,rfl⟩:=XK X4;clear rY CN Qr Ie Lo hM k1 k2 k3 hx3 Ag Fg hx1 hx2 hn
 go_upto_region 8 with fail
 go_loopw [8,27] (fun ov kv wr=>∃(O:Value) (j:Nat),O=ov/\kv=.int .i64 (j:Nat)/\j<=n/\Ab W4 wr/\((O=.slice none 0 0/\(C.take j).filter (Kw L (f:Int)) = [])∨(MB wr O l/\(C.take j).filter (Kw L (f:Int)) = [c0]))) (fun _ kv _=>n-(intOf kv).toNat)
 case atStart=>exact⟨_,0,rfl,rfl,by omega,Ab.refl _,.inl ⟨rfl,rfl⟩⟩
 case round=>
  obtain⟨O,j,rfl,rfl,hj,Ac,cz⟩:=hrel;have YY:=Ao4 cz;clear cz;by_cases hjn:j<n
  ·have WX:j<C.length:=(by rw [←HN.out];exact hjn);obtain⟨bA,oA,A',c',rfl,hcell,Bf,hc1,hc2⟩:=JI.out.row j WX;obtain⟨eN,Cl,hle⟩:=yu.out j WX;have hst:=AdQ (p:=Kw L (f:Int)) WX;have eZ:=fun hp=>AdP UV.out WX hp;obtain⟨cj,Ts⟩:=Ao3 (C[j]);rw [←Ts]at hcell Bf hc1 eN Cl hle hst eZ;have HST:=Ao4 hst;have Aan:=Ao4 eZ;have zt:=Ao4 eN;replace hcell:=Ac.cellS hcell;have fX:=Bf.ext Ac;have FD:=K7 fX Cl;obtain⟨s0,hs0⟩:=Ao3 (cj[0]);rw [←hs0]at FD
   have bj:Kw L (f:Int) cj=decide (AS s0 L=(f:Int)):=by
    rw [hs0]
    cases cj with
    | nil=>simp at Cl
    | cons x r=>rfl
   have nN:=Ao4 bj;obtain⟨bR,oR,rfl,z1,z2,z3,z4⟩:=FD;have hj0:(0:Int)<=(j:Int):=(by omega);have Nr:(j:Int)<(n:Int):=(by omega);have BJ:(0:Int)<(cj.length:Int):=(by omega);clear Ts hs0 bj hst eZ eN Bf;simp only [Nat.zero_mul,Nat.add_zero]at z1 z2 z3 z4;have q1:∀q:Ad wr,q.w.cell? ⟨r,0,none⟩=some (.map (some b1)):=Ad.cell (Ac.cellS (Aa nM.out.cell rfl));have q2:∀q:Ad wr,q.w.cell? ⟨bR,oR,none⟩=some (S (R s0.a.x)):=Ad.cell z1;have q3:∀q:Ad wr,q.w.cell? ⟨bR,oR+1,none⟩=some (S (R s0.a.y)):=Ad.cell z2;have q4:∀q:Ad wr,q.w.cell? ⟨bR,oR+2,none⟩=some (S (R s0.b.x)):=Ad.cell z3;have q5:∀q:Ad wr,q.w.cell? ⟨bR,oR+3,none⟩=some (S (R s0.b.y)):=Ad.cell z4;have q6:=fun (q:Ad wr)=>NJ s0 L (nM.out.ext (Ac.trans q.h)).left;obtain⟨zl,hzl⟩:=Ao3 (AS s0 L);rw [←hzl]at q6;unfold AC at q6;have Vi:=Ao4 hzl;clear hzl;by_cases Xy:zl=(f:Int)
   case neg=>
    have hzb:(zl != (f:Int))=true:=(by rw [bne,beq_false_of_ne Xy];rfl);have hp:Kw L (f:Int) cj=false:=(by rw [nN.out,←Vi.out];exact decide_eq_false Xy);have HP:=Ao4 hp;clear hp
    go_upto_region 10 with fail
    refine Di (by kernel_rfl) (by kernel_rfl) ?_
    repeat (go_big_quiet_step (fail))
    refine wpQuiet_nil ?_;rintro W7 ⟨q,hq⟩;have Aw:Ab wr W7:=hq▸q.h;clear hq q q1 q2 q3 q4 q5 q6 z1 z2 z3 z4;go_wp2;go_roundw
    case rel=>
     refine⟨O,j+1,rfl,by go_num,hjn,Ac.trans Aw,?_⟩;rw [HST.out,HP.out,if_neg Bool.false_ne_true,List.append_nil]
     rcases YY.out with⟨h1,h2⟩|⟨h1,h2⟩
     ·exact .inl ⟨h1,h2⟩
     ·exact .inr ⟨h1.ext Aw,h2⟩
    case measure=>simp [intOf];omega
   case pos=>
    have hzb:(zl != (f:Int))=false:=(by rw [Xy];simp);have hp:Kw L (f:Int) cj=true:=(by rw [nN.out,←Vi.out];exact decide_eq_true Xy);obtain⟨D6,Tr⟩:=Aan.out hp
    have hnil:O=Value.slice none 0 0:=by
     rcases YY.out with⟨h1,-⟩|⟨-,h2⟩
     ·exact h1
     ·rw [D6]at h2;cases h2
    subst hnil;have zk:=Ao4 (show (C.take (j+1)).filter (Kw L (f:Int)) = [c0] by rw [HST.out,hp,D6,if_pos rfl,Tr];rfl);have hlen:cj.length=l.length:=(by rw [Tr,←nC.out];simp [J5]);have zJ:J5 m.pts cj=l:=by rw [Tr];exact nC.out
    have Nz:AZ (Hu cj)=1:=by have h:=yb.out;rw [←Tr]at h;unfold AZ;rw [if_neg (by grind),if_neg (by grind)]
    have Aab:=Ao4 zJ;have zG:=zt.out;have ar:=fun (W':World) (hx:Ab W4 W')=>pS cj (some ⟨bR,oR,none⟩) c' zG Cl hle hc1 hc2 W' (hw.ext (X4.trans hx));have sg:=Ra (Hu cj);rw [Nz]at sg;generalize Hu cj=qa at *;have AR:=Ao4 ar;have SG:=Ao4 sg;clear hp D6 Tr zJ Nz zG ar sg
    go_upto_region 10 with fail
    refine Di (by kernel_rfl) (by kernel_rfl) ?_
    repeat (go_big_quiet_step (fail))
    refine wpQuiet_nil ?_;rintro W7 ⟨q,hq⟩;have Aw:Ab wr W7:=hq▸q.h;clear hq q q1 q2 q3 q4 q5 q6 z1 z2 z3 z4 hcell;have Xv:=Ac.trans Aw;obtain⟨W7,rfl⟩:=XK Xv
    go_upto_region 12 with fail
    go_upto_region 13 with fail
    go_loopw [11,43] (fun lv iv w8=>∃i:Nat,iv=.int .i64 (i:Nat)/\i<=cj.length/\w8.ownsRow W7.heap.size 3 1 lv i (zs (J5 m.pts (cj.take i)))/\Ab W7 w8) (fun _ iv _=>cj.length-(intOf iv).toNat)
    case atStart=>exact⟨0,rfl,by omega,⟨rfl,.inl ⟨rfl,rfl⟩⟩,Ab.refl _⟩
    case round=>
     obtain⟨i,rfl,hi,hown,AX⟩:=hrel;obtain⟨lA,lc,rfl⟩:=LY (by omega) hown;by_cases Ki:i<cj.length
     ·obtain⟨bR',oR',he,y1,y2,y3,y4⟩:=K7 (fX.ext (Aw.trans AX)) Ki;obtain⟨rfl,rfl⟩:bR=bR'/\oR=oR':=by simpa using he
      have fG:J5 m.pts (cj.take (i+1))=J5 m.pts (cj.take i) ++ [Et m.pts cj[i].a]:=by unfold J5;rw [AoA Ki,List.map_append];rfl
      have Nq:(J5 m.pts (cj.take i)).length=i:=(by unfold J5;rw [List.length_map,List.length_take];omega);obtain⟨s,hs⟩:=Ao3 (cj[i]);rw [←hs]at y1 y2 y3 y4 fG;have Hn:=Ao4 fG;have YN:=Ao4 Nq;have Kh:(0:Int)<=(i:Int):=(by omega);have OF:(i:Int)<(cj.length:Int):=(by omega);have IA:=Ao6 wr (.cells #[S (R s.a.x),S (R s.a.y),S (R s.b.x),S (R s.b.y)] 140);have PV:=(Ab.refl wr).alloc (.cells #[S (R s.a.x),S (R s.a.y),S (R s.b.x),S (R s.b.y)] 140);have CE:=AL hown PV;have Ah:=AX.trans PV;clear hs he fG Nq hown
      go_upto_region 15 with fail
      generalize wr.alloc (.cells #[S (R s.a.x),S (R s.a.y),S (R s.b.x),S (R s.b.y)] 140)=W9 at *;obtain⟨bs,B7⟩:=Ao3 wr.heap.size;rw [←B7]at IA ⊢;clear B7 y1 y2 y3 y4 PV AX;have I8:=Xv.trans Ah;have Gs:=(I8.block _ (Ao5 nJ.out)).trans nJ.out;have k0:W9.cell? ⟨bm,0,none⟩=some (.slice A m.pts.length c):=Aa Gs rfl;have k1:=Aa (o:=0) IA rfl;have k2:=Aa (o:=1) IA rfl;have ix:=Xz m.pts s.a A c W9 (yc.out.ext I8) hcc hcm;generalize Et m.pts s.a=z at *;unfold Ak at ix;clear Gs IA;(go_wp2_with fail);(with_reducible refine ix.mono ?_);rintro e w10 ⟨rfl,hx10⟩;have fP:=AL CE hx10;have iq:=Ah.trans hx10;clear k0 k1 k2 ix CE
      go_wp2_with (at_builtin;go_loud (refine Ab7 rfl _ _ rfl _ W7.heap.size (.slice lA i lc) (J5 m.pts (cj.take i)) rfl (by rw [YN.out];exact AL fP ((Ab.refl w10).alloc _)) (by rw [YN.out];omega) z w10.heap.size (Ao6 w10 _) rfl (AoH iq.size ((Ab.refl w10).alloc _).size) ?_);intro v11 w11 hown11 hg11)
      rw [YN.out,←Hn.out]at hown11;have Es:Ab W7 w11:=(iq.alloc _).grown hg11 (fun k hk=>(fP.lt k hk).1);clear hg11 fP;go_wp2;go_roundw
      case rel=>exact⟨i+1,by go_num,Ki,hown11,Es⟩
      case measure=>simp [intOf];omega
     ·have LC:i=cj.length:=(by omega);subst LC;have Anw:(cj.length:Int)<=(cj.length:Int):=(by omega);rw [AoF (Ao7 _),Aab.out,hlen]at hown;rw [hlen];have Z0:=AR.out wr (Xv.trans AX) (fX.ext (Aw.trans AX));rw [hlen]at Z0;(go_wp2_with fail);(with_reducible refine Z0.mono ?_);rintro e w9 ⟨rfl,Ah⟩;(go_wp2_with fail);(with_reducible refine(SG.out w9).mono ?_);rintro e w10 ⟨rfl,hx10⟩;have hbR:=Ao6 w10 (.cells #[.slice lA l.length lc] 76);have vD:=(Ab.refl w10).alloc (.cells #[.slice lA l.length lc] 76);have Nb:=AX.trans (Ah.trans (hx10.trans vD));have ins:=Aha (.slice lA l.length lc) rfl w10.heap.size _ hbR;clear Z0;(go_wp2_with fail);(with_reducible refine ins.mono ?_);rintro e w11 ⟨v,rfl,ho,Es⟩
      obtain⟨g,co,hv,zC⟩:∃g co,v=.slice (some ⟨g,0,none⟩) 1 co/\w11.cell? ⟨g,0,none⟩=some (.slice lA l.length lc):=by obtain⟨oA,oc,rfl,hr,-,-⟩:=Af.of_own' (show 0<1 by omega) ho;obtain⟨g,rfl⟩:=Yh ho;have hc0:=ho.cellAt 0;exact⟨g,oc,rfl,by first|exact hc0|exact hc0 (by omega)⟩
      have cm:MB w11 v l:=⟨g,co,lA,lc,hv,zC,AL (IK hown (Nat.zero_le _)) (Ah.trans (hx10.trans (vD.trans Es)))⟩;have Aax:=Ao4 cm;have HXX:=Ao4 (Xv.trans (Nb.trans Es));clear cm ho hv zC hown;go_wp2;go_roundw
      case rel=>exact⟨v,j+1,rfl,by go_num,hjn,HXX.out,.inr ⟨Aax.out,zk.out⟩⟩
      case measure=>simp [intOf];omega
  ·have Kj:j=n:=(by omega);subst Kj;have hle:(j:Int)<=(j:Int):=by omega
   have hO:MB wr O l:=by
    rcases YY.out with⟨-,h2⟩|⟨h1,-⟩
    ·exfalso
     have h3:=UV.out;rw [AoF (by rw [←HN.out];exact Ao7 _),h3]at h2
     cases h2
    ·exact h1
   have HO:=Ao4 hO;clear hO;go_wp2;go_ret2;exact⟨O,rfl,HO.out,X4.trans Ac⟩
end Go.Proofs.YtnddllipjippnaaGreatDoor
