/- I41: ShKB ShKC. -/
import Derived.Test.YtnddllipjippnaaGreatDoorI39
set_option maxRecDepth 100000
set_option maxHeartbeats 16000000
namespace Go.Proofs.YtnddllipjippnaaGreatDoor
open Go.RowKit Kl
def onE(pts:List Pt)(p:Pt)(e:EdZ):Bool:=FY (EJ pts e.f) (EJ pts e.t) p
theorem Alx(m:MapZ)(p:Pt)(hg:∀q∈m.pts,Ce q)(hp:Ce p)(e:EdZ)(r1:0<=e.f)(r2:e.f<(m.pts.length:Int))(r3:0<=e.t)(r4:e.t<(m.pts.length:Int))(A:Option Addr)(c:Nat)(v1 v2:Value)(bm bp:Nat)(w:World)(hw:Aj w)
  (AB:w.heap[bm]?=some (.cells #[.slice A m.pts.length c,v1,v2] 35)) (Ap:w.heap[bp]?=some (.cells #[S (R p.x),S (R p.y)] 24)) (hA:Ad w A (flat (Ag m.pts))) :
  Calls Tryz.prog 112 #[IZ e,.pointer (some ⟨bm,0,none⟩),.pointer (some ⟨bp,0,none⟩)] w (BP (onE m.pts p e) w):=by
 obtain⟨ef,et,el,er⟩:=e;simp only at r1 r2 r3 r4;obtain⟨a,rfl⟩:∃a:Nat,ef=(a:Int):=⟨ef.toNat,by omega⟩;obtain⟨b,rfl⟩:∃b:Nat,et=(b:Int):=⟨et.toNat,by omega⟩;have ha:a<m.pts.length:=(by omega);have hb:b<m.pts.length:=(by omega);have hE:=(Ab.refl w).alloc (.cells #[.int .i64 (a:Nat),.int .i64 (b:Nat),.int .i64 el,.int .i64 er] 51);have BH:=Asz w (.cells #[.int .i64 (a:Nat),.int .i64 (b:Nat),.int .i64 el,.int .i64 er] 51);obtain⟨ba,oa,rfl,ha1,ha2⟩:=BN (hA.ext hE) ha;obtain⟨ba',oa',he,hb1,hb2⟩:=BN (hA.ext hE) hb;obtain⟨rfl,rfl⟩:ba=ba'/\oa=oa':=(by simpa using he);have Rk:=hg _ (As1 ha);have hgb:=hg _ (As1 hb)
 have qy:onE m.pts p ⟨(a:Int),(b:Int),el,er⟩=FY m.pts[a] m.pts[b] p:=by unfold onE EJ;simp [ha,hb]
 rw [qy];generalize m.pts[a]=pa at *;generalize m.pts[b]=pb at *;have on:=fun W (hx:Ab w W)=>pI pa pb p (k:=1) (Rk.sz (by omega)) (hgb.sz (by omega)) (hp.sz (by omega)) (by omega) (by omega) W (hw.ext hx);obtain⟨r,hr⟩:=Asw (FY pa pb p);rw [←hr]at on ⊢;have jk:=(hE.block _ (Asy AB)).trans AB;have jF:=(hE.block _ (Asy Ap)).trans Ap;unfold IZ;unfold Af at on;clear qy hr Rk hgb hg hp he hA AB Ap;go_enter Tryz.func112,Tryz.ntmps112
 go_upto_region 1 with fail
 generalize w.alloc (.cells #[.int .i64 (a:Nat),.int .i64 (b:Nat),.int .i64 el,.int .i64 er] 51)=V at *;obtain⟨bq,Uy⟩:=Asw w.heap.size;rw [←Uy]at BH ⊢;clear Uy;have q1:∀q:Ac V,q.w.cell? ⟨bm,0,none⟩=some (.slice (some ⟨ba,oa,none⟩) m.pts.length c):=Ac.cell (Aa jk rfl);have q2:∀q:Ac V,q.w.cell? ⟨bq,0,none⟩=some (.int .i64 (a:Nat)):=Ac.cell (Aa BH rfl);have q3:∀q:Ac V,q.w.cell? ⟨bq,1,none⟩=some (.int .i64 (b:Nat)):=Ac.cell (Aa BH rfl);have q4:∀q:Ac V,q.w.cell? ⟨bp,0,none⟩=some (S (R p.x)):=Ac.cell (Aa jF rfl);have q5:∀q:Ac V,q.w.cell? ⟨bp,1,none⟩=some (S (R p.y)):=Ac.cell (Aa jF rfl);have a1:∀q:Ac V,q.w.cell? ⟨ba,oa+a*2,none⟩=some (S (R pa.x)):=Ac.cell ha1;have a2:∀q:Ac V,q.w.cell? ⟨ba,oa+a*2+1,none⟩=some (S (R pa.y)):=Ac.cell ha2;have a3:∀q:Ac V,q.w.cell? ⟨ba,oa+b*2,none⟩=some (S (R pb.x)):=Ac.cell hb1;have a4:∀q:Ac V,q.w.cell? ⟨ba,oa+b*2+1,none⟩=some (S (R pb.y)):=Ac.cell hb2;have RV:=fun (q:Ac V)=>on q.w (hE.trans q.h);clear jk jF BH ha1 ha2 hb1 hb2 on ha hb;refine Bh (by kernel_rfl) (by kernel_rfl) ?_
 repeat (go_big_quiet_step (with_reducible refine TL (RV _)))
 refine wpQuiet_nil ?_;rintro _ ⟨q,rfl⟩;have HX:=Asx (hE.trans q.h);clear q1 q2 q3 q4 q5 a1 a2 a3 a4 RV;go_wp2;go_ret;exact⟨rfl,HX.out⟩
theorem Ahk:∀args w,(callFunc 112 args).run Tryz.prog w=.ok (.enter 112 args) w:=enters_of Tryz.func112 (by kernel_rfl) rfl
def RQ(m:MapZ)(p:Pt)(f:Nat):Bool:=
 Iu m&&(TR p&&(m.eds.all (fun e=>!onE m.pts p e)&&match Dc p ((AD m.pts m.eds).map (·.1))with|some x=>decide (AM x.1 (AD m.pts m.eds)=(f:Int))|none=>false))
theorem Zd(m:MapZ)(p:Pt)(f:Nat)(hb:RQ m p f=true)(A B F:Option Addr)(c d g:Nat)(AW:Db m c d g)(w:World)(hw:Aj w)(hA:Ad w A (flat (Ag m.pts)))(hB:Ad w B (Ar m.eds)) :
  Calls Tryz.prog 60 #[AH A B F m c d g,Af p] w (BA (.tuple #[.int .i64 (f:Nat),.bool true,.int .i64 0]) w):=by
 unfold RQ at hb;simp only [Bool.and_eq_true]at hb;obtain⟨b1,b2,b3,b4⟩:=hb;obtain⟨hck,hgr⟩:=LI b1;have hp:=TS b2;unfold Iu at b1;simp only [Bool.and_eq_true,List.all_eq_true,decide_eq_true_eq]at b1;obtain⟨h0,-,h2,-,-,-,-,-⟩:=b1;unfold Q3 at h0;simp only [Bool.and_eq_true,decide_eq_true_eq]at h0;obtain⟨-,c1,c2,c3,-⟩:=h0;have F7:=TJ c1 c2;have PH:=Zo F7 hgr c3
 obtain⟨x,Ax,hlk⟩:∃x,Dc p ((AD m.pts m.eds).map (·.1))=some x/\AM x.1 (AD m.pts m.eds)=(f:Int):=by
  cases Mf:Dc p ((AD m.pts m.eds).map (·.1))with
  | none=>rw [Mf]at b4;cases b4
  | some x=>rw [Mf]at b4;exact⟨x,rfl,of_decide_eq_true b4⟩
 have Ap:∀l:List Sg,l.Perm ((AD m.pts m.eds).map (·.1))→Dc p l=some x:=fun l hl=>by rw [←Ax];exact vE PH.x.good p hl (fun t ht=>hl.mem_iff.1 ht)
 have hno:m.eds.any (onE m.pts p)=false:=by
  rw [List.any_eq_false];intro e he;have:=List.all_eq_true.1 b3 e he
  simpa using this
 have UX:∀e∈m.eds,0<=e.f/\e.f<(m.pts.length:Int)/\0<=e.t/\e.t<(m.pts.length:Int):=by intro e he;obtain⟨j,hj,rfl⟩:=List.getElem_of_mem he;have:=T8 (Q0 (l:=m.eds) c2 j hj);omega
 obtain⟨hM,hP,hE⟩:(((w.alloc (.cells #[.slice A m.pts.length c,.slice B m.eds.length d,.slice F m.nf g] 35)).alloc (.cells #[S (R p.x),S (R p.y)] 24)).heap[w.heap.size]?=some (.cells #[.slice A m.pts.length c,.slice B m.eds.length d,.slice F m.nf g] 35))
   /\(((w.alloc (.cells #[.slice A m.pts.length c,.slice B m.eds.length d,.slice F m.nf g] 35)).alloc (.cells #[S (R p.x),S (R p.y)] 24)).heap[w.heap.size+1]?=some (.cells #[S (R p.x),S (R p.y)] 24))
   /\Ab w ((w.alloc (.cells #[.slice A m.pts.length c,.slice B m.eds.length d,.slice F m.nf g] 35)).alloc (.cells #[S (R p.x),S (R p.y)] 24)):=by
  have h1:=Asz w (.cells #[.slice A m.pts.length c,.slice B m.eds.length d,.slice F m.nf g] 35);have h2:=Asz (w.alloc (.cells #[.slice A m.pts.length c,.slice B m.eds.length d,.slice F m.nf g] 35)) (.cells #[S (R p.x),S (R p.y)] 24);rw [As7]at h2;have e1:=(Ab.refl w).alloc (.cells #[.slice A m.pts.length c,.slice B m.eds.length d,.slice F m.nf g] 35);have e2:=(Ab.refl (w.alloc (.cells #[.slice A m.pts.length c,.slice B m.eds.length d,.slice F m.nf g] 35))).alloc (.cells #[S (R p.x),S (R p.y)] 24);exact⟨(e2.block _ (Asy h1)).trans h1,h2,e1.trans e2⟩
 have pc:=fun W (hx:Ab w W)=>PR m hgr A B F c d g AW W (hw.ext hx) (hA.ext hx) (hB.ext hx);rw [hck]at pc;have IA:Aw 1 p:=hp.sz (by omega);have ck:=fun W (hx:Ab w W)=>Ns (R p.x) (R p.y) true (by simp only [true_iff];exact⟨Kp IA.x (by omega) (by omega),Kp IA.y (by omega) (by omega)⟩) (MO IA.x (by omega) (by omega)) (MO IA.y (by omega) (by omega)) W (hw.ext hx);rw [Iv]at ck;have oc:=fun W (hx:Ab w W)=>Zv m A B F c d g AW F7 (by omega) W (hA.ext hx) (hB.ext hx)
 have an:=fun W (hx:Ab w W) (bm bp:Nat) (h1:W.heap[bm]?=some (.cells #[.slice A m.pts.length c,.slice B m.eds.length d,.slice F m.nf g] 35)) (h2:W.heap[bp]?=some (.cells #[S (R p.x),S (R p.y)] 24))=>
  Afb (cb:=#[.pointer (some ⟨bm,0,none⟩),.pointer (some ⟨bp,0,none⟩)]) Ahk (onE m.pts p) m.eds B d W (hB.ext hx) AW.d1 AW.d2
   (fun e he W' hx'=>Alx m p hgr hp e (UX e he).1 (UX e he).2.1 (UX e he).2.2.1 (UX e he).2.2.2 A c _ _ bm bp W' (hw.ext (hx.trans hx')) ((hx'.block _ (Asy h1)).trans h1) ((hx'.block _ (Asy h2)).trans h2) (hA.ext (hx.trans hx')))
 rw [hno]at an;have bl:=fun (W W':World) (h1:Ab w W) (hx:Ab W W') (r b1 b2:Nat) (E:List (Pt×Value×Nat)) (hn:B7 W.heap.size W' r b1 b2 (AD m.pts m.eds) E (BM m.pts m.eds))=>vD hn p (fun e he=>Vz F7 hgr e.1 (List.mem_map_of_mem he)) hp (hw.ext (h1.trans hx));unfold AH at pc oc ⊢;unfold Af at bl ⊢;have Wm:=Asx Ap;have HLK:=Asx hlk;have HF:=Asx (show ∃z,z=(f:Int)from⟨_,rfl⟩);clear b2 b3 b4 hck hgr hp c1 c2 c3 F7 PH Ax Ap hlk hno UX hA hB h2;go_enter Tryz.func60,Tryz.ntmps60
 go_upto_region 1 with fail
 generalize (w.alloc (.cells #[.slice A m.pts.length c,.slice B m.eds.length d,.slice F m.nf g] 35)).alloc (.cells #[S (R p.x),S (R p.y)] 24)=V at *;obtain⟨bm,AB⟩:=Asw w.heap.size;rw [←AB]at hM hP ⊢;clear AB;have k1:=Aa (o:=0) hM rfl;have k2:=Aa (o:=1) hM rfl;have k3:=Aa (o:=2) hM rfl;(go_wp2_with fail);(with_reducible refine(pc V hE).mono ?_);rintro e w1 ⟨rfl,hx1⟩;have X1:=hE.trans hx1;have Pe:=(hx1.block _ (Asy hP)).trans hP;have CE:=(hx1.block _ (Asy hM)).trans hM;clear k1 k2 k3;have j1:=Aa (o:=0) Pe rfl;have j2:=Aa (o:=1) Pe rfl;(go_wp2_with fail);(with_reducible refine(ck w1 X1).mono ?_);rintro e w2 ⟨rfl,hx2⟩;have X2:=X1.trans hx2;have QN:=(hx2.block _ (Asy Pe)).trans Pe;have EB:=(hx2.block _ (Asy CE)).trans CE;clear j1 j2;have k2:=Aa (o:=1) EB rfl;have Rt:∀(fn:Fn) (first cap:Array Value) (w:World),(Instr.makeFunc fn first cap).run Tryz.prog w=.ok (.func fn first cap) w:=fun _ _ _ _=>rfl;have uN:=an w2 X2 bm (bm+1) EB QN;(go_wp2_with fail);(with_reducible refine uN.mono ?_);rintro e w3 ⟨rfl,hx3⟩;have X3:=X2.trans hx3;have di:=(hx3.block _ (Asy QN)).trans QN;have CG:=(hx3.block _ (Asy EB)).trans EB;clear k2 an uN Rt;have k1:=Aa (o:=0) CG rfl;have k2:=Aa (o:=1) CG rfl;have k3:=Aa (o:=2) CG rfl;(go_wp2_with fail);(with_reducible refine(oc w3 X3).mono ?_);rintro e w4 ⟨r,b1,b2,E,rfl,Ao,Ru⟩;have LZ:=(Ao.block _ (Asy di)).trans di;clear k1 k2 k3;have j1:=Aa (o:=0) LZ rfl;have j2:=Aa (o:=1) LZ rfl;have vH:=bl w3 w4 X3 Ao r b1 b2 E Ru;clear bl oc ck pc;(go_wp2_with fail);(with_reducible refine vH.mono ?_);rintro e w5 ⟨l,hl,rfl,As⟩;rw [Wm.out l hl];have X5:=(X3.trans Ao).trans As;have kZ:=Ru.ext As;have lk:=@O3 x.1 (AD m.pts m.eds);rw [HLK.out]at lk;obtain⟨⟨⟨ax,ay⟩,⟨bx,T0⟩⟩,hh⟩:=x;unfold Ty Xi;unfold A8 at lk;simp only at lk ⊢;have Jf:=Asz w5 (.cells #[S (R ax),S (R ay),S (R bx),S (R T0)] 140);have QG:=(Ab.refl w5).alloc (.cells #[S (R ax),S (R ay),S (R bx),S (R T0)] 140);have NX:=kZ.ext QG;have X6:=X5.trans QG;have hf0:¬((f:Int)<0):=(by omega);have Ri:decide ((f:Int)<0)=false:=decide_eq_false hf0;clear vH hl Ru LZ j1 j2
 go_upto_region 10 with fail
 generalize w5.alloc (.cells #[S (R ax),S (R ay),S (R bx),S (R T0)] 140)=W6 at *;obtain⟨bs,Bz⟩:=Asw w5.heap.size;rw [←Bz]at Jf ⊢;clear Bz;have q1:∀q:Ac W6,q.w.cell? ⟨r,0,none⟩=some (.map (some b1)):=Ac.cell (Aa NX.cell rfl);have q2:∀q:Ac W6,q.w.cell? ⟨bs,0,none⟩=some (S (R ax)):=Ac.cell (Aa Jf rfl);have q3:∀q:Ac W6,q.w.cell? ⟨bs,1,none⟩=some (S (R ay)):=Ac.cell (Aa Jf rfl);have q4:∀q:Ac W6,q.w.cell? ⟨bs,2,none⟩=some (S (R bx)):=Ac.cell (Aa Jf rfl);have q5:∀q:Ac W6,q.w.cell? ⟨bs,3,none⟩=some (S (R T0)):=Ac.cell (Aa Jf rfl);have q6:=fun (q:Ac W6)=>lk (NX.ext q.h).left;refine Bh (by kernel_rfl) (by kernel_rfl) ?_
 repeat (go_big_quiet_step (fail))
 refine wpQuiet_nil ?_;rintro W7 ⟨q,hq⟩;have Az:Ab W6 W7:=hq▸q.h;clear hq q q1 q2 q3 q4 q5 q6;have qc:=NX.ext Az;have Dm:=(Az.block _ (Asy Jf)).trans Jf;have X7:=X6.trans Az;have q1:∀q:Ac W7,q.w.cell? ⟨r,0,none⟩=some (.map (some b1)):=Ac.cell (Aa qc.cell rfl);have q2:∀q:Ac W7,q.w.cell? ⟨bs,0,none⟩=some (S (R ax)):=Ac.cell (Aa Dm rfl);have q3:∀q:Ac W7,q.w.cell? ⟨bs,1,none⟩=some (S (R ay)):=Ac.cell (Aa Dm rfl);have q4:∀q:Ac W7,q.w.cell? ⟨bs,2,none⟩=some (S (R bx)):=Ac.cell (Aa Dm rfl);have q5:∀q:Ac W7,q.w.cell? ⟨bs,3,none⟩=some (S (R T0)):=Ac.cell (Aa Dm rfl);have q6:=fun (q:Ac W7)=>lk (qc.ext q.h).left
 go_upto_region 12 with fail
 refine Bh (by kernel_rfl) (by kernel_rfl) ?_
 repeat (go_big_quiet_step (fail))
 refine wpQuiet_nil ?_;rintro W8 ⟨q,hq⟩;have Be:Ab W7 W8:=hq▸q.h;have X8:=X7.trans Be;clear hq q q1 q2 q3 q4 q5 q6;go_wp2;go_ret3;exact⟨rfl,X8⟩
theorem Apt(m:MapZ)(fa:List Bs)(BS:m.nf=fa.length)(p:Pt)(f:Nat)(hf:f<fa.length)(hb:RQ m p f=true)(A B F:Option Addr)(c d g:Nat)(AW:Db m c d g)(w:World)(hw:Aj w)(hA:Ad w A (flat (Ag m.pts)))(hB:Ad w B (Ar m.eds))(hF:Ad w F (fa.map S)) :
  Calls Tryz.prog 30 #[AH A B F m c d g,Af p] w (BA (.tuple #[S fa[f],.bool true,.int .i64 0]) w):=by
 have lc:=fun W (hx:Ab w W)=>Zd m p f hb A B F c d g AW W (hw.ext hx) (hA.ext hx) (hB.ext hx);have h1:=Asz w (.cells #[.slice A m.pts.length c,.slice B m.eds.length d,.slice F m.nf g] 35);have h2:=Asz (w.alloc (.cells #[.slice A m.pts.length c,.slice B m.eds.length d,.slice F m.nf g] 35)) (.cells #[S (R p.x),S (R p.y)] 24);rw [As7]at h2;have e2:=(Ab.refl (w.alloc (.cells #[.slice A m.pts.length c,.slice B m.eds.length d,.slice F m.nf g] 35))).alloc (.cells #[S (R p.x),S (R p.y)] 24);have hM:=(e2.block _ (Asy h1)).trans h1;have hE:=((Ab.refl w).alloc (.cells #[.slice A m.pts.length c,.slice B m.eds.length d,.slice F m.nf g] 35)).trans e2;obtain⟨s,hs⟩:=Asw (fa[f]);obtain⟨bf,of,rfl,Yo⟩:=hF.ad (by rw [List.length_map];omega);have mA:=Yo f (by rw [List.length_map];exact hf);rw [List.getElem_map,←hs]at mA;rw [←hs];have hf0:(0:Int)<=(f:Int):=(by omega);have I6:(f:Int)<(m.nf:Int):=(by omega);unfold AH at lc ⊢;unfold Af at lc ⊢;clear hs Yo hF hA hB hb AW h1 e2 BS hf;go_enter Tryz.func30,Tryz.ntmps30
 go_upto_region 1 with fail
 generalize (w.alloc (.cells #[.slice A m.pts.length c,.slice B m.eds.length d,.slice (some ⟨bf,of,none⟩) m.nf g] 35)).alloc (.cells #[S (R p.x),S (R p.y)] 24)=V at *;obtain⟨bm,AB⟩:=Asw w.heap.size;rw [←AB]at hM h2 ⊢;clear AB;have k1:=Aa (o:=0) hM rfl;have k2:=Aa (o:=1) hM rfl;have k3:=Aa (o:=2) hM rfl;have j1:=Aa (o:=0) h2 rfl;have j2:=Aa (o:=1) h2 rfl;(go_wp2_with fail);(with_reducible refine(lc V hE).mono ?_);rintro e w1 ⟨rfl,hx1⟩;have X1:=hE.trans hx1;replace k3:=hx1.cellS k3;replace mA:=X1.cellS mA;clear k1 k2 j1 j2 lc hM h2;go_wp2;go_ret3;exact⟨rfl,X1⟩
theorem Tryz.infoIr:(Tryz.prog.info? 76).map (fun i=>(i.zero,i.size,i.bytes))=some (some (.slice none 0 0),1,24):=by kernel_rfl
section
variable {ops : Array Oper} {rest : List Oper} {o : Oper} {a : Act} {Q : Exit → Act → World → Prop}
theorem Afh(hgd:o.guard=none)(s x:Operand)(ho:o.op=.call {callee:=.builtin .append,args:=#[s,x],argTypes:=#[76,76]})
  (wN:World) (base:Nat) (v:Value) (l:List Int) (hs:a.eval s=v) (hown:wN.ownsRow base 3 1 v l.length (zs l)) (hn:l.length<200000) (d:Int)
  (g:Nat) (hb:wN.heap[g]?=some (.cells #[.int .i64 d] 3)) (hx:a.eval x=.slice (some ⟨g,0,none⟩) 1 1) (hbase:base<=wN.heap.size)
  (h:∀v' w',w'.ownsRow base 3 1 v' (l.length+1) (zs (l ++ [d]))→wN.grownBy w' v.ownBlock→wpList Tryz.prog ops Q rest (a.put o.dst v') w') :
  wpList Tryz.prog ops Q (o::rest) a wN:=by
 obtain⟨i0,hi,hz0,hz1,hz2⟩:=info_parts Tryz.infoI;refine wpList_plain hgd fun K hK=>VY s x 76 ho 3 i0 _ 1 8 Tryz.underlying76 hi hz0 hz1 hz2 rfl (by omega) (by omega) wN base v l.length _ hs hown hn g _ hb rfl ?_ hx hbase ?_
 ·intro u hu;simp only [List.mem_cons,AsB,or_false]at hu;rw [hu];rfl
 ·intro v' w' h1 _ h3;refine hK _ _ (h v' w' ?_ h3);have:zs (l ++ [d])=zs l++#[Value.int .i64 d].toList:=(by simp [zs]);rw [this];exact h1
theorem Afi(hgd:o.guard=none)(s x:Operand)(ho:o.op=.call {callee:=.builtin .append,args:=#[s,x],argTypes:=#[117,117]})
  (wN:World) (base:Nat) (hs:a.eval s=.slice none 0 0) (d:Value) (hd:d.oneCell'=true)
  (g:Nat) (hb:wN.heap[g]?=some (.cells #[d] 76)) (hx:a.eval x=.slice (some ⟨g,0,none⟩) 1 1) (hbase:base<=wN.heap.size)
  (h:∀v' w',w'.ownsRow base 76 1 v' 1 [d]→Ab wN w'→wpList Tryz.prog ops Q rest (a.put o.dst v') w') :
  wpList Tryz.prog ops Q (o::rest) a wN:=by
 obtain⟨i0,hi,hz0,hz1,hz2⟩:=info_parts Tryz.infoIr;refine wpList_plain hgd fun K hK=>VY s x 117 ho 76 i0 _ 1 24 Tryz.underlying117 hi hz0 hz1 hz2 rfl (by omega) (by omega) wN base (.slice none 0 0) 0 [] hs ⟨rfl,.inl ⟨rfl,rfl⟩⟩ (by omega) g _ hb rfl ?_ hx hbase ?_
 ·intro u hu;simp only [List.mem_cons,AsB,or_false]at hu;rw [hu];exact hd
 ·intro v' w' h1 _ h3;exact hK _ _ (h v' w' h1 ((Ab.refl wN).grown h3 (fun k hk=>by simp [Value.ownBlock]at hk)))
end
def Nj(w:World)(v:Value)(l:List Int):Prop:=∃bo co bl cl,v=.slice (some ⟨bo,0,none⟩) 1 co/\w.cell? ⟨bo,0,none⟩=some (.slice bl l.length cl)/\w.ownsRow 0 3 1 (.slice bl l.length cl) l.length (zs l)
theorem Nj.ext{w w':World}{v:Value}{l:List Int}(h:Nj w v l)(hx:Ab w w'):Nj w' v l:=by
 obtain⟨bo,co,bl,cl,h1,h2,h3⟩:=h;exact⟨bo,co,bl,cl,h1,hx.cellS h2,An h3 hx⟩
theorem AkF(d:Value)(hd:d.oneCell'=true)(g:Nat)(w:World)(hb:w.heap[g]?=some (.cells #[d] 76)) :
  Calls Tryz.prog 121 #[.slice none 0 0,.int .i64 0,.slice (some ⟨g,0,none⟩) 1 1] w (fun e w'=>∃v,e=.returned v/\w'.ownsRow w.heap.size 76 1 v 1 [d]/\Ab w w'):=by
 go_enter Tryz.func121,Tryz.ntmps121
 go_wp2_with (at_builtin;go_loud (refine Afi rfl _ _ rfl w w.heap.size rfl d hd g hb rfl (As0 _) ?_);intro v9 w9 Bo Df)
 go_ret;exact⟨_,rfl,Bo,Df⟩
theorem AmW(m:MapZ)(f:Nat)(hf:f<m.nf)(hck:Fq m=0)(hgr:∀p∈m.pts,Ce p)(A B F:Option Addr)(c d g:Nat)(AW:Db m c d g)(w:World)(hw:Aj w)(hA:Ad w A (flat (Ag m.pts)))(hB:Ad w B (Ar m.eds)) :
  Calls Tryz.prog 118 #[AH A B F m c d g,.int .i64 (f:Nat)] w (AI 0 w):=by
 have hM:=Asz w (.cells #[.slice A m.pts.length c,.slice B m.eds.length d,.slice F m.nf g] 35);have hE:=(Ab.refl w).alloc (.cells #[.slice A m.pts.length c,.slice B m.eds.length d,.slice F m.nf g] 35);have pc:=PR m hgr A B F c d g AW _ (hw.ext hE) (hA.ext hE) (hB.ext hE);rw [hck]at pc;unfold AH at pc ⊢;have f0:¬((f:Int)<0):=(by omega);have f1:¬((m.nf:Int)<=(f:Int)):=(by omega);have f2:decide ((f:Int)<0)=false:=decide_eq_false f0;have f3:decide ((m.nf:Int)<=(f:Int))=false:=decide_eq_false f1;clear hA hB hgr AW hck;go_enter Tryz.func118,Tryz.ntmps118
 go_upto_region 1 with fail
 generalize w.alloc (.cells #[.slice A m.pts.length c,.slice B m.eds.length d,.slice F m.nf g] 35)=V at *;obtain⟨bm,AB⟩:=Asw w.heap.size;rw [←AB]at hM ⊢;clear AB;have k1:=Aa (o:=0) hM rfl;have k2:=Aa (o:=1) hM rfl;have k3:=Aa (o:=2) hM rfl;(go_wp2_with fail);(with_reducible refine pc.mono ?_);rintro e w1 ⟨rfl,hx1⟩;replace k3:=hx1.cellS k3;clear k1 k2 pc hM;go_wp2;go_ret;exact⟨rfl,hE.trans hx1⟩
def Kf(pts:List Pt)(c:List Sg):List Int:=c.map (fun s=>CW pts s.a)
def eE(m:MapZ):List (List Sg):=OM ((AD m.pts m.eds).map (·.1)) (If m.pts m.eds)
def Ll(L:List (Sg×Int))(f:Int)(c:List Sg):Bool:=match c with
 | []=>false
 | s::_=>decide (AM s L=f)
def eC(m:MapZ)(f:Nat)(l:List Int):Bool:=
 Iu m&&(decide (f<m.nf)&&match (eE m).filter (Ll (AD m.pts m.eds) (f:Int))with
 | [c]=>decide (0 < Ir c) && decide (Kf m.pts c=l)
 | _=>false)
theorem Z7{w:World}{B:Nat}{e:TypeId}{s n c:Nat}{A:Option Addr}{xs:List Value}(h:w.ownsRow B e s (.slice A (n+1) c) (n+1) xs):∃g,A=some ⟨g,0,none⟩:=by
 rcases h.2 with⟨h',_⟩|⟨g,cap,cur,h',_⟩
 ·simp only [Value.slice.injEq]at h';omega
 ·simp only [Value.slice.injEq]at h';exact⟨g,h'.1⟩
theorem Ah6{α:Type}{p:α→Bool}{C:List α}{c0:α}(h:C.filter p = [c0]){j:Nat}(hj:j<C.length)(hp:p C[j]=true):(C.take j).filter p = []/\C[j]=c0:=by
 have e:C=C.take j++C[j]::C.drop (j+1):=(by rw [←List.drop_eq_getElem_cons hj,List.take_append_drop]);rw [e,List.filter_append,List.filter_cons_of_pos hp]at h
 cases h1:(C.take j).filter p with
 | nil=>
  rw [h1,List.nil_append,List.cons.injEq]at h;exact⟨rfl,h.1⟩
 | cons a l=>rw [h1]at h;simp at h
theorem Ah7{α:Type}{p:α→Bool}{C:List α}{j:Nat}(hj:j<C.length):(C.take (j+1)).filter p=(C.take j).filter p++if p C[j] then [C[j]] else []:=by
 rw [As3 hj,List.filter_append]
 congr 1
 cases h:p C[j]<;>simp [h]
theorem AmT(m:MapZ)(f:Nat)(l:List Int)(hb:eC m f l=true)(A B F:Option Addr)(c d g:Nat)(AW:Db m c d g)(w:World)(hw:Aj w)(hA:Ad w A (flat (Ag m.pts)))(hB:Ad w B (Ar m.eds)) :
  Calls Tryz.prog 65 #[AH A B F m c d g,.int .i64 (f:Nat)] w (fun e w'=>∃v,e=.returned (.tuple #[v,.int .i64 0])/\Nj w' v l/\Ab w w'):=by
 unfold eC at hb;simp only [Bool.and_eq_true,decide_eq_true_eq]at hb;obtain⟨b1,hf,b3⟩:=hb;obtain⟨hck,hgr⟩:=LI b1;unfold Iu at b1;simp only [Bool.and_eq_true,List.all_eq_true,decide_eq_true_eq]at b1;obtain⟨h0,-,h2,-,-,-,-,-⟩:=b1;unfold Q3 at h0;simp only [Bool.and_eq_true,decide_eq_true_eq]at h0;obtain⟨-,c1,c2,c3,-⟩:=h0;have F7:=TJ c1 c2;have PH:=Zo F7 hgr c3;obtain⟨C,hC⟩:=Asw (eE m);obtain⟨L,hL⟩:=Asw (AD m.pts m.eds)
 obtain⟨c0,hc0,Uq,nj⟩:∃c0,C.filter (Ll L (f:Int)) = [c0]/\0<Ir c0/\Kf m.pts c0=l:=by
  rw [hC,hL]
  cases C5:(eE m).filter (Ll (AD m.pts m.eds) (f:Int))with
  | nil=>rw [C5]at b3;cases b3
  | cons x r=>
   cases r with
   | nil=>
    rw [C5]at b3;simp only [Bool.and_eq_true,decide_eq_true_eq]at b3;exact⟨x,rfl,b3⟩
   | cons y r=>rw [C5]at b3;cases b3
 have Ms:=oG m.pts m.eds;have s7:If m.pts m.eds=(BM m.pts m.eds).map (fun e=>(e.1,Dt e.1 e.2)):=pQ _ _;have fK:Ix ((AD m.pts m.eds).map (·.1)) ((BM m.pts m.eds).map (fun e=>(e.1,Dt e.1 e.2)))=C:=(by rw [hC,←s7,eD];rfl);obtain⟨U,Ai,hall⟩:=xT Ms.sorted;rw [fK]at Ai;have mq:=Vz F7 hgr;have hrl:∀e∈BM m.pts m.eds,e.2.length<100000:=fun e he=>by have:=RS m.pts m.eds e he;omega
 have UY:∀e∈(BM m.pts m.eds).map (fun e=>(e.1,Dt e.1 e.2)),e.2.length<100000:=by intro e he;rw [List.mem_map]at he;obtain⟨x,hx,rfl⟩:=he;have:=hrl x hx;rw [show (Dt x.1 x.2).length=x.2.length from(VT x.1 x.2).length_eq];exact this
 have zZ:∀i (hi:i<C.length),(∀s∈C[i],G5 s)/\0<C[i].length/\C[i].length<=100000:=
  fun i hi=>(Qh.row ⟨Ai,hall,PH.x.good,mq,by rw [List.length_map,RU];omega⟩ hi)
 have fc:=fun W (hx:Ab w W)=>AmW m f hf hck hgr A B F c d g AW W (hw.ext hx) (hA.ext hx) (hB.ext hx);have oc:=fun W (hx:Ab w W)=>Zv m A B F c d g AW F7 (by omega) W (hA.ext hx) (hB.ext hx);have so:=fun (W W':World) (h1:Ab w W) (hx:Ab W W') (r b1 b2:Nat) (E:List (Pt×Value×Nat)) (hn:B7 W.heap.size W' r b1 b2 (AD m.pts m.eds) E (BM m.pts m.eds))=>sort_c (hw.ext h1) hx hn (Ab4 PH Ms hrl);have cy:=fun (W W':World) (h1:Ab w W) (hx:Ab W W') (r b1 b2:Nat) (E:List (Pt×Value×Nat)) (hn:B7 W.heap.size W' r b1 b2 (AD m.pts m.eds) E ((BM m.pts m.eds).map (fun e=>(e.1,Dt e.1 e.2))))=>xU (hw.ext h1) hx hn Ms.sorted PH (by rw [RU];omega) UY;rw [fK]at cy;rw [←hL]at oc so cy;have hM:=Asz w (.cells #[.slice A m.pts.length c,.slice B m.eds.length d,.slice F m.nf g] 35);have hE:=(Ab.refl w).alloc (.cells #[.slice A m.pts.length c,.slice B m.eds.length d,.slice F m.nf g] 35);have hcc:=AW.c1;have hcm:=AW.c2;unfold AH at fc oc ⊢;have Wo:=Asx hc0;have aD:=Asx Uq;have rY:=Asx nj;have HCR:=Asx zZ;have HA:=Asx hA;clear hC hL hc0 Uq nj zZ Ms s7 fK Ai hall mq hrl UY F7 PH hck hgr b3 c1 c2 c3 h2 hA hB AW;go_enter Tryz.func65,Tryz.ntmps65
 go_upto_region 1 with fail
 generalize w.alloc (.cells #[.slice A m.pts.length c,.slice B m.eds.length d,.slice F m.nf g] 35)=V at *;obtain⟨bm,AB⟩:=Asw w.heap.size;rw [←AB]at hM ⊢;clear AB;have k1:=Aa (o:=0) hM rfl;have k2:=Aa (o:=1) hM rfl;have k3:=Aa (o:=2) hM rfl;(go_wp2_with fail);(with_reducible refine(fc V hE).mono ?_);rintro e w1 ⟨rfl,hx1⟩;replace k1:=hx1.cellS k1;replace k2:=hx1.cellS k2;replace k3:=hx1.cellS k3;have X1:=hE.trans hx1;(go_wp2_with fail);(with_reducible refine(oc w1 X1).mono ?_);rintro e w2 ⟨r,b1,b2,E,rfl,hx2,Ci⟩;have so2:=so w1 w2 X1 hx2 r b1 b2 E Ci;clear so oc fc Ci;(go_wp2_with fail);(with_reducible refine so2.mono ?_);rintro e w3 ⟨rfl,hx3,-,I9⟩;have xQ:=cy w1 w3 X1 hx3 r b1 b2 E I9;clear cy so2;(go_wp2_with fail);(with_reducible refine xQ.mono ?_);rintro e w4 ⟨A4,cap4,rfl,Gu,Ao⟩;have FB:=hx3.trans Ao;have Ru:=I9.ext Ao;have LX:=((hx1.trans FB).block _ (Asy hM)).trans hM;have X4:=X1.trans FB;obtain⟨n,hn⟩:=Asw C.length;have AqH:n<=cap4:=(by rw [hn];exact Gu.cap1);have AqI:=Gu.cap2;rw [←hn];have HN:=Asx hn;have Ky:=Asx Gu;have sP:=Asx Ru;have sL:=Asx LX;have HAx:=Asx (HA.out.ext X4);obtain⟨W4,rfl⟩:=Li X4;clear xQ Gu Ru I9 LX hM k1 k2 k3 hx3 Ao FB hx1 hx2 hn
 go_upto_region 8 with fail
 go_loopw [8,27] (fun ov kv wr=>∃(O:Value) (j:Nat),O=ov/\kv=.int .i64 (j:Nat)/\j<=n/\Ab W4 wr/\((O=.slice none 0 0/\(C.take j).filter (Ll L (f:Int)) = [])∨(Nj wr O l/\(C.take j).filter (Ll L (f:Int)) = [c0]))) (fun _ kv _=>n-(intOf kv).toNat)
 case atStart=>exact⟨_,0,rfl,rfl,by omega,Ab.refl _,.inl ⟨rfl,rfl⟩⟩
 case round=>
  obtain⟨O,j,rfl,rfl,hj,Ae,q8⟩:=hrel;have bG:=Asx q8;clear q8;by_cases hjn:j<n
  ·have Y2:j<C.length:=(by rw [←HN.out];exact hjn);obtain⟨bA,oA,A',c',rfl,hcell,Bi,hc1,hc2⟩:=Ky.out.row j Y2;obtain⟨Rn,C7,hle⟩:=HCR.out j Y2;have hst:=Ah7 (p:=Ll L (f:Int)) Y2;have kX:=fun hp=>Ah6 Wo.out Y2 hp;obtain⟨cj,Mh⟩:=Asw (C[j]);rw [←Mh]at hcell Bi hc1 Rn C7 hle hst kX;have HST:=Asx hst;have AdF:=Asx kX;have aP:=Asx Rn;replace hcell:=Ae.cellS hcell;have lX:=Bi.ext Ae;have D4:=Lq lX C7;obtain⟨s0,hs0⟩:=Asw (cj[0]);rw [←hs0]at D4
   have qs:Ll L (f:Int) cj=decide (AM s0 L=(f:Int)):=by
    rw [hs0]
    cases cj with
    | nil=>simp at C7
    | cons x r=>rfl
   have sR:=Asx qs;obtain⟨bR,oR,rfl,z1,z2,z3,z4⟩:=D4;have hj0:(0:Int)<=(j:Int):=(by omega);have FS:(j:Int)<(n:Int):=(by omega);have Dp:(0:Int)<(cj.length:Int):=(by omega);clear Mh hs0 qs hst kX Rn Bi;simp only [Nat.zero_mul,Nat.add_zero]at z1 z2 z3 z4;have q1:∀q:Ac wr,q.w.cell? ⟨r,0,none⟩=some (.map (some b1)):=Ac.cell (Ae.cellS (Aa sP.out.cell rfl));have q2:∀q:Ac wr,q.w.cell? ⟨bR,oR,none⟩=some (S (R s0.a.x)):=Ac.cell z1;have q3:∀q:Ac wr,q.w.cell? ⟨bR,oR+1,none⟩=some (S (R s0.a.y)):=Ac.cell z2;have q4:∀q:Ac wr,q.w.cell? ⟨bR,oR+2,none⟩=some (S (R s0.b.x)):=Ac.cell z3;have q5:∀q:Ac wr,q.w.cell? ⟨bR,oR+3,none⟩=some (S (R s0.b.y)):=Ac.cell z4;have q6:=fun (q:Ac wr)=>O3 s0 L (sP.out.ext (Ae.trans q.h)).left;obtain⟨zl,hzl⟩:=Asw (AM s0 L);rw [←hzl]at q6;unfold A8 at q6;have WH:=Asx hzl;clear hzl;by_cases PL:zl=(f:Int)
   case neg=>
    have hzb:(zl != (f:Int))=true:=(by rw [bne,beq_false_of_ne PL];rfl);have hp:Ll L (f:Int) cj=false:=(by rw [sR.out,←WH.out];exact decide_eq_false PL);have HP:=Asx hp;clear hp
    go_upto_region 10 with fail
    refine Bh (by kernel_rfl) (by kernel_rfl) ?_
    repeat (go_big_quiet_step (fail))
    refine wpQuiet_nil ?_;rintro W7 ⟨q,hq⟩;have Az:Ab wr W7:=hq▸q.h;clear hq q q1 q2 q3 q4 q5 q6 z1 z2 z3 z4;go_wp2;go_roundw
    case rel=>
     refine⟨O,j+1,rfl,by go_num,hjn,Ae.trans Az,?_⟩;rw [HST.out,HP.out,if_neg Bool.false_ne_true,List.append_nil]
     rcases bG.out with⟨h1,h2⟩|⟨h1,h2⟩
     ·exact .inl ⟨h1,h2⟩
     ·exact .inr ⟨h1.ext Az,h2⟩
    case measure=>simp [intOf];omega
   case pos=>
    have hzb:(zl != (f:Int))=false:=(by rw [PL];simp);have hp:Ll L (f:Int) cj=true:=(by rw [sR.out,←WH.out];exact decide_eq_true PL);obtain⟨C5,U5⟩:=AdF.out hp
    have hnil:O=Value.slice none 0 0:=by
     rcases bG.out with⟨h1,-⟩|⟨-,h2⟩
     ·exact h1
     ·rw [C5]at h2;cases h2
    subst hnil;have aK:=Asx (show (C.take (j+1)).filter (Ll L (f:Int)) = [c0] by rw [HST.out,hp,C5,if_pos rfl,U5];rfl);have hlen:cj.length=l.length:=(by rw [U5,←rY.out];simp [Kf]);have nh:Kf m.pts cj=l:=by rw [U5];exact rY.out
    have Oh:AN (Ir cj)=1:=by have h:=aD.out;rw [←U5]at h;unfold AN;rw [if_neg (by grind),if_neg (by grind)]
    have Adz:=Asx nh;have my:=aP.out;have ar:=fun (W':World) (hx:Ab W4 W')=>uY cj (some ⟨bR,oR,none⟩) c' my C7 hle hc1 hc2 W' (hw.ext (X4.trans hx));have sg:=PU (Ir cj);rw [Oh]at sg;generalize Ir cj=qa at *;have AR:=Asx ar;have SG:=Asx sg;clear hp C5 U5 nh Oh my ar sg
    go_upto_region 10 with fail
    refine Bh (by kernel_rfl) (by kernel_rfl) ?_
    repeat (go_big_quiet_step (fail))
    refine wpQuiet_nil ?_;rintro W7 ⟨q,hq⟩;have Az:Ab wr W7:=hq▸q.h;clear hq q q1 q2 q3 q4 q5 q6 z1 z2 z3 z4 hcell;have YW:=Ae.trans Az;obtain⟨W7,rfl⟩:=Li YW
    go_upto_region 12 with fail
    go_upto_region 13 with fail
    go_loopw [11,43] (fun lv iv w8=>∃i:Nat,iv=.int .i64 (i:Nat)/\i<=cj.length/\w8.ownsRow W7.heap.size 3 1 lv i (zs (Kf m.pts (cj.take i)))/\Ab W7 w8) (fun _ iv _=>cj.length-(intOf iv).toNat)
    case atStart=>exact⟨0,rfl,by omega,⟨rfl,.inl ⟨rfl,rfl⟩⟩,Ab.refl _⟩
    case round=>
     obtain⟨i,rfl,hi,hown,Be⟩:=hrel;obtain⟨lA,lc,rfl⟩:=Fb (by omega) hown;by_cases JU:i<cj.length
     ·obtain⟨bR',oR',he,y1,y2,y3,y4⟩:=Lq (lX.ext (Az.trans Be)) JU;obtain⟨rfl,rfl⟩:bR=bR'/\oR=oR':=by simpa using he
      have lD:Kf m.pts (cj.take (i+1))=Kf m.pts (cj.take i) ++ [CW m.pts cj[i].a]:=by unfold Kf;rw [As3 JU,List.map_append];rfl
      have Lc:(Kf m.pts (cj.take i)).length=i:=(by unfold Kf;rw [List.length_map,List.length_take];omega);obtain⟨s,hs⟩:=Asw (cj[i]);rw [←hs]at y1 y2 y3 y4 lD;have L8:=Asx lD;have aR:=Asx Lc;have EW:(0:Int)<=(i:Int):=(by omega);have Ji:(i:Int)<(cj.length:Int):=(by omega);have Jf:=Asz wr (.cells #[S (R s.a.x),S (R s.a.y),S (R s.b.x),S (R s.b.y)] 140);have QG:=(Ab.refl wr).alloc (.cells #[S (R s.a.x),S (R s.a.y),S (R s.b.x),S (R s.b.y)] 140);have Bo:=An hown QG;have Df:=Be.trans QG;clear hs he lD Lc hown
      go_upto_region 15 with fail
      generalize wr.alloc (.cells #[S (R s.a.x),S (R s.a.y),S (R s.b.x),S (R s.b.y)] 140)=W9 at *;obtain⟨bs,Bz⟩:=Asw wr.heap.size;rw [←Bz]at Jf ⊢;clear Bz y1 y2 y3 y4 QG Be;have Fz:=YW.trans Df;have DG:=(Fz.block _ (Asy sL.out)).trans sL.out;have k0:W9.cell? ⟨bm,0,none⟩=some (.slice A m.pts.length c):=Aa DG rfl;have k1:=Aa (o:=0) Jf rfl;have k2:=Aa (o:=1) Jf rfl;have ix:=YX m.pts s.a A c W9 (HAx.out.ext Fz) hcc hcm;generalize CW m.pts s.a=z at *;unfold Af at ix;clear DG Jf;(go_wp2_with fail);(with_reducible refine ix.mono ?_);rintro e w10 ⟨rfl,hx10⟩;have lP:=An Bo hx10;have wh:=Df.trans hx10;clear k0 k1 k2 ix Bo
      go_wp2_with (at_builtin;go_loud (refine Afh rfl _ _ rfl _ W7.heap.size (.slice lA i lc) (Kf m.pts (cj.take i)) rfl (by rw [aR.out];exact An lP ((Ab.refl w10).alloc _)) (by rw [aR.out];omega) z w10.heap.size (Asz w10 _) rfl (AsA wh.size ((Ab.refl w10).alloc _).size) ?_);intro v11 w11 hown11 hg11)
      rw [aR.out,←L8.out]at hown11;have EF:Ab W7 w11:=(wh.alloc _).grown hg11 (fun k hk=>(lP.lt k hk).1);clear hg11 lP;go_wp2;go_roundw
      case rel=>exact⟨i+1,by go_num,JU,hown11,EF⟩
      case measure=>simp [intOf];omega
     ·have Mp:i=cj.length:=(by omega);subst Mp;have Arm:(cj.length:Int)<=(cj.length:Int):=(by omega);rw [As8 (As0 _),Adz.out,hlen]at hown;rw [hlen];have dE:=AR.out wr (YW.trans Be) (lX.ext (Az.trans Be));rw [hlen]at dE;(go_wp2_with fail);(with_reducible refine dE.mono ?_);rintro e w9 ⟨rfl,Df⟩;(go_wp2_with fail);(with_reducible refine(SG.out w9).mono ?_);rintro e w10 ⟨rfl,hx10⟩;have DX:=Asz w10 (.cells #[.slice lA l.length lc] 76);have ah:=(Ab.refl w10).alloc (.cells #[.slice lA l.length lc] 76);have Je:=Be.trans (Df.trans (hx10.trans ah));have ins:=AkF (.slice lA l.length lc) rfl w10.heap.size _ DX;clear dE;(go_wp2_with fail);(with_reducible refine ins.mono ?_);rintro e w11 ⟨v,rfl,ho,EF⟩
      obtain⟨g,co,hv,UC⟩:∃g co,v=.slice (some ⟨g,0,none⟩) 1 co/\w11.cell? ⟨g,0,none⟩=some (.slice lA l.length lc):=by obtain⟨oA,oc,rfl,hr,-,-⟩:=Ad.of_own' (show 0<1 by omega) ho;obtain⟨g,rfl⟩:=Z7 ho;have hc0:=ho.cellAt 0;exact⟨g,oc,rfl,by first|exact hc0|exact hc0 (by omega)⟩
      have qz:Nj w11 v l:=⟨g,co,lA,lc,hv,UC,An (Ef hown (Nat.zero_le _)) (Df.trans (hx10.trans (ah.trans EF)))⟩;have AdP:=Asx qz;have HXX:=Asx (YW.trans (Je.trans EF));clear qz ho hv UC hown;go_wp2;go_roundw
      case rel=>exact⟨v,j+1,rfl,by go_num,hjn,HXX.out,.inr ⟨AdP.out,aK.out⟩⟩
      case measure=>simp [intOf];omega
  ·have D2:j=n:=(by omega);subst D2;have hle:(j:Int)<=(j:Int):=by omega
   have hO:Nj wr O l:=by
    rcases bG.out with⟨-,h2⟩|⟨h1,-⟩
    ·exfalso
     have h3:=Wo.out;rw [As8 (by rw [←HN.out];exact As0 _),h3]at h2
     cases h2
    ·exact h1
   have HO:=Asx hO;clear hO;go_wp2;go_ret2;exact⟨O,rfl,HO.out,X4.trans Ae⟩
end Go.Proofs.YtnddllipjippnaaGreatDoor
