/- I48: ShKK6. -/
import Derived.Test.YtnddllipjippnaaGreatDoorI47
set_option maxRecDepth 100000
set_option maxHeartbeats 4000000
namespace Go.Proofs.YtnddllipjippnaaGreatDoor
open Go.RowKit Kl
theorem yG:∀(l:List EdZ) (k:Nat) (h:k<l.length) (r t:Int),((Ar l).set (k*4+2) (.int .i64 r)).set (k*4+3) (.int .i64 t)=Ar (l.set k ⟨l[k].f,l[k].t,r,t⟩)
 | x::l,0,_,r,t=>rfl
 | x::l,k+1,h,r,t=>by
  have ih:=yG l k (by simpa using h) r t;have e0:∀y l,Ar (y::l)=.int .i64 y.f :: .int .i64 y.t :: .int .i64 y.l :: .int .i64 y.r::Ar l:=fun _ _=>rfl;have e1:∀o,(k+1)*4+o=k*4+o+1+1+1+1:=(by omega);rw [e0,e1 2,e1 3];simp only [List.set_cons_succ,ih,List.getElem_cons_succ]
  rfl
theorem zG:∀(l:List (Bs×Bs)) (k:Nat) (h:k<l.length) (x:Bs),(flat l).set (k*2) (S x)=flat (l.set k (x,l[k].2))
 | p::l,0,_,x=>rfl
 | p::l,k+1,h,x=>by
  have ih:=zG l k (by simpa using h) x;have e0:∀p l,flat (p::l)=S p.1::S p.2::flat l:=fun _ _=>rfl;rw [e0,show (k+1)*2=k*2+1+1 by omega];simp only [List.set_cons_succ,ih,List.getElem_cons_succ]
  rfl
theorem Amy(y:Bs):D6 ([49,47,49],y)=false:=by
 cases e:D6 ([49,47,49],y)
 ·rfl
 ·have h:=((Ot _).1 e).1
  dsimp only at h
  rw [show ([49,47,49]:Bs) = [49]++47 :: [49] from rfl,Z0 (by decide)]at h;obtain⟨a,b,-,hb,-,-,h1,-⟩:=h;have:b=1:=OI (hb.symm.trans (show ([49]:Bs)=I 1 by decide +kernel));omega
theorem AmQ(A B F:Option Addr)(n1 c n2 d n3 g:Nat)(hl:400<n1∨1200<n2∨800<n3)(w:World) :
  Calls Tryz.prog 19 #[.agg #[.slice A n1 c,.slice B n2 d,.slice F n3 g]] w (AI 4 w):=by
 have hM:=Asz w (.cells #[.slice A n1 c,.slice B n2 d,.slice F n3 g] 35);have hE:=(Ab.refl w).alloc (.cells #[.slice A n1 c,.slice B n2 d,.slice F n3 g] 35);go_enter Tryz.func19,Tryz.ntmps19
 go_upto_region 1 with fail
 have m1:=Aa (o:=0) hM rfl;have m2:=Aa (o:=1) hM rfl;have m3:=Aa (o:=2) hM rfl;by_cases n4:(400:Int)<(n1:Int)
 ·have dd:decide ((400:Int)<(n1:Int))=true:=decide_eq_true n4;clear hl;go_wp2;go_ret;exact⟨rfl,hE⟩
 have TF:decide ((400:Int)<(n1:Int))=false:=decide_eq_false n4;by_cases n5:(1200:Int)<(n2:Int)
 ·have dd:decide ((1200:Int)<(n2:Int))=true:=decide_eq_true n5;clear hl n4;go_wp2;go_ret;exact⟨rfl,hE⟩
 have Q8:decide ((1200:Int)<(n2:Int))=false:=decide_eq_false n5;have n6:(800:Int)<(n3:Int):=(by omega);have dd:decide ((800:Int)<(n3:Int))=true:=decide_eq_true n6;clear hl n4 n5;go_wp2;go_ret;exact⟨rfl,hE⟩
section
variable {P : Program} {ops : Array Oper} {rest : List Oper} {o : Oper} {a : Act} {Q : Exit → Act → World → Prop}
theorem Afn(hgd:o.guard=none)(s x:Operand)(ho:o.op=.call {callee:=.builtin .append,args:=#[s,x],argTypes:=#[33,33]})
  (wN:World) (base:Nat) (v:Value) (n:Nat) (l:List Bs) (hs:a.eval s=v) (hown:wN.ownsRow base 9 1 v n (l.map S)) (hn:n<200000) (d:Bs)
  (g:Nat) (hb:wN.heap[g]?=some (.cells #[S d] 9)) (hx:a.eval x=.slice (some ⟨g,0,none⟩) 1 1) (hbase:base<=wN.heap.size)
  (h:∀v' w',w'.ownsRow base 9 1 v' (n+1) ((l ++ [d]).map S)→(∀w0,Ab w0 wN→w0.heap.size<=base→Ab w0 w')→wN.grownBy w' v.ownBlock→wpList Tryz.prog ops Q rest (a.put o.dst v') w') :
  wpList Tryz.prog ops Q (o::rest) a wN:=
 wpList_plain hgd fun _ hK=>rD s x ho wN base v n l hs hown hn d g hb hx hbase fun v' w' h1 h2 h3=>hK _ _ (h v' w' h1 h2 h3)
end
def Qv(b7:Nat)(w0 wx:World):Prop:=
 ∃(A B F:Option Addr) (n1 c n2 d n3 g:Nat) (z:Int),wx.heap[b7]?=some (.cells #[.slice A n1 c,.slice B n2 d,.slice F n3 g] 35)/\(∀W,Ab wx W→Calls Tryz.prog 19 #[.agg #[.slice A n1 c,.slice B n2 d,.slice F n3 g]] W (AI z W))/\Ab w0 wx
structure S2(b7:Nat)(w0 wx:World)(A B F:Option Addr)(c d g:Nat)(m:MapZ)(fa:List Bs):Prop where
 blk:wx.heap[b7]?=some (.cells #[.slice A m.pts.length c,.slice B m.eds.length d,.slice F m.nf g] 35)
 own:Cx w0.heap.size wx A B F c d g m fa
 ext:Ab w0 wx
 lo:w0.heap.size<=b7
theorem qH{b7:Nat}{w0 wx:World}{A B F:Option Addr}{c d g n1 n2 n3:Nat}(m:MapZ)(e1:m.pts.length=n1)(e2:m.eds.length=n2)(e3:m.nf=n3)(hg:∀p∈m.pts,Ce p)(AW:Db m c d g)(hA:Ad wx A (flat (Ag m.pts)))(hB:Ad wx B (Ar m.eds))
  (hb:wx.heap[b7]?=some (.cells #[.slice A n1 c,.slice B n2 d,.slice F n3 g] 35)) (hw:Aj w0) (hx:Ab w0 wx):Qv b7 w0 wx:=by
 subst e1 e2 e3;exact⟨A,B,F,_,c,_,d,_,g,Fq m,hb,fun W h=>PR m hg A B F c d g AW W ((hw.ext hx).ext h) (hA.ext h) (hB.ext h),hx⟩
theorem Cx.rows{B0:Nat}{w:World}{A B F:Option Addr}{c d g:Nat}{m:MapZ}{fa:List Bs}(h:Cx B0 w A B F c d g m fa):Db m c d g/\Ad w A (flat (Ag m.pts))/\Ad w B (Ar m.eds):=⟨h.rd.1,h.rd.2.1,h.rd.2.2.1⟩
theorem AoW{b7 gE i:Nat}{w0 W4:World}{A F:Option Addr}{c d g:Nat}{m:MapZ}{fa:List Bs}(hb:S2 b7 w0 W4 A (some ⟨gE,0,none⟩) F c d g m fa)(hi:i<m.eds.length)(hg:∀p∈m.pts,Ce p)(hw:Aj w0) :
  Qv b7 w0 (((W4.setCell ⟨gE,i*4+2,none⟩ (.int .i64 m.eds[i].r)).setCell ⟨gE,i*4+3,none⟩ (.int .i64 m.eds[i].l)).drew):=by
 have ho:=hb.own.eds;have h1:=((ho.stored (i*4+2) (.int .i64 m.eds[i].r)).1.stored (i*4+3) (.int .i64 m.eds[i].l)).1;rw [yG m.eds i hi]at h1;have hlt:=ho.lt gE rfl;have Co:Ak (fun q=>q=gE) W4 ((W4.setCell ⟨gE,i*4+2,none⟩ (.int .i64 m.eds[i].r)).setCell ⟨gE,i*4+3,none⟩ (.int .i64 m.eds[i].l)):=((Ak.refl (fun q=>q=gE) W4).setCell (p:=⟨gE,i*4+2,none⟩) (.inl rfl) _).setCell (p:=⟨gE,i*4+3,none⟩) (.inl rfl) _;have hne:b7≠gE:=fun e=>Av ho hb.blk (by decide) (by rw [e];rfl)
 have jP:∃cur,W4.heap[gE]?=some (.cells cur 51):=by
  rcases ho.2 with⟨h',_⟩|⟨g',cap,cur,hv,_,hgb,_⟩
  ·cases h'
  ·cases hv;exact⟨cur,hgb⟩
 obtain⟨cur,jP⟩:=jP;have hp:=AS hb.own.pts Co (fun k hk e=>Av hb.own.pts jP (by decide) (by rw [←e];exact hk));obtain⟨c1,c2,-⟩:=hb.own.rows;obtain⟨A1,d1,q1,p1,-,-⟩:=Ad.of_own' (by omega) hp;obtain⟨A2,d2,q2,p2,-,-⟩:=Ad.of_own' (by omega) h1;simp only [Value.slice.injEq,true_and]at q1 q2;obtain⟨rfl,rfl⟩:=q1;obtain⟨rfl,rfl⟩:=q2;have X:=(Ab.refl ((W4.setCell ⟨gE,i*4+2,none⟩ (.int .i64 m.eds[i].r)).setCell ⟨gE,i*4+3,none⟩ (.int .i64 m.eds[i].l))).drew;exact qH ⟨m.pts,m.eds.set i ⟨m.eds[i].f,m.eds[i].t,m.eds[i].r,m.eds[i].l⟩,m.nf⟩ rfl (by simp) rfl hg ⟨c1.c1,c1.c2,by simpa using c1.d1,c1.d2,c1.g1,c1.g2⟩ (p1.ext X) (p2.ext X) ((Co.block b7 (Asy hb.blk) hne).trans hb.blk) hw (((hb.ext.setCell (p:=⟨gE,i*4+2,none⟩) hlt.1 _).setCell (p:=⟨gE,i*4+3,none⟩) hlt.1 _).trans X)
theorem AoU{b7 gP j:Nat}{w0 W4:World}{B F:Option Addr}{c d g:Nat}{m:MapZ}{fa:List Bs}(hb:S2 b7 w0 W4 (some ⟨gP,0,none⟩) B F c d g m fa)(hj:j<m.pts.length)(hg:∀p∈m.pts,Ce p)(hw:Aj w0) :
  Qv b7 w0 ((W4.setCell ⟨gP,j*2,none⟩ (S [49,47,49])).drew):=by
 have ho:=hb.own.pts;have hpl:(Ag m.pts).length=m.pts.length:=(by unfold Ag;rw [List.length_map]);have JW:j<(Ag m.pts).length:=(by rw [hpl];exact hj);have h1:=(ho.stored (j*2) (S [49,47,49])).1;rw [zG (Ag m.pts) j JW]at h1;have hlt:=ho.lt gP rfl;have Co:Ak (fun q=>q=gP) W4 (W4.setCell ⟨gP,j*2,none⟩ (S [49,47,49])):=(Ak.refl (fun q=>q=gP) W4).setCell (p:=⟨gP,j*2,none⟩) (.inl rfl) _;have hne:b7≠gP:=fun e=>Av ho hb.blk (by decide) (by rw [e];rfl);obtain⟨c1,-,-⟩:=hb.own.rows;obtain⟨A2,d2,q2,p2,-,-⟩:=Ad.of_own' (by omega) h1;simp only [Value.slice.injEq,true_and]at q2;obtain⟨rfl,rfl⟩:=q2;have X:=(Ab.refl (W4.setCell ⟨gP,j*2,none⟩ (S [49,47,49]))).drew;have hx:=(hb.ext.setCell (p:=⟨gP,j*2,none⟩) hlt.1 (S [49,47,49])).trans X;have hblk:=(Co.block b7 (Asy hb.blk) hne).trans hb.blk;obtain⟨T,hT⟩:=Asw ((Ag m.pts).set j ([49,47,49],(Ag m.pts)[j].2));rw [←hT]at p2;have XT:T.length=m.pts.length:=(by rw [hT,List.length_set,hpl]);have Py:(m.pts.take j).length=j:=(by rw [List.length_take];omega);by_cases UM:400<m.pts.length∨1200<m.eds.length∨800<m.nf
 ·exact⟨_,_,_,_,_,_,_,_,_,4,hblk,fun W _=>AmQ _ _ _ _ _ _ _ _ _ UM W,hx⟩
 ·refine⟨_,_,_,_,_,_,_,_,_,Tv (m.pts.take j),hblk,fun W h=>?_,hx⟩
  have hTk:T.take (m.pts.take j).length=Ag (m.pts.take j):=by rw [Py,hT];unfold Ag;rw [List.take_set_of_le (As0 j),List.map_take]
  have hq:T[(m.pts.take j).length]?=some ([49,47,49],(Ag m.pts)[j].2):=by rw [Py,hT,List.getElem?_set_self JW]
  have hs2:((Ag m.pts)[j].2).length<=17:=by have h9:(Ag m.pts)[j]?=some (Lo m.pts[j]):=(by unfold Ag;rw [List.getElem?_map,As5 hj];rfl);rw [As5 JW,As4]at h9;rw [h9];exact MO ((hg _ (As1 hj)).sz (K:=7) (by omega)).y (by omega) (by omega)
  have:=AmP (m.pts.take j) (fun p hp=>hg p (List.mem_of_mem_take hp)) T hTk (by rw [Py,XT];exact hj) _ hq (Amy _) (by show 3<=17;omega) hs2 (some ⟨gP,0,none⟩) B F c m.eds.length d m.nf g (by rw [XT];exact c1.c1) c1.c2 (by rw [XT];omega) (by omega) (by omega) W ((hw.ext hx).ext h) ((p2.ext X).ext h);rw [XT]at this;exact this
theorem oY{w:World}{B1 B2:Nat}{e1 e2:TypeId}{s1 s2 n1 n2:Nat}{v1 v2:Value}{x1 x2:List Value}(h1:w.ownsRow B1 e1 s1 v1 n1 x1)(h2:w.ownsRow B2 e2 s2 v2 n2 x2)(hne:e1≠e2):∀k,v1.ownBlock=some k→¬v2.ownBlock=some k:=by
 intro k k1 k2
 rcases h2.2 with⟨h',_⟩|⟨g,cap,cur,h',_,hgb,_⟩
 ·rw [h']at k2;cases k2
 ·rw [h']at k2;simp only [Value.ownBlock,As4]at k2;subst k2;exact Av h1 hgb hne k1
theorem AoV{b7 gE i:Nat}{w0 W4 w5:World}{A F:Option Addr}{c d g:Nat}{m:MapZ}{fa:List Bs}(hb:S2 b7 w0 W4 A (some ⟨gE,0,none⟩) F c d g m fa)(hi:i<m.eds.length)(hg:∀p∈m.pts,Ce p)(hw:Aj w0)
  (h5:w5.ownsRow w0.heap.size 51 4 (.slice (some ⟨gE,0,none⟩) (m.eds.length-1) d) (m.eds.length-1) (Ar (m.eds.take i++m.eds.drop (i+1)))) (Co:Ak (fun q=>q=gE) W4 w5) :
  w5.heap[b7]?=some (.cells #[.slice A m.pts.length c,.slice (some ⟨gE,0,none⟩) m.eds.length d,.slice F m.nf g] 35)/\Qv b7 w0 (w5.setCell ⟨b7,1,none⟩ (.slice (some ⟨gE,0,none⟩) (m.eds.length-1) d)):=by
 have ho:=hb.own.eds;have hlt:=ho.lt gE rfl;have hne:b7≠gE:=fun e=>Av ho hb.blk (by decide) (by rw [e];rfl);have hb5:=(Co.block b7 (Asy hb.blk) hne).trans hb.blk;have hp:=AS hb.own.pts Co (fun k hk e=>oY hb.own.pts ho (by decide) k hk (by rw [e];rfl));have En:Ak (fun q=>q=b7) w5 (w5.setCell ⟨b7,1,none⟩ (.slice (some ⟨gE,0,none⟩) (m.eds.length-1) d)):=(Ak.refl (fun q=>q=b7) w5).setCell (p:=⟨b7,1,none⟩) (.inl rfl) _;have Kb:=AS hp En (fun k hk e=>Av hp hb5 (by decide) (by rw [←e];exact hk));have ET:=AS h5 En (fun k hk e=>Av h5 hb5 (by decide) (by rw [←e];exact hk));obtain⟨c1,-,-⟩:=hb.own.rows;obtain⟨A1,d1,q1,p1,-,-⟩:=Ad.of_own' (by omega) Kb;obtain⟨A2,d2,q2,p2,-,-⟩:=Ad.of_own' (by omega) ET;simp only [Value.slice.injEq,true_and]at q1 q2;obtain⟨rfl,rfl⟩:=q1;obtain⟨rfl,rfl⟩:=q2;have hx:=(Co.toExt hb.ext (fun k e=>by rw [e];exact hlt.1)).setCell (p:=⟨b7,1,none⟩) hb.lo (.slice (some ⟨gE,0,none⟩) (m.eds.length-1) d);have hl:(m.eds.take i++m.eds.drop (i+1)).length=m.eds.length-1:=(by simp;omega);exact⟨hb5,qH ⟨m.pts,m.eds.take i++m.eds.drop (i+1),m.nf⟩ rfl hl rfl hg ⟨c1.c1,c1.c2,by simp only [hl];have:=c1.d1;omega,c1.d2,c1.g1,c1.g2⟩ p1 p2 (vJ _ hb5) hw hx⟩
theorem AoT{b7:Nat}{w0 W4 wN w9:World}{A B F:Option Addr}{c d g:Nat}{m:MapZ}{fa:List Bs}{v':Value}(hb:S2 b7 w0 W4 A B F c d g m fa)(hN:Ab W4 wN)(hg:∀p∈m.pts,Ce p)(hw:Aj w0)
  (h9:w9.ownsRow w0.heap.size 9 1 v' (m.nf+1) ((fa ++ [[122]]).map S)) (Df:∀w1,Ab w1 wN→w1.heap.size<=w0.heap.size→Ab w1 w9) (AP:wN.grownBy w9 (Value.slice F m.nf g).ownBlock) :
  ∃F' g',v'=.slice F' (m.nf+1) g'/\w9.heap[b7]?=some (.cells #[.slice A m.pts.length c,.slice B m.eds.length d,.slice F m.nf g] 35)/\Qv b7 w0 (w9.setCell ⟨b7,2,none⟩ v'):=by
 obtain⟨F',g',rfl,-,n1,n2⟩:=Ad.of_own' (by omega) h9;have oN:=hb.own.ext hN;have jA:=(hN.block _ (Asy hb.blk)).trans hb.blk;have Co:Ak (fun k=>(Value.slice F m.nf g).ownBlock=some k) wN w9:=(Ak.refl (fun k=>(Value.slice F m.nf g).ownBlock=some k) wN).grown AP (fun k e=>.inl e);have Dn:=(Co.block b7 (Asy jA) (Av oN.fac jA (by decide))).trans jA;have hp:=AS oN.pts Co (oY oN.pts oN.fac (by decide));have he:=AS oN.eds Co (oY oN.eds oN.fac (by decide));have En:Ak (fun q=>q=b7) w9 (w9.setCell ⟨b7,2,none⟩ (.slice F' (m.nf+1) g')):=(Ak.refl (fun q=>q=b7) w9).setCell (p:=⟨b7,2,none⟩) (.inl rfl) _;have Kb:=AS hp En (fun k hk e=>Av hp Dn (by decide) (by rw [←e];exact hk));have ET:=AS he En (fun k hk e=>Av he Dn (by decide) (by rw [←e];exact hk));obtain⟨c1,-,-⟩:=hb.own.rows;obtain⟨A1,d1,q1,p1,-,-⟩:=Ad.of_own' (by omega) Kb;obtain⟨A2,d2,q2,p2,-,-⟩:=Ad.of_own' (by omega) ET;simp only [Value.slice.injEq,true_and]at q1 q2;obtain⟨rfl,rfl⟩:=q1;obtain⟨rfl,rfl⟩:=q2;have hx:=(Df w0 (hb.ext.trans hN) (As0 _)).setCell (p:=⟨b7,2,none⟩) hb.lo (.slice F' (m.nf+1) g')
 have hblk:(w9.setCell ⟨b7,2,none⟩ (.slice F' (m.nf+1) g')).heap[b7]?=some (.cells #[.slice A m.pts.length c,.slice B m.eds.length d,.slice F' (m.nf+1) g'] 35):=by simp only [World.setCell,Array.getElem?_modify,Dn];simp
 exact⟨F',g',rfl,Dn,qH ⟨m.pts,m.eds,m.nf+1⟩ rfl rfl rfl hg ⟨c1.c1,c1.c2,c1.d1,c1.d2,n1,n2⟩ p1 p2 hblk hw hx⟩
end Go.Proofs.YtnddllipjippnaaGreatDoor
