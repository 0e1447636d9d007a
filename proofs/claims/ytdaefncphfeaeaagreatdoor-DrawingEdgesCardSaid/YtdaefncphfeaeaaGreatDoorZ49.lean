/- Z49: T10. -/
import Derived.Test.YtdaefncphfeaeaaGreatDoorZ45
import Derived.Test.YtdaefncphfeaeaaGreatDoorZ44
import Derived.Test.YtdaefncphfeaeaaGreatDoorZ48
set_option maxRecDepth 100000
set_option maxHeartbeats 16000000
namespace Go.Proofs.YtdaefncphfeaeaaGreatDoor
open Go.RowKit Kl
section
theorem aH:(10:Nat)^3=1000:=by decide
def VI(b:UInt8):Value:=.int .u8 (b.toNat:Int)
theorem AoI(x:Int):∃b:UInt8,x%256=(b.toNat:Int):=by
 refine⟨UInt8.ofNat (x%256).toNat,?_⟩;rw [UInt8.toNat_ofNat'];omega
theorem Tryz.infoU8:(Tryz.prog.info? 5).map (fun i=>(i.zero,i.size,i.bytes))=some (some (.int .u8 0),1,1):=by kernel_rfl
theorem AgA(x y:Value)(W:World):(Instr.field 35 (.agg #[x,y]) 0).run Tryz.prog W=.ok x W:=by
 simp [Instr.field,run_underlying Tryz.underlying35,asAgg,part]
theorem AgB(x y:Value)(W:World):(Instr.field 35 (.agg #[x,y]) 1).run Tryz.prog W=.ok y W:=by
 simp [Instr.field,run_underlying Tryz.underlying35,asAgg,part]
attribute [local go_sem] AgA AgB
section
variable {ops : Array Oper} {rest : List Oper} {o : Oper} {a : Act} {K : Act → World → Prop} {Q : Exit → Act → World → Prop}
theorem dE(hgd:o.guard=none)(s x:Operand)(ho:o.op=.call {callee:=.builtin .append,args:=#[s,x],argTypes:=#[85,85]})
  (wN:World) (base:Nat) (v:Value) (n:Nat) (l:List UInt8) (d:UInt8) (hs:a.eval s=v) (hown:wN.ownsRow base 5 1 v n (l.map VI)) (hn:n<200000)
  (g:Nat) (hb:wN.heap[g]?=some (.cells #[VI d] 5)) (hx:a.eval x=.slice (some ⟨g,0,none⟩) 1 1) (hbase:base<=wN.heap.size)
  (h:∀v' w',w'.ownsRow base 5 1 v' (n+1) ((l ++ [d]).map VI)→(∀w0,Aa w0 wN→w0.heap.size<=base→Aa w0 w')→wN.grownBy w' v.ownBlock→wpList Tryz.prog ops Q rest (a.put o.dst v') w') :
  wpList Tryz.prog ops Q (o::rest) a wN:=by
 refine wpList_plain hgd fun _ hK=>?_;obtain⟨i0,hi,hz0,hz1,hz2⟩:=info_parts Tryz.infoU8;refine Sj s x 85 ho 5 i0 _ 1 1 1 Tryz.underlying85 hi hz0 hz1 hz2 rfl (by omega) (by omega) (by omega) wN base v n _ hs hown hn g _ hb rfl ?_ hx hbase ?_
 ·intro u hu;simp only [List.mem_cons,Asr,or_false]at hu;rw [hu];rfl
 ·intro v' w' h1 h2 h3;refine hK _ _ (h v' w' ?_ h2 h3);rw [List.map_append];exact h1
theorem sQ(hgd:o.guard=none)(s x:Operand)(ho:o.op=.call {callee:=.builtin .append,args:=#[s,x],argTypes:=#[41,41]})
  (wN:World) (base:Nat) (v:Value) (n:Nat) (l:List Bs) (hs:a.eval s=v) (hown:wN.ownsRow base 9 1 v n (l.map S)) (hn:n<200000) (d:Bs)
  (g:Nat) (hb:wN.heap[g]?=some (.cells #[S d] 9)) (hx:a.eval x=.slice (some ⟨g,0,none⟩) 1 1) (hbase:base<=wN.heap.size)
  (h:∀v' w',w'.ownsRow base 9 1 v' (n+1) ((l ++ [d]).map S)→(∀w0,Aa w0 wN→w0.heap.size<=base→Aa w0 w')→wN.grownBy w' v.ownBlock→wpList Tryz.prog ops Q rest (a.put o.dst v') w') :
  wpList Tryz.prog ops Q (o::rest) a wN:=
 wpList_plain hgd fun _ hK=>AbX s x ho wN base v n l hs hown hn d g hb hx hbase fun v' w' h1 h2 h3=>hK _ _ (h v' w' h1 h2 h3)
end
theorem AnA(w:World){B:Nat}{A:Option Addr}{cap:Nat}{l:List UInt8}(hl:0<l.length)(h:w.ownsRow B 5 1 (.slice A l.length cap) l.length (l.map VI)) :
  (convert 85 9 (.slice A l.length cap)).run Tryz.prog w=.ok (S l) w:=by
 rcases h.2 with⟨h0,h1⟩|⟨g,cap',cur,e,-⟩
 ·omega
 ·cases e;refine run_convert_bytes_back (P:=Tryz.prog) w 85 9 5 ⟨g,0,none⟩ cap l Tryz.underlying85 Tryz.underlying5 Tryz.underlying9 (fun j hj=>?_);have:=h.cellAt j (by omega);rw [List.getElem?_map,Asl hj,Option.map_some]at this;rw [Addr.add_lit,Nat.zero_add];exact this
def cI(m:B7)(w:World)(e:Ending)(w':World):Prop:=
 ∃v,e=.returned (.tuple #[v,.int .i64 (Ds m)])/\(Ds m≠0→v=.slice none 0 0)/\(∃A n k,v=.slice A n k)/\Aa w w'
theorem Agl{m:B7}(h:∀e∈m.eds,(0<=e.f/\e.f<(m.pts.length:Int))/\(0<=e.t/\e.t<(m.pts.length:Int))/\(-1<=e.l/\e.l<(m.nf:Int))/\(-1<=e.r/\e.r<(m.nf:Int))):qA m:=
 ⟨fun e he=>(h e he).1.1,fun e he=>(h e he).1.2,fun e he=>(h e he).2.1.1,fun e he=>(h e he).2.1.2,fun e he=>(h e he).2.2.1,fun e he=>(h e he).2.2.2⟩
theorem Amb(c:Cv)(hc:S1 c)(hW:c.W<=60)(hH:c.H<=60)(m:B7)(Bf:∀p∈m.pts,BL p)(A B F:Option Addr)(ca cb cf:Nat)(BF:IW m ca cb cf)(Al:List Bs)(Pk:m.nf=Al.length)(QJ:Al.length<=26)(w:World)(hw:Ai w)
  (hA:Am w A (flat (AI m.pts))) (hB:Am w B (Ce m.eds)) (hF:Am w F (Al.map S)) :
  Calls Tryz.prog 8 #[BQ c,Dh A B F m ca cb cf] w (cI m w):=by
 have HC:=Asb hc;have Iw:=Asb Bf;have PW:=Asb BF;have bO:=Asb Pk;clear Pk;obtain⟨c1,c2,d1,d2,g1,g2⟩:=BF
 obtain⟨V,hV,EV,Cw,hM⟩:∃V,V=(w.alloc (.cells #[S (R c.low.x),S (R c.low.y),S (R c.high.x),S (R c.high.y),.int .i64 (c.W:Nat),.int .i64 (c.H:Nat)] 37)).alloc (.cells #[.slice A m.pts.length ca,.slice B m.eds.length cb,.slice F m.nf cf] 43)/\Aa w V/\V.heap[w.heap.size]?=some (.cells #[S (R c.low.x),S (R c.low.y),S (R c.high.x),S (R c.high.y),.int .i64 (c.W:Nat),.int .i64 (c.H:Nat)] 37)/\V.heap[w.heap.size+1]?=some (.cells #[.slice A m.pts.length ca,.slice B m.eds.length cb,.slice F m.nf cf] 43):=by
  refine⟨_,rfl,((Aa.refl _).alloc _).alloc _,(Below.heap_alloc _ _ _ (by simp)).trans (Ase w _),?_⟩;have h:=Ase (w.alloc (.cells #[S (R c.low.x),S (R c.low.y),S (R c.high.x),S (R c.high.y),.int .i64 (c.W:Nat),.int .i64 (c.H:Nat)] 37)) (.cells #[.slice A m.pts.length ca,.slice B m.eds.length cb,.slice F m.nf cf] 43)
  rwa [Asn]at h
 have hA:=hA.ext EV;have hB:=hB.ext EV;have hF:=hF.ext EV;have dc:=WZ c hc.ok V (hw.ext EV);have pc:=fun (w':World) (h:Aa V w')=>nN m (fun p hp=>(Bf p hp).on) A B F ca cb cf PW.out w' (hw.ext (EV.trans h)) (hA.ext h) (hB.ext h);have Pq:=@WS m;obtain⟨ck,hck⟩:=AcG (Ds m);have NK:cI m w=fun e w'=>∃v,e=.returned (.tuple #[v,.int .i64 ck])/\(ck≠0→v=.slice none 0 0)/\(∃A n k,v=.slice A n k)/\Aa w w':=(by rw [hck];rfl);rw [NK];rw [←hck]at Pq;simp only [←hck]at pc;have HR:=Asb Pq;have fc:=fun (h0:ck=0) (p:Pt) (hp:Aq 40 p) (w':World) (h:Aa V w')=>Ag5 m (fun p hp=>(Bf p hp).on) (Agl (HR.out h0)) A B F ca cb cf PW.out p hp w' (hw.ext (EV.trans h)) (hA.ext h) (hB.ext h);have qI:=Asb fc;unfold Dh BQ at *;clear Bf hc NK hck Pq fc;go_enter Tryz.func8,Tryz.ntmps8
 go_upto_region 1 with fail
 rw [←hV];obtain⟨bm,Cj⟩:=AcG w.heap.size;have AhQ:w.heap.size<=bm:=(by omega);rw [←Cj]at hM Cw ⊢;clear hV Cj;have z0:=Ab (o:=0) Cw rfl;have z1:=Ab (o:=1) Cw rfl;have z2:=Ab (o:=2) Cw rfl;have z3:=Ab (o:=3) Cw rfl;have z4:=Ab (o:=4) Cw rfl;have z5:=Ab (o:=5) Cw rfl;(go_wp2_with fail);(with_reducible refine dc.mono ?_);rintro e w1 ⟨rfl,hx1⟩;have y0:w1.cell? ⟨bm+1,0,none⟩=_:=hx1.cellS (Ab (o:=0) hM rfl);have y1:w1.cell? ⟨bm+1,1,none⟩=_:=hx1.cellS (Ab (o:=1) hM rfl);have y2:w1.cell? ⟨bm+1,2,none⟩=_:=hx1.cellS (Ab (o:=2) hM rfl);clear z0 z1 z2 z3 z4 z5 dc;have pk:=pc w1 hx1;(go_wp2_with fail);(with_reducible refine pk.mono ?_);rintro e w2 ⟨rfl,hx2⟩;have Cs:=hx1.trans hx2;have m2:w2.cell? ⟨bm+1,2,none⟩=_:=hx2.cellS y2;clear y0 y1 y2 pk pc;by_cases h0:ck=0
 ·have fc:=qI.out h0;have HFA:=Asb fc;subst h0;clear fc HR qI;have cl:=uN Al F cf w2 (hF.ext Cs) (by omega);rw [←bO.out]at cl;(go_wp2_with fail);(with_reducible refine cl.mono ?_);rintro e w3 ⟨v3,rfl,Dl,hx3⟩;have dl:=AfD w2.heap.size Al v3 w3 Dl (by omega);obtain⟨A3,c3,rfl⟩:=IL (by omega) Dl;clear m2 cl;(go_wp2_with fail);(with_reducible refine dl.mono ?_);rintro e w4 ⟨⟨l4,A4,c4,rfl,hl4,Dw⟩,hk4⟩;have Af:=hk4 w2 hx3 (Asf _);have so:=Aod w2.heap.size l4 _ w4 Dw (by omega);clear dl Dl hx3 hk4;(go_wp2_with fail);(with_reducible refine so.mono ?_);rintro e w5 ⟨rfl,⟨l5,jZ,DF⟩,hk5⟩;have Ae:=hk5 w2 Af (Asf _);have cm:=Afx w2.heap.size l5 (.slice A4 l4.length c4) w5 (by rw [jZ];exact DF) (by omega);clear so Dw Af hk5 DF;(go_wp2_with fail);(with_reducible refine cm.mono ?_);rintro e U ⟨⟨l6,A6,c6,rfl,jk,QR⟩,Ui⟩;have Ao:=Ui w2 Ae (Asf _);have Gn:=Cs.trans Ao;clear cm Ae Ui Ao Cs hx2 hx1;obtain⟨A6',c6',fh,hr6,Aqh,Aqi⟩:=Am.of_own' (by omega) QR;simp only [Value.slice.injEq,true_and]at fh;obtain⟨rfl,rfl⟩:=fh;have Ei:=(Gn.block _ (Asd Cw)).trans Cw;have Nj:=(Gn.block _ (Asd hM)).trans hM;have z4:U.cell? ⟨bm,4,none⟩=some (.int .i64 (c.W:Nat)):=Ab Ei rfl;have z5:U.cell? ⟨bm,5,none⟩=some (.int .i64 (c.H:Nat)):=Ab Ei rfl;have hW6:(c.W:Int)<=60:=(by omega);have hH6:(c.H:Int)<=60:=(by omega);have Aq8:(l6.length:Int)<=26:=(by omega);have hW1:=HC.out.ok.ok.w1;have hH1:=HC.out.ok.ok.h1;have hHn:(0:Int)<=(c.H:Int):=(by omega);have hWn:(0:Int)<=(c.W:Int):=(by omega);clear QR
  go_upto_region 14 with fail
  clear z4 z5
  go_loopw [9,53] (fun ov iv wr=>∃(r:Nat) (l:List Bs),iv=.int .i64 (r:Nat)/\r<=c.H/\wr.ownsRow U.heap.size 9 1 ov l.length (l.map S)/\l.length<=r/\Aa U wr) (fun _ iv _=>c.H-(intOf iv).toNat)
  case atStart=>exact⟨0,[],rfl,by omega,⟨rfl,.inl ⟨rfl,rfl⟩⟩,by simp,Aa.refl _⟩
  case round=>
   obtain⟨r,l,rfl,hr,hown,EX,Ac⟩:=hrel;obtain⟨oA,oc,rfl⟩:=IL (by omega) hown;by_cases hrH:r<c.H
   ·have To:=(Ac.block _ (Asd Ei)).trans Ei;have z4:wr.cell? ⟨bm,4,none⟩=some (.int .i64 (c.W:Nat)):=Ab To rfl;obtain⟨Rw,rfl⟩:=GN Ac
    go_upto_region 18 with fail
    clear z4
    go_loopw [11,58] (fun bv kv wz=>∃(k:Nat) (bs:List UInt8),kv=.int .i64 (k:Nat)/\k<=c.W/\wz.ownsRow Rw.heap.size 5 1 bv k (bs.map VI)/\bs.length=k/\Aa Rw wz) (fun _ kv _=>c.W-(intOf kv).toNat)
    case atStart=>exact⟨0,[],rfl,by omega,⟨rfl,.inl ⟨rfl,rfl⟩⟩,rfl,Aa.refl _⟩
    case round=>
     obtain⟨k,bs,rfl,hk,QS,hbl,Yh⟩:=hrel;obtain⟨bA,bc,rfl⟩:=IL (by omega) QS;have Ib:=Ac.trans Yh;have Tp:=(Ib.block _ (Asd Ei)).trans Ei;have fF:=(Ib.block _ (Asd Nj)).trans Nj;by_cases jU:k<c.W
     ·have o1:=nX (2*(k:Int)+1) (2*(c.W:Int)) (by omega) (by omega) (by omega) (by omega);have o2:=nX (2*(r:Int)+1) (2*(c.H:Int)) (by omega) (by omega) (by omega) (by omega);have jS:Sz 3 (mkRat (2*(k:Int)+1) (2*(c.W:Int)).toNat):=Sz.mkRat (by omega) (by rw [aH];omega) (by rw [aH];omega);have jT:Sz 3 (mkRat (2*(r:Int)+1) (2*(c.H:Int)).toNat):=Sz.mkRat (by omega) (by rw [aH];omega) (by rw [aH];omega);generalize mkRat (2*(k:Int)+1) (2*(c.W:Int)).toNat=q1 at *;generalize mkRat (2*(r:Int)+1) (2*(c.H:Int)).toNat=q2 at *;unfold GQ at o1 o2;have v1:IntKind.i64.wrap (2*(k:Int))=2*(k:Int):=Asm _ (by omega);have v2:IntKind.i64.wrap (2*(k:Int)+1)=2*(k:Int)+1:=Asm _ (by omega);have v3:IntKind.i64.wrap (2*(c.W:Int))=2*(c.W:Int):=Asm _ (by omega);have v4:IntKind.i64.wrap (2*(r:Int))=2*(r:Int):=Asm _ (by omega);have v5:IntKind.i64.wrap (2*(r:Int)+1)=2*(r:Int)+1:=Asm _ (by omega);have v6:IntKind.i64.wrap (2*(c.H:Int))=2*(c.H:Int):=Asm _ (by omega);have z4:=Ab (o:=4) Tp rfl;(go_wp2_with fail);(with_reducible refine(o1 _ (hw.ext (EV.trans (Gn.trans Ib)))).mono ?_);rintro e w7 ⟨rfl,Aj⟩;have z5:w7.cell? ⟨bm,5,none⟩=some (.int .i64 (c.H:Nat)):=Aj.cellS (Ab (o:=5) Tp rfl);clear z4 o1;(go_wp2_with fail);(with_reducible refine(o2 _ (hw.ext (EV.trans (Gn.trans (Ib.trans Aj))))).mono ?_);rintro e w8 ⟨rfl,AE⟩;have Rp:=Aj.trans AE;have Ye:=Ib.trans Rp;have Tn:=(Rp.block _ (Asd Tp)).trans Tp;have OP:=(Rp.block _ (Asd fF)).trans fF;have Jt:=Ap QS Rp;have gm:=Yh.trans Rp;clear z5 o2 v1 v2 v3 v4 v5 v6 Aj AE Rp Tp fF QS Ib Yh;have hs1:DK 3 ⟨c.low,c.high⟩:=⟨HC.out.ok.low,HC.out.ok.high⟩;have hs2:DK 3 ⟨c.high,c.low⟩:=⟨HC.out.ok.high,HC.out.ok.low⟩;have DL:=Qm ⟨c.low,c.high⟩ q1 hs1 jS (by omega) (by omega) (by omega);have at2:=Qm ⟨c.high,c.low⟩ q2 hs2 jT (by omega) (by omega) (by omega);have Be:Aq 40 ⟨(atR ⟨c.low,c.high⟩ q1).x,(atR ⟨c.high,c.low⟩ q2).y⟩:=⟨(VE hs1 jS).x.mono (by omega),(VE hs2 jT).y.mono (by omega)⟩;have hx0:(atR ⟨c.low,c.high⟩ q1).x=(⟨(atR ⟨c.low,c.high⟩ q1).x,(atR ⟨c.high,c.low⟩ q2).y⟩:Pt).x:=rfl;have Ba:(atR ⟨c.high,c.low⟩ q2).y=(⟨(atR ⟨c.low,c.high⟩ q1).x,(atR ⟨c.high,c.low⟩ q2).y⟩:Pt).y:=rfl;obtain⟨p0,If⟩:=AcG (⟨(atR ⟨c.low,c.high⟩ q1).x,(atR ⟨c.high,c.low⟩ q2).y⟩:Pt);rw [←If]at Be hx0 Ba;unfold Ax Ak at DL at2;rw [hx0]at DL;rw [Ba]at at2;generalize (atR ⟨c.low,c.high⟩ q1).y=ju1 at *;generalize (atR ⟨c.high,c.low⟩ q2).x=ju2 at *;clear hs1 hs2 jS jT If hx0 Ba;have z0:w8.cell? ⟨bm,0,none⟩=some (S (R c.low.x)):=Ab Tn rfl;have z1:w8.cell? ⟨bm,1,none⟩=some (S (R c.low.y)):=Ab Tn rfl;have z2:w8.cell? ⟨bm,2,none⟩=some (S (R c.high.x)):=Ab Tn rfl;have z3:w8.cell? ⟨bm,3,none⟩=some (S (R c.high.y)):=Ab Tn rfl;have X:Aa w8 w8:=Aa.refl w8;have SO:=fun (w':World) (h:Aa w8 w')=>(⟨h.cellS z0,h.cellS z1,h.cellS z2,h.cellS z3⟩:_/\_/\_/\_)
      go_upto_region 22 with fail
      go_cut [17] (fun v17 wx=>∃bp,v17=.pointer (some ⟨bp,0,none⟩)/\wx.heap[bp]?=some (.cells #[S (R p0.x),S (R p0.y)] 35)/\Aa w8 wx)
      case first=>
       go_region_held3 (fun w'=>w'.cell? ⟨bm,0,none⟩=some (S (R c.low.x))/\w'.cell? ⟨bm,1,none⟩=some (S (R c.low.y))/\w'.cell? ⟨bm,2,none⟩=some (S (R c.high.x))/\w'.cell? ⟨bm,3,none⟩=some (S (R c.high.y)))
        (first|with_reducible exact SO _ X|with_reducible exact SO _ X.drew|with_reducible exact SO _ (X.alloc _).drew|with_reducible exact SO _ (X.alloc _)|with_reducible exact SO _ ((X.setCell (p:=⟨w8.heap.size,0,none⟩) (Asf _) _).setCell (p:=⟨w8.heap.size,1,none⟩) (Asf _) _)|with_reducible exact SO _ ((X.setCell (p:=⟨w3.heap.size,0,none⟩) s3 _).setCell (p:=⟨w3.heap.size,1,none⟩) s3 _))
        (first
         | ((with_reducible refine(DL _ (hw.ext (EV.trans (Gn.trans (Ye.trans (by first | exact X | exact X.drew | exact(X.alloc _).drew | exact X.alloc _)))))).mono ?_);rintro e w3 ⟨rfl,hx1⟩;(first | (have Z3:w3.heap[w8.heap.size]?=some (.cells #[S [],S []] 35):=(hx1.block _ (by simp)).trans (Ase w8 _)) | skip);replace X:Aa w8 w3:=(by first | exact X.trans hx1 | exact X.drew.trans hx1 | exact(X.alloc _).drew.trans hx1 | exact(X.alloc _).trans hx1);have s3:=X.size)
         | ((with_reducible refine(at2 _ (hw.ext (EV.trans (Gn.trans (Ye.trans (by first | exact X | exact X.drew | exact(X.alloc _).drew | exact X.alloc _)))))).mono ?_);rintro e w4 ⟨rfl,hx1⟩;(first | (replace Z3:=(hx1.block _ (Asd Z3)).trans Z3) | (have Z3:w4.heap[w3.heap.size]?=some (.cells #[S [],S []] 35):=(hx1.block _ (by simp)).trans (Ase w3 _)) | skip);(first | (have y0:=Ab (o:=0) Z3 rfl;have y1:=Ab (o:=1) Z3 rfl;have y2:=An (o:=0) Z3;have y3:=An (o:=1) Z3) | skip);replace X:Aa w8 w4:=(by first | exact X.trans hx1 | exact X.drew.trans hx1 | exact(X.alloc _).drew.trans hx1 | exact(X.alloc _).trans hx1);have s4:=X.size))
       all_goals go_wp2
       all_goals go_meet
       all_goals first
        | exact⟨_,rfl,Ase w4 _,X.alloc _⟩
        | exact⟨_,rfl,D6 _ _ Z3,(X.setCell (Asf _) _).setCell (Asf _) _⟩
        | exact⟨_,rfl,D6 _ _ Z3,(X.setCell (by simp only [];omega) _).setCell (by simp only [];omega) _⟩
      case rest=>
       obtain⟨bp,rfl,AS,Az⟩:=hcut;obtain⟨w9,rfl⟩:=GN Az;have iW:=Ye.trans Az;have H6:=(Az.block _ (Asd OP)).trans OP;have lg:=Ap Jt Az;have gq:=gm.trans Az;clear SO X z0 z1 z2 z3 Az Ye OP Jt gm DL at2 Tn;have fa:=HFA.out p0 Be w9 (Gn.trans iW);unfold Ak at fa;have m0:=Ab (o:=0) H6 rfl;have m1:=Ab (o:=1) H6 rfl;have m2:=Ab (o:=2) H6 rfl;have p1:=Ab (o:=0) AS rfl;have p2:=Ab (o:=1) AS rfl;(go_wp2_with fail);(with_reducible refine fa.mono ?_);rintro e FZ ⟨kf,rfl,Dk,hf2,C4⟩;have fe:=iW.trans C4;have kG:=Ap lg C4;have Ua:=gq.trans C4;have m3:FZ.cell? ⟨bm+1,2,none⟩=some (.slice F m.nf cf):=C4.cellS m2;clear m0 m1 m2 p1 p2 fa AS H6 lg gq C4 iW;have Co:k<200000:=(by omega);by_cases GI:kf<0
       ·have FI:decide (0<=kf)=false:=decide_eq_false (by omega);have hbase:Rw.heap.size<=FZ.heap.size:=Ua.size;clear m3
        go_wp2_with (at_builtin;go_loud (refine dE rfl _ _ rfl _ Rw.heap.size (.slice bA k bc) k bs 32 rfl (Ap kG ((Aa.refl FZ).alloc _)) Co FZ.heap.size (Ase FZ _) rfl (by simp;omega) ?_);intro v11 w11 hown11 hext11 hg11)
        have GE:=hext11 Rw (Ua.alloc _) (Asf _);clear hext11 hg11;go_wp2;go_roundw
        case rel=>exact⟨k+1,bs ++ [32],by go_num,jU,hown11,by simp [hbl],GE⟩
        case measure=>simp [intOf];omega
       ·obtain⟨q,rfl⟩:∃q:Nat,kf=(q:Int):=⟨kf.toNat,by omega⟩;have hqf:q<Al.length:=(by have:=bO.out;omega);obtain⟨bF,oF,rfl,xQ⟩:=(hF.ext (Gn.trans fe)).ad (by simp;omega);have QK:=xQ q (by simpa using hqf);rw [List.getElem_map]at QK;have Bn:(0:Int)<=(q:Int):=(by omega);have B8:(q:Int)<(m.nf:Int):=(by omega);have ix:=Akm l6 Al[q] A6 c6 FZ (hr6.ext fe) (by omega);generalize Al[q]=fq at *;clear xQ GI;have hbase:Rw.heap.size<=FZ.heap.size:=Ua.size
        cases Pd:(fq == [])
        ·have gy:¬fq = []:=fun e=>(by rw [e]at Pd;cases Pd);(go_wp2_with fail);(with_reducible refine ix.mono ?_);rintro e Ff ⟨⟨zi,rfl⟩,BB⟩;obtain⟨bb,BA⟩:=AoI (wrap64 (97+zi));have Ajc:=Ap kG BB;have gj:=Ua.trans BB;have ApZ:Rw.heap.size<=Ff.heap.size:=gj.size;clear m3 QK ix
         go_wp2_with (at_builtin;go_loud (refine dE rfl _ _ rfl _ Rw.heap.size (.slice bA k bc) k bs bb rfl (Ap Ajc ((Aa.refl Ff).alloc _)) Co Ff.heap.size (Ase Ff _) rfl (by simp;omega) ?_);intro v11 w11 hown11 hext11 hg11)
         have GE:=hext11 Rw (gj.alloc _) (Asf _);clear hext11 hg11;go_wp2;go_roundw
         case rel=>exact⟨k+1,bs ++ [bb],by go_num,jU,hown11,by simp [hbl],GE⟩
         case measure=>simp [intOf];omega
        ·have gy:fq = []:=(by simpa using Pd);subst gy;clear ix
         go_wp2_with (at_builtin;go_loud (refine dE rfl _ _ rfl _ Rw.heap.size (.slice bA k bc) k bs 46 rfl (Ap kG ((Aa.refl FZ).alloc _)) Co FZ.heap.size (Ase FZ _) rfl (by simp;omega) ?_);intro v11 w11 hown11 hext11 hg11)
         have GE:=hext11 Rw (Ua.alloc _) (Asf _);clear hext11 hg11;go_wp2;go_roundw
         case rel=>exact⟨k+1,bs ++ [46],by go_num,jU,hown11,by simp [hbl],GE⟩
         case measure=>simp [intOf];omega
     ·obtain rfl:k=c.W:=(by omega);have AqD:(c.W:Int)<=(c.W:Int):=by omega
      have hcv:(convert 85 9 (.slice bA c.W bc)).run Tryz.prog wr=.ok (S bs) wr:=by have h:=AnA wr (l:=bs) (A:=bA) (cap:=bc) (B:=Rw.heap.size) (by omega) (by rw [hbl];exact QS);rw [hbl]at h;exact h
      have QU:=Ap hown Yh;have Aqa:U.heap.size<=wr.heap.size:=Ib.size
      go_wp2_with (at_builtin;go_loud (refine sQ rfl _ _ rfl _ U.heap.size (.slice oA l.length oc) l.length l rfl (Ap QU ((Aa.refl wr).alloc _)) (by omega) bs wr.heap.size (Ase wr _) rfl (by simp;omega) ?_);intro v11 w11 hown11 hext11 hg11)
      have GE:=hext11 U (Ib.alloc _) (Asf _);clear hext11 hg11;go_wp2;go_roundw
      case rel=>exact⟨r+1,l ++ [bs],by go_num,hrH,by rw [List.length_append];exact hown11,by rw [List.length_append];simp;omega,GE⟩
      case measure=>simp [intOf];omega
   ·obtain rfl:r=c.H:=(by omega);have AqE:(c.H:Int)<=(c.H:Int):=(by omega);have AP:=EV.trans (Gn.trans Ac);go_wp2;go_ret2;exact⟨_,rfl,fun h=>absurd rfl h,⟨_,_,_,rfl⟩,AP⟩
 ·have hb:(ck != 0)=true:=(by rw [bne,beq_false_of_ne h0];rfl);have hX:=EV.trans Cs;go_wp2;go_ret2;exact⟨_,rfl,fun _=>rfl,⟨_,_,_,rfl⟩,hX⟩
end
end Go.Proofs.YtdaefncphfeaeaaGreatDoor
