/- Z50: T8A T8B. -/
import Derived.Test.YtdaefncphfeaeaaGreatDoorZ43
import Derived.Test.YtdaefncphfeaeaaGreatDoorZ47
import Derived.Test.YtdaefncphfeaeaaGreatDoorZ44
set_option maxRecDepth 100000
set_option maxHeartbeats 8000000
namespace Go.Proofs.YtdaefncphfeaeaaGreatDoor
open Go.RowKit Kl
def AdD(w:World)(e:Ending)(w':World):Prop:=
 ∃(n:Nat) (AC:List Bs) (A B F:Option Addr) (c d g:Nat) (m:B7) (Al:List Bs),n<=18/\e=.returned (Dh A B F m c d g)/\MapAt w' n AC A B F c d g m Al/\Aa w w'/\Lz w.heap.size A B F
theorem Aag{p:Pl}(h:p.Ok):(My p).length=29:=by simp [My,h.len]
section
variable {P : Program} {ops : Array Oper} {rest : List Oper} {o : Oper} {a : Act} {Q : Exit → Act → World → Prop}
theorem AkD(hgd:o.guard=none)(ty:TypeId)(x:Operand)(ho:o.op=.load ty x)(w:World)
  (g:Nat) (hx:a.eval x=.pointer (some ⟨g,0,none⟩)) (t:TypeId) (cs:Array Value) (d:TypeDesc) (hg:w.heap[g]?=some (.cells cs t))
  (hu:P.underlying ty=some d) (hd:(match d with | .struct _ | .array _ _=>true|_=>false)=true) (hi:(P.info? ty).map (·.size)=some cs.size)
  (h:wpList P ops Q rest (a.put o.dst (.agg cs)) w):wpList P ops Q (o::rest) a w:=
 wpList_plain hgd fun _ hK=>wp_load_row ty x ho g hx t cs (0,0) d hg hu hd hi (hK _ _ h)
end
theorem Aah:(Tryz.prog.info? 31).map (·.size)=some 29:=by kernel_rfl
theorem AkP(p:Pl)(hp:p.Ok)(w:World)(hw:Ai w):Calls Tryz.prog 7 #[Lm p] w (AdD w):=by
 have pc:=fun (w':World) (h:Ai w')=>Amc p hp w' h;obtain⟨cs,hcs⟩:=AcG ((My p).toArray);have hV:Lm p=.agg cs:=(by rw [hcs];rfl);have hsz:cs.size=29:=(by rw [hcs];exact Aag hp);have hin:(Tryz.prog.info? 31).map (·.size)=some cs.size:=(by rw [hsz];exact Aah);simp only [hV]at pc ⊢
 obtain⟨V,Ty,EV,Q8,EU⟩:∃V,V=(w.alloc (.cells cs 31)).alloc (.cells #[.slice none 0 0,.slice none 0 0,.slice none 0 0] 43)/\Aa w V/\V.heap[w.heap.size]?=some (.cells cs 31)/\V.heap[w.heap.size+1]?=some (.cells #[.slice none 0 0,.slice none 0 0,.slice none 0 0] 43):=by
  refine⟨_,rfl,((Aa.refl _).alloc _).alloc _,(Below.heap_alloc _ _ _ (by simp)).trans (Ase w _),?_⟩;have h:=Ase (w.alloc (.cells cs 31)) (.cells #[.slice none 0 0,.slice none 0 0,.slice none 0 0] 43)
  rwa [Asn]at h
 clear hcs hV hp hsz;go_enter Tryz.func7,Tryz.ntmps7
 go_upto_region 1 with fail
 rw [←Ty];clear Ty;obtain⟨bP,zU⟩:=AcG w.heap.size;have AhL:w.heap.size<=bP:=(by omega);rw [←zU]at Q8 EU ⊢;clear zU
 go_wp2_with (first|(refine AkD rfl 31 (.tmp 1) rfl V bP rfl 31 cs _ Q8 Tryz.underlying31 rfl hin ?_)|((with_reducible refine(pc _ (hw.ext EV)).mono ?_);rintro e w1 ⟨A,c,P,rfl,hP,hat,hx1⟩))
 have gl:=AgW P hP A c w1 (hw.ext (EV.trans hx1)) hat;have yJ:=hP.len;have ER:=EV.trans hx1;have Nu:=(hx1.block _ (Asd EU)).trans EU;clear pc hat hP EU Q8;(go_wp2_with fail);(with_reducible refine gl.mono ?_);rintro e w2 ⟨A9,B9,F9,c9,d9,g9,m9,Xj,rfl,H6,hx2,hfr⟩;unfold Dh;have Nv:=(hx2.block _ (Asd Nu)).trans Nu;have hst:=xh H6 (ER.trans hx2) Nv (by omega) (.slice A9 m9.pts.length c9) (.slice B9 m9.eds.length d9) (.slice F9 m9.nf g9);have hfr2:=hfr.mono ER.size;have r0:w2.cell? ⟨bP+1,0,none⟩=some (.slice none 0 0):=Ab Nv rfl;have r1:w2.cell? ⟨bP+1,1,none⟩=some (.slice none 0 0):=Ab Nv rfl;have r2:w2.cell? ⟨bP+1,2,none⟩=some (.slice none 0 0):=Ab Nv rfl;have r3:=An (o:=0) Nv;have r4:=An (o:=1) Nv;have r5:=An (o:=2) Nv;have t1:=Ab (o:=0) hst.2.2 rfl;have t2:=Ab (o:=1) hst.2.2 rfl;have t3:=Ab (o:=2) hst.2.2 rfl;have HST:=Asb (And.intro hst (And.intro hfr2 yJ));clear hst Nv H6 hfr hfr2 yJ Nu gl;go_wp2;refine bodyPost_ret (v:=.agg #[.slice A9 m9.pts.length c9,.slice B9 m9.eds.length d9,.slice F9 m9.nf g9]) (by simp [results,Tryz.results7,go_sem,t1,t2,t3]) rfl ?_;exact⟨P.length,P.map (·.2),A9,B9,F9,c9,d9,g9,m9,Xj,HST.out.2.2,rfl,HST.out.1.1,HST.out.1.2.1,HST.out.2.1⟩
theorem Agv(a b:Int)(n:Nat)(W:World):(Op.equalIn (n+1+1) 61 (.agg #[.int .i64 a,.int .i64 b]) (.agg #[.int .i64 a,.int .i64 b])).run Tryz.prog W=.ok true W:=by
 simp [go_sem]
theorem AnB(a b c d:Int)(W:World):(binOp .eql 62 (.agg #[.int .i64 a,.int .i64 b,.int .i64 c,.int .i64 d]) (.agg #[.int .i64 a,.int .i64 b,.int .i64 c,.int .i64 d])).run Tryz.prog W=.ok (.bool true) W:=by
 rw [run_eql_struct]
 have h:(Op.equalIn (9997+1+1+1) 62 (.agg #[.int .i64 a,.int .i64 b,.int .i64 c,.int .i64 d]) (.agg #[.int .i64 a,.int .i64 b,.int .i64 c,.int .i64 d])).run Tryz.prog W=.ok true W:=by rw [Op.equalIn];simp only [Sem.run_bind,run_underlying Tryz.underlying62,Result.andThen_ok];simp [go_sem];rw [show List.range' 0 2 = [0,1] from rfl];simp [go_sem,List.forIn_cons,Agv]
 have h2:=h;simp only [Nat.reduceAdd]at h2;rw [h2]
 rfl
theorem Age(c:Cv)(hc:S1 c)(m:B7)(Bf:∀p∈m.pts,BL p)(e:AO)(r1:0<=e.f)(r2:e.f<(m.pts.length:Int))(r3:0<=e.t)(r4:e.t<(m.pts.length:Int))(A B F:Option Addr)(ca cb cf b7 b8:Nat)(w:World)(hw:Ai w)(hA:Am w A (flat (AI m.pts)))
  (Cw:w.heap[b7]?=some (.cells #[S (R c.low.x),S (R c.low.y),S (R c.high.x),S (R c.high.y),.int .i64 (c.W:Nat),.int .i64 (c.H:Nat)] 37)) (hM:w.heap[b8]?=some (.cells #[.slice A m.pts.length ca,.slice B m.eds.length cb,.slice F m.nf cf] 43)) :
  Calls Tryz.prog 19 #[.agg #[.int .i64 e.f,.int .i64 e.t,.int .i64 e.l,.int .i64 e.r],.agg (KD c m.pts e).toArray,.pointer (some ⟨b7,0,none⟩),.pointer (some ⟨b8,0,none⟩)] w (Dq true w):=by
 have HC:=Asb hc;have s1:=Bf _ (Im r1 r2);have s2:=Bf _ (Im r3 r4);have Hq:=vt c _ hc.ok s1.sz (by omega) (by omega) (hc.col _ s1) (hc.row _ s1);have Ln:=vt c _ hc.ok s2.sz (by omega) (by omega) (hc.col _ s2) (hc.row _ s2);obtain⟨ef,CZ⟩:∃n:Nat,e.f=(n:Int):=⟨e.f.toNat,by omega⟩;obtain⟨et,Da⟩:∃n:Nat,e.t=(n:Int):=⟨e.t.toNat,by omega⟩;have ED:ef<m.pts.length:=(by omega);have EE:et<m.pts.length:=(by omega);obtain⟨ba,oa,rfl,ha1,ha2⟩:=BO hA ED;obtain⟨b3,o3,FN,Ct,Cu⟩:=BO hA EE;obtain⟨rfl,rfl⟩:ba=b3/\oa=o3:=(by simpa using FN);have e1:m.pts[ef]=AA m.pts e.f:=(by rw [CZ];unfold AA;simp [ED]);have e2:m.pts[et]=AA m.pts e.t:=(by rw [Da];unfold AA;simp [EE]);rw [e1]at ha1 ha2;rw [e2]at Ct Cu;obtain⟨x1,Kh⟩:=AcG (Br c (AA m.pts e.f));obtain⟨y1,P2⟩:=AcG (Bt c (AA m.pts e.f));obtain⟨x2,Ii⟩:=AcG (Br c (AA m.pts e.t));obtain⟨y2,P3⟩:=AcG (Bt c (AA m.pts e.t));have hd:(KD c m.pts e).toArray=#[.int .i64 x1,.int .i64 y1,.int .i64 x2,.int .i64 y2]:=(by rw [Kh,P2,Ii,P3];rfl);rw [←Kh,←P2]at Hq;rw [←Ii,←P3]at Ln;rw [hd,CZ,Da];generalize AA m.pts e.f=pa at *;generalize AA m.pts e.t=pb at *;unfold BQ Ak I2 at Hq Ln;have f0:(0:Int)<=(ef:Int):=(by omega);have f1:(ef:Int)<(m.pts.length:Int):=(by omega);have f2:(0:Int)<=(et:Int):=(by omega);have f3:(et:Int)<(m.pts.length:Int):=(by omega);clear CZ Da e1 e2 r1 r2 r3 r4 Kh P2 Ii P3 hd s1 s2 hc Bf HC
 obtain⟨W,Tz,DV,Gp,KG⟩:∃W,W=(w.alloc (.cells #[.int .i64 (ef:Int),.int .i64 (et:Int),.int .i64 e.l,.int .i64 e.r] 59)).alloc (.cells #[.int .i64 x1,.int .i64 y1,.int .i64 x2,.int .i64 y2] 62)/\Aa w W/\W.heap[w.heap.size]?=some (.cells #[.int .i64 (ef:Int),.int .i64 (et:Int),.int .i64 e.l,.int .i64 e.r] 59)/\W.heap[w.heap.size+1]?=some (.cells #[.int .i64 x1,.int .i64 y1,.int .i64 x2,.int .i64 y2] 62):=by
  refine⟨_,rfl,((Aa.refl _).alloc _).alloc _,(Below.heap_alloc _ _ _ (by simp)).trans (Ase w _),?_⟩;have h:=Ase (w.alloc (.cells #[.int .i64 (ef:Int),.int .i64 (et:Int),.int .i64 e.l,.int .i64 e.r] 59)) (.cells #[.int .i64 x1,.int .i64 y1,.int .i64 x2,.int .i64 y2] 62)
  rwa [Asn]at h
 have hCW:=(DV.block _ (Asd Cw)).trans Cw;have LN:=(DV.block _ (Asd hM)).trans hM;replace ha1:=DV.cellS ha1;replace ha2:=DV.cellS ha2;replace Ct:=DV.cellS Ct;replace Cu:=DV.cellS Cu;have deq:=AnB x1 y1 x2 y2;go_enter Tryz.func19,Tryz.ntmps19
 go_upto_region 1 with fail
 rw [←Tz];obtain⟨be,Nx⟩:=AcG w.heap.size;rw [←Nx]at Gp KG ⊢;clear Tz Nx Cw hM hA;have k0:W.cell? ⟨b7,0,none⟩=some (S (R c.low.x)):=Ab hCW rfl;have k1:W.cell? ⟨b7,1,none⟩=some (S (R c.low.y)):=Ab hCW rfl;have k2:W.cell? ⟨b7,2,none⟩=some (S (R c.high.x)):=Ab hCW rfl;have k3:W.cell? ⟨b7,3,none⟩=some (S (R c.high.y)):=Ab hCW rfl;have k4:W.cell? ⟨b7,4,none⟩=some (.int .i64 (c.W:Nat)):=Ab hCW rfl;have k5:W.cell? ⟨b7,5,none⟩=some (.int .i64 (c.H:Nat)):=Ab hCW rfl;have k6:W.cell? ⟨b8,0,none⟩=some (.slice (some ⟨ba,oa,none⟩) m.pts.length ca):=Ab LN rfl;have k7:W.cell? ⟨be,0,none⟩=some (.int .i64 (ef:Int)):=Ab Gp rfl;have X:Aa W W:=Aa.refl W;have SO:=fun (w':World) (h:Aa W w')=>(⟨h.cellS k0,h.cellS k1,h.cellS k2,h.cellS k3,h.cellS k4,h.cellS k5,h.cellS k6,h.cellS k7,h.cellS ha1,h.cellS ha2⟩:_/\_/\_/\_/\_/\_/\_/\_/\w'.cell? ⟨ba,oa+ef*2,none⟩=some (S (R pa.x))/\w'.cell? ⟨ba,oa+ef*2+1,none⟩=some (S (R pa.y)))
 go_upto_region 1 with fail
 go_cut [7] (fun v1 wx=>∃bd,v1=.pointer (some ⟨bd,0,none⟩)/\wx.heap[bd]?=some (.cells #[.int .i64 x1,.int .i64 y1] 61)/\Aa W wx)
 case first=>
  go_region_held3 (fun w'=>w'.cell? ⟨b7,0,none⟩=some (S (R c.low.x))/\w'.cell? ⟨b7,1,none⟩=some (S (R c.low.y))/\w'.cell? ⟨b7,2,none⟩=some (S (R c.high.x))/\w'.cell? ⟨b7,3,none⟩=some (S (R c.high.y))/\w'.cell? ⟨b7,4,none⟩=some (.int .i64 (c.W:Nat))/\w'.cell? ⟨b7,5,none⟩=some (.int .i64 (c.H:Nat))/\w'.cell? ⟨b8,0,none⟩=some (.slice (some ⟨ba,oa,none⟩) m.pts.length ca)/\w'.cell? ⟨be,0,none⟩=some (.int .i64 (ef:Int))/\w'.cell? ⟨ba,oa+ef*2,none⟩=some (S (R pa.x))/\w'.cell? ⟨ba,oa+ef*2+1,none⟩=some (S (R pa.y)))
   (first|with_reducible exact SO _ X|with_reducible exact SO _ X.drew|with_reducible exact SO _ (X.alloc _).drew|with_reducible exact SO _ ((X.setCell (p:=⟨W.heap.size,0,none⟩) (Asf _) _).setCell (p:=⟨W.heap.size,1,none⟩) (Asf _) _)|with_reducible exact SO _ (X.alloc _))
   (first|((with_reducible refine(Hq _ (hw.ext (DV.trans (by first|exact X|exact X.drew|exact(X.alloc _).drew)))).mono ?_);rintro e w3 ⟨rfl,hx1⟩;(first|(have Z3:w3.heap[W.heap.size]?=some (.cells #[.int .i64 0,.int .i64 0] 61):=(hx1.block _ (by simp)).trans (Ase W _);have y0:=Ab (o:=0) Z3 rfl;have y1:=Ab (o:=1) Z3 rfl;have y2:=An (o:=0) Z3;have y3:=An (o:=1) Z3)|skip);replace X:Aa W w3:=(by first|exact X.trans hx1|exact X.drew.trans hx1|exact(X.alloc _).drew.trans hx1);have s3:=X.size))
  all_goals go_wp2
  all_goals go_meet
  all_goals first
   | exact⟨_,rfl,Ase w3 _,X.alloc _⟩
   | exact⟨_,rfl,D6 _ _ Z3,(X.setCell (Asf _) _).setCell (Asf _) _⟩
 case rest=>
  obtain⟨bd,rfl,C6,Af⟩:=hcut;obtain⟨U,rfl⟩:=GN Af;have Nj:=(Af.block _ (Asd LN)).trans LN;have Ei:=(Af.block _ (Asd hCW)).trans hCW;have TF:=(Af.block _ (Asd Gp)).trans Gp;have gU:=(Af.block _ (Asd KG)).trans KG;have Gn:=DV.trans Af;have Nt:=Af.cellS Ct;have TA:=Af.cellS Cu;clear SO X k0 k1 k2 k3 k4 k5 k6 k7 ha1 ha2 Ct Cu LN hCW Gp DV Af Hq KG;have k0:U.cell? ⟨b7,0,none⟩=some (S (R c.low.x)):=Ab Ei rfl;have k1:U.cell? ⟨b7,1,none⟩=some (S (R c.low.y)):=Ab Ei rfl;have k2:U.cell? ⟨b7,2,none⟩=some (S (R c.high.x)):=Ab Ei rfl;have k3:U.cell? ⟨b7,3,none⟩=some (S (R c.high.y)):=Ab Ei rfl;have k4:U.cell? ⟨b7,4,none⟩=some (.int .i64 (c.W:Nat)):=Ab Ei rfl;have k5:U.cell? ⟨b7,5,none⟩=some (.int .i64 (c.H:Nat)):=Ab Ei rfl;have k6:U.cell? ⟨b8,0,none⟩=some (.slice (some ⟨ba,oa,none⟩) m.pts.length ca):=Ab Nj rfl;have k7:U.cell? ⟨be,1,none⟩=some (.int .i64 (et:Int)):=Ab TF rfl;have X:Aa U U:=Aa.refl U;have SO:=fun (w':World) (h:Aa U w')=>(⟨h.cellS k0,h.cellS k1,h.cellS k2,h.cellS k3,h.cellS k4,h.cellS k5,h.cellS k6,h.cellS k7,h.cellS Nt,h.cellS TA⟩:_/\_/\_/\_/\_/\_/\_/\_/\w'.cell? ⟨ba,oa+et*2,none⟩=some (S (R pb.x))/\w'.cell? ⟨ba,oa+et*2+1,none⟩=some (S (R pb.y)))
  go_upto_region 2 with fail
  go_cut [9] (fun v1 wx=>∃bd,v1=.pointer (some ⟨bd,0,none⟩)/\wx.heap[bd]?=some (.cells #[.int .i64 x2,.int .i64 y2] 61)/\Aa U wx)
  case first=>
   go_region_held3 (fun w'=>w'.cell? ⟨b7,0,none⟩=some (S (R c.low.x))/\w'.cell? ⟨b7,1,none⟩=some (S (R c.low.y))/\w'.cell? ⟨b7,2,none⟩=some (S (R c.high.x))/\w'.cell? ⟨b7,3,none⟩=some (S (R c.high.y))/\w'.cell? ⟨b7,4,none⟩=some (.int .i64 (c.W:Nat))/\w'.cell? ⟨b7,5,none⟩=some (.int .i64 (c.H:Nat))/\w'.cell? ⟨b8,0,none⟩=some (.slice (some ⟨ba,oa,none⟩) m.pts.length ca)/\w'.cell? ⟨be,1,none⟩=some (.int .i64 (et:Int))/\w'.cell? ⟨ba,oa+et*2,none⟩=some (S (R pb.x))/\w'.cell? ⟨ba,oa+et*2+1,none⟩=some (S (R pb.y)))
    (first|with_reducible exact SO _ X|with_reducible exact SO _ X.drew|with_reducible exact SO _ (X.alloc _).drew|with_reducible exact SO _ ((X.setCell (p:=⟨U.heap.size,0,none⟩) (Asf _) _).setCell (p:=⟨U.heap.size,1,none⟩) (Asf _) _)|with_reducible exact SO _ (X.alloc _))
    (first|((with_reducible refine(Ln _ (hw.ext (Gn.trans (by first|exact X|exact X.drew|exact(X.alloc _).drew)))).mono ?_);rintro e w3 ⟨rfl,hx1⟩;(first|(have Z3:w3.heap[U.heap.size]?=some (.cells #[.int .i64 0,.int .i64 0] 61):=(hx1.block _ (by simp)).trans (Ase U _);have y0:=Ab (o:=0) Z3 rfl;have y1:=Ab (o:=1) Z3 rfl;have y2:=An (o:=0) Z3;have y3:=An (o:=1) Z3)|skip);replace X:Aa U w3:=(by first|exact X.trans hx1|exact X.drew.trans hx1|exact(X.alloc _).drew.trans hx1);have s3:=X.size))
   all_goals go_wp2
   all_goals go_meet
   all_goals first
    | exact⟨_,rfl,Ase w3 _,X.alloc _⟩
    | exact⟨_,rfl,D6 _ _ Z3,(X.setCell (Asf _) _).setCell (Asf _) _⟩
  case rest=>obtain⟨bd2,rfl,OX,Ae⟩:=hcut;obtain⟨Z,rfl⟩:=GN Ae;have zA:=Gn.trans Ae;have TE:=(Ae.block _ (Asd C6)).trans C6;have XQ:=(Ae.block _ (Asd gU)).trans gU;clear SO X k0 k1 k2 k3 k4 k5 k6 k7 Nj Ei TF Gn Ae Nt TA Ln C6 gU;have q0:Z.cell? ⟨bd,0,none⟩=some (.int .i64 x1):=Ab TE rfl;have q1:Z.cell? ⟨bd,1,none⟩=some (.int .i64 y1):=Ab TE rfl;have q2:Z.cell? ⟨bd2,0,none⟩=some (.int .i64 x2):=Ab OX rfl;have q3:Z.cell? ⟨bd2,1,none⟩=some (.int .i64 y2):=Ab OX rfl;have q4:Z.cell? ⟨be+1,0,none⟩=some (.int .i64 x1):=Ab XQ rfl;have q5:Z.cell? ⟨be+1,1,none⟩=some (.int .i64 y1):=Ab XQ rfl;have q6:Z.cell? ⟨be+1,2,none⟩=some (.int .i64 x2):=Ab XQ rfl;have q7:Z.cell? ⟨be+1,3,none⟩=some (.int .i64 y2):=Ab XQ rfl;go_wp2;go_ret;exact⟨rfl,zA⟩
theorem vM(c:Cv)(pts:List Pt):∀(l:List AO) (j:Nat) (h:j<l.length),(Fi c pts l)[j*4]?=some (.int .i64 (Br c (AA pts l[j].f)))/\(Fi c pts l)[j*4+1]?=some (.int .i64 (Bt c (AA pts l[j].f)))/\(Fi c pts l)[j*4+2]?=some (.int .i64 (Br c (AA pts l[j].t)))/\(Fi c pts l)[j*4+3]?=some (.int .i64 (Bt c (AA pts l[j].t)))
 | e::l,0,_=>⟨rfl,rfl,rfl,rfl⟩
 | e::l,j+1,h=>by
  have ih:=vM c pts l j (by simpa using h);have e0:Fi c pts (e::l)=.int .i64 (Br c (AA pts e.f)) :: .int .i64 (Bt c (AA pts e.f)) :: .int .i64 (Br c (AA pts e.t)) :: .int .i64 (Bt c (AA pts e.t))::Fi c pts l:=rfl;rw [e0];have e1:(j+1)*4=j*4+1+1+1+1:=(by omega);rw [e1]
  simpa using ih
theorem Agy(c:Cv)(hc:S1 c)(m:B7)(Bf:∀p∈m.pts,BL p)(hrg:∀e∈m.eds,(0<=e.f/\e.f<(m.pts.length:Int))/\(0<=e.t/\e.t<(m.pts.length:Int)))(A B F:Option Addr)(ca cb cf b7 b8:Nat)(BF:IW m ca cb cf)(w:World)(hw:Ai w)(hA:Am w A (flat (AI m.pts)))(hB:Am w B (Ce m.eds))
  (Cw:w.heap[b7]?=some (.cells #[S (R c.low.x),S (R c.low.y),S (R c.high.x),S (R c.high.y),.int .i64 (c.W:Nat),.int .i64 (c.H:Nat)] 37)) (hM:w.heap[b8]?=some (.cells #[.slice A m.pts.length ca,.slice B m.eds.length cb,.slice F m.nf cf] 43))
  (D:Option Addr) (cd:Nat) (hD:Am w D (Fi c m.pts m.eds)) (dt:m.eds.length<=cd) (Aql:cd<=9223372036854775807) :
  Calls Tryz.prog 18 #[.slice B m.eds.length cb,.slice D m.eds.length cd,.func (.func 19) #[] #[.pointer (some ⟨b7,0,none⟩),.pointer (some ⟨b8,0,none⟩)]] w (Dq true w):=by
 have ec:=fun (i:Nat) (hi:i<m.eds.length) (w':World) (h:Aa w w')=>Age c hc m Bf m.eds[i] (hrg _ (Asg hi)).1.1 (hrg _ (Asg hi)).1.2 (hrg _ (Asg hi)).2.1 (hrg _ (Asg hi)).2.2 A B F ca cb cf b7 b8 w' (hw.ext h) (hA.ext h) ((h.block _ (Asd Cw)).trans Cw) ((h.block _ (Asd hM)).trans hM);have HEC:=Asb ec;obtain⟨c1,c2,d1,d2,g1,g2⟩:=BF;clear ec hc Bf hrg Cw hM hA;have FT:((m.eds.length:Int) != (m.eds.length:Int))=false:=(by simp);go_enter Tryz.func18,Tryz.ntmps18
 go_upto_region 4 with fail
 go_loopw [17] (fun iv wr=>∃i:Nat,iv=.int .i64 (i:Nat)/\i<=m.eds.length/\Aa w wr) (fun iv _=>m.eds.length-(intOf iv).toNat)
 case atStart=>exact⟨0,rfl,by omega,Aa.refl _⟩
 case round=>
  obtain⟨i,rfl,hi,Ac⟩:=hrel;by_cases CB:i<m.eds.length
  ·obtain⟨b,o,rfl,hg1,hg2,hg3,hg4⟩:=Lq (hB.ext Ac) CB;have hl2:=AfZ c m.pts m.eds;obtain⟨bD,oD,rfl,TM⟩:=(hD.ext Ac).ad (by omega);obtain⟨k1,k2,k3,k4⟩:=vM c m.pts m.eds i CB;have j1:=TM (i*4) (by omega);have j2:=TM (i*4+1) (by omega);have j3:=TM (i*4+2) (by omega);have j4:=TM (i*4+3) (by omega);rw [Asl (by omega),Asj]at k1 k2 k3 k4;rw [k1]at j1;rw [k2,←Nat.add_assoc]at j2;rw [k3,←Nat.add_assoc]at j3;rw [k4,←Nat.add_assoc]at j4;have ec:=fun (w':World) (h:Aa w w')=>HEC.out i CB w' h;have hd:(KD c m.pts m.eds[i]).toArray=#[.int .i64 (Br c (AA m.pts m.eds[i].f)),.int .i64 (Bt c (AA m.pts m.eds[i].f)),.int .i64 (Br c (AA m.pts m.eds[i].t)),.int .i64 (Bt c (AA m.pts m.eds[i].t))]:=rfl;rw [hd]at ec;generalize Br c (AA m.pts m.eds[i].f)=x1 at *;generalize Bt c (AA m.pts m.eds[i].f)=y1 at *;generalize Br c (AA m.pts m.eds[i].t)=x2 at *;generalize Bt c (AA m.pts m.eds[i].t)=y2 at *;generalize m.eds[i]=e at *;have i0:(0:Int)<=(i:Int):=(by omega);have i1:(i:Int)<(m.eds.length:Int):=by omega
   obtain⟨W,Tz,DV,Gp,KG⟩:∃W,W=(wr.alloc (.cells #[.int .i64 e.f,.int .i64 e.t,.int .i64 e.l,.int .i64 e.r] 59)).alloc (.cells #[.int .i64 x1,.int .i64 y1,.int .i64 x2,.int .i64 y2] 62)/\Aa wr W/\W.heap[wr.heap.size]?=some (.cells #[.int .i64 e.f,.int .i64 e.t,.int .i64 e.l,.int .i64 e.r] 59)/\W.heap[wr.heap.size+1]?=some (.cells #[.int .i64 x1,.int .i64 y1,.int .i64 x2,.int .i64 y2] 62):=by
    refine⟨_,rfl,((Aa.refl _).alloc _).alloc _,(Below.heap_alloc _ _ _ (by simp)).trans (Ase wr _),?_⟩;have h:=Ase (wr.alloc (.cells #[.int .i64 e.f,.int .i64 e.t,.int .i64 e.l,.int .i64 e.r] 59)) (.cells #[.int .i64 x1,.int .i64 y1,.int .i64 x2,.int .i64 y2] 62)
    rwa [Asn]at h
   have E1:=(Aa.refl wr).alloc (.cells #[.int .i64 e.f,.int .i64 e.t,.int .i64 e.l,.int .i64 e.r] 59);replace j1:=E1.cellS j1;replace j2:=E1.cellS j2;replace j3:=E1.cellS j3;replace j4:=E1.cellS j4;clear hd hl2 TM k1 k2 k3 k4 E1
   go_upto_region 7 with fail
   rw [←Tz];obtain⟨be,Nx⟩:=AcG wr.heap.size;rw [←Nx]at Gp KG ⊢;clear Tz Nx hg1 hg2 hg3 hg4 j1 j2 j3 j4;have q0:W.cell? ⟨be,0,none⟩=some (.int .i64 e.f):=Ab Gp rfl;have q1:W.cell? ⟨be,1,none⟩=some (.int .i64 e.t):=Ab Gp rfl;have q2:W.cell? ⟨be,2,none⟩=some (.int .i64 e.l):=Ab Gp rfl;have q3:W.cell? ⟨be,3,none⟩=some (.int .i64 e.r):=Ab Gp rfl;have q4:W.cell? ⟨be+1,0,none⟩=some (.int .i64 x1):=Ab KG rfl;have q5:W.cell? ⟨be+1,1,none⟩=some (.int .i64 y1):=Ab KG rfl;have q6:W.cell? ⟨be+1,2,none⟩=some (.int .i64 x2):=Ab KG rfl;have q7:W.cell? ⟨be+1,3,none⟩=some (.int .i64 y2):=Ab KG rfl;have fZ:=Ac.trans DV;have vP:=ec W fZ;(go_wp2_with fail);(with_reducible refine vP.mono ?_);rintro e' w2 ⟨rfl,hx2⟩;clear q0 q1 q2 q3 q4 q5 q6 q7 vP ec;go_wp2;go_roundw
   case rel=>exact⟨i+1,by go_num,CB,fZ.trans hx2⟩
   case measure=>simp [intOf];omega
  ·have I9:i=m.eds.length:=(by omega);subst I9;have hle:(m.eds.length:Int)<=(m.eds.length:Int):=(by omega);go_wp2;go_ret;exact⟨rfl,Ac⟩
section
open Go.Shelf
def NI(q:Nat)(A:Option Addr)(cs:List Value):Prop:=∀x,A=some x→0<cs.length→x.block≠q
theorem Am.setRow{w:World}{A:Option Addr}{cs:List Value}{q:Nat}(h:Am w A cs)(hq:NI q A cs)(v:Array Value):Am (w.setRow q v) A cs:=
 ⟨fun h0=>by
  obtain⟨b,o,e,hc⟩:=h.ad h0;refine⟨b,o,e,fun j hj=>?_⟩;rw [cell_setRow_other _ _ _ _ (show b≠q from hq ⟨b,o,none⟩ e h0)]
  exact hc j hj⟩
theorem Am.ni{w:World}{A:Option Addr}{cs:List Value}{q:Nat}(h:Am w A cs)(hq:w.heap.size<=q):NI q A cs:=by
 intro x hx h0;obtain⟨b,o,e,hc⟩:=h.ad h0;rw [hx]at e;obtain rfl:=Option.some.inj e;have h1:b<w.heap.size:=World.block_lt_of_cell? w _ (hc 0 h0);show b≠q;omega
structure Qc(q:Nat)(A B F:Option Addr)(m:B7)(Al:List Bs):Prop where
 a:NI q A (flat (AI m.pts))
 b:NI q B (Ce m.eds)
 f:NI q F (Al.map S)
theorem MapAt.ni{w:World}{n:Nat}{AC:List Bs}{A B F:Option Addr}{c d g:Nat}{m:B7}{Al:List Bs}{q:Nat}(h:MapAt w n AC A B F c d g m Al)(hq:w.heap.size<=q):Qc q A B F m Al:=
 ⟨h.pts.ni hq,h.eds.ni hq,h.fac.ni hq⟩
theorem Lz.ni{k:Nat}{A B F:Option Addr}{m:B7}{Al:List Bs}{q:Nat}(h:Lz k A B F)(hq:q<k):Qc q A B F m Al:=
 ⟨fun x e _=>by have:=h.a x e;omega,fun x e _=>by have:=h.b x e;omega,fun x e _=>by have:=h.f x e;omega⟩
theorem MapAt.setRow{w:World}{n:Nat}{AC:List Bs}{A B F:Option Addr}{c d g:Nat}{m:B7}{Al:List Bs}{q:Nat}(h:MapAt w n AC A B F c d g m Al)(hq:Qc q A B F m Al)(v:Array Value):MapAt (w.setRow q v) n AC A B F c d g m Al:=
 ⟨h.cap,h.pts.setRow hq.a v,h.eds.setRow hq.b v,h.fac.setRow hq.f v,h.nf,h.le,h.sheet,h.txt⟩
theorem Aa.setRow{a b:World}(h:Aa a b){q:Nat}(hq:a.heap.size<=q)(v:Array Value):Aa a (b.setRow q v):=below_setRow h hq v
theorem Aa.alive{a b:World}(h:Aa a b){q:Nat}{o:Obj}(hq:a.heap[q]?=some o):b.heap[q]?=some o:=(h.block _ (Asd hq)).trans hq
def OC(c:Cv):Array Value:=#[S (R c.low.x),S (R c.low.y),S (R c.high.x),S (R c.high.y),.int .i64 (c.W:Nat),.int .i64 (c.H:Nat)]
def WW:Array Value:=#[S [],S [],S [],S [],.int .i64 0,.int .i64 0]
def UZ:Array Value:=#[.slice none 0 0,.slice none 0 0,.slice none 0 0]
def Lf(A B F:Option Addr)(m:B7)(c d g:Nat):Array Value:=#[.slice A m.pts.length c,.slice B m.eds.length d,.slice F m.nf g]
def K3(d:Nat):Prop:=d=7∨d=8∨d=16∨d=17∨d=18∨d=19
def ptr(b:Nat):Value:=.pointer (some ⟨b,0,none⟩)
theorem PE{a b:Nat}(h:ptr a=ptr b):a=b:=by
 unfold ptr at h
 simpa using h
theorem WJ{w:World}{i j:Nat}{c1 c2:Array Value}{t1 t2:TypeId}(h1:w.heap[i]?=some (.cells c1 t1))(h2:w.heap[j]?=some (.cells c2 t2))(hne:t1≠t2):i≠j:=Hb h1 h2 hne
structure J3(f:Fr)(p:Pl)(a0:Act)(W:World)(l0 l1 l2 l3 l4 l5 l6 l7:Bool)(a:Act)(w:World):Prop where
 fr:GW K3 a0 a
 ext:Aa W w
 s0:l0=true→a.eval (.tmp 16)=Ng f
 s1:l1=true→a.eval (.tmp 17)=BQ (DT f)
 s2:l2=true→a.eval (.tmp 18)=Lm p
 c6:l6=true→l4=true
 c7:l7=true→l3=true/\l5=true
 s4:l4=true→∃b,a.eval (.tmp 7)=ptr b/\W.heap.size<=b/\w.heap[b]?=some (.cells (if l6=true then OC (DT f)else WW) 37)
 s5:l5=true→∃b,a.eval (.tmp 8)=ptr b/\W.heap.size<=b/\∃cs,w.heap[b]?=some (.cells cs 43)/\(l7=false→cs=UZ)
 s3:l3=true→∃(n:Nat) (AC:List Bs) (A B F:Option Addr) (ca cb cf:Nat) (m:B7) (Al:List Bs),n<=18/\a.eval (.tmp 19)=Dh A B F m ca cb cf/\MapAt w n AC A B F ca cb cf m Al
  /\(l4=true→∀b,a.eval (.tmp 7)=ptr b→Qc b A B F m Al)/\(l5=true→∀b,a.eval (.tmp 8)=ptr b→Qc b A B F m Al)
  /\(l7=true→∀b,a.eval (.tmp 8)=ptr b→w.heap[b]?=some (.cells (Lf A B F m ca cb cf) 43))
section
variable {f : Fr} {p : Pl} {a0 : Act} {W : World} {l0 l1 l2 l3 l4 l5 l6 l7 : Bool} {a : Act} {w : World}
theorem J3.sz(h:J3 f p a0 W l0 l1 l2 l3 l4 l5 l6 l7 a w)(hs:19<a0.tmps.size){d:Nat}(hd:d<=19):d<a.tmps.size:=by rw [h.fr.size];omega
theorem J3.up(h:J3 f p a0 W l0 l1 l2 l3 l4 l5 l6 l7 a w){d:Nat}{v:Value}{b0 b1 b2:Bool}(hd:16<=d/\d<=18)(h0:b0=true→(a.put (some d) v).eval (.tmp 16)=Ng f)(h1:b1=true→(a.put (some d) v).eval (.tmp 17)=BQ (DT f))(h2:b2=true→(a.put (some d) v).eval (.tmp 18)=Lm p):J3 f p a0 W b0 b1 b2 l3 l4 l5 l6 l7 (a.put (some d) v) w:=by
 refine⟨h.fr.put (by unfold K3;omega) _,h.ext,h0,h1,h2,h.c6,h.c7,?_,?_,?_⟩
 ·rw [BH _ (by omega)];exact h.s4
 ·rw [BH _ (by omega)];exact h.s5
 ·rw [BH _ (by omega),BH _ (by omega),BH _ (by omega)];exact h.s3
theorem J3.t0(h:J3 f p a0 W l0 l1 l2 l3 l4 l5 l6 l7 a w)(hs:19<a0.tmps.size):J3 f p a0 W true l1 l2 l3 l4 l5 l6 l7 (a.put (some 16) (Ng f)) w:=
 h.up (by omega) (fun _=>eval_put_same (h.sz hs (by omega))) (by rw [BH _ (by omega)];exact h.s1) (by rw [BH _ (by omega)];exact h.s2)
theorem J3.t2(h:J3 f p a0 W l0 l1 l2 l3 l4 l5 l6 l7 a w)(hs:19<a0.tmps.size):J3 f p a0 W l0 l1 true l3 l4 l5 l6 l7 (a.put (some 18) (Lm p)) w:=
 h.up (by omega) (by rw [BH _ (by omega)];exact h.s0) (by rw [BH _ (by omega)];exact h.s1) (fun _=>eval_put_same (h.sz hs (by omega)))
theorem J3.t1(h:J3 f p a0 W l0 l1 l2 l3 l4 l5 l6 l7 a w)(hs:19<a0.tmps.size):J3 f p a0 W l0 true l2 l3 l4 l5 l6 l7 (a.put (some 17) (BQ (DT f))) w:=
 h.up (by omega) (by rw [BH _ (by omega)];exact h.s0) (fun _=>eval_put_same (h.sz hs (by omega))) (by rw [BH _ (by omega)];exact h.s2)
theorem J3.grow(h:J3 f p a0 W l0 l1 l2 l3 l4 l5 l6 l7 a w){w':World}(hx:Aa w w'):J3 f p a0 W l0 l1 l2 l3 l4 l5 l6 l7 a w':=by
 refine⟨h.fr,h.ext.trans hx,h.s0,h.s1,h.s2,h.c6,h.c7,fun e=>?_,fun e=>?_,fun e=>?_⟩
 ·obtain⟨b,h1,h2,h3⟩:=h.s4 e;exact⟨b,h1,h2,hx.alive h3⟩
 ·obtain⟨b,h1,h2,cs,h3,h4⟩:=h.s5 e;exact⟨b,h1,h2,cs,hx.alive h3,h4⟩
 ·obtain⟨n,AC,A,B,F,ca,cb,cf,m,Al,h1,h2,h3,h4,h5,h6⟩:=h.s3 e;exact⟨n,AC,A,B,F,ca,cb,cf,m,Al,h1,h2,h3.ext hx,h4,h5,fun e7 b hb=>hx.alive (h6 e7 b hb)⟩
theorem J3.t3(h:J3 f p a0 W l0 l1 l2 false l4 l5 l6 l7 a w)(hs:19<a0.tmps.size){w':World}(hx:Aa w w'){n:Nat}{AC:List Bs}{A B F:Option Addr}{ca cb cf:Nat}{m:B7}{Al:List Bs}(hn:n<=18)
  (hM:MapAt w' n AC A B F ca cb cf m Al) (hF:Lz w.heap.size A B F):J3 f p a0 W l0 l1 l2 true l4 l5 l6 l7 (a.put (some 19) (Dh A B F m ca cb cf)) w':=by
 have g:=h.grow hx;refine⟨g.fr.put (by unfold K3;omega) _,g.ext,?_,?_,?_,g.c6,fun e=>⟨rfl,(g.c7 e).2⟩,?_,?_,fun _=>?_⟩
 ·rw [BH _ (by omega)];exact g.s0
 ·rw [BH _ (by omega)];exact g.s1
 ·rw [BH _ (by omega)];exact g.s2
 ·rw [BH _ (by omega)];exact g.s4
 ·rw [BH _ (by omega)];exact g.s5
 ·rw [BH (d:=19) (e:=7) _ (by omega),BH (d:=19) (e:=8) _ (by omega)];refine⟨n,AC,A,B,F,ca,cb,cf,m,Al,hn,eval_put_same (h.sz hs (by omega)),hM,fun e b hb=>?_,fun e b hb=>?_,fun e=>(by have k:=(g.c7 e).1;cases k)⟩
  ·obtain⟨b',h1,-,h3⟩:=h.s4 e;obtain rfl:=PE (h1.symm.trans hb);exact hF.ni (Asd h3)
  ·obtain⟨b',h1,-,cs,h3,-⟩:=h.s5 e;obtain rfl:=PE (h1.symm.trans hb);exact hF.ni (Asd h3)
theorem J3.t4(h:J3 f p a0 W l0 l1 l2 l3 false l5 l6 l7 a w)(hs:19<a0.tmps.size):J3 f p a0 W l0 l1 l2 l3 true l5 l6 l7 (a.put (some 7) (ptr w.heap.size)) (w.alloc (.cells WW 37)):=by
 have hx:=(Aa.refl w).alloc (.cells WW 37);have g:=h.grow hx
 have h6:l6=false:=by
  cases e:l6
  ·rfl
  ·have:=h.c6 e;cases this
 subst h6;refine⟨g.fr.put (by unfold K3;omega) _,g.ext,?_,?_,?_,fun _=>rfl,g.c7,fun _=>⟨w.heap.size,eval_put_same (h.sz hs (by omega)),h.ext.size,Ase w _⟩,?_,fun e=>?_⟩
 ·rw [BH _ (by omega)];exact g.s0
 ·rw [BH _ (by omega)];exact g.s1
 ·rw [BH _ (by omega)];exact g.s2
 ·rw [BH _ (by omega)];exact g.s5
 ·obtain⟨n,AC,A,B,F,ca,cb,cf,m,Al,h1,h2,h3,h4,h5,h6⟩:=h.s3 e;rw [BH (d:=7) (e:=19) _ (by omega),BH (d:=7) (e:=8) _ (by omega)];refine⟨n,AC,A,B,F,ca,cb,cf,m,Al,h1,h2,h3.ext hx,fun _ b hb=>?_,h5,fun e7 b hb=>hx.alive (h6 e7 b hb)⟩;rw [eval_put_same (h.sz hs (by omega))]at hb;obtain rfl:=PE hb;exact h3.ni (Asf _)
theorem J3.t5(h:J3 f p a0 W l0 l1 l2 l3 l4 false l6 l7 a w)(hs:19<a0.tmps.size):J3 f p a0 W l0 l1 l2 l3 l4 true l6 l7 (a.put (some 8) (ptr w.heap.size)) (w.alloc (.cells UZ 43)):=by
 have hx:=(Aa.refl w).alloc (.cells UZ 43);have g:=h.grow hx
 have h7:l7=false:=by
  cases e:l7
  ·rfl
  ·have k:=(h.c7 e).2;cases k
 subst h7;refine⟨g.fr.put (by unfold K3;omega) _,g.ext,?_,?_,?_,g.c6,(fun e=>by cases e),?_,fun _=>⟨w.heap.size,eval_put_same (h.sz hs (by omega)),h.ext.size,UZ,Ase w _,fun _=>rfl⟩,fun e=>?_⟩
 ·rw [BH _ (by omega)];exact g.s0
 ·rw [BH _ (by omega)];exact g.s1
 ·rw [BH _ (by omega)];exact g.s2
 ·rw [BH _ (by omega)];exact g.s4
 ·obtain⟨n,AC,A,B,F,ca,cb,cf,m,Al,h1,h2,h3,h4,h5,h6⟩:=h.s3 e;rw [BH (d:=8) (e:=19) _ (by omega),BH (d:=8) (e:=7) _ (by omega)];refine⟨n,AC,A,B,F,ca,cb,cf,m,Al,h1,h2,h3.ext hx,h4,fun _ b hb=>?_,(fun e7=>by cases e7)⟩;rw [eval_put_same (h.sz hs (by omega))]at hb;obtain rfl:=PE hb;exact h3.ni (Asf _)
theorem J3.t6(h:J3 f p a0 W l0 true l2 l3 true l5 false l7 a w){b:Nat}(hb:a.eval (.tmp 7)=ptr b):J3 f p a0 W l0 true l2 l3 true l5 true l7 a (w.setRow b (OC (DT f))):=by
 obtain⟨b',h1,h2,h3⟩:=h.s4 rfl;obtain rfl:=PE (h1.symm.trans hb);refine⟨h.fr,h.ext.setRow h2 _,h.s0,h.s1,h.s2,fun _=>rfl,h.c7,fun _=>⟨b',hb,h2,setRow_heap _ _ _ _ _ _ h3⟩,fun e=>?_,fun e=>?_⟩
 ·obtain⟨b8,k1,k2,cs,k3,k4⟩:=h.s5 e;have hne:b8≠b':=WJ k3 h3 (by decide);exact⟨b8,k1,k2,cs,by rw [setRow_other _ _ _ _ hne];exact k3,k4⟩
 ·obtain⟨n,AC,A,B,F,ca,cb,cf,m,Al,k1,k2,k3,k4,k5,k6⟩:=h.s3 e;refine⟨n,AC,A,B,F,ca,cb,cf,m,Al,k1,k2,k3.setRow (k4 rfl b' hb) _,k4,k5,fun e7 b8 ET=>?_⟩;have k7:=k6 e7 b8 ET;have hne:b8≠b':=WJ k7 h3 (by decide);rw [setRow_other _ _ _ _ hne];exact k7
theorem J3.t7(h:J3 f p a0 W l0 l1 l2 true l4 true l6 false a w){b:Nat}(hb:a.eval (.tmp 8)=ptr b){A B F:Option Addr}{ca cb cf:Nat}{m:B7}(hv:a.eval (.tmp 19)=Dh A B F m ca cb cf):J3 f p a0 W l0 l1 l2 true l4 true l6 true a (w.setRow b (Lf A B F m ca cb cf)):=by
 obtain⟨b',h1,h2,cs,h3,-⟩:=h.s5 rfl;obtain rfl:=PE (h1.symm.trans hb);refine⟨h.fr,h.ext.setRow h2 _,h.s0,h.s1,h.s2,h.c6,fun _=>⟨rfl,rfl⟩,fun e=>?_,fun _=>⟨b',hb,h2,_,setRow_heap _ _ _ _ _ _ h3,fun e=>by cases e⟩,fun e=>?_⟩
 ·obtain⟨b7,k1,k2,k3⟩:=h.s4 e;have hne:b7≠b':=WJ k3 h3 (by decide);exact⟨b7,k1,k2,by rw [setRow_other _ _ _ _ hne];exact k3⟩
 ·obtain⟨n,AC,A',B',F',tW,tZ,Gi,m',Al,k1,k2,k3,k4,k5,k6⟩:=h.s3 rfl;refine⟨n,AC,A',B',F',tW,tZ,Gi,m',Al,k1,k2,k3.setRow (k5 rfl b' hb) _,k4,k5,fun _ b8 ET=>?_⟩;obtain rfl:=PE (h1.symm.trans ET)
  have e2:Lf A B F m ca cb cf=Lf A' B' F' m' tW tZ Gi:=by
   have e1:=hv.symm.trans k2;unfold Dh at e1
   simpa [Lf]using e1
  rw [e2];exact setRow_heap _ _ _ _ _ _ h3
end
structure AdC(f:Fr)(a0:Act)(W:World)(a:Act)(w:World)(b7 b8 n:Nat)(AC:List Bs)(A B F:Option Addr)(ca cb cf:Nat)(m:B7)(Al:List Bs):Prop where
 fr:GW K3 a0 a
 ext:Aa W w
 e7:a.eval (.tmp 7)=ptr b7
 e8:a.eval (.tmp 8)=ptr b8
 h7:w.heap[b7]?=some (.cells (OC (DT f)) 37)
 h8:w.heap[b8]?=some (.cells (Lf A B F m ca cb cf) 43)
 n18:n<=18
 map:MapAt w n AC A B F ca cb cf m Al
 g7:W.heap.size<=b7
 g8:W.heap.size<=b8
 ni8:Qc b8 A B F m Al
def ZR(f:Fr)(p:Pl)(a0:Act)(W:World)(listed:Array Bool)(a:Act)(w:World):Prop:=
 J3 f p a0 W (listed.getD 0 false) (listed.getD 1 false) (listed.getD 2 false) (listed.getD 3 false) (listed.getD 4 false) (listed.getD 5 false) (listed.getD 6 false) (listed.getD 7 false) a w
theorem AgQ:(Tryz.prog.info? 26).map (·.size)=some 6:=by kernel_rfl
theorem AeX:(Tryz.prog.info? 37).map (fun i=>(i.zero,i.size,i.bytes))=some (some (.agg WW),6,80):=by kernel_rfl
theorem AkR:(Tryz.prog.info? 43).map (fun i=>(i.zero,i.size,i.bytes))=some (some (.agg UZ),3,72):=by kernel_rfl
theorem Anu{id:Nat}{o0 o1 o2 o3 o4 o5 o6 o7:Oper}{a0:Act}{W:World}{Q:Exit→Act→World→Prop}(f:Fr)(hf:f.Ok)(p:Pl)(hp:p.Ok)(hw:Ai W)(b3 b4:Nat)
  (hb3:W.heap[b3]?=some (.cells #[.int .i8 f.a,.int .i8 f.b,.int .u8 f.s,.int .u8 f.t,.int .u8 f.u,.int .u8 f.v] 26)) (hb4:W.heap[b4]?=some (.cells (My p).toArray 31))
  (e3:a0.eval (.tmp 3)=ptr b3) (e4:a0.eval (.tmp 4)=ptr b4) (hs:19<a0.tmps.size)
  (p0:o0.op=.load 26 (.tmp 3)) (d0:o0.dst=some 16)
  (p1:o1.op=.call {callee:=.value (.func 6),args:=#[.tmp 16],argTypes:=#[26]}) (d1:o1.dst=some 17) (x1:(waits o1).contains 0=true)
  (p2:o2.op=.load 31 (.tmp 4)) (d2:o2.dst=some 18)
  (p3:o3.op=.call {callee:=.value (.func 7),args:=#[.tmp 18],argTypes:=#[31]}) (d3:o3.dst=some 19) (x3:(waits o3).contains 2=true)
  (p4:o4.op=.alloc 37) (d4:o4.dst=some 7)
  (p5:o5.op=.alloc 43) (d5:o5.dst=some 8)
  (p6:o6.op=.store 37 (.tmp 7) (.tmp 17)) (d6:o6.dst=none) (x6:(waits o6).contains 1=true) (x6':(waits o6).contains 4=true)
  (p7:o7.op=.store 43 (.tmp 8) (.tmp 19)) (d7:o7.dst=none) (x7:(waits o7).contains 3=true) (x7':(waits o7).contains 5=true)
  (hB:sF #[o0,o1,o2,o3,o4,o5,o6,o7]=true)
  (hend:∀a w b7 b8 n AC A B F ca cb cf m Al,AdC f a0 W a w b7 b8 n AC A B F ca cb cf m Al→Q .normal a w) :
  (Code.region id #[o0,o1,o2,o3,o4,o5,o6,o7] true).wp Tryz.prog Q a0 W:=by
 have eg1:Enters Tryz.prog 6:=enters_of Tryz.func6 (by kernel_rfl) rfl;have eg2:Enters Tryz.prog 7:=enters_of Tryz.func7 (by kernel_rfl) rfl;obtain⟨ic,iy,iR,hcs,-⟩:=info_parts AeX;obtain⟨im,jP,hmz,Gv,-⟩:=info_parts AkR;refine Aph (ZR f p a0 W) (by kernel_rfl) (fun i o ho=>(sG hB i o ho).2) (fun i o ho=>(sG hB i o ho).1) ?_ ?_ ?_
 ·unfold ZR;simp only [getD_replicate_false];exact⟨GW.refl _ _,(Aa.refl W).drew,(fun e=>by cases e),(fun e=>by cases e),(fun e=>by cases e),(fun e=>by cases e),(fun e=>by cases e),(fun e=>by cases e),(fun e=>by cases e),(fun e=>by cases e)⟩
 ·intro listed a w i o hJ hsz Dx ho Cx;have hi:i<8:=(Array.getElem?_eq_some_iff.1 ho).1;have h8:listed.size=8:=hsz;have KN:=VK Cx;have Ac:=hJ.ext;have r6:=hw.ext Ac;unfold ZR at hJ ⊢
  rcases(by omega:i=0∨i=1∨i=2∨i=3∨i=4∨i=5∨i=6∨i=7)with rfl|rfl|rfl|rfl|rfl|rfl|rfl|rfl
  all_goals simp only [List.getElem?_toArray,List.getElem?_cons_zero,List.getElem?_cons_succ,Asj]at ho
  all_goals subst ho
  ·simp only [KE (show 0<listed.size by omega),getD_set_ne false (show (0:Nat)≠1 by omega),getD_set_ne false (show (0:Nat)≠2 by omega),getD_set_ne false (show (0:Nat)≠3 by omega),getD_set_ne false (show (0:Nat)≠4 by omega),getD_set_ne false (show (0:Nat)≠5 by omega),getD_set_ne false (show (0:Nat)≠6 by omega),getD_set_ne false (show (0:Nat)≠7 by omega)];refine wp_load_row _ _ p0 b3 ((hJ.fr.eval (by unfold K3;omega)).trans e3) _ _ (0,0) _ (Ac.alive hb3) Tryz.underlying26 rfl AgQ ?_;rw [d0];exact hJ.t0 hs
  ·simp only [KE (show 1<listed.size by omega),getD_set_ne false (show (1:Nat)≠0 by omega),getD_set_ne false (show (1:Nat)≠2 by omega),getD_set_ne false (show (1:Nat)≠3 by omega),getD_set_ne false (show (1:Nat)≠4 by omega),getD_set_ne false (show (1:Nat)≠5 by omega),getD_set_ne false (show (1:Nat)≠6 by omega),getD_set_ne false (show (1:Nat)≠7 by omega)];refine AbY p1 eg1 (hJ.s0 (KN 0 x1)) (AkQ f hf w r6) ?_;rintro e w'' ⟨rfl,hx⟩;refine⟨_,rfl,?_⟩;rw [d1];exact(hJ.grow hx).t1 hs
  ·simp only [KE (show 2<listed.size by omega),getD_set_ne false (show (2:Nat)≠0 by omega),getD_set_ne false (show (2:Nat)≠1 by omega),getD_set_ne false (show (2:Nat)≠3 by omega),getD_set_ne false (show (2:Nat)≠4 by omega),getD_set_ne false (show (2:Nat)≠5 by omega),getD_set_ne false (show (2:Nat)≠6 by omega),getD_set_ne false (show (2:Nat)≠7 by omega)];refine wp_load_row _ _ p2 b4 ((hJ.fr.eval (by unfold K3;omega)).trans e4) _ _ (0,0) _ (Ac.alive hb4) Tryz.underlying31 rfl (by rw [Aah];have:=Aag hp;simp [this]) ?_;rw [d2];exact hJ.t2 hs
  ·have hl3:=Dx;rw [hl3]at hJ;simp only [KE (show 3<listed.size by omega),getD_set_ne false (show (3:Nat)≠0 by omega),getD_set_ne false (show (3:Nat)≠1 by omega),getD_set_ne false (show (3:Nat)≠2 by omega),getD_set_ne false (show (3:Nat)≠4 by omega),getD_set_ne false (show (3:Nat)≠5 by omega),getD_set_ne false (show (3:Nat)≠6 by omega),getD_set_ne false (show (3:Nat)≠7 by omega)];refine AbY p3 eg2 (hJ.s2 (KN 2 x3)) (AkP p hp w r6) ?_;rintro e w'' ⟨n,AC,A,B,F,ca,cb,cf,m,Al,hn,rfl,hM,hx,hF⟩;refine⟨_,rfl,?_⟩;rw [d3];exact hJ.t3 hs hx hn hM hF
  ·have hl4:=Dx;rw [hl4]at hJ;simp only [KE (show 4<listed.size by omega),getD_set_ne false (show (4:Nat)≠0 by omega),getD_set_ne false (show (4:Nat)≠1 by omega),getD_set_ne false (show (4:Nat)≠2 by omega),getD_set_ne false (show (4:Nat)≠3 by omega),getD_set_ne false (show (4:Nat)≠5 by omega),getD_set_ne false (show (4:Nat)≠6 by omega),getD_set_ne false (show (4:Nat)≠7 by omega)];refine AbT p4 iy iR ?_;rw [d4];exact hJ.t4 hs
  ·have jZ:=Dx;rw [jZ]at hJ;simp only [KE (show 5<listed.size by omega),getD_set_ne false (show (5:Nat)≠0 by omega),getD_set_ne false (show (5:Nat)≠1 by omega),getD_set_ne false (show (5:Nat)≠2 by omega),getD_set_ne false (show (5:Nat)≠3 by omega),getD_set_ne false (show (5:Nat)≠4 by omega),getD_set_ne false (show (5:Nat)≠6 by omega),getD_set_ne false (show (5:Nat)≠7 by omega)];refine AbT p5 jP hmz ?_;rw [d5];exact hJ.t5 hs
  ·have jk:=Dx;rw [jk,KN 1 x6,KN 4 x6']at hJ;simp only [KE (show 6<listed.size by omega),getD_set_ne false (show (6:Nat)≠0 by omega),getD_set_ne false (show (6:Nat)≠1 by omega),getD_set_ne false (show (6:Nat)≠2 by omega),getD_set_ne false (show (6:Nat)≠3 by omega),getD_set_ne false (show (6:Nat)≠4 by omega),getD_set_ne false (show (6:Nat)≠5 by omega),getD_set_ne false (show (6:Nat)≠7 by omega)];rw [KN 1 x6,KN 4 x6'];obtain⟨b,k1,k2,k3⟩:=hJ.s4 rfl;refine wp_store_row _ _ _ p6 b (OC (DT f)) k1 (hJ.s1 rfl) _ _ k3 (by rw [iy];simp [hcs,OC]) rfl (by simp [OC,S,Value.oneCell']) ?_;rw [d6];exact hJ.t6 k1
  ·have hl7:=Dx;rw [hl7,KN 3 x7,KN 5 x7']at hJ;simp only [KE (show 7<listed.size by omega),getD_set_ne false (show (7:Nat)≠0 by omega),getD_set_ne false (show (7:Nat)≠1 by omega),getD_set_ne false (show (7:Nat)≠2 by omega),getD_set_ne false (show (7:Nat)≠3 by omega),getD_set_ne false (show (7:Nat)≠4 by omega),getD_set_ne false (show (7:Nat)≠5 by omega),getD_set_ne false (show (7:Nat)≠6 by omega)];rw [KN 3 x7,KN 5 x7'];obtain⟨b,k1,k2,cs,k3,k4⟩:=hJ.s5 rfl;obtain⟨n,AC,A,B,F,ca,cb,cf,m,Al,j1,j2,-⟩:=hJ.s3 rfl;have Aig:=k4 rfl;subst Aig;refine wp_store_row _ _ _ p7 b (Lf A B F m ca cb cf) k1 j2 _ _ k3 (by rw [jP];simp [Gv,Lf]) rfl (by simp [Lf,Value.oneCell']) ?_;rw [d7];exact hJ.t7 k1 j2
 ·intro listed a w hJ hall;unfold ZR at hJ;have He:=fun i (hi:i<8)=>hall i hi;rw [He 0 (by omega),He 1 (by omega),He 2 (by omega),He 3 (by omega),He 4 (by omega),He 5 (by omega),He 6 (by omega),He 7 (by omega)]at hJ;obtain⟨b7,k1,k2,k3⟩:=hJ.s4 rfl;obtain⟨b8,j1,j2,cs,j3,j4⟩:=hJ.s5 rfl;obtain⟨n,AC,A,B,F,ca,cb,cf,m,Al,i1,i2,i3,i4,i5,i6⟩:=hJ.s3 rfl;exact hend a w b7 b8 n AC A B F ca cb cf m Al ⟨hJ.fr,hJ.ext,k1,j1,k3,i6 rfl b8 j1,i1,i3,k2,j2,i5 rfl b8 j1⟩
end
end Go.Proofs.YtdaefncphfeaeaaGreatDoor
