/- X33: O1 O2 O3 O4 O5 O6 O7 O8. -/
import Derived.Test.YtjalkoacphhgdaaGreatDoorX32
set_option maxRecDepth 100000
set_option maxHeartbeats 8000000
namespace Go.Proofs.YtjalkoacphhgdaaGreatDoor
open Go.RowKit Kl
theorem AmW(p a b:Pt){k:Nat}(hp:Ar k p)(ha:Ar k a)(hb:Ar k b)(hk:0<k)(hk2:k<=400)(w:World)(hw:Am w)(bp:Nat)(AY:w.heap[bp]?=some (.cells #[S (R p.x),S (R p.y)] 92)) :
  Calls Tryz.prog 230 #[Ak a,Ak b,.pointer (some ⟨bp,0,none⟩)] w (Ax (Dh p a b) w):=by
 have c1:=ue p a hp ha hk hk2;have c2:=ue p b hp hb hk hk2;have c3:=LQ p a b hp ha hb hk hk2;have hE:=((Aa.refl w).alloc (.cells #[S (R a.x),S (R a.y)] 92)).alloc (.cells #[S (R b.x),S (R b.y)] 92)
 have hA:(w.alloc (.cells #[S (R a.x),S (R a.y)] 92)).alloc (.cells #[S (R b.x),S (R b.y)] 92) |>.heap[w.heap.size]?=some (.cells #[S (R a.x),S (R a.y)] 92):=(Below.heap_alloc _ _ _ (by simp)).trans (AqJ w _)
 have hB:=AqJ (w.alloc (.cells #[S (R a.x),S (R a.y)] 92)) (.cells #[S (R b.x),S (R b.y)] 92);rw [AqR]at hB;have hP:=(hE.block bp (AqI AY)).trans AY
 have hr:Dh p a b=if BK p a-BK p b≠0 then BK p a-BK p b else -AH (Al p a b):=rfl
 have l1:=TO p a;have l2:=TO p b;have l3:=QR (Al p a b);obtain⟨x,hx0⟩:=AqG (BK p a);obtain⟨y,Bj⟩:=AqG (BK p b);obtain⟨z,hz0⟩:=AqG (AH (Al p a b));rw [←hx0]at c1 l1;rw [←Bj]at c2 l2;rw [←hz0]at c3 l3;rw [←hx0,←Bj,←hz0]at hr
 have w1:IntKind.i64.wrap (x-y)=x-y:=by rcases l1 with rfl|rfl<;>rcases l2 with rfl|rfl<;>rfl
 have w2:IntKind.i64.wrap (-z) = -z:=by
  obtain rfl|rfl|rfl:z = -1∨z=0∨z=1:=by omega
  all_goals rfl
 obtain⟨r,Gm⟩:=AqG (if x-y≠0 then x-y else -z:Int);rw [←Gm]at hr;rw [hr]
 have N5:∀(b o:Nat) (w:World),w.cell? ⟨b,o,none⟩=some (.int .i64 (x-y))→w.cell? ⟨b,o+1,none⟩=some (.int .i64 (-z))→Calls Tryz.prog 98 #[.slice (some ⟨b,o,none⟩) 2 2] w (Ax r w):=by intro b o w h1 h2;rw [Gm];exact XT (x-y) (-z) b o w h1 h2
 unfold Ak at c1 c2 c3 ⊢;clear hr hx0 Bj hz0 Gm hp ha hb l1 l2 l3 AY;go_enter Tryz.func230,Tryz.ntmps230
 go_upto_region 1 with fail
 generalize (w.alloc (.cells #[S (R a.x),S (R a.y)] 92)).alloc (.cells #[S (R b.x),S (R b.y)] 92)=V at *;obtain⟨ba,Aq⟩:=AqG w.heap.size;rw [←Aq]at hA hB ⊢;clear Aq;have hV:=hw.ext hE
 have SO:∀w',Aa V w'→(w'.cell? ⟨bp,0,none⟩=some (S (R p.x))/\w'.cell? ⟨bp,1,none⟩=some (S (R p.y))/\w'.cell? ⟨ba,0,none⟩=some (S (R a.x))/\w'.cell? ⟨ba,1,none⟩=some (S (R a.y))/\w'.cell? ⟨ba+1,0,none⟩=some (S (R b.x))/\w'.cell? ⟨ba+1,1,none⟩=some (S (R b.y))):=fun w' h=>⟨h.cellS (Ab hP rfl),h.cellS (Ab hP rfl),h.cellS (Ab hA rfl),h.cellS (Ab hA rfl),h.cellS (Ab hB rfl),h.cellS (Ab hB rfl)⟩
 have X0:Aa V V.drew:=(Aa.refl V).drew;clear hA hB hP
 go_region_held3 (fun w'=>w'.cell? ⟨bp,0,none⟩=some (S (R p.x))/\w'.cell? ⟨bp,1,none⟩=some (S (R p.y))/\w'.cell? ⟨ba,0,none⟩=some (S (R a.x))/\w'.cell? ⟨ba,1,none⟩=some (S (R a.y))/\w'.cell? ⟨ba+1,0,none⟩=some (S (R b.x))/\w'.cell? ⟨ba+1,1,none⟩=some (S (R b.y)))
  (first|with_reducible exact SO _ X0|with_reducible exact SO _ X5|with_reducible exact SO _ X6|with_reducible exact SO _ X7|with_reducible exact SO _ (X7.alloc _)|with_reducible exact SO _ X8)
  (first|((with_reducible refine(c1 _ (hV.ext X0)).mono ?_);rintro e w5 ⟨rfl,Ae⟩;have X5:Aa V w5:=X0.trans Ae)|((with_reducible refine(c2 _ (hV.ext X5)).mono ?_);rintro e w6 ⟨rfl,Ay⟩;have X6:Aa V w6:=X5.trans Ay)|((with_reducible refine(c3 _ (hV.ext X6)).mono ?_);rintro e w7 ⟨rfl,Aw⟩;have X7:Aa V w7:=X6.trans Aw;have CX:=AqJ w7 (.cells #[.int .i64 (x-y),.int .i64 (-z)] 3);have g0:=Ab (o:=0) CX rfl;have g1:=Ab (o:=1) CX rfl;clear CX)|((with_reducible refine(N5 w7.heap.size 0 _ g0 g1).mono ?_);rintro e w8 ⟨rfl,Bd⟩;have X8:Aa V w8:=(X7.alloc _).trans Bd))
 go_wp2;go_ret;exact⟨rfl,hE.trans X8⟩
section
open Go.Sort Go.Shelf
structure RD(p:Pt)(l:List Pt):Prop where
 sz:∀q∈l,Ar 200 q
 ne:∀q∈l,q≠p
 ap:∀a∈l,∀b∈l,Dh p a b=0→a=b
abbrev JK(l:List Pt):={q:Pt // q∈l}
def Ea(p:Pt)(l:List Pt):List Pt:=l.mergeSort (fun a b=>!decide (Dh p b a<0))
theorem Yt(p:Pt)(l:List Pt):(Ea p l).Perm l:=List.mergeSort_perm _ _
def NY(p:Pt)(l:List Pt)(a b:JK l):Int:=Dh p a.1 b.1
theorem Sc{p:Pt}{l:List Pt}(x y:JK l):ltOf (NY p l) x y=decide (Dh p x.1 y.1<0):=rfl
theorem Ael(p a:Pt):Dh p a a=0:=(tV p a a).2 ⟨rfl,Acv p a⟩
theorem AmK(q:Rat):AH (-q) = -AH q:=by unfold AH;grind
theorem Aek(p a b:Pt):Dh p b a = -Dh p a b:=by
 unfold Dh;rw [ZC,AmK]
 split<;>split<;>omega
theorem tW{p:Pt}{l:List Pt}(h:RD p l):SWO (ltOf (NY p l)) where
 irrefl x:=by rw [Sc,decide_eq_false_iff_not,Ael];omega
 trans x y z h1 h2:=by rw [Sc,decide_eq_true_iff]at *;exact Aeq (h.ne _ x.2) (h.ne _ y.2) (h.ne _ z.2) h1 h2
 ntrans x y z h1 h2:=by rw [Sc,decide_eq_false_iff_not]at *;exact Aeo (h.ne _ x.2) (h.ne _ y.2) (h.ne _ z.2) h1 h2
theorem Aep{p:Pt}{l:List Pt}(h:RD p l)(x y:JK l)(h1:ltOf (NY p l) x y=false)(h2:ltOf (NY p l) y x=false):x=y:=by
 rw [Sc,decide_eq_false_iff_not]at h1 h2;have:=Aek p x.1 y.1;exact Subtype.ext (h.ap _ x.2 _ y.2 (by omega))
def MA{l:List Pt}(q:JK l):List Value:=[S (R q.1.x),S (R q.1.y)]
theorem aK{l:List Pt}(q:JK l):(MA q).length=2:=rfl
theorem Ae7{l:List Pt}(q:JK l):∀v∈MA q,v.oneCell'=true:=by
 intro v hv;simp only [MA,List.mem_cons,AqV,or_false]at hv
 rcases hv with rfl|rfl<;>rfl
theorem uK{l:List Pt}(m:List (JK l)):m.flatMap MA=flat (Ao (m.map (·.1))):=by
 induction m with
 | nil=>rfl
 | cons x m ih=>
  rw [List.flatMap_cons,ih]
  rfl
theorem Aen{p:Pt}{l:List Pt}(h:RD p l)(hp:Ar 200 p)[Inhabited (JK l)]{w0 w:World}(hw:Am w0)(hx:Aa w0 w){blk bp:Nat}(hb:w0.heap.size<=blk)(AY:w.heap[bp]?=some (.cells #[S (R p.x),S (R p.y)] 92))(hne:bp≠blk)(off size:Nat) :
  CmpLays Tryz.prog 230 #[.pointer (some ⟨bp,0,none⟩)] MA 2 (NY p l) blk off size w:=by
 refine Xt fun W hg x y=>?_;have hbW:=(hg.block bp (AqI AY) (by intro e;cases e;exact hne rfl)).trans AY;exact AmW p x.1 y.1 hp (h.sz _ x.2) (h.sz _ y.2) (by omega) (by omega) W (hw.ext (MB hx hg hb)) bp hbW
theorem AmX{p:Pt}{l:List Pt}(h:RD p l)(hp:Ar 200 p)(hl:l≠[])(hlen:l.length<100000){w0 w:World}(hw:Am w0)(hx:Aa w0 w){v:Value}(hv:w.ownsRow w0.heap.size 92 2 v l.length (flat (Ao l)))
  {bp:Nat} (AY:w.heap[bp]?=some (.cells #[S (R p.x),S (R p.y)] 92)) (hne:v.ownBlock≠some bp) :
  Calls Tryz.prog 187 #[v,.func (.func 230) #[] #[.pointer (some ⟨bp,0,none⟩)]] w fun e w'=>
   e=.returned (.tuple #[])/\w.grownBy w' v.ownBlock/\w'.ownsRow w0.heap.size 92 2 v l.length (flat (Ao (Ea p l))):=by
 obtain⟨q0,AG⟩:=List.exists_mem_of_ne_nil l hl
 haveI:Inhabited (JK l):=⟨⟨q0,AG⟩⟩
 obtain⟨d,hd⟩:=AqG (l.attach.toArray:Array (JK l));have CY:d.size=l.length:=(by rw [hd];simp);have MY:d.toList.map (·.1)=l:=by rw [hd];simp
 have hv':w.ownsRow w0.heap.size 92 2 v d.size (d.toList.flatMap MA):=by rw [uK,MY,CY];exact hv
 have BW:0<d.size:=(by rw [CY];exact List.length_pos_iff.2 hl);obtain⟨g,cap,rfl,hgb,Oz,hH,hown⟩:=WV aK (by omega) hv' BW;have eg:∀args w,(callFunc 230 args).run Tryz.prog w=.ok (.enter 230 args) w:=enters_of Tryz.func230 (by kernel_rfl) rfl;have hbg:bp≠g:=(by intro e;rw [e]at hne;exact hne rfl);refine(AnyQ.slices_SortFunc Tryz.laysSortPt 2 Tryz.isAgg92 Tryz.sizeOf92 MA aK Ae7 (NY p l) (tW h) 230 #[.pointer (some ⟨bp,0,none⟩)] g 0 cap d w eg (Aen h hp hw hx hgb AY hbg 0 d.size) hH Oz (by omega)).mono ?_;rintro e w' ⟨he,d',n,os,h1,h2,rfl⟩;have hu:=sorted_unique_holds (lt:=ltOf (NY p l)) (tW h) (Aep h) d d' h1 h2;have hsz:d'.size=d.size:=(by have:=congrArg List.length hu;simpa using this);refine⟨he,Oa MA 2 w g 0 n d' os,?_⟩;have ho:=QD (aK (l:=l)) (by omega) hv' hsz n os;rw [uK]at ho
 have hm:d'.toList.map (·.1)=Ea p l:=by rw [hu];unfold Ea;rw [List.map_mergeSort (s:=fun a b=>!decide (Dh p b a<0)) (fun a _ b _=>by rw [Sc]),MY]
 rw [hm,CY]at ho;rw [CY];exact ho
end
section
open Go.ChangeMaps (setBlock)
def Ib(R0:List (Pt×List Pt))(seen:List Nat):List (Pt×List Pt):=R0.mapIdx fun i e=>if i∈seen then (e.1,Ea e.1 e.2)else e
theorem OQ(R0:List (Pt×List Pt))(seen:List Nat):(Ib R0 seen).length=R0.length:=by simp [Ib]
theorem QO(R0:List (Pt×List Pt))(seen:List Nat){i:Nat}(h:i<R0.length)(h':i<(Ib R0 seen).length):(Ib R0 seen)[i]=if i∈seen then (R0[i].1,Ea R0[i].1 R0[i].2)else R0[i]:=by
 simp [Ib]
theorem Amz(R0:List (Pt×List Pt)):Ib R0 []=R0:=by
 apply List.ext_getElem
 ·exact OQ _ _
 ·intro i h1 h2;rw [QO R0 [] h2 h1,if_neg (by simp)]
theorem Amy(R0:List (Pt×List Pt)){seen:List Nat}(h:∀i,i<R0.length→i∈seen):Ib R0 seen=R0.map (fun e=>(e.1,Ea e.1 e.2)):=by
 apply List.ext_getElem
 ·rw [OQ];simp
 ·intro i h1 h2;have h3:i<R0.length:=(by simpa using h2);rw [QO R0 seen h3 h1,if_pos (h i h3)];simp
theorem Am0(R0:List (Pt×List Pt))(seen:List Nat){i:Nat}(hi:i<R0.length)(hn:i∉seen)(h':i<(Ib R0 seen).length):Ib R0 (seen ++ [i])=(Ib R0 seen).set i ((Ib R0 seen)[i].1,Ea R0[i].1 R0[i].2):=by
 apply List.ext_getElem
 ·rw [List.length_set,OQ,OQ]
 ·intro j h1 h2;have hj:j<R0.length:=(by rw [OQ]at h1;exact h1);rw [QO R0 _ hj h1];by_cases Bc:i=j
  ·subst Bc;rw [List.getElem_set_self,QO R0 seen hj h',if_pos (by simp),if_neg hn]
  ·rw [List.getElem_set_ne Bc,QO R0 seen hj (by rw [OQ];exact hj)];have:j∈seen ++ [i]↔j∈seen:=(by simp;intro e;exact absurd e.symm Bc);simp only [this]
theorem Bw.other{B:Nat}{W W':World}{r b1 b2:Nat}{L:List (Sg×Int)}{E:List (Pt×Value×Nat)}{R0:List (Pt×List Pt)}(h:Bw B W r b1 b2 L E R0){k:Nat}{o:Obj}(hg:W.grownBy W' (some k))(ho:W.heap[k]?=some o)
  (hc:∀cs e,o≠.cells cs e (0,0)) (hm:∀es c,o≠.map es c):Bw B W' r b1 b2 L E R0:=by
 have far:∀(j:Nat) (o':Obj),W.heap[j]?=some o'→o'≠o→W'.heap[j]?=some o':=by intro j o' hj hne;refine(hg.block j (AqI hj) ?_).trans hj;intro e;simp only [AqO]at e;subst e;rw [hj]at ho;simp only [AqO]at ho;exact hne ho
 refine⟨far _ _ h.cell (fun e=>hc _ _ e.symm),far _ _ h.left (fun e=>hm _ _ e.symm),⟨far _ _ h.ar.blk (fun e=>hm _ _ e.symm),h.ar.len,fun i hi hi'=>⟨(h.ar.row i hi hi').1,(h.ar.row i hi hi').2.1,(h.ar.row i hi hi').2.2.kept hg ?_⟩,h.ar.apart,h.ar.own⟩,h.r0,h.r1,h.ne⟩
 rcases(h.ar.row i hi hi').2.2.2 with⟨hv,_⟩|⟨g,cap,cur,hv,_,hgb,_⟩
 ·left;rw [hv];rfl
 ·right
  rw [hv];simp only [Value.ownBlock,ne_eq,AqO];intro e;subst e;rw [hgb]at ho;simp only [AqO]at ho;exact hc _ _ ho.symm
theorem Bw.sorted{B:Nat}{W W':World}{r b1 b2:Nat}{L:List (Sg×Int)}{E:List (Pt×Value×Nat)}{R0:List (Pt×List Pt)}(h:Bw B W r b1 b2 L E R0){i:Nat}(hi:i<E.length)(hi':i<R0.length){l':List Pt}(hl:l'.length=R0[i].2.length)
  (hg:W.grownBy W' E[i].2.1.ownBlock) (ho:W'.ownsRow B 92 2 E[i].2.1 R0[i].2.length (flat (Ao l'))):Bw B W' r b1 b2 L E (R0.set i (R0[i].1,l')):=by
 have far:∀(j:Nat) (o':Obj),W.heap[j]?=some o'→(∀cs,o'≠.cells cs 92 (0,0))→W'.heap[j]?=some o':=by
  intro j o' hj hne;refine(hg.block j (AqI hj) ?_).trans hj;intro e
  rcases(h.ar.row i hi hi').2.2.2 with⟨hv,_⟩|⟨g,cap,cur,hv,_,hgb,_⟩
  ·rw [hv]at e;simp [Value.ownBlock]at e
  ·rw [hv]at e;simp only [Value.ownBlock,AqO]at e;subst e;rw [hgb]at hj;simp only [AqO]at hj;exact hne _ hj.symm
 refine⟨far _ _ h.cell (fun cs e=>by cases e),far _ _ h.left (fun cs e=>by cases e),⟨far _ _ h.ar.blk (fun cs e=>by cases e),by rw [List.length_set];exact h.ar.len,fun j hj hj'=>?_,h.ar.apart,h.ar.own⟩,h.r0,h.r1,h.ne⟩;have Ng:j<R0.length:=(by rw [List.length_set]at hj';exact hj');by_cases Bc:i=j
 ·subst Bc;rw [List.getElem_set_self];refine⟨(h.ar.row i hi hi').1,(h.ar.row i hi hi').2.1,?_⟩;simp only [hl];exact ho
 ·rw [List.getElem_set_ne Bc];exact⟨(h.ar.row j hj Ng).1,(h.ar.row j hj Ng).2.1,(h.ar.row j hj Ng).2.2.kept hg (h.ar.apart j i hj hi (fun e=>Bc e.symm))⟩
structure pY(R0:List (Pt×List Pt)):Prop where
 row:∀e∈R0,RD e.1 e.2
 sz:∀e∈R0,Ar 200 e.1
 ne:∀e∈R0,e.2≠[]
 len:∀e∈R0,e.2.length<100000
theorem BF.iter{b2:Nat}{w a b:World}{it:Nat}(h:BF b2 w a)(hg:a.grownBy b (some it))(hi:w.heap.size<=it):BF b2 w b:=by
 refine⟨AqU h.1 hg.size,fun k o h1 h2 h3=>?_⟩;have h4:=h.2 k o h1 h2 h3;have:=AqI h1;exact(hg.block k (AqI h4) (by simp;omega)).trans h4
theorem BF.row{b2:Nat}{w a b:World}{v:Value}{B n:Nat}{xs:List Value}(h:BF b2 w a)(hg:a.grownBy b v.ownBlock)(ho:a.ownsRow B 92 2 v n xs):BF b2 w b:=by
 refine⟨AqU h.1 hg.size,fun k o h1 h2 h3=>?_⟩;have h4:=h.2 k o h1 h2 h3;refine(hg.block k (AqI h4) ?_).trans h4;intro e
 rcases ho.2 with⟨hv,_⟩|⟨g,cap,cur,hv,_,hgb,_⟩
 ·rw [hv]at e;simp [Value.ownBlock]at e
 ·rw [hv]at e;simp only [Value.ownBlock,AqO]at e;subst e;rw [hgb]at h4;simp only [AqO]at h4;exact h3 _ h4.symm
theorem AmH{n:Nat}{seen:List Nat}(Cc:seen.Nodup)(hlt:∀i∈seen,i<n)(hlen:seen.length=n):∀i,i<n→i∈seen:=by
 intro i hi;refine Classical.byContradiction fun hn=>?_;have h1:(i::seen).Nodup:=List.nodup_cons.2 ⟨hn,Cc⟩
 have h2:(i::seen) ⊆ List.range n:=by
  intro j hj
  rcases List.mem_cons.1 hj with rfl|hj
  ·simpa using hi
  ·simpa using hlt j hj
 have:=h1.length_le_of_subset h2;simp at this;omega
theorem sort_c{w0 w:World}(hw:Am w0)(hx:Aa w0 w){r b1 b2:Nat}{L:List (Sg×Int)}{E:List (Pt×Value×Nat)}{R0:List (Pt×List Pt)}(h:Bw w0.heap.size w r b1 b2 L E R0)(hR:pY R0) :
  Calls Tryz.prog 155 #[.pointer (some ⟨r,0,none⟩)] w fun e w'=>e=.returned (.tuple #[])/\Aa w0 w'/\BF b2 w w'/\Bw w0.heap.size w' r b1 b2 L E (R0.map (fun e=>(e.1,Ea e.1 e.2))):=by
 have n1:=Ab (o:=1) h.cell rfl;obtain⟨hr1,hr2⟩:=CC.range (enc:=Ak) (E:=E) (t:=132) Tryz.underlying132 (W:=w) (b:=b2) h.ar.blk;have hX1:=hx.alloc (.mapIter (some b2) E.length #[] E.length);have hS1:BF b2 w (w.alloc (.mapIter (some b2) E.length #[] E.length)):=BF.of_ext ((Aa.refl w).alloc _);have Hp:=h.ext ((Aa.refl w).alloc (.mapIter (some b2) E.length #[] E.length));have HR:=AqH hR;have JZ:=h.ar.len;have hst:∀i (h':i<E.length),E[i].2.2=i:=fun i hi=>(h.ar.row i hi (by rw [←JZ];exact hi)).2.1;have hit:w.heap.size<=w.heap.size:=AqK _;have hB:=hx.size;have hlt2:=h.ar.lt;have HST:=AqH hst;have Pe:=AqH JZ;clear hst hR JZ;go_enter Tryz.func155,Tryz.ntmps155
 go_upto_region 1 with fail
 generalize w.alloc (.mapIter (some b2) E.length #[] E.length)=V at *;obtain⟨it,bj⟩:=AqG w.heap.size;have Ahd:w.heap.size<=it:=(by omega);rw [←bj]at hr2 ⊢;clear hr1 bj hit h n1
 go_loopw [3] (fun _ wr=>∃(seen:List Nat),CC wr it b2 E seen/\Aa w0 wr/\BF b2 w wr/\Bw w0.heap.size wr r b1 b2 L E (Ib R0 seen)) (fun _ wr=>E.length-(wr.iterSeen it).size)
 case atStart=>exact⟨[],hr2,hX1,hS1,by rw [Amz];exact Hp⟩
 case round=>
  obtain⟨seen,hI,BL,MN,PO⟩:=hrel
  rcases CC.next Ak hI PO.ar.blk HST.out (by omega) 0 with⟨hlen,hrun⟩|⟨i,hi,GA,W1,Gd,hG1,hs1,hrun,hen⟩
  ·have hall:=Amy R0 (AmH hI.nd (by rw [←Pe.out];exact hI.lt) (by rw [←Pe.out];exact hlen));rw [hall]at PO;have HN:=AqH PO;clear PO hI;go_wp2
   go_end0
   exact⟨rfl,BL,MN,HN.out⟩
  ·have Lx:i<R0.length:=(by rw [←Pe.out];exact hi);have WC:i<(Ib R0 seen).length:=(by rw [OQ];exact Lx);have Dy:=EO hI
   have hlen':seen.length<E.length:=by
    have h2:(i::seen) ⊆ List.range E.length:=by
     intro j hj
     rcases List.mem_cons.1 hj with rfl|hj
     ·simpa using hi
     ·simpa using hI.lt j hj
    have:=(List.nodup_cons.2 ⟨GA,hI.nd⟩).length_le_of_subset h2;simp at this;omega
   have CH:Aa w0 W1:=MB BL hG1 (by omega);have xK:=MN.iter hG1 Ahd;have Kb:=PO.other hG1 hI.it (fun _ _ e=>by cases e) (fun _ _ e=>by cases e);have G7:=hen W1 rfl rfl;have hrow:=Kb.ar.row i hi WC;have Em:=QO R0 seen Lx WC;rw [if_neg GA]at Em;have hkey:E[i].1=R0[i].1:=(by rw [hrow.1,Em]);have hown:=hrow.2.2;rw [Em]at hown;have Aj:=HR.out.row R0[i] (AqL Lx);have Nl:=HR.out.sz R0[i] (AqL Lx);have Jl:=HR.out.ne R0[i] (AqL Lx);have Dx:=HR.out.len R0[i] (AqL Lx);have CO:=Am0 R0 seen Lx GA WC;obtain⟨v,hv⟩:=AqG (E[i].2.1);obtain⟨p,hp⟩:=AqG (R0[i].1);obtain⟨l,hl⟩:=AqG (R0[i].2);rw [hkey,←hp,←hv]at G7;rw [hkey,←hp,←hv]at hrun;rw [←hv,←hl]at hown;rw [←hp,←hl]at Aj CO;rw [←hp]at Nl;rw [←hl]at Jl Dx;have BU:=AqJ W1 (.cells #[S (R p.x),S (R p.y)] 92);have E3:=(Aa.refl W1).alloc (.cells #[S (R p.x),S (R p.y)] 92);have Di:=CH.trans E3;have cT:=xK.trans (BF.of_ext E3);have G2:=Kb.ext E3;have S2:=Gd.keep (E3.block it (AqI Gd.it))
   have CL:(W1.alloc (.cells #[S (R p.x),S (R p.y)] 92)).ownsRow w0.heap.size 92 2 v l.length (flat (Ao l)):=hown.kept (G0 E3 none) (by
    rcases hv':v.ownBlock with _|g
    ·exact .inl rfl
    ·exact .inr (by simp))
   have fO:v.ownBlock≠some W1.heap.size:=by
    rcases hown.2 with⟨e,_⟩|⟨g,cap,cur,e,_,hgb,_⟩
    ·rw [e];simp [Value.ownBlock]
    ·rw [e];have:=AqI hgb;simp only [Value.ownBlock,ne_eq,AqO];omega
   have cs:=AmX Aj Nl Jl Dx hw Di CL BU fO;have HV:=AqH hv;have HL:=AqH (And.intro hl Em);have Ii:=AqH CO;clear hen hrow hkey hown Aj Nl Jl Dx BU Kb CH xK PO BL MN hI Gd hv hp hl Em CO hG1 E3;unfold Ak at G7 hrun
   go_upto_region 3 with fail
   unfold S at Di cT G2 S2 CL cs;rw [hs1]at cs;generalize (W1.alloc (.cells #[.string ⟨(R p.x).toArray⟩,.string ⟨(R p.y).toArray⟩] 92))=W3 at *;(go_wp2_with fail);(with_reducible refine cs.mono ?_);rintro e W4 ⟨rfl,hg4,Cd⟩
   have Dt:=S2.keep (hg4.block it (AqI S2.it) (by
    intro e
    rcases CL.2 with⟨e2,_⟩|⟨g,cap,cur,e2,_,hgb,_⟩
    ·rw [e2]at e;simp [Value.ownBlock]at e
    ·rw [e2]at e;simp only [Value.ownBlock,AqO]at e;subst e;have:=S2.it;rw [hgb]at this
     cases this))
   have Iy:Aa w0 W4:=Di.grownOwn hg4 CL (AqK _);have hS4:=cT.row hg4 CL;have Hq:=G2.sorted hi WC (l':=Ea p l) (by rw [HL.out.2,←HL.out.1];exact(Yt p l).length_eq) (by rw [←HV.out];exact hg4) (by rw [←HV.out,HL.out.2,←HL.out.1];exact Cd);rw [←Ii.out]at Hq;have HN4:=AqH Hq;clear Hq G2 CL Cd hg4 cs S2 Di cT;go_wp2;go_roundw
   case rel=>exact⟨seen ++ [i],Dt,Iy,hS4,HN4.out⟩
   case measure=>rw [Dy,EO Dt,List.length_append,List.length_singleton];omega
end
section
open Go.ChangeMaps (setBlock)
section
variable {α : Type} {enc : α → Value} {same : α → α → Bool}
theorem lV{mt kt et:TypeId}{z:Value}(K:JJ mt kt et z enc same)(k:α)(l:List (α×Value×Nat))(hno:∀e∈l,same k e.1=false)(v:Value){b clock:Nat}{W:World}(hb:W.heap[b]?=some (.map (AB enc l).toArray clock)) :
  (Instr.mapUpdate mt (.map (some b)) (enc k) v).run Tryz.prog W=.ok () (setBlock W b (.map (AB enc (l ++ [(k,v,clock)])).toArray (clock+1))):=by
 have hf:=Sq K k l W
 have hi:Ft same k l=none:=by unfold Ft;rw [List.findIdx?_eq_none_iff];exact hno
 rw [hi]at hf;simp only [Option.bind_none]at hf
 have e0:AB enc l ++ [{key:=enc k,val:=v,born:=clock}]=AB enc (l ++ [(k,v,clock)]):=by simp [AB]
 simp [Instr.mapUpdate,run_underlying K.map,MapKept.run_getObj_map hb,K.chk,hf,MapKept.run_setObj_map _ hb,Result.andThen,setBlock,e0]
end
theorem mf:JJ 285 155 4 (.bool false) As AL where
 map:=Tryz.underlying285
 st:=⟨_,Tryz.underlying155⟩
 zero:=fun W=>by simp [go_sem]
 eq:=uS
 chk:=sE
 iff:=II
 bits:=fun x=>by unfold As;simp [Instr.sameBits,beq_toListBytes]
def J5(L:List (Sg×Value)):List (Sg×Value×Nat):=L.mapIdx fun i e=>(e.1,e.2,i)
theorem Anu(L:List (Sg×Value))(e:Sg×Value):J5 (L ++ [e])=J5 L ++ [(e.1,e.2,L.length)]:=by simp [J5,List.mapIdx_append]
theorem Ant{L:List (Sg×Value)}{x:Sg×Value×Nat}(h:x∈J5 L):∃e∈L,x.1=e.1/\x.2.1=e.2:=by
 unfold J5 at h;rw [List.mem_mapIdx]at h;obtain⟨i,hi,rfl⟩:=h;exact⟨L[i],AqL hi,rfl,rfl⟩
def Xx(z:Value)(k:Sg)(L:List (Sg×Value)):Value:=match L.find? (fun e=>AL k e.1)with|some e=>e.2|none=>z
theorem Ajt(z:Value)(k:Sg)(L:List (Sg×Value)):Fu AL z k (J5 L)=Xx z k L:=by
 have h:∀(L:List (Sg×Value)) (n:Nat),(L.mapIdx fun i e=>(e.1,e.2,i+n)).find? (fun e=>AL k e.1)=(L.findIdx? (fun e=>AL k e.1)).bind fun j=>(L[j]?).map fun e=>(e.1,e.2,j+n):=by
  intro L
  induction L with
  | nil=>intro n;simp
  | cons e L ih=>
   intro n;rw [List.mapIdx_cons,List.find?_cons,List.findIdx?_cons];simp only
   cases hb:AL k e.1
   ·simp only;have:=ih (n+1)
    have e1:(L.mapIdx fun i e=>(e.1,e.2,i+1+n))=L.mapIdx fun i e=>(e.1,e.2,i+(n+1)):=by congr 1;funext i e;rw [show i+1+n=i+(n+1)by omega]
    rw [e1,this]
    cases L.findIdx? (fun e=>AL k e.1)with
    | none=>simp
    | some j=>
     simp only [Bool.false_eq_true,if_false,Option.map_some,Option.bind_some,List.getElem?_cons_succ]
     congr 1;funext e;rw [show j+(n+1)=j+1+n by omega]
   ·simp
 have h2:∀(L:List (Sg×Value)),L.find? (fun e=>AL k e.1)=(L.findIdx? (fun e=>AL k e.1)).bind fun j=>L[j]?:=by
  intro L
  induction L with
  | nil=>simp
  | cons e L ih=>
   rw [List.find?_cons,List.findIdx?_cons]
   cases hb:AL k e.1
   ·simp only [ih]
    cases L.findIdx? (fun e=>AL k e.1)<;>simp
   ·simp
 unfold Fu Xx J5;have h0:=h L 0;simp only [Nat.add_zero]at h0;rw [h0,h2]
 cases L.findIdx? (fun e=>AL k e.1)with
 | none=>rfl
 | some j=>
  simp only [Option.bind_some]
  cases L[j]?<;>rfl
def IM(U:List Sg):List (Sg×Value):=U.map fun s=>(s,.bool true)
def DT(W:World)(b:Nat)(U:List Sg):Prop:=W.heap[b]?=some (.map (AB As (J5 (IM U))).toArray U.length)
theorem Ajv(k:Sg)(U:List Sg):Xx (.bool false) k (IM U)=.bool (U.any (AL k)):=by
 induction U with
 | nil=>rfl
 | cons u U ih=>
  unfold Xx IM at *;rw [List.map_cons,List.find?_cons,List.any_cons]
  cases hb:AL k u
  ·simp only [Bool.false_or];exact ih
  ·simp
theorem DT.look{W:World}{b:Nat}{U:List Sg}(h:DT W b U)(s:Sg):(Instr.lookup 285 (.map (some b)) (As s) false).run Tryz.prog W=.ok (.bool (U.any (AL s))) W:=by
 rw [QQ mf s (J5 (IM U)) h,Ajt,Ajv]
theorem DT.put{W:World}{b:Nat}{U:List Sg}(h:DT W b U)(s:Sg)(hno:U.any (AL s)=false) :
  ∃W',(Instr.mapUpdate 285 (.map (some b)) (As s) (.bool true)).run Tryz.prog W=.ok () W'/\DT W' b (U ++ [s])/\W.grownBy W' (some b)/\W'.heap.size=W.heap.size:=by
 refine⟨_,lV mf s (J5 (IM U)) ?_ (.bool true) h,?_,Ld h,by simp [setBlock]⟩
 ·intro e he;obtain⟨x,hx,h1,_⟩:=Ant he;unfold IM at hx;rw [List.mem_map]at hx;obtain⟨u,hu,rfl⟩:=hx;rw [h1];rw [List.any_eq_false]at hno
  simpa using hno u hu
 ·unfold DT;rw [LX h];have e1:IM (U ++ [s])=IM U ++ [(s,.bool true)]:=(by simp [IM]);have e2:(IM U).length=U.length:=(by simp [IM]);rw [e1,Anu,e2];simp
structure Au(K:Nat→Prop)(w w':World):Prop where
 os:w'.os=w.os
 tape:w'.tape=w.tape
 output:w'.output=w.output
 size:w.heap.size<=w'.heap.size
 block:∀k,k<w.heap.size→¬K k→w'.heap[k]?=w.heap[k]?
theorem Au.refl(K:Nat→Prop)(w:World):Au K w w:=⟨rfl,rfl,rfl,AqK _,fun _ _ _=>rfl⟩
theorem Au.ext{K:Nat→Prop}{w a b:World}(h:Au K w a)(hx:Aa a b):Au K w b:=
 ⟨hx.os.trans h.os,hx.tape.trans h.tape,hx.output.trans h.output,AqU h.size hx.size,fun k hk hn=>(hx.block k (AqT hk h.size)).trans (h.block k hk hn)⟩
theorem Au.grown{K:Nat→Prop}{w a b:World}{row:Option Nat}(h:Au K w a)(hg:a.grownBy b row)(hr:∀k,row=some k→K k∨w.heap.size<=k):Au K w b:=by
 refine⟨hg.os.trans h.os,hg.tape.trans h.tape,hg.output.trans h.output,AqU h.size hg.size,fun k hk hn=>(hg.block k (AqT hk h.size) ?_).trans (h.block k hk hn)⟩;intro e
 rcases hr k e.symm with h1|h1
 ·exact hn h1
 ·omega
theorem Au.own{K:Nat→Prop}{w a b:World}{B:Nat}{e:TypeId}{s n:Nat}{v:Value}{xs:List Value}(h:Au K w a)(hg:a.grownBy b v.ownBlock)(ho:a.ownsRow B e s v n xs)(hB:w.heap.size<=B):Au K w b:=
 h.grown hg fun k hk=>.inr (AqU hB (ho.lt k hk).1)
theorem Au.cells{K:Nat→Prop}{w a:World}{k:Nat}{o:Obj}(h:Au K w a)(hk:w.heap[k]?=some o)(hn:¬K k):a.heap[k]?=some o:=(h.block k (AqI hk) hn).trans hk
theorem Au.setCell{K:Nat→Prop}{w a:World}(h:Au K w a){p:Addr}(hp:K p.block∨w.heap.size<=p.block)(v:Value):Au K w (a.setCell p v):=by
 refine⟨h.os,h.tape,h.output,by rw [World.size_setCell];exact h.size,fun k hk hn=>?_⟩
 have hne:k≠p.block:=by
  intro e
  rcases hp with hp|hp
  ·exact hn (e▸hp)
  ·omega
 rw [Below.heap_setCell _ _ _ _ hne];exact h.block k hk hn
theorem Au.toExt{K:Nat→Prop}{w0 w a:World}(h:Au K w a)(hx:Aa w0 w)(hK:∀k,K k→w0.heap.size<=k):Aa w0 a:=
 ⟨h.os.trans hx.os,h.tape.trans hx.tape,h.output.trans hx.output,AqU hx.size h.size,fun k hk=>(h.block k (AqT hk hx.size) (fun hh=>by have:=hK k hh;omega)).trans (hx.block k hk)⟩
theorem Au.trans{K:Nat→Prop}{a b c:World}(h:Au K a b)(k:Au K b c):Au K a c:=
 ⟨k.os.trans h.os,k.tape.trans h.tape,k.output.trans h.output,AqU h.size k.size,fun i hi hn=>(k.block i (AqT hi h.size) hn).trans (h.block i hi hn)⟩
theorem Bw.but{B:Nat}{W W':World}{r b1 b2:Nat}{L:List (Sg×Int)}{E:List (Pt×Value×Nat)}{R0:List (Pt×List Pt)}(h:Bw B W r b1 b2 L E R0){K:Nat→Prop}(hb:Au K W W')(hK:∀k,k<W.heap.size→¬K k):Bw B W' r b1 b2 L E R0:=
 h.ext ⟨hb.os,hb.tape,hb.output,hb.size,fun k hk=>hb.block k hk (hK k hk)⟩
theorem Tryz.infoStep:(Tryz.prog.info? 155).map (fun i=>(i.zero,i.size,i.bytes))=some (some (.agg #[S [],S [],S [],S []]),4,64):=by kernel_rfl
section
variable {ops : Array Oper} {rest : List Oper} {o : Oper} {a : Act} {Q : Exit → Act → World → Prop}
theorem Aco(hgd:o.guard=none)(s x:Operand)(ho:o.op=.call {callee:=.builtin .append,args:=#[s,x],argTypes:=#[160,160]})
  (wN:World) (base:Nat) (v:Value) (n:Nat) (l:List Sg) (hs:a.eval s=v) (hown:wN.ownsRow base 155 4 v n (BS l)) (hn:n<200000) (d:Sg)
  (g:Nat) (hb:wN.heap[g]?=some (.cells #[S (R d.a.x),S (R d.a.y),S (R d.b.x),S (R d.b.y)] 155)) (hx:a.eval x=.slice (some ⟨g,0,none⟩) 1 1) (hbase:base<=wN.heap.size)
  (h:∀v' w',w'.ownsRow base 155 4 v' (n+1) (BS (l ++ [d]))→wN.grownBy w' v.ownBlock→wpList Tryz.prog ops Q rest (a.put o.dst v') w') :
  wpList Tryz.prog ops Q (o::rest) a wN:=by
 obtain⟨i0,hi,hz0,hz1,hz2⟩:=info_parts Tryz.infoStep;refine wpList_plain hgd fun K hK=>QX s x 160 ho 155 i0 _ 4 64 Tryz.underlying160 hi hz0 hz1 hz2 rfl (by omega) (by omega) wN base v n _ hs hown hn g _ hb rfl ?_ hx hbase ?_
 ·intro u hu;simp only [List.mem_cons,AqV,or_false]at hu
  rcases hu with rfl|rfl|rfl|rfl<;>rfl
 ·intro v' w' h1 _ h3;exact hK _ _ (h v' w' (by rw [xj];exact h1) h3)
theorem Tryz.infoSteps:(Tryz.prog.info? 160).map (fun i=>(i.zero,i.size,i.bytes))=some (some (.slice none 0 0),1,24):=by kernel_rfl
theorem appRow(hgd:o.guard=none)(s x:Operand)(ho:o.op=.call {callee:=.builtin .append,args:=#[s,x],argTypes:=#[209,209]})
  (wN:World) (base:Nat) (v:Value) (n:Nat) (vs:List Value) (hs:a.eval s=v) (hown:wN.ownsRow base 160 1 v n vs) (hn:n<200000) (d:Value) (hd:d.oneCell'=true)
  (g:Nat) (hb:wN.heap[g]?=some (.cells #[d] 160)) (hx:a.eval x=.slice (some ⟨g,0,none⟩) 1 1) (hbase:base<=wN.heap.size)
  (h:∀v' w',w'.ownsRow base 160 1 v' (n+1) (vs ++ [d])→wN.grownBy w' v.ownBlock→wpList Tryz.prog ops Q rest (a.put o.dst v') w') :
  wpList Tryz.prog ops Q (o::rest) a wN:=by
 obtain⟨i0,hi,hz0,hz1,hz2⟩:=info_parts Tryz.infoSteps;refine wpList_plain hgd fun K hK=>QX s x 209 ho 160 i0 _ 1 24 Tryz.underlying209 hi hz0 hz1 hz2 rfl (by omega) (by omega) wN base v n _ hs hown hn g _ hb rfl ?_ hx hbase ?_
 ·intro u hu;simp only [List.mem_cons,AqV,or_false]at hu;rw [hu];exact hd
 ·intro v' w' h1 _ h3;exact hK _ _ (h v' w' h1 h3)
end
end
section
open Go.Sort
def Z8:Code:=Code.region 2 #[{dst:=some 5,op:=Op.alloc 155,type:=0,pos:= "iter.go:51",after:=#[],guard:=none},{dst:=none,op:=Op.store 155 (Operand.tmp 5) (Operand.tmp 7),type:=0,pos:= "iter.go:51",after:=#[{on:=0,ground:=Ground.data},{on:=0,ground:=Ground.phase}],guard:=none}] false
def ZA:Code:=Code.block 1 (Code.region 3 #[{dst:=some 8,op:=Op.load 160 (Operand.tmp 2),type:=160,pos:= "iter.go:52",after:=#[],guard:=none},{dst:=some 9,op:=Op.load 155 (Operand.tmp 5),type:=155,pos:= "iter.go:52",after:=#[],guard:=none},{dst:=some 10,op:=Op.buildSlice 160 1 #[(0,Operand.tmp 9)],type:=160,pos:= "iter.go:52",after:=#[{on:=1,ground:=Ground.data}],guard:=none},{dst:=some 11,op:=Op.call {callee:=Callee.builtin Builtin.append,args:=#[Operand.tmp 8,Operand.tmp 10],argTypes:=#[160,160]},type:=160,pos:= "iter.go:52",after:=#[{on:=0,ground:=Ground.data},{on:=2,ground:=Ground.data}],guard:=none},{dst:=none,op:=Op.store 160 (Operand.tmp 2) (Operand.tmp 11),type:=0,pos:= "iter.go:52",after:=#[{on:=3,ground:=Ground.data},{on:=3,ground:=Ground.chain},{on:=0,ground:=Ground.phase},{on:=1,ground:=Ground.phase},{on:=2,ground:=Ground.phase},{on:=3,ground:=Ground.phase}],guard:=none}] false)
def apRec(fn:FuncId)(sv:Value)(Bs D:Nat)(st:LoopState)(pend:Option Code):Loop:=
 {state:=st,pending:=pend,fn,tmps:=#[.slice none 0 0,sv,.pointer (some ⟨Bs,0,none⟩),undef,.slice none 0 0,undef,sv,undef,undef,undef,undef,undef,undef],params:=#[7],assign:=Z8,body:=ZA,defers:=D}
structure ApAt(w0:World)(fn:FuncId)(sv:Value)(Bs l D:Nat)(ss:List Sg)(W:World):Prop where
 box:∃v,W.heap[Bs]?=some (.cells #[v] 160 (0,0))/\W.ownsRow w0.heap.size 155 4 v ss.length (BS ss)
 L:W.heap[l]?=some (.loop (apRec fn sv Bs D .ready none))
 K:W.heap[D]?=some (.deferred (some []))
 below:Below w0.heap.size w0 W
theorem ownsRow_abides{W W':World}{row:Option Nat}{base:Nat}{e:TypeId}{size:Nat}{v:Value}{k:Nat}{xs:List Value}(h:W.ownsRow base e size v k xs)(hg:W.grownBy W' row)
  (hrow:∀r,row=some r→∃o:Obj,W.heap[r]?=some o/\o.isWalk=true):W'.ownsRow base e size v k xs:=by
 refine h.kept hg ?_
 rcases h.2 with⟨rfl,_⟩|⟨g,cap,cur,rfl,_,hgb,_⟩
 ·exact .inl rfl
 ·refine .inr fun e'=>?_;obtain⟨o,ho,hw⟩:=hrow g (by simpa [Value.ownBlock]using e'.symm);rw [hgb]at ho;cases ho;cases hw
theorem ap_abides(w0:World)(fn:FuncId)(sv:Value)(Bs l D B:Nat)(hB:w0.heap.size<=B):AbidesFrom B (ApAt w0 fn sv Bs l D):=fun s W W' row h hg hrow=>by
 have hrow':∀r,row=some r→∃o:Obj,W.heap[r]?=some o/\o.isWalk=true:=fun r e=>(hrow r e).2;obtain⟨v,hv,hr⟩:=h.box
 exact⟨⟨v,(grownBy_keeps hg hrow' hv rfl).trans hv,ownsRow_abides hr hg hrow'⟩,(grownBy_keeps hg hrow' h.L rfl).trans h.L,(grownBy_keeps hg hrow' h.K rfl).trans h.K,
  h.below.grown hg h.below.size (fun k e=>AqU hB (hrow k e).1)⟩
theorem grownBy_putObj(W:World)(l:Nat)(o:Obj):W.grownBy (W.putObj l o) (some l):=
 ⟨rfl,rfl,rfl,by simp,fun k _ hk=>World.putObj_heap_other (fun e=>hk (by rw [e]))⟩
theorem grownBy_setCell0(W:World)(b:Nat)(v:Value):W.grownBy (W.setCell ⟨b,0,none⟩ v) (some b):=
 ⟨rfl,rfl,rfl,(KeepsWalks.setCell W _ v).size,fun k _ hk=>Below.heap_setCell _ _ _ k (fun e=>hk (by rw [e]))⟩
theorem ownsRow_ne{W:World}{base:Nat}{e:TypeId}{size:Nat}{v:Value}{k:Nat}{xs:List Value}(h:W.ownsRow base e size v k xs){j:Nat}{o:Obj}(hj:W.heap[j]?=some o)(hno:∀cur,o≠.cells cur e (0,0)) :
  v.ownBlock=none∨v.ownBlock≠some j:=by
 rcases h.2 with⟨rfl,_⟩|⟨g,cap,cur,rfl,_,hgb,_⟩
 ·exact .inl rfl
 ·refine .inr fun e'=>?_;have:g=j:=(by simpa [Value.ownBlock]using e');subst this;rw [hgb]at hj;cases hj;exact hno cur rfl
theorem cell_of_box{W:World}{B:Nat}{v:Value}{t:TypeId}(h:W.heap[B]?=some (.cells #[v] t (0,0))):W.cell? ⟨B,0,none⟩=some v/\W.frozen? ⟨B,0,none⟩=false:=by
 constructor<;>simp [World.cell?,World.frozen?,h]
theorem heap_setCell_box{W:World}{B:Nat}{v:Value}{t:TypeId}(v':Value)(h:W.heap[B]?=some (.cells #[v] t (0,0))):(W.setCell ⟨B,0,none⟩ v').heap[B]?=some (.cells #[v'] t (0,0)):=by
 obtain⟨hlt,hk⟩:=Array.getElem?_eq_some_iff.1 h;show (W.heap.modify B _)[B]?=_;rw [Array.getElem?_eq_getElem (by rw [Array.size_modify];exact hlt),Array.getElem_modify_self,hk]
 rfl
theorem ownsRow_not_walk{W:World}{base:Nat}{e:TypeId}{size:Nat}{v:Value}{k:Nat}{xs:List Value}(h:W.ownsRow base e size v k xs):∀(j:Nat) (o:Obj),v.ownBlock=some j→W.heap[j]?=some o→o.isWalk=false:=by
 intro j o hj ho
 rcases h.2 with⟨rfl,_⟩|⟨g,cap,cur,rfl,_,hgb,_⟩
 ·simp [Value.ownBlock]at hj
 ·have:g=j:=(by simpa [Value.ownBlock]using hj);subst this;rw [hgb]at ho;cases ho;rfl
theorem Adl(W:World)(a b c d:Value)(t:TypeId):∀(j:Nat) (u:Value),[a,b,c,d][j]?=some u→(W.alloc (.cells #[a,b,c,d] t)).cell? ((⟨W.heap.size,0,none⟩:Addr).add j)=some u:=by
 intro j u hu;rw [Addr.add_lit,Nat.zero_add];refine Ab (AqJ W (.cells #[a,b,c,d] t)) ?_;rw [←Array.getElem?_toList];exact hu
theorem apYield (F : Fence) (m : Nat) (w0 : World) (fn : FuncId) (hfn : F.fn fn) (sv : Value) (Bs l D : Nat) (hBl : Bs ≠ l) (hDl : D ≠ l) (hDB : D ≠ Bs) (h0B : w0.heap.size ≤ Bs) (h0l : w0.heap.size ≤ l)
    (N : Nat) (hN : N ≤ 200000) (ss : List Sg) (x : Sg) (W : World) (h : ApAt w0 fn sv Bs l D ss W) (hlen : ss.length < N) :
    YieldAt F m Tryz.prog l #[As x] W fun e W' => e = .returned (.bool true) ∧ ApAt w0 fn sv Bs l D (ss ++ [x]) W' ∧ KeepsWalks W W' := by
  have hne : 160 ≠ 155 := by decide
  obtain ⟨i0, hi, hz0, hz1, hz2⟩ := info_parts Tryz.infoStep
  obtain ⟨v, hv, hrow⟩ := h.box
  refine ⟨fn, #[.slice none 0 0, sv, .pointer (some ⟨Bs, 0, none⟩), undef, .slice none 0 0, undef, sv, As x, undef, undef, undef, undef, undef], Z8, ZA, by simpa [apRec] using run_yield (P := Tryz.prog) (args := #[As x]) h.L rfl, roundIn_of_wpIn hfn ?_⟩
  have hka : KeepsWalks W (W.alloc (.cells #[S (R x.a.x), S (R x.a.y), S (R x.b.x), S (R x.b.y)] 155)) := KeepsWalks.alloc _ _
  have ha := ap_abides w0 fn sv Bs l D W.heap.size h.below.size ss W _ none h (G0 ((Aa.refl W).alloc (.cells #[S (R x.a.x), S (R x.a.y), S (R x.b.x), S (R x.b.y)] 155)) none) (fun r e => by cases e)
  have Gk := AqJ W (.cells #[S (R x.a.x), S (R x.a.y), S (R x.b.x), S (R x.b.y)] 155)
  have Tg : l < W.heap.size := (Array.getElem?_eq_some_iff.1 h.L).1
  unfold Z8
  unfold As
  gi_wp2_with (rw [Oper.semAt_eq _ _ _ (fun c h => by cases h)]; go_simp; try go_bits)
  obtain ⟨bv, CX⟩ := AqG W.heap.size
  rw [← CX] at Gk Tg ⊢
  unfold S at ha Gk hka
  clear CX h hv hrow
  generalize dH : W.alloc (.cells #[.string ⟨(R x.a.x).toArray⟩, .string ⟨(R x.a.y).toArray⟩, .string ⟨(R x.b.x).toArray⟩, .string ⟨(R x.b.y).toArray⟩] 155) = Wa at *
  clear dH
  obtain ⟨v, hv, hrow⟩ := ha.box
  have hl : l < Wa.heap.size := (Array.getElem?_eq_some_iff.1 ha.L).1
  have hbr := run_beginRound (P := Tryz.prog) ha.L rfl
  obtain ⟨W2, hW2⟩ : ∃ W2, Wa.putObj l (.loop { apRec fn sv Bs D .ready none with state := .busy }) = W2 := ⟨_, rfl⟩
  rw [hW2] at hbr
  have hg2 : Wa.grownBy W2 (some l) := by rw [← hW2]; exact grownBy_putObj _ _ _
  have hk2 : KeepsWalks Wa W2 := by rw [← hW2]; exact KeepsWalks.putObj _ ha.L rfl
  have hv2 : W2.heap[Bs]? = some (.cells #[v] 160 (0, 0)) := by rw [← hW2]; exact (World.putObj_heap_other hBl).trans hv
  have Da : W2.heap[bv]? = some (.cells #[S (R x.a.x), S (R x.a.y), S (R x.b.x), S (R x.b.y)] 155) := by rw [← hW2]; exact (World.putObj_heap_other (by omega)).trans Gk
  have hK2 : W2.heap[D]? = some (.deferred (some [])) := by rw [← hW2]; exact (World.putObj_heap_other hDl).trans ha.K
  have hL2 : W2.heap[l]? = some (.loop { apRec fn sv Bs D .ready none with state := .busy }) := by rw [← hW2]; exact World.putObj_heap_same hl
  have hrow2 : W2.ownsRow w0.heap.size 155 4 v ss.length (BS ss) := hrow.kept hg2 (ownsRow_ne hrow ha.L (fun cur e => by first | cases e | exact hne (Obj.cells.inj e).2.1))
  have hb2 : Below w0.heap.size w0 W2 := ha.below.grown hg2 ha.below.size (fun k e => by cases e; exact h0l)
  obtain ⟨hc2, hf2⟩ := cell_of_box hv2
  have hBlt : Bs < W2.heap.size := (Array.getElem?_eq_some_iff.1 hv2).1
  have hl2 : l < W2.heap.size := (Array.getElem?_eq_some_iff.1 hL2).1
  have hDlt : D < W2.heap.size := (Array.getElem?_eq_some_iff.1 hK2).1
  have ne_of : ∀ {j : Nat} {o : Obj}, W2.heap[j]? = some o → (∀ cur, o ≠ .cells cur 155 (0, 0)) → some j ≠ v.ownBlock := fun hj hno => by
    rcases ownsRow_ne hrow2 hj hno with e | e
    · rw [e]; simp
    · exact fun e' => e e'.symm
  have q0 := Ab (o := 0) Da rfl
  have q1 := Ab (o := 1) Da rfl
  have q2 := Ab (o := 2) Da rfl
  have q3 := Ab (o := 3) Da rfl
  have fO : W2.heap.size ≠ l := by omega
  clear hW2 ha hv hrow Gk Da
  refine ⟨W2, hbr, ?_⟩
  unfold ZA
  gi_wp2_with (first
    | (gi_at_builtin; refine wpListIn_append_own _ rfl _ _ 160 rfl w0.heap.size 155 i0 (.agg #[S [], S [], S [], S []]) 4 64 Tryz.underlying160 hi hz0 hz1 hz2 rfl (by decide) _ _ _ rfl (hrow2.alloc _) ⟨W2.heap.size, 0, none⟩ 1 1 [S (R x.a.x), S (R x.a.y), S (R x.b.x), S (R x.b.y)] rfl rfl (Adl _ _ _ _ _ _) (by simp [Value.oneCell']) (by unfold maxLen; omega) (by omega) (by have := hb2.size; simp; omega) ?_; intro v' w3 hown' hg3 hnil3
       have hv3 : w3.heap[Bs]? = some (.cells #[v] 160 (0, 0)) := (hg3.block Bs (by simp; omega) (ne_of hv2 (fun cur e => by first | cases e | exact hne (Obj.cells.inj e).2.1))).trans ((Below.heap_alloc _ _ Bs hBlt).trans hv2)
       obtain ⟨hc3, hf3⟩ := cell_of_box hv3
       obtain ⟨g', cap', cur', rfl, hbase', hgb', hr1, hr2, hr3, hr4⟩ : ∃ g' cap' cur', v' = .slice (some ⟨g', 0, none⟩) (ss.length + 1) cap' ∧ w0.heap.size ≤ g' ∧ w3.heap[g']? = some (.cells cur' 155 (0, 0)) ∧ ss.length + 1 ≤ cap' ∧ cap' ≤ maxLen ∧ cur'.size = cap' * 4 ∧ cur'.toList.take ((ss.length + 1) * 4) = BS ss ++ [S (R x.a.x), S (R x.a.y), S (R x.b.x), S (R x.b.y)] := by
         rcases hown'.2 with ⟨_, h0⟩ | h'
         · exact absurd h0 (by omega)
         · exact h'
       go_frame)
    | (rw [Oper.semAt_eq _ _ _ (fun c h => by cases h)]; go_simp; try go_bits))
  have hg3' : (W2.alloc (.cells #[S (R x.a.x), S (R x.a.y), S (R x.b.x), S (R x.b.y)] 155)).grownBy w3 v.ownBlock := hg3
  have hL3 : w3.heap[l]? = some (.loop { apRec fn sv Bs D .ready none with state := .busy }) := (hg3'.block l (by simp; omega) (ne_of hL2 (fun cur e => by first | cases e | exact hne (Obj.cells.inj e).2.1))).trans ((Below.heap_alloc _ _ l hl2).trans hL2)
  have hK3 : w3.heap[D]? = some (.deferred (some [])) := (hg3'.block D (by simp; omega) (ne_of hK2 (fun cur e => by first | cases e | exact hne (Obj.cells.inj e).2.1))).trans ((Below.heap_alloc _ _ D hDlt).trans hK2)
  obtain ⟨w4, hw4⟩ : ∃ w4, w3.setCell ⟨Bs, 0, none⟩ (.slice (some ⟨g', 0, none⟩) (ss.length + 1) cap') = w4 := ⟨_, rfl⟩
  rw [hw4]
  have hg4 : w3.grownBy w4 (some Bs) := by rw [← hw4]; exact grownBy_setCell0 _ _ _
  have hv4 : w4.heap[Bs]? = some (.cells #[.slice (some ⟨g', 0, none⟩) (ss.length + 1) cap'] 160 (0, 0)) := by rw [← hw4]; exact heap_setCell_box _ hv3
  have hL4 : w4.heap[l]? = some (.loop { apRec fn sv Bs D .ready none with state := .busy }) := (hg4.block l (Array.getElem?_eq_some_iff.1 hL3).1 (fun e => hBl (by cases e; rfl))).trans hL3
  have hK4 : w4.heap[D]? = some (.deferred (some [])) := (hg4.block D (Array.getElem?_eq_some_iff.1 hK3).1 (fun e => hDB (by cases e; rfl))).trans hK3
  have hrow4 := hown'.kept hg4 (ownsRow_ne hown' hv3 (fun cur e => by first | cases e | exact hne (Obj.cells.inj e).2.1))
  have hl4 : l < w4.heap.size := (Array.getElem?_eq_some_iff.1 hL4).1
  have hb3 : Below w0.heap.size w0 w3 := (hb2.alloc hb2.size _).grown hg3' (by have := hb2.size; simp; omega) (fun k e => (hrow2.lt k e).1)
  have hb4 : Below w0.heap.size w0 w4 := hb3.grown hg4 hb3.size (fun k e => by cases e; exact h0B)
  have hk4 : KeepsWalks W w4 := (hka.trans ((hk2.trans (KeepsWalks.alloc _ _)).trans (KeepsWalks.of_grownBy hg3' (ownsRow_not_walk (hrow2.alloc _))))).trans (by rw [← hw4]; exact KeepsWalks.setCell _ _ _)
  clear hw4
  refine ⟨_, _, run_endRound none hL4, rfl, ⟨⟨_, (World.putObj_heap_other hBl).trans hv4, ?_⟩, World.putObj_heap_same hl4, (World.putObj_heap_other hDl).trans hK4, hb4.grown (grownBy_putObj _ _ _) hb4.size (fun k e => by cases e; exact h0l)⟩, hk4.trans (KeepsWalks.putObj _ hL4 rfl)⟩
  have := hrow4.kept (grownBy_putObj w4 l (.loop { { apRec fn sv Bs D .ready none with state := .busy } with state := if (none : Option Code).isNone then .ready else .done, pending := none })) (ownsRow_ne hrow4 hL4 (fun cur e => by first | cases e | exact hne (Obj.cells.inj e).2.1))
  rw [xj]
  simpa using this
end
section
open Go.Sort
theorem appendSeq_in(F:Fence)(n:Nat)(h11:F.fn 264)(hro:F.round=none)(hn:2<=n)(g:Nat)(lb:Array Value)(hFg:F.fn g)(eg:∀args w,(callFunc g args).run Tryz.prog w=.ok (.enter g args) w)
  (S:List Sg→Prop) (N:Nat) (hN:N<=200000) (w:World) (hseq:SeqGives F (n-1) Tryz.prog g lb As S N w) :
  CallsIn F n Tryz.prog 264 #[.slice none 0 0,.func (.func g) #[] lb] w fun e w'=>∃(v:Value) (ss:List Sg),e=.returned v/\S ss/\w'.ownsRow w.heap.size 155 4 v ss.length (BS ss)/\Below w.heap.size w w':=by
 have h1:1<=n:=(by omega);have hne:160≠155:=(by decide);refine callsIn_of_wp_marks Tryz.func264 rfl h11 ?_ hro;simp only [Tryz.ntmps264,List.size_toArray,List.length_cons,List.length_nil,Nat.reduceAdd,Nat.reduceSub,Array.replicate_succ,Array.replicate_zero,List.push_toArray,List.append_toArray,List.nil_append,List.cons_append];gi_wp2;refine wpIn_rangeFunc ?_;intro fn hfn;rw [hro];obtain⟨W0,hW0⟩:∃W0,w.alloc (.cells #[.slice none 0 0] 160)=W0:=⟨_,rfl⟩;have hs0:W0.heap.size=w.heap.size+1:=(by rw [←hW0];simp);have hv0:W0.heap[w.heap.size]?=some (.cells #[.slice none 0 0] 160 (0,0)):=(by rw [←hW0];exact World.alloc_heap_new w _);have hb0:Below w.heap.size w W0:=(by rw [←hW0];exact(Below.refl _ w).alloc (AqK _) _);rw [hW0];obtain⟨W1,hW1⟩:∃W1,(W0.alloc (.deferred (some []))).alloc (.loop (apRec fn (.func (.func g) #[] lb) w.heap.size W0.heap.size .ready none))=W1:=⟨_,rfl⟩
 have hold:∀k,k<W0.heap.size→W1.heap[k]?=W0.heap[k]?:=fun k hk=>by rw [←hW1];exact(Below.heap_alloc _ _ k (by simp;omega)).trans (Below.heap_alloc _ _ k hk)
 have hb1:Below w.heap.size w W1:=(by rw [←hW1];exact(hb0.alloc hb0.size _).alloc (by have:=hb0.size;simp;omega) _);have hs1:W1.heap.size=W0.heap.size+2:=by rw [←hW1];simp
 have hM:ApAt w fn (.func (.func g) #[] lb) w.heap.size (W0.heap.size+1) W0.heap.size [] W1:=
  ⟨⟨_,(hold w.heap.size (by omega)).trans hv0,⟨rfl,.inl ⟨rfl,rfl⟩⟩⟩,
   by rw [←hW1];have:=World.alloc_heap_new (W0.alloc (.deferred (some []))) (.loop (apRec fn (.func (.func g) #[] lb) w.heap.size W0.heap.size .ready none));rwa [AqR]at this,
   by rw [←hW1];exact(Below.heap_alloc _ _ _ (by simp)).trans (World.alloc_heap_new W0 _),hb1⟩
 refine⟨W0.heap.size+1,[{target:=.collected W0.heap.size,args:=#[]}],W1,{target:=.fn (.func g) lb,args:=#[.func (.yield (W0.heap.size+1)) #[] #[]]},W1,g,
  #[.func (.yield (W0.heap.size+1)) #[] #[]]++lb,W1,?_,?_,?_,?_,fun _=>h1,?_⟩
 ·rw [←hW1];exact run_enterLoop_outer _ _ _ _ _
 ·simp [resolve,go_sem]
 ·intro f' hf';simp [Target.leads]at hf';subst hf';exact hFg
 ·simp [invoke,go_sem,eg]
 ·refine(hseq (W0.heap.size+1) (ApAt w fn (.func (.func g) #[] lb) w.heap.size (W0.heap.size+1) W0.heap.size) W1 hb1 (ap_abides _ _ _ _ _ _ _ hb1.size)
   (fun pre x W hJ hl=>apYield F (n-1-1) w fn hfn _ w.heap.size (W0.heap.size+1) W0.heap.size (by omega) (by omega) (by omega) (AqK _) (by omega) N hN pre x W hJ hl) hM).mono ?_
  rintro e W2 ⟨⟨v0,rfl⟩,ss,hS,h2⟩;obtain⟨v,hv,hrow⟩:=h2.box;have hend:=run_endLoop (P:=Tryz.prog) h2.L (by simp [apRec]);obtain⟨W3,hW3⟩:∃W3,W2.putObj (W0.heap.size+1) (.loop {apRec fn (.func (.func g) #[] lb) w.heap.size W0.heap.size .ready none with state:=.exhausted})=W3:=⟨_,rfl⟩;rw [hW3]at hend;have hg3:W2.grownBy W3 (some (W0.heap.size+1)):=(by rw [←hW3];exact grownBy_putObj _ _ _);have hv3:W3.heap[w.heap.size]?=some (.cells #[v] 160 (0,0)):=(by rw [←hW3];exact(World.putObj_heap_other (by omega)).trans hv);have hK3:W3.heap[W0.heap.size]?=some (.deferred (some [])):=(by rw [←hW3];exact(World.putObj_heap_other (by omega)).trans h2.K);have hrow3:=hrow.kept hg3 (ownsRow_ne hrow h2.L (fun cur e=>by first|cases e|exact hne (Obj.cells.inj e).2.1));have hb3:Below w.heap.size w W3:=h2.below.grown hg3 h2.below.size (fun k e=>by cases e;omega);obtain⟨hc3,hf3⟩:=cell_of_box hv3;clear hW3;refine⟨none,W3,hend,?_⟩;gi_wp2;rw [←hs0];refine⟨by simp,.inl ⟨_,_,rfl,run_takeDeferred hK3,?_⟩⟩;exact⟨_,results_tmp rfl _ _ _,v,ss,rfl,hS,hrow3.kept (grownBy_putObj _ _ _) (ownsRow_ne hrow3 hK3 (fun cur e=>by first|cases e|exact hne (Obj.cells.inj e).2.1)),hb3.grown (grownBy_putObj _ _ _) hb3.size (fun k e=>by cases e;omega)⟩
end
section
open Go.Sort
theorem collect_in(F:Fence)(n:Nat)(h8:F.fn 190)(h11:F.fn 264)(hro:F.round=none)(hn:3<=n)(g:Nat)(lb:Array Value)(hFg:F.fn g)(eg:∀args w,(callFunc g args).run Tryz.prog w=.ok (.enter g args) w)
  (S:List Sg→Prop) (N:Nat) (hN:N<=200000) (w:World) (hseq:SeqGives F (n-1-1) Tryz.prog g lb As S N w) :
  CallsIn F n Tryz.prog 190 #[.func (.func g) #[] lb] w fun e w'=>∃(v:Value) (ss:List Sg),e=.returned v/\S ss/\w'.ownsRow w.heap.size 155 4 v ss.length (BS ss)/\Below w.heap.size w w':=by
 have h1:1<=n:=(by omega);have e11:∀args w,(callFunc 264 args).run Tryz.prog w=.ok (.enter 264 args) w:=enters_of Tryz.func264 (by kernel_rfl) rfl;refine callsIn_of_wp Tryz.func190 rfl h8 ?_ hro;simp only [Tryz.ntmps190,List.size_toArray,List.length_cons,List.length_nil,Nat.reduceAdd,Nat.reduceSub,Array.replicate_succ,Array.replicate_zero,List.push_toArray,List.append_toArray,List.nil_append,List.cons_append];gi_wp2;refine(appendSeq_in F (n-1) h11 hro (by omega) g lb hFg eg S N hN _ hseq).mono ?_;rintro e w' ⟨v,ss,rfl,hS,hrow,hb⟩;gi_wp2;go_ret;exact⟨v,ss,rfl,hS,hrow,hb⟩
end
section
open Go.Sort
theorem Ajg(w:World):Calls Tryz.prog 131 #[.int .u64 0] w fun e w'=>e=.returned (.int .i64 0)/\w'=w:=by
 have e8:wrap64 (wrap64 (Lib.len8 0))=0:=(by decide +kernel);go_enter Tryz.func131,Tryz.ntmps131;go_wp2;go_ret;exact⟨by simp [e8],rfl⟩
theorem len_nil(w:World):Calls Tryz.prog 64 #[.int .u64 0] w fun e w'=>e=.returned (.int .i64 0)/\w'=w:=by
 have h:=Ajg;go_enter Tryz.func64,Tryz.ntmps64;(go_wp2_with fail);(with_reducible refine(h _).mono ?_);rintro e w1 ⟨rfl,rfl⟩;go_wp2;go_ret;exact⟨rfl,rfl⟩
theorem AiC(fv:Value)(w:World):Calls Tryz.prog 317 #[.slice none 0 0,.int .i64 0,.int .i64 0,fv] w fun e w'=>e=.returned (.tuple #[])/\w'=w:=by
 go_enter Tryz.func317,Tryz.ntmps317;go_wp2;refine wp_loop_rounds 1 ?_;rw [rounds_succ];go_wp2
 go_end0
 exact⟨rfl,rfl⟩
theorem Alk(lim:Int)(fv:Value)(w:World):Calls Tryz.prog 265 #[.slice none 0 0,.int .i64 0,.int .i64 0,.int .i64 lim,fv] w fun e w'=>e=.returned (.tuple #[])/\w'=w:=by
 have hi:=AiC fv;go_enter Tryz.func265,Tryz.ntmps265;go_wp2;refine wp_loop_rounds 1 ?_;rw [rounds_succ];(go_wp2_with fail);(with_reducible refine(hi _).mono ?_);rintro e w1 ⟨rfl,rfl⟩;go_wp2
 (try simp only [Exit.inBlock,Exit.then]);refine bodyPost_ret (results_none rfl _ _ _) rfl ?_
 exact⟨rfl,rfl⟩
theorem Anj(fv:Value)(w:World):Calls Tryz.prog 191 #[.slice none 0 0,fv] w fun e w'=>e=.returned (.tuple #[])/\w'=w:=by
 have h1:=len_nil;have h2:=Alk 0 fv;go_enter Tryz.func191,Tryz.ntmps191;(go_wp2_with fail);(with_reducible refine(h1 _).mono ?_);rintro e w1 ⟨rfl,rfl⟩;(go_wp2_with fail);(with_reducible refine(h2 _).mono ?_);rintro e w1 ⟨rfl,rfl⟩;go_wp2
 go_end0
 exact⟨rfl,rfl⟩
def BA(l:List Sg):List Sg:=l.mergeSort (fun x y=>!decide (FO y x<0))
theorem J4(l:List Sg):(BA l).Perm l:=List.mergeSort_perm _ _
theorem mP{l:List Sg} : (BA l).Pairwise (fun x y=>¬FO y x<0):=by
 have tr:∀a b c:Sg,(!decide (FO b a<0))=true→(!decide (FO c b<0))=true→(!decide (FO c a<0))=true:=by
  intro a b c h1 h2;simp only [Bool.not_eq_true',decide_eq_false_iff_not,Q5]at *
  grind
 have Ut:∀a b:Sg,((!decide (FO b a<0))||(!decide (FO a b<0)))=true:=by
  intro a b;simp only [Bool.or_eq_true,Bool.not_eq_true',decide_eq_false_iff_not,Q5]
  grind
 have h:=List.pairwise_mergeSort tr Ut l;refine h.imp ?_;intro a b hab
 simpa using hab
theorem Anp{l m:List Sg}(h:l.Perm m):BA l=BA m:=by
 refine List.Perm.eq_of_pairwise (le:=fun x y=>¬FO y x<0) ?_ mP mP (((J4 l).trans h).trans (J4 m).symm);intro a b _ _ h1 h2;rw [Q5]at h1 h2;obtain⟨⟨a1,a2⟩,⟨a3,a4⟩⟩:=a;obtain⟨⟨b1,b2⟩,⟨b3,b4⟩⟩:=b;simp only [Sg.mk.injEq,Pt.mk.injEq]at *
 grind
theorem uO(m:List Way):m.flatMap Gz=BS (m.map (·.1)):=by
 induction m with
 | nil=>rfl
 | cons x m ih=>rw [List.flatMap_cons,ih];rfl
theorem Aon{l:List Sg}(h:∀s∈l,RF s):∃d:Array Way,d.toList.map (·.1)=l:=
 ⟨(l.attachWith RF h).toArray,by simp⟩
theorem aW(w:World)(row:Option Nat):w.grownBy w row:=⟨rfl,rfl,rfl,AqK _,fun _ _ _=>rfl⟩
theorem Anf{w0 w:World}(hw:Am w0)(hx:Aa w0 w){B:Nat}(hB:w0.heap.size<=B)(l:List Sg)(hl:∀s∈l,RF s)(hlen:l.length<1000000){v:Value}(hv:w.ownsRow B 155 4 v l.length (BS l)) :
  Calls Tryz.prog 191 #[v,.func (.func 109) #[] #[]] w fun e w'=>
   e=.returned (.tuple #[])/\w.grownBy w' v.ownBlock/\w'.ownsRow B 155 4 v l.length (BS (BA l)):=by
 by_cases hn:l = []
 ·subst hn
  have hv':v=.slice none 0 0∨∃g cap,v=.slice (some ⟨g,0,none⟩) 0 cap:=by
   rcases hv.2 with⟨h,_⟩|⟨g,cap,cur,h,_⟩
   ·exact .inl h
   ·exact .inr ⟨g,cap,h⟩
  have e:BA [] = []:=(by unfold BA;simp);rw [e]
  rcases hv' with rfl|⟨g,cap,rfl⟩
  ·exact(Anj _ w).mono fun _ _ ⟨he,hw⟩=>⟨he,by subst hw;exact aW _ _,by subst hw;exact hv⟩
  ·have hgb:g<w.heap.size/\w0.heap.size<=g:=by have:=hv.lt g rfl;omega
   refine(yj g 0 cap #[] w0 w hw hx hgb.2 (fun j hj=>by simp at hj) hgb.1 (by simp)).mono ?_;rintro e w' ⟨he,n,os,rfl⟩;refine⟨he,Oa Gz 4 w g 0 n _ os,?_⟩;have h2:w.ownsRow B 155 4 (.slice (some ⟨g,0,none⟩) (#[]:Array Way).size cap) (#[]:Array Way).size ((#[]:Array Way).toList.flatMap Gz):=hv;have:=QD Vu (by omega) h2 (d':=(Kz []).toArray) (by simp [Kz]) n os
   simpa [Kz,BS]using this
 ·obtain⟨d,hd⟩:=Aon hl;have CY:d.size=l.length:=by rw [←hd];simp
  have hv':w.ownsRow B 155 4 v d.size (d.toList.flatMap Gz):=by rw [uO,hd,CY];exact hv
  have BW:0<d.size:=(by rw [CY];exact List.length_pos_iff.2 hn);obtain⟨g,cap,rfl,hgb,Oz,hH,hown⟩:=WV Vu (by omega) hv' BW;refine(yj g 0 cap d w0 w hw hx (by omega) hH Oz (by omega)).mono ?_;rintro e w' ⟨he,n,os,rfl⟩;refine⟨he,Oa Gz 4 w g 0 n _ os,?_⟩;have ho:=QD Vu (by omega) hv' (d':=(Kz d.toList).toArray) (by simp [Kz]) n os
  have hm:(Kz d.toList).map (·.1)=BA l:=by unfold Kz BA;rw [List.map_mergeSort (r:=fun x y:Way=>!ltOf Ie y x) (f:=fun x:Way=>x.1) (s:=fun x y=>!decide (FO y x<0)) (fun a _ b _=>rfl),hd]
  rw [uO,List.toList_toArray,hm,CY]at ho;rw [CY];exact ho
theorem mO{w0 w:World}(hw:Am w0)(hx:Aa w0 w)(Bm b:Nat)(L:List (Sg×Int))(hBm:Bm<w.heap.size)(hm:w.cell? ⟨Bm,0,none⟩=some (.map (some b)))(hb:w.heap[b]?=some (.map (AB As (stamp L)).toArray L.length))
  (hL:∀e∈L,Ex 200 e.1) (hlen:L.length<=200000) :
  Calls Tryz.prog 107 #[.func (.func 192) #[] #[.pointer (some ⟨Bm,0,none⟩)],.func (.func 109) #[] #[]] w fun e w'=>
   ∃v,e=.returned v/\w'.ownsRow w.heap.size 155 4 v L.length (BS (BA (L.map (·.1))))/\Aa w w':=by
 have eg:∀args w,(callFunc 192 args).run Tryz.prog w=.ok (.enter 192 args) w:=enters_of Tryz.func192 (by kernel_rfl) rfl;have c1:=callsIn_wide.1 (collect_in Fence.wide 5 trivial trivial rfl (by omega) 192 #[.pointer (some ⟨Bm,0,none⟩)] trivial eg _ L.length hlen w (AiN Fence.wide 3 trivial rfl (by omega) Bm b L w hBm hm hb));go_enter Tryz.func107,Tryz.ntmps107;(go_wp2_with fail);(with_reducible refine c1.mono ?_);rintro e w1 ⟨v,ss,rfl,hS,hrow,hbl⟩;have Cf:Aa w w1:=hbl;have CN:ss.length=L.length:=by rw [hS.length_eq];simp
 have c2:=Anf hw (hx.trans Cf) hx.size ss (fun s hs=>by
  have:=hS.mem_iff.1 hs;rw [List.mem_map]at this;obtain⟨e,he,rfl⟩:=this
  exact hL e he) (by omega) hrow
 have Db:=Anp hS;rw [Db,CN]at c2;rw [CN]at hrow;(go_wp2_with fail);(with_reducible refine c2.mono ?_);rintro e w2 ⟨rfl,hg,ho⟩;go_wp2;go_ret;exact⟨v,rfl,ho,Cf.grownOwn hg hrow (AqK _)⟩
end
end Go.Proofs.YtjalkoacphhgdaaGreatDoor
