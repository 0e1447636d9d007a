/- V29: O1 O2 O3 O4 O5 O6 O7 O8 C1 C2. -/
import Derived.Test.YtbejphgbbpplbaaGreatDoorV28
set_option maxRecDepth 100000
set_option maxHeartbeats 8000000
namespace Go.Proofs.YtbejphgbbpplbaaGreatDoor
open Go.RowKit Kl
theorem Ajv(p a b:Pt){k:Nat}(hp:Ar k p)(ha:Ar k a)(hb:Ar k b)(hk:0<k)(hk2:k<=400)(w:World)(hw:An w)(bp:Nat)(Bu:w.heap[bp]?=some (.cells #[S (R p.x),S (R p.y)] 94)) :
  Calls Tryz.prog 230 #[Ak a,Ak b,.pointer (some ⟨bp,0,none⟩)] w (AA (CX p a b) w):=by
 have c1:=jn p a hp ha hk hk2;have c2:=jn p b hp hb hk hk2;have c3:=Ln p a b hp ha hb hk hk2;have hE:=((Aa.refl w).alloc (.cells #[S (R a.x),S (R a.y)] 94)).alloc (.cells #[S (R b.x),S (R b.y)] 94)
 have hA:(w.alloc (.cells #[S (R a.x),S (R a.y)] 94)).alloc (.cells #[S (R b.x),S (R b.y)] 94) |>.heap[w.heap.size]?=some (.cells #[S (R a.x),S (R a.y)] 94):=(Below.heap_alloc _ _ _ (by simp)).trans (AmW w _)
 have hB:=AmW (w.alloc (.cells #[S (R a.x),S (R a.y)] 94)) (.cells #[S (R b.x),S (R b.y)] 94);rw [Anf]at hB;have hP:=(hE.block bp (AmV Bu)).trans Bu
 have hr:CX p a b=if BI p a-BI p b≠0 then BI p a-BI p b else -AD (Al p a b):=rfl
 have l1:=SQ p a;have l2:=SQ p b;have l3:=Ql (Al p a b);obtain⟨x,hx0⟩:=AmT (BI p a);obtain⟨y,Bh⟩:=AmT (BI p b);obtain⟨z,hz0⟩:=AmT (AD (Al p a b));rw [←hx0]at c1 l1;rw [←Bh]at c2 l2;rw [←hz0]at c3 l3;rw [←hx0,←Bh,←hz0]at hr
 have w1:IntKind.i64.wrap (x-y)=x-y:=by rcases l1 with rfl|rfl<;>rcases l2 with rfl|rfl<;>rfl
 have w2:IntKind.i64.wrap (-z) = -z:=by
  obtain rfl|rfl|rfl:z = -1∨z=0∨z=1:=by omega
  all_goals rfl
 obtain⟨r,FW⟩:=AmT (if x-y≠0 then x-y else -z:Int);rw [←FW]at hr;rw [hr]
 have MJ:∀(b o:Nat) (w:World),w.cell? ⟨b,o,none⟩=some (.int .i64 (x-y))→w.cell? ⟨b,o+1,none⟩=some (.int .i64 (-z))→Calls Tryz.prog 98 #[.slice (some ⟨b,o,none⟩) 2 2] w (AA r w):=by intro b o w h1 h2;rw [FW];exact WE (x-y) (-z) b o w h1 h2
 unfold Ak at c1 c2 c3 ⊢;clear hr hx0 Bh hz0 FW hp ha hb l1 l2 l3 Bu;go_enter Tryz.func230,Tryz.ntmps230
 go_upto_region 1 with fail
 generalize (w.alloc (.cells #[S (R a.x),S (R a.y)] 94)).alloc (.cells #[S (R b.x),S (R b.y)] 94)=V at *;obtain⟨ba,Aq⟩:=AmT w.heap.size;rw [←Aq]at hA hB ⊢;clear Aq;have hV:=hw.ext hE
 have SO:∀w',Aa V w'→(w'.cell? ⟨bp,0,none⟩=some (S (R p.x))/\w'.cell? ⟨bp,1,none⟩=some (S (R p.y))/\w'.cell? ⟨ba,0,none⟩=some (S (R a.x))/\w'.cell? ⟨ba,1,none⟩=some (S (R a.y))/\w'.cell? ⟨ba+1,0,none⟩=some (S (R b.x))/\w'.cell? ⟨ba+1,1,none⟩=some (S (R b.y))):=fun w' h=>⟨h.cellS (Ab hP rfl),h.cellS (Ab hP rfl),h.cellS (Ab hA rfl),h.cellS (Ab hA rfl),h.cellS (Ab hB rfl),h.cellS (Ab hB rfl)⟩
 have X0:Aa V V.drew:=(Aa.refl V).drew;clear hA hB hP
 go_region_held3 (fun w'=>w'.cell? ⟨bp,0,none⟩=some (S (R p.x))/\w'.cell? ⟨bp,1,none⟩=some (S (R p.y))/\w'.cell? ⟨ba,0,none⟩=some (S (R a.x))/\w'.cell? ⟨ba,1,none⟩=some (S (R a.y))/\w'.cell? ⟨ba+1,0,none⟩=some (S (R b.x))/\w'.cell? ⟨ba+1,1,none⟩=some (S (R b.y)))
  (first|with_reducible exact SO _ X0|with_reducible exact SO _ X5|with_reducible exact SO _ X6|with_reducible exact SO _ X7|with_reducible exact SO _ (X7.alloc _)|with_reducible exact SO _ X8)
  (first|((with_reducible refine(c1 _ (hV.ext X0)).mono ?_);rintro e w5 ⟨rfl,Ad⟩;have X5:Aa V w5:=X0.trans Ad)|((with_reducible refine(c2 _ (hV.ext X5)).mono ?_);rintro e w6 ⟨rfl,AC⟩;have X6:Aa V w6:=X5.trans AC)|((with_reducible refine(c3 _ (hV.ext X6)).mono ?_);rintro e w7 ⟨rfl,AG⟩;have X7:Aa V w7:=X6.trans AG;have CJ:=AmW w7 (.cells #[.int .i64 (x-y),.int .i64 (-z)] 3);have g0:=Ab (o:=0) CJ rfl;have g1:=Ab (o:=1) CJ rfl;clear CJ)|((with_reducible refine(MJ w7.heap.size 0 _ g0 g1).mono ?_);rintro e w8 ⟨rfl,Bq⟩;have X8:Aa V w8:=(X7.alloc _).trans Bq))
 go_wp2;go_ret;exact⟨rfl,hE.trans X8⟩
section
open Go.Sort Go.Shelf
structure QG(p:Pt)(l:List Pt):Prop where
 sz:∀q∈l,Ar 200 q
 ne:∀q∈l,q≠p
 ap:∀a∈l,∀b∈l,CX p a b=0→a=b
abbrev Jt(l:List Pt):={q:Pt // q∈l}
def DO(p:Pt)(l:List Pt):List Pt:=l.mergeSort (fun a b=>!decide (CX p b a<0))
theorem WZ(p:Pt)(l:List Pt):(DO p l).Perm l:=List.mergeSort_perm _ _
def Nr(p:Pt)(l:List Pt)(a b:Jt l):Int:=CX p a.1 b.1
theorem QZ{p:Pt}{l:List Pt}(x y:Jt l):ltOf (Nr p l) x y=decide (CX p x.1 y.1<0):=rfl
theorem AbF(p a:Pt):CX p a a=0:=(pQ p a a).2 ⟨rfl,zw p a⟩
theorem Ajl(q:Rat):AD (-q) = -AD q:=by unfold AD;grind
theorem AbE(p a b:Pt):CX p b a = -CX p a b:=by
 unfold CX;rw [Yr,Ajl]
 split<;>split<;>omega
theorem pR{p:Pt}{l:List Pt}(h:QG p l):SWO (ltOf (Nr p l)) where
 irrefl x:=by rw [QZ,decide_eq_false_iff_not,AbF];omega
 trans x y z h1 h2:=by rw [QZ,decide_eq_true_iff]at *;exact AbK (h.ne _ x.2) (h.ne _ y.2) (h.ne _ z.2) h1 h2
 ntrans x y z h1 h2:=by rw [QZ,decide_eq_false_iff_not]at *;exact AbI (h.ne _ x.2) (h.ne _ y.2) (h.ne _ z.2) h1 h2
theorem AbJ{p:Pt}{l:List Pt}(h:QG p l)(x y:Jt l)(h1:ltOf (Nr p l) x y=false)(h2:ltOf (Nr p l) y x=false):x=y:=by
 rw [QZ,decide_eq_false_iff_not]at h1 h2;have:=AbE p x.1 y.1;exact Subtype.ext (h.ap _ x.2 _ y.2 (by omega))
def LV{l:List Pt}(q:Jt l):List Value:=[S (R q.1.x),S (R q.1.y)]
theorem YT{l:List Pt}(q:Jt l):(LV q).length=2:=rfl
theorem AbZ{l:List Pt}(q:Jt l):∀v∈LV q,v.oneCell'=true:=by
 intro v hv;simp only [LV,List.mem_cons,Anj,or_false]at hv
 rcases hv with rfl|rfl<;>rfl
theorem qD{l:List Pt}(m:List (Jt l)):m.flatMap LV=flat (Ao (m.map (·.1))):=by
 induction m with
 | nil=>rfl
 | cons x m ih=>
  rw [List.flatMap_cons,ih]
  rfl
theorem AbH{p:Pt}{l:List Pt}(h:QG p l)(hp:Ar 200 p)[Inhabited (Jt l)]{w0 w:World}(hw:An w0)(hx:Aa w0 w){blk bp:Nat}(hb:w0.heap.size<=blk)(Bu:w.heap[bp]?=some (.cells #[S (R p.x),S (R p.y)] 94))(hne:bp≠blk)(off size:Nat) :
  CmpLays Tryz.prog 230 #[.pointer (some ⟨bp,0,none⟩)] LV 2 (Nr p l) blk off size w:=by
 refine eI fun W hg x y=>?_;have hbW:=(hg.block bp (AmV Bu) (by intro e;cases e;exact hne rfl)).trans Bu;exact Ajv p x.1 y.1 hp (h.sz _ x.2) (h.sz _ y.2) (by omega) (by omega) W (hw.ext (Nt hx hg hb)) bp hbW
theorem Ajx{p:Pt}{l:List Pt}(h:QG p l)(hp:Ar 200 p)(hl:l≠[])(hlen:l.length<100000){w0 w:World}(hw:An w0)(hx:Aa w0 w){v:Value}(hv:w.ownsRow w0.heap.size 94 2 v l.length (flat (Ao l)))
  {bp:Nat} (Bu:w.heap[bp]?=some (.cells #[S (R p.x),S (R p.y)] 94)) (hne:v.ownBlock≠some bp) :
  Calls Tryz.prog 178 #[v,.func (.func 230) #[] #[.pointer (some ⟨bp,0,none⟩)]] w fun e w'=>
   e=.returned (.tuple #[])/\w.grownBy w' v.ownBlock/\w'.ownsRow w0.heap.size 94 2 v l.length (flat (Ao (DO p l))):=by
 obtain⟨q0,AE⟩:=List.exists_mem_of_ne_nil l hl
 haveI:Inhabited (Jt l):=⟨⟨q0,AE⟩⟩
 obtain⟨d,hd⟩:=AmT (l.attach.toArray:Array (Jt l));have DG:d.size=l.length:=(by rw [hd];simp);have Pk:d.toList.map (·.1)=l:=by rw [hd];simp
 have hv':w.ownsRow w0.heap.size 94 2 v d.size (d.toList.flatMap LV):=by rw [qD,Pk,DG];exact hv
 have BY:0<d.size:=(by rw [DG];exact List.length_pos_iff.2 hl);obtain⟨g,cap,rfl,hgb,Sc,hH,hown⟩:=cI YT (by omega) hv' BY;have eg:∀args w,(callFunc 230 args).run Tryz.prog w=.ok (.enter 230 args) w:=enters_of Tryz.func230 (by kernel_rfl) rfl;have hbg:bp≠g:=(by intro e;rw [e]at hne;exact hne rfl);refine(AnyQ.slices_SortFunc Tryz.laysSortPt 2 Tryz.isAgg94 Tryz.sizeOf94 LV YT AbZ (Nr p l) (pR h) 230 #[.pointer (some ⟨bp,0,none⟩)] g 0 cap d w eg (AbH h hp hw hx hgb Bu hbg 0 d.size) hH Sc (by omega)).mono ?_;rintro e w' ⟨he,d',n,os,h1,h2,rfl⟩;have hu:=sorted_unique_holds (lt:=ltOf (Nr p l)) (pR h) (AbJ h) d d' h1 h2;have hsz:d'.size=d.size:=(by have:=congrArg List.length hu;simpa using this);refine⟨he,OR LV 2 w g 0 n d' os,?_⟩;have ho:=Ti (YT (l:=l)) (by omega) hv' hsz n os;rw [qD]at ho
 have hm:d'.toList.map (·.1)=DO p l:=by rw [hu];unfold DO;rw [List.map_mergeSort (s:=fun a b=>!decide (CX p b a<0)) (fun a _ b _=>by rw [QZ]),Pk]
 rw [hm,DG]at ho;rw [DG];exact ho
end
section
open Go.ChangeMaps (setBlock)
def GY(R0:List (Pt×List Pt))(seen:List Nat):List (Pt×List Pt):=R0.mapIdx fun i e=>if i∈seen then (e.1,DO e.1 e.2)else e
theorem Oh(R0:List (Pt×List Pt))(seen:List Nat):(GY R0 seen).length=R0.length:=by simp [GY]
theorem Qh(R0:List (Pt×List Pt))(seen:List Nat){i:Nat}(h:i<R0.length)(h':i<(GY R0 seen).length):(GY R0 seen)[i]=if i∈seen then (R0[i].1,DO R0[i].1 R0[i].2)else R0[i]:=by
 simp [GY]
theorem AiQ(R0:List (Pt×List Pt)):GY R0 []=R0:=by
 apply List.ext_getElem
 ·exact Oh _ _
 ·intro i h1 h2;rw [Qh R0 [] h2 h1,if_neg (by simp)]
theorem AiP(R0:List (Pt×List Pt)){seen:List Nat}(h:∀i,i<R0.length→i∈seen):GY R0 seen=R0.map (fun e=>(e.1,DO e.1 e.2)):=by
 apply List.ext_getElem
 ·rw [Oh];simp
 ·intro i h1 h2;have h3:i<R0.length:=(by simpa using h2);rw [Qh R0 seen h3 h1,if_pos (h i h3)];simp
theorem AiR(R0:List (Pt×List Pt))(seen:List Nat){i:Nat}(hi:i<R0.length)(hn:i∉seen)(h':i<(GY R0 seen).length):GY R0 (seen ++ [i])=(GY R0 seen).set i ((GY R0 seen)[i].1,DO R0[i].1 R0[i].2):=by
 apply List.ext_getElem
 ·rw [List.length_set,Oh,Oh]
 ·intro j h1 h2;have hj:j<R0.length:=(by rw [Oh]at h1;exact h1);rw [Qh R0 _ hj h1];by_cases Bf:i=j
  ·subst Bf;rw [List.getElem_set_self,Qh R0 seen hj h',if_pos (by simp),if_neg hn]
  ·rw [List.getElem_set_ne Bf,Qh R0 seen hj (by rw [Oh];exact hj)];have:j∈seen ++ [i]↔j∈seen:=(by simp;intro e;exact absurd e.symm Bf);simp only [this]
theorem Bo.other{B:Nat}{W W':World}{r b1 b2:Nat}{L:List (Sg×Int)}{E:List (Pt×Value×Nat)}{R0:List (Pt×List Pt)}(h:Bo B W r b1 b2 L E R0){k:Nat}{o:Obj}(hg:W.grownBy W' (some k))(ho:W.heap[k]?=some o)
  (hc:∀cs e,o≠.cells cs e (0,0)) (hm:∀es c,o≠.map es c):Bo B W' r b1 b2 L E R0:=by
 have far:∀(j:Nat) (o':Obj),W.heap[j]?=some o'→o'≠o→W'.heap[j]?=some o':=by intro j o' hj hne;refine(hg.block j (AmV hj) ?_).trans hj;intro e;simp only [Anb]at e;subst e;rw [hj]at ho;simp only [Anb]at ho;exact hne ho
 refine⟨far _ _ h.cell (fun e=>hc _ _ e.symm),far _ _ h.left (fun e=>hm _ _ e.symm),⟨far _ _ h.ar.blk (fun e=>hm _ _ e.symm),h.ar.len,fun i hi hi'=>⟨(h.ar.row i hi hi').1,(h.ar.row i hi hi').2.1,(h.ar.row i hi hi').2.2.kept hg ?_⟩,h.ar.apart,h.ar.own⟩,h.r0,h.r1,h.ne⟩
 rcases(h.ar.row i hi hi').2.2.2 with⟨hv,_⟩|⟨g,cap,cur,hv,_,hgb,_⟩
 ·left;rw [hv];rfl
 ·right
  rw [hv];simp only [Value.ownBlock,ne_eq,Anb];intro e;subst e;rw [hgb]at ho;simp only [Anb]at ho;exact hc _ _ ho.symm
theorem Bo.sorted{B:Nat}{W W':World}{r b1 b2:Nat}{L:List (Sg×Int)}{E:List (Pt×Value×Nat)}{R0:List (Pt×List Pt)}(h:Bo B W r b1 b2 L E R0){i:Nat}(hi:i<E.length)(hi':i<R0.length){l':List Pt}(hl:l'.length=R0[i].2.length)
  (hg:W.grownBy W' E[i].2.1.ownBlock) (ho:W'.ownsRow B 94 2 E[i].2.1 R0[i].2.length (flat (Ao l'))):Bo B W' r b1 b2 L E (R0.set i (R0[i].1,l')):=by
 have far:∀(j:Nat) (o':Obj),W.heap[j]?=some o'→(∀cs,o'≠.cells cs 94 (0,0))→W'.heap[j]?=some o':=by
  intro j o' hj hne;refine(hg.block j (AmV hj) ?_).trans hj;intro e
  rcases(h.ar.row i hi hi').2.2.2 with⟨hv,_⟩|⟨g,cap,cur,hv,_,hgb,_⟩
  ·rw [hv]at e;simp [Value.ownBlock]at e
  ·rw [hv]at e;simp only [Value.ownBlock,Anb]at e;subst e;rw [hgb]at hj;simp only [Anb]at hj;exact hne _ hj.symm
 refine⟨far _ _ h.cell (fun cs e=>by cases e),far _ _ h.left (fun cs e=>by cases e),⟨far _ _ h.ar.blk (fun cs e=>by cases e),by rw [List.length_set];exact h.ar.len,fun j hj hj'=>?_,h.ar.apart,h.ar.own⟩,h.r0,h.r1,h.ne⟩;have Mt:j<R0.length:=(by rw [List.length_set]at hj';exact hj');by_cases Bf:i=j
 ·subst Bf;rw [List.getElem_set_self];refine⟨(h.ar.row i hi hi').1,(h.ar.row i hi hi').2.1,?_⟩;simp only [hl];exact ho
 ·rw [List.getElem_set_ne Bf];exact⟨(h.ar.row j hj Mt).1,(h.ar.row j hj Mt).2.1,(h.ar.row j hj Mt).2.2.kept hg (h.ar.apart j i hj hi (fun e=>Bf e.symm))⟩
structure lS(R0:List (Pt×List Pt)):Prop where
 row:∀e∈R0,QG e.1 e.2
 sz:∀e∈R0,Ar 200 e.1
 ne:∀e∈R0,e.2≠[]
 len:∀e∈R0,e.2.length<100000
theorem BD.iter{b2:Nat}{w a b:World}{it:Nat}(h:BD b2 w a)(hg:a.grownBy b (some it))(hi:w.heap.size<=it):BD b2 w b:=by
 refine⟨Ani h.1 hg.size,fun k o h1 h2 h3=>?_⟩;have h4:=h.2 k o h1 h2 h3;have:=AmV h1;exact(hg.block k (AmV h4) (by simp;omega)).trans h4
theorem BD.row{b2:Nat}{w a b:World}{v:Value}{B n:Nat}{xs:List Value}(h:BD b2 w a)(hg:a.grownBy b v.ownBlock)(ho:a.ownsRow B 94 2 v n xs):BD b2 w b:=by
 refine⟨Ani h.1 hg.size,fun k o h1 h2 h3=>?_⟩;have h4:=h.2 k o h1 h2 h3;refine(hg.block k (AmV h4) ?_).trans h4;intro e
 rcases ho.2 with⟨hv,_⟩|⟨g,cap,cur,hv,_,hgb,_⟩
 ·rw [hv]at e;simp [Value.ownBlock]at e
 ·rw [hv]at e;simp only [Value.ownBlock,Anb]at e;subst e;rw [hgb]at h4;simp only [Anb]at h4;exact h3 _ h4.symm
theorem Aji{n:Nat}{seen:List Nat}(Cj:seen.Nodup)(hlt:∀i∈seen,i<n)(hlen:seen.length=n):∀i,i<n→i∈seen:=by
 intro i hi;refine Classical.byContradiction fun hn=>?_;have h1:(i::seen).Nodup:=List.nodup_cons.2 ⟨hn,Cj⟩
 have h2:(i::seen) ⊆ List.range n:=by
  intro j hj
  rcases List.mem_cons.1 hj with rfl|hj
  ·simpa using hi
  ·simpa using hlt j hj
 have:=h1.length_le_of_subset h2;simp at this;omega
theorem sort_c{w0 w:World}(hw:An w0)(hx:Aa w0 w){r b1 b2:Nat}{L:List (Sg×Int)}{E:List (Pt×Value×Nat)}{R0:List (Pt×List Pt)}(h:Bo w0.heap.size w r b1 b2 L E R0)(hR:lS R0) :
  Calls Tryz.prog 154 #[.pointer (some ⟨r,0,none⟩)] w fun e w'=>e=.returned (.tuple #[])/\Aa w0 w'/\BD b2 w w'/\Bo w0.heap.size w' r b1 b2 L E (R0.map (fun e=>(e.1,DO e.1 e.2))):=by
 have n1:=Ab (o:=1) h.cell rfl;obtain⟨hr1,hr2⟩:=C5.range (enc:=Ak) (E:=E) (t:=132) Tryz.underlying132 (W:=w) (b:=b2) h.ar.blk;have UW:=hx.alloc (.mapIter (some b2) E.length #[] E.length);have hS1:BD b2 w (w.alloc (.mapIter (some b2) E.length #[] E.length)):=BD.of_ext ((Aa.refl w).alloc _);have Gm:=h.ext ((Aa.refl w).alloc (.mapIter (some b2) E.length #[] E.length));have HR:=AmU hR;have J5:=h.ar.len;have hst:∀i (h':i<E.length),E[i].2.2=i:=fun i hi=>(h.ar.row i hi (by rw [←J5];exact hi)).2.1;have hit:w.heap.size<=w.heap.size:=AmX _;have hB:=hx.size;have hlt2:=h.ar.lt;have HST:=AmU hst;have Ox:=AmU J5;clear hst hR J5;go_enter Tryz.func154,Tryz.ntmps154
 go_upto_region 1 with fail
 generalize w.alloc (.mapIter (some b2) E.length #[] E.length)=V at *;obtain⟨it,wI⟩:=AmT w.heap.size;have Aef:w.heap.size<=it:=(by omega);rw [←wI]at hr2 ⊢;clear hr1 wI hit h n1
 go_loopw [3] (fun _ wr=>∃(seen:List Nat),C5 wr it b2 E seen/\Aa w0 wr/\BD b2 w wr/\Bo w0.heap.size wr r b1 b2 L E (GY R0 seen)) (fun _ wr=>E.length-(wr.iterSeen it).size)
 case atStart=>exact⟨[],hr2,UW,hS1,by rw [AiQ];exact Gm⟩
 case round=>
  obtain⟨seen,hI,BJ,Mf,OZ⟩:=hrel
  rcases C5.next Ak hI OZ.ar.blk HST.out (by omega) 0 with⟨hlen,hrun⟩|⟨i,hi,Gx,W1,FI,hG1,hs1,hrun,hen⟩
  ·have hall:=AiP R0 (Aji hI.nd (by rw [←Ox.out];exact hI.lt) (by rw [←Ox.out];exact hlen));rw [hall]at OZ;have HN:=AmU OZ;clear OZ hI;go_wp2
   go_end0
   exact⟨rfl,BJ,Mf,HN.out⟩
  ·have KL:i<R0.length:=(by rw [←Ox.out];exact hi);have Vw:i<(GY R0 seen).length:=(by rw [Oh];exact KL);have Dn:=Ey hI
   have hlen':seen.length<E.length:=by
    have h2:(i::seen) ⊆ List.range E.length:=by
     intro j hj
     rcases List.mem_cons.1 hj with rfl|hj
     ·simpa using hi
     ·simpa using hI.lt j hj
    have:=(List.nodup_cons.2 ⟨Gx,hI.nd⟩).length_le_of_subset h2;simp at this;omega
   have C7:Aa w0 W1:=Nt BJ hG1 (by omega);have tC:=Mf.iter hG1 Aef;have IA:=OZ.other hG1 hI.it (fun _ _ e=>by cases e) (fun _ _ e=>by cases e);have Gs:=hen W1 rfl rfl;have hrow:=IA.ar.row i hi Vw;have Ea:=Qh R0 seen KL Vw;rw [if_neg Gx]at Ea;have hkey:E[i].1=R0[i].1:=(by rw [hrow.1,Ea]);have hown:=hrow.2.2;rw [Ea]at hown;have Aj:=HR.out.row R0[i] (AmY KL);have Mz:=HR.out.sz R0[i] (AmY KL);have IP:=HR.out.ne R0[i] (AmY KL);have Dm:=HR.out.len R0[i] (AmY KL);have C9:=AiR R0 seen KL Gx Vw;obtain⟨v,hv⟩:=AmT (E[i].2.1);obtain⟨p,hp⟩:=AmT (R0[i].1);obtain⟨l,hl⟩:=AmT (R0[i].2);rw [hkey,←hp,←hv]at Gs;rw [hkey,←hp,←hv]at hrun;rw [←hv,←hl]at hown;rw [←hp,←hl]at Aj C9;rw [←hp]at Mz;rw [←hl]at IP Dm;have BO:=AmW W1 (.cells #[S (R p.x),S (R p.y)] 94);have E3:=(Aa.refl W1).alloc (.cells #[S (R p.x),S (R p.y)] 94);have CY:=C7.trans E3;have ZC:=tC.trans (BD.of_ext E3);have Gn:=IA.ext E3;have Rx:=FI.keep (E3.block it (AmV FI.it))
   have DJ:(W1.alloc (.cells #[S (R p.x),S (R p.y)] 94)).ownsRow w0.heap.size 94 2 v l.length (flat (Ao l)):=hown.kept (Gj E3 none) (by
    rcases hv':v.ownBlock with _|g
    ·exact .inl rfl
    ·exact .inr (by simp))
   have bS:v.ownBlock≠some W1.heap.size:=by
    rcases hown.2 with⟨e,_⟩|⟨g,cap,cur,e,_,hgb,_⟩
    ·rw [e];simp [Value.ownBlock]
    ·rw [e];have:=AmV hgb;simp only [Value.ownBlock,ne_eq,Anb];omega
   have cs:=Ajx Aj Mz IP Dm hw CY DJ BO bS;have HV:=AmU hv;have HL:=AmU (And.intro hl Ea);have Hi:=AmU C9;clear hen hrow hkey hown Aj Mz IP Dm BO IA C7 tC OZ BJ Mf hI FI hv hp hl Ea C9 hG1 E3;unfold Ak at Gs hrun
   go_upto_region 3 with fail
   unfold S at CY ZC Gn Rx DJ cs;rw [hs1]at cs;generalize (W1.alloc (.cells #[.string ⟨(R p.x).toArray⟩,.string ⟨(R p.y).toArray⟩] 94))=W3 at *;(go_wp2_with fail);(with_reducible refine cs.mono ?_);rintro e W4 ⟨rfl,hg4,BS⟩
   have Dj:=Rx.keep (hg4.block it (AmV Rx.it) (by
    intro e
    rcases DJ.2 with⟨e2,_⟩|⟨g,cap,cur,e2,_,hgb,_⟩
    ·rw [e2]at e;simp [Value.ownBlock]at e
    ·rw [e2]at e;simp only [Value.ownBlock,Anb]at e;subst e;have:=Rx.it;rw [hgb]at this
     cases this))
   have Fw:Aa w0 W4:=CY.grownOwn hg4 DJ (AmX _);have hS4:=ZC.row hg4 DJ;have GM:=Gn.sorted hi Vw (l':=DO p l) (by rw [HL.out.2,←HL.out.1];exact(WZ p l).length_eq) (by rw [←HV.out];exact hg4) (by rw [←HV.out,HL.out.2,←HL.out.1];exact BS);rw [←Hi.out]at GM;have vd:=AmU GM;clear GM Gn DJ BS hg4 cs Rx CY ZC;go_wp2;go_roundw
   case rel=>exact⟨seen ++ [i],Dj,Fw,hS4,vd.out⟩
   case measure=>rw [Dn,Ey Dj,List.length_append,List.length_singleton];omega
end
section
open Go.ChangeMaps (setBlock)
section
variable {α : Type} {enc : α → Value} {same : α → α → Bool}
theorem iN{mt kt et:TypeId}{z:Value}(K:Js mt kt et z enc same)(k:α)(l:List (α×Value×Nat))(hno:∀e∈l,same k e.1=false)(v:Value){b clock:Nat}{W:World}(hb:W.heap[b]?=some (.map (Aw enc l).toArray clock)) :
  (Instr.mapUpdate mt (.map (some b)) (enc k) v).run Tryz.prog W=.ok () (setBlock W b (.map (Aw enc (l ++ [(k,v,clock)])).toArray (clock+1))):=by
 have hf:=Rn K k l W
 have hi:Fa same k l=none:=by unfold Fa;rw [List.findIdx?_eq_none_iff];exact hno
 rw [hi]at hf;simp only [Option.bind_none]at hf
 have e0:Aw enc l ++ [{key:=enc k,val:=v,born:=clock}]=Aw enc (l ++ [(k,v,clock)]):=by simp [Aw]
 simp [Instr.mapUpdate,run_underlying K.map,MapKept.run_getObj_map hb,K.chk,hf,MapKept.run_setObj_map _ hb,Result.andThen,setBlock,e0]
end
theorem ay:Js 285 155 4 (.bool false) As AK where
 map:=Tryz.underlying285
 st:=⟨_,Tryz.underlying155⟩
 zero:=fun W=>by simp [go_sem]
 eq:=qJ
 chk:=nP
 iff:=Iq
 bits:=fun x=>by unfold As;simp [Instr.sameBits,beq_toListBytes]
def Ji(L:List (Sg×Value)):List (Sg×Value×Nat):=L.mapIdx fun i e=>(e.1,e.2,i)
theorem AjB(L:List (Sg×Value))(e:Sg×Value):Ji (L ++ [e])=Ji L ++ [(e.1,e.2,L.length)]:=by simp [Ji,List.mapIdx_append]
theorem AjA{L:List (Sg×Value)}{x:Sg×Value×Nat}(h:x∈Ji L):∃e∈L,x.1=e.1/\x.2.1=e.2:=by
 unfold Ji at h;rw [List.mem_mapIdx]at h;obtain⟨i,hi,rfl⟩:=h;exact⟨L[i],AmY hi,rfl,rfl⟩
def Wl(z:Value)(k:Sg)(L:List (Sg×Value)):Value:=match L.find? (fun e=>AK k e.1)with|some e=>e.2|none=>z
theorem Agn(z:Value)(k:Sg)(L:List (Sg×Value)):Fb AK z k (Ji L)=Wl z k L:=by
 have h:∀(L:List (Sg×Value)) (n:Nat),(L.mapIdx fun i e=>(e.1,e.2,i+n)).find? (fun e=>AK k e.1)=(L.findIdx? (fun e=>AK k e.1)).bind fun j=>(L[j]?).map fun e=>(e.1,e.2,j+n):=by
  intro L
  induction L with
  | nil=>intro n;simp
  | cons e L ih=>
   intro n;rw [List.mapIdx_cons,List.find?_cons,List.findIdx?_cons];simp only
   cases hb:AK k e.1
   ·simp only;have:=ih (n+1)
    have e1:(L.mapIdx fun i e=>(e.1,e.2,i+1+n))=L.mapIdx fun i e=>(e.1,e.2,i+(n+1)):=by congr 1;funext i e;rw [show i+1+n=i+(n+1)by omega]
    rw [e1,this]
    cases L.findIdx? (fun e=>AK k e.1)with
    | none=>simp
    | some j=>
     simp only [Bool.false_eq_true,if_false,Option.map_some,Option.bind_some,List.getElem?_cons_succ]
     congr 1;funext e;rw [show j+(n+1)=j+1+n by omega]
   ·simp
 have h2:∀(L:List (Sg×Value)),L.find? (fun e=>AK k e.1)=(L.findIdx? (fun e=>AK k e.1)).bind fun j=>L[j]?:=by
  intro L
  induction L with
  | nil=>simp
  | cons e L ih=>
   rw [List.find?_cons,List.findIdx?_cons]
   cases hb:AK k e.1
   ·simp only [ih]
    cases L.findIdx? (fun e=>AK k e.1)<;>simp
   ·simp
 unfold Fb Wl Ji;have h0:=h L 0;simp only [Nat.add_zero]at h0;rw [h0,h2]
 cases L.findIdx? (fun e=>AK k e.1)with
 | none=>rfl
 | some j=>
  simp only [Option.bind_some]
  cases L[j]?<;>rfl
def It(U:List Sg):List (Sg×Value):=U.map fun s=>(s,.bool true)
def D6(W:World)(b:Nat)(U:List Sg):Prop:=W.heap[b]?=some (.map (Aw As (Ji (It U))).toArray U.length)
theorem Agp(k:Sg)(U:List Sg):Wl (.bool false) k (It U)=.bool (U.any (AK k)):=by
 induction U with
 | nil=>rfl
 | cons u U ih=>
  unfold Wl It at *;rw [List.map_cons,List.find?_cons,List.any_cons]
  cases hb:AK k u
  ·simp only [Bool.false_or];exact ih
  ·simp
theorem D6.look{W:World}{b:Nat}{U:List Sg}(h:D6 W b U)(s:Sg):(Instr.lookup 285 (.map (some b)) (As s) false).run Tryz.prog W=.ok (.bool (U.any (AK s))) W:=by
 rw [Qj ay s (Ji (It U)) h,Agn,Agp]
theorem D6.put{W:World}{b:Nat}{U:List Sg}(h:D6 W b U)(s:Sg)(hno:U.any (AK s)=false) :
  ∃W',(Instr.mapUpdate 285 (.map (some b)) (As s) (.bool true)).run Tryz.prog W=.ok () W'/\D6 W' b (U ++ [s])/\W.grownBy W' (some b)/\W'.heap.size=W.heap.size:=by
 refine⟨_,iN ay s (Ji (It U)) ?_ (.bool true) h,?_,Kw h,by simp [setBlock]⟩
 ·intro e he;obtain⟨x,hx,h1,_⟩:=AjA he;unfold It at hx;rw [List.mem_map]at hx;obtain⟨u,hu,rfl⟩:=hx;rw [h1];rw [List.any_eq_false]at hno
  simpa using hno u hu
 ·unfold D6;rw [Ls h];have e1:It (U ++ [s])=It U ++ [(s,.bool true)]:=(by simp [It]);have e2:(It U).length=U.length:=(by simp [It]);rw [e1,AjB,e2];simp
structure Au(K:Nat→Prop)(w w':World):Prop where
 os:w'.os=w.os
 tape:w'.tape=w.tape
 output:w'.output=w.output
 size:w.heap.size<=w'.heap.size
 block:∀k,k<w.heap.size→¬K k→w'.heap[k]?=w.heap[k]?
theorem Au.refl(K:Nat→Prop)(w:World):Au K w w:=⟨rfl,rfl,rfl,AmX _,fun _ _ _=>rfl⟩
theorem Au.ext{K:Nat→Prop}{w a b:World}(h:Au K w a)(hx:Aa a b):Au K w b:=
 ⟨hx.os.trans h.os,hx.tape.trans h.tape,hx.output.trans h.output,Ani h.size hx.size,fun k hk hn=>(hx.block k (Anh hk h.size)).trans (h.block k hk hn)⟩
theorem Au.grown{K:Nat→Prop}{w a b:World}{row:Option Nat}(h:Au K w a)(hg:a.grownBy b row)(hr:∀k,row=some k→K k∨w.heap.size<=k):Au K w b:=by
 refine⟨hg.os.trans h.os,hg.tape.trans h.tape,hg.output.trans h.output,Ani h.size hg.size,fun k hk hn=>(hg.block k (Anh hk h.size) ?_).trans (h.block k hk hn)⟩;intro e
 rcases hr k e.symm with h1|h1
 ·exact hn h1
 ·omega
theorem Au.own{K:Nat→Prop}{w a b:World}{B:Nat}{e:TypeId}{s n:Nat}{v:Value}{xs:List Value}(h:Au K w a)(hg:a.grownBy b v.ownBlock)(ho:a.ownsRow B e s v n xs)(hB:w.heap.size<=B):Au K w b:=
 h.grown hg fun k hk=>.inr (Ani hB (ho.lt k hk).1)
theorem Au.cells{K:Nat→Prop}{w a:World}{k:Nat}{o:Obj}(h:Au K w a)(hk:w.heap[k]?=some o)(hn:¬K k):a.heap[k]?=some o:=(h.block k (AmV hk) hn).trans hk
theorem Au.setCell{K:Nat→Prop}{w a:World}(h:Au K w a){p:Addr}(hp:K p.block∨w.heap.size<=p.block)(v:Value):Au K w (a.setCell p v):=by
 refine⟨h.os,h.tape,h.output,by rw [World.size_setCell];exact h.size,fun k hk hn=>?_⟩
 have hne:k≠p.block:=by
  intro e
  rcases hp with hp|hp
  ·exact hn (e▸hp)
  ·omega
 rw [Below.heap_setCell _ _ _ _ hne];exact h.block k hk hn
theorem Au.toExt{K:Nat→Prop}{w0 w a:World}(h:Au K w a)(hx:Aa w0 w)(hK:∀k,K k→w0.heap.size<=k):Aa w0 a:=
 ⟨h.os.trans hx.os,h.tape.trans hx.tape,h.output.trans hx.output,Ani hx.size h.size,fun k hk=>(h.block k (Anh hk hx.size) (fun hh=>by have:=hK k hh;omega)).trans (hx.block k hk)⟩
theorem Au.trans{K:Nat→Prop}{a b c:World}(h:Au K a b)(k:Au K b c):Au K a c:=
 ⟨k.os.trans h.os,k.tape.trans h.tape,k.output.trans h.output,Ani h.size k.size,fun i hi hn=>(k.block i (Anh hi h.size) hn).trans (h.block i hi hn)⟩
theorem Bo.but{B:Nat}{W W':World}{r b1 b2:Nat}{L:List (Sg×Int)}{E:List (Pt×Value×Nat)}{R0:List (Pt×List Pt)}(h:Bo B W r b1 b2 L E R0){K:Nat→Prop}(hb:Au K W W')(hK:∀k,k<W.heap.size→¬K k):Bo B W' r b1 b2 L E R0:=
 h.ext ⟨hb.os,hb.tape,hb.output,hb.size,fun k hk=>hb.block k hk (hK k hk)⟩
theorem Tryz.infoStep:(Tryz.prog.info? 155).map (fun i=>(i.zero,i.size,i.bytes))=some (some (.agg #[S [],S [],S [],S []]),4,64):=by kernel_rfl
section
variable {ops : Array Oper} {rest : List Oper} {o : Oper} {a : Act} {Q : Exit → Act → World → Prop}
theorem zq(hgd:o.guard=none)(s x:Operand)(ho:o.op=.call {callee:=.builtin .append,args:=#[s,x],argTypes:=#[160,160]})
  (wN:World) (base:Nat) (v:Value) (n:Nat) (l:List Sg) (hs:a.eval s=v) (hown:wN.ownsRow base 155 4 v n (BN l)) (hn:n<200000) (d:Sg)
  (g:Nat) (hb:wN.heap[g]?=some (.cells #[S (R d.a.x),S (R d.a.y),S (R d.b.x),S (R d.b.y)] 155)) (hx:a.eval x=.slice (some ⟨g,0,none⟩) 1 1) (hbase:base<=wN.heap.size)
  (h:∀v' w',w'.ownsRow base 155 4 v' (n+1) (BN (l ++ [d]))→wN.grownBy w' v.ownBlock→wpList Tryz.prog ops Q rest (a.put o.dst v') w') :
  wpList Tryz.prog ops Q (o::rest) a wN:=by
 obtain⟨i0,hi,hz0,hz1,hz2⟩:=info_parts Tryz.infoStep;refine wpList_plain hgd fun K hK=>Tx s x 160 ho 155 i0 _ 4 64 Tryz.underlying160 hi hz0 hz1 hz2 rfl (by omega) (by omega) wN base v n _ hs hown hn g _ hb rfl ?_ hx hbase ?_
 ·intro u hu;simp only [List.mem_cons,Anj,or_false]at hu
  rcases hu with rfl|rfl|rfl|rfl<;>rfl
 ·intro v' w' h1 _ h3;exact hK _ _ (h v' w' (by rw [lm];exact h1) h3)
theorem Tryz.infoSteps:(Tryz.prog.info? 160).map (fun i=>(i.zero,i.size,i.bytes))=some (some (.slice none 0 0),1,24):=by kernel_rfl
theorem appRow(hgd:o.guard=none)(s x:Operand)(ho:o.op=.call {callee:=.builtin .append,args:=#[s,x],argTypes:=#[209,209]})
  (wN:World) (base:Nat) (v:Value) (n:Nat) (vs:List Value) (hs:a.eval s=v) (hown:wN.ownsRow base 160 1 v n vs) (hn:n<200000) (d:Value) (hd:d.oneCell'=true)
  (g:Nat) (hb:wN.heap[g]?=some (.cells #[d] 160)) (hx:a.eval x=.slice (some ⟨g,0,none⟩) 1 1) (hbase:base<=wN.heap.size)
  (h:∀v' w',w'.ownsRow base 160 1 v' (n+1) (vs ++ [d])→wN.grownBy w' v.ownBlock→wpList Tryz.prog ops Q rest (a.put o.dst v') w') :
  wpList Tryz.prog ops Q (o::rest) a wN:=by
 obtain⟨i0,hi,hz0,hz1,hz2⟩:=info_parts Tryz.infoSteps;refine wpList_plain hgd fun K hK=>Tx s x 209 ho 160 i0 _ 1 24 Tryz.underlying209 hi hz0 hz1 hz2 rfl (by omega) (by omega) wN base v n _ hs hown hn g _ hb rfl ?_ hx hbase ?_
 ·intro u hu;simp only [List.mem_cons,Anj,or_false]at hu;rw [hu];exact hd
 ·intro v' w' h1 _ h3;exact hK _ _ (h v' w' h1 h3)
end
end
section
open Go.Sort
def Ym:Code:=Code.region 2 #[{dst:=some 5,op:=Op.alloc 155,type:=0,pos:= "iter.go:51",after:=#[],guard:=none},{dst:=none,op:=Op.store 155 (Operand.tmp 5) (Operand.tmp 7),type:=0,pos:= "iter.go:51",after:=#[{on:=0,ground:=Ground.data},{on:=0,ground:=Ground.phase}],guard:=none}] false
def Yo:Code:=Code.block 1 (Code.region 3 #[{dst:=some 8,op:=Op.load 160 (Operand.tmp 2),type:=160,pos:= "iter.go:52",after:=#[],guard:=none},{dst:=some 9,op:=Op.load 155 (Operand.tmp 5),type:=155,pos:= "iter.go:52",after:=#[],guard:=none},{dst:=some 10,op:=Op.buildSlice 160 1 #[(0,Operand.tmp 9)],type:=160,pos:= "iter.go:52",after:=#[{on:=1,ground:=Ground.data}],guard:=none},{dst:=some 11,op:=Op.call {callee:=Callee.builtin Builtin.append,args:=#[Operand.tmp 8,Operand.tmp 10],argTypes:=#[160,160]},type:=160,pos:= "iter.go:52",after:=#[{on:=0,ground:=Ground.data},{on:=2,ground:=Ground.data}],guard:=none},{dst:=none,op:=Op.store 160 (Operand.tmp 2) (Operand.tmp 11),type:=0,pos:= "iter.go:52",after:=#[{on:=3,ground:=Ground.data},{on:=3,ground:=Ground.chain},{on:=0,ground:=Ground.phase},{on:=1,ground:=Ground.phase},{on:=2,ground:=Ground.phase},{on:=3,ground:=Ground.phase}],guard:=none}] false)
def apRec(fn:FuncId)(sv:Value)(Bs D:Nat)(st:LoopState)(pend:Option Code):Loop:=
 {state:=st,pending:=pend,fn,tmps:=#[.slice none 0 0,sv,.pointer (some ⟨Bs,0,none⟩),undef,.slice none 0 0,undef,sv,undef,undef,undef,undef,undef,undef],params:=#[7],assign:=Ym,body:=Yo,defers:=D}
structure ApAt(w0:World)(fn:FuncId)(sv:Value)(Bs l D:Nat)(ss:List Sg)(W:World):Prop where
 box:∃v,W.heap[Bs]?=some (.cells #[v] 160 (0,0))/\W.ownsRow w0.heap.size 155 4 v ss.length (BN ss)
 L:W.heap[l]?=some (.loop (apRec fn sv Bs D .ready none))
 K:W.heap[D]?=some (.deferred (some []))
 below:Below w0.heap.size w0 W
theorem ownsRow_abides{W W':World}{row:Option Nat}{base:Nat}{e:TypeId}{size:Nat}{v:Value}{k:Nat}{xs:List Value}(h:W.ownsRow base e size v k xs)(hg:W.grownBy W' row)
  (hrow:∀r,row=some r→∃o:Obj,W.heap[r]?=some o/\o.isWalk=true):W'.ownsRow base e size v k xs:=by
 refine h.kept hg ?_
 rcases h.2 with⟨rfl,_⟩|⟨g,cap,cur,rfl,_,hgb,_⟩
 ·exact .inl rfl
 ·refine .inr fun e'=>?_;obtain⟨o,ho,hw⟩:=hrow g (by simpa [Value.ownBlock]using e'.symm);rw [hgb]at ho;cases ho;cases hw
theorem ap_abides(w0:World)(fn:FuncId)(sv:Value)(Bs l D B:Nat)(hB:w0.heap.size<=B):AbidesFrom B (ApAt w0 fn sv Bs l D):=fun s W W' row h hg hrow=>by
 have hrow':∀r,row=some r→∃o:Obj,W.heap[r]?=some o/\o.isWalk=true:=fun r e=>(hrow r e).2;obtain⟨v,hv,hr⟩:=h.box
 exact⟨⟨v,(grownBy_keeps hg hrow' hv rfl).trans hv,ownsRow_abides hr hg hrow'⟩,(grownBy_keeps hg hrow' h.L rfl).trans h.L,(grownBy_keeps hg hrow' h.K rfl).trans h.K,
  h.below.grown hg h.below.size (fun k e=>Ani hB (hrow k e).1)⟩
theorem grownBy_putObj(W:World)(l:Nat)(o:Obj):W.grownBy (W.putObj l o) (some l):=
 ⟨rfl,rfl,rfl,by simp,fun k _ hk=>World.putObj_heap_other (fun e=>hk (by rw [e]))⟩
theorem grownBy_setCell0(W:World)(b:Nat)(v:Value):W.grownBy (W.setCell ⟨b,0,none⟩ v) (some b):=
 ⟨rfl,rfl,rfl,(KeepsWalks.setCell W _ v).size,fun k _ hk=>Below.heap_setCell _ _ _ k (fun e=>hk (by rw [e]))⟩
theorem ownsRow_ne{W:World}{base:Nat}{e:TypeId}{size:Nat}{v:Value}{k:Nat}{xs:List Value}(h:W.ownsRow base e size v k xs){j:Nat}{o:Obj}(hj:W.heap[j]?=some o)(hno:∀cur,o≠.cells cur e (0,0)) :
  v.ownBlock=none∨v.ownBlock≠some j:=by
 rcases h.2 with⟨rfl,_⟩|⟨g,cap,cur,rfl,_,hgb,_⟩
 ·exact .inl rfl
 ·refine .inr fun e'=>?_;have:g=j:=(by simpa [Value.ownBlock]using e');subst this;rw [hgb]at hj;cases hj;exact hno cur rfl
theorem cell_of_box{W:World}{B:Nat}{v:Value}{t:TypeId}(h:W.heap[B]?=some (.cells #[v] t (0,0))):W.cell? ⟨B,0,none⟩=some v/\W.frozen? ⟨B,0,none⟩=false:=by
 constructor<;>simp [World.cell?,World.frozen?,h]
theorem heap_setCell_box{W:World}{B:Nat}{v:Value}{t:TypeId}(v':Value)(h:W.heap[B]?=some (.cells #[v] t (0,0))):(W.setCell ⟨B,0,none⟩ v').heap[B]?=some (.cells #[v'] t (0,0)):=by
 obtain⟨hlt,hk⟩:=Array.getElem?_eq_some_iff.1 h;show (W.heap.modify B _)[B]?=_;rw [Array.getElem?_eq_getElem (by rw [Array.size_modify];exact hlt),Array.getElem_modify_self,hk]
 rfl
theorem ownsRow_not_walk{W:World}{base:Nat}{e:TypeId}{size:Nat}{v:Value}{k:Nat}{xs:List Value}(h:W.ownsRow base e size v k xs):∀(j:Nat) (o:Obj),v.ownBlock=some j→W.heap[j]?=some o→o.isWalk=false:=by
 intro j o hj ho
 rcases h.2 with⟨rfl,_⟩|⟨g,cap,cur,rfl,_,hgb,_⟩
 ·simp [Value.ownBlock]at hj
 ·have:g=j:=(by simpa [Value.ownBlock]using hj);subst this;rw [hgb]at ho;cases ho;rfl
theorem AaG(W:World)(a b c d:Value)(t:TypeId):∀(j:Nat) (u:Value),[a,b,c,d][j]?=some u→(W.alloc (.cells #[a,b,c,d] t)).cell? ((⟨W.heap.size,0,none⟩:Addr).add j)=some u:=by
 intro j u hu;rw [Addr.add_lit,Nat.zero_add];refine Ab (AmW W (.cells #[a,b,c,d] t)) ?_;rw [←Array.getElem?_toList];exact hu
theorem apYield (F : Fence) (m : Nat) (w0 : World) (fn : FuncId) (hfn : F.fn fn) (sv : Value) (Bs l D : Nat) (hBl : Bs ≠ l) (hDl : D ≠ l) (hDB : D ≠ Bs) (h0B : w0.heap.size ≤ Bs) (h0l : w0.heap.size ≤ l)
    (N : Nat) (hN : N ≤ 200000) (ss : List Sg) (x : Sg) (W : World) (h : ApAt w0 fn sv Bs l D ss W) (hlen : ss.length < N) :
    YieldAt F m Tryz.prog l #[As x] W fun e W' => e = .returned (.bool true) ∧ ApAt w0 fn sv Bs l D (ss ++ [x]) W' ∧ KeepsWalks W W' := by
  have hne : 160 ≠ 155 := by decide
  obtain ⟨i0, hi, hz0, hz1, hz2⟩ := info_parts Tryz.infoStep
  obtain ⟨v, hv, hrow⟩ := h.box
  refine ⟨fn, #[.slice none 0 0, sv, .pointer (some ⟨Bs, 0, none⟩), undef, .slice none 0 0, undef, sv, As x, undef, undef, undef, undef, undef], Ym, Yo, by simpa [apRec] using run_yield (P := Tryz.prog) (args := #[As x]) h.L rfl, roundIn_of_wpIn hfn ?_⟩
  have hka : KeepsWalks W (W.alloc (.cells #[S (R x.a.x), S (R x.a.y), S (R x.b.x), S (R x.b.y)] 155)) := KeepsWalks.alloc _ _
  have ha := ap_abides w0 fn sv Bs l D W.heap.size h.below.size ss W _ none h (Gj ((Aa.refl W).alloc (.cells #[S (R x.a.x), S (R x.a.y), S (R x.b.x), S (R x.b.y)] 155)) none) (fun r e => by cases e)
  have Gw := AmW W (.cells #[S (R x.a.x), S (R x.a.y), S (R x.b.x), S (R x.b.y)] 155)
  have Sp : l < W.heap.size := (Array.getElem?_eq_some_iff.1 h.L).1
  unfold Ym
  unfold As
  gi_wp2_with (rw [Oper.semAt_eq _ _ _ (fun c h => by cases h)]; go_simp; try go_bits)
  obtain ⟨bv, CJ⟩ := AmT W.heap.size
  rw [← CJ] at Gw Sp ⊢
  unfold S at ha Gw hka
  clear CJ h hv hrow
  generalize ZO : W.alloc (.cells #[.string ⟨(R x.a.x).toArray⟩, .string ⟨(R x.a.y).toArray⟩, .string ⟨(R x.b.x).toArray⟩, .string ⟨(R x.b.y).toArray⟩] 155) = Wa at *
  clear ZO
  obtain ⟨v, hv, hrow⟩ := ha.box
  have hl : l < Wa.heap.size := (Array.getElem?_eq_some_iff.1 ha.L).1
  have hbr := run_beginRound (P := Tryz.prog) ha.L rfl
  obtain ⟨W2, hW2⟩ : ∃ W2, Wa.putObj l (.loop { apRec fn sv Bs D .ready none with state := .busy }) = W2 := ⟨_, rfl⟩
  rw [hW2] at hbr
  have hg2 : Wa.grownBy W2 (some l) := by rw [← hW2]; exact grownBy_putObj _ _ _
  have hk2 : KeepsWalks Wa W2 := by rw [← hW2]; exact KeepsWalks.putObj _ ha.L rfl
  have hv2 : W2.heap[Bs]? = some (.cells #[v] 160 (0, 0)) := by rw [← hW2]; exact (World.putObj_heap_other hBl).trans hv
  have Dc : W2.heap[bv]? = some (.cells #[S (R x.a.x), S (R x.a.y), S (R x.b.x), S (R x.b.y)] 155) := by rw [← hW2]; exact (World.putObj_heap_other (by omega)).trans Gw
  have hK2 : W2.heap[D]? = some (.deferred (some [])) := by rw [← hW2]; exact (World.putObj_heap_other hDl).trans ha.K
  have hL2 : W2.heap[l]? = some (.loop { apRec fn sv Bs D .ready none with state := .busy }) := by rw [← hW2]; exact World.putObj_heap_same hl
  have hrow2 : W2.ownsRow w0.heap.size 155 4 v ss.length (BN ss) := hrow.kept hg2 (ownsRow_ne hrow ha.L (fun cur e => by first | cases e | exact hne (Obj.cells.inj e).2.1))
  have hb2 : Below w0.heap.size w0 W2 := ha.below.grown hg2 ha.below.size (fun k e => by cases e; exact h0l)
  obtain ⟨hc2, hf2⟩ := cell_of_box hv2
  have hBlt : Bs < W2.heap.size := (Array.getElem?_eq_some_iff.1 hv2).1
  have hl2 : l < W2.heap.size := (Array.getElem?_eq_some_iff.1 hL2).1
  have hDlt : D < W2.heap.size := (Array.getElem?_eq_some_iff.1 hK2).1
  have ne_of : ∀ {j : Nat} {o : Obj}, W2.heap[j]? = some o → (∀ cur, o ≠ .cells cur 155 (0, 0)) → some j ≠ v.ownBlock := fun hj hno => by
    rcases ownsRow_ne hrow2 hj hno with e | e
    · rw [e]; simp
    · exact fun e' => e e'.symm
  have q0 := Ab (o := 0) Dc rfl
  have q1 := Ab (o := 1) Dc rfl
  have q2 := Ab (o := 2) Dc rfl
  have q3 := Ab (o := 3) Dc rfl
  have bS : W2.heap.size ≠ l := by omega
  clear hW2 ha hv hrow Gw Dc
  refine ⟨W2, hbr, ?_⟩
  unfold Yo
  gi_wp2_with (first
    | (gi_at_builtin; refine wpListIn_append_own _ rfl _ _ 160 rfl w0.heap.size 155 i0 (.agg #[S [], S [], S [], S []]) 4 64 Tryz.underlying160 hi hz0 hz1 hz2 rfl (by decide) _ _ _ rfl (hrow2.alloc _) ⟨W2.heap.size, 0, none⟩ 1 1 [S (R x.a.x), S (R x.a.y), S (R x.b.x), S (R x.b.y)] rfl rfl (AaG _ _ _ _ _ _) (by simp [Value.oneCell']) (by unfold maxLen; omega) (by omega) (by have := hb2.size; simp; omega) ?_; intro v' w3 hown' hg3 hnil3
       have hv3 : w3.heap[Bs]? = some (.cells #[v] 160 (0, 0)) := (hg3.block Bs (by simp; omega) (ne_of hv2 (fun cur e => by first | cases e | exact hne (Obj.cells.inj e).2.1))).trans ((Below.heap_alloc _ _ Bs hBlt).trans hv2)
       obtain ⟨hc3, hf3⟩ := cell_of_box hv3
       obtain ⟨g', cap', cur', rfl, hbase', hgb', hr1, hr2, hr3, hr4⟩ : ∃ g' cap' cur', v' = .slice (some ⟨g', 0, none⟩) (ss.length + 1) cap' ∧ w0.heap.size ≤ g' ∧ w3.heap[g']? = some (.cells cur' 155 (0, 0)) ∧ ss.length + 1 ≤ cap' ∧ cap' ≤ maxLen ∧ cur'.size = cap' * 4 ∧ cur'.toList.take ((ss.length + 1) * 4) = BN ss ++ [S (R x.a.x), S (R x.a.y), S (R x.b.x), S (R x.b.y)] := by
         rcases hown'.2 with ⟨_, h0⟩ | h'
         · exact absurd h0 (by omega)
         · exact h'
       go_frame)
    | (rw [Oper.semAt_eq _ _ _ (fun c h => by cases h)]; go_simp; try go_bits))
  have hg3' : (W2.alloc (.cells #[S (R x.a.x), S (R x.a.y), S (R x.b.x), S (R x.b.y)] 155)).grownBy w3 v.ownBlock := hg3
  have hL3 : w3.heap[l]? = some (.loop { apRec fn sv Bs D .ready none with state := .busy }) := (hg3'.block l (by simp; omega) (ne_of hL2 (fun cur e => by first | cases e | exact hne (Obj.cells.inj e).2.1))).trans ((Below.heap_alloc _ _ l hl2).trans hL2)
  have hK3 : w3.heap[D]? = some (.deferred (some [])) := (hg3'.block D (by simp; omega) (ne_of hK2 (fun cur e => by first | cases e | exact hne (Obj.cells.inj e).2.1))).trans ((Below.heap_alloc _ _ D hDlt).trans hK2)
  obtain ⟨w4, hw4⟩ : ∃ w4, w3.setCell ⟨Bs, 0, none⟩ (.slice (some ⟨g', 0, none⟩) (ss.length + 1) cap') = w4 := ⟨_, rfl⟩
  rw [hw4]
  have hg4 : w3.grownBy w4 (some Bs) := by rw [← hw4]; exact grownBy_setCell0 _ _ _
  have hv4 : w4.heap[Bs]? = some (.cells #[.slice (some ⟨g', 0, none⟩) (ss.length + 1) cap'] 160 (0, 0)) := by rw [← hw4]; exact heap_setCell_box _ hv3
  have hL4 : w4.heap[l]? = some (.loop { apRec fn sv Bs D .ready none with state := .busy }) := (hg4.block l (Array.getElem?_eq_some_iff.1 hL3).1 (fun e => hBl (by cases e; rfl))).trans hL3
  have hK4 : w4.heap[D]? = some (.deferred (some [])) := (hg4.block D (Array.getElem?_eq_some_iff.1 hK3).1 (fun e => hDB (by cases e; rfl))).trans hK3
  have hrow4 := hown'.kept hg4 (ownsRow_ne hown' hv3 (fun cur e => by first | cases e | exact hne (Obj.cells.inj e).2.1))
  have hl4 : l < w4.heap.size := (Array.getElem?_eq_some_iff.1 hL4).1
  have hb3 : Below w0.heap.size w0 w3 := (hb2.alloc hb2.size _).grown hg3' (by have := hb2.size; simp; omega) (fun k e => (hrow2.lt k e).1)
  have hb4 : Below w0.heap.size w0 w4 := hb3.grown hg4 hb3.size (fun k e => by cases e; exact h0B)
  have hk4 : KeepsWalks W w4 := (hka.trans ((hk2.trans (KeepsWalks.alloc _ _)).trans (KeepsWalks.of_grownBy hg3' (ownsRow_not_walk (hrow2.alloc _))))).trans (by rw [← hw4]; exact KeepsWalks.setCell _ _ _)
  clear hw4
  refine ⟨_, _, run_endRound none hL4, rfl, ⟨⟨_, (World.putObj_heap_other hBl).trans hv4, ?_⟩, World.putObj_heap_same hl4, (World.putObj_heap_other hDl).trans hK4, hb4.grown (grownBy_putObj _ _ _) hb4.size (fun k e => by cases e; exact h0l)⟩, hk4.trans (KeepsWalks.putObj _ hL4 rfl)⟩
  have := hrow4.kept (grownBy_putObj w4 l (.loop { { apRec fn sv Bs D .ready none with state := .busy } with state := if (none : Option Code).isNone then .ready else .done, pending := none })) (ownsRow_ne hrow4 hL4 (fun cur e => by first | cases e | exact hne (Obj.cells.inj e).2.1))
  rw [lm]
  simpa using this
end
section
open Go.Sort
theorem appendSeq_in(F:Fence)(n:Nat)(h11:F.fn 260)(hro:F.round=none)(hn:2<=n)(g:Nat)(lb:Array Value)(hFg:F.fn g)(eg:∀args w,(callFunc g args).run Tryz.prog w=.ok (.enter g args) w)
  (S:List Sg→Prop) (N:Nat) (hN:N<=200000) (w:World) (hseq:SeqGives F (n-1) Tryz.prog g lb As S N w) :
  CallsIn F n Tryz.prog 260 #[.slice none 0 0,.func (.func g) #[] lb] w fun e w'=>∃(v:Value) (ss:List Sg),e=.returned v/\S ss/\w'.ownsRow w.heap.size 155 4 v ss.length (BN ss)/\Below w.heap.size w w':=by
 have h1:1<=n:=(by omega);have hne:160≠155:=(by decide);refine callsIn_of_wp_marks Tryz.func260 rfl h11 ?_ hro;simp only [Tryz.ntmps260,List.size_toArray,List.length_cons,List.length_nil,Nat.reduceAdd,Nat.reduceSub,Array.replicate_succ,Array.replicate_zero,List.push_toArray,List.append_toArray,List.nil_append,List.cons_append];gi_wp2;refine wpIn_rangeFunc ?_;intro fn hfn;rw [hro];obtain⟨W0,hW0⟩:∃W0,w.alloc (.cells #[.slice none 0 0] 160)=W0:=⟨_,rfl⟩;have hs0:W0.heap.size=w.heap.size+1:=(by rw [←hW0];simp);have hv0:W0.heap[w.heap.size]?=some (.cells #[.slice none 0 0] 160 (0,0)):=(by rw [←hW0];exact World.alloc_heap_new w _);have hb0:Below w.heap.size w W0:=(by rw [←hW0];exact(Below.refl _ w).alloc (AmX _) _);rw [hW0];obtain⟨W1,hW1⟩:∃W1,(W0.alloc (.deferred (some []))).alloc (.loop (apRec fn (.func (.func g) #[] lb) w.heap.size W0.heap.size .ready none))=W1:=⟨_,rfl⟩
 have hold:∀k,k<W0.heap.size→W1.heap[k]?=W0.heap[k]?:=fun k hk=>by rw [←hW1];exact(Below.heap_alloc _ _ k (by simp;omega)).trans (Below.heap_alloc _ _ k hk)
 have hb1:Below w.heap.size w W1:=(by rw [←hW1];exact(hb0.alloc hb0.size _).alloc (by have:=hb0.size;simp;omega) _);have hs1:W1.heap.size=W0.heap.size+2:=by rw [←hW1];simp
 have hM:ApAt w fn (.func (.func g) #[] lb) w.heap.size (W0.heap.size+1) W0.heap.size [] W1:=
  ⟨⟨_,(hold w.heap.size (by omega)).trans hv0,⟨rfl,.inl ⟨rfl,rfl⟩⟩⟩,
   by rw [←hW1];have:=World.alloc_heap_new (W0.alloc (.deferred (some []))) (.loop (apRec fn (.func (.func g) #[] lb) w.heap.size W0.heap.size .ready none));rwa [Anf]at this,
   by rw [←hW1];exact(Below.heap_alloc _ _ _ (by simp)).trans (World.alloc_heap_new W0 _),hb1⟩
 refine⟨W0.heap.size+1,[{target:=.collected W0.heap.size,args:=#[]}],W1,{target:=.fn (.func g) lb,args:=#[.func (.yield (W0.heap.size+1)) #[] #[]]},W1,g,
  #[.func (.yield (W0.heap.size+1)) #[] #[]]++lb,W1,?_,?_,?_,?_,fun _=>h1,?_⟩
 ·rw [←hW1];exact run_enterLoop_outer _ _ _ _ _
 ·simp [resolve,go_sem]
 ·intro f' hf';simp [Target.leads]at hf';subst hf';exact hFg
 ·simp [invoke,go_sem,eg]
 ·refine(hseq (W0.heap.size+1) (ApAt w fn (.func (.func g) #[] lb) w.heap.size (W0.heap.size+1) W0.heap.size) W1 hb1 (ap_abides _ _ _ _ _ _ _ hb1.size)
   (fun pre x W hJ hl=>apYield F (n-1-1) w fn hfn _ w.heap.size (W0.heap.size+1) W0.heap.size (by omega) (by omega) (by omega) (AmX _) (by omega) N hN pre x W hJ hl) hM).mono ?_
  rintro e W2 ⟨⟨v0,rfl⟩,ss,hS,h2⟩;obtain⟨v,hv,hrow⟩:=h2.box;have hend:=run_endLoop (P:=Tryz.prog) h2.L (by simp [apRec]);obtain⟨W3,hW3⟩:∃W3,W2.putObj (W0.heap.size+1) (.loop {apRec fn (.func (.func g) #[] lb) w.heap.size W0.heap.size .ready none with state:=.exhausted})=W3:=⟨_,rfl⟩;rw [hW3]at hend;have hg3:W2.grownBy W3 (some (W0.heap.size+1)):=(by rw [←hW3];exact grownBy_putObj _ _ _);have hv3:W3.heap[w.heap.size]?=some (.cells #[v] 160 (0,0)):=(by rw [←hW3];exact(World.putObj_heap_other (by omega)).trans hv);have hK3:W3.heap[W0.heap.size]?=some (.deferred (some [])):=(by rw [←hW3];exact(World.putObj_heap_other (by omega)).trans h2.K);have hrow3:=hrow.kept hg3 (ownsRow_ne hrow h2.L (fun cur e=>by first|cases e|exact hne (Obj.cells.inj e).2.1));have hb3:Below w.heap.size w W3:=h2.below.grown hg3 h2.below.size (fun k e=>by cases e;omega);obtain⟨hc3,hf3⟩:=cell_of_box hv3;clear hW3;refine⟨none,W3,hend,?_⟩;gi_wp2;rw [←hs0];refine⟨by simp,.inl ⟨_,_,rfl,run_takeDeferred hK3,?_⟩⟩;exact⟨_,results_tmp rfl _ _ _,v,ss,rfl,hS,hrow3.kept (grownBy_putObj _ _ _) (ownsRow_ne hrow3 hK3 (fun cur e=>by first|cases e|exact hne (Obj.cells.inj e).2.1)),hb3.grown (grownBy_putObj _ _ _) hb3.size (fun k e=>by cases e;omega)⟩
end
section
open Go.Sort
theorem collect_in(F:Fence)(n:Nat)(h8:F.fn 181)(h11:F.fn 260)(hro:F.round=none)(hn:3<=n)(g:Nat)(lb:Array Value)(hFg:F.fn g)(eg:∀args w,(callFunc g args).run Tryz.prog w=.ok (.enter g args) w)
  (S:List Sg→Prop) (N:Nat) (hN:N<=200000) (w:World) (hseq:SeqGives F (n-1-1) Tryz.prog g lb As S N w) :
  CallsIn F n Tryz.prog 181 #[.func (.func g) #[] lb] w fun e w'=>∃(v:Value) (ss:List Sg),e=.returned v/\S ss/\w'.ownsRow w.heap.size 155 4 v ss.length (BN ss)/\Below w.heap.size w w':=by
 have h1:1<=n:=(by omega);have e11:∀args w,(callFunc 260 args).run Tryz.prog w=.ok (.enter 260 args) w:=enters_of Tryz.func260 (by kernel_rfl) rfl;refine callsIn_of_wp Tryz.func181 rfl h8 ?_ hro;simp only [Tryz.ntmps181,List.size_toArray,List.length_cons,List.length_nil,Nat.reduceAdd,Nat.reduceSub,Array.replicate_succ,Array.replicate_zero,List.push_toArray,List.append_toArray,List.nil_append,List.cons_append];gi_wp2;refine(appendSeq_in F (n-1) h11 hro (by omega) g lb hFg eg S N hN _ hseq).mono ?_;rintro e w' ⟨v,ss,rfl,hS,hrow,hb⟩;gi_wp2;go_ret;exact⟨v,ss,rfl,hS,hrow,hb⟩
end
section
open Go.Sort
theorem AfZ(w:World):Calls Tryz.prog 137 #[.int .u64 0] w fun e w'=>e=.returned (.int .i64 0)/\w'=w:=by
 have e8:wrap64 (wrap64 (Lib.len8 0))=0:=(by decide +kernel);go_enter Tryz.func137,Tryz.ntmps137;go_wp2;go_ret;exact⟨by simp [e8],rfl⟩
theorem len_nil(w:World):Calls Tryz.prog 61 #[.int .u64 0] w fun e w'=>e=.returned (.int .i64 0)/\w'=w:=by
 have h:=AfZ;go_enter Tryz.func61,Tryz.ntmps61;(go_wp2_with fail);(with_reducible refine(h _).mono ?_);rintro e w1 ⟨rfl,rfl⟩;go_wp2;go_ret;exact⟨rfl,rfl⟩
theorem AfB(fv:Value)(w:World):Calls Tryz.prog 315 #[.slice none 0 0,.int .i64 0,.int .i64 0,fv] w fun e w'=>e=.returned (.tuple #[])/\w'=w:=by
 go_enter Tryz.func315,Tryz.ntmps315;go_wp2;refine wp_loop_rounds 1 ?_;rw [rounds_succ];go_wp2
 go_end0
 exact⟨rfl,rfl⟩
theorem AhS(lim:Int)(fv:Value)(w:World):Calls Tryz.prog 261 #[.slice none 0 0,.int .i64 0,.int .i64 0,.int .i64 lim,fv] w fun e w'=>e=.returned (.tuple #[])/\w'=w:=by
 have hi:=AfB fv;go_enter Tryz.func261,Tryz.ntmps261;go_wp2;refine wp_loop_rounds 1 ?_;rw [rounds_succ];(go_wp2_with fail);(with_reducible refine(hi _).mono ?_);rintro e w1 ⟨rfl,rfl⟩;go_wp2
 (try simp only [Exit.inBlock,Exit.then]);refine bodyPost_ret (results_none rfl _ _ _) rfl ?_
 exact⟨rfl,rfl⟩
theorem Aj2(fv:Value)(w:World):Calls Tryz.prog 182 #[.slice none 0 0,fv] w fun e w'=>e=.returned (.tuple #[])/\w'=w:=by
 have h1:=len_nil;have h2:=AhS 0 fv;go_enter Tryz.func182,Tryz.ntmps182;(go_wp2_with fail);(with_reducible refine(h1 _).mono ?_);rintro e w1 ⟨rfl,rfl⟩;(go_wp2_with fail);(with_reducible refine(h2 _).mono ?_);rintro e w1 ⟨rfl,rfl⟩;go_wp2
 go_end0
 exact⟨rfl,rfl⟩
def B7(l:List Sg):List Sg:=l.mergeSort (fun x y=>!decide (Fx y x<0))
theorem Jh(l:List Sg):(B7 l).Perm l:=List.mergeSort_perm _ _
theorem jB{l:List Sg} : (B7 l).Pairwise (fun x y=>¬Fx y x<0):=by
 have tr:∀a b c:Sg,(!decide (Fx b a<0))=true→(!decide (Fx c b<0))=true→(!decide (Fx c a<0))=true:=by
  intro a b c h1 h2;simp only [Bool.not_eq_true',decide_eq_false_iff_not,PO]at *
  grind
 have jI:∀a b:Sg,((!decide (Fx b a<0))||(!decide (Fx a b<0)))=true:=by
  intro a b;simp only [Bool.or_eq_true,Bool.not_eq_true',decide_eq_false_iff_not,PO]
  grind
 have h:=List.pairwise_mergeSort tr jI l;refine h.imp ?_;intro a b hab
 simpa using hab
theorem Aj7{l m:List Sg}(h:l.Perm m):B7 l=B7 m:=by
 refine List.Perm.eq_of_pairwise (le:=fun x y=>¬Fx y x<0) ?_ jB jB (((Jh l).trans h).trans (Jh m).symm);intro a b _ _ h1 h2;rw [PO]at h1 h2;obtain⟨⟨a1,a2⟩,⟨a3,a4⟩⟩:=a;obtain⟨⟨b1,b2⟩,⟨b3,b4⟩⟩:=b;simp only [Sg.mk.injEq,Pt.mk.injEq]at *
 grind
theorem qF(m:List Way):m.flatMap Gi=BN (m.map (·.1)):=by
 induction m with
 | nil=>rfl
 | cons x m ih=>rw [List.flatMap_cons,ih];rfl
theorem Ak7{l:List Sg}(h:∀s∈l,QI s):∃d:Array Way,d.toList.map (·.1)=l:=
 ⟨(l.attachWith QI h).toArray,by simp⟩
theorem rO(w:World)(row:Option Nat):w.grownBy w row:=⟨rfl,rfl,rfl,AmX _,fun _ _ _=>rfl⟩
theorem Ajz{w0 w:World}(hw:An w0)(hx:Aa w0 w){B:Nat}(hB:w0.heap.size<=B)(l:List Sg)(hl:∀s∈l,QI s)(hlen:l.length<1000000){v:Value}(hv:w.ownsRow B 155 4 v l.length (BN l)) :
  Calls Tryz.prog 182 #[v,.func (.func 109) #[] #[]] w fun e w'=>
   e=.returned (.tuple #[])/\w.grownBy w' v.ownBlock/\w'.ownsRow B 155 4 v l.length (BN (B7 l)):=by
 by_cases hn:l = []
 ·subst hn
  have hv':v=.slice none 0 0∨∃g cap,v=.slice (some ⟨g,0,none⟩) 0 cap:=by
   rcases hv.2 with⟨h,_⟩|⟨g,cap,cur,h,_⟩
   ·exact .inl h
   ·exact .inr ⟨g,cap,h⟩
  have e:B7 [] = []:=(by unfold B7;simp);rw [e]
  rcases hv' with rfl|⟨g,cap,rfl⟩
  ·exact(Aj2 _ w).mono fun _ _ ⟨he,hw⟩=>⟨he,by subst hw;exact rO _ _,by subst hw;exact hv⟩
  ·have hgb:g<w.heap.size/\w0.heap.size<=g:=by have:=hv.lt g rfl;omega
   refine(m7 g 0 cap #[] w0 w hw hx hgb.2 (fun j hj=>by simp at hj) hgb.1 (by simp)).mono ?_;rintro e w' ⟨he,n,os,rfl⟩;refine⟨he,OR Gi 4 w g 0 n _ os,?_⟩;have h2:w.ownsRow B 155 4 (.slice (some ⟨g,0,none⟩) (#[]:Array Way).size cap) (#[]:Array Way).size ((#[]:Array Way).toList.flatMap Gi):=hv;have:=Ti U4 (by omega) h2 (d':=(JW []).toArray) (by simp [JW]) n os
   simpa [JW,BN]using this
 ·obtain⟨d,hd⟩:=Ak7 hl;have DG:d.size=l.length:=by rw [←hd];simp
  have hv':w.ownsRow B 155 4 v d.size (d.toList.flatMap Gi):=by rw [qF,hd,DG];exact hv
  have BY:0<d.size:=(by rw [DG];exact List.length_pos_iff.2 hn);obtain⟨g,cap,rfl,hgb,Sc,hH,hown⟩:=cI U4 (by omega) hv' BY;refine(m7 g 0 cap d w0 w hw hx (by omega) hH Sc (by omega)).mono ?_;rintro e w' ⟨he,n,os,rfl⟩;refine⟨he,OR Gi 4 w g 0 n _ os,?_⟩;have ho:=Ti U4 (by omega) hv' (d':=(JW d.toList).toArray) (by simp [JW]) n os
  have hm:(JW d.toList).map (·.1)=B7 l:=by unfold JW B7;rw [List.map_mergeSort (r:=fun x y:Way=>!ltOf Ha y x) (f:=fun x:Way=>x.1) (s:=fun x y=>!decide (Fx y x<0)) (fun a _ b _=>rfl),hd]
  rw [qF,List.toList_toArray,hm,DG]at ho;rw [DG];exact ho
theorem jA{w0 w:World}(hw:An w0)(hx:Aa w0 w)(Bm b:Nat)(L:List (Sg×Int))(hBm:Bm<w.heap.size)(hm:w.cell? ⟨Bm,0,none⟩=some (.map (some b)))(hb:w.heap[b]?=some (.map (Aw As (stamp L)).toArray L.length))
  (hL:∀e∈L,Ei 200 e.1) (hlen:L.length<=200000) :
  Calls Tryz.prog 107 #[.func (.func 183) #[] #[.pointer (some ⟨Bm,0,none⟩)],.func (.func 109) #[] #[]] w fun e w'=>
   ∃v,e=.returned v/\w'.ownsRow w.heap.size 155 4 v L.length (BN (B7 (L.map (·.1))))/\Aa w w':=by
 have eg:∀args w,(callFunc 183 args).run Tryz.prog w=.ok (.enter 183 args) w:=enters_of Tryz.func183 (by kernel_rfl) rfl;have c1:=callsIn_wide.1 (collect_in Fence.wide 5 trivial trivial rfl (by omega) 183 #[.pointer (some ⟨Bm,0,none⟩)] trivial eg _ L.length hlen w (AfM Fence.wide 3 trivial rfl (by omega) Bm b L w hBm hm hb));go_enter Tryz.func107,Tryz.ntmps107;(go_wp2_with fail);(with_reducible refine c1.mono ?_);rintro e w1 ⟨v,ss,rfl,hS,hrow,hbl⟩;have ER:Aa w w1:=hbl;have Ec:ss.length=L.length:=by rw [hS.length_eq];simp
 have c2:=Ajz hw (hx.trans ER) hx.size ss (fun s hs=>by
  have:=hS.mem_iff.1 hs;rw [List.mem_map]at this;obtain⟨e,he,rfl⟩:=this
  exact hL e he) (by omega) hrow
 have CO:=Aj7 hS;rw [CO,Ec]at c2;rw [Ec]at hrow;(go_wp2_with fail);(with_reducible refine c2.mono ?_);rintro e w2 ⟨rfl,hg,ho⟩;go_wp2;go_ret;exact⟨v,rfl,ho,ER.grownOwn hg hrow (AmX _)⟩
end
def rowOf(R0:List (Pt×List Pt))(p:Pt):List Pt:=match R0.find? (fun e=>Ap p e.1)with|some e=>e.2|none=>[]
theorem jw(p:Pt):Ap p p=true:=Cx.2 rfl
theorem ju{p q:Pt} : Ap p q=false↔p≠q:=by
 rw [Bool.eq_false_iff];exact not_congr Cx
theorem Lr(e:Pt×List Pt)(R0:List (Pt×List Pt))(p:Pt):rowOf (e::R0) p=if Ap p e.1=true then e.2 else rowOf R0 p:=by
 unfold rowOf;rw [List.find?_cons]
 cases h:Ap p e.1<;>simp
theorem Ug(p q:Pt):CG [] p q = [(p,[q])]:=by simp [CG,Gh,FC,List.modify]
theorem Uf(e:Pt×List Pt)(R0:List (Pt×List Pt))(p q:Pt):CG (e::R0) p q=if Ap p e.1=true then (e.1,e.2 ++ [q])::R0 else e::CG R0 p q:=by
 unfold CG Gh FC;rw [List.findIdx?_cons]
 cases h:Ap p e.1
 ·simp only [Bool.false_eq_true,if_false]
  cases h2:R0.findIdx? (fun e=>Ap p e.1)with
  | none=>simp [List.modify_succ_cons]
  | some j=>simp [List.modify_succ_cons]
 ·simp
theorem iI(R0:List (Pt×List Pt))(p q p':Pt):rowOf (CG R0 p q) p'=if Ap p' p=true then rowOf R0 p ++ [q] else rowOf R0 p':=by
 induction R0 with
 | nil=>
  rw [Ug,Lr];simp only
  cases h:Ap p' p<;>simp [rowOf]
 | cons e R0 ih=>
  rw [Uf];by_cases h:Ap p e.1=true
  ·rw [if_pos h,Lr,Lr,Lr,if_pos h];have he:=Cx.1 h;simp only [←he];by_cases h2:Ap p' p=true
   ·rw [if_pos h2,if_pos h2]
   ·rw [if_neg h2,if_neg h2,if_neg h2]
  ·rw [if_neg h,Lr,Lr,Lr,if_neg h,ih];by_cases h2:Ap p' p=true
   ·have:=Cx.1 h2;subst this;rw [if_neg h,if_pos h2,if_pos h2]
   ·rw [if_neg h2,if_neg h2]
theorem yq(R0:List (Pt×List Pt))(p q:Pt):∀x,x∈(CG R0 p q).map (·.1)↔x=p∨x∈R0.map (·.1):=by
 induction R0 with
 | nil=>intro x;rw [Ug];simp
 | cons e R0 ih=>
  intro x;rw [Uf];by_cases h:Ap p e.1=true
  ·rw [if_pos h];have:=Cx.1 h;subst this;simp
  ·rw [if_neg h,List.map_cons,List.mem_cons,ih x,List.map_cons,List.mem_cons];constructor
   ·rintro(h1|h1|h1)
    ·exact .inr (.inl h1)
    ·exact .inl h1
    ·exact .inr (.inr h1)
   ·rintro(h1|h1|h1)
    ·exact .inr (.inl h1)
    ·exact .inl h1
    ·exact .inr (.inr h1)
theorem lY{R0:List (Pt×List Pt)}(h:(R0.map (·.1)).Nodup)(p q:Pt):((CG R0 p q).map (·.1)).Nodup:=by
 induction R0 with
 | nil=>rw [Ug];simp
 | cons e R0 ih=>
  rw [List.map_cons,List.nodup_cons]at h;rw [Uf];by_cases h2:Ap p e.1=true
  ·rw [if_pos h2,List.map_cons,List.nodup_cons];exact h
  ·rw [if_neg h2,List.map_cons,List.nodup_cons];refine⟨?_,ih h.2⟩;rw [yq];rintro(h3|h3)
   ·exact h2 (Cx.2 h3.symm)
   ·exact h.1 h3
theorem lX{R0:List (Pt×List Pt)}(h:∀e∈R0,e.2≠[])(p q:Pt):∀e∈CG R0 p q,e.2≠[]:=by
 induction R0 with
 | nil=>rw [Ug];simp
 | cons e R0 ih=>
  rw [Uf];intro x hx;by_cases h2:Ap p e.1=true
  ·rw [if_pos h2]at hx
   rcases List.mem_cons.1 hx with rfl|hx
   ·simp
   ·exact h x (List.mem_cons_of_mem _ hx)
  ·rw [if_neg h2]at hx
   rcases List.mem_cons.1 hx with rfl|hx
   ·exact h _ (List.mem_cons_self)
   ·exact ih (fun e he=>h e (List.mem_cons_of_mem _ he)) x hx
theorem kj{R0:List (Pt×List Pt)}(h:(R0.map (·.1)).Nodup){e:Pt×List Pt}(he:e∈R0):R0.find? (fun x=>Ap e.1 x.1)=some e:=by
 induction R0 with
 | nil=>cases he
 | cons x R0 ih=>
  rw [List.map_cons,List.nodup_cons]at h;rw [List.find?_cons]
  rcases List.mem_cons.1 he with rfl|he
  ·rw [jw]
  ·have:Ap e.1 x.1=false:=by rw [ju];intro hh;exact h.1 (hh▸List.mem_map_of_mem he)
   rw [this];exact ih h.2 he
structure EH(W:List Sg)(R0:List (Pt×List Pt)):Prop where
 keys:(R0.map (·.1)).Nodup
 ne:∀e∈R0,e.2≠[]
 mem:∀p q,q∈rowOf R0 p↔(⟨p,q⟩:Sg)∈W
 back:∀s∈W,AP s∈W
theorem ew(pts:List Pt)(l:List Av):EH ((AL pts l).map (·.1)) (C3 pts l):=by
 have main:∀n,n<=l.length→EH ((AL pts (l.take n)).map (·.1)) (C3 pts (l.take n)):=by
  intro n
  induction n with
  | zero=>intro _;exact⟨by simp [C3],by simp [C3],by simp [C3,AL,rowOf],by simp [AL]⟩
  | succ n ih=>
   intro hn;have h:=ih (by omega);rw [Ana (by omega),Ww,Wx];generalize l[n]=e at *;generalize AY pts e=s at *;refine⟨lY (lY h.keys _ _) _ _,lX (lX h.ne _ _) _ _,?_,?_⟩
   ·intro p q;rw [iI,iI,iI,List.map_append,List.mem_append];simp only [List.map_cons,List.map_nil,List.mem_cons,Anj,or_false,←h.mem];have e1:((⟨p,q⟩:Sg)=s)↔p=s.a/\q=s.b:=(by obtain⟨a,b⟩:=s;simp);have e2:((⟨p,q⟩:Sg)=AP s)↔p=s.b/\q=s.a:=(by obtain⟨a,b⟩:=s;simp [AP]);rw [e1,e2];by_cases h1:Ap p s.b=true
    ·have p1:=Cx.1 h1;rw [if_pos h1];by_cases h2:Ap s.b s.a=true
     ·have p2:=Cx.1 h2;rw [if_pos h2,←p2,←p1];simp only [List.mem_append,Ank]
      grind
     ·rw [if_neg h2,←p1];have p2:¬s.b=s.a:=fun h=>h2 (Cx.2 h);simp only [List.mem_append,Ank]
      grind
    ·have p1:¬p=s.b:=fun h=>h1 (Cx.2 h);rw [if_neg h1];by_cases h2:Ap p s.a=true
     ·have p2:=Cx.1 h2;rw [if_pos h2,←p2];simp only [List.mem_append,Ank]
      grind
     ·have p2:¬p=s.a:=fun h=>h2 (Cx.2 h);rw [if_neg h2]
      grind
   ·intro x hx;rw [List.map_append,List.mem_append]at hx ⊢;simp only [List.map_cons,List.map_nil,List.mem_cons,Anj,or_false]at hx ⊢
    rcases hx with hx|rfl|rfl
    ·exact .inl (h.back x hx)
    ·exact .inr (.inr rfl)
    ·exact .inr (.inl rfl)
 have:=main l.length (AmX _)
 rwa [List.take_length]at this
theorem AiN(R0:List (Pt×List Pt))(p q:Pt):q∈rowOf (R0.map (fun e=>(e.1,DO e.1 e.2))) p↔q∈rowOf R0 p:=by
 induction R0 with
 | nil=>simp [rowOf]
 | cons e R0 ih=>
  rw [List.map_cons,Lr,Lr];simp only;by_cases h1:Ap p e.1=true
  ·rw [if_pos h1,if_pos h1];exact(WZ e.1 e.2).mem_iff
  ·rw [if_neg h1,if_neg h1];exact ih
theorem Af2{l:List Pt}{p:Pt}(h:p∈l):∃j,j<l.length/\G1 l p=(j:Int):=by
 unfold G1
 cases hf:l.findIdx? (Ap p)with
 | none=>
  rw [List.findIdx?_eq_none_iff]at hf;have:=hf p h;rw [jw]at this
  cases this
 | some j=>rw [List.findIdx?_eq_some_iff_getElem]at hf;exact⟨j,hf.1,rfl⟩
theorem EH.sorted{W:List Sg}{R0:List (Pt×List Pt)}(h:EH W R0):EH W (R0.map (fun e=>(e.1,DO e.1 e.2))):=by
 have hk:(R0.map (fun e=>(e.1,DO e.1 e.2))).map (·.1)=R0.map (·.1):=(by rw [List.map_map];rfl);have hr:=AiN R0;refine⟨by rw [hk];exact h.keys,?_,fun p q=>by rw [hr];exact h.mem p q,h.back⟩;intro e he;rw [List.mem_map]at he;obtain⟨x,hx,rfl⟩:=he;have:=h.ne x hx;intro e0;have:=(WZ x.1 x.2).length_eq;simp only at e0;rw [e0]at this;exact h.ne x hx (List.eq_nil_of_length_eq_zero this.symm)
def MG(R0:List (Pt×List Pt))(s:Sg):Sg:=⟨s.b,(rowOf R0 s.b).getD (((G1 (rowOf R0 s.b) s.a).toNat+(rowOf R0 s.b).length-1)%(rowOf R0 s.b).length) ⟨0,0⟩⟩
theorem EH.step{W:List Sg}{R0:List (Pt×List Pt)}(h:EH W R0){s:Sg}(hs:s∈W) :
  ∃e,R0.find? (fun e=>Ap s.b e.1)=some e/\∃j m,∃_:j<e.2.length,G1 e.2 s.a=(j:Int)/\∃hm:m<e.2.length,m=(j+e.2.length-1)%e.2.length/\MG R0 s=⟨s.b,e.2[m]⟩/\(⟨s.b,e.2[m]⟩:Sg)∈W:=by
 have hb:s.a∈rowOf R0 s.b:=(h.mem s.b s.a).2 (h.back s hs)
 have hr:rowOf R0 s.b=match R0.find? (fun e=>Ap s.b e.1)with|some e=>e.2|none=>[]:=rfl
 cases hf:R0.find? (fun e=>Ap s.b e.1)with
 | none=>rw [hr,hf]at hb;cases hb
 | some e=>
  rw [hf]at hr;simp only at hr;rw [hr]at hb;obtain⟨j,hj,hi⟩:=Af2 hb;have hl:0<e.2.length:=(by omega);have hm:(j+e.2.length-1)%e.2.length<e.2.length:=Nat.mod_lt _ hl;refine⟨e,rfl,j,_,hj,hi,hm,rfl,?_,?_⟩
  ·unfold MG;rw [hr,hi];simp only [Int.toNat_natCast];rw [List.getD_eq_getElem?_getD,Anc hm];rfl
  ·refine(h.mem s.b _).1 ?_;rw [hr];exact AmY hm
theorem EH.next{W:List Sg}{R0:List (Pt×List Pt)}(h:EH W R0){s:Sg}(hs:s∈W):MG R0 s∈W:=by
 obtain⟨e,_,j,m,_,_,hm,_,h1,h2⟩:=h.step hs;rw [h1];exact h2
def Uc(W:List Sg):Prop:=∀s∈W,∀t∈W,s≠t→s≠AP t→Fl s.a s.b t.a t.b
theorem Uc.good{W:List Sg}(h:Uc W):Kc W:=by
 intro s hs t ht h1 h2 hne;refine h s hs t ht hne ?_;rintro rfl;simp only [AP]at h1
 grind
theorem Ak6(pts:List Pt)(l:List Av)(h3:D8 pts [] l=0):Uc ((AL pts l).map (·.1)):=by
 have hx:∀i j,(hi:i<l.length)→(hj:j<l.length)→i<j→Fl (AY pts l[j]).a (AY pts l[j]).b (AY pts l[i]).a (AY pts l[i]).b:=by intro i j hi hj Bf;have:=nU h3 j hj;rw [List.nil_append,List.any_eq_false]at this;have h1:=this l[i] (by rw [List.mem_take_iff_getElem];exact⟨i,by omega,rfl⟩);rw [Bool.not_eq_true]at h1;exact Ahc h1
 have hy:∀i j,(hi:i<l.length)→(hj:j<l.length)→i≠j→Fl (AY pts l[i]).a (AY pts l[i]).b (AY pts l[j]).a (AY pts l[j]).b:=by
  intro i j hi hj Bf
  rcases Nat.lt_or_gt_of_ne Bf with h|h
  ·exact(hx i j hi hj h).symm
  ·exact hx j i hj hi h
 have mem:∀s,s∈(AL pts l).map (·.1)→∃i,∃hi:i<l.length,s=AY pts l[i]∨s=AP (AY pts l[i]):=by
  intro s hs;rw [List.mem_map]at hs;obtain⟨x,hx,rfl⟩:=hs;unfold AL at hx;rw [List.mem_flatMap]at hx;obtain⟨e,he,hx⟩:=hx;obtain⟨i,hi,rfl⟩:=List.getElem_of_mem he;simp only [List.mem_cons,Anj,or_false]at hx
  rcases hx with rfl|rfl
  ·exact⟨i,hi,.inl rfl⟩
  ·exact⟨i,hi,.inr rfl⟩
 intro s hs t ht h1 h2;obtain⟨i,hi,es⟩:=mem s hs;obtain⟨j,hj,et⟩:=mem t ht
 have Bf:i≠j:=by
  rintro rfl
  rcases es with rfl|rfl<;>rcases et with rfl|rfl
  ·exact h1 rfl
  ·exact h2 rfl
  ·exact h2 rfl
  ·exact h1 rfl
 have hn:=hy i j hi hj Bf
 rcases es with rfl|rfl<;>rcases et with rfl|rfl
 ·exact hn
 ·exact hn.right
 ·exact hn.left
 ·exact hn.left.right
structure OD(W:List Sg):Prop where
 x:Uc W
 sz:∀s∈W,Ei 200 s
 ne:∀s∈W,s.a≠s.b
theorem AiO{W:List Sg}{R0:List (Pt×List Pt)}(hW:OD W)(hN:EH W R0)(hlen:∀e∈R0,e.2.length<100000):lS R0:=by
 have hm:∀e∈R0,∀q∈e.2,(⟨e.1,q⟩:Sg)∈W:=by intro e he q hq;refine(hN.mem e.1 q).1 ?_;unfold rowOf;rw [kj hN.keys he];exact hq
 refine⟨?_,?_,hN.ne,hlen⟩
 ·intro e he;refine⟨fun q hq=>(hW.sz _ (hm e he q hq)).b,fun q hq h=>hW.ne _ (hm e he q hq) h.symm,?_⟩;intro a ha b hb h0;refine Classical.byContradiction fun hab=>hab ?_;have na:a≠e.1:=fun h=>hW.ne _ (hm e he a ha) h.symm;have nb:b≠e.1:=fun h=>hW.ne _ (hm e he b hb) h.symm;refine AbG (hW.x _ (hm e he a ha) _ (hm e he b hb) ?_ ?_) na nb h0
  ·intro h;simp only [Sg.mk.injEq,true_and]at h;exact hab h
  ·intro h;simp only [AP,Sg.mk.injEq]at h;exact nb h.1.symm
 ·intro e he;obtain⟨q,hq⟩:=List.exists_mem_of_ne_nil _ (hN.ne e he);exact(hW.sz _ (hm e he q hq)).a
def G5(R0:List (Pt×List Pt)):Nat→List Sg→Sg→List Sg→List Sg×List Sg
 | 0,U,_,c=>(U,c)
 | n+1,U,s,c=>if U.any (AK s)=true then (U,c)else G5 R0 n (U ++ [s]) (MG R0 s) (c ++ [s])
def FG(N:Nat)(R0:List (Pt×List Pt))(st:List Sg×List (List Sg))(s:Sg):List Sg×List (List Sg):=
 ((G5 R0 (N-st.1.length+1) st.1 s []).1,if 0<(G5 R0 (N-st.1.length+1) st.1 s []).2.length then st.2 ++ [(G5 R0 (N-st.1.length+1) st.1 s []).2] else st.2)
def Hu(W:List Sg)(R0:List (Pt×List Pt)):List (List Sg):=((B7 W).foldl (FG W.length R0) ([],[])).2
theorem Ui{U:List Sg}{s:Sg} : U.any (AK s)=true↔s∈U:=by
 rw [List.any_eq_true];constructor
 ·rintro⟨x,hx,h⟩;rw [Iq]at h;exact h▸hx
 ·intro h;exact⟨s,h,Iq.2 rfl⟩
theorem mH{U:List Sg}{s:Sg} : U.any (AK s)=false↔s∉U:=by
 rw [←Ui,Bool.not_eq_true]
theorem JJ{U W:List Sg}(h:U.Nodup)(hs:∀s∈U,s∈W):U.length<=W.length:=h.length_le_of_subset hs
theorem iJ{W:List Sg}{R0:List (Pt×List Pt)}(hN:EH W R0):∀(n:Nat) (U:List Sg) (s:Sg) (c:List Sg),U.Nodup→(∀t∈U,t∈W)→s∈W→W.length<U.length+n→
  ∃d,G5 R0 n U s c=(U++d,c++d)/\(U++d).Nodup/\(∀t∈d,t∈W)/\(s∉U→d.head?=some s)/\s∈U++d
 | 0,U,s,c,h1,h2,h3,h4=>by have:=JJ h1 h2;omega
 | n+1,U,s,c,h1,h2,h3,h4=>by
  unfold G5;by_cases hs:s∈U
  ·rw [if_pos (Ui.2 hs)];exact⟨[],by simp,by simpa using h1,by simp,fun h=>absurd hs h,by simpa using hs⟩
  ·rw [if_neg (by rw [Ui];exact hs)]
   have hn:(U ++ [s]).Nodup:=by rw [List.nodup_append];refine⟨h1,by simp,?_⟩;intro a ha b hb;simp only [Ank]at hb;subst hb;rintro rfl;exact hs ha
   obtain⟨d,e1,e2,e3,e4,e5⟩:=iJ hN n (U ++ [s]) (MG R0 s) (c ++ [s]) hn (by
    intro t ht
    rcases List.mem_append.1 ht with ht|ht
    ·exact h2 t ht
    ·simp only [Ank]at ht;exact ht▸h3) (hN.next h3) (by simp;omega)
   refine⟨s::d,?_,?_,?_,fun _=>rfl,by simp⟩
   ·rw [e1];simp
   ·simpa using e2
   ·intro t ht
    rcases List.mem_cons.1 ht with rfl|ht
    ·exact h3
    ·exact e3 t ht
theorem ko(R0:List (Pt×List Pt)):∀(n:Nat) (U:List Sg) (s:Sg) (c:List Sg),c.length<=(G5 R0 n U s c).2.length
 | 0,U,s,c=>AmX _
 | n+1,U,s,c=>by
  unfold G5
  split
  ·exact AmX _
  ·have:=ko R0 n (U ++ [s]) (MG R0 s) (c ++ [s]);rw [List.length_append,List.length_singleton]at this;omega
structure T9(W:List Sg)(U:List Sg)(C:List (List Sg)):Prop where
 nd:U.Nodup
 sub:∀s∈U,s∈W
 flat:C.flatten=U
 ne:∀c∈C,c≠[]
 least:∀c∈C,∀s∈c,∀h:0<c.length,¬Fx s c[0]<0
theorem pG{W:List Sg}{R0:List (Pt×List Pt)}(hN:EH W R0)(k:Nat)(hk:k<=(B7 W).length) :
  T9 W (((B7 W).take k).foldl (FG W.length R0) ([],[])).1 (((B7 W).take k).foldl (FG W.length R0) ([],[])).2/\∀s∈(B7 W).take k,s∈(((B7 W).take k).foldl (FG W.length R0) ([],[])).1:=by
 induction k with
 | zero=>exact⟨⟨by simp,by simp,by simp,by simp,by simp⟩,by simp⟩
 | succ k ih=>
  have Cp:k<(B7 W).length:=(by omega);obtain⟨h,hp⟩:=ih (by omega);rw [Ana Cp,List.foldl_append];simp only [List.foldl_cons,List.foldl_nil];generalize hst:((B7 W).take k).foldl (FG W.length R0) ([],[])=st at *;have M4:(B7 W)[k]∈W:=(Jh W).mem_iff.1 (AmY Cp);have hle:=JJ h.nd h.sub;obtain⟨d,e1,e2,e3,e4,e5⟩:=iJ hN (W.length-st.1.length+1) st.1 (B7 W)[k] [] h.nd h.sub M4 (by omega)
  have hstep:FG W.length R0 st (B7 W)[k]=(st.1++d,if 0<d.length then st.2 ++ [d] else st.2):=by unfold FG;rw [e1];simp
  rw [hstep];simp only;refine⟨⟨e2,?_,?_,?_,?_⟩,?_⟩
  ·intro s hs
   rcases List.mem_append.1 hs with hs|hs
   ·exact h.sub s hs
   ·exact e3 s hs
  ·split
   ·rw [List.flatten_append,h.flat];simp
   ·have:d = []:=List.eq_nil_of_length_eq_zero (by omega);rw [this,List.append_nil];exact h.flat
  ·intro c hc
   split at hc
   ·rename_i BY
    rcases List.mem_append.1 hc with hc|hc
    ·exact h.ne c hc
    ·simp only [Ank]at hc;subst hc;intro e;rw [e]at BY;simp at BY
   ·exact h.ne c hc
  ·intro c hc;have old:=h.least c
   split at hc
   ·rcases List.mem_append.1 hc with hc|hc
    ·exact old hc
    ·simp only [Ank]at hc;subst hc;intro s hs h0;by_cases hu:(B7 W)[k]∈st.1
     ·
      exfalso
      have:G5 R0 (W.length-st.1.length+1) st.1 (B7 W)[k] []=(st.1,[]):=by unfold G5;rw [if_pos (Ui.2 hu)]
      rw [this]at e1;have:=congrArg Prod.snd e1;simp only [List.nil_append]at this;rw [←this]at h0;simp at h0
     ·have hh:=e4 hu
      have h00:c[0]=(B7 W)[k]:=by rw [List.head?_eq_getElem?,Anc h0,Anb]at hh;exact hh
      rw [h00];have hsm:s∈B7 W:=(Jh W).mem_iff.2 (e3 s hs);obtain⟨i,hi,rfl⟩:=List.getElem_of_mem hsm
      have hik:k<=i:=by
       refine Classical.byContradiction fun hlt=>?_
       have hin:(B7 W)[i]∈(B7 W).take k:=by rw [List.mem_take_iff_getElem];exact⟨i,by omega,rfl⟩
       have h1:=hp _ hin;rw [List.nodup_append]at e2;exact e2.2.2 _ h1 _ hs rfl
      rcases Nat.lt_or_eq_of_le hik with h1|h1
      ·exact List.pairwise_iff_getElem.1 jB k i Cp hi h1
      ·subst h1;rw [PO];grind
   ·exact old hc
  ·intro s hs
   rcases List.mem_append.1 hs with hs|hs
   ·exact List.mem_append_left _ (hp s hs)
   ·simp only [Ank]at hs;rw [hs];exact e5
theorem Wk{α:Type} : ∀{l:List (List α)},(∀c∈l,c≠[])→l.length<=l.flatten.length
 | [],_=>by simp
 | c::l,h=>by have h1:=Wk (l:=l) (fun x hx=>h x (List.mem_cons_of_mem _ hx));have h2:=List.length_pos_iff.2 (h c List.mem_cons_self);rw [List.flatten_cons,List.length_append,List.length_cons];omega
theorem Ab6{W:List Sg}{R0:List (Pt×List Pt)}(hN:EH W R0):∃U,T9 W U (Hu W R0)/\∀s∈W,s∈U:=by
 obtain⟨h,hp⟩:=pG hN (B7 W).length (AmX _);rw [List.take_length]at h hp;exact⟨_,h,fun s hs=>hp s ((Jh W).mem_iff.2 hs)⟩
end Go.Proofs.YtbejphgbbpplbaaGreatDoor
