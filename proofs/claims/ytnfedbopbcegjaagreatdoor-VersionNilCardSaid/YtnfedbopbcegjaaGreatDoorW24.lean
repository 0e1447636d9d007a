/- W24. -/
import Derived.Test.YtnfedbopbcegjaaGreatDoorW23
set_option maxRecDepth 100000
set_option maxHeartbeats 8000000
namespace Go.Proofs.YtnfedbopbcegjaaGreatDoor
open Go.RowKit Kl
theorem AgH(p a b:Pt){k:Nat}(hp:A0 k p)(ha:A0 k a)(hb:A0 k b)(hk:0<k)(hk2:k<=1)(w:World)(hw:Ak w)(bp:Nat)(Aw:w.heap[bp]?=some (.cells #[S (R p.x),S (R p.y)] 28)) :
  Calls Tryz.prog 208 #[Ag a,Ag b,.pointer (some ⟨bp,0,none⟩)] w (AB (CU p a b) w):=by
 have c1:=wT p a hp ha hk hk2;have c2:=wT p b hp hb hk hk2;have c3:=Kj p a b hp ha hb hk hk2;have hE:=((Aa.refl w).alloc (.cells #[S (R a.x),S (R a.y)] 28)).alloc (.cells #[S (R b.x),S (R b.y)] 28)
 have hA:(w.alloc (.cells #[S (R a.x),S (R a.y)] 28)).alloc (.cells #[S (R b.x),S (R b.y)] 28) |>.heap[w.heap.size]?=some (.cells #[S (R a.x),S (R a.y)] 28):=(Below.heap_alloc _ _ _ (by simp)).trans (AjM w _)
 have hB:=AjM (w.alloc (.cells #[S (R a.x),S (R a.y)] 28)) (.cells #[S (R b.x),S (R b.y)] 28);rw [AjU]at hB;have hP:=(hE.block bp (AjL Aw)).trans Aw
 have hr:CU p a b=if BC p a-BC p b≠0 then BC p a-BC p b else -AV (Ar p a b):=rfl
 have l1:=QU p a;have l2:=QU p b;have l3:=Ru (Ar p a b);obtain⟨x,hx0⟩:=AjJ (BC p a);obtain⟨y,Dk⟩:=AjJ (BC p b);obtain⟨z,hz0⟩:=AjJ (AV (Ar p a b));rw [←hx0]at c1 l1;rw [←Dk]at c2 l2;rw [←hz0]at c3 l3;rw [←hx0,←Dk,←hz0]at hr
 have w1:IntKind.i64.wrap (x-y)=x-y:=by rcases l1 with rfl|rfl<;>rcases l2 with rfl|rfl<;>rfl
 have w2:IntKind.i64.wrap (-z) = -z:=by
  obtain rfl|rfl|rfl:z = -1∨z=0∨z=1:=by omega
  all_goals rfl
 obtain⟨r,GU⟩:=AjJ (if x-y≠0 then x-y else -z:Int);rw [←GU]at hr;rw [hr]
 have Rc:∀(b o:Nat) (w:World),w.cell? ⟨b,o,none⟩=some (.int .i64 (x-y))→w.cell? ⟨b,o+1,none⟩=some (.int .i64 (-z))→Calls Tryz.prog 196 #[.slice (some ⟨b,o,none⟩) 2 2] w (AB r w):=by intro b o w h1 h2;rw [GU];exact ZS (x-y) (-z) b o w h1 h2
 unfold Ag at c1 c2 c3 ⊢;clear hr hx0 Dk hz0 GU hp ha hb l1 l2 l3 Aw;go_enter Tryz.func208,Tryz.ntmps208
 go_upto_region 1 with fail
 generalize (w.alloc (.cells #[S (R a.x),S (R a.y)] 28)).alloc (.cells #[S (R b.x),S (R b.y)] 28)=V at *;obtain⟨ba,AP⟩:=AjJ w.heap.size;rw [←AP]at hA hB ⊢;clear AP;have hV:=hw.ext hE
 have SO:∀w',Aa V w'→(w'.cell? ⟨bp,0,none⟩=some (S (R p.x))/\w'.cell? ⟨bp,1,none⟩=some (S (R p.y))/\w'.cell? ⟨ba,0,none⟩=some (S (R a.x))/\w'.cell? ⟨ba,1,none⟩=some (S (R a.y))/\w'.cell? ⟨ba+1,0,none⟩=some (S (R b.x))/\w'.cell? ⟨ba+1,1,none⟩=some (S (R b.y))):=fun w' h=>⟨h.cellS (Ab hP rfl),h.cellS (Ab hP rfl),h.cellS (Ab hA rfl),h.cellS (Ab hA rfl),h.cellS (Ab hB rfl),h.cellS (Ab hB rfl)⟩
 have X0:Aa V V.drew:=(Aa.refl V).drew;clear hA hB hP
 go_region_held3 (fun w'=>w'.cell? ⟨bp,0,none⟩=some (S (R p.x))/\w'.cell? ⟨bp,1,none⟩=some (S (R p.y))/\w'.cell? ⟨ba,0,none⟩=some (S (R a.x))/\w'.cell? ⟨ba,1,none⟩=some (S (R a.y))/\w'.cell? ⟨ba+1,0,none⟩=some (S (R b.x))/\w'.cell? ⟨ba+1,1,none⟩=some (S (R b.y)))
  (first|with_reducible exact SO _ X0|with_reducible exact SO _ X5|with_reducible exact SO _ X6|with_reducible exact SO _ X7|with_reducible exact SO _ (X7.alloc _)|with_reducible exact SO _ X8)
  (first|((with_reducible refine(c1 _ (hV.ext X0)).mono ?_);rintro e w5 ⟨rfl,An⟩;have X5:Aa V w5:=X0.trans An)|((with_reducible refine(c2 _ (hV.ext X5)).mono ?_);rintro e w6 ⟨rfl,AD⟩;have X6:Aa V w6:=X5.trans AD)|((with_reducible refine(c3 _ (hV.ext X6)).mono ?_);rintro e w7 ⟨rfl,AQ⟩;have X7:Aa V w7:=X6.trans AQ;have CL:=AjM w7 (.cells #[.int .i64 (x-y),.int .i64 (-z)] 3);have g0:=Ab (o:=0) CL rfl;have g1:=Ab (o:=1) CL rfl;clear CL)|((with_reducible refine(Rc w7.heap.size 0 _ g0 g1).mono ?_);rintro e w8 ⟨rfl,ED⟩;have X8:Aa V w8:=(X7.alloc _).trans ED))
 go_wp2;go_ret;exact⟨rfl,hE.trans X8⟩
section
open Go.Sort Go.Shelf
structure Px(p:Pt)(l:List Pt):Prop where
 sz:∀q∈l,A0 1 q
 ne:∀q∈l,q≠p
 ap:∀a∈l,∀b∈l,CU p a b=0→a=b
abbrev I6(l:List Pt):={q:Pt // q∈l}
def Ec(p:Pt)(l:List Pt):List Pt:=l.mergeSort (fun a b=>!decide (CU p b a<0))
theorem Vb(p:Pt)(l:List Pt):(Ec p l).Perm l:=List.mergeSort_perm _ _
def Mm(p:Pt)(l:List Pt)(a b:I6 l):Int:=CU p a.1 b.1
theorem PD{p:Pt}{l:List Pt}(x y:I6 l):ltOf (Mm p l) x y=decide (CU p x.1 y.1<0):=rfl
theorem yc(p a:Pt):CU p a a=0:=(iW p a a).2 ⟨rfl,qu p a⟩
theorem Ag8(q:Rat):AV (-q) = -AV q:=by unfold AV;grind
theorem x9(p a b:Pt):CU p b a = -CU p a b:=by
 unfold CU;rw [VR,Ag8]
 split<;>split<;>omega
theorem iY{p:Pt}{l:List Pt}(h:Px p l):SWO (ltOf (Mm p l)) where
 irrefl x:=by rw [PD,decide_eq_false_iff_not,yc];omega
 trans x y z h1 h2:=by rw [PD,decide_eq_true_iff]at *;exact yi (h.ne _ x.2) (h.ne _ y.2) (h.ne _ z.2) h1 h2
 ntrans x y z h1 h2:=by rw [PD,decide_eq_false_iff_not]at *;exact yg (h.ne _ x.2) (h.ne _ y.2) (h.ne _ z.2) h1 h2
theorem yh{p:Pt}{l:List Pt}(h:Px p l)(x y:I6 l)(h1:ltOf (Mm p l) x y=false)(h2:ltOf (Mm p l) y x=false):x=y:=by
 rw [PD,decide_eq_false_iff_not]at h1 h2;have:=x9 p x.1 y.1;exact Subtype.ext (h.ap _ x.2 _ y.2 (by omega))
def La{l:List Pt}(q:I6 l):List Value:=[S (R q.1.x),S (R q.1.y)]
theorem Wz{l:List Pt}(q:I6 l):(La q).length=2:=rfl
theorem zv{l:List Pt}(q:I6 l):∀v∈La q,v.oneCell'=true:=by
 intro v hv;simp only [La,List.mem_cons,AjY,or_false]at hv
 rcases hv with rfl|rfl<;>rfl
theorem jE{l:List Pt}(m:List (I6 l)):m.flatMap La=flat (Aq (m.map (·.1))):=by
 induction m with
 | nil=>rfl
 | cons x m ih=>
  rw [List.flatMap_cons,ih]
  rfl
theorem yf{p:Pt}{l:List Pt}(h:Px p l)(hp:A0 1 p)[Inhabited (I6 l)]{w0 w:World}(hw:Ak w0)(hx:Aa w0 w){blk bp:Nat}(hb:w0.heap.size<=blk)(Aw:w.heap[bp]?=some (.cells #[S (R p.x),S (R p.y)] 28))(hne:bp≠blk)(off size:Nat) :
  CmpLays Tryz.prog 208 #[.pointer (some ⟨bp,0,none⟩)] La 2 (Mm p l) blk off size w:=by
 refine Zv fun W hg x y=>?_;have hbW:=(hg.block bp (AjL Aw) (by intro e;cases e;exact hne rfl)).trans Aw;exact AgH p x.1 y.1 hp (h.sz _ x.2) (h.sz _ y.2) (by omega) (by omega) W (hw.ext (N7 hx hg hb)) bp hbW
theorem AgI{p:Pt}{l:List Pt}(h:Px p l)(hp:A0 1 p)(hl:l≠[])(hlen:l.length<100000){w0 w:World}(hw:Ak w0)(hx:Aa w0 w){v:Value}(hv:w.ownsRow w0.heap.size 28 2 v l.length (flat (Aq l)))
  {bp:Nat} (Aw:w.heap[bp]?=some (.cells #[S (R p.x),S (R p.y)] 28)) (hne:v.ownBlock≠some bp) :
  Calls Tryz.prog 194 #[v,.func (.func 208) #[] #[.pointer (some ⟨bp,0,none⟩)]] w fun e w'=>
   e=.returned (.tuple #[])/\w.grownBy w' v.ownBlock/\w'.ownsRow w0.heap.size 28 2 v l.length (flat (Aq (Ec p l))):=by
 obtain⟨q0,Ct⟩:=List.exists_mem_of_ne_nil l hl
 haveI:Inhabited (I6 l):=⟨⟨q0,Ct⟩⟩
 obtain⟨d,hd⟩:=AjJ (l.attach.toArray:Array (I6 l));have FH:d.size=l.length:=(by rw [hd];simp);have nZ:d.toList.map (·.1)=l:=by rw [hd];simp
 have hv':w.ownsRow w0.heap.size 28 2 v d.size (d.toList.flatMap La):=by rw [jE,nZ,FH];exact hv
 have FP:0<d.size:=(by rw [FH];exact List.length_pos_iff.2 hl);obtain⟨g,cap,rfl,hgb,Qq,hH,hown⟩:=YE Wz (by omega) hv' FP;have eg:∀args w,(callFunc 208 args).run Tryz.prog w=.ok (.enter 208 args) w:=enters_of Tryz.func208 (by kernel_rfl) rfl;have hbg:bp≠g:=(by intro e;rw [e]at hne;exact hne rfl);refine(AnyQ.slices_SortFunc Tryz.laysSortPt 2 Tryz.isAgg28 Tryz.sizeOf28 La Wz zv (Mm p l) (iY h) 208 #[.pointer (some ⟨bp,0,none⟩)] g 0 cap d w eg (yf h hp hw hx hgb Aw hbg 0 d.size) hH Qq (by omega)).mono ?_;rintro e w' ⟨he,d',n,os,h1,h2,rfl⟩;have hu:=sorted_unique_holds (lt:=ltOf (Mm p l)) (iY h) (yh h) d d' h1 h2;have hsz:d'.size=d.size:=(by have:=congrArg List.length hu;simpa using this);refine⟨he,NA La 2 w g 0 n d' os,?_⟩;have ho:=Rf (Wz (l:=l)) (by omega) hv' hsz n os;rw [jE]at ho
 have hm:d'.toList.map (·.1)=Ec p l:=by rw [hu];unfold Ec;rw [List.map_mergeSort (s:=fun a b=>!decide (CU p b a<0)) (fun a _ b _=>by rw [PD]),nZ]
 rw [hm,FH]at ho;rw [FH];exact ho
end
section
open Go.ChangeMaps (setBlock)
def Gv(R0:List (Pt×List Pt))(seen:List Nat):List (Pt×List Pt):=R0.mapIdx fun i e=>if i∈seen then (e.1,Ec e.1 e.2)else e
theorem Nb(R0:List (Pt×List Pt))(seen:List Nat):(Gv R0 seen).length=R0.length:=by simp [Gv]
theorem OE(R0:List (Pt×List Pt))(seen:List Nat){i:Nat}(h:i<R0.length)(h':i<(Gv R0 seen).length):(Gv R0 seen)[i]=if i∈seen then (R0[i].1,Ec R0[i].1 R0[i].2)else R0[i]:=by
 simp [Gv]
theorem Agp(R0:List (Pt×List Pt)):Gv R0 []=R0:=by
 apply List.ext_getElem
 ·exact Nb _ _
 ·intro i h1 h2;rw [OE R0 [] h2 h1,if_neg (by simp)]
theorem Ago(R0:List (Pt×List Pt)){seen:List Nat}(h:∀i,i<R0.length→i∈seen):Gv R0 seen=R0.map (fun e=>(e.1,Ec e.1 e.2)):=by
 apply List.ext_getElem
 ·rw [Nb];simp
 ·intro i h1 h2;have h3:i<R0.length:=(by simpa using h2);rw [OE R0 seen h3 h1,if_pos (h i h3)];simp
theorem Agq(R0:List (Pt×List Pt))(seen:List Nat){i:Nat}(hi:i<R0.length)(hn:i∉seen)(h':i<(Gv R0 seen).length):Gv R0 (seen ++ [i])=(Gv R0 seen).set i ((Gv R0 seen)[i].1,Ec R0[i].1 R0[i].2):=by
 apply List.ext_getElem
 ·rw [List.length_set,Nb,Nb]
 ·intro j h1 h2;have hj:j<R0.length:=(by rw [Nb]at h1;exact h1);rw [OE R0 _ hj h1];by_cases AL:i=j
  ·subst AL;rw [List.getElem_set_self,OE R0 seen hj h',if_pos (by simp),if_neg hn]
  ·rw [List.getElem_set_ne AL,OE R0 seen hj (by rw [Nb];exact hj)];have:j∈seen ++ [i]↔j∈seen:=(by simp;intro e;exact absurd e.symm AL);simp only [this]
theorem Bn.other{B:Nat}{W W':World}{r b1 b2:Nat}{L:List (Sg×Int)}{E:List (Pt×Value×Nat)}{R0:List (Pt×List Pt)}(h:Bn B W r b1 b2 L E R0){k:Nat}{o:Obj}(hg:W.grownBy W' (some k))(ho:W.heap[k]?=some o)
  (hc:∀cs e,o≠.cells cs e (0,0)) (hm:∀es c,o≠.map es c):Bn B W' r b1 b2 L E R0:=by
 have far:∀(j:Nat) (o':Obj),W.heap[j]?=some o'→o'≠o→W'.heap[j]?=some o':=by intro j o' hj hne;refine(hg.block j (AjL hj) ?_).trans hj;intro e;simp only [AjR]at e;subst e;rw [hj]at ho;simp only [AjR]at ho;exact hne ho
 refine⟨far _ _ h.cell (fun e=>hc _ _ e.symm),far _ _ h.left (fun e=>hm _ _ e.symm),⟨far _ _ h.ar.blk (fun e=>hm _ _ e.symm),h.ar.len,fun i hi hi'=>⟨(h.ar.row i hi hi').1,(h.ar.row i hi hi').2.1,(h.ar.row i hi hi').2.2.kept hg ?_⟩,h.ar.apart,h.ar.own⟩,h.r0,h.r1,h.ne⟩
 rcases(h.ar.row i hi hi').2.2.2 with⟨hv,_⟩|⟨g,cap,cur,hv,_,hgb,_⟩
 ·left;rw [hv];rfl
 ·right
  rw [hv];simp only [Value.ownBlock,ne_eq,AjR];intro e;subst e;rw [hgb]at ho;simp only [AjR]at ho;exact hc _ _ ho.symm
theorem Bn.sorted{B:Nat}{W W':World}{r b1 b2:Nat}{L:List (Sg×Int)}{E:List (Pt×Value×Nat)}{R0:List (Pt×List Pt)}(h:Bn B W r b1 b2 L E R0){i:Nat}(hi:i<E.length)(hi':i<R0.length){l':List Pt}(hl:l'.length=R0[i].2.length)
  (hg:W.grownBy W' E[i].2.1.ownBlock) (ho:W'.ownsRow B 28 2 E[i].2.1 R0[i].2.length (flat (Aq l'))):Bn B W' r b1 b2 L E (R0.set i (R0[i].1,l')):=by
 have far:∀(j:Nat) (o':Obj),W.heap[j]?=some o'→(∀cs,o'≠.cells cs 28 (0,0))→W'.heap[j]?=some o':=by
  intro j o' hj hne;refine(hg.block j (AjL hj) ?_).trans hj;intro e
  rcases(h.ar.row i hi hi').2.2.2 with⟨hv,_⟩|⟨g,cap,cur,hv,_,hgb,_⟩
  ·rw [hv]at e;simp [Value.ownBlock]at e
  ·rw [hv]at e;simp only [Value.ownBlock,AjR]at e;subst e;rw [hgb]at hj;simp only [AjR]at hj;exact hne _ hj.symm
 refine⟨far _ _ h.cell (fun cs e=>by cases e),far _ _ h.left (fun cs e=>by cases e),⟨far _ _ h.ar.blk (fun cs e=>by cases e),by rw [List.length_set];exact h.ar.len,fun j hj hj'=>?_,h.ar.apart,h.ar.own⟩,h.r0,h.r1,h.ne⟩;have Gp:j<R0.length:=(by rw [List.length_set]at hj';exact hj');by_cases AL:i=j
 ·subst AL;rw [List.getElem_set_self];refine⟨(h.ar.row i hi hi').1,(h.ar.row i hi hi').2.1,?_⟩;simp only [hl];exact ho
 ·rw [List.getElem_set_ne AL];exact⟨(h.ar.row j hj Gp).1,(h.ar.row j hj Gp).2.1,(h.ar.row j hj Gp).2.2.kept hg (h.ar.apart j i hj hi (fun e=>AL e.symm))⟩
structure eK(R0:List (Pt×List Pt)):Prop where
 row:∀e∈R0,Px e.1 e.2
 sz:∀e∈R0,A0 1 e.1
 ne:∀e∈R0,e.2≠[]
 len:∀e∈R0,e.2.length<100000
theorem B1.iter{b2:Nat}{w a b:World}{it:Nat}(h:B1 b2 w a)(hg:a.grownBy b (some it))(hi:w.heap.size<=it):B1 b2 w b:=by
 refine⟨AjX h.1 hg.size,fun k o h1 h2 h3=>?_⟩;have h4:=h.2 k o h1 h2 h3;have:=AjL h1;exact(hg.block k (AjL h4) (by simp;omega)).trans h4
theorem B1.row{b2:Nat}{w a b:World}{v:Value}{B n:Nat}{xs:List Value}(h:B1 b2 w a)(hg:a.grownBy b v.ownBlock)(ho:a.ownsRow B 28 2 v n xs):B1 b2 w b:=by
 refine⟨AjX h.1 hg.size,fun k o h1 h2 h3=>?_⟩;have h4:=h.2 k o h1 h2 h3;refine(hg.block k (AjL h4) ?_).trans h4;intro e
 rcases ho.2 with⟨hv,_⟩|⟨g,cap,cur,hv,_,hgb,_⟩
 ·rw [hv]at e;simp [Value.ownBlock]at e
 ·rw [hv]at e;simp only [Value.ownBlock,AjR]at e;subst e;rw [hgb]at h4;simp only [AjR]at h4;exact h3 _ h4.symm
theorem Ag2{n:Nat}{seen:List Nat}(Ca:seen.Nodup)(hlt:∀i∈seen,i<n)(hlen:seen.length=n):∀i,i<n→i∈seen:=by
 intro i hi;refine Classical.byContradiction fun hn=>?_;have h1:(i::seen).Nodup:=List.nodup_cons.2 ⟨hn,Ca⟩
 have h2:(i::seen) ⊆ List.range n:=by
  intro j hj
  rcases List.mem_cons.1 hj with rfl|hj
  ·simpa using hi
  ·simpa using hlt j hj
 have:=h1.length_le_of_subset h2;simp at this;omega
theorem sort_c{w0 w:World}(hw:Ak w0)(hx:Aa w0 w){r b1 b2:Nat}{L:List (Sg×Int)}{E:List (Pt×Value×Nat)}{R0:List (Pt×List Pt)}(h:Bn w0.heap.size w r b1 b2 L E R0)(hR:eK R0) :
  Calls Tryz.prog 150 #[.pointer (some ⟨r,0,none⟩)] w fun e w'=>e=.returned (.tuple #[])/\Aa w0 w'/\B1 b2 w w'/\Bn w0.heap.size w' r b1 b2 L E (R0.map (fun e=>(e.1,Ec e.1 e.2))):=by
 have n1:=Ab (o:=1) h.cell rfl;obtain⟨hr1,hr2⟩:=CE.range (enc:=Ag) (E:=E) (t:=161) Tryz.underlying161 (W:=w) (b:=b2) h.ar.blk;have B8:=hx.alloc (.mapIter (some b2) E.length #[] E.length);have hS1:B1 b2 w (w.alloc (.mapIter (some b2) E.length #[] E.length)):=B1.of_ext ((Aa.refl w).alloc _);have JF:=h.ext ((Aa.refl w).alloc (.mapIter (some b2) E.length #[] E.length));have HR:=AjK hR;have IL:=h.ar.len;have hst:∀i (h':i<E.length),E[i].2.2=i:=fun i hi=>(h.ar.row i hi (by rw [←IL];exact hi)).2.1;have hit:w.heap.size<=w.heap.size:=AjN _;have hB:=hx.size;have hlt2:=h.ar.lt;have HST:=AjK hst;have Nn:=AjK IL;clear hst hR IL;go_enter Tryz.func150,Tryz.ntmps150
 go_upto_region 1 with fail
 generalize w.alloc (.mapIter (some b2) E.length #[] E.length)=V at *;obtain⟨it,Qt⟩:=AjJ w.heap.size;have AbZ:w.heap.size<=it:=(by omega);rw [←Qt]at hr2 ⊢;clear hr1 Qt hit h n1
 go_loopw [3] (fun _ wr=>∃(seen:List Nat),CE wr it b2 E seen/\Aa w0 wr/\B1 b2 w wr/\Bn w0.heap.size wr r b1 b2 L E (Gv R0 seen)) (fun _ wr=>E.length-(wr.iterSeen it).size)
 case atStart=>exact⟨[],hr2,B8,hS1,by rw [Agp];exact JF⟩
 case round=>
  obtain⟨seen,hI,BV,PW,NJ⟩:=hrel
  rcases CE.next Ag hI NJ.ar.blk HST.out (by omega) 0 with⟨hlen,hrun⟩|⟨i,hi,FM,W1,DL,hG1,hs1,hrun,hen⟩
  ·have hall:=Ago R0 (Ag2 hI.nd (by rw [←Nn.out];exact hI.lt) (by rw [←Nn.out];exact hlen));rw [hall]at NJ;have HN:=AjK NJ;clear NJ hI;go_wp2
   go_end0
   exact⟨rfl,BV,PW,HN.out⟩
  ·have JV:i<R0.length:=(by rw [←Nn.out];exact hi);have Ua:i<(Gv R0 seen).length:=(by rw [Nb];exact JV);have Dz:=Eo hI
   have hlen':seen.length<E.length:=by
    have h2:(i::seen) ⊆ List.range E.length:=by
     intro j hj
     rcases List.mem_cons.1 hj with rfl|hj
     ·simpa using hi
     ·simpa using hI.lt j hj
    have:=(List.nodup_cons.2 ⟨FM,hI.nd⟩).length_le_of_subset h2;simp at this;omega
   have Bu:Aa w0 W1:=N7 BV hG1 (by omega);have lM:=PW.iter hG1 AbZ;have Gj:=NJ.other hG1 hI.it (fun _ _ e=>by cases e) (fun _ _ e=>by cases e);have Ej:=hen W1 rfl rfl;have hrow:=Gj.ar.row i hi Ua;have DR:=OE R0 seen JV Ua;rw [if_neg FM]at DR;have hkey:E[i].1=R0[i].1:=(by rw [hrow.1,DR]);have hown:=hrow.2.2;rw [DR]at hown;have Ai:=HR.out.row R0[i] (AjO JV);have L8:=HR.out.sz R0[i] (AjO JV);have FK:=HR.out.ne R0[i] (AjO JV);have JW:=HR.out.len R0[i] (AjO JV);have DU:=Agq R0 seen JV FM Ua;obtain⟨v,hv⟩:=AjJ (E[i].2.1);obtain⟨p,hp⟩:=AjJ (R0[i].1);obtain⟨l,hl⟩:=AjJ (R0[i].2);rw [hkey,←hp,←hv]at Ej;rw [hkey,←hp,←hv]at hrun;rw [←hv,←hl]at hown;rw [←hp,←hl]at Ai DU;rw [←hp]at L8;rw [←hl]at FK JW;have DN:=AjM W1 (.cells #[S (R p.x),S (R p.y)] 28);have E3:=(Aa.refl W1).alloc (.cells #[S (R p.x),S (R p.y)] 28);have Bd:=Bu.trans E3;have Xh:=lM.trans (B1.of_ext E3);have IO:=Gj.ext E3;have Hx:=DL.keep (E3.block it (AjL DL.it))
   have Ia:(W1.alloc (.cells #[S (R p.x),S (R p.y)] 28)).ownsRow w0.heap.size 28 2 v l.length (flat (Aq l)):=hown.kept (DJ E3 none) (by
    rcases hv':v.ownBlock with _|g
    ·exact .inl rfl
    ·exact .inr (by simp))
   have Q8:v.ownBlock≠some W1.heap.size:=by
    rcases hown.2 with⟨e,_⟩|⟨g,cap,cur,e,_,hgb,_⟩
    ·rw [e];simp [Value.ownBlock]
    ·rw [e];have:=AjL hgb;simp only [Value.ownBlock,ne_eq,AjR];omega
   have cs:=AgI Ai L8 FK JW hw Bd Ia DN Q8;have HV:=AjK hv;have HL:=AjK (And.intro hl DR);have Ph:=AjK DU;clear hen hrow hkey hown Ai L8 FK JW DN Gj Bu lM NJ BV PW hI DL hv hp hl DR DU hG1 E3;unfold Ag at Ej hrun
   go_upto_region 3 with fail
   unfold S at Bd Xh IO Hx Ia cs;rw [hs1]at cs;generalize (W1.alloc (.cells #[.string ⟨(R p.x).toArray⟩,.string ⟨(R p.y).toArray⟩] 28))=W3 at *;(go_wp2_with fail);(with_reducible refine cs.mono ?_);rintro e W4 ⟨rfl,hg4,Lz⟩
   have Dg:=Hx.keep (hg4.block it (AjL Hx.it) (by
    intro e
    rcases Ia.2 with⟨e2,_⟩|⟨g,cap,cur,e2,_,hgb,_⟩
    ·rw [e2]at e;simp [Value.ownBlock]at e
    ·rw [e2]at e;simp only [Value.ownBlock,AjR]at e;subst e;have:=Hx.it;rw [hgb]at this
     cases this))
   have BB:Aa w0 W4:=Bd.grownOwn hg4 Ia (AjN _);have hS4:=Xh.row hg4 Ia;have NH:=IO.sorted hi Ua (l':=Ec p l) (by rw [HL.out.2,←HL.out.1];exact(Vb p l).length_eq) (by rw [←HV.out];exact hg4) (by rw [←HV.out,HL.out.2,←HL.out.1];exact Lz);rw [←Ph.out]at NH;have jl:=AjK NH;clear NH IO Ia Lz hg4 cs Hx Bd Xh;go_wp2;go_roundw
   case rel=>exact⟨seen ++ [i],Dg,BB,hS4,jl.out⟩
   case measure=>rw [Dz,Eo Dg,List.length_append,List.length_singleton];omega
end
section
open Go.ChangeMaps (setBlock)
section
variable {α : Type} {enc : α → Value} {same : α → α → Bool}
theorem aL{mt kt et:TypeId}{z:Value}(K:Jw mt kt et z enc same)(k:α)(l:List (α×Value×Nat))(hno:∀e∈l,same k e.1=false)(v:Value){b clock:Nat}{W:World}(hb:W.heap[b]?=some (.map (Az enc l).toArray clock)) :
  (Instr.mapUpdate mt (.map (some b)) (enc k) v).run Tryz.prog W=.ok () (setBlock W b (.map (Az enc (l ++ [(k,v,clock)])).toArray (clock+1))):=by
 have hf:=SL K k l W
 have hi:FT same k l=none:=by unfold FT;rw [List.findIdx?_eq_none_iff];exact hno
 rw [hi]at hf;simp only [Option.bind_none]at hf
 have e0:Az enc l ++ [{key:=enc k,val:=v,born:=clock}]=Az enc (l ++ [(k,v,clock)]):=by simp [Az]
 simp [Instr.mapUpdate,run_underlying K.map,MapKept.run_getObj_map hb,K.chk,hf,MapKept.run_setObj_map _ hb,Result.andThen,setBlock,e0]
end
theorem tX:Jw 294 176 4 (.bool false) Ax AK where
 map:=Tryz.underlying294
 st:=⟨_,Tryz.underlying176⟩
 zero:=fun W=>by simp [go_sem]
 eq:=jI
 chk:=gK
 iff:=Hg
 bits:=fun x=>by unfold Ax;simp [Instr.sameBits,beq_toListBytes]
def Iw(L:List (Sg×Value)):List (Sg×Value×Nat):=L.mapIdx fun i e=>(e.1,e.2,i)
theorem Aha(L:List (Sg×Value))(e:Sg×Value):Iw (L ++ [e])=Iw L ++ [(e.1,e.2,L.length)]:=by simp [Iw,List.mapIdx_append]
theorem AgZ{L:List (Sg×Value)}{x:Sg×Value×Nat}(h:x∈Iw L):∃e∈L,x.1=e.1/\x.2.1=e.2:=by
 unfold Iw at h;rw [List.mem_mapIdx]at h;obtain⟨i,hi,rfl⟩:=h;exact⟨L[i],AjO hi,rfl,rfl⟩
def U9(z:Value)(k:Sg)(L:List (Sg×Value)):Value:=match L.find? (fun e=>AK k e.1)with|some e=>e.2|none=>z
theorem AdY(z:Value)(k:Sg)(L:List (Sg×Value)):Fp AK z k (Iw L)=U9 z k L:=by
 have h:∀(L:List (Sg×Value)) (n:Nat),(L.mapIdx fun i e=>(e.1,e.2,i+n)).find? (fun e=>AK k e.1)=(L.findIdx? (fun e=>AK k e.1)).bind fun j=>(L[j]?).map fun e=>(e.1,e.2,j+n):=by
  intro L
  induction L with
  | nil=>intro n;simp
  | cons e L ih=>
   intro n;rw [List.mapIdx_cons,List.find?_cons,List.findIdx?_cons];simp only
   cases hb:AK k e.1
   ·simp only;have:=ih (n+1)
    have e1:(L.mapIdx fun i e=>(e.1,e.2,i+1+n))=L.mapIdx fun i e=>(e.1,e.2,i+(n+1)):=by congr 1;funext i e;rw [show i+1+n=i+(n+1)by omega]
    rw [e1,this]
    cases L.findIdx? (fun e=>AK k e.1)with
    | none=>simp
    | some j=>
     simp only [Bool.false_eq_true,if_false,Option.map_some,Option.bind_some,List.getElem?_cons_succ]
     congr 1;funext e;rw [show j+(n+1)=j+1+n by omega]
   ·simp
 have h2:∀(L:List (Sg×Value)),L.find? (fun e=>AK k e.1)=(L.findIdx? (fun e=>AK k e.1)).bind fun j=>L[j]?:=by
  intro L
  induction L with
  | nil=>simp
  | cons e L ih=>
   rw [List.find?_cons,List.findIdx?_cons]
   cases hb:AK k e.1
   ·simp only [ih]
    cases L.findIdx? (fun e=>AK k e.1)<;>simp
   ·simp
 unfold Fp U9 Iw;have h0:=h L 0;simp only [Nat.add_zero]at h0;rw [h0,h2]
 cases L.findIdx? (fun e=>AK k e.1)with
 | none=>rfl
 | some j=>
  simp only [Option.bind_some]
  cases L[j]?<;>rfl
def Hj(U:List Sg):List (Sg×Value):=U.map fun s=>(s,.bool true)
def Dt(W:World)(b:Nat)(U:List Sg):Prop:=W.heap[b]?=some (.map (Az Ax (Iw (Hj U))).toArray U.length)
theorem Aea(k:Sg)(U:List Sg):U9 (.bool false) k (Hj U)=.bool (U.any (AK k)):=by
 induction U with
 | nil=>rfl
 | cons u U ih=>
  unfold U9 Hj at *;rw [List.map_cons,List.find?_cons,List.any_cons]
  cases hb:AK k u
  ·simp only [Bool.false_or];exact ih
  ·simp
theorem Dt.look{W:World}{b:Nat}{U:List Sg}(h:Dt W b U)(s:Sg):(Instr.lookup 294 (.map (some b)) (Ax s) false).run Tryz.prog W=.ok (.bool (U.any (AK s))) W:=by
 rw [OG tX s (Iw (Hj U)) h,AdY,Aea]
theorem Dt.put{W:World}{b:Nat}{U:List Sg}(h:Dt W b U)(s:Sg)(hno:U.any (AK s)=false) :
  ∃W',(Instr.mapUpdate 294 (.map (some b)) (Ax s) (.bool true)).run Tryz.prog W=.ok () W'/\Dt W' b (U ++ [s])/\W.grownBy W' (some b)/\W'.heap.size=W.heap.size:=by
 refine⟨_,aL tX s (Iw (Hj U)) ?_ (.bool true) h,?_,J9 h,by simp [setBlock]⟩
 ·intro e he;obtain⟨x,hx,h1,_⟩:=AgZ he;unfold Hj at hx;rw [List.mem_map]at hx;obtain⟨u,hu,rfl⟩:=hx;rw [h1];rw [List.any_eq_false]at hno
  simpa using hno u hu
 ·unfold Dt;rw [Kr h];have e1:Hj (U ++ [s])=Hj U ++ [(s,.bool true)]:=(by simp [Hj]);have e2:(Hj U).length=U.length:=(by simp [Hj]);rw [e1,Aha,e2];simp
structure Al(K:Nat→Prop)(w w':World):Prop where
 os:w'.os=w.os
 tape:w'.tape=w.tape
 output:w'.output=w.output
 size:w.heap.size<=w'.heap.size
 block:∀k,k<w.heap.size→¬K k→w'.heap[k]?=w.heap[k]?
theorem Al.refl(K:Nat→Prop)(w:World):Al K w w:=⟨rfl,rfl,rfl,AjN _,fun _ _ _=>rfl⟩
theorem Al.ext{K:Nat→Prop}{w a b:World}(h:Al K w a)(hx:Aa a b):Al K w b:=
 ⟨hx.os.trans h.os,hx.tape.trans h.tape,hx.output.trans h.output,AjX h.size hx.size,fun k hk hn=>(hx.block k (AjW hk h.size)).trans (h.block k hk hn)⟩
theorem Al.grown{K:Nat→Prop}{w a b:World}{row:Option Nat}(h:Al K w a)(hg:a.grownBy b row)(hr:∀k,row=some k→K k∨w.heap.size<=k):Al K w b:=by
 refine⟨hg.os.trans h.os,hg.tape.trans h.tape,hg.output.trans h.output,AjX h.size hg.size,fun k hk hn=>(hg.block k (AjW hk h.size) ?_).trans (h.block k hk hn)⟩;intro e
 rcases hr k e.symm with h1|h1
 ·exact hn h1
 ·omega
theorem Al.own{K:Nat→Prop}{w a b:World}{B:Nat}{e:TypeId}{s n:Nat}{v:Value}{xs:List Value}(h:Al K w a)(hg:a.grownBy b v.ownBlock)(ho:a.ownsRow B e s v n xs)(hB:w.heap.size<=B):Al K w b:=
 h.grown hg fun k hk=>.inr (AjX hB (ho.lt k hk).1)
theorem Al.cells{K:Nat→Prop}{w a:World}{k:Nat}{o:Obj}(h:Al K w a)(hk:w.heap[k]?=some o)(hn:¬K k):a.heap[k]?=some o:=(h.block k (AjL hk) hn).trans hk
theorem Al.setCell{K:Nat→Prop}{w a:World}(h:Al K w a){p:Addr}(hp:K p.block∨w.heap.size<=p.block)(v:Value):Al K w (a.setCell p v):=by
 refine⟨h.os,h.tape,h.output,by rw [World.size_setCell];exact h.size,fun k hk hn=>?_⟩
 have hne:k≠p.block:=by
  intro e
  rcases hp with hp|hp
  ·exact hn (e▸hp)
  ·omega
 rw [Below.heap_setCell _ _ _ _ hne];exact h.block k hk hn
theorem Al.toExt{K:Nat→Prop}{w0 w a:World}(h:Al K w a)(hx:Aa w0 w)(hK:∀k,K k→w0.heap.size<=k):Aa w0 a:=
 ⟨h.os.trans hx.os,h.tape.trans hx.tape,h.output.trans hx.output,AjX hx.size h.size,fun k hk=>(h.block k (AjW hk hx.size) (fun hh=>by have:=hK k hh;omega)).trans (hx.block k hk)⟩
theorem Al.trans{K:Nat→Prop}{a b c:World}(h:Al K a b)(k:Al K b c):Al K a c:=
 ⟨k.os.trans h.os,k.tape.trans h.tape,k.output.trans h.output,AjX h.size k.size,fun i hi hn=>(k.block i (AjW hi h.size) hn).trans (h.block i hi hn)⟩
theorem Tryz.infoStep:(Tryz.prog.info? 176).map (fun i=>(i.zero,i.size,i.bytes))=some (some (.agg #[S [],S [],S [],S []]),4,64):=by kernel_rfl
section
variable {ops : Array Oper} {rest : List Oper} {o : Oper} {a : Act} {Q : Exit → Act → World → Prop}
theorem ql(hgd:o.guard=none)(s x:Operand)(ho:o.op=.call {callee:=.builtin .append,args:=#[s,x],argTypes:=#[208,208]})
  (wN:World) (base:Nat) (v:Value) (n:Nat) (l:List Sg) (hs:a.eval s=v) (hown:wN.ownsRow base 176 4 v n (BQ l)) (hn:n<200000) (d:Sg)
  (g:Nat) (hb:wN.heap[g]?=some (.cells #[S (R d.a.x),S (R d.a.y),S (R d.b.x),S (R d.b.y)] 176)) (hx:a.eval x=.slice (some ⟨g,0,none⟩) 1 1) (hbase:base<=wN.heap.size)
  (h:∀v' w',w'.ownsRow base 176 4 v' (n+1) (BQ (l ++ [d]))→wN.grownBy w' v.ownBlock→wpList Tryz.prog ops Q rest (a.put o.dst v') w') :
  wpList Tryz.prog ops Q (o::rest) a wN:=by
 obtain⟨i0,hi,hz0,hz1,hz2⟩:=info_parts Tryz.infoStep;refine wpList_plain hgd fun K hK=>Vh s x 208 ho 176 i0 _ 4 64 Tryz.underlying208 hi hz0 hz1 hz2 rfl (by omega) (by omega) wN base v n _ hs hown hn g _ hb rfl ?_ hx hbase ?_
 ·intro u hu;simp only [List.mem_cons,AjY,or_false]at hu
  rcases hu with rfl|rfl|rfl|rfl<;>rfl
 ·intro v' w' h1 _ h3;exact hK _ _ (h v' w' (by rw [yN];exact h1) h3)
theorem Tryz.infoSteps:(Tryz.prog.info? 208).map (fun i=>(i.zero,i.size,i.bytes))=some (some (.slice none 0 0),1,24):=by kernel_rfl
theorem appRow(hgd:o.guard=none)(s x:Operand)(ho:o.op=.call {callee:=.builtin .append,args:=#[s,x],argTypes:=#[234,234]})
  (wN:World) (base:Nat) (v:Value) (n:Nat) (vs:List Value) (hs:a.eval s=v) (hown:wN.ownsRow base 208 1 v n vs) (hn:n<200000) (d:Value) (hd:d.oneCell'=true)
  (g:Nat) (hb:wN.heap[g]?=some (.cells #[d] 208)) (hx:a.eval x=.slice (some ⟨g,0,none⟩) 1 1) (hbase:base<=wN.heap.size)
  (h:∀v' w',w'.ownsRow base 208 1 v' (n+1) (vs ++ [d])→wN.grownBy w' v.ownBlock→wpList Tryz.prog ops Q rest (a.put o.dst v') w') :
  wpList Tryz.prog ops Q (o::rest) a wN:=by
 obtain⟨i0,hi,hz0,hz1,hz2⟩:=info_parts Tryz.infoSteps;refine wpList_plain hgd fun K hK=>Vh s x 234 ho 208 i0 _ 1 24 Tryz.underlying234 hi hz0 hz1 hz2 rfl (by omega) (by omega) wN base v n _ hs hown hn g _ hb rfl ?_ hx hbase ?_
 ·intro u hu;simp only [List.mem_cons,AjY,or_false]at hu;rw [hu];exact hd
 ·intro v' w' h1 _ h3;exact hK _ _ (h v' w' h1 h3)
end
end
section
open Go.Sort
def VM:Code:=Code.region 2 #[{dst:=some 5,op:=Op.alloc 176,type:=0,pos:= "iter.go:51",after:=#[],guard:=none},{dst:=none,op:=Op.store 176 (Operand.tmp 5) (Operand.tmp 7),type:=0,pos:= "iter.go:51",after:=#[{on:=0,ground:=Ground.data},{on:=0,ground:=Ground.phase}],guard:=none}] false
def VO:Code:=Code.block 1 (Code.region 3 #[{dst:=some 8,op:=Op.load 208 (Operand.tmp 2),type:=208,pos:= "iter.go:52",after:=#[],guard:=none},{dst:=some 9,op:=Op.load 176 (Operand.tmp 5),type:=176,pos:= "iter.go:52",after:=#[],guard:=none},{dst:=some 10,op:=Op.buildSlice 208 1 #[(0,Operand.tmp 9)],type:=208,pos:= "iter.go:52",after:=#[{on:=1,ground:=Ground.data}],guard:=none},{dst:=some 11,op:=Op.call {callee:=Callee.builtin Builtin.append,args:=#[Operand.tmp 8,Operand.tmp 10],argTypes:=#[208,208]},type:=208,pos:= "iter.go:52",after:=#[{on:=0,ground:=Ground.data},{on:=2,ground:=Ground.data}],guard:=none},{dst:=none,op:=Op.store 208 (Operand.tmp 2) (Operand.tmp 11),type:=0,pos:= "iter.go:52",after:=#[{on:=3,ground:=Ground.data},{on:=3,ground:=Ground.chain},{on:=0,ground:=Ground.phase},{on:=1,ground:=Ground.phase},{on:=2,ground:=Ground.phase},{on:=3,ground:=Ground.phase}],guard:=none}] false)
def apRec(fn:FuncId)(sv:Value)(Bs D:Nat)(st:LoopState)(pend:Option Code):Loop:=
 {state:=st,pending:=pend,fn,tmps:=#[.slice none 0 0,sv,.pointer (some ⟨Bs,0,none⟩),undef,.slice none 0 0,undef,sv,undef,undef,undef,undef,undef,undef],params:=#[7],assign:=VM,body:=VO,defers:=D}
structure ApAt(w0:World)(fn:FuncId)(sv:Value)(Bs l D:Nat)(ss:List Sg)(W:World):Prop where
 box:∃v,W.heap[Bs]?=some (.cells #[v] 208 (0,0))/\W.ownsRow w0.heap.size 176 4 v ss.length (BQ ss)
 L:W.heap[l]?=some (.loop (apRec fn sv Bs D .ready none))
 K:W.heap[D]?=some (.deferred (some []))
 below:Below w0.heap.size w0 W
theorem ownsRow_abides{W W':World}{row:Option Nat}{base:Nat}{e:TypeId}{size:Nat}{v:Value}{k:Nat}{xs:List Value}(h:W.ownsRow base e size v k xs)(hg:W.grownBy W' row)
  (hrow:∀r,row=some r→∃o:Obj,W.heap[r]?=some o/\o.isWalk=true):W'.ownsRow base e size v k xs:=by
 refine h.kept hg ?_
 rcases h.2 with⟨rfl,_⟩|⟨g,cap,cur,rfl,_,hgb,_⟩
 ·exact .inl rfl
 ·refine .inr fun e'=>?_;obtain⟨o,ho,hw⟩:=hrow g (by simpa [Value.ownBlock]using e'.symm);rw [hgb]at ho;cases ho;cases hw
theorem ap_abides(w0:World)(fn:FuncId)(sv:Value)(Bs l D B:Nat)(hB:w0.heap.size<=B):AbidesFrom B (ApAt w0 fn sv Bs l D):=fun s W W' row h hg hrow=>by
 have hrow':∀r,row=some r→∃o:Obj,W.heap[r]?=some o/\o.isWalk=true:=fun r e=>(hrow r e).2;obtain⟨v,hv,hr⟩:=h.box
 exact⟨⟨v,(grownBy_keeps hg hrow' hv rfl).trans hv,ownsRow_abides hr hg hrow'⟩,(grownBy_keeps hg hrow' h.L rfl).trans h.L,(grownBy_keeps hg hrow' h.K rfl).trans h.K,
  h.below.grown hg h.below.size (fun k e=>AjX hB (hrow k e).1)⟩
theorem grownBy_putObj(W:World)(l:Nat)(o:Obj):W.grownBy (W.putObj l o) (some l):=
 ⟨rfl,rfl,rfl,by simp,fun k _ hk=>World.putObj_heap_other (fun e=>hk (by rw [e]))⟩
theorem grownBy_setCell0(W:World)(b:Nat)(v:Value):W.grownBy (W.setCell ⟨b,0,none⟩ v) (some b):=
 ⟨rfl,rfl,rfl,(KeepsWalks.setCell W _ v).size,fun k _ hk=>Below.heap_setCell _ _ _ k (fun e=>hk (by rw [e]))⟩
theorem ownsRow_ne{W:World}{base:Nat}{e:TypeId}{size:Nat}{v:Value}{k:Nat}{xs:List Value}(h:W.ownsRow base e size v k xs){j:Nat}{o:Obj}(hj:W.heap[j]?=some o)(hno:∀cur,o≠.cells cur e (0,0)) :
  v.ownBlock=none∨v.ownBlock≠some j:=by
 rcases h.2 with⟨rfl,_⟩|⟨g,cap,cur,rfl,_,hgb,_⟩
 ·exact .inl rfl
 ·refine .inr fun e'=>?_;have:g=j:=(by simpa [Value.ownBlock]using e');subst this;rw [hgb]at hj;cases hj;exact hno cur rfl
theorem cell_of_box{W:World}{B:Nat}{v:Value}{t:TypeId}(h:W.heap[B]?=some (.cells #[v] t (0,0))):W.cell? ⟨B,0,none⟩=some v/\W.frozen? ⟨B,0,none⟩=false:=by
 constructor<;>simp [World.cell?,World.frozen?,h]
theorem heap_setCell_box{W:World}{B:Nat}{v:Value}{t:TypeId}(v':Value)(h:W.heap[B]?=some (.cells #[v] t (0,0))):(W.setCell ⟨B,0,none⟩ v').heap[B]?=some (.cells #[v'] t (0,0)):=by
 obtain⟨hlt,hk⟩:=Array.getElem?_eq_some_iff.1 h;show (W.heap.modify B _)[B]?=_;rw [Array.getElem?_eq_getElem (by rw [Array.size_modify];exact hlt),Array.getElem_modify_self,hk]
 rfl
theorem ownsRow_not_walk{W:World}{base:Nat}{e:TypeId}{size:Nat}{v:Value}{k:Nat}{xs:List Value}(h:W.ownsRow base e size v k xs):∀(j:Nat) (o:Obj),v.ownBlock=some j→W.heap[j]?=some o→o.isWalk=false:=by
 intro j o hj ho
 rcases h.2 with⟨rfl,_⟩|⟨g,cap,cur,rfl,_,hgb,_⟩
 ·simp [Value.ownBlock]at hj
 ·have:g=j:=(by simpa [Value.ownBlock]using hj);subst this;rw [hgb]at ho;cases ho;rfl
theorem uv(W:World)(a b c d:Value)(t:TypeId):∀(j:Nat) (u:Value),[a,b,c,d][j]?=some u→(W.alloc (.cells #[a,b,c,d] t)).cell? ((⟨W.heap.size,0,none⟩:Addr).add j)=some u:=by
 intro j u hu;rw [Addr.add_lit,Nat.zero_add];refine Ab (AjM W (.cells #[a,b,c,d] t)) ?_;rw [←Array.getElem?_toList];exact hu
theorem apYield (F : Fence) (m : Nat) (w0 : World) (fn : FuncId) (hfn : F.fn fn) (sv : Value) (Bs l D : Nat) (hBl : Bs ≠ l) (hDl : D ≠ l) (hDB : D ≠ Bs) (h0B : w0.heap.size ≤ Bs) (h0l : w0.heap.size ≤ l)
    (N : Nat) (hN : N ≤ 200000) (ss : List Sg) (x : Sg) (W : World) (h : ApAt w0 fn sv Bs l D ss W) (hlen : ss.length < N) :
    YieldAt F m Tryz.prog l #[Ax x] W fun e W' => e = .returned (.bool true) ∧ ApAt w0 fn sv Bs l D (ss ++ [x]) W' ∧ KeepsWalks W W' := by
  have hne : 208 ≠ 176 := by decide
  obtain ⟨i0, hi, hz0, hz1, hz2⟩ := info_parts Tryz.infoStep
  obtain ⟨v, hv, hrow⟩ := h.box
  refine ⟨fn, #[.slice none 0 0, sv, .pointer (some ⟨Bs, 0, none⟩), undef, .slice none 0 0, undef, sv, Ax x, undef, undef, undef, undef, undef], VM, VO, by simpa [apRec] using run_yield (P := Tryz.prog) (args := #[Ax x]) h.L rfl, roundIn_of_wpIn hfn ?_⟩
  have hka : KeepsWalks W (W.alloc (.cells #[S (R x.a.x), S (R x.a.y), S (R x.b.x), S (R x.b.y)] 176)) := KeepsWalks.alloc _ _
  have ha := ap_abides w0 fn sv Bs l D W.heap.size h.below.size ss W _ none h (DJ ((Aa.refl W).alloc (.cells #[S (R x.a.x), S (R x.a.y), S (R x.b.x), S (R x.b.y)] 176)) none) (fun r e => by cases e)
  have EB := AjM W (.cells #[S (R x.a.x), S (R x.a.y), S (R x.b.x), S (R x.b.y)] 176)
  have Qy : l < W.heap.size := (Array.getElem?_eq_some_iff.1 h.L).1
  unfold VM
  unfold Ax
  gi_wp2_with (rw [Oper.semAt_eq _ _ _ (fun c h => by cases h)]; go_simp; try go_bits)
  obtain ⟨bv, CL⟩ := AjJ W.heap.size
  rw [← CL] at EB Qy ⊢
  unfold S at ha EB hka
  clear CL h hv hrow
  generalize Xs : W.alloc (.cells #[.string ⟨(R x.a.x).toArray⟩, .string ⟨(R x.a.y).toArray⟩, .string ⟨(R x.b.x).toArray⟩, .string ⟨(R x.b.y).toArray⟩] 176) = Wa at *
  clear Xs
  obtain ⟨v, hv, hrow⟩ := ha.box
  have hl : l < Wa.heap.size := (Array.getElem?_eq_some_iff.1 ha.L).1
  have hbr := run_beginRound (P := Tryz.prog) ha.L rfl
  obtain ⟨W2, hW2⟩ : ∃ W2, Wa.putObj l (.loop { apRec fn sv Bs D .ready none with state := .busy }) = W2 := ⟨_, rfl⟩
  rw [hW2] at hbr
  have hg2 : Wa.grownBy W2 (some l) := by rw [← hW2]; exact grownBy_putObj _ _ _
  have hk2 : KeepsWalks Wa W2 := by rw [← hW2]; exact KeepsWalks.putObj _ ha.L rfl
  have hv2 : W2.heap[Bs]? = some (.cells #[v] 208 (0, 0)) := by rw [← hW2]; exact (World.putObj_heap_other hBl).trans hv
  have CW : W2.heap[bv]? = some (.cells #[S (R x.a.x), S (R x.a.y), S (R x.b.x), S (R x.b.y)] 176) := by rw [← hW2]; exact (World.putObj_heap_other (by omega)).trans EB
  have hK2 : W2.heap[D]? = some (.deferred (some [])) := by rw [← hW2]; exact (World.putObj_heap_other hDl).trans ha.K
  have hL2 : W2.heap[l]? = some (.loop { apRec fn sv Bs D .ready none with state := .busy }) := by rw [← hW2]; exact World.putObj_heap_same hl
  have hrow2 : W2.ownsRow w0.heap.size 176 4 v ss.length (BQ ss) := hrow.kept hg2 (ownsRow_ne hrow ha.L (fun cur e => by first | cases e | exact hne (Obj.cells.inj e).2.1))
  have hb2 : Below w0.heap.size w0 W2 := ha.below.grown hg2 ha.below.size (fun k e => by cases e; exact h0l)
  obtain ⟨hc2, hf2⟩ := cell_of_box hv2
  have hBlt : Bs < W2.heap.size := (Array.getElem?_eq_some_iff.1 hv2).1
  have hl2 : l < W2.heap.size := (Array.getElem?_eq_some_iff.1 hL2).1
  have hDlt : D < W2.heap.size := (Array.getElem?_eq_some_iff.1 hK2).1
  have ne_of : ∀ {j : Nat} {o : Obj}, W2.heap[j]? = some o → (∀ cur, o ≠ .cells cur 176 (0, 0)) → some j ≠ v.ownBlock := fun hj hno => by
    rcases ownsRow_ne hrow2 hj hno with e | e
    · rw [e]; simp
    · exact fun e' => e e'.symm
  have q0 := Ab (o := 0) CW rfl
  have q1 := Ab (o := 1) CW rfl
  have q2 := Ab (o := 2) CW rfl
  have q3 := Ab (o := 3) CW rfl
  have Q8 : W2.heap.size ≠ l := by omega
  clear hW2 ha hv hrow EB CW
  refine ⟨W2, hbr, ?_⟩
  unfold VO
  gi_wp2_with (first
    | (gi_at_builtin; refine wpListIn_append_own _ rfl _ _ 208 rfl w0.heap.size 176 i0 (.agg #[S [], S [], S [], S []]) 4 64 Tryz.underlying208 hi hz0 hz1 hz2 rfl (by decide) _ _ _ rfl (hrow2.alloc _) ⟨W2.heap.size, 0, none⟩ 1 1 [S (R x.a.x), S (R x.a.y), S (R x.b.x), S (R x.b.y)] rfl rfl (uv _ _ _ _ _ _) (by simp [Value.oneCell']) (by unfold maxLen; omega) (by omega) (by have := hb2.size; simp; omega) ?_; intro v' w3 hown' hg3 hnil3
       have hv3 : w3.heap[Bs]? = some (.cells #[v] 208 (0, 0)) := (hg3.block Bs (by simp; omega) (ne_of hv2 (fun cur e => by first | cases e | exact hne (Obj.cells.inj e).2.1))).trans ((Below.heap_alloc _ _ Bs hBlt).trans hv2)
       obtain ⟨hc3, hf3⟩ := cell_of_box hv3
       obtain ⟨g', cap', cur', rfl, hbase', hgb', hr1, hr2, hr3, hr4⟩ : ∃ g' cap' cur', v' = .slice (some ⟨g', 0, none⟩) (ss.length + 1) cap' ∧ w0.heap.size ≤ g' ∧ w3.heap[g']? = some (.cells cur' 176 (0, 0)) ∧ ss.length + 1 ≤ cap' ∧ cap' ≤ maxLen ∧ cur'.size = cap' * 4 ∧ cur'.toList.take ((ss.length + 1) * 4) = BQ ss ++ [S (R x.a.x), S (R x.a.y), S (R x.b.x), S (R x.b.y)] := by
         rcases hown'.2 with ⟨_, h0⟩ | h'
         · exact absurd h0 (by omega)
         · exact h'
       go_frame)
    | (rw [Oper.semAt_eq _ _ _ (fun c h => by cases h)]; go_simp; try go_bits))
  have hg3' : (W2.alloc (.cells #[S (R x.a.x), S (R x.a.y), S (R x.b.x), S (R x.b.y)] 176)).grownBy w3 v.ownBlock := hg3
  have hL3 : w3.heap[l]? = some (.loop { apRec fn sv Bs D .ready none with state := .busy }) := (hg3'.block l (by simp; omega) (ne_of hL2 (fun cur e => by first | cases e | exact hne (Obj.cells.inj e).2.1))).trans ((Below.heap_alloc _ _ l hl2).trans hL2)
  have hK3 : w3.heap[D]? = some (.deferred (some [])) := (hg3'.block D (by simp; omega) (ne_of hK2 (fun cur e => by first | cases e | exact hne (Obj.cells.inj e).2.1))).trans ((Below.heap_alloc _ _ D hDlt).trans hK2)
  obtain ⟨w4, hw4⟩ : ∃ w4, w3.setCell ⟨Bs, 0, none⟩ (.slice (some ⟨g', 0, none⟩) (ss.length + 1) cap') = w4 := ⟨_, rfl⟩
  rw [hw4]
  have hg4 : w3.grownBy w4 (some Bs) := by rw [← hw4]; exact grownBy_setCell0 _ _ _
  have hv4 : w4.heap[Bs]? = some (.cells #[.slice (some ⟨g', 0, none⟩) (ss.length + 1) cap'] 208 (0, 0)) := by rw [← hw4]; exact heap_setCell_box _ hv3
  have hL4 : w4.heap[l]? = some (.loop { apRec fn sv Bs D .ready none with state := .busy }) := (hg4.block l (Array.getElem?_eq_some_iff.1 hL3).1 (fun e => hBl (by cases e; rfl))).trans hL3
  have hK4 : w4.heap[D]? = some (.deferred (some [])) := (hg4.block D (Array.getElem?_eq_some_iff.1 hK3).1 (fun e => hDB (by cases e; rfl))).trans hK3
  have hrow4 := hown'.kept hg4 (ownsRow_ne hown' hv3 (fun cur e => by first | cases e | exact hne (Obj.cells.inj e).2.1))
  have hl4 : l < w4.heap.size := (Array.getElem?_eq_some_iff.1 hL4).1
  have hb3 : Below w0.heap.size w0 w3 := (hb2.alloc hb2.size _).grown hg3' (by have := hb2.size; simp; omega) (fun k e => (hrow2.lt k e).1)
  have hb4 : Below w0.heap.size w0 w4 := hb3.grown hg4 hb3.size (fun k e => by cases e; exact h0B)
  have hk4 : KeepsWalks W w4 := (hka.trans ((hk2.trans (KeepsWalks.alloc _ _)).trans (KeepsWalks.of_grownBy hg3' (ownsRow_not_walk (hrow2.alloc _))))).trans (by rw [← hw4]; exact KeepsWalks.setCell _ _ _)
  clear hw4
  refine ⟨_, _, run_endRound none hL4, rfl, ⟨⟨_, (World.putObj_heap_other hBl).trans hv4, ?_⟩, World.putObj_heap_same hl4, (World.putObj_heap_other hDl).trans hK4, hb4.grown (grownBy_putObj _ _ _) hb4.size (fun k e => by cases e; exact h0l)⟩, hk4.trans (KeepsWalks.putObj _ hL4 rfl)⟩
  have := hrow4.kept (grownBy_putObj w4 l (.loop { { apRec fn sv Bs D .ready none with state := .busy } with state := if (none : Option Code).isNone then .ready else .done, pending := none })) (ownsRow_ne hrow4 hL4 (fun cur e => by first | cases e | exact hne (Obj.cells.inj e).2.1))
  rw [yN]
  simpa using this
end
section
open Go.Sort
theorem appendSeq_in(F:Fence)(n:Nat)(h11:F.fn 241)(hro:F.round=none)(hn:2<=n)(g:Nat)(lb:Array Value)(hFg:F.fn g)(eg:∀args w,(callFunc g args).run Tryz.prog w=.ok (.enter g args) w)
  (S:List Sg→Prop) (N:Nat) (hN:N<=200000) (w:World) (hseq:SeqGives F (n-1) Tryz.prog g lb Ax S N w) :
  CallsIn F n Tryz.prog 241 #[.slice none 0 0,.func (.func g) #[] lb] w fun e w'=>∃(v:Value) (ss:List Sg),e=.returned v/\S ss/\w'.ownsRow w.heap.size 176 4 v ss.length (BQ ss)/\Below w.heap.size w w':=by
 have h1:1<=n:=(by omega);have hne:208≠176:=(by decide);refine callsIn_of_wp_marks Tryz.func241 rfl h11 ?_ hro;simp only [Tryz.ntmps241,List.size_toArray,List.length_cons,List.length_nil,Nat.reduceAdd,Nat.reduceSub,Array.replicate_succ,Array.replicate_zero,List.push_toArray,List.append_toArray,List.nil_append,List.cons_append];gi_wp2;refine wpIn_rangeFunc ?_;intro fn hfn;rw [hro];obtain⟨W0,hW0⟩:∃W0,w.alloc (.cells #[.slice none 0 0] 208)=W0:=⟨_,rfl⟩;have hs0:W0.heap.size=w.heap.size+1:=(by rw [←hW0];simp);have hv0:W0.heap[w.heap.size]?=some (.cells #[.slice none 0 0] 208 (0,0)):=(by rw [←hW0];exact World.alloc_heap_new w _);have hb0:Below w.heap.size w W0:=(by rw [←hW0];exact(Below.refl _ w).alloc (AjN _) _);rw [hW0];obtain⟨W1,hW1⟩:∃W1,(W0.alloc (.deferred (some []))).alloc (.loop (apRec fn (.func (.func g) #[] lb) w.heap.size W0.heap.size .ready none))=W1:=⟨_,rfl⟩
 have hold:∀k,k<W0.heap.size→W1.heap[k]?=W0.heap[k]?:=fun k hk=>by rw [←hW1];exact(Below.heap_alloc _ _ k (by simp;omega)).trans (Below.heap_alloc _ _ k hk)
 have hb1:Below w.heap.size w W1:=(by rw [←hW1];exact(hb0.alloc hb0.size _).alloc (by have:=hb0.size;simp;omega) _);have hs1:W1.heap.size=W0.heap.size+2:=by rw [←hW1];simp
 have hM:ApAt w fn (.func (.func g) #[] lb) w.heap.size (W0.heap.size+1) W0.heap.size [] W1:=
  ⟨⟨_,(hold w.heap.size (by omega)).trans hv0,⟨rfl,.inl ⟨rfl,rfl⟩⟩⟩,
   by rw [←hW1];have:=World.alloc_heap_new (W0.alloc (.deferred (some []))) (.loop (apRec fn (.func (.func g) #[] lb) w.heap.size W0.heap.size .ready none));rwa [AjU]at this,
   by rw [←hW1];exact(Below.heap_alloc _ _ _ (by simp)).trans (World.alloc_heap_new W0 _),hb1⟩
 refine⟨W0.heap.size+1,[{target:=.collected W0.heap.size,args:=#[]}],W1,{target:=.fn (.func g) lb,args:=#[.func (.yield (W0.heap.size+1)) #[] #[]]},W1,g,
  #[.func (.yield (W0.heap.size+1)) #[] #[]]++lb,W1,?_,?_,?_,?_,fun _=>h1,?_⟩
 ·rw [←hW1];exact run_enterLoop_outer _ _ _ _ _
 ·simp [resolve,go_sem]
 ·intro f' hf';simp [Target.leads]at hf';subst hf';exact hFg
 ·simp [invoke,go_sem,eg]
 ·refine(hseq (W0.heap.size+1) (ApAt w fn (.func (.func g) #[] lb) w.heap.size (W0.heap.size+1) W0.heap.size) W1 hb1 (ap_abides _ _ _ _ _ _ _ hb1.size)
   (fun pre x W hJ hl=>apYield F (n-1-1) w fn hfn _ w.heap.size (W0.heap.size+1) W0.heap.size (by omega) (by omega) (by omega) (AjN _) (by omega) N hN pre x W hJ hl) hM).mono ?_
  rintro e W2 ⟨⟨v0,rfl⟩,ss,hS,h2⟩;obtain⟨v,hv,hrow⟩:=h2.box;have hend:=run_endLoop (P:=Tryz.prog) h2.L (by simp [apRec]);obtain⟨W3,hW3⟩:∃W3,W2.putObj (W0.heap.size+1) (.loop {apRec fn (.func (.func g) #[] lb) w.heap.size W0.heap.size .ready none with state:=.exhausted})=W3:=⟨_,rfl⟩;rw [hW3]at hend;have hg3:W2.grownBy W3 (some (W0.heap.size+1)):=(by rw [←hW3];exact grownBy_putObj _ _ _);have hv3:W3.heap[w.heap.size]?=some (.cells #[v] 208 (0,0)):=(by rw [←hW3];exact(World.putObj_heap_other (by omega)).trans hv);have hK3:W3.heap[W0.heap.size]?=some (.deferred (some [])):=(by rw [←hW3];exact(World.putObj_heap_other (by omega)).trans h2.K);have hrow3:=hrow.kept hg3 (ownsRow_ne hrow h2.L (fun cur e=>by first|cases e|exact hne (Obj.cells.inj e).2.1));have hb3:Below w.heap.size w W3:=h2.below.grown hg3 h2.below.size (fun k e=>by cases e;omega);obtain⟨hc3,hf3⟩:=cell_of_box hv3;clear hW3;refine⟨none,W3,hend,?_⟩;gi_wp2;rw [←hs0];refine⟨by simp,.inl ⟨_,_,rfl,run_takeDeferred hK3,?_⟩⟩;exact⟨_,results_tmp rfl _ _ _,v,ss,rfl,hS,hrow3.kept (grownBy_putObj _ _ _) (ownsRow_ne hrow3 hK3 (fun cur e=>by first|cases e|exact hne (Obj.cells.inj e).2.1)),hb3.grown (grownBy_putObj _ _ _) hb3.size (fun k e=>by cases e;omega)⟩
end
section
open Go.Sort
theorem collect_in(F:Fence)(n:Nat)(h8:F.fn 198)(h11:F.fn 241)(hro:F.round=none)(hn:3<=n)(g:Nat)(lb:Array Value)(hFg:F.fn g)(eg:∀args w,(callFunc g args).run Tryz.prog w=.ok (.enter g args) w)
  (S:List Sg→Prop) (N:Nat) (hN:N<=200000) (w:World) (hseq:SeqGives F (n-1-1) Tryz.prog g lb Ax S N w) :
  CallsIn F n Tryz.prog 198 #[.func (.func g) #[] lb] w fun e w'=>∃(v:Value) (ss:List Sg),e=.returned v/\S ss/\w'.ownsRow w.heap.size 176 4 v ss.length (BQ ss)/\Below w.heap.size w w':=by
 have h1:1<=n:=(by omega);have e11:∀args w,(callFunc 241 args).run Tryz.prog w=.ok (.enter 241 args) w:=enters_of Tryz.func241 (by kernel_rfl) rfl;refine callsIn_of_wp Tryz.func198 rfl h8 ?_ hro;simp only [Tryz.ntmps198,List.size_toArray,List.length_cons,List.length_nil,Nat.reduceAdd,Nat.reduceSub,Array.replicate_succ,Array.replicate_zero,List.push_toArray,List.append_toArray,List.nil_append,List.cons_append];gi_wp2;refine(appendSeq_in F (n-1) h11 hro (by omega) g lb hFg eg S N hN _ hseq).mono ?_;rintro e w' ⟨v,ss,rfl,hS,hrow,hb⟩;gi_wp2;go_ret;exact⟨v,ss,rfl,hS,hrow,hb⟩
end
section
open Go.Sort
theorem AdK(w:World):Calls Tryz.prog 176 #[.int .u64 0] w fun e w'=>e=.returned (.int .i64 0)/\w'=w:=by
 have e8:wrap64 (wrap64 (Lib.len8 0))=0:=(by decide +kernel);go_enter Tryz.func176,Tryz.ntmps176;go_wp2;go_ret;exact⟨by simp [e8],rfl⟩
theorem len_nil(w:World):Calls Tryz.prog 97 #[.int .u64 0] w fun e w'=>e=.returned (.int .i64 0)/\w'=w:=by
 have h:=AdK;go_enter Tryz.func97,Tryz.ntmps97;(go_wp2_with fail);(with_reducible refine(h _).mono ?_);rintro e w1 ⟨rfl,rfl⟩;go_wp2;go_ret;exact⟨rfl,rfl⟩
theorem Adx(fv:Value)(w:World):Calls Tryz.prog 273 #[.slice none 0 0,.int .i64 0,.int .i64 0,fv] w fun e w'=>e=.returned (.tuple #[])/\w'=w:=by
 go_enter Tryz.func273,Tryz.ntmps273;go_wp2;refine wp_loop_rounds 1 ?_;rw [rounds_succ];go_wp2
 go_end0
 exact⟨rfl,rfl⟩
theorem Afq(lim:Int)(fv:Value)(w:World):Calls Tryz.prog 242 #[.slice none 0 0,.int .i64 0,.int .i64 0,.int .i64 lim,fv] w fun e w'=>e=.returned (.tuple #[])/\w'=w:=by
 have hi:=Adx fv;go_enter Tryz.func242,Tryz.ntmps242;go_wp2;refine wp_loop_rounds 1 ?_;rw [rounds_succ];(go_wp2_with fail);(with_reducible refine(hi _).mono ?_);rintro e w1 ⟨rfl,rfl⟩;go_wp2
 (try simp only [Exit.inBlock,Exit.then]);refine bodyPost_ret (results_none rfl _ _ _) rfl ?_
 exact⟨rfl,rfl⟩
theorem AgM(fv:Value)(w:World):Calls Tryz.prog 199 #[.slice none 0 0,fv] w fun e w'=>e=.returned (.tuple #[])/\w'=w:=by
 have h1:=len_nil;have h2:=Afq 0 fv;go_enter Tryz.func199,Tryz.ntmps199;(go_wp2_with fail);(with_reducible refine(h1 _).mono ?_);rintro e w1 ⟨rfl,rfl⟩;(go_wp2_with fail);(with_reducible refine(h2 _).mono ?_);rintro e w1 ⟨rfl,rfl⟩;go_wp2
 go_end0
 exact⟨rfl,rfl⟩
def BD(l:List Sg):List Sg:=l.mergeSort (fun x y=>!decide (ES y x<0))
theorem Kv(l:List Sg):(BD l).Perm l:=List.mergeSort_perm _ _
theorem aT{l:List Sg} : (BD l).Pairwise (fun x y=>¬ES y x<0):=by
 have tr:∀a b c:Sg,(!decide (ES b a<0))=true→(!decide (ES c b<0))=true→(!decide (ES c a<0))=true:=by
  intro a b c h1 h2;simp only [Bool.not_eq_true',decide_eq_false_iff_not,Oz]at *
  grind
 have bD:∀a b:Sg,((!decide (ES b a<0))||(!decide (ES a b<0)))=true:=by
  intro a b;simp only [Bool.or_eq_true,Bool.not_eq_true',decide_eq_false_iff_not,Oz]
  grind
 have h:=List.pairwise_mergeSort tr bD l;refine h.imp ?_;intro a b hab
 simpa using hab
theorem AgT{l m:List Sg}(h:l.Perm m):BD l=BD m:=by
 refine List.Perm.eq_of_pairwise (le:=fun x y=>¬ES y x<0) ?_ aT aT (((Kv l).trans h).trans (Kv m).symm);intro a b _ _ h1 h2;rw [Oz]at h1 h2;obtain⟨⟨a1,a2⟩,⟨a3,a4⟩⟩:=a;obtain⟨⟨b1,b2⟩,⟨b3,b4⟩⟩:=b;simp only [Sg.mk.injEq,Pt.mk.injEq]at *
 grind
theorem jG(m:List Way):m.flatMap F7=BQ (m.map (·.1)):=by
 induction m with
 | nil=>rfl
 | cons x m ih=>rw [List.flatMap_cons,ih];rfl
theorem AhF{l:List Sg}(h:∀s∈l,P0 s):∃d:Array Way,d.toList.map (·.1)=l:=
 ⟨(l.attachWith P0 h).toArray,by simp⟩
theorem jZ(w:World)(row:Option Nat):w.grownBy w row:=⟨rfl,rfl,rfl,AjN _,fun _ _ _=>rfl⟩
theorem AgL{w0 w:World}(hw:Ak w0)(hx:Aa w0 w){B:Nat}(hB:w0.heap.size<=B)(l:List Sg)(hl:∀s∈l,P0 s)(hlen:l.length<1000000){v:Value}(hv:w.ownsRow B 176 4 v l.length (BQ l)) :
  Calls Tryz.prog 199 #[v,.func (.func 129) #[] #[]] w fun e w'=>
   e=.returned (.tuple #[])/\w.grownBy w' v.ownBlock/\w'.ownsRow B 176 4 v l.length (BQ (BD l)):=by
 by_cases hn:l = []
 ·subst hn
  have hv':v=.slice none 0 0∨∃g cap,v=.slice (some ⟨g,0,none⟩) 0 cap:=by
   rcases hv.2 with⟨h,_⟩|⟨g,cap,cur,h,_⟩
   ·exact .inl h
   ·exact .inr ⟨g,cap,h⟩
  have e:BD [] = []:=(by unfold BD;simp);rw [e]
  rcases hv' with rfl|⟨g,cap,rfl⟩
  ·exact(AgM _ w).mono fun _ _ ⟨he,hw⟩=>⟨he,by subst hw;exact jZ _ _,by subst hw;exact hv⟩
  ·have hgb:g<w.heap.size/\w0.heap.size<=g:=by have:=hv.lt g rfl;omega
   refine(zH g 0 cap #[] w0 w hw hx hgb.2 (fun j hj=>by simp at hj) hgb.1 (by simp)).mono ?_;rintro e w' ⟨he,n,os,rfl⟩;refine⟨he,NA F7 4 w g 0 n _ os,?_⟩;have h2:w.ownsRow B 176 4 (.slice (some ⟨g,0,none⟩) (#[]:Array Way).size cap) (#[]:Array Way).size ((#[]:Array Way).toList.flatMap F7):=hv;have:=Rf SE (by omega) h2 (d':=(Jn []).toArray) (by simp [Jn]) n os
   simpa [Jn,BQ]using this
 ·obtain⟨d,hd⟩:=AhF hl;have FH:d.size=l.length:=by rw [←hd];simp
  have hv':w.ownsRow B 176 4 v d.size (d.toList.flatMap F7):=by rw [jG,hd,FH];exact hv
  have FP:0<d.size:=(by rw [FH];exact List.length_pos_iff.2 hn);obtain⟨g,cap,rfl,hgb,Qq,hH,hown⟩:=YE SE (by omega) hv' FP;refine(zH g 0 cap d w0 w hw hx (by omega) hH Qq (by omega)).mono ?_;rintro e w' ⟨he,n,os,rfl⟩;refine⟨he,NA F7 4 w g 0 n _ os,?_⟩;have ho:=Rf SE (by omega) hv' (d':=(Jn d.toList).toArray) (by simp [Jn]) n os
  have hm:(Jn d.toList).map (·.1)=BD l:=by unfold Jn BD;rw [List.map_mergeSort (r:=fun x y:Way=>!ltOf Gx y x) (f:=fun x:Way=>x.1) (s:=fun x y=>!decide (ES y x<0)) (fun a _ b _=>rfl),hd]
  rw [jG,List.toList_toArray,hm,FH]at ho;rw [FH];exact ho
theorem zI{w0 w:World}(hw:Ak w0)(hx:Aa w0 w)(Bm b:Nat)(L:List (Sg×Int))(hBm:Bm<w.heap.size)(hm:w.cell? ⟨Bm,0,none⟩=some (.map (some b)))(hb:w.heap[b]?=some (.map (Az Ax (stamp L)).toArray L.length))
  (hL:∀e∈L,G7 1 e.1) (hlen:L.length<=200000) :
  Calls Tryz.prog 127 #[.func (.func 200) #[] #[.pointer (some ⟨Bm,0,none⟩)],.func (.func 129) #[] #[]] w fun e w'=>
   ∃v,e=.returned v/\w'.ownsRow w.heap.size 176 4 v L.length (BQ (BD (L.map (·.1))))/\Aa w w':=by
 have eg:∀args w,(callFunc 200 args).run Tryz.prog w=.ok (.enter 200 args) w:=enters_of Tryz.func200 (by kernel_rfl) rfl;have c1:=callsIn_wide.1 (collect_in Fence.wide 5 trivial trivial rfl (by omega) 200 #[.pointer (some ⟨Bm,0,none⟩)] trivial eg _ L.length hlen w (AdC Fence.wide 3 trivial rfl (by omega) Bm b L w hBm hm hb));go_enter Tryz.func127,Tryz.ntmps127;(go_wp2_with fail);(with_reducible refine c1.mono ?_);rintro e w1 ⟨v,ss,rfl,hS,hrow,hbl⟩;have BA:Aa w w1:=hbl;have D4:ss.length=L.length:=by rw [hS.length_eq];simp
 have c2:=AgL hw (hx.trans BA) hx.size ss (fun s hs=>by
  have:=hS.mem_iff.1 hs;rw [List.mem_map]at this;obtain⟨e,he,rfl⟩:=this
  exact hL e he) (by omega) hrow
 have D5:=AgT hS;rw [D5,D4]at c2;rw [D4]at hrow;(go_wp2_with fail);(with_reducible refine c2.mono ?_);rintro e w2 ⟨rfl,hg,ho⟩;go_wp2;go_ret;exact⟨v,rfl,ho,BA.grownOwn hg hrow (AjN _)⟩
end
def rowOf(R0:List (Pt×List Pt))(p:Pt):List Pt:=match R0.find? (fun e=>Ah p e.1)with|some e=>e.2|none=>[]
theorem xF(p:Pt):Ah p p=true:=BN.2 rfl
theorem xE{p q:Pt} : Ah p q=false↔p≠q:=by
 rw [Bool.eq_false_iff];exact not_congr BN
theorem Ko(e:Pt×List Pt)(R0:List (Pt×List Pt))(p:Pt):rowOf (e::R0) p=if Ah p e.1=true then e.2 else rowOf R0 p:=by
 unfold rowOf;rw [List.find?_cons]
 cases h:Ah p e.1<;>simp
theorem So(p q:Pt):Du [] p q = [(p,[q])]:=by simp [Du,Fz,Fb,List.modify]
theorem Sm(e:Pt×List Pt)(R0:List (Pt×List Pt))(p q:Pt):Du (e::R0) p q=if Ah p e.1=true then (e.1,e.2 ++ [q])::R0 else e::Du R0 p q:=by
 unfold Du Fz Fb;rw [List.findIdx?_cons]
 cases h:Ah p e.1
 ·simp only [Bool.false_eq_true,if_false]
  cases h2:R0.findIdx? (fun e=>Ah p e.1)with
  | none=>simp [List.modify_succ_cons]
  | some j=>simp [List.modify_succ_cons]
 ·simp
theorem aG(R0:List (Pt×List Pt))(p q p':Pt):rowOf (Du R0 p q) p'=if Ah p' p=true then rowOf R0 p ++ [q] else rowOf R0 p':=by
 induction R0 with
 | nil=>
  rw [So,Ko];simp only
  cases h:Ah p' p<;>simp [rowOf]
 | cons e R0 ih=>
  rw [Sm];by_cases h:Ah p e.1=true
  ·rw [if_pos h,Ko,Ko,Ko,if_pos h];have he:=BN.1 h;simp only [←he];by_cases h2:Ah p' p=true
   ·rw [if_pos h2,if_pos h2]
   ·rw [if_neg h2,if_neg h2,if_neg h2]
  ·rw [if_neg h,Ko,Ko,Ko,if_neg h,ih];by_cases h2:Ah p' p=true
   ·have:=BN.1 h2;subst this;rw [if_neg h,if_pos h2,if_pos h2]
   ·rw [if_neg h2,if_neg h2]
theorem nw(R0:List (Pt×List Pt))(p q:Pt):∀x,x∈(Du R0 p q).map (·.1)↔x=p∨x∈R0.map (·.1):=by
 induction R0 with
 | nil=>intro x;rw [So];simp
 | cons e R0 ih=>
  intro x;rw [Sm];by_cases h:Ah p e.1=true
  ·rw [if_pos h];have:=BN.1 h;subst this;simp
  ·rw [if_neg h,List.map_cons,List.mem_cons,ih x,List.map_cons,List.mem_cons];constructor
   ·rintro(h1|h1|h1)
    ·exact .inr (.inl h1)
    ·exact .inl h1
    ·exact .inr (.inr h1)
   ·rintro(h1|h1|h1)
    ·exact .inr (.inl h1)
    ·exact .inl h1
    ·exact .inr (.inr h1)
theorem eS{R0:List (Pt×List Pt)}(h:(R0.map (·.1)).Nodup)(p q:Pt):((Du R0 p q).map (·.1)).Nodup:=by
 induction R0 with
 | nil=>rw [So];simp
 | cons e R0 ih=>
  rw [List.map_cons,List.nodup_cons]at h;rw [Sm];by_cases h2:Ah p e.1=true
  ·rw [if_pos h2,List.map_cons,List.nodup_cons];exact h
  ·rw [if_neg h2,List.map_cons,List.nodup_cons];refine⟨?_,ih h.2⟩;rw [nw];rintro(h3|h3)
   ·exact h2 (BN.2 h3.symm)
   ·exact h.1 h3
theorem eR{R0:List (Pt×List Pt)}(h:∀e∈R0,e.2≠[])(p q:Pt):∀e∈Du R0 p q,e.2≠[]:=by
 induction R0 with
 | nil=>rw [So];simp
 | cons e R0 ih=>
  rw [Sm];intro x hx;by_cases h2:Ah p e.1=true
  ·rw [if_pos h2]at hx
   rcases List.mem_cons.1 hx with rfl|hx
   ·simp
   ·exact h x (List.mem_cons_of_mem _ hx)
  ·rw [if_neg h2]at hx
   rcases List.mem_cons.1 hx with rfl|hx
   ·exact h _ (List.mem_cons_self)
   ·exact ih (fun e he=>h e (List.mem_cons_of_mem _ he)) x hx
theorem yA{R0:List (Pt×List Pt)}(h:(R0.map (·.1)).Nodup){e:Pt×List Pt}(he:e∈R0):R0.find? (fun x=>Ah e.1 x.1)=some e:=by
 induction R0 with
 | nil=>cases he
 | cons x R0 ih=>
  rw [List.map_cons,List.nodup_cons]at h;rw [List.find?_cons]
  rcases List.mem_cons.1 he with rfl|he
  ·rw [xF]
  ·have:Ah e.1 x.1=false:=by rw [xE];intro hh;exact h.1 (hh▸List.mem_map_of_mem he)
   rw [this];exact ih h.2 he
structure Er(W:List Sg)(R0:List (Pt×List Pt)):Prop where
 keys:(R0.map (·.1)).Nodup
 ne:∀e∈R0,e.2≠[]
 mem:∀p q,q∈rowOf R0 p↔(⟨p,q⟩:Sg)∈W
 back:∀s∈W,Bc s∈W
theorem Aex(pts:List Pt)(l:List Au):Er ((AN pts l).map (·.1)) (Cw pts l):=by
 have main:∀n,n<=l.length→Er ((AN pts (l.take n)).map (·.1)) (Cw pts (l.take n)):=by
  intro n
  induction n with
  | zero=>intro _;exact⟨by simp [Cw],by simp [Cw],by simp [Cw,AN,rowOf],by simp [AN]⟩
  | succ n ih=>
   intro hn;have h:=ih (by omega);rw [AjQ (by omega),vC,vF];generalize l[n]=e at *;generalize Bg pts e=s at *;refine⟨eS (eS h.keys _ _) _ _,eR (eR h.ne _ _) _ _,?_,?_⟩
   ·intro p q;rw [aG,aG,aG,List.map_append,List.mem_append];simp only [List.map_cons,List.map_nil,List.mem_cons,AjY,or_false,←h.mem];have e1:((⟨p,q⟩:Sg)=s)↔p=s.a/\q=s.b:=(by obtain⟨a,b⟩:=s;simp);have e2:((⟨p,q⟩:Sg)=Bc s)↔p=s.b/\q=s.a:=(by obtain⟨a,b⟩:=s;simp [Bc]);rw [e1,e2];by_cases h1:Ah p s.b=true
    ·have p1:=BN.1 h1;rw [if_pos h1];by_cases h2:Ah s.b s.a=true
     ·have p2:=BN.1 h2;rw [if_pos h2,←p2,←p1];simp only [List.mem_append,AjZ]
      grind
     ·rw [if_neg h2,←p1];have p2:¬s.b=s.a:=fun h=>h2 (BN.2 h);simp only [List.mem_append,AjZ]
      grind
    ·have p1:¬p=s.b:=fun h=>h1 (BN.2 h);rw [if_neg h1];by_cases h2:Ah p s.a=true
     ·have p2:=BN.1 h2;rw [if_pos h2,←p2];simp only [List.mem_append,AjZ]
      grind
     ·have p2:¬p=s.a:=fun h=>h2 (BN.2 h);rw [if_neg h2]
      grind
   ·intro x hx;rw [List.map_append,List.mem_append]at hx ⊢;simp only [List.map_cons,List.map_nil,List.mem_cons,AjY,or_false]at hx ⊢
    rcases hx with hx|rfl|rfl
    ·exact .inl (h.back x hx)
    ·exact .inr (.inr rfl)
    ·exact .inr (.inl rfl)
 have:=main l.length (AjN _)
 rwa [List.take_length]at this
theorem Agl(R0:List (Pt×List Pt))(p q:Pt):q∈rowOf (R0.map (fun e=>(e.1,Ec e.1 e.2))) p↔q∈rowOf R0 p:=by
 induction R0 with
 | nil=>simp [rowOf]
 | cons e R0 ih=>
  rw [List.map_cons,Ko,Ko];simp only;by_cases h1:Ah p e.1=true
  ·rw [if_pos h1,if_pos h1];exact(Vb e.1 e.2).mem_iff
  ·rw [if_neg h1,if_neg h1];exact ih
theorem Adm{l:List Pt}{p:Pt}(h:p∈l):∃j,j<l.length/\Dl l p=(j:Int):=by
 unfold Dl
 cases hf:l.findIdx? (Ah p)with
 | none=>
  rw [List.findIdx?_eq_none_iff]at hf;have:=hf p h;rw [xF]at this
  cases this
 | some j=>rw [List.findIdx?_eq_some_iff_getElem]at hf;exact⟨j,hf.1,rfl⟩
theorem Er.sorted{W:List Sg}{R0:List (Pt×List Pt)}(h:Er W R0):Er W (R0.map (fun e=>(e.1,Ec e.1 e.2))):=by
 have hk:(R0.map (fun e=>(e.1,Ec e.1 e.2))).map (·.1)=R0.map (·.1):=(by rw [List.map_map];rfl);have hr:=Agl R0;refine⟨by rw [hk];exact h.keys,?_,fun p q=>by rw [hr];exact h.mem p q,h.back⟩;intro e he;rw [List.mem_map]at he;obtain⟨x,hx,rfl⟩:=he;have:=h.ne x hx;intro e0;have:=(Vb x.1 x.2).length_eq;simp only at e0;rw [e0]at this;exact h.ne x hx (List.eq_nil_of_length_eq_zero this.symm)
def LI(R0:List (Pt×List Pt))(s:Sg):Sg:=⟨s.b,(rowOf R0 s.b).getD (((Dl (rowOf R0 s.b) s.a).toNat+(rowOf R0 s.b).length-1)%(rowOf R0 s.b).length) ⟨0,0⟩⟩
theorem Er.step{W:List Sg}{R0:List (Pt×List Pt)}(h:Er W R0){s:Sg}(hs:s∈W) :
  ∃e,R0.find? (fun e=>Ah s.b e.1)=some e/\∃j m,∃_:j<e.2.length,Dl e.2 s.a=(j:Int)/\∃hm:m<e.2.length,m=(j+e.2.length-1)%e.2.length/\LI R0 s=⟨s.b,e.2[m]⟩/\(⟨s.b,e.2[m]⟩:Sg)∈W:=by
 have hb:s.a∈rowOf R0 s.b:=(h.mem s.b s.a).2 (h.back s hs)
 have hr:rowOf R0 s.b=match R0.find? (fun e=>Ah s.b e.1)with|some e=>e.2|none=>[]:=rfl
 cases hf:R0.find? (fun e=>Ah s.b e.1)with
 | none=>rw [hr,hf]at hb;cases hb
 | some e=>
  rw [hf]at hr;simp only at hr;rw [hr]at hb;obtain⟨j,hj,hi⟩:=Adm hb;have hl:0<e.2.length:=(by omega);have hm:(j+e.2.length-1)%e.2.length<e.2.length:=Nat.mod_lt _ hl;refine⟨e,rfl,j,_,hj,hi,hm,rfl,?_,?_⟩
  ·unfold LI;rw [hr,hi];simp only [Int.toNat_natCast];rw [List.getD_eq_getElem?_getD,AjS hm];rfl
  ·refine(h.mem s.b _).1 ?_;rw [hr];exact AjO hm
theorem Er.next{W:List Sg}{R0:List (Pt×List Pt)}(h:Er W R0){s:Sg}(hs:s∈W):LI R0 s∈W:=by
 obtain⟨e,_,j,m,_,_,hm,_,h1,h2⟩:=h.step hs;rw [h1];exact h2
def Sj(W:List Sg):Prop:=∀s∈W,∀t∈W,s≠t→s≠Bc t→EJ s.a s.b t.a t.b
theorem Sj.good{W:List Sg}(h:Sj W):Js W:=by
 intro s hs t ht h1 h2 hne;refine h s hs t ht hne ?_;rintro rfl;simp only [Bc]at h1
 grind
theorem AhE(pts:List Pt)(l:List Au)(h3:DF pts [] l=0):Sj ((AN pts l).map (·.1)):=by
 have hx:∀i j,(hi:i<l.length)→(hj:j<l.length)→i<j→EJ (Bg pts l[j]).a (Bg pts l[j]).b (Bg pts l[i]).a (Bg pts l[i]).b:=by intro i j hi hj AL;have:=gU h3 j hj;rw [List.nil_append,List.any_eq_false]at this;have h1:=this l[i] (by rw [List.mem_take_iff_getElem];exact⟨i,by omega,rfl⟩);rw [Bool.not_eq_true]at h1;exact Ae3 h1
 have hy:∀i j,(hi:i<l.length)→(hj:j<l.length)→i≠j→EJ (Bg pts l[i]).a (Bg pts l[i]).b (Bg pts l[j]).a (Bg pts l[j]).b:=by
  intro i j hi hj AL
  rcases Nat.lt_or_gt_of_ne AL with h|h
  ·exact(hx i j hi hj h).symm
  ·exact hx j i hj hi h
 have mem:∀s,s∈(AN pts l).map (·.1)→∃i,∃hi:i<l.length,s=Bg pts l[i]∨s=Bc (Bg pts l[i]):=by
  intro s hs;rw [List.mem_map]at hs;obtain⟨x,hx,rfl⟩:=hs;unfold AN at hx;rw [List.mem_flatMap]at hx;obtain⟨e,he,hx⟩:=hx;obtain⟨i,hi,rfl⟩:=List.getElem_of_mem he;simp only [List.mem_cons,AjY,or_false]at hx
  rcases hx with rfl|rfl
  ·exact⟨i,hi,.inl rfl⟩
  ·exact⟨i,hi,.inr rfl⟩
 intro s hs t ht h1 h2;obtain⟨i,hi,es⟩:=mem s hs;obtain⟨j,hj,et⟩:=mem t ht
 have AL:i≠j:=by
  rintro rfl
  rcases es with rfl|rfl<;>rcases et with rfl|rfl
  ·exact h1 rfl
  ·exact h2 rfl
  ·exact h2 rfl
  ·exact h1 rfl
 have hn:=hy i j hi hj AL
 rcases es with rfl|rfl<;>rcases et with rfl|rfl
 ·exact hn
 ·exact hn.right
 ·exact hn.left
 ·exact hn.left.right
structure P2(W:List Sg):Prop where
 x:Sj W
 sz:∀s∈W,G7 1 s
 ne:∀s∈W,s.a≠s.b
theorem Agn{W:List Sg}{R0:List (Pt×List Pt)}(hW:P2 W)(hN:Er W R0)(hlen:∀e∈R0,e.2.length<100000):eK R0:=by
 have hm:∀e∈R0,∀q∈e.2,(⟨e.1,q⟩:Sg)∈W:=by intro e he q hq;refine(hN.mem e.1 q).1 ?_;unfold rowOf;rw [yA hN.keys he];exact hq
 refine⟨?_,?_,hN.ne,hlen⟩
 ·intro e he;refine⟨fun q hq=>(hW.sz _ (hm e he q hq)).b,fun q hq h=>hW.ne _ (hm e he q hq) h.symm,?_⟩;intro a ha b hb h0;refine Classical.byContradiction fun hab=>hab ?_;have na:a≠e.1:=fun h=>hW.ne _ (hm e he a ha) h.symm;have nb:b≠e.1:=fun h=>hW.ne _ (hm e he b hb) h.symm;refine ye (hW.x _ (hm e he a ha) _ (hm e he b hb) ?_ ?_) na nb h0
  ·intro h;simp only [Sg.mk.injEq,true_and]at h;exact hab h
  ·intro h;simp only [Bc,Sg.mk.injEq]at h;exact nb h.1.symm
 ·intro e he;obtain⟨q,hq⟩:=List.exists_mem_of_ne_nil _ (hN.ne e he);exact(hW.sz _ (hm e he q hq)).a
def FX(R0:List (Pt×List Pt)):Nat→List Sg→Sg→List Sg→List Sg×List Sg
 | 0,U,_,c=>(U,c)
 | n+1,U,s,c=>if U.any (AK s)=true then (U,c)else FX R0 n (U ++ [s]) (LI R0 s) (c ++ [s])
def Fc(N:Nat)(R0:List (Pt×List Pt))(st:List Sg×List (List Sg))(s:Sg):List Sg×List (List Sg):=
 ((FX R0 (N-st.1.length+1) st.1 s []).1,if 0<(FX R0 (N-st.1.length+1) st.1 s []).2.length then st.2 ++ [(FX R0 (N-st.1.length+1) st.1 s []).2] else st.2)
def IF(W:List Sg)(R0:List (Pt×List Pt)):List (List Sg):=((BD W).foldl (Fc W.length R0) ([],[])).2
theorem Sr{U:List Sg}{s:Sg} : U.any (AK s)=true↔s∈U:=by
 rw [List.any_eq_true];constructor
 ·rintro⟨x,hx,h⟩;rw [Hg]at h;exact h▸hx
 ·intro h;exact⟨s,h,Hg.2 rfl⟩
theorem pz{U:List Sg}{s:Sg} : U.any (AK s)=false↔s∉U:=by
 rw [←Sr,Bool.not_eq_true]
theorem Je{U W:List Sg}(h:U.Nodup)(hs:∀s∈U,s∈W):U.length<=W.length:=h.length_le_of_subset hs
theorem aH{W:List Sg}{R0:List (Pt×List Pt)}(hN:Er W R0):∀(n:Nat) (U:List Sg) (s:Sg) (c:List Sg),U.Nodup→(∀t∈U,t∈W)→s∈W→W.length<U.length+n→
  ∃d,FX R0 n U s c=(U++d,c++d)/\(U++d).Nodup/\(∀t∈d,t∈W)/\(s∉U→d.head?=some s)/\s∈U++d
 | 0,U,s,c,h1,h2,h3,h4=>by have:=Je h1 h2;omega
 | n+1,U,s,c,h1,h2,h3,h4=>by
  unfold FX;by_cases hs:s∈U
  ·rw [if_pos (Sr.2 hs)];exact⟨[],by simp,by simpa using h1,by simp,fun h=>absurd hs h,by simpa using hs⟩
  ·rw [if_neg (by rw [Sr];exact hs)]
   have hn:(U ++ [s]).Nodup:=by rw [List.nodup_append];refine⟨h1,by simp,?_⟩;intro a ha b hb;simp only [AjZ]at hb;subst hb;rintro rfl;exact hs ha
   obtain⟨d,e1,e2,e3,e4,e5⟩:=aH hN n (U ++ [s]) (LI R0 s) (c ++ [s]) hn (by
    intro t ht
    rcases List.mem_append.1 ht with ht|ht
    ·exact h2 t ht
    ·simp only [AjZ]at ht;exact ht▸h3) (hN.next h3) (by simp;omega)
   refine⟨s::d,?_,?_,?_,fun _=>rfl,by simp⟩
   ·rw [e1];simp
   ·simpa using e2
   ·intro t ht
    rcases List.mem_cons.1 ht with rfl|ht
    ·exact h3
    ·exact e3 t ht
theorem yD(R0:List (Pt×List Pt)):∀(n:Nat) (U:List Sg) (s:Sg) (c:List Sg),c.length<=(FX R0 n U s c).2.length
 | 0,U,s,c=>AjN _
 | n+1,U,s,c=>by
  unfold FX
  split
  ·exact AjN _
  ·have:=yD R0 n (U ++ [s]) (LI R0 s) (c ++ [s]);rw [List.length_append,List.length_singleton]at this;omega
structure Rz(W:List Sg)(U:List Sg)(C:List (List Sg)):Prop where
 nd:U.Nodup
 sub:∀s∈U,s∈W
 flat:C.flatten=U
 ne:∀c∈C,c≠[]
 least:∀c∈C,∀s∈c,∀h:0<c.length,¬ES s c[0]<0
theorem iQ{W:List Sg}{R0:List (Pt×List Pt)}(hN:Er W R0)(k:Nat)(hk:k<=(BD W).length) :
  Rz W (((BD W).take k).foldl (Fc W.length R0) ([],[])).1 (((BD W).take k).foldl (Fc W.length R0) ([],[])).2/\∀s∈(BD W).take k,s∈(((BD W).take k).foldl (Fc W.length R0) ([],[])).1:=by
 induction k with
 | zero=>exact⟨⟨by simp,by simp,by simp,by simp,by simp⟩,by simp⟩
 | succ k ih=>
  have Gr:k<(BD W).length:=(by omega);obtain⟨h,hp⟩:=ih (by omega);rw [AjQ Gr,List.foldl_append];simp only [List.foldl_cons,List.foldl_nil];generalize hst:((BD W).take k).foldl (Fc W.length R0) ([],[])=st at *;have Uz:(BD W)[k]∈W:=(Kv W).mem_iff.1 (AjO Gr);have hle:=Je h.nd h.sub;obtain⟨d,e1,e2,e3,e4,e5⟩:=aH hN (W.length-st.1.length+1) st.1 (BD W)[k] [] h.nd h.sub Uz (by omega)
  have hstep:Fc W.length R0 st (BD W)[k]=(st.1++d,if 0<d.length then st.2 ++ [d] else st.2):=by unfold Fc;rw [e1];simp
  rw [hstep];simp only;refine⟨⟨e2,?_,?_,?_,?_⟩,?_⟩
  ·intro s hs
   rcases List.mem_append.1 hs with hs|hs
   ·exact h.sub s hs
   ·exact e3 s hs
  ·split
   ·rw [List.flatten_append,h.flat];simp
   ·have:d = []:=List.eq_nil_of_length_eq_zero (by omega);rw [this,List.append_nil];exact h.flat
  ·intro c hc
   split at hc
   ·rename_i FP
    rcases List.mem_append.1 hc with hc|hc
    ·exact h.ne c hc
    ·simp only [AjZ]at hc;subst hc;intro e;rw [e]at FP;simp at FP
   ·exact h.ne c hc
  ·intro c hc;have old:=h.least c
   split at hc
   ·rcases List.mem_append.1 hc with hc|hc
    ·exact old hc
    ·simp only [AjZ]at hc;subst hc;intro s hs h0;by_cases hu:(BD W)[k]∈st.1
     ·
      exfalso
      have:FX R0 (W.length-st.1.length+1) st.1 (BD W)[k] []=(st.1,[]):=by unfold FX;rw [if_pos (Sr.2 hu)]
      rw [this]at e1;have:=congrArg Prod.snd e1;simp only [List.nil_append]at this;rw [←this]at h0;simp at h0
     ·have hh:=e4 hu
      have h00:c[0]=(BD W)[k]:=by rw [List.head?_eq_getElem?,AjS h0,AjR]at hh;exact hh
      rw [h00];have hsm:s∈BD W:=(Kv W).mem_iff.2 (e3 s hs);obtain⟨i,hi,rfl⟩:=List.getElem_of_mem hsm
      have hik:k<=i:=by
       refine Classical.byContradiction fun hlt=>?_
       have hin:(BD W)[i]∈(BD W).take k:=by rw [List.mem_take_iff_getElem];exact⟨i,by omega,rfl⟩
       have h1:=hp _ hin;rw [List.nodup_append]at e2;exact e2.2.2 _ h1 _ hs rfl
      rcases Nat.lt_or_eq_of_le hik with h1|h1
      ·exact List.pairwise_iff_getElem.1 aT k i Gr hi h1
      ·subst h1;rw [Oz];grind
   ·exact old hc
  ·intro s hs
   rcases List.mem_append.1 hs with hs|hs
   ·exact List.mem_append_left _ (hp s hs)
   ·simp only [AjZ]at hs;rw [hs];exact e5
theorem U8{α:Type} : ∀{l:List (List α)},(∀c∈l,c≠[])→l.length<=l.flatten.length
 | [],_=>by simp
 | c::l,h=>by have h1:=U8 (l:=l) (fun x hx=>h x (List.mem_cons_of_mem _ hx));have h2:=List.length_pos_iff.2 (h c List.mem_cons_self);rw [List.flatten_cons,List.length_append,List.length_cons];omega
theorem xt{W:List Sg}{R0:List (Pt×List Pt)}(hN:Er W R0):∃U,Rz W U (IF W R0)/\∀s∈W,s∈U:=by
 obtain⟨h,hp⟩:=iQ hN (BD W).length (AjN _);rw [List.take_length]at h hp;exact⟨_,h,fun s hs=>hp s ((Kv W).mem_iff.2 hs)⟩
end Go.Proofs.YtnfedbopbcegjaaGreatDoor
