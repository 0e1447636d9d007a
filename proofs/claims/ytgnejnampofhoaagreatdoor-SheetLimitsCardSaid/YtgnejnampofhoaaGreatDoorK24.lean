/- K24: ShO1 ShO2 ShO3 ShO4 ShO5 ShO6 ShO7 ShO8 ShC1 ShC2. -/
import Derived.Test.YtgnejnampofhoaaGreatDoorK23
set_option maxRecDepth 100000
set_option maxHeartbeats 8000000
namespace Go.Proofs.YtgnejnampofhoaaGreatDoor
open Go.RowKit Kl
theorem Agw(p a b:Pt){k:Nat}(hp:Az k p)(ha:Az k a)(hb:Az k b)(hk:0<k)(hk2:k<=1)(w:World)(hw:Ao w)(bp:Nat)(Aw:w.heap[bp]?=some (.cells #[S (R p.x),S (R p.y)] 27)) :
  Calls Tryz.prog 265 #[Ak a,Ak b,.pointer (some ⟨bp,0,none⟩)] w (AK (Dl p a b) w):=by
 have c1:=xO p a hp ha hk hk2;have c2:=xO p b hp hb hk hk2;have c3:=KT p a b hp ha hb hk hk2;have hE:=((Ac.refl w).alloc (.cells #[S (R a.x),S (R a.y)] 27)).alloc (.cells #[S (R b.x),S (R b.y)] 27)
 have hA:(w.alloc (.cells #[S (R a.x),S (R a.y)] 27)).alloc (.cells #[S (R b.x),S (R b.y)] 27) |>.heap[w.heap.size]?=some (.cells #[S (R a.x),S (R a.y)] 27):=(Below.heap_alloc _ _ _ (by simp)).trans (Ajy w _)
 have hB:=Ajy (w.alloc (.cells #[S (R a.x),S (R a.y)] 27)) (.cells #[S (R b.x),S (R b.y)] 27);rw [Aj6]at hB;have hP:=(hE.block bp (Ajx Aw)).trans Aw
 have hr:Dl p a b=if BO p a-BO p b≠0 then BO p a-BO p b else -AM (Ar p a b):=rfl
 have l1:=RU p a;have l2:=RU p b;have l3:=Pz (Ar p a b);obtain⟨x,hx0⟩:=Ajv (BO p a);obtain⟨y,DT⟩:=Ajv (BO p b);obtain⟨z,hz0⟩:=Ajv (AM (Ar p a b));rw [←hx0]at c1 l1;rw [←DT]at c2 l2;rw [←hz0]at c3 l3;rw [←hx0,←DT,←hz0]at hr
 have w1:IntKind.i64.wrap (x-y)=x-y:=by rcases l1 with rfl|rfl<;>rcases l2 with rfl|rfl<;>rfl
 have w2:IntKind.i64.wrap (-z) = -z:=by
  obtain rfl|rfl|rfl:z = -1∨z=0∨z=1:=by omega
  all_goals rfl
 obtain⟨r,FS⟩:=Ajv (if x-y≠0 then x-y else -z:Int);rw [←FS]at hr;rw [hr]
 have Sc:∀(b o:Nat) (w:World),w.cell? ⟨b,o,none⟩=some (.int .i64 (x-y))→w.cell? ⟨b,o+1,none⟩=some (.int .i64 (-z))→Calls Tryz.prog 144 #[.slice (some ⟨b,o,none⟩) 2 2] w (AK r w):=by intro b o w h1 h2;rw [FS];exact bJ (x-y) (-z) b o w h1 h2
 unfold Ak at c1 c2 c3 ⊢;clear hr hx0 DT hz0 FS hp ha hb l1 l2 l3 Aw;go_enter Tryz.func265,Tryz.ntmps265
 go_upto_region 1 with fail
 generalize (w.alloc (.cells #[S (R a.x),S (R a.y)] 27)).alloc (.cells #[S (R b.x),S (R b.y)] 27)=V at *;obtain⟨ba,Av⟩:=Ajv w.heap.size;rw [←Av]at hA hB ⊢;clear Av;have hV:=hw.ext hE
 have SO:∀w',Ac V w'→(w'.cell? ⟨bp,0,none⟩=some (S (R p.x))/\w'.cell? ⟨bp,1,none⟩=some (S (R p.y))/\w'.cell? ⟨ba,0,none⟩=some (S (R a.x))/\w'.cell? ⟨ba,1,none⟩=some (S (R a.y))/\w'.cell? ⟨ba+1,0,none⟩=some (S (R b.x))/\w'.cell? ⟨ba+1,1,none⟩=some (S (R b.y))):=fun w' h=>⟨h.cellS (Aa hP rfl),h.cellS (Aa hP rfl),h.cellS (Aa hA rfl),h.cellS (Aa hA rfl),h.cellS (Aa hB rfl),h.cellS (Aa hB rfl)⟩
 have X0:Ac V V.drew:=(Ac.refl V).drew;clear hA hB hP
 go_region_held3 (fun w'=>w'.cell? ⟨bp,0,none⟩=some (S (R p.x))/\w'.cell? ⟨bp,1,none⟩=some (S (R p.y))/\w'.cell? ⟨ba,0,none⟩=some (S (R a.x))/\w'.cell? ⟨ba,1,none⟩=some (S (R a.y))/\w'.cell? ⟨ba+1,0,none⟩=some (S (R b.x))/\w'.cell? ⟨ba+1,1,none⟩=some (S (R b.y)))
  (first|with_reducible exact SO _ X0|with_reducible exact SO _ X5|with_reducible exact SO _ X6|with_reducible exact SO _ X7|with_reducible exact SO _ (X7.alloc _)|with_reducible exact SO _ X8)
  (first|((with_reducible refine(c1 _ (hV.ext X0)).mono ?_);rintro e w5 ⟨rfl,AE⟩;have X5:Ac V w5:=X0.trans AE)|((with_reducible refine(c2 _ (hV.ext X5)).mono ?_);rintro e w6 ⟨rfl,AU⟩;have X6:Ac V w6:=X5.trans AU)|((with_reducible refine(c3 _ (hV.ext X6)).mono ?_);rintro e w7 ⟨rfl,AL⟩;have X7:Ac V w7:=X6.trans AL;have De:=Ajy w7 (.cells #[.int .i64 (x-y),.int .i64 (-z)] 3);have g0:=Aa (o:=0) De rfl;have g1:=Aa (o:=1) De rfl;clear De)|((with_reducible refine(Sc w7.heap.size 0 _ g0 g1).mono ?_);rintro e w8 ⟨rfl,AX⟩;have X8:Ac V w8:=(X7.alloc _).trans AX))
 go_wp2;go_ret;exact⟨rfl,hE.trans X8⟩
section
open Go.Sort Go.Shelf
structure PZ(p:Pt)(l:List Pt):Prop where
 sz:∀q∈l,Az 1 q
 ne:∀q∈l,q≠p
 ap:∀a∈l,∀b∈l,Dl p a b=0→a=b
abbrev IW(l:List Pt):={q:Pt // q∈l}
def CV(p:Pt)(l:List Pt):List Pt:=l.mergeSort (fun a b=>!decide (Dl p b a<0))
theorem Su(p:Pt)(l:List Pt):(CV p l).Perm l:=List.mergeSort_perm _ _
def MQ(p:Pt)(l:List Pt)(a b:IW l):Int:=Dl p a.1 b.1
theorem Qp{p:Pt}{l:List Pt}(x y:IW l):ltOf (MQ p l) x y=decide (Dl p x.1 y.1<0):=rfl
theorem xf(p a:Pt):Dl p a a=0:=(lC p a a).2 ⟨rfl,qf p a⟩
theorem Agg(q:Rat):AM (-q) = -AM q:=by unfold AM;grind
theorem wz(p a b:Pt):Dl p b a = -Dl p a b:=by
 unfold Dl;rw [WP,Agg]
 split<;>split<;>omega
theorem lD{p:Pt}{l:List Pt}(h:PZ p l):SWO (ltOf (MQ p l)) where
 irrefl x:=by rw [Qp,decide_eq_false_iff_not,xf];omega
 trans x y z h1 h2:=by rw [Qp,decide_eq_true_iff]at *;exact xk (h.ne _ x.2) (h.ne _ y.2) (h.ne _ z.2) h1 h2
 ntrans x y z h1 h2:=by rw [Qp,decide_eq_false_iff_not]at *;exact xi (h.ne _ x.2) (h.ne _ y.2) (h.ne _ z.2) h1 h2
theorem xj{p:Pt}{l:List Pt}(h:PZ p l)(x y:IW l)(h1:ltOf (MQ p l) x y=false)(h2:ltOf (MQ p l) y x=false):x=y:=by
 rw [Qp,decide_eq_false_iff_not]at h1 h2;have:=wz p x.1 y.1;exact Subtype.ext (h.ap _ x.2 _ y.2 (by omega))
def LC{l:List Pt}(q:IW l):List Value:=[S (R q.1.x),S (R q.1.y)]
theorem Xt{l:List Pt}(q:IW l):(LC q).length=2:=rfl
theorem yj{l:List Pt}(q:IW l):∀v∈LC q,v.oneCell'=true:=by
 intro v hv;simp only [LC,List.mem_cons,AjA,or_false]at hv
 rcases hv with rfl|rfl<;>rfl
theorem lO{l:List Pt}(m:List (IW l)):m.flatMap LC=flat (Ai (m.map (·.1))):=by
 induction m with
 | nil=>rfl
 | cons x m ih=>
  rw [List.flatMap_cons,ih]
  rfl
theorem xh{p:Pt}{l:List Pt}(h:PZ p l)(hp:Az 1 p)[Inhabited (IW l)]{w0 w:World}(hw:Ao w0)(hx:Ac w0 w){blk bp:Nat}(hb:w0.heap.size<=blk)(Aw:w.heap[bp]?=some (.cells #[S (R p.x),S (R p.y)] 27))(hne:bp≠blk)(off size:Nat) :
  CmpLays Tryz.prog 265 #[.pointer (some ⟨bp,0,none⟩)] LC 2 (MQ p l) blk off size w:=by
 refine aG fun W hg x y=>?_;have hbW:=(hg.block bp (Ajx Aw) (by intro e;cases e;exact hne rfl)).trans Aw;exact Agw p x.1 y.1 hp (h.sz _ x.2) (h.sz _ y.2) (by omega) (by omega) W (hw.ext (Qu hx hg hb)) bp hbW
theorem Agx{p:Pt}{l:List Pt}(h:PZ p l)(hp:Az 1 p)(hl:l≠[])(hlen:l.length<100000){w0 w:World}(hw:Ao w0)(hx:Ac w0 w){v:Value}(hv:w.ownsRow w0.heap.size 27 2 v l.length (flat (Ai l)))
  {bp:Nat} (Aw:w.heap[bp]?=some (.cells #[S (R p.x),S (R p.y)] 27)) (hne:v.ownBlock≠some bp) :
  Calls Tryz.prog 207 #[v,.func (.func 265) #[] #[.pointer (some ⟨bp,0,none⟩)]] w fun e w'=>
   e=.returned (.tuple #[])/\w.grownBy w' v.ownBlock/\w'.ownsRow w0.heap.size 27 2 v l.length (flat (Ai (CV p l))):=by
 obtain⟨q0,Bc⟩:=List.exists_mem_of_ne_nil l hl
 haveI:Inhabited (IW l):=⟨⟨q0,Bc⟩⟩
 obtain⟨d,hd⟩:=Ajv (l.attach.toArray:Array (IW l));have DJ:d.size=l.length:=(by rw [hd];simp);have qL:d.toList.map (·.1)=l:=by rw [hd];simp
 have hv':w.ownsRow w0.heap.size 27 2 v d.size (d.toList.flatMap LC):=by rw [lO,qL,DJ];exact hv
 have Cl:0<d.size:=(by rw [DJ];exact List.length_pos_iff.2 hl);obtain⟨g,cap,rfl,hgb,Ri,hH,hown⟩:=Zz Xt (by omega) hv' Cl;have eg:∀args w,(callFunc 265 args).run Tryz.prog w=.ok (.enter 265 args) w:=enters_of Tryz.func265 (by kernel_rfl) rfl;have hbg:bp≠g:=(by intro e;rw [e]at hne;exact hne rfl);refine(AnyQ.slices_SortFunc Tryz.laysSortPt 2 Tryz.isAgg27 Tryz.sizeOf27 LC Xt yj (MQ p l) (lD h) 265 #[.pointer (some ⟨bp,0,none⟩)] g 0 cap d w eg (xh h hp hw hx hgb Aw hbg 0 d.size) hH Ri (by omega)).mono ?_;rintro e w' ⟨he,d',n,os,h1,h2,rfl⟩;have hu:=sorted_unique_holds (lt:=ltOf (MQ p l)) (lD h) (xj h) d d' h1 h2;have hsz:d'.size=d.size:=(by have:=congrArg List.length hu;simpa using this);refine⟨he,Oq LC 2 w g 0 n d' os,?_⟩;have ho:=Sf (Xt (l:=l)) (by omega) hv' hsz n os;rw [lO]at ho
 have hm:d'.toList.map (·.1)=CV p l:=by rw [hu];unfold CV;rw [List.map_mergeSort (s:=fun a b=>!decide (Dl p b a<0)) (fun a _ b _=>by rw [Qp]),qL]
 rw [hm,DJ]at ho;rw [DJ];exact ho
end
section
open Go.ChangeMaps (setBlock)
def Hb(R0:List (Pt×List Pt))(seen:List Nat):List (Pt×List Pt):=R0.mapIdx fun i e=>if i∈seen then (e.1,CV e.1 e.2)else e
theorem NF(R0:List (Pt×List Pt))(seen:List Nat):(Hb R0 seen).length=R0.length:=by simp [Hb]
theorem Pw(R0:List (Pt×List Pt))(seen:List Nat){i:Nat}(h:i<R0.length)(h':i<(Hb R0 seen).length):(Hb R0 seen)[i]=if i∈seen then (R0[i].1,CV R0[i].1 R0[i].2)else R0[i]:=by
 simp [Hb]
theorem AfB(R0:List (Pt×List Pt)):Hb R0 []=R0:=by
 apply List.ext_getElem
 ·exact NF _ _
 ·intro i h1 h2;rw [Pw R0 [] h2 h1,if_neg (by simp)]
theorem AfA(R0:List (Pt×List Pt)){seen:List Nat}(h:∀i,i<R0.length→i∈seen):Hb R0 seen=R0.map (fun e=>(e.1,CV e.1 e.2)):=by
 apply List.ext_getElem
 ·rw [NF];simp
 ·intro i h1 h2;have h3:i<R0.length:=(by simpa using h2);rw [Pw R0 seen h3 h1,if_pos (h i h3)];simp
theorem AfC(R0:List (Pt×List Pt))(seen:List Nat){i:Nat}(hi:i<R0.length)(hn:i∉seen)(h':i<(Hb R0 seen).length):Hb R0 (seen ++ [i])=(Hb R0 seen).set i ((Hb R0 seen)[i].1,CV R0[i].1 R0[i].2):=by
 apply List.ext_getElem
 ·rw [List.length_set,NF,NF]
 ·intro j h1 h2;have hj:j<R0.length:=(by rw [NF]at h1;exact h1);rw [Pw R0 _ hj h1];by_cases Bl:i=j
  ·subst Bl;rw [List.getElem_set_self,Pw R0 seen hj h',if_pos (by simp),if_neg hn]
  ·rw [List.getElem_set_ne Bl,Pw R0 seen hj (by rw [NF];exact hj)];have:j∈seen ++ [i]↔j∈seen:=(by simp;intro e;exact absurd e.symm Bl);simp only [this]
theorem Br.other{B:Nat}{W W':World}{r b1 b2:Nat}{L:List (Sg×Int)}{E:List (Pt×Value×Nat)}{R0:List (Pt×List Pt)}(h:Br B W r b1 b2 L E R0){k:Nat}{o:Obj}(hg:W.grownBy W' (some k))(ho:W.heap[k]?=some o)
  (hc:∀cs e,o≠.cells cs e (0,0)) (hm:∀es c,o≠.map es c):Br B W' r b1 b2 L E R0:=by
 have far:∀(j:Nat) (o':Obj),W.heap[j]?=some o'→o'≠o→W'.heap[j]?=some o':=by intro j o' hj hne;refine(hg.block j (Ajx hj) ?_).trans hj;intro e;simp only [Aj3]at e;subst e;rw [hj]at ho;simp only [Aj3]at ho;exact hne ho
 refine⟨far _ _ h.cell (fun e=>hc _ _ e.symm),far _ _ h.left (fun e=>hm _ _ e.symm),⟨far _ _ h.ar.blk (fun e=>hm _ _ e.symm),h.ar.len,fun i hi hi'=>⟨(h.ar.row i hi hi').1,(h.ar.row i hi hi').2.1,(h.ar.row i hi hi').2.2.kept hg ?_⟩,h.ar.apart,h.ar.own⟩,h.r0,h.r1,h.ne⟩
 rcases(h.ar.row i hi hi').2.2.2 with⟨hv,_⟩|⟨g,cap,cur,hv,_,hgb,_⟩
 ·left;rw [hv];rfl
 ·right
  rw [hv];simp only [Value.ownBlock,ne_eq,Aj3];intro e;subst e;rw [hgb]at ho;simp only [Aj3]at ho;exact hc _ _ ho.symm
theorem Br.sorted{B:Nat}{W W':World}{r b1 b2:Nat}{L:List (Sg×Int)}{E:List (Pt×Value×Nat)}{R0:List (Pt×List Pt)}(h:Br B W r b1 b2 L E R0){i:Nat}(hi:i<E.length)(hi':i<R0.length){l':List Pt}(hl:l'.length=R0[i].2.length)
  (hg:W.grownBy W' E[i].2.1.ownBlock) (ho:W'.ownsRow B 27 2 E[i].2.1 R0[i].2.length (flat (Ai l'))):Br B W' r b1 b2 L E (R0.set i (R0[i].1,l')):=by
 have far:∀(j:Nat) (o':Obj),W.heap[j]?=some o'→(∀cs,o'≠.cells cs 27 (0,0))→W'.heap[j]?=some o':=by
  intro j o' hj hne;refine(hg.block j (Ajx hj) ?_).trans hj;intro e
  rcases(h.ar.row i hi hi').2.2.2 with⟨hv,_⟩|⟨g,cap,cur,hv,_,hgb,_⟩
  ·rw [hv]at e;simp [Value.ownBlock]at e
  ·rw [hv]at e;simp only [Value.ownBlock,Aj3]at e;subst e;rw [hgb]at hj;simp only [Aj3]at hj;exact hne _ hj.symm
 refine⟨far _ _ h.cell (fun cs e=>by cases e),far _ _ h.left (fun cs e=>by cases e),⟨far _ _ h.ar.blk (fun cs e=>by cases e),by rw [List.length_set];exact h.ar.len,fun j hj hj'=>?_,h.ar.apart,h.ar.own⟩,h.r0,h.r1,h.ne⟩;have Mf:j<R0.length:=(by rw [List.length_set]at hj';exact hj');by_cases Bl:i=j
 ·subst Bl;rw [List.getElem_set_self];refine⟨(h.ar.row i hi hi').1,(h.ar.row i hi hi').2.1,?_⟩;simp only [hl];exact ho
 ·rw [List.getElem_set_ne Bl];exact⟨(h.ar.row j hj Mf).1,(h.ar.row j hj Mf).2.1,(h.ar.row j hj Mf).2.2.kept hg (h.ar.apart j i hj hi (fun e=>Bl e.symm))⟩
structure fZ(R0:List (Pt×List Pt)):Prop where
 row:∀e∈R0,PZ e.1 e.2
 sz:∀e∈R0,Az 1 e.1
 ne:∀e∈R0,e.2≠[]
 len:∀e∈R0,e.2.length<100000
theorem BH.iter{b2:Nat}{w a b:World}{it:Nat}(h:BH b2 w a)(hg:a.grownBy b (some it))(hi:w.heap.size<=it):BH b2 w b:=by
 refine⟨Aj9 h.1 hg.size,fun k o h1 h2 h3=>?_⟩;have h4:=h.2 k o h1 h2 h3;have:=Ajx h1;exact(hg.block k (Ajx h4) (by simp;omega)).trans h4
theorem BH.row{b2:Nat}{w a b:World}{v:Value}{B n:Nat}{xs:List Value}(h:BH b2 w a)(hg:a.grownBy b v.ownBlock)(ho:a.ownsRow B 27 2 v n xs):BH b2 w b:=by
 refine⟨Aj9 h.1 hg.size,fun k o h1 h2 h3=>?_⟩;have h4:=h.2 k o h1 h2 h3;refine(hg.block k (Ajx h4) ?_).trans h4;intro e
 rcases ho.2 with⟨hv,_⟩|⟨g,cap,cur,hv,_,hgb,_⟩
 ·rw [hv]at e;simp [Value.ownBlock]at e
 ·rw [hv]at e;simp only [Value.ownBlock,Aj3]at e;subst e;rw [hgb]at h4;simp only [Aj3]at h4;exact h3 _ h4.symm
theorem Agc{n:Nat}{seen:List Nat}(Ci:seen.Nodup)(hlt:∀i∈seen,i<n)(hlen:seen.length=n):∀i,i<n→i∈seen:=by
 intro i hi;refine Classical.byContradiction fun hn=>?_;have h1:(i::seen).Nodup:=List.nodup_cons.2 ⟨hn,Ci⟩
 have h2:(i::seen) ⊆ List.range n:=by
  intro j hj
  rcases List.mem_cons.1 hj with rfl|hj
  ·simpa using hi
  ·simpa using hlt j hj
 have:=h1.length_le_of_subset h2;simp at this;omega
theorem sort_c{w0 w:World}(hw:Ao w0)(hx:Ac w0 w){r b1 b2:Nat}{L:List (Sg×Int)}{E:List (Pt×Value×Nat)}{R0:List (Pt×List Pt)}(h:Br w0.heap.size w r b1 b2 L E R0)(hR:fZ R0) :
  Calls Tryz.prog 191 #[.pointer (some ⟨r,0,none⟩)] w fun e w'=>e=.returned (.tuple #[])/\Ac w0 w'/\BH b2 w w'/\Br w0.heap.size w' r b1 b2 L E (R0.map (fun e=>(e.1,CV e.1 e.2))):=by
 have n1:=Aa (o:=1) h.cell rfl;obtain⟨hr1,hr2⟩:=CG.range (enc:=Ak) (E:=E) (t:=163) Tryz.underlying163 (W:=w) (b:=b2) h.ar.blk;have Gn:=hx.alloc (.mapIter (some b2) E.length #[] E.length);have hS1:BH b2 w (w.alloc (.mapIter (some b2) E.length #[] E.length)):=BH.of_ext ((Ac.refl w).alloc _);have Gg:=h.ext ((Ac.refl w).alloc (.mapIter (some b2) E.length #[] E.length));have HR:=Ajw hR;have Dc:=h.ar.len;have hst:∀i (h':i<E.length),E[i].2.2=i:=fun i hi=>(h.ar.row i hi (by rw [←Dc];exact hi)).2.1;have hit:w.heap.size<=w.heap.size:=Ajz _;have hB:=hx.size;have hlt2:=h.ar.lt;have HST:=Ajw hst;have NQ:=Ajw Dc;clear hst hR Dc;go_enter Tryz.func191,Tryz.ntmps191
 go_upto_region 1 with fail
 generalize w.alloc (.mapIter (some b2) E.length #[] E.length)=V at *;obtain⟨it,Rj⟩:=Ajv w.heap.size;have Abm:w.heap.size<=it:=(by omega);rw [←Rj]at hr2 ⊢;clear hr1 Rj hit h n1
 go_loopw [3] (fun _ wr=>∃(seen:List Nat),CG wr it b2 E seen/\Ac w0 wr/\BH b2 w wr/\Br w0.heap.size wr r b1 b2 L E (Hb R0 seen)) (fun _ wr=>E.length-(wr.iterSeen it).size)
 case atStart=>exact⟨[],hr2,Gn,hS1,by rw [AfB];exact Gg⟩
 case round=>
  obtain⟨seen,hI,BQ,LN,Oz⟩:=hrel
  rcases CG.next Ak hI Oz.ar.blk HST.out (by omega) 0 with⟨hlen,hrun⟩|⟨i,hi,Gu,W1,Eo,hG1,hs1,hrun,hen⟩
  ·have hall:=AfA R0 (Agc hI.nd (by rw [←NQ.out];exact hI.lt) (by rw [←NQ.out];exact hlen));rw [hall]at Oz;have HN:=Ajw Oz;clear Oz hI;go_wp2
   go_end0
   exact⟨rfl,BQ,LN,HN.out⟩
  ·have Kt:i<R0.length:=(by rw [←NQ.out];exact hi);have Ut:i<(Hb R0 seen).length:=(by rw [NF];exact Kt);have EG:=Eu hI
   have hlen':seen.length<E.length:=by
    have h2:(i::seen) ⊆ List.range E.length:=by
     intro j hj
     rcases List.mem_cons.1 hj with rfl|hj
     ·simpa using hi
     ·simpa using hI.lt j hj
    have:=(List.nodup_cons.2 ⟨Gu,hI.nd⟩).length_le_of_subset h2;simp at this;omega
   have Ce:Ac w0 W1:=Qu BQ hG1 (by omega);have oI:=LN.iter hG1 Abm;have Ji:=Oz.other hG1 hI.it (fun _ _ e=>by cases e) (fun _ _ e=>by cases e);have Gq:=hen W1 rfl rfl;have hrow:=Ji.ar.row i hi Ut;have Ec:=Pw R0 seen Kt Ut;rw [if_neg Gu]at Ec;have hkey:E[i].1=R0[i].1:=(by rw [hrow.1,Ec]);have hown:=hrow.2.2;rw [Ec]at hown;have Ap:=HR.out.row R0[i] (Aj0 Kt);have R2:=HR.out.sz R0[i] (Aj0 Kt);have I9:=HR.out.ne R0[i] (Aj0 Kt);have Ed:=HR.out.len R0[i] (Aj0 Kt);have Fo:=AfC R0 seen Kt Gu Ut;obtain⟨v,hv⟩:=Ajv (E[i].2.1);obtain⟨p,hp⟩:=Ajv (R0[i].1);obtain⟨l,hl⟩:=Ajv (R0[i].2);rw [hkey,←hp,←hv]at Gq;rw [hkey,←hp,←hv]at hrun;rw [←hv,←hl]at hown;rw [←hp,←hl]at Ap Fo;rw [←hp]at R2;rw [←hl]at I9 Ed;have C2:=Ajy W1 (.cells #[S (R p.x),S (R p.y)] 27);have E3:=(Ac.refl W1).alloc (.cells #[S (R p.x),S (R p.y)] 27);have BL:=Ce.trans E3;have Yn:=oI.trans (BH.of_ext E3);have Gh:=Ji.ext E3;have QA:=Eo.keep (E3.block it (Ajx Eo.it))
   have Fj:(W1.alloc (.cells #[S (R p.x),S (R p.y)] 27)).ownsRow w0.heap.size 27 2 v l.length (flat (Ai l)):=hown.kept (Ge E3 none) (by
    rcases hv':v.ownBlock with _|g
    ·exact .inl rfl
    ·exact .inr (by simp))
   have Zq:v.ownBlock≠some W1.heap.size:=by
    rcases hown.2 with⟨e,_⟩|⟨g,cap,cur,e,_,hgb,_⟩
    ·rw [e];simp [Value.ownBlock]
    ·rw [e];have:=Ajx hgb;simp only [Value.ownBlock,ne_eq,Aj3];omega
   have cs:=Agx Ap R2 I9 Ed hw BL Fj C2 Zq;have HV:=Ajw hv;have HL:=Ajw (And.intro hl Ec);have Lq:=Ajw Fo;clear hen hrow hkey hown Ap R2 I9 Ed C2 Ji Ce oI Oz BQ LN hI Eo hv hp hl Ec Fo hG1 E3;unfold Ak at Gq hrun
   go_upto_region 3 with fail
   unfold S at BL Yn Gh QA Fj cs;rw [hs1]at cs;generalize (W1.alloc (.cells #[.string ⟨(R p.x).toArray⟩,.string ⟨(R p.y).toArray⟩] 27))=W3 at *;(go_wp2_with fail);(with_reducible refine cs.mono ?_);rintro e W4 ⟨rfl,hg4,Fi⟩
   have Dx:=QA.keep (hg4.block it (Ajx QA.it) (by
    intro e
    rcases Fj.2 with⟨e2,_⟩|⟨g,cap,cur,e2,_,hgb,_⟩
    ·rw [e2]at e;simp [Value.ownBlock]at e
    ·rw [e2]at e;simp only [Value.ownBlock,Aj3]at e;subst e;have:=QA.it;rw [hgb]at this
     cases this))
   have Hv:Ac w0 W4:=BL.grownOwn hg4 Fj (Ajz _);have hS4:=Yn.row hg4 Fj;have GN:=Gh.sorted hi Ut (l':=CV p l) (by rw [HL.out.2,←HL.out.1];exact(Su p l).length_eq) (by rw [←HV.out];exact hg4) (by rw [←HV.out,HL.out.2,←HL.out.1];exact Fi);rw [←Lq.out]at GN;have jl:=Ajw GN;clear GN Gh Fj Fi hg4 cs QA BL Yn;go_wp2;go_roundw
   case rel=>exact⟨seen ++ [i],Dx,Hv,hS4,jl.out⟩
   case measure=>rw [EG,Eu Dx,List.length_append,List.length_singleton];omega
end
section
open Go.ChangeMaps (setBlock)
section
variable {α : Type} {enc : α → Value} {same : α → α → Bool}
theorem cY{mt kt et:TypeId}{z:Value}(K:IV mt kt et z enc same)(k:α)(l:List (α×Value×Nat))(hno:∀e∈l,same k e.1=false)(v:Value){b clock:Nat}{W:World}(hb:W.heap[b]?=some (.map (AH enc l).toArray clock)) :
  (Instr.mapUpdate mt (.map (some b)) (enc k) v).run Tryz.prog W=.ok () (setBlock W b (.map (AH enc (l ++ [(k,v,clock)])).toArray (clock+1))):=by
 have hf:=Qw K k l W
 have hi:EH same k l=none:=by unfold EH;rw [List.findIdx?_eq_none_iff];exact hno
 rw [hi]at hf;simp only [Option.bind_none]at hf
 have e0:AH enc l ++ [{key:=enc k,val:=v,born:=clock}]=AH enc (l ++ [(k,v,clock)]):=by simp [AH]
 simp [Instr.mapUpdate,run_underlying K.map,MapKept.run_getObj_map hb,K.chk,hf,MapKept.run_setObj_map _ hb,Result.andThen,setBlock,e0]
end
theorem uR:IV 318 175 4 (.bool false) AC AN where
 map:=Tryz.underlying318
 st:=⟨_,Tryz.underlying175⟩
 zero:=fun W=>by simp [go_sem]
 eq:=lS
 chk:=jR
 iff:=Hd
 bits:=fun x=>by unfold AC;simp [Instr.sameBits,beq_toListBytes]
def IM(L:List (Sg×Value)):List (Sg×Value×Nat):=L.mapIdx fun i e=>(e.1,e.2,i)
theorem Ag8(L:List (Sg×Value))(e:Sg×Value):IM (L ++ [e])=IM L ++ [(e.1,e.2,L.length)]:=by simp [IM,List.mapIdx_append]
theorem Ag7{L:List (Sg×Value)}{x:Sg×Value×Nat}(h:x∈IM L):∃e∈L,x.1=e.1/\x.2.1=e.2:=by
 unfold IM at h;rw [List.mem_mapIdx]at h;obtain⟨i,hi,rfl⟩:=h;exact⟨L[i],Aj0 hi,rfl,rfl⟩
def UN(z:Value)(k:Sg)(L:List (Sg×Value)):Value:=match L.find? (fun e=>AN k e.1)with|some e=>e.2|none=>z
theorem Ads(z:Value)(k:Sg)(L:List (Sg×Value)):EJ AN z k (IM L)=UN z k L:=by
 have h:∀(L:List (Sg×Value)) (n:Nat),(L.mapIdx fun i e=>(e.1,e.2,i+n)).find? (fun e=>AN k e.1)=(L.findIdx? (fun e=>AN k e.1)).bind fun j=>(L[j]?).map fun e=>(e.1,e.2,j+n):=by
  intro L
  induction L with
  | nil=>intro n;simp
  | cons e L ih=>
   intro n;rw [List.mapIdx_cons,List.find?_cons,List.findIdx?_cons];simp only
   cases hb:AN k e.1
   ·simp only;have:=ih (n+1)
    have e1:(L.mapIdx fun i e=>(e.1,e.2,i+1+n))=L.mapIdx fun i e=>(e.1,e.2,i+(n+1)):=by congr 1;funext i e;rw [show i+1+n=i+(n+1)by omega]
    rw [e1,this]
    cases L.findIdx? (fun e=>AN k e.1)with
    | none=>simp
    | some j=>
     simp only [Bool.false_eq_true,if_false,Option.map_some,Option.bind_some,List.getElem?_cons_succ]
     congr 1;funext e;rw [show j+(n+1)=j+1+n by omega]
   ·simp
 have h2:∀(L:List (Sg×Value)),L.find? (fun e=>AN k e.1)=(L.findIdx? (fun e=>AN k e.1)).bind fun j=>L[j]?:=by
  intro L
  induction L with
  | nil=>simp
  | cons e L ih=>
   rw [List.find?_cons,List.findIdx?_cons]
   cases hb:AN k e.1
   ·simp only [ih]
    cases L.findIdx? (fun e=>AN k e.1)<;>simp
   ·simp
 unfold EJ UN IM;have h0:=h L 0;simp only [Nat.add_zero]at h0;rw [h0,h2]
 cases L.findIdx? (fun e=>AN k e.1)with
 | none=>rfl
 | some j=>
  simp only [Option.bind_some]
  cases L[j]?<;>rfl
def Im(U:List Sg):List (Sg×Value):=U.map fun s=>(s,.bool true)
def DF(W:World)(b:Nat)(U:List Sg):Prop:=W.heap[b]?=some (.map (AH AC (IM (Im U))).toArray U.length)
theorem Adu(k:Sg)(U:List Sg):UN (.bool false) k (Im U)=.bool (U.any (AN k)):=by
 induction U with
 | nil=>rfl
 | cons u U ih=>
  unfold UN Im at *;rw [List.map_cons,List.find?_cons,List.any_cons]
  cases hb:AN k u
  ·simp only [Bool.false_or];exact ih
  ·simp
theorem DF.look{W:World}{b:Nat}{U:List Sg}(h:DF W b U)(s:Sg):(Instr.lookup 318 (.map (some b)) (AC s) false).run Tryz.prog W=.ok (.bool (U.any (AN s))) W:=by
 rw [Px uR s (IM (Im U)) h,Ads,Adu]
theorem DF.put{W:World}{b:Nat}{U:List Sg}(h:DF W b U)(s:Sg)(hno:U.any (AN s)=false) :
  ∃W',(Instr.mapUpdate 318 (.map (some b)) (AC s) (.bool true)).run Tryz.prog W=.ok () W'/\DF W' b (U ++ [s])/\W.grownBy W' (some b)/\W'.heap.size=W.heap.size:=by
 refine⟨_,cY uR s (IM (Im U)) ?_ (.bool true) h,?_,Kc h,by simp [setBlock]⟩
 ·intro e he;obtain⟨x,hx,h1,_⟩:=Ag7 he;unfold Im at hx;rw [List.mem_map]at hx;obtain⟨u,hu,rfl⟩:=hx;rw [h1];rw [List.any_eq_false]at hno
  simpa using hno u hu
 ·unfold DF;rw [KY h];have e1:Im (U ++ [s])=Im U ++ [(s,.bool true)]:=(by simp [Im]);have e2:(Im U).length=U.length:=(by simp [Im]);rw [e1,Ag8,e2];simp
structure Ax(K:Nat→Prop)(w w':World):Prop where
 os:w'.os=w.os
 tape:w'.tape=w.tape
 output:w'.output=w.output
 size:w.heap.size<=w'.heap.size
 block:∀k,k<w.heap.size→¬K k→w'.heap[k]?=w.heap[k]?
theorem Ax.refl(K:Nat→Prop)(w:World):Ax K w w:=⟨rfl,rfl,rfl,Ajz _,fun _ _ _=>rfl⟩
theorem Ax.ext{K:Nat→Prop}{w a b:World}(h:Ax K w a)(hx:Ac a b):Ax K w b:=
 ⟨hx.os.trans h.os,hx.tape.trans h.tape,hx.output.trans h.output,Aj9 h.size hx.size,fun k hk hn=>(hx.block k (Aj8 hk h.size)).trans (h.block k hk hn)⟩
theorem Ax.grown{K:Nat→Prop}{w a b:World}{row:Option Nat}(h:Ax K w a)(hg:a.grownBy b row)(hr:∀k,row=some k→K k∨w.heap.size<=k):Ax K w b:=by
 refine⟨hg.os.trans h.os,hg.tape.trans h.tape,hg.output.trans h.output,Aj9 h.size hg.size,fun k hk hn=>(hg.block k (Aj8 hk h.size) ?_).trans (h.block k hk hn)⟩;intro e
 rcases hr k e.symm with h1|h1
 ·exact hn h1
 ·omega
theorem Ax.own{K:Nat→Prop}{w a b:World}{B:Nat}{e:TypeId}{s n:Nat}{v:Value}{xs:List Value}(h:Ax K w a)(hg:a.grownBy b v.ownBlock)(ho:a.ownsRow B e s v n xs)(hB:w.heap.size<=B):Ax K w b:=
 h.grown hg fun k hk=>.inr (Aj9 hB (ho.lt k hk).1)
theorem Ax.cells{K:Nat→Prop}{w a:World}{k:Nat}{o:Obj}(h:Ax K w a)(hk:w.heap[k]?=some o)(hn:¬K k):a.heap[k]?=some o:=(h.block k (Ajx hk) hn).trans hk
theorem Ax.setCell{K:Nat→Prop}{w a:World}(h:Ax K w a){p:Addr}(hp:K p.block∨w.heap.size<=p.block)(v:Value):Ax K w (a.setCell p v):=by
 refine⟨h.os,h.tape,h.output,by rw [World.size_setCell];exact h.size,fun k hk hn=>?_⟩
 have hne:k≠p.block:=by
  intro e
  rcases hp with hp|hp
  ·exact hn (e▸hp)
  ·omega
 rw [Below.heap_setCell _ _ _ _ hne];exact h.block k hk hn
theorem Ax.toExt{K:Nat→Prop}{w0 w a:World}(h:Ax K w a)(hx:Ac w0 w)(hK:∀k,K k→w0.heap.size<=k):Ac w0 a:=
 ⟨h.os.trans hx.os,h.tape.trans hx.tape,h.output.trans hx.output,Aj9 hx.size h.size,fun k hk=>(h.block k (Aj8 hk hx.size) (fun hh=>by have:=hK k hh;omega)).trans (hx.block k hk)⟩
theorem Ax.trans{K:Nat→Prop}{a b c:World}(h:Ax K a b)(k:Ax K b c):Ax K a c:=
 ⟨k.os.trans h.os,k.tape.trans h.tape,k.output.trans h.output,Aj9 h.size k.size,fun i hi hn=>(k.block i (Aj8 hi h.size) hn).trans (h.block i hi hn)⟩
theorem Tryz.infoStep:(Tryz.prog.info? 175).map (fun i=>(i.zero,i.size,i.bytes))=some (some (.agg #[S [],S [],S [],S []]),4,64):=by kernel_rfl
section
variable {ops : Array Oper} {rest : List Oper} {o : Oper} {a : Act} {Q : Exit → Act → World → Prop}
theorem oz(hgd:o.guard=none)(s x:Operand)(ho:o.op=.call {callee:=.builtin .append,args:=#[s,x],argTypes:=#[180,180]})
  (wN:World) (base:Nat) (v:Value) (n:Nat) (l:List Sg) (hs:a.eval s=v) (hown:wN.ownsRow base 175 4 v n (Cb l)) (hn:n<200000) (d:Sg)
  (g:Nat) (hb:wN.heap[g]?=some (.cells #[S (R d.a.x),S (R d.a.y),S (R d.b.x),S (R d.b.y)] 175)) (hx:a.eval x=.slice (some ⟨g,0,none⟩) 1 1) (hbase:base<=wN.heap.size)
  (h:∀v' w',w'.ownsRow base 175 4 v' (n+1) (Cb (l ++ [d]))→wN.grownBy w' v.ownBlock→wpList Tryz.prog ops Q rest (a.put o.dst v') w') :
  wpList Tryz.prog ops Q (o::rest) a wN:=by
 obtain⟨i0,hi,hz0,hz1,hz2⟩:=info_parts Tryz.infoStep;refine wpList_plain hgd fun K hK=>Sx s x 180 ho 175 i0 _ 4 64 Tryz.underlying180 hi hz0 hz1 hz2 rfl (by omega) (by omega) wN base v n _ hs hown hn g _ hb rfl ?_ hx hbase ?_
 ·intro u hu;simp only [List.mem_cons,AjA,or_false]at hu
  rcases hu with rfl|rfl|rfl|rfl<;>rfl
 ·intro v' w' h1 _ h3;exact hK _ _ (h v' w' (by rw [yW];exact h1) h3)
theorem Tryz.infoSteps:(Tryz.prog.info? 180).map (fun i=>(i.zero,i.size,i.bytes))=some (some (.slice none 0 0),1,24):=by kernel_rfl
theorem appRow(hgd:o.guard=none)(s x:Operand)(ho:o.op=.call {callee:=.builtin .append,args:=#[s,x],argTypes:=#[253,253]})
  (wN:World) (base:Nat) (v:Value) (n:Nat) (vs:List Value) (hs:a.eval s=v) (hown:wN.ownsRow base 180 1 v n vs) (hn:n<200000) (d:Value) (hd:d.oneCell'=true)
  (g:Nat) (hb:wN.heap[g]?=some (.cells #[d] 180)) (hx:a.eval x=.slice (some ⟨g,0,none⟩) 1 1) (hbase:base<=wN.heap.size)
  (h:∀v' w',w'.ownsRow base 180 1 v' (n+1) (vs ++ [d])→wN.grownBy w' v.ownBlock→wpList Tryz.prog ops Q rest (a.put o.dst v') w') :
  wpList Tryz.prog ops Q (o::rest) a wN:=by
 obtain⟨i0,hi,hz0,hz1,hz2⟩:=info_parts Tryz.infoSteps;refine wpList_plain hgd fun K hK=>Sx s x 253 ho 180 i0 _ 1 24 Tryz.underlying253 hi hz0 hz1 hz2 rfl (by omega) (by omega) wN base v n _ hs hown hn g _ hb rfl ?_ hx hbase ?_
 ·intro u hu;simp only [List.mem_cons,AjA,or_false]at hu;rw [hu];exact hd
 ·intro v' w' h1 _ h3;exact hK _ _ (h v' w' h1 h3)
end
end
section
open Go.Sort
def WJ:Code:=Code.region 2 #[{dst:=some 5,op:=Op.alloc 175,type:=0,pos:= "iter.go:51",after:=#[],guard:=none},{dst:=none,op:=Op.store 175 (Operand.tmp 5) (Operand.tmp 7),type:=0,pos:= "iter.go:51",after:=#[{on:=0,ground:=Ground.data},{on:=0,ground:=Ground.phase}],guard:=none}] false
def WM:Code:=Code.block 1 (Code.region 3 #[{dst:=some 8,op:=Op.load 180 (Operand.tmp 2),type:=180,pos:= "iter.go:52",after:=#[],guard:=none},{dst:=some 9,op:=Op.load 175 (Operand.tmp 5),type:=175,pos:= "iter.go:52",after:=#[],guard:=none},{dst:=some 10,op:=Op.buildSlice 180 1 #[(0,Operand.tmp 9)],type:=180,pos:= "iter.go:52",after:=#[{on:=1,ground:=Ground.data}],guard:=none},{dst:=some 11,op:=Op.call {callee:=Callee.builtin Builtin.append,args:=#[Operand.tmp 8,Operand.tmp 10],argTypes:=#[180,180]},type:=180,pos:= "iter.go:52",after:=#[{on:=0,ground:=Ground.data},{on:=2,ground:=Ground.data}],guard:=none},{dst:=none,op:=Op.store 180 (Operand.tmp 2) (Operand.tmp 11),type:=0,pos:= "iter.go:52",after:=#[{on:=3,ground:=Ground.data},{on:=3,ground:=Ground.chain},{on:=0,ground:=Ground.phase},{on:=1,ground:=Ground.phase},{on:=2,ground:=Ground.phase},{on:=3,ground:=Ground.phase}],guard:=none}] false)
def apRec(fn:FuncId)(sv:Value)(Bs D:Nat)(st:LoopState)(pend:Option Code):Loop:=
 {state:=st,pending:=pend,fn,tmps:=#[.slice none 0 0,sv,.pointer (some ⟨Bs,0,none⟩),undef,.slice none 0 0,undef,sv,undef,undef,undef,undef,undef,undef],params:=#[7],assign:=WJ,body:=WM,defers:=D}
structure ApAt(w0:World)(fn:FuncId)(sv:Value)(Bs l D:Nat)(ss:List Sg)(W:World):Prop where
 box:∃v,W.heap[Bs]?=some (.cells #[v] 180 (0,0))/\W.ownsRow w0.heap.size 175 4 v ss.length (Cb ss)
 L:W.heap[l]?=some (.loop (apRec fn sv Bs D .ready none))
 K:W.heap[D]?=some (.deferred (some []))
 below:Below w0.heap.size w0 W
theorem ownsRow_abides{W W':World}{row:Option Nat}{base:Nat}{e:TypeId}{size:Nat}{v:Value}{k:Nat}{xs:List Value}(h:W.ownsRow base e size v k xs)(hg:W.grownBy W' row)
  (hrow:∀r,row=some r→∃o:Obj,W.heap[r]?=some o/\o.isWalk=true):W'.ownsRow base e size v k xs:=by
 refine h.kept hg ?_
 rcases h.2 with⟨rfl,_⟩|⟨g,cap,cur,rfl,_,hgb,_⟩
 ·exact .inl rfl
 ·refine .inr fun e'=>?_;obtain⟨o,ho,hw⟩:=hrow g (by simpa [Value.ownBlock]using e'.symm);rw [hgb]at ho;cases ho;cases hw
theorem ap_abides(w0:World)(fn:FuncId)(sv:Value)(Bs l D B:Nat)(hB:w0.heap.size<=B):AbidesFrom B (ApAt w0 fn sv Bs l D):=fun s W W' row h hg hrow=>by
 have hrow':∀r,row=some r→∃o:Obj,W.heap[r]?=some o/\o.isWalk=true:=fun r e=>(hrow r e).2;obtain⟨v,hv,hr⟩:=h.box
 exact⟨⟨v,(grownBy_keeps hg hrow' hv rfl).trans hv,ownsRow_abides hr hg hrow'⟩,(grownBy_keeps hg hrow' h.L rfl).trans h.L,(grownBy_keeps hg hrow' h.K rfl).trans h.K,
  h.below.grown hg h.below.size (fun k e=>Aj9 hB (hrow k e).1)⟩
theorem grownBy_putObj(W:World)(l:Nat)(o:Obj):W.grownBy (W.putObj l o) (some l):=
 ⟨rfl,rfl,rfl,by simp,fun k _ hk=>World.putObj_heap_other (fun e=>hk (by rw [e]))⟩
theorem grownBy_setCell0(W:World)(b:Nat)(v:Value):W.grownBy (W.setCell ⟨b,0,none⟩ v) (some b):=
 ⟨rfl,rfl,rfl,(KeepsWalks.setCell W _ v).size,fun k _ hk=>Below.heap_setCell _ _ _ k (fun e=>hk (by rw [e]))⟩
theorem ownsRow_ne{W:World}{base:Nat}{e:TypeId}{size:Nat}{v:Value}{k:Nat}{xs:List Value}(h:W.ownsRow base e size v k xs){j:Nat}{o:Obj}(hj:W.heap[j]?=some o)(hno:∀cur,o≠.cells cur e (0,0)) :
  v.ownBlock=none∨v.ownBlock≠some j:=by
 rcases h.2 with⟨rfl,_⟩|⟨g,cap,cur,rfl,_,hgb,_⟩
 ·exact .inl rfl
 ·refine .inr fun e'=>?_;have:g=j:=(by simpa [Value.ownBlock]using e');subst this;rw [hgb]at hj;cases hj;exact hno cur rfl
theorem cell_of_box{W:World}{B:Nat}{v:Value}{t:TypeId}(h:W.heap[B]?=some (.cells #[v] t (0,0))):W.cell? ⟨B,0,none⟩=some v/\W.frozen? ⟨B,0,none⟩=false:=by
 constructor<;>simp [World.cell?,World.frozen?,h]
theorem heap_setCell_box{W:World}{B:Nat}{v:Value}{t:TypeId}(v':Value)(h:W.heap[B]?=some (.cells #[v] t (0,0))):(W.setCell ⟨B,0,none⟩ v').heap[B]?=some (.cells #[v'] t (0,0)):=by
 obtain⟨hlt,hk⟩:=Array.getElem?_eq_some_iff.1 h;show (W.heap.modify B _)[B]?=_;rw [Array.getElem?_eq_getElem (by rw [Array.size_modify];exact hlt),Array.getElem_modify_self,hk]
 rfl
theorem ownsRow_not_walk{W:World}{base:Nat}{e:TypeId}{size:Nat}{v:Value}{k:Nat}{xs:List Value}(h:W.ownsRow base e size v k xs):∀(j:Nat) (o:Obj),v.ownBlock=some j→W.heap[j]?=some o→o.isWalk=false:=by
 intro j o hj ho
 rcases h.2 with⟨rfl,_⟩|⟨g,cap,cur,rfl,_,hgb,_⟩
 ·simp [Value.ownBlock]at hj
 ·have:g=j:=(by simpa [Value.ownBlock]using hj);subst this;rw [hgb]at ho;cases ho;rfl
theorem td(W:World)(a b c d:Value)(t:TypeId):∀(j:Nat) (u:Value),[a,b,c,d][j]?=some u→(W.alloc (.cells #[a,b,c,d] t)).cell? ((⟨W.heap.size,0,none⟩:Addr).add j)=some u:=by
 intro j u hu;rw [Addr.add_lit,Nat.zero_add];refine Aa (Ajy W (.cells #[a,b,c,d] t)) ?_;rw [←Array.getElem?_toList];exact hu
theorem apYield (F : Fence) (m : Nat) (w0 : World) (fn : FuncId) (hfn : F.fn fn) (sv : Value) (Bs l D : Nat) (hBl : Bs ≠ l) (hDl : D ≠ l) (hDB : D ≠ Bs) (h0B : w0.heap.size ≤ Bs) (h0l : w0.heap.size ≤ l)
    (N : Nat) (hN : N ≤ 200000) (ss : List Sg) (x : Sg) (W : World) (h : ApAt w0 fn sv Bs l D ss W) (hlen : ss.length < N) :
    YieldAt F m Tryz.prog l #[AC x] W fun e W' => e = .returned (.bool true) ∧ ApAt w0 fn sv Bs l D (ss ++ [x]) W' ∧ KeepsWalks W W' := by
  have hne : 180 ≠ 175 := by decide
  obtain ⟨i0, hi, hz0, hz1, hz2⟩ := info_parts Tryz.infoStep
  obtain ⟨v, hv, hrow⟩ := h.box
  refine ⟨fn, #[.slice none 0 0, sv, .pointer (some ⟨Bs, 0, none⟩), undef, .slice none 0 0, undef, sv, AC x, undef, undef, undef, undef, undef], WJ, WM, by simpa [apRec] using run_yield (P := Tryz.prog) (args := #[AC x]) h.L rfl, roundIn_of_wpIn hfn ?_⟩
  have hka : KeepsWalks W (W.alloc (.cells #[S (R x.a.x), S (R x.a.y), S (R x.b.x), S (R x.b.y)] 175)) := KeepsWalks.alloc _ _
  have ha := ap_abides w0 fn sv Bs l D W.heap.size h.below.size ss W _ none h (Ge ((Ac.refl W).alloc (.cells #[S (R x.a.x), S (R x.a.y), S (R x.b.x), S (R x.b.y)] 175)) none) (fun r e => by cases e)
  have D6 := Ajy W (.cells #[S (R x.a.x), S (R x.a.y), S (R x.b.x), S (R x.b.y)] 175)
  have Rq : l < W.heap.size := (Array.getElem?_eq_some_iff.1 h.L).1
  unfold WJ
  unfold AC
  gi_wp2_with (rw [Oper.semAt_eq _ _ _ (fun c h => by cases h)]; go_simp; try go_bits)
  obtain ⟨bv, De⟩ := Ajv W.heap.size
  rw [← De] at D6 Rq ⊢
  unfold S at ha D6 hka
  clear De h hv hrow
  generalize Y0 : W.alloc (.cells #[.string ⟨(R x.a.x).toArray⟩, .string ⟨(R x.a.y).toArray⟩, .string ⟨(R x.b.x).toArray⟩, .string ⟨(R x.b.y).toArray⟩] 175) = Wa at *
  clear Y0
  obtain ⟨v, hv, hrow⟩ := ha.box
  have hl : l < Wa.heap.size := (Array.getElem?_eq_some_iff.1 ha.L).1
  have hbr := run_beginRound (P := Tryz.prog) ha.L rfl
  obtain ⟨W2, hW2⟩ : ∃ W2, Wa.putObj l (.loop { apRec fn sv Bs D .ready none with state := .busy }) = W2 := ⟨_, rfl⟩
  rw [hW2] at hbr
  have hg2 : Wa.grownBy W2 (some l) := by rw [← hW2]; exact grownBy_putObj _ _ _
  have hk2 : KeepsWalks Wa W2 := by rw [← hW2]; exact KeepsWalks.putObj _ ha.L rfl
  have hv2 : W2.heap[Bs]? = some (.cells #[v] 180 (0, 0)) := by rw [← hW2]; exact (World.putObj_heap_other hBl).trans hv
  have BM : W2.heap[bv]? = some (.cells #[S (R x.a.x), S (R x.a.y), S (R x.b.x), S (R x.b.y)] 175) := by rw [← hW2]; exact (World.putObj_heap_other (by omega)).trans D6
  have hK2 : W2.heap[D]? = some (.deferred (some [])) := by rw [← hW2]; exact (World.putObj_heap_other hDl).trans ha.K
  have hL2 : W2.heap[l]? = some (.loop { apRec fn sv Bs D .ready none with state := .busy }) := by rw [← hW2]; exact World.putObj_heap_same hl
  have hrow2 : W2.ownsRow w0.heap.size 175 4 v ss.length (Cb ss) := hrow.kept hg2 (ownsRow_ne hrow ha.L (fun cur e => by first | cases e | exact hne (Obj.cells.inj e).2.1))
  have hb2 : Below w0.heap.size w0 W2 := ha.below.grown hg2 ha.below.size (fun k e => by cases e; exact h0l)
  obtain ⟨hc2, hf2⟩ := cell_of_box hv2
  have hBlt : Bs < W2.heap.size := (Array.getElem?_eq_some_iff.1 hv2).1
  have hl2 : l < W2.heap.size := (Array.getElem?_eq_some_iff.1 hL2).1
  have hDlt : D < W2.heap.size := (Array.getElem?_eq_some_iff.1 hK2).1
  have ne_of : ∀ {j : Nat} {o : Obj}, W2.heap[j]? = some o → (∀ cur, o ≠ .cells cur 175 (0, 0)) → some j ≠ v.ownBlock := fun hj hno => by
    rcases ownsRow_ne hrow2 hj hno with e | e
    · rw [e]; simp
    · exact fun e' => e e'.symm
  have q0 := Aa (o := 0) BM rfl
  have q1 := Aa (o := 1) BM rfl
  have q2 := Aa (o := 2) BM rfl
  have q3 := Aa (o := 3) BM rfl
  have Zq : W2.heap.size ≠ l := by omega
  clear hW2 ha hv hrow D6 BM
  refine ⟨W2, hbr, ?_⟩
  unfold WM
  gi_wp2_with (first
    | (gi_at_builtin; refine wpListIn_append_own _ rfl _ _ 180 rfl w0.heap.size 175 i0 (.agg #[S [], S [], S [], S []]) 4 64 Tryz.underlying180 hi hz0 hz1 hz2 rfl (by decide) _ _ _ rfl (hrow2.alloc _) ⟨W2.heap.size, 0, none⟩ 1 1 [S (R x.a.x), S (R x.a.y), S (R x.b.x), S (R x.b.y)] rfl rfl (td _ _ _ _ _ _) (by simp [Value.oneCell']) (by unfold maxLen; omega) (by omega) (by have := hb2.size; simp; omega) ?_; intro v' w3 hown' hg3 hnil3
       have hv3 : w3.heap[Bs]? = some (.cells #[v] 180 (0, 0)) := (hg3.block Bs (by simp; omega) (ne_of hv2 (fun cur e => by first | cases e | exact hne (Obj.cells.inj e).2.1))).trans ((Below.heap_alloc _ _ Bs hBlt).trans hv2)
       obtain ⟨hc3, hf3⟩ := cell_of_box hv3
       obtain ⟨g', cap', cur', rfl, hbase', hgb', hr1, hr2, hr3, hr4⟩ : ∃ g' cap' cur', v' = .slice (some ⟨g', 0, none⟩) (ss.length + 1) cap' ∧ w0.heap.size ≤ g' ∧ w3.heap[g']? = some (.cells cur' 175 (0, 0)) ∧ ss.length + 1 ≤ cap' ∧ cap' ≤ maxLen ∧ cur'.size = cap' * 4 ∧ cur'.toList.take ((ss.length + 1) * 4) = Cb ss ++ [S (R x.a.x), S (R x.a.y), S (R x.b.x), S (R x.b.y)] := by
         rcases hown'.2 with ⟨_, h0⟩ | h'
         · exact absurd h0 (by omega)
         · exact h'
       go_frame)
    | (rw [Oper.semAt_eq _ _ _ (fun c h => by cases h)]; go_simp; try go_bits))
  have hg3' : (W2.alloc (.cells #[S (R x.a.x), S (R x.a.y), S (R x.b.x), S (R x.b.y)] 175)).grownBy w3 v.ownBlock := hg3
  have hL3 : w3.heap[l]? = some (.loop { apRec fn sv Bs D .ready none with state := .busy }) := (hg3'.block l (by simp; omega) (ne_of hL2 (fun cur e => by first | cases e | exact hne (Obj.cells.inj e).2.1))).trans ((Below.heap_alloc _ _ l hl2).trans hL2)
  have hK3 : w3.heap[D]? = some (.deferred (some [])) := (hg3'.block D (by simp; omega) (ne_of hK2 (fun cur e => by first | cases e | exact hne (Obj.cells.inj e).2.1))).trans ((Below.heap_alloc _ _ D hDlt).trans hK2)
  obtain ⟨w4, hw4⟩ : ∃ w4, w3.setCell ⟨Bs, 0, none⟩ (.slice (some ⟨g', 0, none⟩) (ss.length + 1) cap') = w4 := ⟨_, rfl⟩
  rw [hw4]
  have hg4 : w3.grownBy w4 (some Bs) := by rw [← hw4]; exact grownBy_setCell0 _ _ _
  have hv4 : w4.heap[Bs]? = some (.cells #[.slice (some ⟨g', 0, none⟩) (ss.length + 1) cap'] 180 (0, 0)) := by rw [← hw4]; exact heap_setCell_box _ hv3
  have hL4 : w4.heap[l]? = some (.loop { apRec fn sv Bs D .ready none with state := .busy }) := (hg4.block l (Array.getElem?_eq_some_iff.1 hL3).1 (fun e => hBl (by cases e; rfl))).trans hL3
  have hK4 : w4.heap[D]? = some (.deferred (some [])) := (hg4.block D (Array.getElem?_eq_some_iff.1 hK3).1 (fun e => hDB (by cases e; rfl))).trans hK3
  have hrow4 := hown'.kept hg4 (ownsRow_ne hown' hv3 (fun cur e => by first | cases e | exact hne (Obj.cells.inj e).2.1))
  have hl4 : l < w4.heap.size := (Array.getElem?_eq_some_iff.1 hL4).1
  have hb3 : Below w0.heap.size w0 w3 := (hb2.alloc hb2.size _).grown hg3' (by have := hb2.size; simp; omega) (fun k e => (hrow2.lt k e).1)
  have hb4 : Below w0.heap.size w0 w4 := hb3.grown hg4 hb3.size (fun k e => by cases e; exact h0B)
  have hk4 : KeepsWalks W w4 := (hka.trans ((hk2.trans (KeepsWalks.alloc _ _)).trans (KeepsWalks.of_grownBy hg3' (ownsRow_not_walk (hrow2.alloc _))))).trans (by rw [← hw4]; exact KeepsWalks.setCell _ _ _)
  clear hw4
  refine ⟨_, _, run_endRound none hL4, rfl, ⟨⟨_, (World.putObj_heap_other hBl).trans hv4, ?_⟩, World.putObj_heap_same hl4, (World.putObj_heap_other hDl).trans hK4, hb4.grown (grownBy_putObj _ _ _) hb4.size (fun k e => by cases e; exact h0l)⟩, hk4.trans (KeepsWalks.putObj _ hL4 rfl)⟩
  have := hrow4.kept (grownBy_putObj w4 l (.loop { { apRec fn sv Bs D .ready none with state := .busy } with state := if (none : Option Code).isNone then .ready else .done, pending := none })) (ownsRow_ne hrow4 hL4 (fun cur e => by first | cases e | exact hne (Obj.cells.inj e).2.1))
  rw [yW]
  simpa using this
end
section
open Go.Sort
theorem appendSeq_in(F:Fence)(n:Nat)(h11:F.fn 280)(hro:F.round=none)(hn:2<=n)(g:Nat)(lb:Array Value)(hFg:F.fn g)(eg:∀args w,(callFunc g args).run Tryz.prog w=.ok (.enter g args) w)
  (S:List Sg→Prop) (N:Nat) (hN:N<=200000) (w:World) (hseq:SeqGives F (n-1) Tryz.prog g lb AC S N w) :
  CallsIn F n Tryz.prog 280 #[.slice none 0 0,.func (.func g) #[] lb] w fun e w'=>∃(v:Value) (ss:List Sg),e=.returned v/\S ss/\w'.ownsRow w.heap.size 175 4 v ss.length (Cb ss)/\Below w.heap.size w w':=by
 have h1:1<=n:=(by omega);have hne:180≠175:=(by decide);refine callsIn_of_wp_marks Tryz.func280 rfl h11 ?_ hro;simp only [Tryz.ntmps280,List.size_toArray,List.length_cons,List.length_nil,Nat.reduceAdd,Nat.reduceSub,Array.replicate_succ,Array.replicate_zero,List.push_toArray,List.append_toArray,List.nil_append,List.cons_append];gi_wp2;refine wpIn_rangeFunc ?_;intro fn hfn;rw [hro];obtain⟨W0,hW0⟩:∃W0,w.alloc (.cells #[.slice none 0 0] 180)=W0:=⟨_,rfl⟩;have hs0:W0.heap.size=w.heap.size+1:=(by rw [←hW0];simp);have hv0:W0.heap[w.heap.size]?=some (.cells #[.slice none 0 0] 180 (0,0)):=(by rw [←hW0];exact World.alloc_heap_new w _);have hb0:Below w.heap.size w W0:=(by rw [←hW0];exact(Below.refl _ w).alloc (Ajz _) _);rw [hW0];obtain⟨W1,hW1⟩:∃W1,(W0.alloc (.deferred (some []))).alloc (.loop (apRec fn (.func (.func g) #[] lb) w.heap.size W0.heap.size .ready none))=W1:=⟨_,rfl⟩
 have hold:∀k,k<W0.heap.size→W1.heap[k]?=W0.heap[k]?:=fun k hk=>by rw [←hW1];exact(Below.heap_alloc _ _ k (by simp;omega)).trans (Below.heap_alloc _ _ k hk)
 have hb1:Below w.heap.size w W1:=(by rw [←hW1];exact(hb0.alloc hb0.size _).alloc (by have:=hb0.size;simp;omega) _);have hs1:W1.heap.size=W0.heap.size+2:=by rw [←hW1];simp
 have hM:ApAt w fn (.func (.func g) #[] lb) w.heap.size (W0.heap.size+1) W0.heap.size [] W1:=
  ⟨⟨_,(hold w.heap.size (by omega)).trans hv0,⟨rfl,.inl ⟨rfl,rfl⟩⟩⟩,
   by rw [←hW1];have:=World.alloc_heap_new (W0.alloc (.deferred (some []))) (.loop (apRec fn (.func (.func g) #[] lb) w.heap.size W0.heap.size .ready none));rwa [Aj6]at this,
   by rw [←hW1];exact(Below.heap_alloc _ _ _ (by simp)).trans (World.alloc_heap_new W0 _),hb1⟩
 refine⟨W0.heap.size+1,[{target:=.collected W0.heap.size,args:=#[]}],W1,{target:=.fn (.func g) lb,args:=#[.func (.yield (W0.heap.size+1)) #[] #[]]},W1,g,
  #[.func (.yield (W0.heap.size+1)) #[] #[]]++lb,W1,?_,?_,?_,?_,fun _=>h1,?_⟩
 ·rw [←hW1];exact run_enterLoop_outer _ _ _ _ _
 ·simp [resolve,go_sem]
 ·intro f' hf';simp [Target.leads]at hf';subst hf';exact hFg
 ·simp [invoke,go_sem,eg]
 ·refine(hseq (W0.heap.size+1) (ApAt w fn (.func (.func g) #[] lb) w.heap.size (W0.heap.size+1) W0.heap.size) W1 hb1 (ap_abides _ _ _ _ _ _ _ hb1.size)
   (fun pre x W hJ hl=>apYield F (n-1-1) w fn hfn _ w.heap.size (W0.heap.size+1) W0.heap.size (by omega) (by omega) (by omega) (Ajz _) (by omega) N hN pre x W hJ hl) hM).mono ?_
  rintro e W2 ⟨⟨v0,rfl⟩,ss,hS,h2⟩;obtain⟨v,hv,hrow⟩:=h2.box;have hend:=run_endLoop (P:=Tryz.prog) h2.L (by simp [apRec]);obtain⟨W3,hW3⟩:∃W3,W2.putObj (W0.heap.size+1) (.loop {apRec fn (.func (.func g) #[] lb) w.heap.size W0.heap.size .ready none with state:=.exhausted})=W3:=⟨_,rfl⟩;rw [hW3]at hend;have hg3:W2.grownBy W3 (some (W0.heap.size+1)):=(by rw [←hW3];exact grownBy_putObj _ _ _);have hv3:W3.heap[w.heap.size]?=some (.cells #[v] 180 (0,0)):=(by rw [←hW3];exact(World.putObj_heap_other (by omega)).trans hv);have hK3:W3.heap[W0.heap.size]?=some (.deferred (some [])):=(by rw [←hW3];exact(World.putObj_heap_other (by omega)).trans h2.K);have hrow3:=hrow.kept hg3 (ownsRow_ne hrow h2.L (fun cur e=>by first|cases e|exact hne (Obj.cells.inj e).2.1));have hb3:Below w.heap.size w W3:=h2.below.grown hg3 h2.below.size (fun k e=>by cases e;omega);obtain⟨hc3,hf3⟩:=cell_of_box hv3;clear hW3;refine⟨none,W3,hend,?_⟩;gi_wp2;rw [←hs0];refine⟨by simp,.inl ⟨_,_,rfl,run_takeDeferred hK3,?_⟩⟩;exact⟨_,results_tmp rfl _ _ _,v,ss,rfl,hS,hrow3.kept (grownBy_putObj _ _ _) (ownsRow_ne hrow3 hK3 (fun cur e=>by first|cases e|exact hne (Obj.cells.inj e).2.1)),hb3.grown (grownBy_putObj _ _ _) hb3.size (fun k e=>by cases e;omega)⟩
end
section
open Go.Sort
theorem collect_in(F:Fence)(n:Nat)(h8:F.fn 210)(h11:F.fn 280)(hro:F.round=none)(hn:3<=n)(g:Nat)(lb:Array Value)(hFg:F.fn g)(eg:∀args w,(callFunc g args).run Tryz.prog w=.ok (.enter g args) w)
  (S:List Sg→Prop) (N:Nat) (hN:N<=200000) (w:World) (hseq:SeqGives F (n-1-1) Tryz.prog g lb AC S N w) :
  CallsIn F n Tryz.prog 210 #[.func (.func g) #[] lb] w fun e w'=>∃(v:Value) (ss:List Sg),e=.returned v/\S ss/\w'.ownsRow w.heap.size 175 4 v ss.length (Cb ss)/\Below w.heap.size w w':=by
 have h1:1<=n:=(by omega);have e11:∀args w,(callFunc 280 args).run Tryz.prog w=.ok (.enter 280 args) w:=enters_of Tryz.func280 (by kernel_rfl) rfl;refine callsIn_of_wp Tryz.func210 rfl h8 ?_ hro;simp only [Tryz.ntmps210,List.size_toArray,List.length_cons,List.length_nil,Nat.reduceAdd,Nat.reduceSub,Array.replicate_succ,Array.replicate_zero,List.push_toArray,List.append_toArray,List.nil_append,List.cons_append];gi_wp2;refine(appendSeq_in F (n-1) h11 hro (by omega) g lb hFg eg S N hN _ hseq).mono ?_;rintro e w' ⟨v,ss,rfl,hS,hrow,hb⟩;gi_wp2;go_ret;exact⟨v,ss,rfl,hS,hrow,hb⟩
end
section
open Go.Sort
theorem Adh(w:World):Calls Tryz.prog 157 #[.int .u64 0] w fun e w'=>e=.returned (.int .i64 0)/\w'=w:=by
 have e8:wrap64 (wrap64 (Lib.len8 0))=0:=(by decide +kernel);go_enter Tryz.func157,Tryz.ntmps157;go_wp2;go_ret;exact⟨by simp [e8],rfl⟩
theorem len_nil(w:World):Calls Tryz.prog 77 #[.int .u64 0] w fun e w'=>e=.returned (.int .i64 0)/\w'=w:=by
 have h:=Adh;go_enter Tryz.func77,Tryz.ntmps77;(go_wp2_with fail);(with_reducible refine(h _).mono ?_);rintro e w1 ⟨rfl,rfl⟩;go_wp2;go_ret;exact⟨rfl,rfl⟩
theorem AcG(fv:Value)(w:World):Calls Tryz.prog 328 #[.slice none 0 0,.int .i64 0,.int .i64 0,fv] w fun e w'=>e=.returned (.tuple #[])/\w'=w:=by
 go_enter Tryz.func328,Tryz.ntmps328;go_wp2;refine wp_loop_rounds 1 ?_;rw [rounds_succ];go_wp2
 go_end0
 exact⟨rfl,rfl⟩
theorem AeC(lim:Int)(fv:Value)(w:World):Calls Tryz.prog 281 #[.slice none 0 0,.int .i64 0,.int .i64 0,.int .i64 lim,fv] w fun e w'=>e=.returned (.tuple #[])/\w'=w:=by
 have hi:=AcG fv;go_enter Tryz.func281,Tryz.ntmps281;go_wp2;refine wp_loop_rounds 1 ?_;rw [rounds_succ];(go_wp2_with fail);(with_reducible refine(hi _).mono ?_);rintro e w1 ⟨rfl,rfl⟩;go_wp2
 (try simp only [Exit.inBlock,Exit.then]);refine bodyPost_ret (results_none rfl _ _ _) rfl ?_
 exact⟨rfl,rfl⟩
theorem Ag0(fv:Value)(w:World):Calls Tryz.prog 211 #[.slice none 0 0,fv] w fun e w'=>e=.returned (.tuple #[])/\w'=w:=by
 have h1:=len_nil;have h2:=AeC 0 fv;go_enter Tryz.func211,Tryz.ntmps211;(go_wp2_with fail);(with_reducible refine(h1 _).mono ?_);rintro e w1 ⟨rfl,rfl⟩;(go_wp2_with fail);(with_reducible refine(h2 _).mono ?_);rintro e w1 ⟨rfl,rfl⟩;go_wp2
 go_end0
 exact⟨rfl,rfl⟩
def BB(l:List Sg):List Sg:=l.mergeSort (fun x y=>!decide (Fq y x<0))
theorem IL(l:List Sg):(BB l).Perm l:=List.mergeSort_perm _ _
theorem dH{l:List Sg} : (BB l).Pairwise (fun x y=>¬Fq y x<0):=by
 have tr:∀a b c:Sg,(!decide (Fq b a<0))=true→(!decide (Fq c b<0))=true→(!decide (Fq c a<0))=true:=by
  intro a b c h1 h2;simp only [Bool.not_eq_true',decide_eq_false_iff_not,Pb]at *
  grind
 have dM:∀a b:Sg,((!decide (Fq b a<0))||(!decide (Fq a b<0)))=true:=by
  intro a b;simp only [Bool.or_eq_true,Bool.not_eq_true',decide_eq_false_iff_not,Pb]
  grind
 have h:=List.pairwise_mergeSort tr dM l;refine h.imp ?_;intro a b hab
 simpa using hab
theorem Ag5{l m:List Sg}(h:l.Perm m):BB l=BB m:=by
 refine List.Perm.eq_of_pairwise (le:=fun x y=>¬Fq y x<0) ?_ dH dH (((IL l).trans h).trans (IL m).symm);intro a b _ _ h1 h2;rw [Pb]at h1 h2;obtain⟨⟨a1,a2⟩,⟨a3,a4⟩⟩:=a;obtain⟨⟨b1,b2⟩,⟨b3,b4⟩⟩:=b;simp only [Sg.mk.injEq,Pt.mk.injEq]at *
 grind
theorem lQ(m:List Way):m.flatMap Gc=Cb (m.map (·.1)):=by
 induction m with
 | nil=>rfl
 | cons x m ih=>rw [List.flatMap_cons,ih];rfl
theorem Ahi{l:List Sg}(h:∀s∈l,Qc s):∃d:Array Way,d.toList.map (·.1)=l:=
 ⟨(l.attachWith Qc h).toArray,by simp⟩
theorem mN(w:World)(row:Option Nat):w.grownBy w row:=⟨rfl,rfl,rfl,Ajz _,fun _ _ _=>rfl⟩
theorem Agz{w0 w:World}(hw:Ao w0)(hx:Ac w0 w){B:Nat}(hB:w0.heap.size<=B)(l:List Sg)(hl:∀s∈l,Qc s)(hlen:l.length<1000000){v:Value}(hv:w.ownsRow B 175 4 v l.length (Cb l)) :
  Calls Tryz.prog 211 #[v,.func (.func 119) #[] #[]] w fun e w'=>
   e=.returned (.tuple #[])/\w.grownBy w' v.ownBlock/\w'.ownsRow B 175 4 v l.length (Cb (BB l)):=by
 by_cases hn:l = []
 ·subst hn
  have hv':v=.slice none 0 0∨∃g cap,v=.slice (some ⟨g,0,none⟩) 0 cap:=by
   rcases hv.2 with⟨h,_⟩|⟨g,cap,cur,h,_⟩
   ·exact .inl h
   ·exact .inr ⟨g,cap,h⟩
  have e:BB [] = []:=(by unfold BB;simp);rw [e]
  rcases hv' with rfl|⟨g,cap,rfl⟩
  ·exact(Ag0 _ w).mono fun _ _ ⟨he,hw⟩=>⟨he,by subst hw;exact mN _ _,by subst hw;exact hv⟩
  ·have hgb:g<w.heap.size/\w0.heap.size<=g:=by have:=hv.lt g rfl;omega
   refine(zT g 0 cap #[] w0 w hw hx hgb.2 (fun j hj=>by simp at hj) hgb.1 (by simp)).mono ?_;rintro e w' ⟨he,n,os,rfl⟩;refine⟨he,Oq Gc 4 w g 0 n _ os,?_⟩;have h2:w.ownsRow B 175 4 (.slice (some ⟨g,0,none⟩) (#[]:Array Way).size cap) (#[]:Array Way).size ((#[]:Array Way).toList.flatMap Gc):=hv;have:=Sf TB (by omega) h2 (d':=(JB []).toArray) (by simp [JB]) n os
   simpa [JB,Cb]using this
 ·obtain⟨d,hd⟩:=Ahi hl;have DJ:d.size=l.length:=by rw [←hd];simp
  have hv':w.ownsRow B 175 4 v d.size (d.toList.flatMap Gc):=by rw [lQ,hd,DJ];exact hv
  have Cl:0<d.size:=(by rw [DJ];exact List.length_pos_iff.2 hn);obtain⟨g,cap,rfl,hgb,Ri,hH,hown⟩:=Zz TB (by omega) hv' Cl;refine(zT g 0 cap d w0 w hw hx (by omega) hH Ri (by omega)).mono ?_;rintro e w' ⟨he,n,os,rfl⟩;refine⟨he,Oq Gc 4 w g 0 n _ os,?_⟩;have ho:=Sf TB (by omega) hv' (d':=(JB d.toList).toArray) (by simp [JB]) n os
  have hm:(JB d.toList).map (·.1)=BB l:=by unfold JB BB;rw [List.map_mergeSort (r:=fun x y:Way=>!ltOf He y x) (f:=fun x:Way=>x.1) (s:=fun x y=>!decide (Fq y x<0)) (fun a _ b _=>rfl),hd]
  rw [lQ,List.toList_toArray,hm,DJ]at ho;rw [DJ];exact ho
theorem dF{w0 w:World}(hw:Ao w0)(hx:Ac w0 w)(Bm b:Nat)(L:List (Sg×Int))(hBm:Bm<w.heap.size)(hm:w.cell? ⟨Bm,0,none⟩=some (.map (some b)))(hb:w.heap[b]?=some (.map (AH AC (stamp L)).toArray L.length))
  (hL:∀e∈L,EW 1 e.1) (hlen:L.length<=200000) :
  Calls Tryz.prog 117 #[.func (.func 212) #[] #[.pointer (some ⟨Bm,0,none⟩)],.func (.func 119) #[] #[]] w fun e w'=>
   ∃v,e=.returned v/\w'.ownsRow w.heap.size 175 4 v L.length (Cb (BB (L.map (·.1))))/\Ac w w':=by
 have eg:∀args w,(callFunc 212 args).run Tryz.prog w=.ok (.enter 212 args) w:=enters_of Tryz.func212 (by kernel_rfl) rfl;have c1:=callsIn_wide.1 (collect_in Fence.wide 5 trivial trivial rfl (by omega) 212 #[.pointer (some ⟨Bm,0,none⟩)] trivial eg _ L.length hlen w (Adb Fence.wide 3 trivial rfl (by omega) Bm b L w hBm hm hb));go_enter Tryz.func117,Tryz.ntmps117;(go_wp2_with fail);(with_reducible refine c1.mono ?_);rintro e w1 ⟨v,ss,rfl,hS,hrow,hbl⟩;have BK:Ac w w1:=hbl;have Dp:ss.length=L.length:=by rw [hS.length_eq];simp
 have c2:=Agz hw (hx.trans BK) hx.size ss (fun s hs=>by
  have:=hS.mem_iff.1 hs;rw [List.mem_map]at this;obtain⟨e,he,rfl⟩:=this
  exact hL e he) (by omega) hrow
 have Df:=Ag5 hS;rw [Df,Dp]at c2;rw [Dp]at hrow;(go_wp2_with fail);(with_reducible refine c2.mono ?_);rintro e w2 ⟨rfl,hg,ho⟩;go_wp2;go_ret;exact⟨v,rfl,ho,BK.grownOwn hg hrow (Ajz _)⟩
end
def rowOf(R0:List (Pt×List Pt))(p:Pt):List Pt:=match R0.find? (fun e=>Ay p e.1)with|some e=>e.2|none=>[]
theorem xX(p:Pt):Ay p p=true:=C3.2 rfl
theorem xW{p q:Pt} : Ay p q=false↔p≠q:=by
 rw [Bool.eq_false_iff];exact not_congr C3
theorem KW(e:Pt×List Pt)(R0:List (Pt×List Pt))(p:Pt):rowOf (e::R0) p=if Ay p e.1=true then e.2 else rowOf R0 p:=by
 unfold rowOf;rw [List.find?_cons]
 cases h:Ay p e.1<;>simp
theorem To(p q:Pt):CZ [] p q = [(p,[q])]:=by simp [CZ,Ga,F8,List.modify]
theorem Tn(e:Pt×List Pt)(R0:List (Pt×List Pt))(p q:Pt):CZ (e::R0) p q=if Ay p e.1=true then (e.1,e.2 ++ [q])::R0 else e::CZ R0 p q:=by
 unfold CZ Ga F8;rw [List.findIdx?_cons]
 cases h:Ay p e.1
 ·simp only [Bool.false_eq_true,if_false]
  cases h2:R0.findIdx? (fun e=>Ay p e.1)with
  | none=>simp [List.modify_succ_cons]
  | some j=>simp [List.modify_succ_cons]
 ·simp
theorem cL(R0:List (Pt×List Pt))(p q p':Pt):rowOf (CZ R0 p q) p'=if Ay p' p=true then rowOf R0 p ++ [q] else rowOf R0 p':=by
 induction R0 with
 | nil=>
  rw [To,KW];simp only
  cases h:Ay p' p<;>simp [rowOf]
 | cons e R0 ih=>
  rw [Tn];by_cases h:Ay p e.1=true
  ·rw [if_pos h,KW,KW,KW,if_pos h];have he:=C3.1 h;simp only [←he];by_cases h2:Ay p' p=true
   ·rw [if_pos h2,if_pos h2]
   ·rw [if_neg h2,if_neg h2,if_neg h2]
  ·rw [if_neg h,KW,KW,KW,if_neg h,ih];by_cases h2:Ay p' p=true
   ·have:=C3.1 h2;subst this;rw [if_neg h,if_pos h2,if_pos h2]
   ·rw [if_neg h2,if_neg h2]
theorem my(R0:List (Pt×List Pt))(p q:Pt):∀x,x∈(CZ R0 p q).map (·.1)↔x=p∨x∈R0.map (·.1):=by
 induction R0 with
 | nil=>intro x;rw [To];simp
 | cons e R0 ih=>
  intro x;rw [Tn];by_cases h:Ay p e.1=true
  ·rw [if_pos h];have:=C3.1 h;subst this;simp
  ·rw [if_neg h,List.map_cons,List.mem_cons,ih x,List.map_cons,List.mem_cons];constructor
   ·rintro(h1|h1|h1)
    ·exact .inr (.inl h1)
    ·exact .inl h1
    ·exact .inr (.inr h1)
   ·rintro(h1|h1|h1)
    ·exact .inr (.inl h1)
    ·exact .inl h1
    ·exact .inr (.inr h1)
theorem gR{R0:List (Pt×List Pt)}(h:(R0.map (·.1)).Nodup)(p q:Pt):((CZ R0 p q).map (·.1)).Nodup:=by
 induction R0 with
 | nil=>rw [To];simp
 | cons e R0 ih=>
  rw [List.map_cons,List.nodup_cons]at h;rw [Tn];by_cases h2:Ay p e.1=true
  ·rw [if_pos h2,List.map_cons,List.nodup_cons];exact h
  ·rw [if_neg h2,List.map_cons,List.nodup_cons];refine⟨?_,ih h.2⟩;rw [my];rintro(h3|h3)
   ·exact h2 (C3.2 h3.symm)
   ·exact h.1 h3
theorem gQ{R0:List (Pt×List Pt)}(h:∀e∈R0,e.2≠[])(p q:Pt):∀e∈CZ R0 p q,e.2≠[]:=by
 induction R0 with
 | nil=>rw [To];simp
 | cons e R0 ih=>
  rw [Tn];intro x hx;by_cases h2:Ay p e.1=true
  ·rw [if_pos h2]at hx
   rcases List.mem_cons.1 hx with rfl|hx
   ·simp
   ·exact h x (List.mem_cons_of_mem _ hx)
  ·rw [if_neg h2]at hx
   rcases List.mem_cons.1 hx with rfl|hx
   ·exact h _ (List.mem_cons_self)
   ·exact ih (fun e he=>h e (List.mem_cons_of_mem _ he)) x hx
theorem yJ{R0:List (Pt×List Pt)}(h:(R0.map (·.1)).Nodup){e:Pt×List Pt}(he:e∈R0):R0.find? (fun x=>Ay e.1 x.1)=some e:=by
 induction R0 with
 | nil=>cases he
 | cons x R0 ih=>
  rw [List.map_cons,List.nodup_cons]at h;rw [List.find?_cons]
  rcases List.mem_cons.1 he with rfl|he
  ·rw [xX]
  ·have:Ay e.1 x.1=false:=by rw [xW];intro hh;exact h.1 (hh▸List.mem_map_of_mem he)
   rw [this];exact ih h.2 he
structure Ey(W:List Sg)(R0:List (Pt×List Pt)):Prop where
 keys:(R0.map (·.1)).Nodup
 ne:∀e∈R0,e.2≠[]
 mem:∀p q,q∈rowOf R0 p↔(⟨p,q⟩:Sg)∈W
 back:∀s∈W,AV s∈W
theorem aU(pts:List Pt)(l:List EdZ):Ey ((AG pts l).map (·.1)) (BD pts l):=by
 have main:∀n,n<=l.length→Ey ((AG pts (l.take n)).map (·.1)) (BD pts (l.take n)):=by
  intro n
  induction n with
  | zero=>intro _;exact⟨by simp [BD],by simp [BD],by simp [BD,AG,rowOf],by simp [AG]⟩
  | succ n ih=>
   intro hn;have h:=ih (by omega);rw [Aj2 (by omega),UV,UW];generalize l[n]=e at *;generalize Be pts e=s at *;refine⟨gR (gR h.keys _ _) _ _,gQ (gQ h.ne _ _) _ _,?_,?_⟩
   ·intro p q;rw [cL,cL,cL,List.map_append,List.mem_append];simp only [List.map_cons,List.map_nil,List.mem_cons,AjA,or_false,←h.mem];have e1:((⟨p,q⟩:Sg)=s)↔p=s.a/\q=s.b:=(by obtain⟨a,b⟩:=s;simp);have e2:((⟨p,q⟩:Sg)=AV s)↔p=s.b/\q=s.a:=(by obtain⟨a,b⟩:=s;simp [AV]);rw [e1,e2];by_cases h1:Ay p s.b=true
    ·have p1:=C3.1 h1;rw [if_pos h1];by_cases h2:Ay s.b s.a=true
     ·have p2:=C3.1 h2;rw [if_pos h2,←p2,←p1];simp only [List.mem_append,AjB]
      grind
     ·rw [if_neg h2,←p1];have p2:¬s.b=s.a:=fun h=>h2 (C3.2 h);simp only [List.mem_append,AjB]
      grind
    ·have p1:¬p=s.b:=fun h=>h1 (C3.2 h);rw [if_neg h1];by_cases h2:Ay p s.a=true
     ·have p2:=C3.1 h2;rw [if_pos h2,←p2];simp only [List.mem_append,AjB]
      grind
     ·have p2:¬p=s.a:=fun h=>h2 (C3.2 h);rw [if_neg h2]
      grind
   ·intro x hx;rw [List.map_append,List.mem_append]at hx ⊢;simp only [List.map_cons,List.map_nil,List.mem_cons,AjA,or_false]at hx ⊢
    rcases hx with hx|rfl|rfl
    ·exact .inl (h.back x hx)
    ·exact .inr (.inr rfl)
    ·exact .inr (.inl rfl)
 have:=main l.length (Ajz _)
 rwa [List.take_length]at this
theorem Af9(R0:List (Pt×List Pt))(p q:Pt):q∈rowOf (R0.map (fun e=>(e.1,CV e.1 e.2))) p↔q∈rowOf R0 p:=by
 induction R0 with
 | nil=>simp [rowOf]
 | cons e R0 ih=>
  rw [List.map_cons,KW,KW];simp only;by_cases h1:Ay p e.1=true
  ·rw [if_pos h1,if_pos h1];exact(Su e.1 e.2).mem_iff
  ·rw [if_neg h1,if_neg h1];exact ih
theorem Ac5{l:List Pt}{p:Pt}(h:p∈l):∃j,j<l.length/\DU l p=(j:Int):=by
 unfold DU
 cases hf:l.findIdx? (Ay p)with
 | none=>
  rw [List.findIdx?_eq_none_iff]at hf;have:=hf p h;rw [xX]at this
  cases this
 | some j=>rw [List.findIdx?_eq_some_iff_getElem]at hf;exact⟨j,hf.1,rfl⟩
theorem Ey.sorted{W:List Sg}{R0:List (Pt×List Pt)}(h:Ey W R0):Ey W (R0.map (fun e=>(e.1,CV e.1 e.2))):=by
 have hk:(R0.map (fun e=>(e.1,CV e.1 e.2))).map (·.1)=R0.map (·.1):=(by rw [List.map_map];rfl);have hr:=Af9 R0;refine⟨by rw [hk];exact h.keys,?_,fun p q=>by rw [hr];exact h.mem p q,h.back⟩;intro e he;rw [List.mem_map]at he;obtain⟨x,hx,rfl⟩:=he;have:=h.ne x hx;intro e0;have:=(Su x.1 x.2).length_eq;simp only at e0;rw [e0]at this;exact h.ne x hx (List.eq_nil_of_length_eq_zero this.symm)
def Mw(R0:List (Pt×List Pt))(s:Sg):Sg:=⟨s.b,(rowOf R0 s.b).getD (((DU (rowOf R0 s.b) s.a).toNat+(rowOf R0 s.b).length-1)%(rowOf R0 s.b).length) ⟨0,0⟩⟩
theorem Ey.step{W:List Sg}{R0:List (Pt×List Pt)}(h:Ey W R0){s:Sg}(hs:s∈W) :
  ∃e,R0.find? (fun e=>Ay s.b e.1)=some e/\∃j m,∃_:j<e.2.length,DU e.2 s.a=(j:Int)/\∃hm:m<e.2.length,m=(j+e.2.length-1)%e.2.length/\Mw R0 s=⟨s.b,e.2[m]⟩/\(⟨s.b,e.2[m]⟩:Sg)∈W:=by
 have hb:s.a∈rowOf R0 s.b:=(h.mem s.b s.a).2 (h.back s hs)
 have hr:rowOf R0 s.b=match R0.find? (fun e=>Ay s.b e.1)with|some e=>e.2|none=>[]:=rfl
 cases hf:R0.find? (fun e=>Ay s.b e.1)with
 | none=>rw [hr,hf]at hb;cases hb
 | some e=>
  rw [hf]at hr;simp only at hr;rw [hr]at hb;obtain⟨j,hj,hi⟩:=Ac5 hb;have hl:0<e.2.length:=(by omega);have hm:(j+e.2.length-1)%e.2.length<e.2.length:=Nat.mod_lt _ hl;refine⟨e,rfl,j,_,hj,hi,hm,rfl,?_,?_⟩
  ·unfold Mw;rw [hr,hi];simp only [Int.toNat_natCast];rw [List.getD_eq_getElem?_getD,Aj4 hm];rfl
  ·refine(h.mem s.b _).1 ?_;rw [hr];exact Aj0 hm
theorem Ey.next{W:List Sg}{R0:List (Pt×List Pt)}(h:Ey W R0){s:Sg}(hs:s∈W):Mw R0 s∈W:=by
 obtain⟨e,_,j,m,_,_,hm,_,h1,h2⟩:=h.step hs;rw [h1];exact h2
def Tk(W:List Sg):Prop:=∀s∈W,∀t∈W,s≠t→s≠AV t→ET s.a s.b t.a t.b
theorem Tk.good{W:List Sg}(h:Tk W):JG W:=by
 intro s hs t ht h1 h2 hne;refine h s hs t ht hne ?_;rintro rfl;simp only [AV]at h1
 grind
theorem Ahh(pts:List Pt)(l:List EdZ)(h3:DG pts [] l=0):Tk ((AG pts l).map (·.1)):=by
 have hx:∀i j,(hi:i<l.length)→(hj:j<l.length)→i<j→ET (Be pts l[j]).a (Be pts l[j]).b (Be pts l[i]).a (Be pts l[i]).b:=by intro i j hi hj Bl;have:=jV h3 j hj;rw [List.nil_append,List.any_eq_false]at this;have h1:=this l[i] (by rw [List.mem_take_iff_getElem];exact⟨i,by omega,rfl⟩);rw [Bool.not_eq_true]at h1;exact AdS h1
 have hy:∀i j,(hi:i<l.length)→(hj:j<l.length)→i≠j→ET (Be pts l[i]).a (Be pts l[i]).b (Be pts l[j]).a (Be pts l[j]).b:=by
  intro i j hi hj Bl
  rcases Nat.lt_or_gt_of_ne Bl with h|h
  ·exact(hx i j hi hj h).symm
  ·exact hx j i hj hi h
 have mem:∀s,s∈(AG pts l).map (·.1)→∃i,∃hi:i<l.length,s=Be pts l[i]∨s=AV (Be pts l[i]):=by
  intro s hs;rw [List.mem_map]at hs;obtain⟨x,hx,rfl⟩:=hs;unfold AG at hx;rw [List.mem_flatMap]at hx;obtain⟨e,he,hx⟩:=hx;obtain⟨i,hi,rfl⟩:=List.getElem_of_mem he;simp only [List.mem_cons,AjA,or_false]at hx
  rcases hx with rfl|rfl
  ·exact⟨i,hi,.inl rfl⟩
  ·exact⟨i,hi,.inr rfl⟩
 intro s hs t ht h1 h2;obtain⟨i,hi,es⟩:=mem s hs;obtain⟨j,hj,et⟩:=mem t ht
 have Bl:i≠j:=by
  rintro rfl
  rcases es with rfl|rfl<;>rcases et with rfl|rfl
  ·exact h1 rfl
  ·exact h2 rfl
  ·exact h2 rfl
  ·exact h1 rfl
 have hn:=hy i j hi hj Bl
 rcases es with rfl|rfl<;>rcases et with rfl|rfl
 ·exact hn
 ·exact hn.right
 ·exact hn.left
 ·exact hn.left.right
structure Oa(W:List Sg):Prop where
 x:Tk W
 sz:∀s∈W,EW 1 s
 ne:∀s∈W,s.a≠s.b
theorem yK{W:List Sg}{R0:List (Pt×List Pt)}(hW:Oa W)(hN:Ey W R0)(hlen:∀e∈R0,e.2.length<100000):fZ R0:=by
 have hm:∀e∈R0,∀q∈e.2,(⟨e.1,q⟩:Sg)∈W:=by intro e he q hq;refine(hN.mem e.1 q).1 ?_;unfold rowOf;rw [yJ hN.keys he];exact hq
 refine⟨?_,?_,hN.ne,hlen⟩
 ·intro e he;refine⟨fun q hq=>(hW.sz _ (hm e he q hq)).b,fun q hq h=>hW.ne _ (hm e he q hq) h.symm,?_⟩;intro a ha b hb h0;refine Classical.byContradiction fun hab=>hab ?_;have na:a≠e.1:=fun h=>hW.ne _ (hm e he a ha) h.symm;have nb:b≠e.1:=fun h=>hW.ne _ (hm e he b hb) h.symm;refine xg (hW.x _ (hm e he a ha) _ (hm e he b hb) ?_ ?_) na nb h0
  ·intro h;simp only [Sg.mk.injEq,true_and]at h;exact hab h
  ·intro h;simp only [AV,Sg.mk.injEq]at h;exact nb h.1.symm
 ·intro e he;obtain⟨q,hq⟩:=List.exists_mem_of_ne_nil _ (hN.ne e he);exact(hW.sz _ (hm e he q hq)).a
def G3(R0:List (Pt×List Pt)):Nat→List Sg→Sg→List Sg→List Sg×List Sg
 | 0,U,_,c=>(U,c)
 | n+1,U,s,c=>if U.any (AN s)=true then (U,c)else G3 R0 n (U ++ [s]) (Mw R0 s) (c ++ [s])
def FA(N:Nat)(R0:List (Pt×List Pt))(st:List Sg×List (List Sg))(s:Sg):List Sg×List (List Sg):=
 ((G3 R0 (N-st.1.length+1) st.1 s []).1,if 0<(G3 R0 (N-st.1.length+1) st.1 s []).2.length then st.2 ++ [(G3 R0 (N-st.1.length+1) st.1 s []).2] else st.2)
def GL(W:List Sg)(R0:List (Pt×List Pt)):List (List Sg):=((BB W).foldl (FA W.length R0) ([],[])).2
theorem Tr{U:List Sg}{s:Sg} : U.any (AN s)=true↔s∈U:=by
 rw [List.any_eq_true];constructor
 ·rintro⟨x,hx,h⟩;rw [Hd]at h;exact h▸hx
 ·intro h;exact⟨s,h,Hd.2 rfl⟩
theorem iE{U:List Sg}{s:Sg} : U.any (AN s)=false↔s∉U:=by
 rw [←Tr,Bool.not_eq_true]
theorem Ju{U W:List Sg}(h:U.Nodup)(hs:∀s∈U,s∈W):U.length<=W.length:=h.length_le_of_subset hs
theorem cS{W:List Sg}{R0:List (Pt×List Pt)}(hN:Ey W R0):∀(n:Nat) (U:List Sg) (s:Sg) (c:List Sg),U.Nodup→(∀t∈U,t∈W)→s∈W→W.length<U.length+n→
  ∃d,G3 R0 n U s c=(U++d,c++d)/\(U++d).Nodup/\(∀t∈d,t∈W)/\(s∉U→d.head?=some s)/\s∈U++d
 | 0,U,s,c,h1,h2,h3,h4=>by have:=Ju h1 h2;omega
 | n+1,U,s,c,h1,h2,h3,h4=>by
  unfold G3;by_cases hs:s∈U
  ·rw [if_pos (Tr.2 hs)];exact⟨[],by simp,by simpa using h1,by simp,fun h=>absurd hs h,by simpa using hs⟩
  ·rw [if_neg (by rw [Tr];exact hs)]
   have hn:(U ++ [s]).Nodup:=by rw [List.nodup_append];refine⟨h1,by simp,?_⟩;intro a ha b hb;simp only [AjB]at hb;subst hb;rintro rfl;exact hs ha
   obtain⟨d,e1,e2,e3,e4,e5⟩:=cS hN n (U ++ [s]) (Mw R0 s) (c ++ [s]) hn (by
    intro t ht
    rcases List.mem_append.1 ht with ht|ht
    ·exact h2 t ht
    ·simp only [AjB]at ht;exact ht▸h3) (hN.next h3) (by simp;omega)
   refine⟨s::d,?_,?_,?_,fun _=>rfl,by simp⟩
   ·rw [e1];simp
   ·simpa using e2
   ·intro t ht
    rcases List.mem_cons.1 ht with rfl|ht
    ·exact h3
    ·exact e3 t ht
theorem yL(R0:List (Pt×List Pt)):∀(n:Nat) (U:List Sg) (s:Sg) (c:List Sg),c.length<=(G3 R0 n U s c).2.length
 | 0,U,s,c=>Ajz _
 | n+1,U,s,c=>by
  unfold G3
  split
  ·exact Ajz _
  ·have:=yL R0 n (U ++ [s]) (Mw R0 s) (c ++ [s]);rw [List.length_append,List.length_singleton]at this;omega
structure S6(W:List Sg)(U:List Sg)(C:List (List Sg)):Prop where
 nd:U.Nodup
 sub:∀s∈U,s∈W
 flat:C.flatten=U
 ne:∀c∈C,c≠[]
 least:∀c∈C,∀s∈c,∀h:0<c.length,¬Fq s c[0]<0
theorem kT{W:List Sg}{R0:List (Pt×List Pt)}(hN:Ey W R0)(k:Nat)(hk:k<=(BB W).length) :
  S6 W (((BB W).take k).foldl (FA W.length R0) ([],[])).1 (((BB W).take k).foldl (FA W.length R0) ([],[])).2/\∀s∈(BB W).take k,s∈(((BB W).take k).foldl (FA W.length R0) ([],[])).1:=by
 induction k with
 | zero=>exact⟨⟨by simp,by simp,by simp,by simp,by simp⟩,by simp⟩
 | succ k ih=>
  have CB:k<(BB W).length:=(by omega);obtain⟨h,hp⟩:=ih (by omega);rw [Aj2 CB,List.foldl_append];simp only [List.foldl_cons,List.foldl_nil];generalize hst:((BB W).take k).foldl (FA W.length R0) ([],[])=st at *;have Mo:(BB W)[k]∈W:=(IL W).mem_iff.1 (Aj0 CB);have hle:=Ju h.nd h.sub;obtain⟨d,e1,e2,e3,e4,e5⟩:=cS hN (W.length-st.1.length+1) st.1 (BB W)[k] [] h.nd h.sub Mo (by omega)
  have hstep:FA W.length R0 st (BB W)[k]=(st.1++d,if 0<d.length then st.2 ++ [d] else st.2):=by unfold FA;rw [e1];simp
  rw [hstep];simp only;refine⟨⟨e2,?_,?_,?_,?_⟩,?_⟩
  ·intro s hs
   rcases List.mem_append.1 hs with hs|hs
   ·exact h.sub s hs
   ·exact e3 s hs
  ·split
   ·rw [List.flatten_append,h.flat];simp
   ·have:d = []:=List.eq_nil_of_length_eq_zero (by omega);rw [this,List.append_nil];exact h.flat
  ·intro c hc
   split at hc
   ·rename_i Cl
    rcases List.mem_append.1 hc with hc|hc
    ·exact h.ne c hc
    ·simp only [AjB]at hc;subst hc;intro e;rw [e]at Cl;simp at Cl
   ·exact h.ne c hc
  ·intro c hc;have old:=h.least c
   split at hc
   ·rcases List.mem_append.1 hc with hc|hc
    ·exact old hc
    ·simp only [AjB]at hc;subst hc;intro s hs h0;by_cases hu:(BB W)[k]∈st.1
     ·
      exfalso
      have:G3 R0 (W.length-st.1.length+1) st.1 (BB W)[k] []=(st.1,[]):=by unfold G3;rw [if_pos (Tr.2 hu)]
      rw [this]at e1;have:=congrArg Prod.snd e1;simp only [List.nil_append]at this;rw [←this]at h0;simp at h0
     ·have hh:=e4 hu
      have h00:c[0]=(BB W)[k]:=by rw [List.head?_eq_getElem?,Aj4 h0,Aj3]at hh;exact hh
      rw [h00];have hsm:s∈BB W:=(IL W).mem_iff.2 (e3 s hs);obtain⟨i,hi,rfl⟩:=List.getElem_of_mem hsm
      have hik:k<=i:=by
       refine Classical.byContradiction fun hlt=>?_
       have hin:(BB W)[i]∈(BB W).take k:=by rw [List.mem_take_iff_getElem];exact⟨i,by omega,rfl⟩
       have h1:=hp _ hin;rw [List.nodup_append]at e2;exact e2.2.2 _ h1 _ hs rfl
      rcases Nat.lt_or_eq_of_le hik with h1|h1
      ·exact List.pairwise_iff_getElem.1 dH k i CB hi h1
      ·subst h1;rw [Pb];grind
   ·exact old hc
  ·intro s hs
   rcases List.mem_append.1 hs with hs|hs
   ·exact List.mem_append_left _ (hp s hs)
   ·simp only [AjB]at hs;rw [hs];exact e5
theorem UM{α:Type} : ∀{l:List (List α)},(∀c∈l,c≠[])→l.length<=l.flatten.length
 | [],_=>by simp
 | c::l,h=>by have h1:=UM (l:=l) (fun x hx=>h x (List.mem_cons_of_mem _ hx));have h2:=List.length_pos_iff.2 (h c List.mem_cons_self);rw [List.flatten_cons,List.length_append,List.length_cons];omega
theorem kU{W:List Sg}{R0:List (Pt×List Pt)}(hN:Ey W R0):∃U,S6 W U (GL W R0)/\∀s∈W,s∈U:=by
 obtain⟨h,hp⟩:=kT hN (BB W).length (Ajz _);rw [List.take_length]at h hp;exact⟨_,h,fun s hs=>hp s ((IL W).mem_iff.2 hs)⟩
end Go.Proofs.YtgnejnampofhoaaGreatDoor
