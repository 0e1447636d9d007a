/- J30: O1 O2 O3 O4 O5 O6 O7 O8 C1 C2. -/
import Derived.Test.YtnddllipjippnaaGreatDoorJ29
set_option maxRecDepth 100000
set_option maxHeartbeats 8000000
namespace Go.Proofs.YtnddllipjippnaaGreatDoor
open Go.RowKit Kl
theorem AkS(p a b:Pt){k:Nat}(hp:Az k p)(ha:Az k a)(hb:Az k b)(hk:0<k)(hk2:k<=400)(w:World)(hw:Am w)(bp:Nat)(Au:w.heap[bp]?=some (.cells #[S (R p.x),S (R p.y)] 24)) :
  Calls Tryz.prog 151 #[Ak a,Ak b,.pointer (some ⟨bp,0,none⟩)] w (AI (D3 p a b) w):=by
 have c1:=qf p a hp ha hk hk2;have c2:=qf p b hp hb hk hk2;have c3:=Mb p a b hp ha hb hk hk2;have hE:=((Ab.refl w).alloc (.cells #[S (R a.x),S (R a.y)] 24)).alloc (.cells #[S (R b.x),S (R b.y)] 24)
 have hA:(w.alloc (.cells #[S (R a.x),S (R a.y)] 24)).alloc (.cells #[S (R b.x),S (R b.y)] 24) |>.heap[w.heap.size]?=some (.cells #[S (R a.x),S (R a.y)] 24):=(Below.heap_alloc _ _ _ (by simp)).trans (Ao6 w _)
 have hB:=Ao6 (w.alloc (.cells #[S (R a.x),S (R a.y)] 24)) (.cells #[S (R b.x),S (R b.y)] 24);rw [AoE]at hB;have hP:=(hE.block bp (Ao5 Au)).trans Au
 have hr:D3 p a b=if Cb p a-Cb p b≠0 then Cb p a-Cb p b else -AZ (Ar p a b):=rfl
 have l1:=Uq p a;have l2:=Uq p b;have l3:=Ri (Ar p a b);obtain⟨x,hx0⟩:=Ao3 (Cb p a);obtain⟨y,BA⟩:=Ao3 (Cb p b);obtain⟨z,hz0⟩:=Ao3 (AZ (Ar p a b));rw [←hx0]at c1 l1;rw [←BA]at c2 l2;rw [←hz0]at c3 l3;rw [←hx0,←BA,←hz0]at hr
 have w1:IntKind.i64.wrap (x-y)=x-y:=by rcases l1 with rfl|rfl<;>rcases l2 with rfl|rfl<;>rfl
 have w2:IntKind.i64.wrap (-z) = -z:=by
  obtain rfl|rfl|rfl:z = -1∨z=0∨z=1:=by omega
  all_goals rfl
 obtain⟨r,G2⟩:=Ao3 (if x-y≠0 then x-y else -z:Int);rw [←G2]at hr;rw [hr]
 have Uy:∀(b o:Nat) (w:World),w.cell? ⟨b,o,none⟩=some (.int .i64 (x-y))→w.cell? ⟨b,o+1,none⟩=some (.int .i64 (-z))→Calls Tryz.prog 141 #[.slice (some ⟨b,o,none⟩) 2 2] w (AI r w):=by intro b o w h1 h2;rw [G2];exact kG (x-y) (-z) b o w h1 h2
 unfold Ak at c1 c2 c3 ⊢;clear hr hx0 BA hz0 G2 hp ha hb l1 l2 l3 Au;go_enter Tryz.func151,Tryz.ntmps151
 go_upto_region 1 with fail
 generalize (w.alloc (.cells #[S (R a.x),S (R a.y)] 24)).alloc (.cells #[S (R b.x),S (R b.y)] 24)=V at *;obtain⟨ba,Av⟩:=Ao3 w.heap.size;rw [←Av]at hA hB ⊢;clear Av;have hV:=hw.ext hE
 have SO:∀w',Ab V w'→(w'.cell? ⟨bp,0,none⟩=some (S (R p.x))/\w'.cell? ⟨bp,1,none⟩=some (S (R p.y))/\w'.cell? ⟨ba,0,none⟩=some (S (R a.x))/\w'.cell? ⟨ba,1,none⟩=some (S (R a.y))/\w'.cell? ⟨ba+1,0,none⟩=some (S (R b.x))/\w'.cell? ⟨ba+1,1,none⟩=some (S (R b.y))):=fun w' h=>⟨h.cellS (Aa hP rfl),h.cellS (Aa hP rfl),h.cellS (Aa hA rfl),h.cellS (Aa hA rfl),h.cellS (Aa hB rfl),h.cellS (Aa hB rfl)⟩
 have X0:Ab V V.drew:=(Ab.refl V).drew;clear hA hB hP
 go_region_held3 (fun w'=>w'.cell? ⟨bp,0,none⟩=some (S (R p.x))/\w'.cell? ⟨bp,1,none⟩=some (S (R p.y))/\w'.cell? ⟨ba,0,none⟩=some (S (R a.x))/\w'.cell? ⟨ba,1,none⟩=some (S (R a.y))/\w'.cell? ⟨ba+1,0,none⟩=some (S (R b.x))/\w'.cell? ⟨ba+1,1,none⟩=some (S (R b.y)))
  (first|with_reducible exact SO _ X0|with_reducible exact SO _ X5|with_reducible exact SO _ X6|with_reducible exact SO _ X7|with_reducible exact SO _ (X7.alloc _)|with_reducible exact SO _ X8)
  (first|((with_reducible refine(c1 _ (hV.ext X0)).mono ?_);rintro e w5 ⟨rfl,Ae⟩;have X5:Ab V w5:=X0.trans Ae)|((with_reducible refine(c2 _ (hV.ext X5)).mono ?_);rintro e w6 ⟨rfl,AG⟩;have X6:Ab V w6:=X5.trans AG)|((with_reducible refine(c3 _ (hV.ext X6)).mono ?_);rintro e w7 ⟨rfl,Aw⟩;have X7:Ab V w7:=X6.trans Aw;have Ds:=Ao6 w7 (.cells #[.int .i64 (x-y),.int .i64 (-z)] 3);have g0:=Aa (o:=0) Ds rfl;have g1:=Aa (o:=1) Ds rfl;clear Ds)|((with_reducible refine(Uy w7.heap.size 0 _ g0 g1).mono ?_);rintro e w8 ⟨rfl,AX⟩;have X8:Ab V w8:=(X7.alloc _).trans AX))
 go_wp2;go_ret;exact⟨rfl,hE.trans X8⟩
section
open Go.Sort Go.Shelf
structure RP(p:Pt)(l:List Pt):Prop where
 sz:∀q∈l,Az 200 q
 ne:∀q∈l,q≠p
 ap:∀a∈l,∀b∈l,D3 p a b=0→a=b
abbrev JO(l:List Pt):={q:Pt // q∈l}
def Dh(p:Pt)(l:List Pt):List Pt:=l.mergeSort (fun a b=>!decide (D3 p b a<0))
theorem UC(p:Pt)(l:List Pt):(Dh p l).Perm l:=List.mergeSort_perm _ _
def Oj(p:Pt)(l:List Pt)(a b:JO l):Int:=D3 p a.1 b.1
theorem Sq{p:Pt}{l:List Pt}(x y:JO l):ltOf (Oj p l) x y=decide (D3 p x.1 y.1<0):=rfl
theorem Adg(p a:Pt):D3 p a a=0:=(sO p a a).2 ⟨rfl,AbI p a⟩
theorem AkF(q:Rat):AZ (-q) = -AZ q:=by unfold AZ;grind
theorem Adf(p a b:Pt):D3 p b a = -D3 p a b:=by
 unfold D3;rw [Z1,AkF]
 split<;>split<;>omega
theorem sP{p:Pt}{l:List Pt}(h:RP p l):SWO (ltOf (Oj p l)) where
 irrefl x:=by rw [Sq,decide_eq_false_iff_not,Adg];omega
 trans x y z h1 h2:=by rw [Sq,decide_eq_true_iff]at *;exact Adl (h.ne _ x.2) (h.ne _ y.2) (h.ne _ z.2) h1 h2
 ntrans x y z h1 h2:=by rw [Sq,decide_eq_false_iff_not]at *;exact Adj (h.ne _ x.2) (h.ne _ y.2) (h.ne _ z.2) h1 h2
theorem Adk{p:Pt}{l:List Pt}(h:RP p l)(x y:JO l)(h1:ltOf (Oj p l) x y=false)(h2:ltOf (Oj p l) y x=false):x=y:=by
 rw [Sq,decide_eq_false_iff_not]at h1 h2;have:=Adf p x.1 y.1;exact Subtype.ext (h.ap _ x.2 _ y.2 (by omega))
def MN{l:List Pt}(q:JO l):List Value:=[S (R q.1.x),S (R q.1.y)]
theorem ZW{l:List Pt}(q:JO l):(MN q).length=2:=rfl
theorem Ad2{l:List Pt}(q:JO l):∀v∈MN q,v.oneCell'=true:=by
 intro v hv;simp only [MN,List.mem_cons,AoI,or_false]at hv
 rcases hv with rfl|rfl<;>rfl
theorem tA{l:List Pt}(m:List (JO l)):m.flatMap MN=flat (Aq (m.map (·.1))):=by
 induction m with
 | nil=>rfl
 | cons x m ih=>
  rw [List.flatMap_cons,ih]
  rfl
theorem Adi{p:Pt}{l:List Pt}(h:RP p l)(hp:Az 200 p)[Inhabited (JO l)]{w0 w:World}(hw:Am w0)(hx:Ab w0 w){blk bp:Nat}(hb:w0.heap.size<=blk)(Au:w.heap[bp]?=some (.cells #[S (R p.x),S (R p.y)] 24))(hne:bp≠blk)(off size:Nat) :
  CmpLays Tryz.prog 151 #[.pointer (some ⟨bp,0,none⟩)] MN 2 (Oj p l) blk off size w:=by
 refine iZ fun W hg x y=>?_;have hbW:=(hg.block bp (Ao5 Au) (by intro e;cases e;exact hne rfl)).trans Au;exact AkS p x.1 y.1 hp (h.sz _ x.2) (h.sz _ y.2) (by omega) (by omega) W (hw.ext (S2 hx hg hb)) bp hbW
theorem AkT{p:Pt}{l:List Pt}(h:RP p l)(hp:Az 200 p)(hl:l≠[])(hlen:l.length<100000){w0 w:World}(hw:Am w0)(hx:Ab w0 w){v:Value}(hv:w.ownsRow w0.heap.size 24 2 v l.length (flat (Aq l)))
  {bp:Nat} (Au:w.heap[bp]?=some (.cells #[S (R p.x),S (R p.y)] 24)) (hne:v.ownBlock≠some bp) :
  Calls Tryz.prog 135 #[v,.func (.func 151) #[] #[.pointer (some ⟨bp,0,none⟩)]] w fun e w'=>
   e=.returned (.tuple #[])/\w.grownBy w' v.ownBlock/\w'.ownsRow w0.heap.size 24 2 v l.length (flat (Aq (Dh p l))):=by
 obtain⟨q0,AY⟩:=List.exists_mem_of_ne_nil l hl
 haveI:Inhabited (JO l):=⟨⟨q0,AY⟩⟩
 obtain⟨d,hd⟩:=Ao3 (l.attach.toArray:Array (JO l));have En:d.size=l.length:=(by rw [hd];simp);have WQ:d.toList.map (·.1)=l:=by rw [hd];simp
 have hv':w.ownsRow w0.heap.size 24 2 v d.size (d.toList.flatMap MN):=by rw [tA,WQ,En];exact hv
 have Cl:0<d.size:=(by rw [En];exact List.length_pos_iff.2 hl);obtain⟨g,cap,rfl,hgb,Tz,hH,hown⟩:=fO ZW (by omega) hv' Cl;have eg:∀args w,(callFunc 151 args).run Tryz.prog w=.ok (.enter 151 args) w:=enters_of Tryz.func151 (by kernel_rfl) rfl;have hbg:bp≠g:=(by intro e;rw [e]at hne;exact hne rfl);refine(AnyQ.slices_SortFunc Tryz.laysSortPt 2 Tryz.isAgg24 Tryz.sizeOf24 MN ZW Ad2 (Oj p l) (sP h) 151 #[.pointer (some ⟨bp,0,none⟩)] g 0 cap d w eg (Adi h hp hw hx hgb Au hbg 0 d.size) hH Tz (by omega)).mono ?_;rintro e w' ⟨he,d',n,os,h1,h2,rfl⟩;have hu:=sorted_unique_holds (lt:=ltOf (Oj p l)) (sP h) (Adk h) d d' h1 h2;have hsz:d'.size=d.size:=(by have:=congrArg List.length hu;simpa using this);refine⟨he,PR MN 2 w g 0 n d' os,?_⟩;have ho:=U2 (ZW (l:=l)) (by omega) hv' hsz n os;rw [tA]at ho
 have hm:d'.toList.map (·.1)=Dh p l:=by rw [hu];unfold Dh;rw [List.map_mergeSort (s:=fun a b=>!decide (D3 p b a<0)) (fun a _ b _=>by rw [Sq]),WQ]
 rw [hm,En]at ho;rw [En];exact ho
end
section
open Go.ChangeMaps (setBlock)
def Io(R0:List (Pt×List Pt))(seen:List Nat):List (Pt×List Pt):=R0.mapIdx fun i e=>if i∈seen then (e.1,Dh e.1 e.2)else e
theorem Pf(R0:List (Pt×List Pt))(seen:List Nat):(Io R0 seen).length=R0.length:=by simp [Io]
theorem Re(R0:List (Pt×List Pt))(seen:List Nat){i:Nat}(h:i<R0.length)(h':i<(Io R0 seen).length):(Io R0 seen)[i]=if i∈seen then (R0[i].1,Dh R0[i].1 R0[i].2)else R0[i]:=by
 simp [Io]
theorem AjZ(R0:List (Pt×List Pt)):Io R0 []=R0:=by
 apply List.ext_getElem
 ·exact Pf _ _
 ·intro i h1 h2;rw [Re R0 [] h2 h1,if_neg (by simp)]
theorem AjY(R0:List (Pt×List Pt)){seen:List Nat}(h:∀i,i<R0.length→i∈seen):Io R0 seen=R0.map (fun e=>(e.1,Dh e.1 e.2)):=by
 apply List.ext_getElem
 ·rw [Pf];simp
 ·intro i h1 h2;have h3:i<R0.length:=(by simpa using h2);rw [Re R0 seen h3 h1,if_pos (h i h3)];simp
theorem Aka(R0:List (Pt×List Pt))(seen:List Nat){i:Nat}(hi:i<R0.length)(hn:i∉seen)(h':i<(Io R0 seen).length):Io R0 (seen ++ [i])=(Io R0 seen).set i ((Io R0 seen)[i].1,Dh R0[i].1 R0[i].2):=by
 apply List.ext_getElem
 ·rw [List.length_set,Pf,Pf]
 ·intro j h1 h2;have hj:j<R0.length:=(by rw [Pf]at h1;exact h1);rw [Re R0 _ hj h1];by_cases Bu:i=j
  ·subst Bu;rw [List.getElem_set_self,Re R0 seen hj h',if_pos (by simp),if_neg hn]
  ·rw [List.getElem_set_ne Bu,Re R0 seen hj (by rw [Pf];exact hj)];have:j∈seen ++ [i]↔j∈seen:=(by simp;intro e;exact absurd e.symm Bu);simp only [this]
theorem BD.other{B:Nat}{W W':World}{r b1 b2:Nat}{L:List (Sg×Int)}{E:List (Pt×Value×Nat)}{R0:List (Pt×List Pt)}(h:BD B W r b1 b2 L E R0){k:Nat}{o:Obj}(hg:W.grownBy W' (some k))(ho:W.heap[k]?=some o)
  (hc:∀cs e,o≠.cells cs e (0,0)) (hm:∀es c,o≠.map es c):BD B W' r b1 b2 L E R0:=by
 have far:∀(j:Nat) (o':Obj),W.heap[j]?=some o'→o'≠o→W'.heap[j]?=some o':=by intro j o' hj hne;refine(hg.block j (Ao5 hj) ?_).trans hj;intro e;simp only [AoB]at e;subst e;rw [hj]at ho;simp only [AoB]at ho;exact hne ho
 refine⟨far _ _ h.cell (fun e=>hc _ _ e.symm),far _ _ h.left (fun e=>hm _ _ e.symm),⟨far _ _ h.ar.blk (fun e=>hm _ _ e.symm),h.ar.len,fun i hi hi'=>⟨(h.ar.row i hi hi').1,(h.ar.row i hi hi').2.1,(h.ar.row i hi hi').2.2.kept hg ?_⟩,h.ar.apart,h.ar.own⟩,h.r0,h.r1,h.ne⟩
 rcases(h.ar.row i hi hi').2.2.2 with⟨hv,_⟩|⟨g,cap,cur,hv,_,hgb,_⟩
 ·left;rw [hv];rfl
 ·right
  rw [hv];simp only [Value.ownBlock,ne_eq,AoB];intro e;subst e;rw [hgb]at ho;simp only [AoB]at ho;exact hc _ _ ho.symm
theorem BD.sorted{B:Nat}{W W':World}{r b1 b2:Nat}{L:List (Sg×Int)}{E:List (Pt×Value×Nat)}{R0:List (Pt×List Pt)}(h:BD B W r b1 b2 L E R0){i:Nat}(hi:i<E.length)(hi':i<R0.length){l':List Pt}(hl:l'.length=R0[i].2.length)
  (hg:W.grownBy W' E[i].2.1.ownBlock) (ho:W'.ownsRow B 24 2 E[i].2.1 R0[i].2.length (flat (Aq l'))):BD B W' r b1 b2 L E (R0.set i (R0[i].1,l')):=by
 have far:∀(j:Nat) (o':Obj),W.heap[j]?=some o'→(∀cs,o'≠.cells cs 24 (0,0))→W'.heap[j]?=some o':=by
  intro j o' hj hne;refine(hg.block j (Ao5 hj) ?_).trans hj;intro e
  rcases(h.ar.row i hi hi').2.2.2 with⟨hv,_⟩|⟨g,cap,cur,hv,_,hgb,_⟩
  ·rw [hv]at e;simp [Value.ownBlock]at e
  ·rw [hv]at e;simp only [Value.ownBlock,AoB]at e;subst e;rw [hgb]at hj;simp only [AoB]at hj;exact hne _ hj.symm
 refine⟨far _ _ h.cell (fun cs e=>by cases e),far _ _ h.left (fun cs e=>by cases e),⟨far _ _ h.ar.blk (fun cs e=>by cases e),by rw [List.length_set];exact h.ar.len,fun j hj hj'=>?_,h.ar.apart,h.ar.own⟩,h.r0,h.r1,h.ne⟩;have Ns:j<R0.length:=(by rw [List.length_set]at hj';exact hj');by_cases Bu:i=j
 ·subst Bu;rw [List.getElem_set_self];refine⟨(h.ar.row i hi hi').1,(h.ar.row i hi hi').2.1,?_⟩;simp only [hl];exact ho
 ·rw [List.getElem_set_ne Bu];exact⟨(h.ar.row j hj Ns).1,(h.ar.row j hj Ns).2.1,(h.ar.row j hj Ns).2.2.kept hg (h.ar.apart j i hj hi (fun e=>Bu e.symm))⟩
structure oK(R0:List (Pt×List Pt)):Prop where
 row:∀e∈R0,RP e.1 e.2
 sz:∀e∈R0,Az 200 e.1
 ne:∀e∈R0,e.2≠[]
 len:∀e∈R0,e.2.length<100000
theorem BU.iter{b2:Nat}{w a b:World}{it:Nat}(h:BU b2 w a)(hg:a.grownBy b (some it))(hi:w.heap.size<=it):BU b2 w b:=by
 refine⟨AoH h.1 hg.size,fun k o h1 h2 h3=>?_⟩;have h4:=h.2 k o h1 h2 h3;have:=Ao5 h1;exact(hg.block k (Ao5 h4) (by simp;omega)).trans h4
theorem BU.row{b2:Nat}{w a b:World}{v:Value}{B n:Nat}{xs:List Value}(h:BU b2 w a)(hg:a.grownBy b v.ownBlock)(ho:a.ownsRow B 24 2 v n xs):BU b2 w b:=by
 refine⟨AoH h.1 hg.size,fun k o h1 h2 h3=>?_⟩;have h4:=h.2 k o h1 h2 h3;refine(hg.block k (Ao5 h4) ?_).trans h4;intro e
 rcases ho.2 with⟨hv,_⟩|⟨g,cap,cur,hv,_,hgb,_⟩
 ·rw [hv]at e;simp [Value.ownBlock]at e
 ·rw [hv]at e;simp only [Value.ownBlock,AoB]at e;subst e;rw [hgb]at h4;simp only [AoB]at h4;exact h3 _ h4.symm
theorem AkC{n:Nat}{seen:List Nat}(C6:seen.Nodup)(hlt:∀i∈seen,i<n)(hlen:seen.length=n):∀i,i<n→i∈seen:=by
 intro i hi;refine Classical.byContradiction fun hn=>?_;have h1:(i::seen).Nodup:=List.nodup_cons.2 ⟨hn,C6⟩
 have h2:(i::seen) ⊆ List.range n:=by
  intro j hj
  rcases List.mem_cons.1 hj with rfl|hj
  ·simpa using hi
  ·simpa using hlt j hj
 have:=h1.length_le_of_subset h2;simp at this;omega
theorem sort_c{w0 w:World}(hw:Am w0)(hx:Ab w0 w){r b1 b2:Nat}{L:List (Sg×Int)}{E:List (Pt×Value×Nat)}{R0:List (Pt×List Pt)}(h:BD w0.heap.size w r b1 b2 L E R0)(hR:oK R0) :
  Calls Tryz.prog 104 #[.pointer (some ⟨r,0,none⟩)] w fun e w'=>e=.returned (.tuple #[])/\Ab w0 w'/\BU b2 w w'/\BD w0.heap.size w' r b1 b2 L E (R0.map (fun e=>(e.1,Dh e.1 e.2))):=by
 have n1:=Aa (o:=1) h.cell rfl;obtain⟨hr1,hr2⟩:=Da.range (enc:=Ak) (E:=E) (t:=96) Tryz.underlying96 (W:=w) (b:=b2) h.ar.blk;have O4:=hx.alloc (.mapIter (some b2) E.length #[] E.length);have hS1:BU b2 w (w.alloc (.mapIter (some b2) E.length #[] E.length)):=BU.of_ext ((Ab.refl w).alloc _);have GM:=h.ext ((Ab.refl w).alloc (.mapIter (some b2) E.length #[] E.length));have HR:=Ao4 hR;have Dq:=h.ar.len;have hst:∀i (h':i<E.length),E[i].2.2=i:=fun i hi=>(h.ar.row i hi (by rw [←Dq];exact hi)).2.1;have hit:w.heap.size<=w.heap.size:=Ao7 _;have hB:=hx.size;have hlt2:=h.ar.lt;have HST:=Ao4 hst;have Pp:=Ao4 Dq;clear hst hR Dq;go_enter Tryz.func104,Tryz.ntmps104
 go_upto_region 1 with fail
 generalize w.alloc (.mapIter (some b2) E.length #[] E.length)=V at *;obtain⟨it,T8⟩:=Ao3 w.heap.size;have Af1:w.heap.size<=it:=(by omega);rw [←T8]at hr2 ⊢;clear hr1 T8 hit h n1
 go_loopw [3] (fun _ wr=>∃(seen:List Nat),Da wr it b2 E seen/\Ab w0 wr/\BU b2 w wr/\BD w0.heap.size wr r b1 b2 L E (Io R0 seen)) (fun _ wr=>E.length-(wr.iterSeen it).size)
 case atStart=>exact⟨[],hr2,O4,hS1,by rw [AjZ];exact GM⟩
 case round=>
  obtain⟨seen,hI,Cd,MZ,Qa⟩:=hrel
  rcases Da.next Ak hI Qa.ar.blk HST.out (by omega) 0 with⟨hlen,hrun⟩|⟨i,hi,GY,W1,EW,hG1,hs1,hrun,hen⟩
  ·have hall:=AjY R0 (AkC hI.nd (by rw [←Pp.out];exact hI.lt) (by rw [←Pp.out];exact hlen));rw [hall]at Qa;have HN:=Ao4 Qa;clear Qa hI;go_wp2
   go_end0
   exact⟨rfl,Cd,MZ,HN.out⟩
  ·have LA:i<R0.length:=(by rw [←Pp.out];exact hi);have WW:i<(Io R0 seen).length:=(by rw [Pf];exact LA);have FA:=Fh hI
   have hlen':seen.length<E.length:=by
    have h2:(i::seen) ⊆ List.range E.length:=by
     intro j hj
     rcases List.mem_cons.1 hj with rfl|hj
     ·simpa using hi
     ·simpa using hI.lt j hj
    have:=(List.nodup_cons.2 ⟨GY,hI.nd⟩).length_le_of_subset h2;simp at this;omega
   have CW:Ab w0 W1:=S2 Cd hG1 (by omega);have wC:=MZ.iter hG1 Af1;have Kc:=Qa.other hG1 hI.it (fun _ _ e=>by cases e) (fun _ _ e=>by cases e);have GT:=hen W1 rfl rfl;have hrow:=Kc.ar.row i hi WW;have EG:=Re R0 seen LA WW;rw [if_neg GY]at EG;have hkey:E[i].1=R0[i].1:=(by rw [hrow.1,EG]);have hown:=hrow.2.2;rw [EG]at hown;have Ai:=HR.out.row R0[i] (Ao8 LA);have TR:=HR.out.sz R0[i] (Ao8 LA);have Jz:=HR.out.ne R0[i] (Ao8 LA);have EH:=HR.out.len R0[i] (Ao8 LA);have FG:=Aka R0 seen LA GY WW;obtain⟨v,hv⟩:=Ao3 (E[i].2.1);obtain⟨p,hp⟩:=Ao3 (R0[i].1);obtain⟨l,hl⟩:=Ao3 (R0[i].2);rw [hkey,←hp,←hv]at GT;rw [hkey,←hp,←hv]at hrun;rw [←hv,←hl]at hown;rw [←hp,←hl]at Ai FG;rw [←hp]at TR;rw [←hl]at Jz EH;have Cq:=Ao6 W1 (.cells #[S (R p.x),S (R p.y)] 24);have E3:=(Ab.refl W1).alloc (.cells #[S (R p.x),S (R p.y)] 24);have C0:=CW.trans E3;have cG:=wC.trans (BU.of_ext E3);have GN:=Kc.ext E3;have SK:=EW.keep (E3.block it (Ao5 EW.it))
   have Er:(W1.alloc (.cells #[S (R p.x),S (R p.y)] 24)).ownsRow w0.heap.size 24 2 v l.length (flat (Aq l)):=hown.kept (GK E3 none) (by
    rcases hv':v.ownBlock with _|g
    ·exact .inl rfl
    ·exact .inr (by simp))
   have fC:v.ownBlock≠some W1.heap.size:=by
    rcases hown.2 with⟨e,_⟩|⟨g,cap,cur,e,_,hgb,_⟩
    ·rw [e];simp [Value.ownBlock]
    ·rw [e];have:=Ao5 hgb;simp only [Value.ownBlock,ne_eq,AoB];omega
   have cs:=AkT Ai TR Jz EH hw C0 Er Cq fC;have HV:=Ao4 hv;have HL:=Ao4 (And.intro hl EG);have M5:=Ao4 FG;clear hen hrow hkey hown Ai TR Jz EH Cq Kc CW wC Qa Cd MZ hI EW hv hp hl EG FG hG1 E3;unfold Ak at GT hrun
   go_upto_region 3 with fail
   unfold S at C0 cG GN SK Er cs;rw [hs1]at cs;generalize (W1.alloc (.cells #[.string ⟨(R p.x).toArray⟩,.string ⟨(R p.y).toArray⟩] 24))=W3 at *;(go_wp2_with fail);(with_reducible refine cs.mono ?_);rintro e W4 ⟨rfl,hg4,Du⟩
   have DF:=SK.keep (hg4.block it (Ao5 SK.it) (by
    intro e
    rcases Er.2 with⟨e2,_⟩|⟨g,cap,cur,e2,_,hgb,_⟩
    ·rw [e2]at e;simp [Value.ownBlock]at e
    ·rw [e2]at e;simp only [Value.ownBlock,AoB]at e;subst e;have:=SK.it;rw [hgb]at this
     cases this))
   have I7:Ab w0 W4:=C0.grownOwn hg4 Er (Ao7 _);have hS4:=cG.row hg4 Er;have H8:=GN.sorted hi WW (l':=Dh p l) (by rw [HL.out.2,←HL.out.1];exact(UC p l).length_eq) (by rw [←HV.out];exact hg4) (by rw [←HV.out,HL.out.2,←HL.out.1];exact Du);rw [←M5.out]at H8;have HN4:=Ao4 H8;clear H8 GN Er Du hg4 cs SK C0 cG;go_wp2;go_roundw
   case rel=>exact⟨seen ++ [i],DF,I7,hS4,HN4.out⟩
   case measure=>rw [FA,Fh DF,List.length_append,List.length_singleton];omega
end
section
open Go.ChangeMaps (setBlock)
section
variable {α : Type} {enc : α → Value} {same : α → α → Bool}
theorem lG{mt kt et:TypeId}{z:Value}(K:JM mt kt et z enc same)(k:α)(l:List (α×Value×Nat))(hno:∀e∈l,same k e.1=false)(v:Value){b clock:Nat}{W:World}(hb:W.heap[b]?=some (.map (AN enc l).toArray clock)) :
  (Instr.mapUpdate mt (.map (some b)) (enc k) v).run Tryz.prog W=.ok () (setBlock W b (.map (AN enc (l ++ [(k,v,clock)])).toArray (clock+1))):=by
 have hf:=S4 K k l W
 have hi:FH same k l=none:=by unfold FH;rw [List.findIdx?_eq_none_iff];exact hno
 rw [hi]at hf;simp only [Option.bind_none]at hf
 have e0:AN enc l ++ [{key:=enc k,val:=v,born:=clock}]=AN enc (l ++ [(k,v,clock)]):=by simp [AN]
 simp [Instr.mapUpdate,run_underlying K.map,MapKept.run_getObj_map hb,K.chk,hf,MapKept.run_setObj_map _ hb,Result.andThen,setBlock,e0]
end
theorem kf:JM 218 140 4 (.bool false) AC Be where
 map:=Tryz.underlying218
 st:=⟨_,Tryz.underlying140⟩
 zero:=fun W=>by simp [go_sem]
 eq:=tG
 chk:=rA
 iff:=Ip
 bits:=fun x=>by unfold AC;simp [Instr.sameBits,beq_toListBytes]
def JE(L:List (Sg×Value)):List (Sg×Value×Nat):=L.mapIdx fun i e=>(e.1,e.2,i)
theorem Ale(L:List (Sg×Value))(e:Sg×Value):JE (L ++ [e])=JE L ++ [(e.1,e.2,L.length)]:=by simp [JE,List.mapIdx_append]
theorem Ald{L:List (Sg×Value)}{x:Sg×Value×Nat}(h:x∈JE L):∃e∈L,x.1=e.1/\x.2.1=e.2:=by
 unfold JE at h;rw [List.mem_mapIdx]at h;obtain⟨i,hi,rfl⟩:=h;exact⟨L[i],Ao8 hi,rfl,rfl⟩
def XE(z:Value)(k:Sg)(L:List (Sg×Value)):Value:=match L.find? (fun e=>Be k e.1)with|some e=>e.2|none=>z
theorem AhF(z:Value)(k:Sg)(L:List (Sg×Value)):FI Be z k (JE L)=XE z k L:=by
 have h:∀(L:List (Sg×Value)) (n:Nat),(L.mapIdx fun i e=>(e.1,e.2,i+n)).find? (fun e=>Be k e.1)=(L.findIdx? (fun e=>Be k e.1)).bind fun j=>(L[j]?).map fun e=>(e.1,e.2,j+n):=by
  intro L
  induction L with
  | nil=>intro n;simp
  | cons e L ih=>
   intro n;rw [List.mapIdx_cons,List.find?_cons,List.findIdx?_cons];simp only
   cases hb:Be k e.1
   ·simp only;have:=ih (n+1)
    have e1:(L.mapIdx fun i e=>(e.1,e.2,i+1+n))=L.mapIdx fun i e=>(e.1,e.2,i+(n+1)):=by congr 1;funext i e;rw [show i+1+n=i+(n+1)by omega]
    rw [e1,this]
    cases L.findIdx? (fun e=>Be k e.1)with
    | none=>simp
    | some j=>
     simp only [Bool.false_eq_true,if_false,Option.map_some,Option.bind_some,List.getElem?_cons_succ]
     congr 1;funext e;rw [show j+(n+1)=j+1+n by omega]
   ·simp
 have h2:∀(L:List (Sg×Value)),L.find? (fun e=>Be k e.1)=(L.findIdx? (fun e=>Be k e.1)).bind fun j=>L[j]?:=by
  intro L
  induction L with
  | nil=>simp
  | cons e L ih=>
   rw [List.find?_cons,List.findIdx?_cons]
   cases hb:Be k e.1
   ·simp only [ih]
    cases L.findIdx? (fun e=>Be k e.1)<;>simp
   ·simp
 unfold FI XE JE;have h0:=h L 0;simp only [Nat.add_zero]at h0;rw [h0,h2]
 cases L.findIdx? (fun e=>Be k e.1)with
 | none=>rfl
 | some j=>
  simp only [Option.bind_some]
  cases L[j]?<;>rfl
def IS(U:List Sg):List (Sg×Value):=U.map fun s=>(s,.bool true)
def Eg(W:World)(b:Nat)(U:List Sg):Prop:=W.heap[b]?=some (.map (AN AC (JE (IS U))).toArray U.length)
theorem AhH(k:Sg)(U:List Sg):XE (.bool false) k (IS U)=.bool (U.any (Be k)):=by
 induction U with
 | nil=>rfl
 | cons u U ih=>
  unfold XE IS at *;rw [List.map_cons,List.find?_cons,List.any_cons]
  cases hb:Be k u
  ·simp only [Bool.false_or];exact ih
  ·simp
theorem Eg.look{W:World}{b:Nat}{U:List Sg}(h:Eg W b U)(s:Sg):(Instr.lookup 218 (.map (some b)) (AC s) false).run Tryz.prog W=.ok (.bool (U.any (Be s))) W:=by
 rw [Rf kf s (JE (IS U)) h,AhF,AhH]
theorem Eg.put{W:World}{b:Nat}{U:List Sg}(h:Eg W b U)(s:Sg)(hno:U.any (Be s)=false) :
  ∃W',(Instr.mapUpdate 218 (.map (some b)) (AC s) (.bool true)).run Tryz.prog W=.ok () W'/\Eg W' b (U ++ [s])/\W.grownBy W' (some b)/\W'.heap.size=W.heap.size:=by
 refine⟨_,lG kf s (JE (IS U)) ?_ (.bool true) h,?_,Ll h,by simp [setBlock]⟩
 ·intro e he;obtain⟨x,hx,h1,_⟩:=Ald he;unfold IS at hx;rw [List.mem_map]at hx;obtain⟨u,hu,rfl⟩:=hx;rw [h1];rw [List.any_eq_false]at hno
  simpa using hno u hu
 ·unfold Eg;rw [Mi h];have e1:IS (U ++ [s])=IS U ++ [(s,.bool true)]:=(by simp [IS]);have e2:(IS U).length=U.length:=(by simp [IS]);rw [e1,Ale,e2];simp
structure AD(K:Nat→Prop)(w w':World):Prop where
 os:w'.os=w.os
 tape:w'.tape=w.tape
 output:w'.output=w.output
 size:w.heap.size<=w'.heap.size
 block:∀k,k<w.heap.size→¬K k→w'.heap[k]?=w.heap[k]?
theorem AD.refl(K:Nat→Prop)(w:World):AD K w w:=⟨rfl,rfl,rfl,Ao7 _,fun _ _ _=>rfl⟩
theorem AD.ext{K:Nat→Prop}{w a b:World}(h:AD K w a)(hx:Ab a b):AD K w b:=
 ⟨hx.os.trans h.os,hx.tape.trans h.tape,hx.output.trans h.output,AoH h.size hx.size,fun k hk hn=>(hx.block k (AoG hk h.size)).trans (h.block k hk hn)⟩
theorem AD.grown{K:Nat→Prop}{w a b:World}{row:Option Nat}(h:AD K w a)(hg:a.grownBy b row)(hr:∀k,row=some k→K k∨w.heap.size<=k):AD K w b:=by
 refine⟨hg.os.trans h.os,hg.tape.trans h.tape,hg.output.trans h.output,AoH h.size hg.size,fun k hk hn=>(hg.block k (AoG hk h.size) ?_).trans (h.block k hk hn)⟩;intro e
 rcases hr k e.symm with h1|h1
 ·exact hn h1
 ·omega
theorem AD.own{K:Nat→Prop}{w a b:World}{B:Nat}{e:TypeId}{s n:Nat}{v:Value}{xs:List Value}(h:AD K w a)(hg:a.grownBy b v.ownBlock)(ho:a.ownsRow B e s v n xs)(hB:w.heap.size<=B):AD K w b:=
 h.grown hg fun k hk=>.inr (AoH hB (ho.lt k hk).1)
theorem AD.cells{K:Nat→Prop}{w a:World}{k:Nat}{o:Obj}(h:AD K w a)(hk:w.heap[k]?=some o)(hn:¬K k):a.heap[k]?=some o:=(h.block k (Ao5 hk) hn).trans hk
theorem AD.setCell{K:Nat→Prop}{w a:World}(h:AD K w a){p:Addr}(hp:K p.block∨w.heap.size<=p.block)(v:Value):AD K w (a.setCell p v):=by
 refine⟨h.os,h.tape,h.output,by rw [World.size_setCell];exact h.size,fun k hk hn=>?_⟩
 have hne:k≠p.block:=by
  intro e
  rcases hp with hp|hp
  ·exact hn (e▸hp)
  ·omega
 rw [Below.heap_setCell _ _ _ _ hne];exact h.block k hk hn
theorem AD.toExt{K:Nat→Prop}{w0 w a:World}(h:AD K w a)(hx:Ab w0 w)(hK:∀k,K k→w0.heap.size<=k):Ab w0 a:=
 ⟨h.os.trans hx.os,h.tape.trans hx.tape,h.output.trans hx.output,AoH hx.size h.size,fun k hk=>(h.block k (AoG hk hx.size) (fun hh=>by have:=hK k hh;omega)).trans (hx.block k hk)⟩
theorem AD.trans{K:Nat→Prop}{a b c:World}(h:AD K a b)(k:AD K b c):AD K a c:=
 ⟨k.os.trans h.os,k.tape.trans h.tape,k.output.trans h.output,AoH h.size k.size,fun i hi hn=>(k.block i (AoG hi h.size) hn).trans (h.block i hi hn)⟩
theorem Tryz.infoStep:(Tryz.prog.info? 140).map (fun i=>(i.zero,i.size,i.bytes))=some (some (.agg #[S [],S [],S [],S []]),4,64):=by kernel_rfl
section
variable {ops : Array Oper} {rest : List Oper} {o : Oper} {a : Act} {Q : Exit → Act → World → Prop}
theorem AbB(hgd:o.guard=none)(s x:Operand)(ho:o.op=.call {callee:=.builtin .append,args:=#[s,x],argTypes:=#[143,143]})
  (wN:World) (base:Nat) (v:Value) (n:Nat) (l:List Sg) (hs:a.eval s=v) (hown:wN.ownsRow base 140 4 v n (Cu l)) (hn:n<200000) (d:Sg)
  (g:Nat) (hb:wN.heap[g]?=some (.cells #[S (R d.a.x),S (R d.a.y),S (R d.b.x),S (R d.b.y)] 140)) (hx:a.eval x=.slice (some ⟨g,0,none⟩) 1 1) (hbase:base<=wN.heap.size)
  (h:∀v' w',w'.ownsRow base 140 4 v' (n+1) (Cu (l ++ [d]))→wN.grownBy w' v.ownBlock→wpList Tryz.prog ops Q rest (a.put o.dst v') w') :
  wpList Tryz.prog ops Q (o::rest) a wN:=by
 obtain⟨i0,hi,hz0,hz1,hz2⟩:=info_parts Tryz.infoStep;refine wpList_plain hgd fun K hK=>UF s x 143 ho 140 i0 _ 4 64 Tryz.underlying143 hi hz0 hz1 hz2 rfl (by omega) (by omega) wN base v n _ hs hown hn g _ hb rfl ?_ hx hbase ?_
 ·intro u hu;simp only [List.mem_cons,AoI,or_false]at hu
  rcases hu with rfl|rfl|rfl|rfl<;>rfl
 ·intro v' w' h1 _ h3;exact hK _ _ (h v' w' (by rw [r7];exact h1) h3)
theorem Tryz.infoSteps:(Tryz.prog.info? 143).map (fun i=>(i.zero,i.size,i.bytes))=some (some (.slice none 0 0),1,24):=by kernel_rfl
theorem appRow(hgd:o.guard=none)(s x:Operand)(ho:o.op=.call {callee:=.builtin .append,args:=#[s,x],argTypes:=#[168,168]})
  (wN:World) (base:Nat) (v:Value) (n:Nat) (vs:List Value) (hs:a.eval s=v) (hown:wN.ownsRow base 143 1 v n vs) (hn:n<200000) (d:Value) (hd:d.oneCell'=true)
  (g:Nat) (hb:wN.heap[g]?=some (.cells #[d] 143)) (hx:a.eval x=.slice (some ⟨g,0,none⟩) 1 1) (hbase:base<=wN.heap.size)
  (h:∀v' w',w'.ownsRow base 143 1 v' (n+1) (vs ++ [d])→wN.grownBy w' v.ownBlock→wpList Tryz.prog ops Q rest (a.put o.dst v') w') :
  wpList Tryz.prog ops Q (o::rest) a wN:=by
 obtain⟨i0,hi,hz0,hz1,hz2⟩:=info_parts Tryz.infoSteps;refine wpList_plain hgd fun K hK=>UF s x 168 ho 143 i0 _ 1 24 Tryz.underlying168 hi hz0 hz1 hz2 rfl (by omega) (by omega) wN base v n _ hs hown hn g _ hb rfl ?_ hx hbase ?_
 ·intro u hu;simp only [List.mem_cons,AoI,or_false]at hu;rw [hu];exact hd
 ·intro v' w' h1 _ h3;exact hK _ _ (h v' w' h1 h3)
end
end
section
open Go.Sort
def Zw:Code:=Code.region 2 #[{dst:=some 5,op:=Op.alloc 140,type:=0,pos:= "iter.go:51",after:=#[],guard:=none},{dst:=none,op:=Op.store 140 (Operand.tmp 5) (Operand.tmp 7),type:=0,pos:= "iter.go:51",after:=#[{on:=0,ground:=Ground.data},{on:=0,ground:=Ground.phase}],guard:=none}] false
def Zy:Code:=Code.block 1 (Code.region 3 #[{dst:=some 8,op:=Op.load 143 (Operand.tmp 2),type:=143,pos:= "iter.go:52",after:=#[],guard:=none},{dst:=some 9,op:=Op.load 140 (Operand.tmp 5),type:=140,pos:= "iter.go:52",after:=#[],guard:=none},{dst:=some 10,op:=Op.buildSlice 143 1 #[(0,Operand.tmp 9)],type:=143,pos:= "iter.go:52",after:=#[{on:=1,ground:=Ground.data}],guard:=none},{dst:=some 11,op:=Op.call {callee:=Callee.builtin Builtin.append,args:=#[Operand.tmp 8,Operand.tmp 10],argTypes:=#[143,143]},type:=143,pos:= "iter.go:52",after:=#[{on:=0,ground:=Ground.data},{on:=2,ground:=Ground.data}],guard:=none},{dst:=none,op:=Op.store 143 (Operand.tmp 2) (Operand.tmp 11),type:=0,pos:= "iter.go:52",after:=#[{on:=3,ground:=Ground.data},{on:=3,ground:=Ground.chain},{on:=0,ground:=Ground.phase},{on:=1,ground:=Ground.phase},{on:=2,ground:=Ground.phase},{on:=3,ground:=Ground.phase}],guard:=none}] false)
def apRec(fn:FuncId)(sv:Value)(Bs D:Nat)(st:LoopState)(pend:Option Code):Loop:=
 {state:=st,pending:=pend,fn,tmps:=#[.slice none 0 0,sv,.pointer (some ⟨Bs,0,none⟩),undef,.slice none 0 0,undef,sv,undef,undef,undef,undef,undef,undef],params:=#[7],assign:=Zw,body:=Zy,defers:=D}
structure ApAt(w0:World)(fn:FuncId)(sv:Value)(Bs l D:Nat)(ss:List Sg)(W:World):Prop where
 box:∃v,W.heap[Bs]?=some (.cells #[v] 143 (0,0))/\W.ownsRow w0.heap.size 140 4 v ss.length (Cu ss)
 L:W.heap[l]?=some (.loop (apRec fn sv Bs D .ready none))
 K:W.heap[D]?=some (.deferred (some []))
 below:Below w0.heap.size w0 W
theorem ownsRow_abides{W W':World}{row:Option Nat}{base:Nat}{e:TypeId}{size:Nat}{v:Value}{k:Nat}{xs:List Value}(h:W.ownsRow base e size v k xs)(hg:W.grownBy W' row)
  (hrow:∀r,row=some r→∃o:Obj,W.heap[r]?=some o/\o.isWalk=true):W'.ownsRow base e size v k xs:=by
 refine h.kept hg ?_
 rcases h.2 with⟨rfl,_⟩|⟨g,cap,cur,rfl,_,hgb,_⟩
 ·exact .inl rfl
 ·refine .inr fun e'=>?_;obtain⟨o,ho,hw⟩:=hrow g (by simpa [Value.ownBlock]using e'.symm);rw [hgb]at ho;cases ho;cases hw
theorem ap_abides(w0:World)(fn:FuncId)(sv:Value)(Bs l D B:Nat)(hB:w0.heap.size<=B):AbidesFrom B (ApAt w0 fn sv Bs l D):=fun s W W' row h hg hrow=>by
 have hrow':∀r,row=some r→∃o:Obj,W.heap[r]?=some o/\o.isWalk=true:=fun r e=>(hrow r e).2;obtain⟨v,hv,hr⟩:=h.box
 exact⟨⟨v,(grownBy_keeps hg hrow' hv rfl).trans hv,ownsRow_abides hr hg hrow'⟩,(grownBy_keeps hg hrow' h.L rfl).trans h.L,(grownBy_keeps hg hrow' h.K rfl).trans h.K,
  h.below.grown hg h.below.size (fun k e=>AoH hB (hrow k e).1)⟩
theorem grownBy_putObj(W:World)(l:Nat)(o:Obj):W.grownBy (W.putObj l o) (some l):=
 ⟨rfl,rfl,rfl,by simp,fun k _ hk=>World.putObj_heap_other (fun e=>hk (by rw [e]))⟩
theorem grownBy_setCell0(W:World)(b:Nat)(v:Value):W.grownBy (W.setCell ⟨b,0,none⟩ v) (some b):=
 ⟨rfl,rfl,rfl,(KeepsWalks.setCell W _ v).size,fun k _ hk=>Below.heap_setCell _ _ _ k (fun e=>hk (by rw [e]))⟩
theorem ownsRow_ne{W:World}{base:Nat}{e:TypeId}{size:Nat}{v:Value}{k:Nat}{xs:List Value}(h:W.ownsRow base e size v k xs){j:Nat}{o:Obj}(hj:W.heap[j]?=some o)(hno:∀cur,o≠.cells cur e (0,0)) :
  v.ownBlock=none∨v.ownBlock≠some j:=by
 rcases h.2 with⟨rfl,_⟩|⟨g,cap,cur,rfl,_,hgb,_⟩
 ·exact .inl rfl
 ·refine .inr fun e'=>?_;have:g=j:=(by simpa [Value.ownBlock]using e');subst this;rw [hgb]at hj;cases hj;exact hno cur rfl
theorem cell_of_box{W:World}{B:Nat}{v:Value}{t:TypeId}(h:W.heap[B]?=some (.cells #[v] t (0,0))):W.cell? ⟨B,0,none⟩=some v/\W.frozen? ⟨B,0,none⟩=false:=by
 constructor<;>simp [World.cell?,World.frozen?,h]
theorem heap_setCell_box{W:World}{B:Nat}{v:Value}{t:TypeId}(v':Value)(h:W.heap[B]?=some (.cells #[v] t (0,0))):(W.setCell ⟨B,0,none⟩ v').heap[B]?=some (.cells #[v'] t (0,0)):=by
 obtain⟨hlt,hk⟩:=Array.getElem?_eq_some_iff.1 h;show (W.heap.modify B _)[B]?=_;rw [Array.getElem?_eq_getElem (by rw [Array.size_modify];exact hlt),Array.getElem_modify_self,hk]
 rfl
theorem ownsRow_not_walk{W:World}{base:Nat}{e:TypeId}{size:Nat}{v:Value}{k:Nat}{xs:List Value}(h:W.ownsRow base e size v k xs):∀(j:Nat) (o:Obj),v.ownBlock=some j→W.heap[j]?=some o→o.isWalk=false:=by
 intro j o hj ho
 rcases h.2 with⟨rfl,_⟩|⟨g,cap,cur,rfl,_,hgb,_⟩
 ·simp [Value.ownBlock]at hj
 ·have:g=j:=(by simpa [Value.ownBlock]using hj);subst this;rw [hgb]at ho;cases ho;rfl
theorem Acx(W:World)(a b c d:Value)(t:TypeId):∀(j:Nat) (u:Value),[a,b,c,d][j]?=some u→(W.alloc (.cells #[a,b,c,d] t)).cell? ((⟨W.heap.size,0,none⟩:Addr).add j)=some u:=by
 intro j u hu;rw [Addr.add_lit,Nat.zero_add];refine Aa (Ao6 W (.cells #[a,b,c,d] t)) ?_;rw [←Array.getElem?_toList];exact hu
theorem apYield (F : Fence) (m : Nat) (w0 : World) (fn : FuncId) (hfn : F.fn fn) (sv : Value) (Bs l D : Nat) (hBl : Bs ≠ l) (hDl : D ≠ l) (hDB : D ≠ Bs) (h0B : w0.heap.size ≤ Bs) (h0l : w0.heap.size ≤ l)
    (N : Nat) (hN : N ≤ 200000) (ss : List Sg) (x : Sg) (W : World) (h : ApAt w0 fn sv Bs l D ss W) (hlen : ss.length < N) :
    YieldAt F m Tryz.prog l #[AC x] W fun e W' => e = .returned (.bool true) ∧ ApAt w0 fn sv Bs l D (ss ++ [x]) W' ∧ KeepsWalks W W' := by
  have hne : 143 ≠ 140 := by decide
  obtain ⟨i0, hi, hz0, hz1, hz2⟩ := info_parts Tryz.infoStep
  obtain ⟨v, hv, hrow⟩ := h.box
  refine ⟨fn, #[.slice none 0 0, sv, .pointer (some ⟨Bs, 0, none⟩), undef, .slice none 0 0, undef, sv, AC x, undef, undef, undef, undef, undef], Zw, Zy, by simpa [apRec] using run_yield (P := Tryz.prog) (args := #[AC x]) h.L rfl, roundIn_of_wpIn hfn ?_⟩
  have hka : KeepsWalks W (W.alloc (.cells #[S (R x.a.x), S (R x.a.y), S (R x.b.x), S (R x.b.y)] 140)) := KeepsWalks.alloc _ _
  have ha := ap_abides w0 fn sv Bs l D W.heap.size h.below.size ss W _ none h (GK ((Ab.refl W).alloc (.cells #[S (R x.a.x), S (R x.a.y), S (R x.b.x), S (R x.b.y)] 140)) none) (fun r e => by cases e)
  have Gc := Ao6 W (.cells #[S (R x.a.x), S (R x.a.y), S (R x.b.x), S (R x.b.y)] 140)
  have TE : l < W.heap.size := (Array.getElem?_eq_some_iff.1 h.L).1
  unfold Zw
  unfold AC
  gi_wp2_with (rw [Oper.semAt_eq _ _ _ (fun c h => by cases h)]; go_simp; try go_bits)
  obtain ⟨bv, Ds⟩ := Ao3 W.heap.size
  rw [← Ds] at Gc TE ⊢
  unfold S at ha Gc hka
  clear Ds h hv hrow
  generalize dA : W.alloc (.cells #[.string ⟨(R x.a.x).toArray⟩, .string ⟨(R x.a.y).toArray⟩, .string ⟨(R x.b.x).toArray⟩, .string ⟨(R x.b.y).toArray⟩] 140) = Wa at *
  clear dA
  obtain ⟨v, hv, hrow⟩ := ha.box
  have hl : l < Wa.heap.size := (Array.getElem?_eq_some_iff.1 ha.L).1
  have hbr := run_beginRound (P := Tryz.prog) ha.L rfl
  obtain ⟨W2, hW2⟩ : ∃ W2, Wa.putObj l (.loop { apRec fn sv Bs D .ready none with state := .busy }) = W2 := ⟨_, rfl⟩
  rw [hW2] at hbr
  have hg2 : Wa.grownBy W2 (some l) := by rw [← hW2]; exact grownBy_putObj _ _ _
  have hk2 : KeepsWalks Wa W2 := by rw [← hW2]; exact KeepsWalks.putObj _ ha.L rfl
  have hv2 : W2.heap[Bs]? = some (.cells #[v] 143 (0, 0)) := by rw [← hW2]; exact (World.putObj_heap_other hBl).trans hv
  have Cf : W2.heap[bv]? = some (.cells #[S (R x.a.x), S (R x.a.y), S (R x.b.x), S (R x.b.y)] 140) := by rw [← hW2]; exact (World.putObj_heap_other (by omega)).trans Gc
  have hK2 : W2.heap[D]? = some (.deferred (some [])) := by rw [← hW2]; exact (World.putObj_heap_other hDl).trans ha.K
  have hL2 : W2.heap[l]? = some (.loop { apRec fn sv Bs D .ready none with state := .busy }) := by rw [← hW2]; exact World.putObj_heap_same hl
  have hrow2 : W2.ownsRow w0.heap.size 140 4 v ss.length (Cu ss) := hrow.kept hg2 (ownsRow_ne hrow ha.L (fun cur e => by first | cases e | exact hne (Obj.cells.inj e).2.1))
  have hb2 : Below w0.heap.size w0 W2 := ha.below.grown hg2 ha.below.size (fun k e => by cases e; exact h0l)
  obtain ⟨hc2, hf2⟩ := cell_of_box hv2
  have hBlt : Bs < W2.heap.size := (Array.getElem?_eq_some_iff.1 hv2).1
  have hl2 : l < W2.heap.size := (Array.getElem?_eq_some_iff.1 hL2).1
  have hDlt : D < W2.heap.size := (Array.getElem?_eq_some_iff.1 hK2).1
  have ne_of : ∀ {j : Nat} {o : Obj}, W2.heap[j]? = some o → (∀ cur, o ≠ .cells cur 140 (0, 0)) → some j ≠ v.ownBlock := fun hj hno => by
    rcases ownsRow_ne hrow2 hj hno with e | e
    · rw [e]; simp
    · exact fun e' => e e'.symm
  have q0 := Aa (o := 0) Cf rfl
  have q1 := Aa (o := 1) Cf rfl
  have q2 := Aa (o := 2) Cf rfl
  have q3 := Aa (o := 3) Cf rfl
  have fC : W2.heap.size ≠ l := by omega
  clear hW2 ha hv hrow Gc Cf
  refine ⟨W2, hbr, ?_⟩
  unfold Zy
  gi_wp2_with (first
    | (gi_at_builtin; refine wpListIn_append_own _ rfl _ _ 143 rfl w0.heap.size 140 i0 (.agg #[S [], S [], S [], S []]) 4 64 Tryz.underlying143 hi hz0 hz1 hz2 rfl (by decide) _ _ _ rfl (hrow2.alloc _) ⟨W2.heap.size, 0, none⟩ 1 1 [S (R x.a.x), S (R x.a.y), S (R x.b.x), S (R x.b.y)] rfl rfl (Acx _ _ _ _ _ _) (by simp [Value.oneCell']) (by unfold maxLen; omega) (by omega) (by have := hb2.size; simp; omega) ?_; intro v' w3 hown' hg3 hnil3
       have hv3 : w3.heap[Bs]? = some (.cells #[v] 143 (0, 0)) := (hg3.block Bs (by simp; omega) (ne_of hv2 (fun cur e => by first | cases e | exact hne (Obj.cells.inj e).2.1))).trans ((Below.heap_alloc _ _ Bs hBlt).trans hv2)
       obtain ⟨hc3, hf3⟩ := cell_of_box hv3
       obtain ⟨g', cap', cur', rfl, hbase', hgb', hr1, hr2, hr3, hr4⟩ : ∃ g' cap' cur', v' = .slice (some ⟨g', 0, none⟩) (ss.length + 1) cap' ∧ w0.heap.size ≤ g' ∧ w3.heap[g']? = some (.cells cur' 140 (0, 0)) ∧ ss.length + 1 ≤ cap' ∧ cap' ≤ maxLen ∧ cur'.size = cap' * 4 ∧ cur'.toList.take ((ss.length + 1) * 4) = Cu ss ++ [S (R x.a.x), S (R x.a.y), S (R x.b.x), S (R x.b.y)] := by
         rcases hown'.2 with ⟨_, h0⟩ | h'
         · exact absurd h0 (by omega)
         · exact h'
       go_frame)
    | (rw [Oper.semAt_eq _ _ _ (fun c h => by cases h)]; go_simp; try go_bits))
  have hg3' : (W2.alloc (.cells #[S (R x.a.x), S (R x.a.y), S (R x.b.x), S (R x.b.y)] 140)).grownBy w3 v.ownBlock := hg3
  have hL3 : w3.heap[l]? = some (.loop { apRec fn sv Bs D .ready none with state := .busy }) := (hg3'.block l (by simp; omega) (ne_of hL2 (fun cur e => by first | cases e | exact hne (Obj.cells.inj e).2.1))).trans ((Below.heap_alloc _ _ l hl2).trans hL2)
  have hK3 : w3.heap[D]? = some (.deferred (some [])) := (hg3'.block D (by simp; omega) (ne_of hK2 (fun cur e => by first | cases e | exact hne (Obj.cells.inj e).2.1))).trans ((Below.heap_alloc _ _ D hDlt).trans hK2)
  obtain ⟨w4, hw4⟩ : ∃ w4, w3.setCell ⟨Bs, 0, none⟩ (.slice (some ⟨g', 0, none⟩) (ss.length + 1) cap') = w4 := ⟨_, rfl⟩
  rw [hw4]
  have hg4 : w3.grownBy w4 (some Bs) := by rw [← hw4]; exact grownBy_setCell0 _ _ _
  have hv4 : w4.heap[Bs]? = some (.cells #[.slice (some ⟨g', 0, none⟩) (ss.length + 1) cap'] 143 (0, 0)) := by rw [← hw4]; exact heap_setCell_box _ hv3
  have hL4 : w4.heap[l]? = some (.loop { apRec fn sv Bs D .ready none with state := .busy }) := (hg4.block l (Array.getElem?_eq_some_iff.1 hL3).1 (fun e => hBl (by cases e; rfl))).trans hL3
  have hK4 : w4.heap[D]? = some (.deferred (some [])) := (hg4.block D (Array.getElem?_eq_some_iff.1 hK3).1 (fun e => hDB (by cases e; rfl))).trans hK3
  have hrow4 := hown'.kept hg4 (ownsRow_ne hown' hv3 (fun cur e => by first | cases e | exact hne (Obj.cells.inj e).2.1))
  have hl4 : l < w4.heap.size := (Array.getElem?_eq_some_iff.1 hL4).1
  have hb3 : Below w0.heap.size w0 w3 := (hb2.alloc hb2.size _).grown hg3' (by have := hb2.size; simp; omega) (fun k e => (hrow2.lt k e).1)
  have hb4 : Below w0.heap.size w0 w4 := hb3.grown hg4 hb3.size (fun k e => by cases e; exact h0B)
  have hk4 : KeepsWalks W w4 := (hka.trans ((hk2.trans (KeepsWalks.alloc _ _)).trans (KeepsWalks.of_grownBy hg3' (ownsRow_not_walk (hrow2.alloc _))))).trans (by rw [← hw4]; exact KeepsWalks.setCell _ _ _)
  clear hw4
  refine ⟨_, _, run_endRound none hL4, rfl, ⟨⟨_, (World.putObj_heap_other hBl).trans hv4, ?_⟩, World.putObj_heap_same hl4, (World.putObj_heap_other hDl).trans hK4, hb4.grown (grownBy_putObj _ _ _) hb4.size (fun k e => by cases e; exact h0l)⟩, hk4.trans (KeepsWalks.putObj _ hL4 rfl)⟩
  have := hrow4.kept (grownBy_putObj w4 l (.loop { { apRec fn sv Bs D .ready none with state := .busy } with state := if (none : Option Code).isNone then .ready else .done, pending := none })) (ownsRow_ne hrow4 hL4 (fun cur e => by first | cases e | exact hne (Obj.cells.inj e).2.1))
  rw [r7]
  simpa using this
end
section
open Go.Sort
theorem appendSeq_in(F:Fence)(n:Nat)(h11:F.fn 184)(hro:F.round=none)(hn:2<=n)(g:Nat)(lb:Array Value)(hFg:F.fn g)(eg:∀args w,(callFunc g args).run Tryz.prog w=.ok (.enter g args) w)
  (S:List Sg→Prop) (N:Nat) (hN:N<=200000) (w:World) (hseq:SeqGives F (n-1) Tryz.prog g lb AC S N w) :
  CallsIn F n Tryz.prog 184 #[.slice none 0 0,.func (.func g) #[] lb] w fun e w'=>∃(v:Value) (ss:List Sg),e=.returned v/\S ss/\w'.ownsRow w.heap.size 140 4 v ss.length (Cu ss)/\Below w.heap.size w w':=by
 have h1:1<=n:=(by omega);have hne:143≠140:=(by decide);refine callsIn_of_wp_marks Tryz.func184 rfl h11 ?_ hro;simp only [Tryz.ntmps184,List.size_toArray,List.length_cons,List.length_nil,Nat.reduceAdd,Nat.reduceSub,Array.replicate_succ,Array.replicate_zero,List.push_toArray,List.append_toArray,List.nil_append,List.cons_append];gi_wp2;refine wpIn_rangeFunc ?_;intro fn hfn;rw [hro];obtain⟨W0,hW0⟩:∃W0,w.alloc (.cells #[.slice none 0 0] 143)=W0:=⟨_,rfl⟩;have hs0:W0.heap.size=w.heap.size+1:=(by rw [←hW0];simp);have hv0:W0.heap[w.heap.size]?=some (.cells #[.slice none 0 0] 143 (0,0)):=(by rw [←hW0];exact World.alloc_heap_new w _);have hb0:Below w.heap.size w W0:=(by rw [←hW0];exact(Below.refl _ w).alloc (Ao7 _) _);rw [hW0];obtain⟨W1,hW1⟩:∃W1,(W0.alloc (.deferred (some []))).alloc (.loop (apRec fn (.func (.func g) #[] lb) w.heap.size W0.heap.size .ready none))=W1:=⟨_,rfl⟩
 have hold:∀k,k<W0.heap.size→W1.heap[k]?=W0.heap[k]?:=fun k hk=>by rw [←hW1];exact(Below.heap_alloc _ _ k (by simp;omega)).trans (Below.heap_alloc _ _ k hk)
 have hb1:Below w.heap.size w W1:=(by rw [←hW1];exact(hb0.alloc hb0.size _).alloc (by have:=hb0.size;simp;omega) _);have hs1:W1.heap.size=W0.heap.size+2:=by rw [←hW1];simp
 have hM:ApAt w fn (.func (.func g) #[] lb) w.heap.size (W0.heap.size+1) W0.heap.size [] W1:=
  ⟨⟨_,(hold w.heap.size (by omega)).trans hv0,⟨rfl,.inl ⟨rfl,rfl⟩⟩⟩,
   by rw [←hW1];have:=World.alloc_heap_new (W0.alloc (.deferred (some []))) (.loop (apRec fn (.func (.func g) #[] lb) w.heap.size W0.heap.size .ready none));rwa [AoE]at this,
   by rw [←hW1];exact(Below.heap_alloc _ _ _ (by simp)).trans (World.alloc_heap_new W0 _),hb1⟩
 refine⟨W0.heap.size+1,[{target:=.collected W0.heap.size,args:=#[]}],W1,{target:=.fn (.func g) lb,args:=#[.func (.yield (W0.heap.size+1)) #[] #[]]},W1,g,
  #[.func (.yield (W0.heap.size+1)) #[] #[]]++lb,W1,?_,?_,?_,?_,fun _=>h1,?_⟩
 ·rw [←hW1];exact run_enterLoop_outer _ _ _ _ _
 ·simp [resolve,go_sem]
 ·intro f' hf';simp [Target.leads]at hf';subst hf';exact hFg
 ·simp [invoke,go_sem,eg]
 ·refine(hseq (W0.heap.size+1) (ApAt w fn (.func (.func g) #[] lb) w.heap.size (W0.heap.size+1) W0.heap.size) W1 hb1 (ap_abides _ _ _ _ _ _ _ hb1.size)
   (fun pre x W hJ hl=>apYield F (n-1-1) w fn hfn _ w.heap.size (W0.heap.size+1) W0.heap.size (by omega) (by omega) (by omega) (Ao7 _) (by omega) N hN pre x W hJ hl) hM).mono ?_
  rintro e W2 ⟨⟨v0,rfl⟩,ss,hS,h2⟩;obtain⟨v,hv,hrow⟩:=h2.box;have hend:=run_endLoop (P:=Tryz.prog) h2.L (by simp [apRec]);obtain⟨W3,hW3⟩:∃W3,W2.putObj (W0.heap.size+1) (.loop {apRec fn (.func (.func g) #[] lb) w.heap.size W0.heap.size .ready none with state:=.exhausted})=W3:=⟨_,rfl⟩;rw [hW3]at hend;have hg3:W2.grownBy W3 (some (W0.heap.size+1)):=(by rw [←hW3];exact grownBy_putObj _ _ _);have hv3:W3.heap[w.heap.size]?=some (.cells #[v] 143 (0,0)):=(by rw [←hW3];exact(World.putObj_heap_other (by omega)).trans hv);have hK3:W3.heap[W0.heap.size]?=some (.deferred (some [])):=(by rw [←hW3];exact(World.putObj_heap_other (by omega)).trans h2.K);have hrow3:=hrow.kept hg3 (ownsRow_ne hrow h2.L (fun cur e=>by first|cases e|exact hne (Obj.cells.inj e).2.1));have hb3:Below w.heap.size w W3:=h2.below.grown hg3 h2.below.size (fun k e=>by cases e;omega);obtain⟨hc3,hf3⟩:=cell_of_box hv3;clear hW3;refine⟨none,W3,hend,?_⟩;gi_wp2;rw [←hs0];refine⟨by simp,.inl ⟨_,_,rfl,run_takeDeferred hK3,?_⟩⟩;exact⟨_,results_tmp rfl _ _ _,v,ss,rfl,hS,hrow3.kept (grownBy_putObj _ _ _) (ownsRow_ne hrow3 hK3 (fun cur e=>by first|cases e|exact hne (Obj.cells.inj e).2.1)),hb3.grown (grownBy_putObj _ _ _) hb3.size (fun k e=>by cases e;omega)⟩
end
section
open Go.Sort
theorem collect_in(F:Fence)(n:Nat)(h8:F.fn 138)(h11:F.fn 184)(hro:F.round=none)(hn:3<=n)(g:Nat)(lb:Array Value)(hFg:F.fn g)(eg:∀args w,(callFunc g args).run Tryz.prog w=.ok (.enter g args) w)
  (S:List Sg→Prop) (N:Nat) (hN:N<=200000) (w:World) (hseq:SeqGives F (n-1-1) Tryz.prog g lb AC S N w) :
  CallsIn F n Tryz.prog 138 #[.func (.func g) #[] lb] w fun e w'=>∃(v:Value) (ss:List Sg),e=.returned v/\S ss/\w'.ownsRow w.heap.size 140 4 v ss.length (Cu ss)/\Below w.heap.size w w':=by
 have h1:1<=n:=(by omega);have e11:∀args w,(callFunc 184 args).run Tryz.prog w=.ok (.enter 184 args) w:=enters_of Tryz.func184 (by kernel_rfl) rfl;refine callsIn_of_wp Tryz.func138 rfl h8 ?_ hro;simp only [Tryz.ntmps138,List.size_toArray,List.length_cons,List.length_nil,Nat.reduceAdd,Nat.reduceSub,Array.replicate_succ,Array.replicate_zero,List.push_toArray,List.append_toArray,List.nil_append,List.cons_append];gi_wp2;refine(appendSeq_in F (n-1) h11 hro (by omega) g lb hFg eg S N hN _ hseq).mono ?_;rintro e w' ⟨v,ss,rfl,hS,hrow,hb⟩;gi_wp2;go_ret;exact⟨v,ss,rfl,hS,hrow,hb⟩
end
section
open Go.Sort
theorem Ah4(w:World):Calls Tryz.prog 232 #[.int .u64 0] w fun e w'=>e=.returned (.int .i64 0)/\w'=w:=by
 have e8:wrap64 (wrap64 (Lib.len8 0))=0:=(by decide +kernel);go_enter Tryz.func232,Tryz.ntmps232;go_wp2;go_ret;exact⟨by simp [e8],rfl⟩
theorem len_nil(w:World):Calls Tryz.prog 183 #[.int .u64 0] w fun e w'=>e=.returned (.int .i64 0)/\w'=w:=by
 have h:=Ah4;go_enter Tryz.func183,Tryz.ntmps183;(go_wp2_with fail);(with_reducible refine(h _).mono ?_);rintro e w1 ⟨rfl,rfl⟩;go_wp2;go_ret;exact⟨rfl,rfl⟩
theorem Ahc(fv:Value)(w:World):Calls Tryz.prog 233 #[.slice none 0 0,.int .i64 0,.int .i64 0,fv] w fun e w'=>e=.returned (.tuple #[])/\w'=w:=by
 go_enter Tryz.func233,Tryz.ntmps233;go_wp2;refine wp_loop_rounds 1 ?_;rw [rounds_succ];go_wp2
 go_end0
 exact⟨rfl,rfl⟩
theorem Ajc(lim:Int)(fv:Value)(w:World):Calls Tryz.prog 185 #[.slice none 0 0,.int .i64 0,.int .i64 0,.int .i64 lim,fv] w fun e w'=>e=.returned (.tuple #[])/\w'=w:=by
 have hi:=Ahc fv;go_enter Tryz.func185,Tryz.ntmps185;go_wp2;refine wp_loop_rounds 1 ?_;rw [rounds_succ];(go_wp2_with fail);(with_reducible refine(hi _).mono ?_);rintro e w1 ⟨rfl,rfl⟩;go_wp2
 (try simp only [Exit.inBlock,Exit.then]);refine bodyPost_ret (results_none rfl _ _ _) rfl ?_
 exact⟨rfl,rfl⟩
theorem AkW(fv:Value)(w:World):Calls Tryz.prog 139 #[.slice none 0 0,fv] w fun e w'=>e=.returned (.tuple #[])/\w'=w:=by
 have h1:=len_nil;have h2:=Ajc 0 fv;go_enter Tryz.func139,Tryz.ntmps139;(go_wp2_with fail);(with_reducible refine(h1 _).mono ?_);rintro e w1 ⟨rfl,rfl⟩;(go_wp2_with fail);(with_reducible refine(h2 _).mono ?_);rintro e w1 ⟨rfl,rfl⟩;go_wp2
 go_end0
 exact⟨rfl,rfl⟩
def BO(l:List Sg):List Sg:=l.mergeSort (fun x y=>!decide (Gg y x<0))
theorem JD(l:List Sg):(BO l).Perm l:=List.mergeSort_perm _ _
theorem lR{l:List Sg} : (BO l).Pairwise (fun x y=>¬Gg y x<0):=by
 have tr:∀a b c:Sg,(!decide (Gg b a<0))=true→(!decide (Gg c b<0))=true→(!decide (Gg c a<0))=true:=by
  intro a b c h1 h2;simp only [Bool.not_eq_true',decide_eq_false_iff_not,QH]at *
  grind
 have lY:∀a b:Sg,((!decide (Gg b a<0))||(!decide (Gg a b<0)))=true:=by
  intro a b;simp only [Bool.or_eq_true,Bool.not_eq_true',decide_eq_false_iff_not,QH]
  grind
 have h:=List.pairwise_mergeSort tr lY l;refine h.imp ?_;intro a b hab
 simpa using hab
theorem Alb{l m:List Sg}(h:l.Perm m):BO l=BO m:=by
 refine List.Perm.eq_of_pairwise (le:=fun x y=>¬Gg y x<0) ?_ lR lR (((JD l).trans h).trans (JD m).symm);intro a b _ _ h1 h2;rw [QH]at h1 h2;obtain⟨⟨a1,a2⟩,⟨a3,a4⟩⟩:=a;obtain⟨⟨b1,b2⟩,⟨b3,b4⟩⟩:=b;simp only [Sg.mk.injEq,Pt.mk.injEq]at *
 grind
theorem tC(m:List Way):m.flatMap GH=Cu (m.map (·.1)):=by
 induction m with
 | nil=>rfl
 | cons x m ih=>rw [List.flatMap_cons,ih];rfl
theorem AlP{l:List Sg}(h:∀s∈l,RR s):∃d:Array Way,d.toList.map (·.1)=l:=
 ⟨(l.attachWith RR h).toArray,by simp⟩
theorem uJ(w:World)(row:Option Nat):w.grownBy w row:=⟨rfl,rfl,rfl,Ao7 _,fun _ _ _=>rfl⟩
theorem AkV{w0 w:World}(hw:Am w0)(hx:Ab w0 w){B:Nat}(hB:w0.heap.size<=B)(l:List Sg)(hl:∀s∈l,RR s)(hlen:l.length<1000000){v:Value}(hv:w.ownsRow B 140 4 v l.length (Cu l)) :
  Calls Tryz.prog 139 #[v,.func (.func 87) #[] #[]] w fun e w'=>
   e=.returned (.tuple #[])/\w.grownBy w' v.ownBlock/\w'.ownsRow B 140 4 v l.length (Cu (BO l)):=by
 by_cases hn:l = []
 ·subst hn
  have hv':v=.slice none 0 0∨∃g cap,v=.slice (some ⟨g,0,none⟩) 0 cap:=by
   rcases hv.2 with⟨h,_⟩|⟨g,cap,cur,h,_⟩
   ·exact .inl h
   ·exact .inr ⟨g,cap,h⟩
  have e:BO [] = []:=(by unfold BO;simp);rw [e]
  rcases hv' with rfl|⟨g,cap,rfl⟩
  ·exact(AkW _ w).mono fun _ _ ⟨he,hw⟩=>⟨he,by subst hw;exact uJ _ _,by subst hw;exact hv⟩
  ·have hgb:g<w.heap.size/\w0.heap.size<=g:=by have:=hv.lt g rfl;omega
   refine(uq g 0 cap #[] w0 w hw hx hgb.2 (fun j hj=>by simp at hj) hgb.1 (by simp)).mono ?_;rintro e w' ⟨he,n,os,rfl⟩;refine⟨he,PR GH 4 w g 0 n _ os,?_⟩;have h2:w.ownsRow B 140 4 (.slice (some ⟨g,0,none⟩) (#[]:Array Way).size cap) (#[]:Array Way).size ((#[]:Array Way).toList.flatMap GH):=hv;have:=U2 VR (by omega) h2 (d':=(KG []).toArray) (by simp [KG]) n os
   simpa [KG,Cu]using this
 ·obtain⟨d,hd⟩:=AlP hl;have En:d.size=l.length:=by rw [←hd];simp
  have hv':w.ownsRow B 140 4 v d.size (d.toList.flatMap GH):=by rw [tC,hd,En];exact hv
  have Cl:0<d.size:=(by rw [En];exact List.length_pos_iff.2 hn);obtain⟨g,cap,rfl,hgb,Tz,hH,hown⟩:=fO VR (by omega) hv' Cl;refine(uq g 0 cap d w0 w hw hx (by omega) hH Tz (by omega)).mono ?_;rintro e w' ⟨he,n,os,rfl⟩;refine⟨he,PR GH 4 w g 0 n _ os,?_⟩;have ho:=U2 VR (by omega) hv' (d':=(KG d.toList).toArray) (by simp [KG]) n os
  have hm:(KG d.toList).map (·.1)=BO l:=by unfold KG BO;rw [List.map_mergeSort (r:=fun x y:Way=>!ltOf Iq y x) (f:=fun x:Way=>x.1) (s:=fun x y=>!decide (Gg y x<0)) (fun a _ b _=>rfl),hd]
  rw [tC,List.toList_toArray,hm,En]at ho;rw [En];exact ho
theorem lP{w0 w:World}(hw:Am w0)(hx:Ab w0 w)(Bm b:Nat)(L:List (Sg×Int))(hBm:Bm<w.heap.size)(hm:w.cell? ⟨Bm,0,none⟩=some (.map (some b)))(hb:w.heap[b]?=some (.map (AN AC (stamp L)).toArray L.length))
  (hL:∀e∈L,EP 200 e.1) (hlen:L.length<=200000) :
  Calls Tryz.prog 85 #[.func (.func 140) #[] #[.pointer (some ⟨Bm,0,none⟩)],.func (.func 87) #[] #[]] w fun e w'=>
   ∃v,e=.returned v/\w'.ownsRow w.heap.size 140 4 v L.length (Cu (BO (L.map (·.1))))/\Ab w w':=by
 have eg:∀args w,(callFunc 140 args).run Tryz.prog w=.ok (.enter 140 args) w:=enters_of Tryz.func140 (by kernel_rfl) rfl;have c1:=callsIn_wide.1 (collect_in Fence.wide 5 trivial trivial rfl (by omega) 140 #[.pointer (some ⟨Bm,0,none⟩)] trivial eg _ L.length hlen w (Ahy Fence.wide 3 trivial rfl (by omega) Bm b L w hBm hm hb));go_enter Tryz.func85,Tryz.ntmps85;(go_wp2_with fail);(with_reducible refine c1.mono ?_);rintro e w1 ⟨v,ss,rfl,hS,hrow,hbl⟩;have CB:Ab w w1:=hbl;have D8:ss.length=L.length:=by rw [hS.length_eq];simp
 have c2:=AkV hw (hx.trans CB) hx.size ss (fun s hs=>by
  have:=hS.mem_iff.1 hs;rw [List.mem_map]at this;obtain⟨e,he,rfl⟩:=this
  exact hL e he) (by omega) hrow
 have Dw:=Alb hS;rw [Dw,D8]at c2;rw [D8]at hrow;(go_wp2_with fail);(with_reducible refine c2.mono ?_);rintro e w2 ⟨rfl,hg,ho⟩;go_wp2;go_ret;exact⟨v,rfl,ho,CB.grownOwn hg hrow (Ao7 _)⟩
end
def rowOf(R0:List (Pt×List Pt))(p:Pt):List Pt:=match R0.find? (fun e=>Ax p e.1)with|some e=>e.2|none=>[]
theorem qp(p:Pt):Ax p p=true:=CP.2 rfl
theorem qo{p q:Pt} : Ax p q=false↔p≠q:=by
 rw [Bool.eq_false_iff];exact not_congr CP
theorem Mg(e:Pt×List Pt)(R0:List (Pt×List Pt))(p:Pt):rowOf (e::R0) p=if Ax p e.1=true then e.2 else rowOf R0 p:=by
 unfold rowOf;rw [List.find?_cons]
 cases h:Ax p e.1<;>simp
theorem Vv(p q:Pt):Dl [] p q = [(p,[q])]:=by simp [Dl,GE,Gl,List.modify]
theorem Vu(e:Pt×List Pt)(R0:List (Pt×List Pt))(p q:Pt):Dl (e::R0) p q=if Ax p e.1=true then (e.1,e.2 ++ [q])::R0 else e::Dl R0 p q:=by
 unfold Dl GE Gl;rw [List.findIdx?_cons]
 cases h:Ax p e.1
 ·simp only [Bool.false_eq_true,if_false]
  cases h2:R0.findIdx? (fun e=>Ax p e.1)with
  | none=>simp [List.modify_succ_cons]
  | some j=>simp [List.modify_succ_cons]
 ·simp
theorem lB(R0:List (Pt×List Pt))(p q p':Pt):rowOf (Dl R0 p q) p'=if Ax p' p=true then rowOf R0 p ++ [q] else rowOf R0 p':=by
 induction R0 with
 | nil=>
  rw [Vv,Mg];simp only
  cases h:Ax p' p<;>simp [rowOf]
 | cons e R0 ih=>
  rw [Vu];by_cases h:Ax p e.1=true
  ·rw [if_pos h,Mg,Mg,Mg,if_pos h];have he:=CP.1 h;simp only [←he];by_cases h2:Ax p' p=true
   ·rw [if_pos h2,if_pos h2]
   ·rw [if_neg h2,if_neg h2,if_neg h2]
  ·rw [if_neg h,Mg,Mg,Mg,if_neg h,ih];by_cases h2:Ax p' p=true
   ·have:=CP.1 h2;subst this;rw [if_neg h,if_pos h2,if_pos h2]
   ·rw [if_neg h2,if_neg h2]
theorem Abn(R0:List (Pt×List Pt))(p q:Pt):∀x,x∈(Dl R0 p q).map (·.1)↔x=p∨x∈R0.map (·.1):=by
 induction R0 with
 | nil=>intro x;rw [Vv];simp
 | cons e R0 ih=>
  intro x;rw [Vu];by_cases h:Ax p e.1=true
  ·rw [if_pos h];have:=CP.1 h;subst this;simp
  ·rw [if_neg h,List.map_cons,List.mem_cons,ih x,List.map_cons,List.mem_cons];constructor
   ·rintro(h1|h1|h1)
    ·exact .inr (.inl h1)
    ·exact .inl h1
    ·exact .inr (.inr h1)
   ·rintro(h1|h1|h1)
    ·exact .inr (.inl h1)
    ·exact .inl h1
    ·exact .inr (.inr h1)
theorem oU{R0:List (Pt×List Pt)}(h:(R0.map (·.1)).Nodup)(p q:Pt):((Dl R0 p q).map (·.1)).Nodup:=by
 induction R0 with
 | nil=>rw [Vv];simp
 | cons e R0 ih=>
  rw [List.map_cons,List.nodup_cons]at h;rw [Vu];by_cases h2:Ax p e.1=true
  ·rw [if_pos h2,List.map_cons,List.nodup_cons];exact h
  ·rw [if_neg h2,List.map_cons,List.nodup_cons];refine⟨?_,ih h.2⟩;rw [Abn];rintro(h3|h3)
   ·exact h2 (CP.2 h3.symm)
   ·exact h.1 h3
theorem oS{R0:List (Pt×List Pt)}(h:∀e∈R0,e.2≠[])(p q:Pt):∀e∈Dl R0 p q,e.2≠[]:=by
 induction R0 with
 | nil=>rw [Vv];simp
 | cons e R0 ih=>
  rw [Vu];intro x hx;by_cases h2:Ax p e.1=true
  ·rw [if_pos h2]at hx
   rcases List.mem_cons.1 hx with rfl|hx
   ·simp
   ·exact h x (List.mem_cons_of_mem _ hx)
  ·rw [if_neg h2]at hx
   rcases List.mem_cons.1 hx with rfl|hx
   ·exact h _ (List.mem_cons_self)
   ·exact ih (fun e he=>h e (List.mem_cons_of_mem _ he)) x hx
theorem rf{R0:List (Pt×List Pt)}(h:(R0.map (·.1)).Nodup){e:Pt×List Pt}(he:e∈R0):R0.find? (fun x=>Ax e.1 x.1)=some e:=by
 induction R0 with
 | nil=>cases he
 | cons x R0 ih=>
  rw [List.map_cons,List.nodup_cons]at h;rw [List.find?_cons]
  rcases List.mem_cons.1 he with rfl|he
  ·rw [qp]
  ·have:Ax e.1 x.1=false:=by rw [qo];intro hh;exact h.1 (hh▸List.mem_map_of_mem he)
   rw [this];exact ih h.2 he
structure Ft(W:List Sg)(R0:List (Pt×List Pt)):Prop where
 keys:(R0.map (·.1)).Nodup
 ne:∀e∈R0,e.2≠[]
 mem:∀p q,q∈rowOf R0 p↔(⟨p,q⟩:Sg)∈W
 back:∀s∈W,Bh s∈W
theorem jQ(pts:List Pt)(l:List EdZ):Ft ((AH pts l).map (·.1)) (BN pts l):=by
 have main:∀n,n<=l.length→Ft ((AH pts (l.take n)).map (·.1)) (BN pts (l.take n)):=by
  intro n
  induction n with
  | zero=>intro _;exact⟨by simp [BN],by simp [BN],by simp [BN,AH,rowOf],by simp [AH]⟩
  | succ n ih=>
   intro hn;have h:=ih (by omega);rw [AoA (by omega),XN,XO];generalize l[n]=e at *;generalize Bv pts e=s at *;refine⟨oU (oU h.keys _ _) _ _,oS (oS h.ne _ _) _ _,?_,?_⟩
   ·intro p q;rw [lB,lB,lB,List.map_append,List.mem_append];simp only [List.map_cons,List.map_nil,List.mem_cons,AoI,or_false,←h.mem];have e1:((⟨p,q⟩:Sg)=s)↔p=s.a/\q=s.b:=(by obtain⟨a,b⟩:=s;simp);have e2:((⟨p,q⟩:Sg)=Bh s)↔p=s.b/\q=s.a:=(by obtain⟨a,b⟩:=s;simp [Bh]);rw [e1,e2];by_cases h1:Ax p s.b=true
    ·have p1:=CP.1 h1;rw [if_pos h1];by_cases h2:Ax s.b s.a=true
     ·have p2:=CP.1 h2;rw [if_pos h2,←p2,←p1];simp only [List.mem_append,AoJ]
      grind
     ·rw [if_neg h2,←p1];have p2:¬s.b=s.a:=fun h=>h2 (CP.2 h);simp only [List.mem_append,AoJ]
      grind
    ·have p1:¬p=s.b:=fun h=>h1 (CP.2 h);rw [if_neg h1];by_cases h2:Ax p s.a=true
     ·have p2:=CP.1 h2;rw [if_pos h2,←p2];simp only [List.mem_append,AoJ]
      grind
     ·have p2:¬p=s.a:=fun h=>h2 (CP.2 h);rw [if_neg h2]
      grind
   ·intro x hx;rw [List.map_append,List.mem_append]at hx ⊢;simp only [List.map_cons,List.map_nil,List.mem_cons,AoI,or_false]at hx ⊢
    rcases hx with hx|rfl|rfl
    ·exact .inl (h.back x hx)
    ·exact .inr (.inr rfl)
    ·exact .inr (.inl rfl)
 have:=main l.length (Ao7 _)
 rwa [List.take_length]at this
theorem AjX(R0:List (Pt×List Pt))(p q:Pt):q∈rowOf (R0.map (fun e=>(e.1,Dh e.1 e.2))) p↔q∈rowOf R0 p:=by
 induction R0 with
 | nil=>simp [rowOf]
 | cons e R0 ih=>
  rw [List.map_cons,Mg,Mg];simp only;by_cases h1:Ax p e.1=true
  ·rw [if_pos h1,if_pos h1];exact(UC e.1 e.2).mem_iff
  ·rw [if_neg h1,if_neg h1];exact ih
theorem AgQ{l:List Pt}{p:Pt}(h:p∈l):∃j,j<l.length/\Et l p=(j:Int):=by
 unfold Et
 cases hf:l.findIdx? (Ax p)with
 | none=>
  rw [List.findIdx?_eq_none_iff]at hf;have:=hf p h;rw [qp]at this
  cases this
 | some j=>rw [List.findIdx?_eq_some_iff_getElem]at hf;exact⟨j,hf.1,rfl⟩
theorem Ft.sorted{W:List Sg}{R0:List (Pt×List Pt)}(h:Ft W R0):Ft W (R0.map (fun e=>(e.1,Dh e.1 e.2))):=by
 have hk:(R0.map (fun e=>(e.1,Dh e.1 e.2))).map (·.1)=R0.map (·.1):=(by rw [List.map_map];rfl);have hr:=AjX R0;refine⟨by rw [hk];exact h.keys,?_,fun p q=>by rw [hr];exact h.mem p q,h.back⟩;intro e he;rw [List.mem_map]at he;obtain⟨x,hx,rfl⟩:=he;have:=h.ne x hx;intro e0;have:=(UC x.1 x.2).length_eq;simp only at e0;rw [e0]at this;exact h.ne x hx (List.eq_nil_of_length_eq_zero this.symm)
def NB(R0:List (Pt×List Pt))(s:Sg):Sg:=⟨s.b,(rowOf R0 s.b).getD (((Et (rowOf R0 s.b) s.a).toNat+(rowOf R0 s.b).length-1)%(rowOf R0 s.b).length) ⟨0,0⟩⟩
theorem Ft.step{W:List Sg}{R0:List (Pt×List Pt)}(h:Ft W R0){s:Sg}(hs:s∈W) :
  ∃e,R0.find? (fun e=>Ax s.b e.1)=some e/\∃j m,∃_:j<e.2.length,Et e.2 s.a=(j:Int)/\∃hm:m<e.2.length,m=(j+e.2.length-1)%e.2.length/\NB R0 s=⟨s.b,e.2[m]⟩/\(⟨s.b,e.2[m]⟩:Sg)∈W:=by
 have hb:s.a∈rowOf R0 s.b:=(h.mem s.b s.a).2 (h.back s hs)
 have hr:rowOf R0 s.b=match R0.find? (fun e=>Ax s.b e.1)with|some e=>e.2|none=>[]:=rfl
 cases hf:R0.find? (fun e=>Ax s.b e.1)with
 | none=>rw [hr,hf]at hb;cases hb
 | some e=>
  rw [hf]at hr;simp only at hr;rw [hr]at hb;obtain⟨j,hj,hi⟩:=AgQ hb;have hl:0<e.2.length:=(by omega);have hm:(j+e.2.length-1)%e.2.length<e.2.length:=Nat.mod_lt _ hl;refine⟨e,rfl,j,_,hj,hi,hm,rfl,?_,?_⟩
  ·unfold NB;rw [hr,hi];simp only [Int.toNat_natCast];rw [List.getD_eq_getElem?_getD,AoC hm];rfl
  ·refine(h.mem s.b _).1 ?_;rw [hr];exact Ao8 hm
theorem Ft.next{W:List Sg}{R0:List (Pt×List Pt)}(h:Ft W R0){s:Sg}(hs:s∈W):NB R0 s∈W:=by
 obtain⟨e,_,j,m,_,_,hm,_,h1,h2⟩:=h.step hs;rw [h1];exact h2
def Vr(W:List Sg):Prop:=∀s∈W,∀t∈W,s≠t→s≠Bh t→FT s.a s.b t.a t.b
theorem Vr.good{W:List Sg}(h:Vr W):KN W:=by
 intro s hs t ht h1 h2 hne;refine h s hs t ht hne ?_;rintro rfl;simp only [Bh]at h1
 grind
theorem AlO(pts:List Pt)(l:List EdZ)(h3:Ej pts [] l=0):Vr ((AH pts l).map (·.1)):=by
 have hx:∀i j,(hi:i<l.length)→(hj:j<l.length)→i<j→FT (Bv pts l[j]).a (Bv pts l[j]).b (Bv pts l[i]).a (Bv pts l[i]).b:=by intro i j hi hj Bu;have:=rE h3 j hj;rw [List.nil_append,List.any_eq_false]at this;have h1:=this l[i] (by rw [List.mem_take_iff_getElem];exact⟨i,by omega,rfl⟩);rw [Bool.not_eq_true]at h1;exact Aiq h1
 have hy:∀i j,(hi:i<l.length)→(hj:j<l.length)→i≠j→FT (Bv pts l[i]).a (Bv pts l[i]).b (Bv pts l[j]).a (Bv pts l[j]).b:=by
  intro i j hi hj Bu
  rcases Nat.lt_or_gt_of_ne Bu with h|h
  ·exact(hx i j hi hj h).symm
  ·exact hx j i hj hi h
 have mem:∀s,s∈(AH pts l).map (·.1)→∃i,∃hi:i<l.length,s=Bv pts l[i]∨s=Bh (Bv pts l[i]):=by
  intro s hs;rw [List.mem_map]at hs;obtain⟨x,hx,rfl⟩:=hs;unfold AH at hx;rw [List.mem_flatMap]at hx;obtain⟨e,he,hx⟩:=hx;obtain⟨i,hi,rfl⟩:=List.getElem_of_mem he;simp only [List.mem_cons,AoI,or_false]at hx
  rcases hx with rfl|rfl
  ·exact⟨i,hi,.inl rfl⟩
  ·exact⟨i,hi,.inr rfl⟩
 intro s hs t ht h1 h2;obtain⟨i,hi,es⟩:=mem s hs;obtain⟨j,hj,et⟩:=mem t ht
 have Bu:i≠j:=by
  rintro rfl
  rcases es with rfl|rfl<;>rcases et with rfl|rfl
  ·exact h1 rfl
  ·exact h2 rfl
  ·exact h2 rfl
  ·exact h1 rfl
 have hn:=hy i j hi hj Bu
 rcases es with rfl|rfl<;>rcases et with rfl|rfl
 ·exact hn
 ·exact hn.right
 ·exact hn.left
 ·exact hn.left.right
structure P9(W:List Sg):Prop where
 x:Vr W
 sz:∀s∈W,EP 200 s
 ne:∀s∈W,s.a≠s.b
theorem rh{W:List Sg}{R0:List (Pt×List Pt)}(hW:P9 W)(hN:Ft W R0)(hlen:∀e∈R0,e.2.length<100000):oK R0:=by
 have hm:∀e∈R0,∀q∈e.2,(⟨e.1,q⟩:Sg)∈W:=by intro e he q hq;refine(hN.mem e.1 q).1 ?_;unfold rowOf;rw [rf hN.keys he];exact hq
 refine⟨?_,?_,hN.ne,hlen⟩
 ·intro e he;refine⟨fun q hq=>(hW.sz _ (hm e he q hq)).b,fun q hq h=>hW.ne _ (hm e he q hq) h.symm,?_⟩;intro a ha b hb h0;refine Classical.byContradiction fun hab=>hab ?_;have na:a≠e.1:=fun h=>hW.ne _ (hm e he a ha) h.symm;have nb:b≠e.1:=fun h=>hW.ne _ (hm e he b hb) h.symm;refine Adh (hW.x _ (hm e he a ha) _ (hm e he b hb) ?_ ?_) na nb h0
  ·intro h;simp only [Sg.mk.injEq,true_and]at h;exact hab h
  ·intro h;simp only [Bh,Sg.mk.injEq]at h;exact nb h.1.symm
 ·intro e he;obtain⟨q,hq⟩:=List.exists_mem_of_ne_nil _ (hN.ne e he);exact(hW.sz _ (hm e he q hq)).a
def Hk(R0:List (Pt×List Pt)):Nat→List Sg→Sg→List Sg→List Sg×List Sg
 | 0,U,_,c=>(U,c)
 | n+1,U,s,c=>if U.any (Be s)=true then (U,c)else Hk R0 n (U ++ [s]) (NB R0 s) (c ++ [s])
def Gn(N:Nat)(R0:List (Pt×List Pt))(st:List Sg×List (List Sg))(s:Sg):List Sg×List (List Sg):=
 ((Hk R0 (N-st.1.length+1) st.1 s []).1,if 0<(Hk R0 (N-st.1.length+1) st.1 s []).2.length then st.2 ++ [(Hk R0 (N-st.1.length+1) st.1 s []).2] else st.2)
def Hz(W:List Sg)(R0:List (Pt×List Pt)):List (List Sg):=((BO W).foldl (Gn W.length R0) ([],[])).2
theorem Vx{U:List Sg}{s:Sg} : U.any (Be s)=true↔s∈U:=by
 rw [List.any_eq_true];constructor
 ·rintro⟨x,hx,h⟩;rw [Ip]at h;exact h▸hx
 ·intro h;exact⟨s,h,Ip.2 rfl⟩
theorem pJ{U:List Sg}{s:Sg} : U.any (Be s)=false↔s∉U:=by
 rw [←Vx,Bool.not_eq_true]
theorem Kt{U W:List Sg}(h:U.Nodup)(hs:∀s∈U,s∈W):U.length<=W.length:=h.length_le_of_subset hs
theorem lD{W:List Sg}{R0:List (Pt×List Pt)}(hN:Ft W R0):∀(n:Nat) (U:List Sg) (s:Sg) (c:List Sg),U.Nodup→(∀t∈U,t∈W)→s∈W→W.length<U.length+n→
  ∃d,Hk R0 n U s c=(U++d,c++d)/\(U++d).Nodup/\(∀t∈d,t∈W)/\(s∉U→d.head?=some s)/\s∈U++d
 | 0,U,s,c,h1,h2,h3,h4=>by have:=Kt h1 h2;omega
 | n+1,U,s,c,h1,h2,h3,h4=>by
  unfold Hk;by_cases hs:s∈U
  ·rw [if_pos (Vx.2 hs)];exact⟨[],by simp,by simpa using h1,by simp,fun h=>absurd hs h,by simpa using hs⟩
  ·rw [if_neg (by rw [Vx];exact hs)]
   have hn:(U ++ [s]).Nodup:=by rw [List.nodup_append];refine⟨h1,by simp,?_⟩;intro a ha b hb;simp only [AoJ]at hb;subst hb;rintro rfl;exact hs ha
   obtain⟨d,e1,e2,e3,e4,e5⟩:=lD hN n (U ++ [s]) (NB R0 s) (c ++ [s]) hn (by
    intro t ht
    rcases List.mem_append.1 ht with ht|ht
    ·exact h2 t ht
    ·simp only [AoJ]at ht;exact ht▸h3) (hN.next h3) (by simp;omega)
   refine⟨s::d,?_,?_,?_,fun _=>rfl,by simp⟩
   ·rw [e1];simp
   ·simpa using e2
   ·intro t ht
    rcases List.mem_cons.1 ht with rfl|ht
    ·exact h3
    ·exact e3 t ht
theorem ri(R0:List (Pt×List Pt)):∀(n:Nat) (U:List Sg) (s:Sg) (c:List Sg),c.length<=(Hk R0 n U s c).2.length
 | 0,U,s,c=>Ao7 _
 | n+1,U,s,c=>by
  unfold Hk
  split
  ·exact Ao7 _
  ·have:=ri R0 n (U ++ [s]) (NB R0 s) (c ++ [s]);rw [List.length_append,List.length_singleton]at this;omega
structure UK(W:List Sg)(U:List Sg)(C:List (List Sg)):Prop where
 nd:U.Nodup
 sub:∀s∈U,s∈W
 flat:C.flatten=U
 ne:∀c∈C,c≠[]
 least:∀c∈C,∀s∈c,∀h:0<c.length,¬Gg s c[0]<0
theorem rZ{W:List Sg}{R0:List (Pt×List Pt)}(hN:Ft W R0)(k:Nat)(hk:k<=(BO W).length) :
  UK W (((BO W).take k).foldl (Gn W.length R0) ([],[])).1 (((BO W).take k).foldl (Gn W.length R0) ([],[])).2/\∀s∈(BO W).take k,s∈(((BO W).take k).foldl (Gn W.length R0) ([],[])).1:=by
 induction k with
 | zero=>exact⟨⟨by simp,by simp,by simp,by simp,by simp⟩,by simp⟩
 | succ k ih=>
  have Ce:k<(BO W).length:=(by omega);obtain⟨h,hp⟩:=ih (by omega);rw [AoA Ce,List.foldl_append];simp only [List.foldl_cons,List.foldl_nil];generalize hst:((BO W).take k).foldl (Gn W.length R0) ([],[])=st at *;have Ny:(BO W)[k]∈W:=(JD W).mem_iff.1 (Ao8 Ce);have hle:=Kt h.nd h.sub;obtain⟨d,e1,e2,e3,e4,e5⟩:=lD hN (W.length-st.1.length+1) st.1 (BO W)[k] [] h.nd h.sub Ny (by omega)
  have hstep:Gn W.length R0 st (BO W)[k]=(st.1++d,if 0<d.length then st.2 ++ [d] else st.2):=by unfold Gn;rw [e1];simp
  rw [hstep];simp only;refine⟨⟨e2,?_,?_,?_,?_⟩,?_⟩
  ·intro s hs
   rcases List.mem_append.1 hs with hs|hs
   ·exact h.sub s hs
   ·exact e3 s hs
  ·split
   ·rw [List.flatten_append,h.flat];simp
   ·have:d = []:=List.eq_nil_of_length_eq_zero (by omega);rw [this,List.append_nil];exact h.flat
  ·intro c hc
   split at hc
   ·rename_i Cl
    rcases List.mem_append.1 hc with hc|hc
    ·exact h.ne c hc
    ·simp only [AoJ]at hc;subst hc;intro e;rw [e]at Cl;simp at Cl
   ·exact h.ne c hc
  ·intro c hc;have old:=h.least c
   split at hc
   ·rcases List.mem_append.1 hc with hc|hc
    ·exact old hc
    ·simp only [AoJ]at hc;subst hc;intro s hs h0;by_cases hu:(BO W)[k]∈st.1
     ·
      exfalso
      have:Hk R0 (W.length-st.1.length+1) st.1 (BO W)[k] []=(st.1,[]):=by unfold Hk;rw [if_pos (Vx.2 hu)]
      rw [this]at e1;have:=congrArg Prod.snd e1;simp only [List.nil_append]at this;rw [←this]at h0;simp at h0
     ·have hh:=e4 hu
      have h00:c[0]=(BO W)[k]:=by rw [List.head?_eq_getElem?,AoC h0,AoB]at hh;exact hh
      rw [h00];have hsm:s∈BO W:=(JD W).mem_iff.2 (e3 s hs);obtain⟨i,hi,rfl⟩:=List.getElem_of_mem hsm
      have hik:k<=i:=by
       refine Classical.byContradiction fun hlt=>?_
       have hin:(BO W)[i]∈(BO W).take k:=by rw [List.mem_take_iff_getElem];exact⟨i,by omega,rfl⟩
       have h1:=hp _ hin;rw [List.nodup_append]at e2;exact e2.2.2 _ h1 _ hs rfl
      rcases Nat.lt_or_eq_of_le hik with h1|h1
      ·exact List.pairwise_iff_getElem.1 lR k i Ce hi h1
      ·subst h1;rw [QH];grind
   ·exact old hc
  ·intro s hs
   rcases List.mem_append.1 hs with hs|hs
   ·exact List.mem_append_left _ (hp s hs)
   ·simp only [AoJ]at hs;rw [hs];exact e5
theorem XC{α:Type} : ∀{l:List (List α)},(∀c∈l,c≠[])→l.length<=l.flatten.length
 | [],_=>by simp
 | c::l,h=>by have h1:=XC (l:=l) (fun x hx=>h x (List.mem_cons_of_mem _ hx));have h2:=List.length_pos_iff.2 (h c List.mem_cons_self);rw [List.flatten_cons,List.length_append,List.length_cons];omega
theorem sE{W:List Sg}{R0:List (Pt×List Pt)}(hN:Ft W R0):∃U,UK W U (Hz W R0)/\∀s∈W,s∈U:=by
 obtain⟨h,hp⟩:=rZ hN (BO W).length (Ao7 _);rw [List.take_length]at h hp;exact⟨_,h,fun s hs=>hp s ((JD W).mem_iff.2 hs)⟩
end Go.Proofs.YtnddllipjippnaaGreatDoor
