/- Z33: C1 C2 C3 QB QCA. -/
import Derived.Test.YtjalkoacphhgdaaGreatDoorZ32
import Derived.Test.YtjalkoacphhgdaaGreatDoorZ27
namespace Go.Proofs.YtjalkoacphhgdaaGreatDoor
open Go.RowKit Kl
def rowOf(R0:List (Pt×List Pt))(p:Pt):List Pt:=match R0.find? (fun e=>Ap p e.1)with|some e=>e.2|none=>[]
theorem jy(p:Pt):Ap p p=true:=Cr.2 rfl
theorem jx{p q:Pt} : Ap p q=false↔p≠q:=by
 rw [Bool.eq_false_iff];exact not_congr Cr
theorem Lo(e:Pt×List Pt)(R0:List (Pt×List Pt))(p:Pt):rowOf (e::R0) p=if Ap p e.1=true then e.2 else rowOf R0 p:=by
 unfold rowOf;rw [List.find?_cons]
 cases h:Ap p e.1<;>simp
theorem Uf(p q:Pt):CG [] p q = [(p,[q])]:=by simp [CG,FZ,F3,List.modify]
theorem Ue(e:Pt×List Pt)(R0:List (Pt×List Pt))(p q:Pt):CG (e::R0) p q=if Ap p e.1=true then (e.1,e.2 ++ [q])::R0 else e::CG R0 p q:=by
 unfold CG FZ F3;rw [List.findIdx?_cons]
 cases h:Ap p e.1
 ·simp only [Bool.false_eq_true,if_false]
  cases h2:R0.findIdx? (fun e=>Ap p e.1)with
  | none=>simp [List.modify_succ_cons]
  | some j=>simp [List.modify_succ_cons]
 ·simp
theorem iJ(R0:List (Pt×List Pt))(p q p':Pt):rowOf (CG R0 p q) p'=if Ap p' p=true then rowOf R0 p ++ [q] else rowOf R0 p':=by
 induction R0 with
 | nil=>
  rw [Uf,Lo];simp only
  cases h:Ap p' p<;>simp [rowOf]
 | cons e R0 ih=>
  rw [Ue];by_cases h:Ap p e.1=true
  ·rw [if_pos h,Lo,Lo,Lo,if_pos h];have he:=Cr.1 h;simp only [←he];by_cases h2:Ap p' p=true
   ·rw [if_pos h2,if_pos h2]
   ·rw [if_neg h2,if_neg h2,if_neg h2]
  ·rw [if_neg h,Lo,Lo,Lo,if_neg h,ih];by_cases h2:Ap p' p=true
   ·have:=Cr.1 h2;subst this;rw [if_neg h,if_pos h2,if_pos h2]
   ·rw [if_neg h2,if_neg h2]
theorem yt(R0:List (Pt×List Pt))(p q:Pt):∀x,x∈(CG R0 p q).map (·.1)↔x=p∨x∈R0.map (·.1):=by
 induction R0 with
 | nil=>intro x;rw [Uf];simp
 | cons e R0 ih=>
  intro x;rw [Ue];by_cases h:Ap p e.1=true
  ·rw [if_pos h];have:=Cr.1 h;subst this;simp
  ·rw [if_neg h,List.map_cons,List.mem_cons,ih x,List.map_cons,List.mem_cons];constructor
   ·rintro(h1|h1|h1)
    ·exact .inr (.inl h1)
    ·exact .inl h1
    ·exact .inr (.inr h1)
   ·rintro(h1|h1|h1)
    ·exact .inr (.inl h1)
    ·exact .inl h1
    ·exact .inr (.inr h1)
theorem mD{R0:List (Pt×List Pt)}(h:(R0.map (·.1)).Nodup)(p q:Pt):((CG R0 p q).map (·.1)).Nodup:=by
 induction R0 with
 | nil=>rw [Uf];simp
 | cons e R0 ih=>
  rw [List.map_cons,List.nodup_cons]at h;rw [Ue];by_cases h2:Ap p e.1=true
  ·rw [if_pos h2,List.map_cons,List.nodup_cons];exact h
  ·rw [if_neg h2,List.map_cons,List.nodup_cons];refine⟨?_,ih h.2⟩;rw [yt];rintro(h3|h3)
   ·exact h2 (Cr.2 h3.symm)
   ·exact h.1 h3
theorem mC{R0:List (Pt×List Pt)}(h:∀e∈R0,e.2≠[])(p q:Pt):∀e∈CG R0 p q,e.2≠[]:=by
 induction R0 with
 | nil=>rw [Uf];simp
 | cons e R0 ih=>
  rw [Ue];intro x hx;by_cases h2:Ap p e.1=true
  ·rw [if_pos h2]at hx
   rcases List.mem_cons.1 hx with rfl|hx
   ·simp
   ·exact h x (List.mem_cons_of_mem _ hx)
  ·rw [if_neg h2]at hx
   rcases List.mem_cons.1 hx with rfl|hx
   ·exact h _ (List.mem_cons_self)
   ·exact ih (fun e he=>h e (List.mem_cons_of_mem _ he)) x hx
theorem kr{R0:List (Pt×List Pt)}(h:(R0.map (·.1)).Nodup){e:Pt×List Pt}(he:e∈R0):R0.find? (fun x=>Ap e.1 x.1)=some e:=by
 induction R0 with
 | nil=>cases he
 | cons x R0 ih=>
  rw [List.map_cons,List.nodup_cons]at h;rw [List.find?_cons]
  rcases List.mem_cons.1 he with rfl|he
  ·rw [jy]
  ·have:Ap e.1 x.1=false:=by rw [jx];intro hh;exact h.1 (hh▸List.mem_map_of_mem he)
   rw [this];exact ih h.2 he
structure Ey(W:List Sg)(R0:List (Pt×List Pt)):Prop where
 keys:(R0.map (·.1)).Nodup
 ne:∀e∈R0,e.2≠[]
 mem:∀p q,q∈rowOf R0 p↔(⟨p,q⟩:Sg)∈W
 back:∀s∈W,AQ s∈W
theorem ey(pts:List Pt)(l:List Ax):Ey ((AM pts l).map (·.1)) (Cx pts l):=by
 have main:∀n,n<=l.length→Ey ((AM pts (l.take n)).map (·.1)) (Cx pts (l.take n)):=by
  intro n
  induction n with
  | zero=>intro _;exact⟨by simp [Cx],by simp [Cx],by simp [Cx,AM,rowOf],by simp [AM]⟩
  | succ n ih=>
   intro hn;have h:=ih (by omega);rw [Anr (by omega),Wz,WA];generalize l[n]=e at *;generalize AY pts e=s at *;refine⟨mD (mD h.keys _ _) _ _,mC (mC h.ne _ _) _ _,?_,?_⟩
   ·intro p q;rw [iJ,iJ,iJ,List.map_append,List.mem_append];simp only [List.map_cons,List.map_nil,List.mem_cons,An0,or_false,←h.mem];have e1:((⟨p,q⟩:Sg)=s)↔p=s.a/\q=s.b:=(by obtain⟨a,b⟩:=s;simp);have e2:((⟨p,q⟩:Sg)=AQ s)↔p=s.b/\q=s.a:=(by obtain⟨a,b⟩:=s;simp [AQ]);rw [e1,e2];by_cases h1:Ap p s.b=true
    ·have p1:=Cr.1 h1;rw [if_pos h1];by_cases h2:Ap s.b s.a=true
     ·have p2:=Cr.1 h2;rw [if_pos h2,←p2,←p1];simp only [List.mem_append,An1]
      grind
     ·rw [if_neg h2,←p1];have p2:¬s.b=s.a:=fun h=>h2 (Cr.2 h);simp only [List.mem_append,An1]
      grind
    ·have p1:¬p=s.b:=fun h=>h1 (Cr.2 h);rw [if_neg h1];by_cases h2:Ap p s.a=true
     ·have p2:=Cr.1 h2;rw [if_pos h2,←p2];simp only [List.mem_append,An1]
      grind
     ·have p2:¬p=s.a:=fun h=>h2 (Cr.2 h);rw [if_neg h2]
      grind
   ·intro x hx;rw [List.map_append,List.mem_append]at hx ⊢;simp only [List.map_cons,List.map_nil,List.mem_cons,An0,or_false]at hx ⊢
    rcases hx with hx|rfl|rfl
    ·exact .inl (h.back x hx)
    ·exact .inr (.inr rfl)
    ·exact .inr (.inl rfl)
 have:=main l.length (Ano _)
 rwa [List.take_length]at this
theorem Ajg(R0:List (Pt×List Pt))(p q:Pt):q∈rowOf (R0.map (fun e=>(e.1,DF e.1 e.2))) p↔q∈rowOf R0 p:=by
 induction R0 with
 | nil=>simp [rowOf]
 | cons e R0 ih=>
  rw [List.map_cons,Lo,Lo];simp only;by_cases h1:Ap p e.1=true
  ·rw [if_pos h1,if_pos h1];exact(Xj e.1 e.2).mem_iff
  ·rw [if_neg h1,if_neg h1];exact ih
theorem AfF{l:List Pt}{p:Pt}(h:p∈l):∃j,j<l.length/\Gs l p=(j:Int):=by
 unfold Gs
 cases hf:l.findIdx? (Ap p)with
 | none=>
  rw [List.findIdx?_eq_none_iff]at hf;have:=hf p h;rw [jy]at this
  cases this
 | some j=>rw [List.findIdx?_eq_some_iff_getElem]at hf;exact⟨j,hf.1,rfl⟩
theorem Ey.sorted{W:List Sg}{R0:List (Pt×List Pt)}(h:Ey W R0):Ey W (R0.map (fun e=>(e.1,DF e.1 e.2))):=by
 have hk:(R0.map (fun e=>(e.1,DF e.1 e.2))).map (·.1)=R0.map (·.1):=(by rw [List.map_map];rfl);have hr:=Ajg R0;refine⟨by rw [hk];exact h.keys,?_,fun p q=>by rw [hr];exact h.mem p q,h.back⟩;intro e he;rw [List.mem_map]at he;obtain⟨x,hx,rfl⟩:=he;have:=h.ne x hx;intro e0;have:=(Xj x.1 x.2).length_eq;simp only at e0;rw [e0]at this;exact h.ne x hx (List.eq_nil_of_length_eq_zero this.symm)
def MH(R0:List (Pt×List Pt))(s:Sg):Sg:=⟨s.b,(rowOf R0 s.b).getD (((Gs (rowOf R0 s.b) s.a).toNat+(rowOf R0 s.b).length-1)%(rowOf R0 s.b).length) ⟨0,0⟩⟩
theorem Ey.step{W:List Sg}{R0:List (Pt×List Pt)}(h:Ey W R0){s:Sg}(hs:s∈W) :
  ∃e,R0.find? (fun e=>Ap s.b e.1)=some e/\∃j m,∃_:j<e.2.length,Gs e.2 s.a=(j:Int)/\∃hm:m<e.2.length,m=(j+e.2.length-1)%e.2.length/\MH R0 s=⟨s.b,e.2[m]⟩/\(⟨s.b,e.2[m]⟩:Sg)∈W:=by
 have hb:s.a∈rowOf R0 s.b:=(h.mem s.b s.a).2 (h.back s hs)
 have hr:rowOf R0 s.b=match R0.find? (fun e=>Ap s.b e.1)with|some e=>e.2|none=>[]:=rfl
 cases hf:R0.find? (fun e=>Ap s.b e.1)with
 | none=>rw [hr,hf]at hb;cases hb
 | some e=>
  rw [hf]at hr;simp only at hr;rw [hr]at hb;obtain⟨j,hj,hi⟩:=AfF hb;have hl:0<e.2.length:=(by omega);have hm:(j+e.2.length-1)%e.2.length<e.2.length:=Nat.mod_lt _ hl;refine⟨e,rfl,j,_,hj,hi,hm,rfl,?_,?_⟩
  ·unfold MH;rw [hr,hi];simp only [Int.toNat_natCast];rw [List.getD_eq_getElem?_getD,Ant hm];rfl
  ·refine(h.mem s.b _).1 ?_;rw [hr];exact Anp hm
theorem Ey.next{W:List Sg}{R0:List (Pt×List Pt)}(h:Ey W R0){s:Sg}(hs:s∈W):MH R0 s∈W:=by
 obtain⟨e,_,j,m,_,_,hm,_,h1,h2⟩:=h.step hs;rw [h1];exact h2
def Ua(W:List Sg):Prop:=∀s∈W,∀t∈W,s≠t→s≠AQ t→Fe s.a s.b t.a t.b
theorem Ua.good{W:List Sg}(h:Ua W):JX W:=by
 intro s hs t ht h1 h2 hne;refine h s hs t ht hne ?_;rintro rfl;simp only [AQ]at h1
 grind
theorem AkL(pts:List Pt)(l:List Ax)(h3:D6 pts [] l=0):Ua ((AM pts l).map (·.1)):=by
 have hx:∀i j,(hi:i<l.length)→(hj:j<l.length)→i<j→Fe (AY pts l[j]).a (AY pts l[j]).b (AY pts l[i]).a (AY pts l[i]).b:=by intro i j hi hj Bf;have:=oD h3 j hj;rw [List.nil_append,List.any_eq_false]at this;have h1:=this l[i] (by rw [List.mem_take_iff_getElem];exact⟨i,by omega,rfl⟩);rw [Bool.not_eq_true]at h1;exact Aho h1
 have hy:∀i j,(hi:i<l.length)→(hj:j<l.length)→i≠j→Fe (AY pts l[i]).a (AY pts l[i]).b (AY pts l[j]).a (AY pts l[j]).b:=by
  intro i j hi hj Bf
  rcases Nat.lt_or_gt_of_ne Bf with h|h
  ·exact(hx i j hi hj h).symm
  ·exact hx j i hj hi h
 have mem:∀s,s∈(AM pts l).map (·.1)→∃i,∃hi:i<l.length,s=AY pts l[i]∨s=AQ (AY pts l[i]):=by
  intro s hs;rw [List.mem_map]at hs;obtain⟨x,hx,rfl⟩:=hs;unfold AM at hx;rw [List.mem_flatMap]at hx;obtain⟨e,he,hx⟩:=hx;obtain⟨i,hi,rfl⟩:=List.getElem_of_mem he;simp only [List.mem_cons,An0,or_false]at hx
  rcases hx with rfl|rfl
  ·exact⟨i,hi,.inl rfl⟩
  ·exact⟨i,hi,.inr rfl⟩
 intro s hs t ht h1 h2;obtain⟨i,hi,es⟩:=mem s hs;obtain⟨j,hj,et⟩:=mem t ht
 have Bf:i≠j:=by
  rintro rfl
  rcases es with rfl|rfl<;>rcases et with rfl|rfl
  ·exact h1 rfl
  ·exact h2 rfl
  ·exact h2 rfl
  ·exact h1 rfl
 have hn:=hy i j hi hj Bf
 rcases es with rfl|rfl<;>rcases et with rfl|rfl
 ·exact hn
 ·exact hn.right
 ·exact hn.left
 ·exact hn.left.right
structure OB(W:List Sg):Prop where
 x:Ua W
 sz:∀s∈W,Ee 200 s
 ne:∀s∈W,s.a≠s.b
theorem Ajh{W:List Sg}{R0:List (Pt×List Pt)}(hW:OB W)(hN:Ey W R0)(hlen:∀e∈R0,e.2.length<100000):lX R0:=by
 have hm:∀e∈R0,∀q∈e.2,(⟨e.1,q⟩:Sg)∈W:=by intro e he q hq;refine(hN.mem e.1 q).1 ?_;unfold rowOf;rw [kr hN.keys he];exact hq
 refine⟨?_,?_,hN.ne,hlen⟩
 ·intro e he;refine⟨fun q hq=>(hW.sz _ (hm e he q hq)).b,fun q hq h=>hW.ne _ (hm e he q hq) h.symm,?_⟩;intro a ha b hb h0;refine Classical.byContradiction fun hab=>hab ?_;have na:a≠e.1:=fun h=>hW.ne _ (hm e he a ha) h.symm;have nb:b≠e.1:=fun h=>hW.ne _ (hm e he b hb) h.symm;refine AbE (hW.x _ (hm e he a ha) _ (hm e he b hb) ?_ ?_) na nb h0
  ·intro h;simp only [Sg.mk.injEq,true_and]at h;exact hab h
  ·intro h;simp only [AQ,Sg.mk.injEq]at h;exact nb h.1.symm
 ·intro e he;obtain⟨q,hq⟩:=List.exists_mem_of_ne_nil _ (hN.ne e he);exact(hW.sz _ (hm e he q hq)).a
def Gw(R0:List (Pt×List Pt)):Nat→List Sg→Sg→List Sg→List Sg×List Sg
 | 0,U,_,c=>(U,c)
 | n+1,U,s,c=>if U.any (AK s)=true then (U,c)else Gw R0 n (U ++ [s]) (MH R0 s) (c ++ [s])
def F6(N:Nat)(R0:List (Pt×List Pt))(st:List Sg×List (List Sg))(s:Sg):List Sg×List (List Sg):=
 ((Gw R0 (N-st.1.length+1) st.1 s []).1,if 0<(Gw R0 (N-st.1.length+1) st.1 s []).2.length then st.2 ++ [(Gw R0 (N-st.1.length+1) st.1 s []).2] else st.2)
def Hm(W:List Sg)(R0:List (Pt×List Pt)):List (List Sg):=((B6 W).foldl (F6 W.length R0) ([],[])).2
theorem Uh{U:List Sg}{s:Sg} : U.any (AK s)=true↔s∈U:=by
 rw [List.any_eq_true];constructor
 ·rintro⟨x,hx,h⟩;rw [Ik]at h;exact h▸hx
 ·intro h;exact⟨s,h,Ik.2 rfl⟩
theorem mO{U:List Sg}{s:Sg} : U.any (AK s)=false↔s∉U:=by
 rw [←Uh,Bool.not_eq_true]
theorem JD{U W:List Sg}(h:U.Nodup)(hs:∀s∈U,s∈W):U.length<=W.length:=h.length_le_of_subset hs
theorem iK{W:List Sg}{R0:List (Pt×List Pt)}(hN:Ey W R0):∀(n:Nat) (U:List Sg) (s:Sg) (c:List Sg),U.Nodup→(∀t∈U,t∈W)→s∈W→W.length<U.length+n→
  ∃d,Gw R0 n U s c=(U++d,c++d)/\(U++d).Nodup/\(∀t∈d,t∈W)/\(s∉U→d.head?=some s)/\s∈U++d
 | 0,U,s,c,h1,h2,h3,h4=>by have:=JD h1 h2;omega
 | n+1,U,s,c,h1,h2,h3,h4=>by
  unfold Gw;by_cases hs:s∈U
  ·rw [if_pos (Uh.2 hs)];exact⟨[],by simp,by simpa using h1,by simp,fun h=>absurd hs h,by simpa using hs⟩
  ·rw [if_neg (by rw [Uh];exact hs)]
   have hn:(U ++ [s]).Nodup:=by rw [List.nodup_append];refine⟨h1,by simp,?_⟩;intro a ha b hb;simp only [An1]at hb;subst hb;rintro rfl;exact hs ha
   obtain⟨d,e1,e2,e3,e4,e5⟩:=iK hN n (U ++ [s]) (MH R0 s) (c ++ [s]) hn (by
    intro t ht
    rcases List.mem_append.1 ht with ht|ht
    ·exact h2 t ht
    ·simp only [An1]at ht;exact ht▸h3) (hN.next h3) (by simp;omega)
   refine⟨s::d,?_,?_,?_,fun _=>rfl,by simp⟩
   ·rw [e1];simp
   ·simpa using e2
   ·intro t ht
    rcases List.mem_cons.1 ht with rfl|ht
    ·exact h3
    ·exact e3 t ht
theorem ky(R0:List (Pt×List Pt)):∀(n:Nat) (U:List Sg) (s:Sg) (c:List Sg),c.length<=(Gw R0 n U s c).2.length
 | 0,U,s,c=>Ano _
 | n+1,U,s,c=>by
  unfold Gw
  split
  ·exact Ano _
  ·have:=ky R0 n (U ++ [s]) (MH R0 s) (c ++ [s]);rw [List.length_append,List.length_singleton]at this;omega
structure T8(W:List Sg)(U:List Sg)(C:List (List Sg)):Prop where
 nd:U.Nodup
 sub:∀s∈U,s∈W
 flat:C.flatten=U
 ne:∀c∈C,c≠[]
 least:∀c∈C,∀s∈c,∀h:0<c.length,¬Fo s c[0]<0
theorem pG{W:List Sg}{R0:List (Pt×List Pt)}(hN:Ey W R0)(k:Nat)(hk:k<=(B6 W).length) :
  T8 W (((B6 W).take k).foldl (F6 W.length R0) ([],[])).1 (((B6 W).take k).foldl (F6 W.length R0) ([],[])).2/\∀s∈(B6 W).take k,s∈(((B6 W).take k).foldl (F6 W.length R0) ([],[])).1:=by
 induction k with
 | zero=>exact⟨⟨by simp,by simp,by simp,by simp,by simp⟩,by simp⟩
 | succ k ih=>
  have Cl:k<(B6 W).length:=(by omega);obtain⟨h,hp⟩:=ih (by omega);rw [Anr Cl,List.foldl_append];simp only [List.foldl_cons,List.foldl_nil];generalize hst:((B6 W).take k).foldl (F6 W.length R0) ([],[])=st at *;have My:(B6 W)[k]∈W:=(Jd W).mem_iff.1 (Anp Cl);have hle:=JD h.nd h.sub;obtain⟨d,e1,e2,e3,e4,e5⟩:=iK hN (W.length-st.1.length+1) st.1 (B6 W)[k] [] h.nd h.sub My (by omega)
  have hstep:F6 W.length R0 st (B6 W)[k]=(st.1++d,if 0<d.length then st.2 ++ [d] else st.2):=by unfold F6;rw [e1];simp
  rw [hstep];simp only;refine⟨⟨e2,?_,?_,?_,?_⟩,?_⟩
  ·intro s hs
   rcases List.mem_append.1 hs with hs|hs
   ·exact h.sub s hs
   ·exact e3 s hs
  ·split
   ·rw [List.flatten_append,h.flat];simp
   ·have:d = []:=List.eq_nil_of_length_eq_zero (by omega);rw [this,List.append_nil];exact h.flat
  ·intro c hc
   split at hc
   ·rename_i Cb
    rcases List.mem_append.1 hc with hc|hc
    ·exact h.ne c hc
    ·simp only [An1]at hc;subst hc;intro e;rw [e]at Cb;simp at Cb
   ·exact h.ne c hc
  ·intro c hc;have old:=h.least c
   split at hc
   ·rcases List.mem_append.1 hc with hc|hc
    ·exact old hc
    ·simp only [An1]at hc;subst hc;intro s hs h0;by_cases hu:(B6 W)[k]∈st.1
     ·
      exfalso
      have:Gw R0 (W.length-st.1.length+1) st.1 (B6 W)[k] []=(st.1,[]):=by unfold Gw;rw [if_pos (Uh.2 hu)]
      rw [this]at e1;have:=congrArg Prod.snd e1;simp only [List.nil_append]at this;rw [←this]at h0;simp at h0
     ·have hh:=e4 hu
      have h00:c[0]=(B6 W)[k]:=by rw [List.head?_eq_getElem?,Ant h0,Ans]at hh;exact hh
      rw [h00];have hsm:s∈B6 W:=(Jd W).mem_iff.2 (e3 s hs);obtain⟨i,hi,rfl⟩:=List.getElem_of_mem hsm
      have hik:k<=i:=by
       refine Classical.byContradiction fun hlt=>?_
       have hin:(B6 W)[i]∈(B6 W).take k:=by rw [List.mem_take_iff_getElem];exact⟨i,by omega,rfl⟩
       have h1:=hp _ hin;rw [List.nodup_append]at e2;exact e2.2.2 _ h1 _ hs rfl
      rcases Nat.lt_or_eq_of_le hik with h1|h1
      ·exact List.pairwise_iff_getElem.1 jK k i Cl hi h1
      ·subst h1;rw [PL];grind
   ·exact old hc
  ·intro s hs
   rcases List.mem_append.1 hs with hs|hs
   ·exact List.mem_append_left _ (hp s hs)
   ·simp only [An1]at hs;rw [hs];exact e5
theorem Wj{α:Type} : ∀{l:List (List α)},(∀c∈l,c≠[])→l.length<=l.flatten.length
 | [],_=>by simp
 | c::l,h=>by have h1:=Wj (l:=l) (fun x hx=>h x (List.mem_cons_of_mem _ hx));have h2:=List.length_pos_iff.2 (h c List.mem_cons_self);rw [List.flatten_cons,List.length_append,List.length_cons];omega
theorem Ab5{W:List Sg}{R0:List (Pt×List Pt)}(hN:Ey W R0):∃U,T8 W U (Hm W R0)/\∀s∈W,s∈U:=by
 obtain⟨h,hp⟩:=pG hN (B6 W).length (Ano _);rw [List.take_length]at h hp;exact⟨_,h,fun s hs=>hp s ((Jd W).mem_iff.2 hs)⟩
theorem CB{K:Nat→Prop}{W W':World}{B:Nat}{e:TypeId}{s n:Nat}{v:Value}{xs:List Value}(h:W.ownsRow B e s v n xs)(hb:Av K W W')(hK:∀k,v.ownBlock=some k→¬K k):W'.ownsRow B e s v n xs:=by
 refine⟨h.1,?_⟩
 rcases h.2 with h'|⟨g,cap,cur,rfl,hg,hgb,h4⟩
 ·exact .inl h'
 ·exact .inr ⟨g,cap,cur,rfl,hg,hb.cells hgb (hK g rfl),h4⟩
theorem ja{W:World}{B:Nat}{e:TypeId}{s n:Nat}{v:Value}{xs:List Value}(h:W.ownsRow B e s v n xs){j:Nat}{o:Obj}(hj:W.heap[j]?=some o)(hno:∀cur,o≠.cells cur e (0,0)):∀k,v.ownBlock=some k→k≠j:=by
 intro k hk e;subst e
 rcases ownsRow_ne h hj hno with h1|h1
 ·rw [h1]at hk;cases hk
 ·exact h1 hk
def G5(B:Nat)(W:World)(out:Value)(C:List (List Sg)):Prop:=
 ∃vs,W.ownsRow B 160 1 out C.length vs/\∀j (h:j<C.length),∃v,vs[j]?=some v/\W.ownsRow B 155 4 v C[j].length (BO C[j])
theorem G5.keep{K:Nat→Prop}{W W':World}{B:Nat}{out:Value}{C:List (List Sg)}(h:G5 B W out C)(hb:Av K W W')(hK:∀k,k<W.heap.size→K k→∀cs e,W.heap[k]?≠some (.cells cs e (0,0))):G5 B W' out C:=by
 obtain⟨vs,ho,hr⟩:=h
 have main:∀{e:TypeId} {s n:Nat} {v:Value} {xs:List Value},W.ownsRow B e s v n xs→W'.ownsRow B e s v n xs:=by
  intro e s n v xs h;refine CB h hb ?_;intro k hk hKk
  rcases h.2 with⟨h',_⟩|⟨g,cap,cur,h',_,hgb,_⟩
  ·rw [h']at hk;cases hk
  ·rw [h']at hk;simp only [Value.ownBlock,Ans]at hk;subst hk;exact hK g (Anm hgb) hKk _ _ hgb
 exact⟨vs,main ho,fun j hj=>by obtain⟨v,h1,h2⟩:=hr j hj;exact⟨v,h1,main h2⟩⟩
theorem G5.nil(B:Nat)(W:World):G5 B W (.slice none 0 0) []:=⟨[],⟨rfl,.inl ⟨rfl,rfl⟩⟩,fun j h=>by simp at h⟩
theorem AhO{W W':World}{B:Nat}{out out' cv:Value}{C:List (List Sg)}{c:List Sg}{vs:List Value}(ho:W.ownsRow B 160 1 out C.length vs)(hr:∀j (h:j<C.length),∃v,vs[j]?=some v/\W.ownsRow B 155 4 v C[j].length (BO C[j]))
  (hc:W.ownsRow B 155 4 cv c.length (BO c)) (hg:W.grownBy W' out.ownBlock) (VJ:W'.ownsRow B 160 1 out' (C.length+1) (vs ++ [cv])):G5 B W' out' (C ++ [c]):=by
 have hne:155≠160:=by decide
 have main:∀{n:Nat} {v:Value} {xs:List Value},W.ownsRow B 155 4 v n xs→W'.ownsRow B 155 4 v n xs:=by
  intro n v xs h;refine h.kept hg ?_
  rcases ho.2 with⟨h',_⟩|⟨g,cap,cur,h',_,hgb,_⟩
  ·rw [h']
   cases v.ownBlock with
   | none=>exact .inl rfl
   | some k=>exact .inr (by simp [Value.ownBlock])
  ·rcases ownsRow_ne h hgb (fun cur e=>hne (Obj.cells.inj e).2.1.symm)with h1|h1
   ·exact .inl h1
   ·right;rw [h'];exact h1
 have hl:vs.length=C.length:=(by have:=ho.1;omega);refine⟨vs ++ [cv],by rw [List.length_append];exact VJ,fun j hj=>?_⟩;by_cases AW:j<C.length
 ·obtain⟨v,h1,h2⟩:=hr j AW;refine⟨v,by rw [List.getElem?_append_left (by omega)];exact h1,?_⟩;rw [List.getElem_append_left AW];exact main h2
 ·have:j=C.length:=(by simp at hj;omega);subst this;refine⟨cv,by rw [List.getElem?_append_right (by omega)];simp [hl],?_⟩;rw [List.getElem_append_right (Ano _)];simp only [Nat.sub_self,List.getElem_cons_zero];exact main hc
def Yi(W:World)(v:Value)(l:List Sg):Prop:=∃A c,v=.slice A l.length c/\Ae W A (BO l)/\l.length<=c/\c<=9223372036854775807
theorem Yi.ext{W W':World}{v:Value}{l:List Sg}(h:Yi W v l)(hx:Aa W W'):Yi W' v l:=by
 obtain⟨A,c,e,hr,h1,h2⟩:=h;exact⟨A,c,e,hr.ext hx,h1,h2⟩
structure L2(W:World)(A:Option Addr)(cap:Nat)(C:List (List Sg)):Prop where
 cap1:C.length<=cap
 cap2:cap<=9223372036854775807
 row:∀j (h:j<C.length),∃b o A' c',A=some ⟨b,o,none⟩/\W.cell? ⟨b,o+j,none⟩=some (.slice A' C[j].length c')/\Ae W A' (BO C[j])/\C[j].length<=c'/\c'<=9223372036854775807
theorem L2.ext{W W':World}{A:Option Addr}{cap:Nat}{C:List (List Sg)}(h:L2 W A cap C)(hx:Aa W W'):L2 W' A cap C:=
 ⟨h.cap1,h.cap2,fun j hj=>by
  obtain⟨b,o,A',c',h1,h2,h3,h4,h5⟩:=h.row j hj
  exact⟨b,o,A',c',h1,hx.cellS h2,h3.ext hx,h4,h5⟩⟩
theorem G5.cycs{B:Nat}{W:World}{out:Value}{C:List (List Sg)}(h:G5 B W out C):∃A cap,out=.slice A C.length cap/\L2 W A cap C:=by
 obtain⟨vs,ho,hr⟩:=h;obtain⟨A,cap,he,AP,h1,h2⟩:=Ae.of_own' (by omega) ho;refine⟨A,cap,he,h1,h2,fun j hj=>?_⟩;have hl:vs.length=C.length:=(by have:=ho.1;omega);obtain⟨b,o,e,hc⟩:=AP.ad (by omega);obtain⟨v,g1,g2⟩:=hr j hj;obtain⟨A',c',e',r1,r2,r3⟩:=Ae.of_own' (by omega) g2;have:=hc j (by omega);rw [Ant (by omega),Ans]at g1;rw [g1,e']at this;exact⟨b,o,A',c',e,this,r1,r2,r3⟩
structure He(w5 wr:World)(bu bs:Nat)(cv:Value)(U:List Sg)(s:Sg)(c:List Sg):Prop where
 used:D4 wr bu U
 box:wr.heap[bs]?=some (.cells #[S (R s.a.x),S (R s.a.y),S (R s.b.x),S (R s.b.y)] 155)
 row:wr.ownsRow w5.heap.size 155 4 cv c.length (BO c)
 but:Av (fun k=>k=bu∨k=bs) w5 wr
def eT(w:World)(b:Nat):Nat:=match w.heap[b]? with|some (.map es _)=>es.size|_=>0
theorem D4.size{W:World}{b:Nat}{U:List Sg}(h:D4 W b U):eT W b=U.length:=by
 unfold D4 at h;unfold eT;rw [h];simp [Ay,Je,Ip]
theorem D4.far{W W':World}{b:Nat}{U:List Sg}(h:D4 W b U){row:Option Nat}(hg:W.grownBy W' row)(hr:row≠some b):D4 W' b U:=(hg.block b (Anm h) (fun e=>hr e.symm)).trans h
theorem jc{W:World}{B:Nat}{e:TypeId}{s n:Nat}{v:Value}{xs:List Value}(h:W.ownsRow B e s v n xs){b:Nat}(hb:b<B):v.ownBlock≠some b:=by
 intro e;have:=(h.lt b e).1;omega
theorem WP{W:World}{B:Nat}{e:TypeId}{s n:Nat}{v:Value}{xs:List Value}(h:W.ownsRow B e s v n xs){b:Nat}{es:Array MapEntry}{c:Nat}(hb:W.heap[b]?=some (.map es c)):v.ownBlock≠some b:=fun e=>ja h hb (fun _ e=>by cases e) b e rfl
theorem iy{W W':World}{B:Nat}{e:TypeId}{s n:Nat}{v:Value}{xs:List Value}(h:W.ownsRow B e s v n xs){b:Nat}(hg:W.grownBy W' (some b))(hne:v.ownBlock≠some b):W'.ownsRow B e s v n xs:=h.kept hg (.inr hne)
theorem He.put{w5 wr:World}{bu bs:Nat}{cv:Value}{U:List Sg}{s:Sg}{c:List Sg}(h:He w5 wr bu bs cv U s c)(hne:bu≠bs)(hno:U.any (AK s)=false) :
  ∃W',(Instr.mapUpdate 285 (.map (some bu)) (As s) (.bool true)).run Tryz.prog wr=.ok () W'/\He w5 W' bu bs cv (U ++ [s]) s c:=by
 obtain⟨W',h1,h2,h3,h4⟩:=h.used.put s hno;refine⟨W',h1,h2,?_,iy h.row h3 (WP h.row h.used),h.but.grown h3 (fun k e=>by cases e;exact .inl (.inl rfl))⟩;exact(h3.block bs (Anm h.box) (by simp;exact fun e=>hne e.symm)).trans h.box
theorem He.app{w5 wr W':World}{bu bs:Nat}{cv pE:Value}{U:List Sg}{s t:Sg}{c:List Sg}(h:He w5 wr bu bs cv U s c)(hs:bs<w5.heap.size)(hg:(wr.alloc (.cells #[S (R t.a.x),S (R t.a.y),S (R t.b.x),S (R t.b.y)] 155)).grownBy W' cv.ownBlock)
  (ho:W'.ownsRow w5.heap.size 155 4 pE (c.length+1) (BO (c ++ [t]))):He w5 W' bu bs pE U s (c ++ [t]):=by
 have hx:=(Aa.refl wr).alloc (.cells #[S (R t.a.x),S (R t.a.y),S (R t.b.x),S (R t.b.y)] 155);have hr:=h.row.kept (Gd hx none) (by cases cv.ownBlock with|none=>exact .inl rfl|some k=>exact .inr (by simp));have hu:D4 (wr.alloc (.cells #[S (R t.a.x),S (R t.a.y),S (R t.b.x),S (R t.b.y)] 155)) bu U:=(hx.block bu (Anm h.used)).trans h.used;have hb:=(hx.block bs (Anm h.box)).trans h.box;refine⟨hu.far hg (WP hr hu),(hg.block bs (Anm hb) (fun e=>jc hr hs e.symm)).trans hb,by simpa using ho,?_⟩;exact(h.but.ext hx).own hg hr (Ano _)
theorem He.nxt{w5 wr W':World}{bu bs:Nat}{cv:Value}{U:List Sg}{s:Sg}{c:List Sg}(h:He w5 wr bu bs cv U s c)(hx:Aa wr W')(hne:bu≠bs)(hs:bs<w5.heap.size)(t:Sg) :
  He w5 ((((W'.setCell ⟨bs,0,none⟩ (S (R t.a.x))).setCell ⟨bs,1,none⟩ (S (R t.a.y))).setCell ⟨bs,2,none⟩ (S (R t.b.x))).setCell ⟨bs,3,none⟩ (S (R t.b.y))) bu bs cv U t c:=by
 have hb:=(hx.block bs (Anm h.box)).trans h.box;have hr:=h.row.kept (Gd hx none) (by cases cv.ownBlock with|none=>exact .inl rfl|some k=>exact .inr (by simp));have hu:D4 W' bu U:=(hx.block bu (Anm h.used)).trans h.used;have far:∀(X:World) (o:Nat) (v:Value) (q:Nat),q≠bs→(X.setCell ⟨bs,o,none⟩ v).heap[q]?=X.heap[q]?:=fun X o v q hq=>Below.heap_setCell _ _ _ _ hq;have Bl:=((((h.but.ext hx).setCell (p:=⟨bs,0,none⟩) (.inl (.inr rfl)) (S (R t.a.x))).setCell (p:=⟨bs,1,none⟩) (.inl (.inr rfl)) (S (R t.a.y))).setCell (p:=⟨bs,2,none⟩) (.inl (.inr rfl)) (S (R t.b.x))).setCell (p:=⟨bs,3,none⟩) (.inl (.inr rfl)) (S (R t.b.y));refine⟨?_,OE _ _ _ _ hb,?_,Bl⟩
 ·unfold D4;rw [far _ _ _ _ hne,far _ _ _ _ hne,far _ _ _ _ hne,far _ _ _ _ hne];exact hu
 ·refine CB hr (K:=fun k=>k=bs) ?_ ?_
  ·exact(((((Av.refl (fun k=>k=bs) W').setCell (p:=⟨bs,0,none⟩) (.inl rfl) _).setCell (p:=⟨bs,1,none⟩) (.inl rfl) _).setCell (p:=⟨bs,2,none⟩) (.inl rfl) _).setCell (p:=⟨bs,3,none⟩) (.inl rfl) _)
  ·intro k hk e;subst e;exact jc hr hs hk
theorem nO{a b c:World}{bu bs:Nat}(hx:Aa a b)(h:Av (fun k=>k=bu∨k=bs) b c)(hs:a.heap.size<=bs):Av (fun k=>k=bu) a c:=
 ⟨h.os.trans hx.os,h.tape.trans hx.tape,h.output.trans hx.output,Anz hx.size h.size,fun k hk hn=>(h.block k (Anx hk hx.size) (by rintro(e|e);exact hn e;omega)).trans (hx.block k hk)⟩
theorem G5.alloc{B:Nat}{W:World}{out:Value}{C:List (List Sg)}(h:G5 B W out C)(o:Obj):G5 B (W.alloc o) out C:=
 h.keep ((Av.refl (fun _=>False) W).ext ((Aa.refl W).alloc o)) (fun _ _ h=>h.elim)
theorem Tryz.infoStr:(Tryz.prog.info? 9).map (fun i=>(i.zero,i.size,i.bytes))=some (some (S []),1,16):=by kernel_rfl
section
variable {ops : Array Oper} {rest : List Oper} {o : Oper} {a : Act} {K : Act → World → Prop} {Q : Exit → Act → World → Prop} {E : Prop}
theorem AkZ(s x:Operand)(ho:o.op=.call {callee:=.builtin .append,args:=#[s,x],argTypes:=#[23,23]})
  (wN:World) (base:Nat) (v:Value) (n:Nat) (l:List Bs) (hs:a.eval s=v) (hown:wN.ownsRow base 9 1 v n (l.map S)) (hn:n<200000) (d:Bs)
  (g:Nat) (hb:wN.heap[g]?=some (.cells #[S d] 9)) (hx:a.eval x=.slice (some ⟨g,0,none⟩) 1 1) (hbase:base<=wN.heap.size)
  (h:∀v' w',w'.ownsRow base 9 1 v' (n+1) ((l ++ [d]).map S)→(∀w0,Aa w0 wN→w0.heap.size<=base→Aa w0 w')→wN.grownBy w' v.ownBlock→K (a.put o.dst v') w') :
  o.wp Tryz.prog a wN K Q:=by
 obtain⟨i0,hi,hz0,hz1,hz2⟩:=info_parts Tryz.infoStr;refine jX s x 23 ho 9 i0 _ 1 16 1 Tryz.underlying23 hi hz0 hz1 hz2 rfl (by omega) (by omega) (by omega) wN base v n _ hs hown hn g _ hb rfl ?_ hx hbase ?_
 ·intro u hu;simp only [List.mem_cons,An0,or_false]at hu;rw [hu];rfl
 ·intro v' w' h1 h2 h3;refine h v' w' ?_ h2 h3;rw [List.map_append];exact h1
theorem AjY(hgd:o.guard=none)(s x:Operand)(ho:o.op=.call {callee:=.builtin .append,args:=#[s,x],argTypes:=#[23,23]})
  (wN:World) (base:Nat) (v:Value) (n:Nat) (l:List Bs) (hs:a.eval s=v) (hown:wN.ownsRow base 9 1 v n (l.map S)) (hn:n<200000) (d:Bs)
  (g:Nat) (hb:wN.heap[g]?=some (.cells #[S d] 9)) (hx:a.eval x=.slice (some ⟨g,0,none⟩) 1 1) (hbase:base<=wN.heap.size)
  (h:∀v' w',w'.ownsRow base 9 1 v' (n+1) ((l ++ [d]).map S)→(∀w0,Aa w0 wN→w0.heap.size<=base→Aa w0 w')→wN.grownBy w' v.ownBlock→K (a.put o.dst v') w') :
  if Region.wanted o (yielded ops a.tmps)=true then Oper.wp Tryz.prog o a wN K Q else E:=by
 have hw:Region.wanted o (yielded ops a.tmps)=true:=(by simp [Region.wanted,hgd]);rw [if_pos hw];exact AkZ s x ho wN base v n l hs hown hn d g hb hx hbase h
end
structure Kb(wr:World)(B n bx Bz bM bU:Nat)(U:Option Addr)(cu:Nat)(units:List Bs)(P E F:Value)(nums:List Int)(Am:List Bs):Prop where
 cN:wr.heap[bx]?=some (.cells #[.slice (some ⟨Bz,0,none⟩) n n] 68)
 num:wr.ownsRow 0 3 1 (.slice (some ⟨Bz,0,none⟩) n n) n (zs nums)
 cM:wr.heap[bM]?=some (.cells #[P,E,F] 36)
 fac:wr.ownsRow B 9 1 F Am.length (Am.map S)
 cU:wr.heap[bU]?=some (.cells #[.slice U n cu] 23)
 uni:wr.ownsRow 0 9 1 (.slice U n cu) n (units.map S)
 uB:∀k,(Value.slice U n cu).ownBlock=some k→k<B
 lenN:nums.length=n
 lenU:units.length=n
 cu1:n<=cu
 cu2:cu<=9223372036854775807
 rng:∀z∈nums,0<=z/\z<=(Am.length:Int)
 cnt:Am.length+nums.countP (fun z=>z == 0)<=n
 txt:∀s∈Am,s∈units
theorem DL{w:World}{i j:Nat}{c1 c2:Array Value}{t1 t2:TypeId}{r1 r2:Nat×Nat}(h1:w.heap[i]?=some (.cells c1 t1 r1))(h2:w.heap[j]?=some (.cells c2 t2 r2))(hne:t1≠t2):i≠j:=by
 rintro rfl;rw [h1]at h2;simp only [Ans,Obj.cells.injEq]at h2;exact hne h2.2.1
theorem Bn{w:World}{B:Nat}{e:TypeId}{s n:Nat}{v:Value}{xs:List Value}(h:w.ownsRow B e s v n xs){j:Nat}{c:Array Value}{t:TypeId}{r:Nat×Nat}(hj:w.heap[j]?=some (.cells c t r))(hne:e≠t):v.ownBlock≠some j:=by
 intro k
 rcases h.2 with⟨h',_⟩|⟨g,cap,cur,h',_,hgb,_⟩
 ·rw [h']at k;cases k
 ·rw [h']at k;simp only [Value.ownBlock,Ans]at k;subst k;rw [hgb]at hj;simp only [Ans,Obj.cells.injEq]at hj;exact hne hj.2.1
theorem NY{w:World}{B n b:Nat}{e:TypeId}{s:Nat}{xs:List Value}{cap:Nat}(h:w.ownsRow B e s (.slice (some ⟨b,0,none⟩) n cap) n xs):∃cur,w.heap[b]?=some (.cells cur e (0,0)):=by
 rcases h.2 with⟨h',_⟩|⟨g,cap,cur,h',_,hgb,_⟩
 ·cases h'
 ·simp only [Value.slice.injEq,Ans,Addr.mk.injEq,and_true,true_and]at h';obtain⟨rfl,-⟩:=h';exact⟨cur,hgb⟩
theorem D8{w:World}{p:Addr}{v:Value}{q:Nat}(h:q≠p.block):(w.setCell p v).heap[q]?=w.heap[q]?:=Below.heap_setCell _ _ _ _ h
theorem YB{w:World}{b:Nat}{a0 a1 a2:Value}{t:TypeId}(v:Value)(h:w.heap[b]?=some (.cells #[a0,a1,a2] t)):(w.setCell ⟨b,2,none⟩ v).heap[b]?=some (.cells #[a0,a1,v] t):=by
 simp only [World.setCell,Array.getElem?_modify,h];simp
theorem q9(l:List Int)(m:Nat)(z:Int):(zs l).set m (.int .i64 z)=zs (l.set m z):=by simp [zs]
theorem pC:∀(l:List Int) (m:Nat) (z:Int) (h:m<l.length),l[m]=0→z≠0→(l.set m z).countP (fun z=>z == 0)+1=l.countP (fun z=>z == 0)
 | a::l,0,z,_,h0,hz=>by
  simp only [List.getElem_cons_zero]at h0;subst h0;have:(z == 0)=false:=beq_false_of_ne hz;simp [this]
 | a::l,m+1,z,h,h0,hz=>by have:=pC l m z (by simpa using h) (by simpa using h0) hz;simp only [List.set_cons_succ,List.countP_cons];omega
theorem Kb.extn{w w':World}{B n bx Bz bM bU:Nat}{U:Option Addr}{cu:Nat}{units:List Bs}{P E F:Value}{nums:List Int}{Am:List Bs}(h:Kb w B n bx Bz bM bU U cu units P E F nums Am)(hx:Aa w w'):Kb w' B n bx Bz bM bU U cu units P E F nums Am:=
 ⟨(hx.block _ (Anm h.cN)).trans h.cN,Az h.num hx,(hx.block _ (Anm h.cM)).trans h.cM,Az h.fac hx,(hx.block _ (Anm h.cU)).trans h.cU,Az h.uni hx,h.uB,h.lenN,h.lenU,h.cu1,h.cu2,h.rng,h.cnt,h.txt⟩
theorem Kb.step{w:World}{B n bx Bz bM bU:Nat}{U:Option Addr}{cu:Nat}{units:List Bs}{P E F:Value}{nums:List Int}{Am:List Bs}(h:Kb w B n bx Bz bM bU U cu units P E F nums Am){m:Nat}(hm:m<nums.length)(hz:nums[m]=0){s:Bs}(hs:s∈units){X:Obj}{W7:World}{F':Value}
  (hg:((w.alloc X).drew).grownBy W7 F.ownBlock) (ho:W7.ownsRow B 9 1 F' (Am.length+1) ((Am ++ [s]).map S)) :
  Kb ((W7.setCell ⟨bM,2,none⟩ F').setCell ⟨Bz,m,none⟩ (.int .i64 ((Am.length:Int)+1))) B n bx Bz bM bU U cu units P E F' (nums.set m ((Am.length:Int)+1)) (Am ++ [s])/\Av (fun k=>k=Bz∨k=bM∨F.ownBlock=some k) w ((W7.setCell ⟨bM,2,none⟩ F').setCell ⟨Bz,m,none⟩ (.int .i64 ((Am.length:Int)+1)))
  /\(W7.setCell ⟨bM,2,none⟩ F').heap[bx]?=some (.cells #[.slice (some ⟨Bz,0,none⟩) n n] 68)/\(W7.setCell ⟨bM,2,none⟩ F').heap[bM]?=some (.cells #[P,E,F'] 36)/\(W7.setCell ⟨bM,2,none⟩ F').ownsRow 0 3 1 (.slice (some ⟨Bz,0,none⟩) n n) n (zs nums):=by
 obtain⟨cn,DU⟩:=NY h.num;have E4:Aa w ((w.alloc X).drew):=((Aa.refl w).alloc X).drew;have n1:=DL DU h.cM (by decide);have n2:=DL h.cN DU (by decide);have n3:=DL h.cN h.cM (by decide);have n4:=DL h.cU DU (by decide);have n5:=DL h.cU h.cM (by decide);have f1:=Bn h.fac DU (by decide);have f2:=Bn h.fac h.cM (by decide);have f3:=Bn h.fac h.cN (by decide);have f4:=Bn h.fac h.cU (by decide);have g7:∀{j:Nat} {o:Obj},w.heap[j]?=some o→F.ownBlock≠some j→W7.heap[j]?=some o:=fun {j o} hj hn=>(hg.block j (Anx (Anm hj) E4.size) (fun e=>hn e.symm)).trans ((E4.block j (Anm hj)).trans hj);have EK:=g7 h.cM f2;have UM:=g7 DU f1;have Vb:Av (fun k=>k=Bz∨k=bM∨F.ownBlock=some k) w W7:=((Av.refl _ w).ext E4).grown hg (fun k e=>.inl (.inr (.inr e)));have LW:=(Vb.setCell (p:=⟨bM,2,none⟩) (.inl (.inr (.inl rfl))) F').setCell (p:=⟨Bz,m,none⟩) (.inl (.inl rfl)) (.int .i64 ((Am.length:Int)+1))
 have o7:W7.ownsRow 0 3 1 (.slice (some ⟨Bz,0,none⟩) n n) n (zs nums):=(Az h.num E4).kept hg (by
  cases hF:F.ownBlock with
  | none=>exact .inr (by simp [Value.ownBlock])
  | some k=>refine .inr (fun e=>f1 ?_);rw [hF];exact e.symm)
 have o8:=CB (K:=fun k=>k=bM) o7 ((Av.refl (fun k=>k=bM) W7).setCell (p:=⟨bM,2,none⟩) (.inl rfl) F') (fun k hk e=>by simp only [Value.ownBlock,Ans]at hk;omega);have o9:=(o8.stored m (.int .i64 ((Am.length:Int)+1))).1;rw [q9]at o9;have q1:=Bn ho EK (by decide);have q2:=Bn ho UM (by decide);refine⟨⟨?_,o9,?_,?_,?_,?_,h.uB,by rw [List.length_set];exact h.lenN,h.lenU,h.cu1,h.cu2,?_,?_,?_⟩,LW,by rw [D8 (by show bx≠bM;exact n3)];exact g7 h.cN f3,YB F' EK,o8⟩
 ·rw [D8 (by show bx≠Bz;exact n2),D8 (by show bx≠bM;exact n3)];exact g7 h.cN f3
 ·rw [D8 (by show bM≠Bz;exact fun e=>n1 e.symm)];exact YB F' EK
 ·rw [List.length_append,List.length_singleton];refine CB (K:=fun k=>k=Bz∨k=bM) ho (((Av.refl (fun k=>k=Bz∨k=bM) W7).setCell (p:=⟨bM,2,none⟩) (.inl (.inr rfl)) F').setCell (p:=⟨Bz,m,none⟩) (.inl (.inl rfl)) _) ?_;rintro k hk (e|e)
  ·subst e;exact q2 hk
  ·subst e;exact q1 hk
 ·rw [D8 (by show bU≠Bz;exact n4),D8 (by show bU≠bM;exact n5)];exact g7 h.cU f4
 ·have u1:=Az h.uni E4
  have u2:=u1.kept hg (by
   cases hF:(Value.slice U n cu).ownBlock with
   | none=>exact .inl rfl
   | some k=>
    refine .inr (fun e=>?_);have h1:=h.uB k hF;have h2:=(h.fac.lt k e.symm).1
    omega)
  refine CB (K:=fun k=>k=Bz∨k=bM) u2 (((Av.refl (fun k=>k=Bz∨k=bM) W7).setCell (p:=⟨bM,2,none⟩) (.inl (.inr rfl)) F').setCell (p:=⟨Bz,m,none⟩) (.inl (.inl rfl)) _) ?_;rintro k hk (e|e)
  ·subst e;exact Bn h.uni DU (by decide) hk
  ·subst e;exact Bn h.uni h.cM (by decide) hk
 ·intro z hz';rw [List.length_append,List.length_singleton]
  rcases List.mem_or_eq_of_mem_set hz' with k|k
  ·have:=h.rng z k;omega
  ·omega
 ·have h1:=pC nums m ((Am.length:Int)+1) hm hz (by omega);have h2:=h.cnt;rw [List.length_append,List.length_singleton];omega
 ·intro x hx
  rcases List.mem_append.1 hx with k|k
  ·exact h.txt x k
  ·simp only [An1]at k;rw [k];exact hs
theorem Nf.set{n:Nat}{l:List Hf}(h:Nf n l)(k:Nat){y:Hf}(hy:y∈l):Nf n (l.set k y):=by
 intro z hz
 rcases List.mem_or_eq_of_mem_set hz with e|e
 ·exact h z e
 ·rw [e];exact h y hy
section
variable {ops : Array Oper} {rest : List Oper} {o : Oper} {a : Act} {Q : Exit → Act → World → Prop}
end
structure O4(W3 wr:World)(bM:Nat)(P:Value)(pts:List Pt):Prop where
 cM:wr.heap[bM]?=some (.cells #[P,.slice none 0 0,.slice none 0 0] 36)
 own:wr.ownsRow W3.heap.size 92 2 P pts.length (flat (Ao pts))
 but:Av (fun q=>q=bM) W3 wr
 sheet:∀p∈pts,EB p
theorem O4.ext{W3 wr w':World}{bM:Nat}{P:Value}{pts:List Pt}(h:O4 W3 wr bM P pts)(hx:Aa wr w'):O4 W3 w' bM P pts:=
 ⟨(hx.block _ (Anm h.cM)).trans h.cM,Az h.own hx,h.but.ext hx,h.sheet⟩
theorem O4.app{W3 wr W7:World}{bM:Nat}{P P':Value}{pts:List Pt}(h:O4 W3 wr bM P pts)(GF:bM<W3.heap.size){p:Pt}(hp:EB p){E4:World}(hE:Aa wr E4)(hg:E4.grownBy W7 P.ownBlock)(ho:W7.ownsRow W3.heap.size 92 2 P' (pts.length+1) (flat (Ao (pts ++ [p])))) :
  W7.heap[bM]?=some (.cells #[P,.slice none 0 0,.slice none 0 0] 36)/\O4 W3 (W7.setCell ⟨bM,0,none⟩ P') bM P' (pts ++ [p]):=by
 have hne:=Bn h.own h.cM (by decide);have h7:=(hg.block bM (Anx (Anm h.cM) hE.size) (fun e=>hne e.symm)).trans ((hE.block bM (Anm h.cM)).trans h.cM);have hq:=Bn ho h7 (by decide);refine⟨h7,?_,?_,?_,?_⟩
 ·simp only [World.setCell,Array.getElem?_modify,h7];simp
 ·rw [List.length_append,List.length_singleton];exact CB (K:=fun q=>q=bM) ho ((Av.refl (fun q=>q=bM) W7).setCell (p:=⟨bM,0,none⟩) (.inl rfl) P') (fun k hk e=>by subst e;exact hq hk)
 ·exact((h.but.ext hE).own hg (Az h.own hE) (Ano _)).setCell (p:=⟨bM,0,none⟩) (.inl rfl) P'
 ·intro x hx
  rcases List.mem_append.1 hx with k|k
  ·exact h.sheet x k
  ·simp only [An1]at k;rw [k];exact hp
theorem AbT(l:List Ax)(d:Ax):Bw (l ++ [d])=Bw l ++ [.int .i64 d.f,.int .i64 d.t,.int .i64 d.l,.int .i64 d.r]:=by simp [Bw]
section
variable {ops : Array Oper} {rest : List Oper} {o : Oper} {a : Act} {K : Act → World → Prop} {Q : Exit → Act → World → Prop} {E : Prop}
theorem AkU(s x:Operand)(ho:o.op=.call {callee:=.builtin .append,args:=#[s,x],argTypes:=#[34,34]})
  (wN:World) (base:Nat) (v:Value) (n:Nat) (l:List Ax) (hs:a.eval s=v) (hown:wN.ownsRow base 126 4 v n (Bw l)) (hn:n<200000) (d:Ax)
  (g:Nat) (hb:wN.heap[g]?=some (.cells #[.int .i64 d.f,.int .i64 d.t,.int .i64 d.l,.int .i64 d.r] 126)) (hx:a.eval x=.slice (some ⟨g,0,none⟩) 1 1) (hbase:base<=wN.heap.size)
  (h:∀v' w',w'.ownsRow base 126 4 v' (n+1) (Bw (l ++ [d]))→wN.grownBy w' v.ownBlock→K (a.put o.dst v') w') :
  Oper.wp Tryz.prog o a wN K Q:=by
 obtain⟨i0,hi,hz0,hz1,hz2⟩:=info_parts Tryz.infoEd;refine jX s x 34 ho 126 i0 _ 4 32 1 Tryz.underlying34 hi hz0 hz1 hz2 rfl (by omega) (by omega) (by omega) wN base v n _ hs hown hn g _ hb rfl ?_ hx hbase ?_
 ·intro u hu;simp only [List.mem_cons,An0,or_false]at hu
  rcases hu with rfl|rfl|rfl|rfl<;>rfl
 ·intro v' w' h1 _ h3;refine h v' w' ?_ h3;rw [AbT];exact h1
end
structure G0(W5 wr:World)(n bx Bz bM bU:Nat)(U:Option Addr)(cu:Nat)(units:List Bs)(P E F:Value)(nums:List Int)(Am:List Bs)(eds:List Ax):Prop where
 nam:Kb wr W5.heap.size n bx Bz bM bU U cu units P E F nums Am
 own:wr.ownsRow W5.heap.size 126 4 E eds.length (Bw eds)
 but:Av (fun q=>q=Bz∨q=bM) W5 wr
theorem G0.extn{W5 wr w':World}{n bx Bz bM bU:Nat}{U:Option Addr}{cu:Nat}{units:List Bs}{P E F:Value}{nums:List Int}{Am:List Bs}{eds:List Ax}(h:G0 W5 wr n bx Bz bM bU U cu units P E F nums Am eds)(hx:Aa wr w'):G0 W5 w' n bx Bz bM bU U cu units P E F nums Am eds:=
 ⟨h.nam.extn hx,Az h.own hx,h.but.ext hx⟩
theorem G0.name{W5 wr w':World}{n bx Bz bM bU:Nat}{U:Option Addr}{cu:Nat}{units:List Bs}{P E F F':Value}{nums Co:List Int}{Am Bi:List Bs}{eds:List Ax}(h:G0 W5 wr n bx Bz bM bU U cu units P E F nums Am eds)
  (hn:Kb w' W5.heap.size n bx Bz bM bU U cu units P E F' Co Bi) (hb:Av (fun k=>k=Bz∨k=bM∨F.ownBlock=some k) wr w'):G0 W5 w' n bx Bz bM bU U cu units P E F' Co Bi eds:=by
 obtain⟨cn,DU⟩:=NY h.nam.num;refine⟨hn,CB h.own hb ?_,?_⟩
 ·rintro k hk (e|e|e)
  ·subst e;exact Bn h.own DU (by decide) hk
  ·subst e;exact Bn h.own h.nam.cM (by decide) hk
  ·rcases h.nam.fac.2 with⟨h',_⟩|⟨g,cap,cur,h',_,hgb,_⟩
   ·rw [h']at e;cases e
   ·rw [h']at e;simp only [Value.ownBlock,Ans]at e;subst e;exact Bn h.own hgb (by decide) hk
 ·refine⟨hb.os.trans h.but.os,hb.tape.trans h.but.tape,hb.output.trans h.but.output,Anz h.but.size hb.size,fun k hk IJ=>?_⟩;refine(hb.block k (Anx hk h.but.size) ?_).trans (h.but.block k hk IJ);rintro(e|e|e)
  ·exact IJ (.inl e)
  ·exact IJ (.inr e)
  ·have:=(h.nam.fac.lt k e).1;omega
theorem G0.app{W5 wr W7:World}{n bx Bz bM bU:Nat}{U:Option Addr}{cu:Nat}{units:List Bs}{P E E' F:Value}{nums:List Int}{Am:List Bs}{eds:List Ax}(h:G0 W5 wr n bx Bz bM bU U cu units P E F nums Am eds)
  {d:Ax} {X4:World} (hE:Aa wr X4) (hg:X4.grownBy W7 E.ownBlock) (ho:W7.ownsRow W5.heap.size 126 4 E' (eds.length+1) (Bw (eds ++ [d]))) :
  W7.heap[bM]?=some (.cells #[P,E,F] 36)/\G0 W5 (W7.setCell ⟨bM,1,none⟩ E') n bx Bz bM bU U cu units P E' F nums Am (eds ++ [d]):=by
 have h4:=h.extn hE;obtain⟨cn,DU⟩:=NY h4.nam.num;have e1:=Bn h4.own h4.nam.cM (by decide);have e2:=Bn h4.own DU (by decide);have e3:=Bn h4.own h4.nam.cN (by decide);have e4:=Bn h4.own h4.nam.cU (by decide);have g7:∀{j:Nat} {o:Obj},X4.heap[j]?=some o→E.ownBlock≠some j→W7.heap[j]?=some o:=fun {j o} hj hn=>(hg.block j (Anm hj) (fun e=>hn e.symm)).trans hj;have h7:=g7 h4.nam.cM e1;have n1:=DL DU h4.nam.cM (by decide);have n2:=DL h4.nam.cN h4.nam.cM (by decide);have n3:=DL h4.nam.cU h4.nam.cM (by decide);have bb:=(Av.refl (fun k=>k=bM) W7).setCell (p:=⟨bM,1,none⟩) (.inl rfl) E'
 have kp:∀{e:TypeId} {s m:Nat} {v:Value} {xs:List Value} {B:Nat},X4.ownsRow B e s v m xs→e≠126→e≠36→(W7.setCell ⟨bM,1,none⟩ E').ownsRow B e s v m xs:=by
  intro e s m v xs B hv hne EL
  have M7:W7.ownsRow B e s v m xs:=hv.kept hg (by
   cases hE:E.ownBlock with
   | none=>cases hv':v.ownBlock with
    | none=>exact .inl rfl
    | some k=>exact .inr (by simp)
   | some k=>
    refine .inr (fun e0=>?_)
    rcases h4.own.2 with⟨h',_⟩|⟨g,cap,cur,h',_,hgb,_⟩
    ·rw [h']at hE;cases hE
    ·rw [h']at hE;simp only [Value.ownBlock,Ans]at hE;subst hE
     exact Bn hv hgb hne e0)
  exact CB M7 bb (fun k hk e0=>by subst e0;exact Bn M7 h7 EL hk)
 refine⟨h7,⟨?_,kp h4.nam.num (by decide) (by decide),?_,kp h4.nam.fac (by decide) (by decide),?_,kp h4.nam.uni (by decide) (by decide),h.nam.uB,h.nam.lenN,h.nam.lenU,h.nam.cu1,h.nam.cu2,h.nam.rng,h.nam.cnt,h.nam.txt⟩,?_,?_⟩
 ·rw [D8 (by show bx≠bM;exact n2)];exact g7 h4.nam.cN e3
 ·simp only [World.setCell,Array.getElem?_modify,h7];simp
 ·rw [D8 (by show bU≠bM;exact n3)];exact g7 h4.nam.cU e4
 ·rw [List.length_append,List.length_singleton];exact CB ho bb (fun k hk e0=>by subst e0;exact Bn ho h7 (by decide) hk)
 ·exact(h4.but.own hg h4.own (Ano _)).setCell (p:=⟨bM,1,none⟩) (.inl (.inr rfl)) E'
structure MapAt(w:World)(n:Nat)(units:List Bs)(A B F:Option Addr)(c d g:Nat)(m:Cp)(Am:List Bs):Prop where
 cap:JV m c d g
 pts:Ae w A (flat (Ao m.pts))
 eds:Ae w B (Bw m.eds)
 fac:Ae w F (Am.map S)
 nf:m.nf=Am.length
 le:Am.length<=n
 sheet:∀p∈m.pts,EB p
 txt:∀s∈Am,s∈units
structure Xy(n:Nat)(A B F:Option Addr):Prop where
 a:∀x,A=some x→n<=x.block
 b:∀x,B=some x→n<=x.block
 f:∀x,F=some x→n<=x.block
theorem Xy.mono{n k:Nat}{A B F:Option Addr}(h:Xy n A B F)(hk:k<=n):Xy k A B F:=
 ⟨fun x e=>Anz hk (h.a x e),fun x e=>Anz hk (h.b x e),fun x e=>Anz hk (h.f x e)⟩
end Go.Proofs.YtjalkoacphhgdaaGreatDoor
