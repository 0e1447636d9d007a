/- X34: C1 C2 C3 QB QCA. -/
import Derived.Test.YtjalkoacphhgdaaGreatDoorX33
namespace Go.Proofs.YtjalkoacphhgdaaGreatDoor
open Go.RowKit Kl
def rowOf(R0:List (Pt×List Pt))(p:Pt):List Pt:=match R0.find? (fun e=>Ap p e.1)with|some e=>e.2|none=>[]
theorem ut(p:Pt):Ap p p=true:=C0.2 rfl
theorem uq{p q:Pt} : Ap p q=false↔p≠q:=by
 rw [Bool.eq_false_iff];exact not_congr C0
theorem LW(e:Pt×List Pt)(R0:List (Pt×List Pt))(p:Pt):rowOf (e::R0) p=if Ap p e.1=true then e.2 else rowOf R0 p:=by
 unfold rowOf;rw [List.find?_cons]
 cases h:Ap p e.1<;>simp
theorem UU(p q:Pt):CU [] p q = [(p,[q])]:=by simp [CU,Gx,FY,List.modify]
theorem UT(e:Pt×List Pt)(R0:List (Pt×List Pt))(p q:Pt):CU (e::R0) p q=if Ap p e.1=true then (e.1,e.2 ++ [q])::R0 else e::CU R0 p q:=by
 unfold CU Gx FY;rw [List.findIdx?_cons]
 cases h:Ap p e.1
 ·simp only [Bool.false_eq_true,if_false]
  cases h2:R0.findIdx? (fun e=>Ap p e.1)with
  | none=>simp [List.modify_succ_cons]
  | some j=>simp [List.modify_succ_cons]
 ·simp
theorem lQ(R0:List (Pt×List Pt))(p q p':Pt):rowOf (CU R0 p q) p'=if Ap p' p=true then rowOf R0 p ++ [q] else rowOf R0 p':=by
 induction R0 with
 | nil=>
  rw [UU,LW];simp only
  cases h:Ap p' p<;>simp [rowOf]
 | cons e R0 ih=>
  rw [UT];by_cases h:Ap p e.1=true
  ·rw [if_pos h,LW,LW,LW,if_pos h];have he:=C0.1 h;simp only [←he];by_cases h2:Ap p' p=true
   ·rw [if_pos h2,if_pos h2]
   ·rw [if_neg h2,if_neg h2,if_neg h2]
  ·rw [if_neg h,LW,LW,LW,if_neg h,ih];by_cases h2:Ap p' p=true
   ·have:=C0.1 h2;subst this;rw [if_neg h,if_pos h2,if_pos h2]
   ·rw [if_neg h2,if_neg h2]
theorem AbV(R0:List (Pt×List Pt))(p q:Pt):∀x,x∈(CU R0 p q).map (·.1)↔x=p∨x∈R0.map (·.1):=by
 induction R0 with
 | nil=>intro x;rw [UU];simp
 | cons e R0 ih=>
  intro x;rw [UT];by_cases h:Ap p e.1=true
  ·rw [if_pos h];have:=C0.1 h;subst this;simp
  ·rw [if_neg h,List.map_cons,List.mem_cons,ih x,List.map_cons,List.mem_cons];constructor
   ·rintro(h1|h1|h1)
    ·exact .inr (.inl h1)
    ·exact .inl h1
    ·exact .inr (.inr h1)
   ·rintro(h1|h1|h1)
    ·exact .inr (.inl h1)
    ·exact .inl h1
    ·exact .inr (.inr h1)
theorem qE{R0:List (Pt×List Pt)}(h:(R0.map (·.1)).Nodup)(p q:Pt):((CU R0 p q).map (·.1)).Nodup:=by
 induction R0 with
 | nil=>rw [UU];simp
 | cons e R0 ih=>
  rw [List.map_cons,List.nodup_cons]at h;rw [UT];by_cases h2:Ap p e.1=true
  ·rw [if_pos h2,List.map_cons,List.nodup_cons];exact h
  ·rw [if_neg h2,List.map_cons,List.nodup_cons];refine⟨?_,ih h.2⟩;rw [AbV];rintro(h3|h3)
   ·exact h2 (C0.2 h3.symm)
   ·exact h.1 h3
theorem qD{R0:List (Pt×List Pt)}(h:∀e∈R0,e.2≠[])(p q:Pt):∀e∈CU R0 p q,e.2≠[]:=by
 induction R0 with
 | nil=>rw [UU];simp
 | cons e R0 ih=>
  rw [UT];intro x hx;by_cases h2:Ap p e.1=true
  ·rw [if_pos h2]at hx
   rcases List.mem_cons.1 hx with rfl|hx
   ·simp
   ·exact h x (List.mem_cons_of_mem _ hx)
  ·rw [if_neg h2]at hx
   rcases List.mem_cons.1 hx with rfl|hx
   ·exact h _ (List.mem_cons_self)
   ·exact ih (fun e he=>h e (List.mem_cons_of_mem _ he)) x hx
theorem vz{R0:List (Pt×List Pt)}(h:(R0.map (·.1)).Nodup){e:Pt×List Pt}(he:e∈R0):R0.find? (fun x=>Ap e.1 x.1)=some e:=by
 induction R0 with
 | nil=>cases he
 | cons x R0 ih=>
  rw [List.map_cons,List.nodup_cons]at h;rw [List.find?_cons]
  rcases List.mem_cons.1 he with rfl|he
  ·rw [ut]
  ·have:Ap e.1 x.1=false:=by rw [uq];intro hh;exact h.1 (hh▸List.mem_map_of_mem he)
   rw [this];exact ih h.2 he
structure EW(W:List Sg)(R0:List (Pt×List Pt)):Prop where
 keys:(R0.map (·.1)).Nodup
 ne:∀e∈R0,e.2≠[]
 mem:∀p q,q∈rowOf R0 p↔(⟨p,q⟩:Sg)∈W
 back:∀s∈W,AW s∈W
theorem ou(pts:List Pt)(l:List Az):EW ((AO pts l).map (·.1)) (C7 pts l):=by
 have main:∀n,n<=l.length→EW ((AO pts (l.take n)).map (·.1)) (C7 pts (l.take n)):=by
  intro n
  induction n with
  | zero=>intro _;exact⟨by simp [C7],by simp [C7],by simp [C7,AO,rowOf],by simp [AO]⟩
  | succ n ih=>
   intro hn;have h:=ih (by omega);rw [AqN (by omega),XL,XM];generalize l[n]=e at *;generalize Bh pts e=s at *;refine⟨qE (qE h.keys _ _) _ _,qD (qD h.ne _ _) _ _,?_,?_⟩
   ·intro p q;rw [lQ,lQ,lQ,List.map_append,List.mem_append];simp only [List.map_cons,List.map_nil,List.mem_cons,AqV,or_false,←h.mem];have e1:((⟨p,q⟩:Sg)=s)↔p=s.a/\q=s.b:=(by obtain⟨a,b⟩:=s;simp);have e2:((⟨p,q⟩:Sg)=AW s)↔p=s.b/\q=s.a:=(by obtain⟨a,b⟩:=s;simp [AW]);rw [e1,e2];by_cases h1:Ap p s.b=true
    ·have p1:=C0.1 h1;rw [if_pos h1];by_cases h2:Ap s.b s.a=true
     ·have p2:=C0.1 h2;rw [if_pos h2,←p2,←p1];simp only [List.mem_append,AqW]
      grind
     ·rw [if_neg h2,←p1];have p2:¬s.b=s.a:=fun h=>h2 (C0.2 h);simp only [List.mem_append,AqW]
      grind
    ·have p1:¬p=s.b:=fun h=>h1 (C0.2 h);rw [if_neg h1];by_cases h2:Ap p s.a=true
     ·have p2:=C0.1 h2;rw [if_pos h2,←p2];simp only [List.mem_append,AqW]
      grind
     ·have p2:¬p=s.a:=fun h=>h2 (C0.2 h);rw [if_neg h2]
      grind
   ·intro x hx;rw [List.map_append,List.mem_append]at hx ⊢;simp only [List.map_cons,List.map_nil,List.mem_cons,AqV,or_false]at hx ⊢
    rcases hx with hx|rfl|rfl
    ·exact .inl (h.back x hx)
    ·exact .inr (.inr rfl)
    ·exact .inr (.inl rfl)
 have:=main l.length (AqK _)
 rwa [List.take_length]at this
theorem Amw(R0:List (Pt×List Pt))(p q:Pt):q∈rowOf (R0.map (fun e=>(e.1,Ea e.1 e.2))) p↔q∈rowOf R0 p:=by
 induction R0 with
 | nil=>simp [rowOf]
 | cons e R0 ih=>
  rw [List.map_cons,LW,LW];simp only;by_cases h1:Ap p e.1=true
  ·rw [if_pos h1,if_pos h1];exact(Yt e.1 e.2).mem_iff
  ·rw [if_neg h1,if_neg h1];exact ih
theorem Ai5{l:List Pt}{p:Pt}(h:p∈l):∃j,j<l.length/\GH l p=(j:Int):=by
 unfold GH
 cases hf:l.findIdx? (Ap p)with
 | none=>
  rw [List.findIdx?_eq_none_iff]at hf;have:=hf p h;rw [ut]at this
  cases this
 | some j=>rw [List.findIdx?_eq_some_iff_getElem]at hf;exact⟨j,hf.1,rfl⟩
theorem EW.sorted{W:List Sg}{R0:List (Pt×List Pt)}(h:EW W R0):EW W (R0.map (fun e=>(e.1,Ea e.1 e.2))):=by
 have hk:(R0.map (fun e=>(e.1,Ea e.1 e.2))).map (·.1)=R0.map (·.1):=(by rw [List.map_map];rfl);have hr:=Amw R0;refine⟨by rw [hk];exact h.keys,?_,fun p q=>by rw [hr];exact h.mem p q,h.back⟩;intro e he;rw [List.mem_map]at he;obtain⟨x,hx,rfl⟩:=he;have:=h.ne x hx;intro e0;have:=(Yt x.1 x.2).length_eq;simp only at e0;rw [e0]at this;exact h.ne x hx (List.eq_nil_of_length_eq_zero this.symm)
def N2(R0:List (Pt×List Pt))(s:Sg):Sg:=⟨s.b,(rowOf R0 s.b).getD (((GH (rowOf R0 s.b) s.a).toNat+(rowOf R0 s.b).length-1)%(rowOf R0 s.b).length) ⟨0,0⟩⟩
theorem EW.step{W:List Sg}{R0:List (Pt×List Pt)}(h:EW W R0){s:Sg}(hs:s∈W) :
  ∃e,R0.find? (fun e=>Ap s.b e.1)=some e/\∃j m,∃_:j<e.2.length,GH e.2 s.a=(j:Int)/\∃hm:m<e.2.length,m=(j+e.2.length-1)%e.2.length/\N2 R0 s=⟨s.b,e.2[m]⟩/\(⟨s.b,e.2[m]⟩:Sg)∈W:=by
 have hb:s.a∈rowOf R0 s.b:=(h.mem s.b s.a).2 (h.back s hs)
 have hr:rowOf R0 s.b=match R0.find? (fun e=>Ap s.b e.1)with|some e=>e.2|none=>[]:=rfl
 cases hf:R0.find? (fun e=>Ap s.b e.1)with
 | none=>rw [hr,hf]at hb;cases hb
 | some e=>
  rw [hf]at hr;simp only at hr;rw [hr]at hb;obtain⟨j,hj,hi⟩:=Ai5 hb;have hl:0<e.2.length:=(by omega);have hm:(j+e.2.length-1)%e.2.length<e.2.length:=Nat.mod_lt _ hl;refine⟨e,rfl,j,_,hj,hi,hm,rfl,?_,?_⟩
  ·unfold N2;rw [hr,hi];simp only [Int.toNat_natCast];rw [List.getD_eq_getElem?_getD,AqP hm];rfl
  ·refine(h.mem s.b _).1 ?_;rw [hr];exact AqL hm
theorem EW.next{W:List Sg}{R0:List (Pt×List Pt)}(h:EW W R0){s:Sg}(hs:s∈W):N2 R0 s∈W:=by
 obtain⟨e,_,j,m,_,_,hm,_,h1,h2⟩:=h.step hs;rw [h1];exact h2
def UQ(W:List Sg):Prop:=∀s∈W,∀t∈W,s≠t→s≠AW t→FC s.a s.b t.a t.b
theorem UQ.good{W:List Sg}(h:UQ W):KA W:=by
 intro s hs t ht h1 h2 hne;refine h s hs t ht hne ?_;rintro rfl;simp only [AW]at h1
 grind
theorem Aom(pts:List Pt)(l:List Az)(h3:DU pts [] l=0):UQ ((AO pts l).map (·.1)):=by
 have hx:∀i j,(hi:i<l.length)→(hj:j<l.length)→i<j→FC (Bh pts l[j]).a (Bh pts l[j]).b (Bh pts l[i]).a (Bh pts l[i]).b:=by intro i j hi hj Bc;have:=sM h3 j hj;rw [List.nil_append,List.any_eq_false]at this;have h1:=this l[i] (by rw [List.mem_take_iff_getElem];exact⟨i,by omega,rfl⟩);rw [Bool.not_eq_true]at h1;exact Akq h1
 have hy:∀i j,(hi:i<l.length)→(hj:j<l.length)→i≠j→FC (Bh pts l[i]).a (Bh pts l[i]).b (Bh pts l[j]).a (Bh pts l[j]).b:=by
  intro i j hi hj Bc
  rcases Nat.lt_or_gt_of_ne Bc with h|h
  ·exact(hx i j hi hj h).symm
  ·exact hx j i hj hi h
 have mem:∀s,s∈(AO pts l).map (·.1)→∃i,∃hi:i<l.length,s=Bh pts l[i]∨s=AW (Bh pts l[i]):=by
  intro s hs;rw [List.mem_map]at hs;obtain⟨x,hx,rfl⟩:=hs;unfold AO at hx;rw [List.mem_flatMap]at hx;obtain⟨e,he,hx⟩:=hx;obtain⟨i,hi,rfl⟩:=List.getElem_of_mem he;simp only [List.mem_cons,AqV,or_false]at hx
  rcases hx with rfl|rfl
  ·exact⟨i,hi,.inl rfl⟩
  ·exact⟨i,hi,.inr rfl⟩
 intro s hs t ht h1 h2;obtain⟨i,hi,es⟩:=mem s hs;obtain⟨j,hj,et⟩:=mem t ht
 have Bc:i≠j:=by
  rintro rfl
  rcases es with rfl|rfl<;>rcases et with rfl|rfl
  ·exact h1 rfl
  ·exact h2 rfl
  ·exact h2 rfl
  ·exact h1 rfl
 have hn:=hy i j hi hj Bc
 rcases es with rfl|rfl<;>rcases et with rfl|rfl
 ·exact hn
 ·exact hn.right
 ·exact hn.left
 ·exact hn.left.right
structure Px(W:List Sg):Prop where
 x:UQ W
 sz:∀s∈W,Ex 200 s
 ne:∀s∈W,s.a≠s.b
theorem Amx{W:List Sg}{R0:List (Pt×List Pt)}(hW:Px W)(hN:EW W R0)(hlen:∀e∈R0,e.2.length<100000):pY R0:=by
 have hm:∀e∈R0,∀q∈e.2,(⟨e.1,q⟩:Sg)∈W:=by intro e he q hq;refine(hN.mem e.1 q).1 ?_;unfold rowOf;rw [vz hN.keys he];exact hq
 refine⟨?_,?_,hN.ne,hlen⟩
 ·intro e he;refine⟨fun q hq=>(hW.sz _ (hm e he q hq)).b,fun q hq h=>hW.ne _ (hm e he q hq) h.symm,?_⟩;intro a ha b hb h0;refine Classical.byContradiction fun hab=>hab ?_;have na:a≠e.1:=fun h=>hW.ne _ (hm e he a ha) h.symm;have nb:b≠e.1:=fun h=>hW.ne _ (hm e he b hb) h.symm;refine Aem (hW.x _ (hm e he a ha) _ (hm e he b hb) ?_ ?_) na nb h0
  ·intro h;simp only [Sg.mk.injEq,true_and]at h;exact hab h
  ·intro h;simp only [AW,Sg.mk.injEq]at h;exact nb h.1.symm
 ·intro e he;obtain⟨q,hq⟩:=List.exists_mem_of_ne_nil _ (hN.ne e he);exact(hW.sz _ (hm e he q hq)).a
def GN(R0:List (Pt×List Pt)):Nat→List Sg→Sg→List Sg→List Sg×List Sg
 | 0,U,_,c=>(U,c)
 | n+1,U,s,c=>if U.any (AL s)=true then (U,c)else GN R0 n (U ++ [s]) (N2 R0 s) (c ++ [s])
def Gb(N:Nat)(R0:List (Pt×List Pt))(st:List Sg×List (List Sg))(s:Sg):List Sg×List (List Sg):=
 ((GN R0 (N-st.1.length+1) st.1 s []).1,if 0<(GN R0 (N-st.1.length+1) st.1 s []).2.length then st.2 ++ [(GN R0 (N-st.1.length+1) st.1 s []).2] else st.2)
def Is(W:List Sg)(R0:List (Pt×List Pt)):List (List Sg):=((BA W).foldl (Gb W.length R0) ([],[])).2
theorem UW{U:List Sg}{s:Sg} : U.any (AL s)=true↔s∈U:=by
 rw [List.any_eq_true];constructor
 ·rintro⟨x,hx,h⟩;rw [II]at h;exact h▸hx
 ·intro h;exact⟨s,h,II.2 rfl⟩
theorem qP{U:List Sg}{s:Sg} : U.any (AL s)=false↔s∉U:=by
 rw [←UW,Bool.not_eq_true]
theorem Kn{U W:List Sg}(h:U.Nodup)(hs:∀s∈U,s∈W):U.length<=W.length:=h.length_le_of_subset hs
theorem lR{W:List Sg}{R0:List (Pt×List Pt)}(hN:EW W R0):∀(n:Nat) (U:List Sg) (s:Sg) (c:List Sg),U.Nodup→(∀t∈U,t∈W)→s∈W→W.length<U.length+n→
  ∃d,GN R0 n U s c=(U++d,c++d)/\(U++d).Nodup/\(∀t∈d,t∈W)/\(s∉U→d.head?=some s)/\s∈U++d
 | 0,U,s,c,h1,h2,h3,h4=>by have:=Kn h1 h2;omega
 | n+1,U,s,c,h1,h2,h3,h4=>by
  unfold GN;by_cases hs:s∈U
  ·rw [if_pos (UW.2 hs)];exact⟨[],by simp,by simpa using h1,by simp,fun h=>absurd hs h,by simpa using hs⟩
  ·rw [if_neg (by rw [UW];exact hs)]
   have hn:(U ++ [s]).Nodup:=by rw [List.nodup_append];refine⟨h1,by simp,?_⟩;intro a ha b hb;simp only [AqW]at hb;subst hb;rintro rfl;exact hs ha
   obtain⟨d,e1,e2,e3,e4,e5⟩:=lR hN n (U ++ [s]) (N2 R0 s) (c ++ [s]) hn (by
    intro t ht
    rcases List.mem_append.1 ht with ht|ht
    ·exact h2 t ht
    ·simp only [AqW]at ht;exact ht▸h3) (hN.next h3) (by simp;omega)
   refine⟨s::d,?_,?_,?_,fun _=>rfl,by simp⟩
   ·rw [e1];simp
   ·simpa using e2
   ·intro t ht
    rcases List.mem_cons.1 ht with rfl|ht
    ·exact h3
    ·exact e3 t ht
theorem wh(R0:List (Pt×List Pt)):∀(n:Nat) (U:List Sg) (s:Sg) (c:List Sg),c.length<=(GN R0 n U s c).2.length
 | 0,U,s,c=>AqK _
 | n+1,U,s,c=>by
  unfold GN
  split
  ·exact AqK _
  ·have:=wh R0 n (U ++ [s]) (N2 R0 s) (c ++ [s]);rw [List.length_append,List.length_singleton]at this;omega
structure Uz(W:List Sg)(U:List Sg)(C:List (List Sg)):Prop where
 nd:U.Nodup
 sub:∀s∈U,s∈W
 flat:C.flatten=U
 ne:∀c∈C,c≠[]
 least:∀c∈C,∀s∈c,∀h:0<c.length,¬FO s c[0]<0
theorem tL{W:List Sg}{R0:List (Pt×List Pt)}(hN:EW W R0)(k:Nat)(hk:k<=(BA W).length) :
  Uz W (((BA W).take k).foldl (Gb W.length R0) ([],[])).1 (((BA W).take k).foldl (Gb W.length R0) ([],[])).2/\∀s∈(BA W).take k,s∈(((BA W).take k).foldl (Gb W.length R0) ([],[])).1:=by
 induction k with
 | zero=>exact⟨⟨by simp,by simp,by simp,by simp,by simp⟩,by simp⟩
 | succ k ih=>
  have Cr:k<(BA W).length:=(by omega);obtain⟨h,hp⟩:=ih (by omega);rw [AqN Cr,List.foldl_append];simp only [List.foldl_cons,List.foldl_nil];generalize hst:((BA W).take k).foldl (Gb W.length R0) ([],[])=st at *;have Nm:(BA W)[k]∈W:=(J4 W).mem_iff.1 (AqL Cr);have hle:=Kn h.nd h.sub;obtain⟨d,e1,e2,e3,e4,e5⟩:=lR hN (W.length-st.1.length+1) st.1 (BA W)[k] [] h.nd h.sub Nm (by omega)
  have hstep:Gb W.length R0 st (BA W)[k]=(st.1++d,if 0<d.length then st.2 ++ [d] else st.2):=by unfold Gb;rw [e1];simp
  rw [hstep];simp only;refine⟨⟨e2,?_,?_,?_,?_⟩,?_⟩
  ·intro s hs
   rcases List.mem_append.1 hs with hs|hs
   ·exact h.sub s hs
   ·exact e3 s hs
  ·split
   ·rw [List.flatten_append,h.flat];simp
   ·have:d = []:=List.eq_nil_of_length_eq_zero (by omega);rw [this,List.append_nil];exact h.flat
  ·intro c hc
   split at hc
   ·rename_i BW
    rcases List.mem_append.1 hc with hc|hc
    ·exact h.ne c hc
    ·simp only [AqW]at hc;subst hc;intro e;rw [e]at BW;simp at BW
   ·exact h.ne c hc
  ·intro c hc;have old:=h.least c
   split at hc
   ·rcases List.mem_append.1 hc with hc|hc
    ·exact old hc
    ·simp only [AqW]at hc;subst hc;intro s hs h0;by_cases hu:(BA W)[k]∈st.1
     ·
      exfalso
      have:GN R0 (W.length-st.1.length+1) st.1 (BA W)[k] []=(st.1,[]):=by unfold GN;rw [if_pos (UW.2 hu)]
      rw [this]at e1;have:=congrArg Prod.snd e1;simp only [List.nil_append]at this;rw [←this]at h0;simp at h0
     ·have hh:=e4 hu
      have h00:c[0]=(BA W)[k]:=by rw [List.head?_eq_getElem?,AqP h0,AqO]at hh;exact hh
      rw [h00];have hsm:s∈BA W:=(J4 W).mem_iff.2 (e3 s hs);obtain⟨i,hi,rfl⟩:=List.getElem_of_mem hsm
      have hik:k<=i:=by
       refine Classical.byContradiction fun hlt=>?_
       have hin:(BA W)[i]∈(BA W).take k:=by rw [List.mem_take_iff_getElem];exact⟨i,by omega,rfl⟩
       have h1:=hp _ hin;rw [List.nodup_append]at e2;exact e2.2.2 _ h1 _ hs rfl
      rcases Nat.lt_or_eq_of_le hik with h1|h1
      ·exact List.pairwise_iff_getElem.1 mP k i Cr hi h1
      ·subst h1;rw [Q5];grind
   ·exact old hc
  ·intro s hs
   rcases List.mem_append.1 hs with hs|hs
   ·exact List.mem_append_left _ (hp s hs)
   ·simp only [AqW]at hs;rw [hs];exact e5
theorem Xv{α:Type} : ∀{l:List (List α)},(∀c∈l,c≠[])→l.length<=l.flatten.length
 | [],_=>by simp
 | c::l,h=>by have h1:=Xv (l:=l) (fun x hx=>h x (List.mem_cons_of_mem _ hx));have h2:=List.length_pos_iff.2 (h c List.mem_cons_self);rw [List.flatten_cons,List.length_append,List.length_cons];omega
theorem Aee{W:List Sg}{R0:List (Pt×List Pt)}(hN:EW W R0):∃U,Uz W U (Is W R0)/\∀s∈W,s∈U:=by
 obtain⟨h,hp⟩:=tL hN (BA W).length (AqK _);rw [List.take_length]at h hp;exact⟨_,h,fun s hs=>hp s ((J4 W).mem_iff.2 hs)⟩
theorem CB{K:Nat→Prop}{W W':World}{B:Nat}{e:TypeId}{s n:Nat}{v:Value}{xs:List Value}(h:W.ownsRow B e s v n xs)(hb:Au K W W')(hK:∀k,v.ownBlock=some k→¬K k):W'.ownsRow B e s v n xs:=by
 refine⟨h.1,?_⟩
 rcases h.2 with h'|⟨g,cap,cur,rfl,hg,hgb,h4⟩
 ·exact .inl h'
 ·exact .inr ⟨g,cap,cur,rfl,hg,hb.cells hgb (hK g rfl),h4⟩
theorem rq{W:World}{B:Nat}{e:TypeId}{s n:Nat}{v:Value}{xs:List Value}(h:W.ownsRow B e s v n xs){j:Nat}{o:Obj}(hj:W.heap[j]?=some o)(hno:∀cur,o≠.cells cur e (0,0)):∀k,v.ownBlock=some k→k≠j:=by
 intro k hk e;subst e
 rcases ownsRow_ne h hj hno with h1|h1
 ·rw [h1]at hk;cases hk
 ·exact h1 hk
def Hg(B:Nat)(W:World)(out:Value)(C:List (List Sg)):Prop:=
 ∃vs,W.ownsRow B 160 1 out C.length vs/\∀j (h:j<C.length),∃v,vs[j]?=some v/\W.ownsRow B 155 4 v C[j].length (BS C[j])
theorem Hg.keep{K:Nat→Prop}{W W':World}{B:Nat}{out:Value}{C:List (List Sg)}(h:Hg B W out C)(hb:Au K W W')(hK:∀k,k<W.heap.size→K k→∀cs e,W.heap[k]?≠some (.cells cs e (0,0))):Hg B W' out C:=by
 obtain⟨vs,ho,hr⟩:=h
 have main:∀{e:TypeId} {s n:Nat} {v:Value} {xs:List Value},W.ownsRow B e s v n xs→W'.ownsRow B e s v n xs:=by
  intro e s n v xs h;refine CB h hb ?_;intro k hk hKk
  rcases h.2 with⟨h',_⟩|⟨g,cap,cur,h',_,hgb,_⟩
  ·rw [h']at hk;cases hk
  ·rw [h']at hk;simp only [Value.ownBlock,AqO]at hk;subst hk;exact hK g (AqI hgb) hKk _ _ hgb
 exact⟨vs,main ho,fun j hj=>by obtain⟨v,h1,h2⟩:=hr j hj;exact⟨v,h1,main h2⟩⟩
theorem Hg.nil(B:Nat)(W:World):Hg B W (.slice none 0 0) []:=⟨[],⟨rfl,.inl ⟨rfl,rfl⟩⟩,fun j h=>by simp at h⟩
theorem AkT{W W':World}{B:Nat}{out out' cv:Value}{C:List (List Sg)}{c:List Sg}{vs:List Value}(ho:W.ownsRow B 160 1 out C.length vs)(hr:∀j (h:j<C.length),∃v,vs[j]?=some v/\W.ownsRow B 155 4 v C[j].length (BS C[j]))
  (hc:W.ownsRow B 155 4 cv c.length (BS c)) (hg:W.grownBy W' out.ownBlock) (WT:W'.ownsRow B 160 1 out' (C.length+1) (vs ++ [cv])):Hg B W' out' (C ++ [c]):=by
 have hne:155≠160:=by decide
 have main:∀{n:Nat} {v:Value} {xs:List Value},W.ownsRow B 155 4 v n xs→W'.ownsRow B 155 4 v n xs:=by
  intro n v xs h;refine h.kept hg ?_
  rcases ho.2 with⟨h',_⟩|⟨g,cap,cur,h',_,hgb,_⟩
  ·rw [h']
   cases v.ownBlock with
   | none=>exact .inl rfl
   | some k=>exact .inr (by simp [Value.ownBlock])
  ·rcases ownsRow_ne h hgb (fun cur e=>hne (Obj.cells.inj e).2.1.symm)with h1|h1
   ·exact .inl h1
   ·right;rw [h'];exact h1
 have hl:vs.length=C.length:=(by have:=ho.1;omega);refine⟨vs ++ [cv],by rw [List.length_append];exact WT,fun j hj=>?_⟩;by_cases AV:j<C.length
 ·obtain⟨v,h1,h2⟩:=hr j AV;refine⟨v,by rw [List.getElem?_append_left (by omega)];exact h1,?_⟩;rw [List.getElem_append_left AV];exact main h2
 ·have:j=C.length:=(by simp at hj;omega);subst this;refine⟨cv,by rw [List.getElem?_append_right (by omega)];simp [hl],?_⟩;rw [List.getElem_append_right (AqK _)];simp only [Nat.sub_self,List.getElem_cons_zero];exact main hc
def Zr(W:World)(v:Value)(l:List Sg):Prop:=∃A c,v=.slice A l.length c/\Ad W A (BS l)/\l.length<=c/\c<=9223372036854775807
theorem Zr.ext{W W':World}{v:Value}{l:List Sg}(h:Zr W v l)(hx:Aa W W'):Zr W' v l:=by
 obtain⟨A,c,e,hr,h1,h2⟩:=h;exact⟨A,c,e,hr.ext hx,h1,h2⟩
structure Mi(W:World)(A:Option Addr)(cap:Nat)(C:List (List Sg)):Prop where
 cap1:C.length<=cap
 cap2:cap<=9223372036854775807
 row:∀j (h:j<C.length),∃b o A' c',A=some ⟨b,o,none⟩/\W.cell? ⟨b,o+j,none⟩=some (.slice A' C[j].length c')/\Ad W A' (BS C[j])/\C[j].length<=c'/\c'<=9223372036854775807
theorem Mi.ext{W W':World}{A:Option Addr}{cap:Nat}{C:List (List Sg)}(h:Mi W A cap C)(hx:Aa W W'):Mi W' A cap C:=
 ⟨h.cap1,h.cap2,fun j hj=>by
  obtain⟨b,o,A',c',h1,h2,h3,h4,h5⟩:=h.row j hj
  exact⟨b,o,A',c',h1,hx.cellS h2,h3.ext hx,h4,h5⟩⟩
theorem Hg.cycs{B:Nat}{W:World}{out:Value}{C:List (List Sg)}(h:Hg B W out C):∃A cap,out=.slice A C.length cap/\Mi W A cap C:=by
 obtain⟨vs,ho,hr⟩:=h;obtain⟨A,cap,he,AN,h1,h2⟩:=Ad.of_own' (by omega) ho;refine⟨A,cap,he,h1,h2,fun j hj=>?_⟩;have hl:vs.length=C.length:=(by have:=ho.1;omega);obtain⟨b,o,e,hc⟩:=AN.ad (by omega);obtain⟨v,g1,g2⟩:=hr j hj;obtain⟨A',c',e',r1,r2,r3⟩:=Ad.of_own' (by omega) g2;have:=hc j (by omega);rw [AqP (by omega),AqO]at g1;rw [g1,e']at this;exact⟨b,o,A',c',e,this,r1,r2,r3⟩
structure Ik(w5 wr:World)(bu bs:Nat)(cv:Value)(U:List Sg)(s:Sg)(c:List Sg):Prop where
 used:DT wr bu U
 box:wr.heap[bs]?=some (.cells #[S (R s.a.x),S (R s.a.y),S (R s.b.x),S (R s.b.y)] 155)
 row:wr.ownsRow w5.heap.size 155 4 cv c.length (BS c)
 but:Au (fun k=>k=bu∨k=bs) w5 wr
def jQ(w:World)(b:Nat):Nat:=match w.heap[b]? with|some (.map es _)=>es.size|_=>0
theorem DT.size{W:World}{b:Nat}{U:List Sg}(h:DT W b U):jQ W b=U.length:=by
 unfold DT at h;unfold jQ;rw [h];simp [AB,J5,IM]
theorem DT.far{W W':World}{b:Nat}{U:List Sg}(h:DT W b U){row:Option Nat}(hg:W.grownBy W' row)(hr:row≠some b):DT W' b U:=(hg.block b (AqI h) (fun e=>hr e.symm)).trans h
theorem rx{W:World}{B:Nat}{e:TypeId}{s n:Nat}{v:Value}{xs:List Value}(h:W.ownsRow B e s v n xs){b:Nat}(hb:b<B):v.ownBlock≠some b:=by
 intro e;have:=(h.lt b e).1;omega
theorem Ya{W:World}{B:Nat}{e:TypeId}{s n:Nat}{v:Value}{xs:List Value}(h:W.ownsRow B e s v n xs){b:Nat}{es:Array MapEntry}{c:Nat}(hb:W.heap[b]?=some (.map es c)):v.ownBlock≠some b:=fun e=>rq h hb (fun _ e=>by cases e) b e rfl
theorem rj{W W':World}{B:Nat}{e:TypeId}{s n:Nat}{v:Value}{xs:List Value}(h:W.ownsRow B e s v n xs){b:Nat}(hg:W.grownBy W' (some b))(hne:v.ownBlock≠some b):W'.ownsRow B e s v n xs:=h.kept hg (.inr hne)
theorem Ik.put{w5 wr:World}{bu bs:Nat}{cv:Value}{U:List Sg}{s:Sg}{c:List Sg}(h:Ik w5 wr bu bs cv U s c)(hne:bu≠bs)(hno:U.any (AL s)=false) :
  ∃W',(Instr.mapUpdate 285 (.map (some bu)) (As s) (.bool true)).run Tryz.prog wr=.ok () W'/\Ik w5 W' bu bs cv (U ++ [s]) s c:=by
 obtain⟨W',h1,h2,h3,h4⟩:=h.used.put s hno;refine⟨W',h1,h2,?_,rj h.row h3 (Ya h.row h.used),h.but.grown h3 (fun k e=>by cases e;exact .inl (.inl rfl))⟩;exact(h3.block bs (AqI h.box) (by simp;exact fun e=>hne e.symm)).trans h.box
theorem Ik.app{w5 wr W':World}{bu bs:Nat}{cv tK:Value}{U:List Sg}{s t:Sg}{c:List Sg}(h:Ik w5 wr bu bs cv U s c)(hs:bs<w5.heap.size)(hg:(wr.alloc (.cells #[S (R t.a.x),S (R t.a.y),S (R t.b.x),S (R t.b.y)] 155)).grownBy W' cv.ownBlock)
  (ho:W'.ownsRow w5.heap.size 155 4 tK (c.length+1) (BS (c ++ [t]))):Ik w5 W' bu bs tK U s (c ++ [t]):=by
 have hx:=(Aa.refl wr).alloc (.cells #[S (R t.a.x),S (R t.a.y),S (R t.b.x),S (R t.b.y)] 155);have hr:=h.row.kept (G0 hx none) (by cases cv.ownBlock with|none=>exact .inl rfl|some k=>exact .inr (by simp));have hu:DT (wr.alloc (.cells #[S (R t.a.x),S (R t.a.y),S (R t.b.x),S (R t.b.y)] 155)) bu U:=(hx.block bu (AqI h.used)).trans h.used;have hb:=(hx.block bs (AqI h.box)).trans h.box;refine⟨hu.far hg (Ya hr hu),(hg.block bs (AqI hb) (fun e=>rx hr hs e.symm)).trans hb,by simpa using ho,?_⟩;exact(h.but.ext hx).own hg hr (AqK _)
theorem Ik.nxt{w5 wr W':World}{bu bs:Nat}{cv:Value}{U:List Sg}{s:Sg}{c:List Sg}(h:Ik w5 wr bu bs cv U s c)(hx:Aa wr W')(hne:bu≠bs)(hs:bs<w5.heap.size)(t:Sg) :
  Ik w5 ((((W'.setCell ⟨bs,0,none⟩ (S (R t.a.x))).setCell ⟨bs,1,none⟩ (S (R t.a.y))).setCell ⟨bs,2,none⟩ (S (R t.b.x))).setCell ⟨bs,3,none⟩ (S (R t.b.y))) bu bs cv U t c:=by
 have hb:=(hx.block bs (AqI h.box)).trans h.box;have hr:=h.row.kept (G0 hx none) (by cases cv.ownBlock with|none=>exact .inl rfl|some k=>exact .inr (by simp));have hu:DT W' bu U:=(hx.block bu (AqI h.used)).trans h.used;have far:∀(X:World) (o:Nat) (v:Value) (q:Nat),q≠bs→(X.setCell ⟨bs,o,none⟩ v).heap[q]?=X.heap[q]?:=fun X o v q hq=>Below.heap_setCell _ _ _ _ hq;have Br:=((((h.but.ext hx).setCell (p:=⟨bs,0,none⟩) (.inl (.inr rfl)) (S (R t.a.x))).setCell (p:=⟨bs,1,none⟩) (.inl (.inr rfl)) (S (R t.a.y))).setCell (p:=⟨bs,2,none⟩) (.inl (.inr rfl)) (S (R t.b.x))).setCell (p:=⟨bs,3,none⟩) (.inl (.inr rfl)) (S (R t.b.y));refine⟨?_,P1 _ _ _ _ hb,?_,Br⟩
 ·unfold DT;rw [far _ _ _ _ hne,far _ _ _ _ hne,far _ _ _ _ hne,far _ _ _ _ hne];exact hu
 ·refine CB hr (K:=fun k=>k=bs) ?_ ?_
  ·exact(((((Au.refl (fun k=>k=bs) W').setCell (p:=⟨bs,0,none⟩) (.inl rfl) _).setCell (p:=⟨bs,1,none⟩) (.inl rfl) _).setCell (p:=⟨bs,2,none⟩) (.inl rfl) _).setCell (p:=⟨bs,3,none⟩) (.inl rfl) _)
  ·intro k hk e;subst e;exact rx hr hs hk
theorem rS{a b c:World}{bu bs:Nat}(hx:Aa a b)(h:Au (fun k=>k=bu∨k=bs) b c)(hs:a.heap.size<=bs):Au (fun k=>k=bu) a c:=
 ⟨h.os.trans hx.os,h.tape.trans hx.tape,h.output.trans hx.output,AqU hx.size h.size,fun k hk hn=>(h.block k (AqT hk hx.size) (by rintro(e|e);exact hn e;omega)).trans (hx.block k hk)⟩
theorem Hg.alloc{B:Nat}{W:World}{out:Value}{C:List (List Sg)}(h:Hg B W out C)(o:Obj):Hg B (W.alloc o) out C:=
 h.keep ((Au.refl (fun _=>False) W).ext ((Aa.refl W).alloc o)) (fun _ _ h=>h.elim)
theorem Tryz.infoStr:(Tryz.prog.info? 9).map (fun i=>(i.zero,i.size,i.bytes))=some (some (S []),1,16):=by kernel_rfl
section
variable {ops : Array Oper} {rest : List Oper} {o : Oper} {a : Act} {K : Act → World → Prop} {Q : Exit → Act → World → Prop} {E : Prop}
theorem Ao1(s x:Operand)(ho:o.op=.call {callee:=.builtin .append,args:=#[s,x],argTypes:=#[23,23]})
  (wN:World) (base:Nat) (v:Value) (n:Nat) (l:List Bs) (hs:a.eval s=v) (hown:wN.ownsRow base 9 1 v n (l.map S)) (hn:n<200000) (d:Bs)
  (g:Nat) (hb:wN.heap[g]?=some (.cells #[S d] 9)) (hx:a.eval x=.slice (some ⟨g,0,none⟩) 1 1) (hbase:base<=wN.heap.size)
  (h:∀v' w',w'.ownsRow base 9 1 v' (n+1) ((l ++ [d]).map S)→(∀w0,Aa w0 wN→w0.heap.size<=base→Aa w0 w')→wN.grownBy w' v.ownBlock→K (a.put o.dst v') w') :
  o.wp Tryz.prog a wN K Q:=by
 obtain⟨i0,hi,hz0,hz1,hz2⟩:=info_parts Tryz.infoStr;refine nC s x 23 ho 9 i0 _ 1 16 1 Tryz.underlying23 hi hz0 hz1 hz2 rfl (by omega) (by omega) (by omega) wN base v n _ hs hown hn g _ hb rfl ?_ hx hbase ?_
 ·intro u hu;simp only [List.mem_cons,AqV,or_false]at hu;rw [hu];rfl
 ·intro v' w' h1 h2 h3;refine h v' w' ?_ h2 h3;rw [List.map_append];exact h1
theorem An1(hgd:o.guard=none)(s x:Operand)(ho:o.op=.call {callee:=.builtin .append,args:=#[s,x],argTypes:=#[23,23]})
  (wN:World) (base:Nat) (v:Value) (n:Nat) (l:List Bs) (hs:a.eval s=v) (hown:wN.ownsRow base 9 1 v n (l.map S)) (hn:n<200000) (d:Bs)
  (g:Nat) (hb:wN.heap[g]?=some (.cells #[S d] 9)) (hx:a.eval x=.slice (some ⟨g,0,none⟩) 1 1) (hbase:base<=wN.heap.size)
  (h:∀v' w',w'.ownsRow base 9 1 v' (n+1) ((l ++ [d]).map S)→(∀w0,Aa w0 wN→w0.heap.size<=base→Aa w0 w')→wN.grownBy w' v.ownBlock→K (a.put o.dst v') w') :
  if Region.wanted o (yielded ops a.tmps)=true then Oper.wp Tryz.prog o a wN K Q else E:=by
 have hw:Region.wanted o (yielded ops a.tmps)=true:=(by simp [Region.wanted,hgd]);rw [if_pos hw];exact Ao1 s x ho wN base v n l hs hown hn d g hb hx hbase h
end
structure KG(wr:World)(B n bx B9 bM bU:Nat)(U:Option Addr)(cu:Nat)(units:List Bs)(P E F:Value)(nums:List Int)(An:List Bs):Prop where
 cN:wr.heap[bx]?=some (.cells #[.slice (some ⟨B9,0,none⟩) n n] 68)
 num:wr.ownsRow 0 3 1 (.slice (some ⟨B9,0,none⟩) n n) n (zs nums)
 cM:wr.heap[bM]?=some (.cells #[P,E,F] 36)
 fac:wr.ownsRow B 9 1 F An.length (An.map S)
 cU:wr.heap[bU]?=some (.cells #[.slice U n cu] 23)
 uni:wr.ownsRow 0 9 1 (.slice U n cu) n (units.map S)
 uB:∀k,(Value.slice U n cu).ownBlock=some k→k<B
 lenN:nums.length=n
 lenU:units.length=n
 cu1:n<=cu
 cu2:cu<=9223372036854775807
 rng:∀z∈nums,0<=z/\z<=(An.length:Int)
 cnt:An.length+nums.countP (fun z=>z == 0)<=n
 txt:∀s∈An,s∈units
theorem Eg{w:World}{i j:Nat}{c1 c2:Array Value}{t1 t2:TypeId}{r1 r2:Nat×Nat}(h1:w.heap[i]?=some (.cells c1 t1 r1))(h2:w.heap[j]?=some (.cells c2 t2 r2))(hne:t1≠t2):i≠j:=by
 rintro rfl;rw [h1]at h2;simp only [AqO,Obj.cells.injEq]at h2;exact hne h2.2.1
theorem Bu{w:World}{B:Nat}{e:TypeId}{s n:Nat}{v:Value}{xs:List Value}(h:w.ownsRow B e s v n xs){j:Nat}{c:Array Value}{t:TypeId}{r:Nat×Nat}(hj:w.heap[j]?=some (.cells c t r))(hne:e≠t):v.ownBlock≠some j:=by
 intro k
 rcases h.2 with⟨h',_⟩|⟨g,cap,cur,h',_,hgb,_⟩
 ·rw [h']at k;cases k
 ·rw [h']at k;simp only [Value.ownBlock,AqO]at k;subst k;rw [hgb]at hj;simp only [AqO,Obj.cells.injEq]at hj;exact hne hj.2.1
theorem OL{w:World}{B n b:Nat}{e:TypeId}{s:Nat}{xs:List Value}{cap:Nat}(h:w.ownsRow B e s (.slice (some ⟨b,0,none⟩) n cap) n xs):∃cur,w.heap[b]?=some (.cells cur e (0,0)):=by
 rcases h.2 with⟨h',_⟩|⟨g,cap,cur,h',_,hgb,_⟩
 ·cases h'
 ·simp only [Value.slice.injEq,AqO,Addr.mk.injEq,and_true,true_and]at h';obtain⟨rfl,-⟩:=h';exact⟨cur,hgb⟩
theorem DX{w:World}{p:Addr}{v:Value}{q:Nat}(h:q≠p.block):(w.setCell p v).heap[q]?=w.heap[q]?:=Below.heap_setCell _ _ _ _ h
theorem RI{w:World}{b:Nat}{a0 a1 a2:Value}{t:TypeId}(v:Value)(h:w.heap[b]?=some (.cells #[a0,a1,a2] t)):(w.setCell ⟨b,2,none⟩ v).heap[b]?=some (.cells #[a0,a1,v] t):=by
 simp only [World.setCell,Array.getElem?_modify,h];simp
theorem Aas(l:List Int)(m:Nat)(z:Int):(zs l).set m (.int .i64 z)=zs (l.set m z):=by simp [zs]
theorem tI:∀(l:List Int) (m:Nat) (z:Int) (h:m<l.length),l[m]=0→z≠0→(l.set m z).countP (fun z=>z == 0)+1=l.countP (fun z=>z == 0)
 | a::l,0,z,_,h0,hz=>by
  simp only [List.getElem_cons_zero]at h0;subst h0;have:(z == 0)=false:=beq_false_of_ne hz;simp [this]
 | a::l,m+1,z,h,h0,hz=>by have:=tI l m z (by simpa using h) (by simpa using h0) hz;simp only [List.set_cons_succ,List.countP_cons];omega
theorem KG.extn{w w':World}{B n bx B9 bM bU:Nat}{U:Option Addr}{cu:Nat}{units:List Bs}{P E F:Value}{nums:List Int}{An:List Bs}(h:KG w B n bx B9 bM bU U cu units P E F nums An)(hx:Aa w w'):KG w' B n bx B9 bM bU U cu units P E F nums An:=
 ⟨(hx.block _ (AqI h.cN)).trans h.cN,AC h.num hx,(hx.block _ (AqI h.cM)).trans h.cM,AC h.fac hx,(hx.block _ (AqI h.cU)).trans h.cU,AC h.uni hx,h.uB,h.lenN,h.lenU,h.cu1,h.cu2,h.rng,h.cnt,h.txt⟩
theorem KG.step{w:World}{B n bx B9 bM bU:Nat}{U:Option Addr}{cu:Nat}{units:List Bs}{P E F:Value}{nums:List Int}{An:List Bs}(h:KG w B n bx B9 bM bU U cu units P E F nums An){m:Nat}(hm:m<nums.length)(hz:nums[m]=0){s:Bs}(hs:s∈units){X:Obj}{W7:World}{F':Value}
  (hg:((w.alloc X).drew).grownBy W7 F.ownBlock) (ho:W7.ownsRow B 9 1 F' (An.length+1) ((An ++ [s]).map S)) :
  KG ((W7.setCell ⟨bM,2,none⟩ F').setCell ⟨B9,m,none⟩ (.int .i64 ((An.length:Int)+1))) B n bx B9 bM bU U cu units P E F' (nums.set m ((An.length:Int)+1)) (An ++ [s])/\Au (fun k=>k=B9∨k=bM∨F.ownBlock=some k) w ((W7.setCell ⟨bM,2,none⟩ F').setCell ⟨B9,m,none⟩ (.int .i64 ((An.length:Int)+1)))
  /\(W7.setCell ⟨bM,2,none⟩ F').heap[bx]?=some (.cells #[.slice (some ⟨B9,0,none⟩) n n] 68)/\(W7.setCell ⟨bM,2,none⟩ F').heap[bM]?=some (.cells #[P,E,F'] 36)/\(W7.setCell ⟨bM,2,none⟩ F').ownsRow 0 3 1 (.slice (some ⟨B9,0,none⟩) n n) n (zs nums):=by
 obtain⟨cn,Ek⟩:=OL h.num;have E4:Aa w ((w.alloc X).drew):=((Aa.refl w).alloc X).drew;have n1:=Eg Ek h.cM (by decide);have n2:=Eg h.cN Ek (by decide);have n3:=Eg h.cN h.cM (by decide);have n4:=Eg h.cU Ek (by decide);have n5:=Eg h.cU h.cM (by decide);have f1:=Bu h.fac Ek (by decide);have f2:=Bu h.fac h.cM (by decide);have f3:=Bu h.fac h.cN (by decide);have f4:=Bu h.fac h.cU (by decide);have g7:∀{j:Nat} {o:Obj},w.heap[j]?=some o→F.ownBlock≠some j→W7.heap[j]?=some o:=fun {j o} hj hn=>(hg.block j (AqT (AqI hj) E4.size) (fun e=>hn e.symm)).trans ((E4.block j (AqI hj)).trans hj);have Ff:=g7 h.cM f2;have VM:=g7 Ek f1;have Fg:Au (fun k=>k=B9∨k=bM∨F.ownBlock=some k) w W7:=((Au.refl _ w).ext E4).grown hg (fun k e=>.inl (.inr (.inr e)));have ME:=(Fg.setCell (p:=⟨bM,2,none⟩) (.inl (.inr (.inl rfl))) F').setCell (p:=⟨B9,m,none⟩) (.inl (.inl rfl)) (.int .i64 ((An.length:Int)+1))
 have o7:W7.ownsRow 0 3 1 (.slice (some ⟨B9,0,none⟩) n n) n (zs nums):=(AC h.num E4).kept hg (by
  cases hF:F.ownBlock with
  | none=>exact .inr (by simp [Value.ownBlock])
  | some k=>refine .inr (fun e=>f1 ?_);rw [hF];exact e.symm)
 have o8:=CB (K:=fun k=>k=bM) o7 ((Au.refl (fun k=>k=bM) W7).setCell (p:=⟨bM,2,none⟩) (.inl rfl) F') (fun k hk e=>by simp only [Value.ownBlock,AqO]at hk;omega);have o9:=(o8.stored m (.int .i64 ((An.length:Int)+1))).1;rw [Aas]at o9;have q1:=Bu ho Ff (by decide);have q2:=Bu ho VM (by decide);refine⟨⟨?_,o9,?_,?_,?_,?_,h.uB,by rw [List.length_set];exact h.lenN,h.lenU,h.cu1,h.cu2,?_,?_,?_⟩,ME,by rw [DX (by show bx≠bM;exact n3)];exact g7 h.cN f3,RI F' Ff,o8⟩
 ·rw [DX (by show bx≠B9;exact n2),DX (by show bx≠bM;exact n3)];exact g7 h.cN f3
 ·rw [DX (by show bM≠B9;exact fun e=>n1 e.symm)];exact RI F' Ff
 ·rw [List.length_append,List.length_singleton];refine CB (K:=fun k=>k=B9∨k=bM) ho (((Au.refl (fun k=>k=B9∨k=bM) W7).setCell (p:=⟨bM,2,none⟩) (.inl (.inr rfl)) F').setCell (p:=⟨B9,m,none⟩) (.inl (.inl rfl)) _) ?_;rintro k hk (e|e)
  ·subst e;exact q2 hk
  ·subst e;exact q1 hk
 ·rw [DX (by show bU≠B9;exact n4),DX (by show bU≠bM;exact n5)];exact g7 h.cU f4
 ·have u1:=AC h.uni E4
  have u2:=u1.kept hg (by
   cases hF:(Value.slice U n cu).ownBlock with
   | none=>exact .inl rfl
   | some k=>
    refine .inr (fun e=>?_);have h1:=h.uB k hF;have h2:=(h.fac.lt k e.symm).1
    omega)
  refine CB (K:=fun k=>k=B9∨k=bM) u2 (((Au.refl (fun k=>k=B9∨k=bM) W7).setCell (p:=⟨bM,2,none⟩) (.inl (.inr rfl)) F').setCell (p:=⟨B9,m,none⟩) (.inl (.inl rfl)) _) ?_;rintro k hk (e|e)
  ·subst e;exact Bu h.uni Ek (by decide) hk
  ·subst e;exact Bu h.uni h.cM (by decide) hk
 ·intro z hz';rw [List.length_append,List.length_singleton]
  rcases List.mem_or_eq_of_mem_set hz' with k|k
  ·have:=h.rng z k;omega
  ·omega
 ·have h1:=tI nums m ((An.length:Int)+1) hm hz (by omega);have h2:=h.cnt;rw [List.length_append,List.length_singleton];omega
 ·intro x hx
  rcases List.mem_append.1 hx with k|k
  ·exact h.txt x k
  ·simp only [AqW]at k;rw [k];exact hs
theorem NM.set{n:Nat}{l:List Hf}(h:NM n l)(k:Nat){y:Hf}(hy:y∈l):NM n (l.set k y):=by
 intro z hz
 rcases List.mem_or_eq_of_mem_set hz with e|e
 ·exact h z e
 ·rw [e];exact h y hy
section
variable {ops : Array Oper} {rest : List Oper} {o : Oper} {a : Act} {Q : Exit → Act → World → Prop}
end
structure Pl(W3 wr:World)(bM:Nat)(P:Value)(pts:List Pt):Prop where
 cM:wr.heap[bM]?=some (.cells #[P,.slice none 0 0,.slice none 0 0] 36)
 own:wr.ownsRow W3.heap.size 92 2 P pts.length (flat (Ao pts))
 but:Au (fun q=>q=bM) W3 wr
 sheet:∀p∈pts,EY p
theorem Pl.ext{W3 wr w':World}{bM:Nat}{P:Value}{pts:List Pt}(h:Pl W3 wr bM P pts)(hx:Aa wr w'):Pl W3 w' bM P pts:=
 ⟨(hx.block _ (AqI h.cM)).trans h.cM,AC h.own hx,h.but.ext hx,h.sheet⟩
theorem Pl.app{W3 wr W7:World}{bM:Nat}{P P':Value}{pts:List Pt}(h:Pl W3 wr bM P pts)(Ho:bM<W3.heap.size){p:Pt}(hp:EY p){E4:World}(hE:Aa wr E4)(hg:E4.grownBy W7 P.ownBlock)(ho:W7.ownsRow W3.heap.size 92 2 P' (pts.length+1) (flat (Ao (pts ++ [p])))) :
  W7.heap[bM]?=some (.cells #[P,.slice none 0 0,.slice none 0 0] 36)/\Pl W3 (W7.setCell ⟨bM,0,none⟩ P') bM P' (pts ++ [p]):=by
 have hne:=Bu h.own h.cM (by decide);have h7:=(hg.block bM (AqT (AqI h.cM) hE.size) (fun e=>hne e.symm)).trans ((hE.block bM (AqI h.cM)).trans h.cM);have hq:=Bu ho h7 (by decide);refine⟨h7,?_,?_,?_,?_⟩
 ·simp only [World.setCell,Array.getElem?_modify,h7];simp
 ·rw [List.length_append,List.length_singleton];exact CB (K:=fun q=>q=bM) ho ((Au.refl (fun q=>q=bM) W7).setCell (p:=⟨bM,0,none⟩) (.inl rfl) P') (fun k hk e=>by subst e;exact hq hk)
 ·exact((h.but.ext hE).own hg (AC h.own hE) (AqK _)).setCell (p:=⟨bM,0,none⟩) (.inl rfl) P'
 ·intro x hx
  rcases List.mem_append.1 hx with k|k
  ·exact h.sheet x k
  ·simp only [AqW]at k;rw [k];exact hp
theorem Ae1(l:List Az)(d:Az):B7 (l ++ [d])=B7 l ++ [.int .i64 d.f,.int .i64 d.t,.int .i64 d.l,.int .i64 d.r]:=by simp [B7]
section
variable {ops : Array Oper} {rest : List Oper} {o : Oper} {a : Act} {K : Act → World → Prop} {Q : Exit → Act → World → Prop} {E : Prop}
theorem Aov(s x:Operand)(ho:o.op=.call {callee:=.builtin .append,args:=#[s,x],argTypes:=#[34,34]})
  (wN:World) (base:Nat) (v:Value) (n:Nat) (l:List Az) (hs:a.eval s=v) (hown:wN.ownsRow base 126 4 v n (B7 l)) (hn:n<200000) (d:Az)
  (g:Nat) (hb:wN.heap[g]?=some (.cells #[.int .i64 d.f,.int .i64 d.t,.int .i64 d.l,.int .i64 d.r] 126)) (hx:a.eval x=.slice (some ⟨g,0,none⟩) 1 1) (hbase:base<=wN.heap.size)
  (h:∀v' w',w'.ownsRow base 126 4 v' (n+1) (B7 (l ++ [d]))→wN.grownBy w' v.ownBlock→K (a.put o.dst v') w') :
  Oper.wp Tryz.prog o a wN K Q:=by
 obtain⟨i0,hi,hz0,hz1,hz2⟩:=info_parts Tryz.infoEd;refine nC s x 34 ho 126 i0 _ 4 32 1 Tryz.underlying34 hi hz0 hz1 hz2 rfl (by omega) (by omega) (by omega) wN base v n _ hs hown hn g _ hb rfl ?_ hx hbase ?_
 ·intro u hu;simp only [List.mem_cons,AqV,or_false]at hu
  rcases hu with rfl|rfl|rfl|rfl<;>rfl
 ·intro v' w' h1 _ h3;refine h v' w' ?_ h3;rw [Ae1];exact h1
end
structure GV(W5 wr:World)(n bx B9 bM bU:Nat)(U:Option Addr)(cu:Nat)(units:List Bs)(P E F:Value)(nums:List Int)(An:List Bs)(eds:List Az):Prop where
 nam:KG wr W5.heap.size n bx B9 bM bU U cu units P E F nums An
 own:wr.ownsRow W5.heap.size 126 4 E eds.length (B7 eds)
 but:Au (fun q=>q=B9∨q=bM) W5 wr
theorem GV.extn{W5 wr w':World}{n bx B9 bM bU:Nat}{U:Option Addr}{cu:Nat}{units:List Bs}{P E F:Value}{nums:List Int}{An:List Bs}{eds:List Az}(h:GV W5 wr n bx B9 bM bU U cu units P E F nums An eds)(hx:Aa wr w'):GV W5 w' n bx B9 bM bU U cu units P E F nums An eds:=
 ⟨h.nam.extn hx,AC h.own hx,h.but.ext hx⟩
theorem GV.name{W5 wr w':World}{n bx B9 bM bU:Nat}{U:Option Addr}{cu:Nat}{units:List Bs}{P E F F':Value}{nums Cu:List Int}{An Bp:List Bs}{eds:List Az}(h:GV W5 wr n bx B9 bM bU U cu units P E F nums An eds)
  (hn:KG w' W5.heap.size n bx B9 bM bU U cu units P E F' Cu Bp) (hb:Au (fun k=>k=B9∨k=bM∨F.ownBlock=some k) wr w'):GV W5 w' n bx B9 bM bU U cu units P E F' Cu Bp eds:=by
 obtain⟨cn,Ek⟩:=OL h.nam.num;refine⟨hn,CB h.own hb ?_,?_⟩
 ·rintro k hk (e|e|e)
  ·subst e;exact Bu h.own Ek (by decide) hk
  ·subst e;exact Bu h.own h.nam.cM (by decide) hk
  ·rcases h.nam.fac.2 with⟨h',_⟩|⟨g,cap,cur,h',_,hgb,_⟩
   ·rw [h']at e;cases e
   ·rw [h']at e;simp only [Value.ownBlock,AqO]at e;subst e;exact Bu h.own hgb (by decide) hk
 ·refine⟨hb.os.trans h.but.os,hb.tape.trans h.but.tape,hb.output.trans h.but.output,AqU h.but.size hb.size,fun k hk G9=>?_⟩;refine(hb.block k (AqT hk h.but.size) ?_).trans (h.but.block k hk G9);rintro(e|e|e)
  ·exact G9 (.inl e)
  ·exact G9 (.inr e)
  ·have:=(h.nam.fac.lt k e).1;omega
theorem GV.app{W5 wr W7:World}{n bx B9 bM bU:Nat}{U:Option Addr}{cu:Nat}{units:List Bs}{P E E' F:Value}{nums:List Int}{An:List Bs}{eds:List Az}(h:GV W5 wr n bx B9 bM bU U cu units P E F nums An eds)
  {d:Az} {X4:World} (hE:Aa wr X4) (hg:X4.grownBy W7 E.ownBlock) (ho:W7.ownsRow W5.heap.size 126 4 E' (eds.length+1) (B7 (eds ++ [d]))) :
  W7.heap[bM]?=some (.cells #[P,E,F] 36)/\GV W5 (W7.setCell ⟨bM,1,none⟩ E') n bx B9 bM bU U cu units P E' F nums An (eds ++ [d]):=by
 have h4:=h.extn hE;obtain⟨cn,Ek⟩:=OL h4.nam.num;have e1:=Bu h4.own h4.nam.cM (by decide);have e2:=Bu h4.own Ek (by decide);have e3:=Bu h4.own h4.nam.cN (by decide);have e4:=Bu h4.own h4.nam.cU (by decide);have g7:∀{j:Nat} {o:Obj},X4.heap[j]?=some o→E.ownBlock≠some j→W7.heap[j]?=some o:=fun {j o} hj hn=>(hg.block j (AqI hj) (fun e=>hn e.symm)).trans hj;have h7:=g7 h4.nam.cM e1;have n1:=Eg Ek h4.nam.cM (by decide);have n2:=Eg h4.nam.cN h4.nam.cM (by decide);have n3:=Eg h4.nam.cU h4.nam.cM (by decide);have bb:=(Au.refl (fun k=>k=bM) W7).setCell (p:=⟨bM,1,none⟩) (.inl rfl) E'
 have kp:∀{e:TypeId} {s m:Nat} {v:Value} {xs:List Value} {B:Nat},X4.ownsRow B e s v m xs→e≠126→e≠36→(W7.setCell ⟨bM,1,none⟩ E').ownsRow B e s v m xs:=by
  intro e s m v xs B hv hne Fp
  have Nr:W7.ownsRow B e s v m xs:=hv.kept hg (by
   cases hE:E.ownBlock with
   | none=>cases hv':v.ownBlock with
    | none=>exact .inl rfl
    | some k=>exact .inr (by simp)
   | some k=>
    refine .inr (fun e0=>?_)
    rcases h4.own.2 with⟨h',_⟩|⟨g,cap,cur,h',_,hgb,_⟩
    ·rw [h']at hE;cases hE
    ·rw [h']at hE;simp only [Value.ownBlock,AqO]at hE;subst hE
     exact Bu hv hgb hne e0)
  exact CB Nr bb (fun k hk e0=>by subst e0;exact Bu Nr h7 Fp hk)
 refine⟨h7,⟨?_,kp h4.nam.num (by decide) (by decide),?_,kp h4.nam.fac (by decide) (by decide),?_,kp h4.nam.uni (by decide) (by decide),h.nam.uB,h.nam.lenN,h.nam.lenU,h.nam.cu1,h.nam.cu2,h.nam.rng,h.nam.cnt,h.nam.txt⟩,?_,?_⟩
 ·rw [DX (by show bx≠bM;exact n2)];exact g7 h4.nam.cN e3
 ·simp only [World.setCell,Array.getElem?_modify,h7];simp
 ·rw [DX (by show bU≠bM;exact n3)];exact g7 h4.nam.cU e4
 ·rw [List.length_append,List.length_singleton];exact CB ho bb (fun k hk e0=>by subst e0;exact Bu ho h7 (by decide) hk)
 ·exact(h4.but.own hg h4.own (AqK _)).setCell (p:=⟨bM,1,none⟩) (.inl (.inr rfl)) E'
structure MapAt(w:World)(n:Nat)(units:List Bs)(A B F:Option Addr)(c d g:Nat)(m:Cw)(An:List Bs):Prop where
 cap:K3 m c d g
 pts:Ad w A (flat (Ao m.pts))
 eds:Ad w B (B7 m.eds)
 fac:Ad w F (An.map S)
 nf:m.nf=An.length
 le:An.length<=n
 sheet:∀p∈m.pts,EY p
 txt:∀s∈An,s∈units
structure YB(n:Nat)(A B F:Option Addr):Prop where
 a:∀x,A=some x→n<=x.block
 b:∀x,B=some x→n<=x.block
 f:∀x,F=some x→n<=x.block
theorem YB.mono{n k:Nat}{A B F:Option Addr}(h:YB n A B F)(hk:k<=n):YB k A B F:=
 ⟨fun x e=>AqU hk (h.a x e),fun x e=>AqU hk (h.b x e),fun x e=>AqU hk (h.f x e)⟩
end Go.Proofs.YtjalkoacphhgdaaGreatDoor
