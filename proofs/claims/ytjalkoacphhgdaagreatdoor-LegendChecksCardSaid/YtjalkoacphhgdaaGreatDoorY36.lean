/- Y36: C1 C2 C3 QB QCA. -/
import Derived.Test.YtjalkoacphhgdaaGreatDoorY35
import Derived.Test.YtjalkoacphhgdaaGreatDoorY28
namespace Go.Proofs.YtjalkoacphhgdaaGreatDoor
open Go.RowKit Kl
def rowOf(R0:List (Pt×List Pt))(p:Pt):List Pt:=match R0.find? (fun e=>Ap p e.1)with|some e=>e.2|none=>[]
theorem iw(p:Pt):Ap p p=true:=Ct.2 rfl
theorem iu{p q:Pt} : Ap p q=false↔p≠q:=by
 rw [Bool.eq_false_iff];exact not_congr Ct
theorem Lr(e:Pt×List Pt)(R0:List (Pt×List Pt))(p:Pt):rowOf (e::R0) p=if Ap p e.1=true then e.2 else rowOf R0 p:=by
 unfold rowOf;rw [List.find?_cons]
 cases h:Ap p e.1<;>simp
theorem Ub(p q:Pt):CG [] p q = [(p,[q])]:=by simp [CG,Gd,F6,List.modify]
theorem Ua(e:Pt×List Pt)(R0:List (Pt×List Pt))(p q:Pt):CG (e::R0) p q=if Ap p e.1=true then (e.1,e.2 ++ [q])::R0 else e::CG R0 p q:=by
 unfold CG Gd F6;rw [List.findIdx?_cons]
 cases h:Ap p e.1
 ·simp only [Bool.false_eq_true,if_false]
  cases h2:R0.findIdx? (fun e=>Ap p e.1)with
  | none=>simp [List.modify_succ_cons]
  | some j=>simp [List.modify_succ_cons]
 ·simp
theorem gK(R0:List (Pt×List Pt))(p q p':Pt):rowOf (CG R0 p q) p'=if Ap p' p=true then rowOf R0 p ++ [q] else rowOf R0 p':=by
 induction R0 with
 | nil=>
  rw [Ub,Lr];simp only
  cases h:Ap p' p<;>simp [rowOf]
 | cons e R0 ih=>
  rw [Ua];by_cases h:Ap p e.1=true
  ·rw [if_pos h,Lr,Lr,Lr,if_pos h];have he:=Ct.1 h;simp only [←he];by_cases h2:Ap p' p=true
   ·rw [if_pos h2,if_pos h2]
   ·rw [if_neg h2,if_neg h2,if_neg h2]
  ·rw [if_neg h,Lr,Lr,Lr,if_neg h,ih];by_cases h2:Ap p' p=true
   ·have:=Ct.1 h2;subst this;rw [if_neg h,if_pos h2,if_pos h2]
   ·rw [if_neg h2,if_neg h2]
theorem xm(R0:List (Pt×List Pt))(p q:Pt):∀x,x∈(CG R0 p q).map (·.1)↔x=p∨x∈R0.map (·.1):=by
 induction R0 with
 | nil=>intro x;rw [Ub];simp
 | cons e R0 ih=>
  intro x;rw [Ua];by_cases h:Ap p e.1=true
  ·rw [if_pos h];have:=Ct.1 h;subst this;simp
  ·rw [if_neg h,List.map_cons,List.mem_cons,ih x,List.map_cons,List.mem_cons];constructor
   ·rintro(h1|h1|h1)
    ·exact .inr (.inl h1)
    ·exact .inl h1
    ·exact .inr (.inr h1)
   ·rintro(h1|h1|h1)
    ·exact .inr (.inl h1)
    ·exact .inl h1
    ·exact .inr (.inr h1)
theorem lI{R0:List (Pt×List Pt)}(h:(R0.map (·.1)).Nodup)(p q:Pt):((CG R0 p q).map (·.1)).Nodup:=by
 induction R0 with
 | nil=>rw [Ub];simp
 | cons e R0 ih=>
  rw [List.map_cons,List.nodup_cons]at h;rw [Ua];by_cases h2:Ap p e.1=true
  ·rw [if_pos h2,List.map_cons,List.nodup_cons];exact h
  ·rw [if_neg h2,List.map_cons,List.nodup_cons];refine⟨?_,ih h.2⟩;rw [xm];rintro(h3|h3)
   ·exact h2 (Ct.2 h3.symm)
   ·exact h.1 h3
theorem lH{R0:List (Pt×List Pt)}(h:∀e∈R0,e.2≠[])(p q:Pt):∀e∈CG R0 p q,e.2≠[]:=by
 induction R0 with
 | nil=>rw [Ub];simp
 | cons e R0 ih=>
  rw [Ua];intro x hx;by_cases h2:Ap p e.1=true
  ·rw [if_pos h2]at hx
   rcases List.mem_cons.1 hx with rfl|hx
   ·simp
   ·exact h x (List.mem_cons_of_mem _ hx)
  ·rw [if_neg h2]at hx
   rcases List.mem_cons.1 hx with rfl|hx
   ·exact h _ (List.mem_cons_self)
   ·exact ih (fun e he=>h e (List.mem_cons_of_mem _ he)) x hx
theorem ji{R0:List (Pt×List Pt)}(h:(R0.map (·.1)).Nodup){e:Pt×List Pt}(he:e∈R0):R0.find? (fun x=>Ap e.1 x.1)=some e:=by
 induction R0 with
 | nil=>cases he
 | cons x R0 ih=>
  rw [List.map_cons,List.nodup_cons]at h;rw [List.find?_cons]
  rcases List.mem_cons.1 he with rfl|he
  ·rw [iw]
  ·have:Ap e.1 x.1=false:=by rw [iu];intro hh;exact h.1 (hh▸List.mem_map_of_mem he)
   rw [this];exact ih h.2 he
structure EG(W:List Sg)(R0:List (Pt×List Pt)):Prop where
 keys:(R0.map (·.1)).Nodup
 ne:∀e∈R0,e.2≠[]
 mem:∀p q,q∈rowOf R0 p↔(⟨p,q⟩:Sg)∈W
 back:∀s∈W,AQ s∈W
theorem ay(pts:List Pt)(l:List Av):EG ((AL pts l).map (·.1)) (Cy pts l):=by
 have main:∀n,n<=l.length→EG ((AL pts (l.take n)).map (·.1)) (Cy pts (l.take n)):=by
  intro n
  induction n with
  | zero=>intro _;exact⟨by simp [Cy],by simp [Cy],by simp [Cy,AL,rowOf],by simp [AL]⟩
  | succ n ih=>
   intro hn;have h:=ih (by omega);rw [AmF (by omega),Wk,Wl];generalize l[n]=e at *;generalize Bc pts e=s at *;refine⟨lI (lI h.keys _ _) _ _,lH (lH h.ne _ _) _ _,?_,?_⟩
   ·intro p q;rw [gK,gK,gK,List.map_append,List.mem_append];simp only [List.map_cons,List.map_nil,List.mem_cons,AmN,or_false,←h.mem];have e1:((⟨p,q⟩:Sg)=s)↔p=s.a/\q=s.b:=(by obtain⟨a,b⟩:=s;simp);have e2:((⟨p,q⟩:Sg)=AQ s)↔p=s.b/\q=s.a:=(by obtain⟨a,b⟩:=s;simp [AQ]);rw [e1,e2];by_cases h1:Ap p s.b=true
    ·have p1:=Ct.1 h1;rw [if_pos h1];by_cases h2:Ap s.b s.a=true
     ·have p2:=Ct.1 h2;rw [if_pos h2,←p2,←p1];simp only [List.mem_append,AmO]
      grind
     ·rw [if_neg h2,←p1];have p2:¬s.b=s.a:=fun h=>h2 (Ct.2 h);simp only [List.mem_append,AmO]
      grind
    ·have p1:¬p=s.b:=fun h=>h1 (Ct.2 h);rw [if_neg h1];by_cases h2:Ap p s.a=true
     ·have p2:=Ct.1 h2;rw [if_pos h2,←p2];simp only [List.mem_append,AmO]
      grind
     ·have p2:¬p=s.a:=fun h=>h2 (Ct.2 h);rw [if_neg h2]
      grind
   ·intro x hx;rw [List.map_append,List.mem_append]at hx ⊢;simp only [List.map_cons,List.map_nil,List.mem_cons,AmN,or_false]at hx ⊢
    rcases hx with hx|rfl|rfl
    ·exact .inl (h.back x hx)
    ·exact .inr (.inr rfl)
    ·exact .inr (.inl rfl)
 have:=main l.length (AmC _)
 rwa [List.take_length]at this
theorem Aiy(R0:List (Pt×List Pt))(p q:Pt):q∈rowOf (R0.map (fun e=>(e.1,DG e.1 e.2))) p↔q∈rowOf R0 p:=by
 induction R0 with
 | nil=>simp [rowOf]
 | cons e R0 ih=>
  rw [List.map_cons,Lr,Lr];simp only;by_cases h1:Ap p e.1=true
  ·rw [if_pos h1,if_pos h1];exact(WQ e.1 e.2).mem_iff
  ·rw [if_neg h1,if_neg h1];exact ih
theorem Afc{l:List Pt}{p:Pt}(h:p∈l):∃j,j<l.length/\Gu l p=(j:Int):=by
 unfold Gu
 cases hf:l.findIdx? (Ap p)with
 | none=>
  rw [List.findIdx?_eq_none_iff]at hf;have:=hf p h;rw [iw]at this
  cases this
 | some j=>rw [List.findIdx?_eq_some_iff_getElem]at hf;exact⟨j,hf.1,rfl⟩
theorem EG.sorted{W:List Sg}{R0:List (Pt×List Pt)}(h:EG W R0):EG W (R0.map (fun e=>(e.1,DG e.1 e.2))):=by
 have hk:(R0.map (fun e=>(e.1,DG e.1 e.2))).map (·.1)=R0.map (·.1):=(by rw [List.map_map];rfl);have hr:=Aiy R0;refine⟨by rw [hk];exact h.keys,?_,fun p q=>by rw [hr];exact h.mem p q,h.back⟩;intro e he;rw [List.mem_map]at he;obtain⟨x,hx,rfl⟩:=he;have:=h.ne x hx;intro e0;have:=(WQ x.1 x.2).length_eq;simp only at e0;rw [e0]at this;exact h.ne x hx (List.eq_nil_of_length_eq_zero this.symm)
def MK(R0:List (Pt×List Pt))(s:Sg):Sg:=⟨s.b,(rowOf R0 s.b).getD (((Gu (rowOf R0 s.b) s.a).toNat+(rowOf R0 s.b).length-1)%(rowOf R0 s.b).length) ⟨0,0⟩⟩
theorem EG.step{W:List Sg}{R0:List (Pt×List Pt)}(h:EG W R0){s:Sg}(hs:s∈W) :
  ∃e,R0.find? (fun e=>Ap s.b e.1)=some e/\∃j m,∃_:j<e.2.length,Gu e.2 s.a=(j:Int)/\∃hm:m<e.2.length,m=(j+e.2.length-1)%e.2.length/\MK R0 s=⟨s.b,e.2[m]⟩/\(⟨s.b,e.2[m]⟩:Sg)∈W:=by
 have hb:s.a∈rowOf R0 s.b:=(h.mem s.b s.a).2 (h.back s hs)
 have hr:rowOf R0 s.b=match R0.find? (fun e=>Ap s.b e.1)with|some e=>e.2|none=>[]:=rfl
 cases hf:R0.find? (fun e=>Ap s.b e.1)with
 | none=>rw [hr,hf]at hb;cases hb
 | some e=>
  rw [hf]at hr;simp only at hr;rw [hr]at hb;obtain⟨j,hj,hi⟩:=Afc hb;have hl:0<e.2.length:=(by omega);have hm:(j+e.2.length-1)%e.2.length<e.2.length:=Nat.mod_lt _ hl;refine⟨e,rfl,j,_,hj,hi,hm,rfl,?_,?_⟩
  ·unfold MK;rw [hr,hi];simp only [Int.toNat_natCast];rw [List.getD_eq_getElem?_getD,AmH hm];rfl
  ·refine(h.mem s.b _).1 ?_;rw [hr];exact AmD hm
theorem EG.next{W:List Sg}{R0:List (Pt×List Pt)}(h:EG W R0){s:Sg}(hs:s∈W):MK R0 s∈W:=by
 obtain⟨e,_,j,m,_,_,hm,_,h1,h2⟩:=h.step hs;rw [h1];exact h2
def TV(W:List Sg):Prop:=∀s∈W,∀t∈W,s≠t→s≠AQ t→Fj s.a s.b t.a t.b
theorem TV.good{W:List Sg}(h:TV W):Kc W:=by
 intro s hs t ht h1 h2 hne;refine h s hs t ht hne ?_;rintro rfl;simp only [AQ]at h1
 grind
theorem Akl(pts:List Pt)(l:List Av)(h3:D5 pts [] l=0):TV ((AL pts l).map (·.1)):=by
 have hx:∀i j,(hi:i<l.length)→(hj:j<l.length)→i<j→Fj (Bc pts l[j]).a (Bc pts l[j]).b (Bc pts l[i]).a (Bc pts l[i]).b:=by intro i j hi hj Bh;have:=nG h3 j hj;rw [List.nil_append,List.any_eq_false]at this;have h1:=this l[i] (by rw [List.mem_take_iff_getElem];exact⟨i,by omega,rfl⟩);rw [Bool.not_eq_true]at h1;exact Ag8 h1
 have hy:∀i j,(hi:i<l.length)→(hj:j<l.length)→i≠j→Fj (Bc pts l[i]).a (Bc pts l[i]).b (Bc pts l[j]).a (Bc pts l[j]).b:=by
  intro i j hi hj Bh
  rcases Nat.lt_or_gt_of_ne Bh with h|h
  ·exact(hx i j hi hj h).symm
  ·exact hx j i hj hi h
 have mem:∀s,s∈(AL pts l).map (·.1)→∃i,∃hi:i<l.length,s=Bc pts l[i]∨s=AQ (Bc pts l[i]):=by
  intro s hs;rw [List.mem_map]at hs;obtain⟨x,hx,rfl⟩:=hs;unfold AL at hx;rw [List.mem_flatMap]at hx;obtain⟨e,he,hx⟩:=hx;obtain⟨i,hi,rfl⟩:=List.getElem_of_mem he;simp only [List.mem_cons,AmN,or_false]at hx
  rcases hx with rfl|rfl
  ·exact⟨i,hi,.inl rfl⟩
  ·exact⟨i,hi,.inr rfl⟩
 intro s hs t ht h1 h2;obtain⟨i,hi,es⟩:=mem s hs;obtain⟨j,hj,et⟩:=mem t ht
 have Bh:i≠j:=by
  rintro rfl
  rcases es with rfl|rfl<;>rcases et with rfl|rfl
  ·exact h1 rfl
  ·exact h2 rfl
  ·exact h2 rfl
  ·exact h1 rfl
 have hn:=hy i j hi hj Bh
 rcases es with rfl|rfl<;>rcases et with rfl|rfl
 ·exact hn
 ·exact hn.right
 ·exact hn.left
 ·exact hn.left.right
structure OB(W:List Sg):Prop where
 x:TV W
 sz:∀s∈W,Eh 200 s
 ne:∀s∈W,s.a≠s.b
theorem Aiz{W:List Sg}{R0:List (Pt×List Pt)}(hW:OB W)(hN:EG W R0)(hlen:∀e∈R0,e.2.length<100000):lC R0:=by
 have hm:∀e∈R0,∀q∈e.2,(⟨e.1,q⟩:Sg)∈W:=by intro e he q hq;refine(hN.mem e.1 q).1 ?_;unfold rowOf;rw [ji hN.keys he];exact hq
 refine⟨?_,?_,hN.ne,hlen⟩
 ·intro e he;refine⟨fun q hq=>(hW.sz _ (hm e he q hq)).b,fun q hq h=>hW.ne _ (hm e he q hq) h.symm,?_⟩;intro a ha b hb h0;refine Classical.byContradiction fun hab=>hab ?_;have na:a≠e.1:=fun h=>hW.ne _ (hm e he a ha) h.symm;have nb:b≠e.1:=fun h=>hW.ne _ (hm e he b hb) h.symm;refine Abf (hW.x _ (hm e he a ha) _ (hm e he b hb) ?_ ?_) na nb h0
  ·intro h;simp only [Sg.mk.injEq,true_and]at h;exact hab h
  ·intro h;simp only [AQ,Sg.mk.injEq]at h;exact nb h.1.symm
 ·intro e he;obtain⟨q,hq⟩:=List.exists_mem_of_ne_nil _ (hN.ne e he);exact(hW.sz _ (hm e he q hq)).a
def Gz(R0:List (Pt×List Pt)):Nat→List Sg→Sg→List Sg→List Sg×List Sg
 | 0,U,_,c=>(U,c)
 | n+1,U,s,c=>if U.any (AK s)=true then (U,c)else Gz R0 n (U ++ [s]) (MK R0 s) (c ++ [s])
def FA(N:Nat)(R0:List (Pt×List Pt))(st:List Sg×List (List Sg))(s:Sg):List Sg×List (List Sg):=
 ((Gz R0 (N-st.1.length+1) st.1 s []).1,if 0<(Gz R0 (N-st.1.length+1) st.1 s []).2.length then st.2 ++ [(Gz R0 (N-st.1.length+1) st.1 s []).2] else st.2)
def Ho(W:List Sg)(R0:List (Pt×List Pt)):List (List Sg):=((B7 W).foldl (FA W.length R0) ([],[])).2
theorem Ud{U:List Sg}{s:Sg} : U.any (AK s)=true↔s∈U:=by
 rw [List.any_eq_true];constructor
 ·rintro⟨x,hx,h⟩;rw [Ip]at h;exact h▸hx
 ·intro h;exact⟨s,h,Ip.2 rfl⟩
theorem lR{U:List Sg}{s:Sg} : U.any (AK s)=false↔s∉U:=by
 rw [←Ud,Bool.not_eq_true]
theorem JJ{U W:List Sg}(h:U.Nodup)(hs:∀s∈U,s∈W):U.length<=W.length:=h.length_le_of_subset hs
theorem gP{W:List Sg}{R0:List (Pt×List Pt)}(hN:EG W R0):∀(n:Nat) (U:List Sg) (s:Sg) (c:List Sg),U.Nodup→(∀t∈U,t∈W)→s∈W→W.length<U.length+n→
  ∃d,Gz R0 n U s c=(U++d,c++d)/\(U++d).Nodup/\(∀t∈d,t∈W)/\(s∉U→d.head?=some s)/\s∈U++d
 | 0,U,s,c,h1,h2,h3,h4=>by have:=JJ h1 h2;omega
 | n+1,U,s,c,h1,h2,h3,h4=>by
  unfold Gz;by_cases hs:s∈U
  ·rw [if_pos (Ud.2 hs)];exact⟨[],by simp,by simpa using h1,by simp,fun h=>absurd hs h,by simpa using hs⟩
  ·rw [if_neg (by rw [Ud];exact hs)]
   have hn:(U ++ [s]).Nodup:=by rw [List.nodup_append];refine⟨h1,by simp,?_⟩;intro a ha b hb;simp only [AmO]at hb;subst hb;rintro rfl;exact hs ha
   obtain⟨d,e1,e2,e3,e4,e5⟩:=gP hN n (U ++ [s]) (MK R0 s) (c ++ [s]) hn (by
    intro t ht
    rcases List.mem_append.1 ht with ht|ht
    ·exact h2 t ht
    ·simp only [AmO]at ht;exact ht▸h3) (hN.next h3) (by simp;omega)
   refine⟨s::d,?_,?_,?_,fun _=>rfl,by simp⟩
   ·rw [e1];simp
   ·simpa using e2
   ·intro t ht
    rcases List.mem_cons.1 ht with rfl|ht
    ·exact h3
    ·exact e3 t ht
theorem jl(R0:List (Pt×List Pt)):∀(n:Nat) (U:List Sg) (s:Sg) (c:List Sg),c.length<=(Gz R0 n U s c).2.length
 | 0,U,s,c=>AmC _
 | n+1,U,s,c=>by
  unfold Gz
  split
  ·exact AmC _
  ·have:=jl R0 n (U ++ [s]) (MK R0 s) (c ++ [s]);rw [List.length_append,List.length_singleton]at this;omega
structure Tx(W:List Sg)(U:List Sg)(C:List (List Sg)):Prop where
 nd:U.Nodup
 sub:∀s∈U,s∈W
 flat:C.flatten=U
 ne:∀c∈C,c≠[]
 least:∀c∈C,∀s∈c,∀h:0<c.length,¬Fu s c[0]<0
theorem nZ{W:List Sg}{R0:List (Pt×List Pt)}(hN:EG W R0)(k:Nat)(hk:k<=(B7 W).length) :
  Tx W (((B7 W).take k).foldl (FA W.length R0) ([],[])).1 (((B7 W).take k).foldl (FA W.length R0) ([],[])).2/\∀s∈(B7 W).take k,s∈(((B7 W).take k).foldl (FA W.length R0) ([],[])).1:=by
 induction k with
 | zero=>exact⟨⟨by simp,by simp,by simp,by simp,by simp⟩,by simp⟩
 | succ k ih=>
  have Cm:k<(B7 W).length:=(by omega);obtain⟨h,hp⟩:=ih (by omega);rw [AmF Cm,List.foldl_append];simp only [List.foldl_cons,List.foldl_nil];generalize hst:((B7 W).take k).foldl (FA W.length R0) ([],[])=st at *;have M6:(B7 W)[k]∈W:=(Jh W).mem_iff.1 (AmD Cm);have hle:=JJ h.nd h.sub;obtain⟨d,e1,e2,e3,e4,e5⟩:=gP hN (W.length-st.1.length+1) st.1 (B7 W)[k] [] h.nd h.sub M6 (by omega)
  have hstep:FA W.length R0 st (B7 W)[k]=(st.1++d,if 0<d.length then st.2 ++ [d] else st.2):=by unfold FA;rw [e1];simp
  rw [hstep];simp only;refine⟨⟨e2,?_,?_,?_,?_⟩,?_⟩
  ·intro s hs
   rcases List.mem_append.1 hs with hs|hs
   ·exact h.sub s hs
   ·exact e3 s hs
  ·split
   ·rw [List.flatten_append,h.flat];simp
   ·have:d = []:=List.eq_nil_of_length_eq_zero (by omega);rw [this,List.append_nil];exact h.flat
  ·intro c hc
   split at hc
   ·rename_i Cc
    rcases List.mem_append.1 hc with hc|hc
    ·exact h.ne c hc
    ·simp only [AmO]at hc;subst hc;intro e;rw [e]at Cc;simp at Cc
   ·exact h.ne c hc
  ·intro c hc;have old:=h.least c
   split at hc
   ·rcases List.mem_append.1 hc with hc|hc
    ·exact old hc
    ·simp only [AmO]at hc;subst hc;intro s hs h0;by_cases hu:(B7 W)[k]∈st.1
     ·
      exfalso
      have:Gz R0 (W.length-st.1.length+1) st.1 (B7 W)[k] []=(st.1,[]):=by unfold Gz;rw [if_pos (Ud.2 hu)]
      rw [this]at e1;have:=congrArg Prod.snd e1;simp only [List.nil_append]at this;rw [←this]at h0;simp at h0
     ·have hh:=e4 hu
      have h00:c[0]=(B7 W)[k]:=by rw [List.head?_eq_getElem?,AmH h0,AmG]at hh;exact hh
      rw [h00];have hsm:s∈B7 W:=(Jh W).mem_iff.2 (e3 s hs);obtain⟨i,hi,rfl⟩:=List.getElem_of_mem hsm
      have hik:k<=i:=by
       refine Classical.byContradiction fun hlt=>?_
       have hin:(B7 W)[i]∈(B7 W).take k:=by rw [List.mem_take_iff_getElem];exact⟨i,by omega,rfl⟩
       have h1:=hp _ hin;rw [List.nodup_append]at e2;exact e2.2.2 _ h1 _ hs rfl
      rcases Nat.lt_or_eq_of_le hik with h1|h1
      ·exact List.pairwise_iff_getElem.1 iJ k i Cm hi h1
      ·subst h1;rw [PN];grind
   ·exact old hc
  ·intro s hs
   rcases List.mem_append.1 hs with hs|hs
   ·exact List.mem_append_left _ (hp s hs)
   ·simp only [AmO]at hs;rw [hs];exact e5
theorem VV{α:Type} : ∀{l:List (List α)},(∀c∈l,c≠[])→l.length<=l.flatten.length
 | [],_=>by simp
 | c::l,h=>by have h1:=VV (l:=l) (fun x hx=>h x (List.mem_cons_of_mem _ hx));have h2:=List.length_pos_iff.2 (h c List.mem_cons_self);rw [List.flatten_cons,List.length_append,List.length_cons];omega
theorem AaW{W:List Sg}{R0:List (Pt×List Pt)}(hN:EG W R0):∃U,Tx W U (Ho W R0)/\∀s∈W,s∈U:=by
 obtain⟨h,hp⟩:=nZ hN (B7 W).length (AmC _);rw [List.take_length]at h hp;exact⟨_,h,fun s hs=>hp s ((Jh W).mem_iff.2 hs)⟩
theorem CB{K:Nat→Prop}{W W':World}{B:Nat}{e:TypeId}{s n:Nat}{v:Value}{xs:List Value}(h:W.ownsRow B e s v n xs)(hb:Au K W W')(hK:∀k,v.ownBlock=some k→¬K k):W'.ownsRow B e s v n xs:=by
 refine⟨h.1,?_⟩
 rcases h.2 with h'|⟨g,cap,cur,rfl,hg,hgb,h4⟩
 ·exact .inl h'
 ·exact .inr ⟨g,cap,cur,rfl,hg,hb.cells hgb (hK g rfl),h4⟩
theorem fu{W:World}{B:Nat}{e:TypeId}{s n:Nat}{v:Value}{xs:List Value}(h:W.ownsRow B e s v n xs){j:Nat}{o:Obj}(hj:W.heap[j]?=some o)(hno:∀cur,o≠.cells cur e (0,0)):∀k,v.ownBlock=some k→k≠j:=by
 intro k hk e;subst e
 rcases ownsRow_ne h hj hno with h1|h1
 ·rw [h1]at hk;cases hk
 ·exact h1 hk
def G8(B:Nat)(W:World)(out:Value)(C:List (List Sg)):Prop:=
 ∃vs,W.ownsRow B 160 1 out C.length vs/\∀j (h:j<C.length),∃v,vs[j]?=some v/\W.ownsRow B 155 4 v C[j].length (BP C[j])
theorem G8.keep{K:Nat→Prop}{W W':World}{B:Nat}{out:Value}{C:List (List Sg)}(h:G8 B W out C)(hb:Au K W W')(hK:∀k,k<W.heap.size→K k→∀cs e,W.heap[k]?≠some (.cells cs e (0,0))):G8 B W' out C:=by
 obtain⟨vs,ho,hr⟩:=h
 have main:∀{e:TypeId} {s n:Nat} {v:Value} {xs:List Value},W.ownsRow B e s v n xs→W'.ownsRow B e s v n xs:=by
  intro e s n v xs h;refine CB h hb ?_;intro k hk hKk
  rcases h.2 with⟨h',_⟩|⟨g,cap,cur,h',_,hgb,_⟩
  ·rw [h']at hk;cases hk
  ·rw [h']at hk;simp only [Value.ownBlock,AmG]at hk;subst hk;exact hK g (AmA hgb) hKk _ _ hgb
 exact⟨vs,main ho,fun j hj=>by obtain⟨v,h1,h2⟩:=hr j hj;exact⟨v,h1,main h2⟩⟩
theorem G8.nil(B:Nat)(W:World):G8 B W (.slice none 0 0) []:=⟨[],⟨rfl,.inl ⟨rfl,rfl⟩⟩,fun j h=>by simp at h⟩
theorem Ahl{W W':World}{B:Nat}{out out' cv:Value}{C:List (List Sg)}{c:List Sg}{vs:List Value}(ho:W.ownsRow B 160 1 out C.length vs)(hr:∀j (h:j<C.length),∃v,vs[j]?=some v/\W.ownsRow B 155 4 v C[j].length (BP C[j]))
  (hc:W.ownsRow B 155 4 cv c.length (BP c)) (hg:W.grownBy W' out.ownBlock) (V8:W'.ownsRow B 160 1 out' (C.length+1) (vs ++ [cv])):G8 B W' out' (C ++ [c]):=by
 have hne:155≠160:=by decide
 have main:∀{n:Nat} {v:Value} {xs:List Value},W.ownsRow B 155 4 v n xs→W'.ownsRow B 155 4 v n xs:=by
  intro n v xs h;refine h.kept hg ?_
  rcases ho.2 with⟨h',_⟩|⟨g,cap,cur,h',_,hgb,_⟩
  ·rw [h']
   cases v.ownBlock with
   | none=>exact .inl rfl
   | some k=>exact .inr (by simp [Value.ownBlock])
  ·rcases ownsRow_ne h hgb (fun cur e=>hne (Obj.cells.inj e).2.1.symm)with h1|h1
   ·exact .inl h1
   ·right;rw [h'];exact h1
 have hl:vs.length=C.length:=(by have:=ho.1;omega);refine⟨vs ++ [cv],by rw [List.length_append];exact V8,fun j hj=>?_⟩;by_cases AW:j<C.length
 ·obtain⟨v,h1,h2⟩:=hr j AW;refine⟨v,by rw [List.getElem?_append_left (by omega)];exact h1,?_⟩;rw [List.getElem_append_left AW];exact main h2
 ·have:j=C.length:=(by simp at hj;omega);subst this;refine⟨cv,by rw [List.getElem?_append_right (by omega)];simp [hl],?_⟩;rw [List.getElem_append_right (AmC _)];simp only [Nat.sub_self,List.getElem_cons_zero];exact main hc
def XS(W:World)(v:Value)(l:List Sg):Prop:=∃A c,v=.slice A l.length c/\Ae W A (BP l)/\l.length<=c/\c<=9223372036854775807
theorem XS.ext{W W':World}{v:Value}{l:List Sg}(h:XS W v l)(hx:Aa W W'):XS W' v l:=by
 obtain⟨A,c,e,hr,h1,h2⟩:=h;exact⟨A,c,e,hr.ext hx,h1,h2⟩
structure L8(W:World)(A:Option Addr)(cap:Nat)(C:List (List Sg)):Prop where
 cap1:C.length<=cap
 cap2:cap<=9223372036854775807
 row:∀j (h:j<C.length),∃b o A' c',A=some ⟨b,o,none⟩/\W.cell? ⟨b,o+j,none⟩=some (.slice A' C[j].length c')/\Ae W A' (BP C[j])/\C[j].length<=c'/\c'<=9223372036854775807
theorem L8.ext{W W':World}{A:Option Addr}{cap:Nat}{C:List (List Sg)}(h:L8 W A cap C)(hx:Aa W W'):L8 W' A cap C:=
 ⟨h.cap1,h.cap2,fun j hj=>by
  obtain⟨b,o,A',c',h1,h2,h3,h4,h5⟩:=h.row j hj
  exact⟨b,o,A',c',h1,hx.cellS h2,h3.ext hx,h4,h5⟩⟩
theorem G8.cycs{B:Nat}{W:World}{out:Value}{C:List (List Sg)}(h:G8 B W out C):∃A cap,out=.slice A C.length cap/\L8 W A cap C:=by
 obtain⟨vs,ho,hr⟩:=h;obtain⟨A,cap,he,AP,h1,h2⟩:=Ae.of_own' (by omega) ho;refine⟨A,cap,he,h1,h2,fun j hj=>?_⟩;have hl:vs.length=C.length:=(by have:=ho.1;omega);obtain⟨b,o,e,hc⟩:=AP.ad (by omega);obtain⟨v,g1,g2⟩:=hr j hj;obtain⟨A',c',e',r1,r2,r3⟩:=Ae.of_own' (by omega) g2;have:=hc j (by omega);rw [AmH (by omega),AmG]at g1;rw [g1,e']at this;exact⟨b,o,A',c',e,this,r1,r2,r3⟩
structure Hg(w5 wr:World)(bu bs:Nat)(cv:Value)(U:List Sg)(s:Sg)(c:List Sg):Prop where
 used:D3 wr bu U
 box:wr.heap[bs]?=some (.cells #[S (R s.a.x),S (R s.a.y),S (R s.b.x),S (R s.b.y)] 155)
 row:wr.ownsRow w5.heap.size 155 4 cv c.length (BP c)
 but:Au (fun k=>k=bu∨k=bs) w5 wr
def eD(w:World)(b:Nat):Nat:=match w.heap[b]? with|some (.map es _)=>es.size|_=>0
theorem D3.size{W:World}{b:Nat}{U:List Sg}(h:D3 W b U):eD W b=U.length:=by
 unfold D3 at h;unfold eD;rw [h];simp [Ax,Ji,Is]
theorem D3.far{W W':World}{b:Nat}{U:List Sg}(h:D3 W b U){row:Option Nat}(hg:W.grownBy W' row)(hr:row≠some b):D3 W' b U:=(hg.block b (AmA h) (fun e=>hr e.symm)).trans h
theorem gh{W:World}{B:Nat}{e:TypeId}{s n:Nat}{v:Value}{xs:List Value}(h:W.ownsRow B e s v n xs){b:Nat}(hb:b<B):v.ownBlock≠some b:=by
 intro e;have:=(h.lt b e).1;omega
theorem Wz{W:World}{B:Nat}{e:TypeId}{s n:Nat}{v:Value}{xs:List Value}(h:W.ownsRow B e s v n xs){b:Nat}{es:Array MapEntry}{c:Nat}(hb:W.heap[b]?=some (.map es c)):v.ownBlock≠some b:=fun e=>fu h hb (fun _ e=>by cases e) b e rfl
theorem fo{W W':World}{B:Nat}{e:TypeId}{s n:Nat}{v:Value}{xs:List Value}(h:W.ownsRow B e s v n xs){b:Nat}(hg:W.grownBy W' (some b))(hne:v.ownBlock≠some b):W'.ownsRow B e s v n xs:=h.kept hg (.inr hne)
theorem Hg.put{w5 wr:World}{bu bs:Nat}{cv:Value}{U:List Sg}{s:Sg}{c:List Sg}(h:Hg w5 wr bu bs cv U s c)(hne:bu≠bs)(hno:U.any (AK s)=false) :
  ∃W',(Instr.mapUpdate 285 (.map (some bu)) (As s) (.bool true)).run Tryz.prog wr=.ok () W'/\Hg w5 W' bu bs cv (U ++ [s]) s c:=by
 obtain⟨W',h1,h2,h3,h4⟩:=h.used.put s hno;refine⟨W',h1,h2,?_,fo h.row h3 (Wz h.row h.used),h.but.grown h3 (fun k e=>by cases e;exact .inl (.inl rfl))⟩;exact(h3.block bs (AmA h.box) (by simp;exact fun e=>hne e.symm)).trans h.box
theorem Hg.app{w5 wr W':World}{bu bs:Nat}{cv nY:Value}{U:List Sg}{s t:Sg}{c:List Sg}(h:Hg w5 wr bu bs cv U s c)(hs:bs<w5.heap.size)(hg:(wr.alloc (.cells #[S (R t.a.x),S (R t.a.y),S (R t.b.x),S (R t.b.y)] 155)).grownBy W' cv.ownBlock)
  (ho:W'.ownsRow w5.heap.size 155 4 nY (c.length+1) (BP (c ++ [t]))):Hg w5 W' bu bs nY U s (c ++ [t]):=by
 have hx:=(Aa.refl wr).alloc (.cells #[S (R t.a.x),S (R t.a.y),S (R t.b.x),S (R t.b.y)] 155);have hr:=h.row.kept (Gf hx none) (by cases cv.ownBlock with|none=>exact .inl rfl|some k=>exact .inr (by simp));have hu:D3 (wr.alloc (.cells #[S (R t.a.x),S (R t.a.y),S (R t.b.x),S (R t.b.y)] 155)) bu U:=(hx.block bu (AmA h.used)).trans h.used;have hb:=(hx.block bs (AmA h.box)).trans h.box;refine⟨hu.far hg (Wz hr hu),(hg.block bs (AmA hb) (fun e=>gh hr hs e.symm)).trans hb,by simpa using ho,?_⟩;exact(h.but.ext hx).own hg hr (AmC _)
theorem Hg.nxt{w5 wr W':World}{bu bs:Nat}{cv:Value}{U:List Sg}{s:Sg}{c:List Sg}(h:Hg w5 wr bu bs cv U s c)(hx:Aa wr W')(hne:bu≠bs)(hs:bs<w5.heap.size)(t:Sg) :
  Hg w5 ((((W'.setCell ⟨bs,0,none⟩ (S (R t.a.x))).setCell ⟨bs,1,none⟩ (S (R t.a.y))).setCell ⟨bs,2,none⟩ (S (R t.b.x))).setCell ⟨bs,3,none⟩ (S (R t.b.y))) bu bs cv U t c:=by
 have hb:=(hx.block bs (AmA h.box)).trans h.box;have hr:=h.row.kept (Gf hx none) (by cases cv.ownBlock with|none=>exact .inl rfl|some k=>exact .inr (by simp));have hu:D3 W' bu U:=(hx.block bu (AmA h.used)).trans h.used;have far:∀(X:World) (o:Nat) (v:Value) (q:Nat),q≠bs→(X.setCell ⟨bs,o,none⟩ v).heap[q]?=X.heap[q]?:=fun X o v q hq=>Below.heap_setCell _ _ _ _ hq;have AZ:=((((h.but.ext hx).setCell (p:=⟨bs,0,none⟩) (.inl (.inr rfl)) (S (R t.a.x))).setCell (p:=⟨bs,1,none⟩) (.inl (.inr rfl)) (S (R t.a.y))).setCell (p:=⟨bs,2,none⟩) (.inl (.inr rfl)) (S (R t.b.x))).setCell (p:=⟨bs,3,none⟩) (.inl (.inr rfl)) (S (R t.b.y));refine⟨?_,OE _ _ _ _ hb,?_,AZ⟩
 ·unfold D3;rw [far _ _ _ _ hne,far _ _ _ _ hne,far _ _ _ _ hne,far _ _ _ _ hne];exact hu
 ·refine CB hr (K:=fun k=>k=bs) ?_ ?_
  ·exact(((((Au.refl (fun k=>k=bs) W').setCell (p:=⟨bs,0,none⟩) (.inl rfl) _).setCell (p:=⟨bs,1,none⟩) (.inl rfl) _).setCell (p:=⟨bs,2,none⟩) (.inl rfl) _).setCell (p:=⟨bs,3,none⟩) (.inl rfl) _)
  ·intro k hk e;subst e;exact gh hr hs hk
theorem mS{a b c:World}{bu bs:Nat}(hx:Aa a b)(h:Au (fun k=>k=bu∨k=bs) b c)(hs:a.heap.size<=bs):Au (fun k=>k=bu) a c:=
 ⟨h.os.trans hx.os,h.tape.trans hx.tape,h.output.trans hx.output,AmM hx.size h.size,fun k hk hn=>(h.block k (AmL hk hx.size) (by rintro(e|e);exact hn e;omega)).trans (hx.block k hk)⟩
theorem G8.alloc{B:Nat}{W:World}{out:Value}{C:List (List Sg)}(h:G8 B W out C)(o:Obj):G8 B (W.alloc o) out C:=
 h.keep ((Au.refl (fun _=>False) W).ext ((Aa.refl W).alloc o)) (fun _ _ h=>h.elim)
theorem Tryz.infoStr:(Tryz.prog.info? 9).map (fun i=>(i.zero,i.size,i.bytes))=some (some (S []),1,16):=by kernel_rfl
section
variable {ops : Array Oper} {rest : List Oper} {o : Oper} {a : Act} {K : Act → World → Prop} {Q : Exit → Act → World → Prop} {E : Prop}
theorem Aky(s x:Operand)(ho:o.op=.call {callee:=.builtin .append,args:=#[s,x],argTypes:=#[23,23]})
  (wN:World) (base:Nat) (v:Value) (n:Nat) (l:List Bs) (hs:a.eval s=v) (hown:wN.ownsRow base 9 1 v n (l.map S)) (hn:n<200000) (d:Bs)
  (g:Nat) (hb:wN.heap[g]?=some (.cells #[S d] 9)) (hx:a.eval x=.slice (some ⟨g,0,none⟩) 1 1) (hbase:base<=wN.heap.size)
  (h:∀v' w',w'.ownsRow base 9 1 v' (n+1) ((l ++ [d]).map S)→(∀w0,Aa w0 wN→w0.heap.size<=base→Aa w0 w')→wN.grownBy w' v.ownBlock→K (a.put o.dst v') w') :
  o.wp Tryz.prog a wN K Q:=by
 obtain⟨i0,hi,hz0,hz1,hz2⟩:=info_parts Tryz.infoStr;refine iY s x 23 ho 9 i0 _ 1 16 1 Tryz.underlying23 hi hz0 hz1 hz2 rfl (by omega) (by omega) (by omega) wN base v n _ hs hown hn g _ hb rfl ?_ hx hbase ?_
 ·intro u hu;simp only [List.mem_cons,AmN,or_false]at hu;rw [hu];rfl
 ·intro v' w' h1 h2 h3;refine h v' w' ?_ h2 h3;rw [List.map_append];exact h1
theorem Ajt(hgd:o.guard=none)(s x:Operand)(ho:o.op=.call {callee:=.builtin .append,args:=#[s,x],argTypes:=#[23,23]})
  (wN:World) (base:Nat) (v:Value) (n:Nat) (l:List Bs) (hs:a.eval s=v) (hown:wN.ownsRow base 9 1 v n (l.map S)) (hn:n<200000) (d:Bs)
  (g:Nat) (hb:wN.heap[g]?=some (.cells #[S d] 9)) (hx:a.eval x=.slice (some ⟨g,0,none⟩) 1 1) (hbase:base<=wN.heap.size)
  (h:∀v' w',w'.ownsRow base 9 1 v' (n+1) ((l ++ [d]).map S)→(∀w0,Aa w0 wN→w0.heap.size<=base→Aa w0 w')→wN.grownBy w' v.ownBlock→K (a.put o.dst v') w') :
  if Region.wanted o (yielded ops a.tmps)=true then Oper.wp Tryz.prog o a wN K Q else E:=by
 have hw:Region.wanted o (yielded ops a.tmps)=true:=(by simp [Region.wanted,hgd]);rw [if_pos hw];exact Aky s x ho wN base v n l hs hown hn d g hb hx hbase h
end
structure Kf(wr:World)(B n bx B6 bM bU:Nat)(U:Option Addr)(cu:Nat)(units:List Bs)(P E F:Value)(nums:List Int)(Am:List Bs):Prop where
 cN:wr.heap[bx]?=some (.cells #[.slice (some ⟨B6,0,none⟩) n n] 68)
 num:wr.ownsRow 0 3 1 (.slice (some ⟨B6,0,none⟩) n n) n (zs nums)
 cM:wr.heap[bM]?=some (.cells #[P,E,F] 36)
 fac:wr.ownsRow B 9 1 F Am.length (Am.map S)
 cU:wr.heap[bU]?=some (.cells #[.slice U n cu] 23)
 uni:wr.ownsRow 0 9 1 (.slice U n cu) n (units.map S)
 uB:∀k,(Value.slice U n cu).ownBlock=some k→k<B
 lenN:nums.length=n
 lenU:units.length=n
 cu1:n<=cu
 cu2:cu<=9223372036854775807
 rng:∀z∈nums,0<=z/\z<=(Am.length:Int)
 cnt:Am.length+nums.countP (fun z=>z == 0)<=n
 txt:∀s∈Am,s∈units
theorem DO{w:World}{i j:Nat}{c1 c2:Array Value}{t1 t2:TypeId}{r1 r2:Nat×Nat}(h1:w.heap[i]?=some (.cells c1 t1 r1))(h2:w.heap[j]?=some (.cells c2 t2 r2))(hne:t1≠t2):i≠j:=by
 rintro rfl;rw [h1]at h2;simp only [AmG,Obj.cells.injEq]at h2;exact hne h2.2.1
theorem Bp{w:World}{B:Nat}{e:TypeId}{s n:Nat}{v:Value}{xs:List Value}(h:w.ownsRow B e s v n xs){j:Nat}{c:Array Value}{t:TypeId}{r:Nat×Nat}(hj:w.heap[j]?=some (.cells c t r))(hne:e≠t):v.ownBlock≠some j:=by
 intro k
 rcases h.2 with⟨h',_⟩|⟨g,cap,cur,h',_,hgb,_⟩
 ·rw [h']at k;cases k
 ·rw [h']at k;simp only [Value.ownBlock,AmG]at k;subst k;rw [hgb]at hj;simp only [AmG,Obj.cells.injEq]at hj;exact hne hj.2.1
theorem Ob{w:World}{B n b:Nat}{e:TypeId}{s:Nat}{xs:List Value}{cap:Nat}(h:w.ownsRow B e s (.slice (some ⟨b,0,none⟩) n cap) n xs):∃cur,w.heap[b]?=some (.cells cur e (0,0)):=by
 rcases h.2 with⟨h',_⟩|⟨g,cap,cur,h',_,hgb,_⟩
 ·cases h'
 ·simp only [Value.slice.injEq,AmG,Addr.mk.injEq,and_true,true_and]at h';obtain⟨rfl,-⟩:=h';exact⟨cur,hgb⟩
theorem D7{w:World}{p:Addr}{v:Value}{q:Nat}(h:q≠p.block):(w.setCell p v).heap[q]?=w.heap[q]?:=Below.heap_setCell _ _ _ _ h
theorem Yr{w:World}{b:Nat}{a0 a1 a2:Value}{t:TypeId}(v:Value)(h:w.heap[b]?=some (.cells #[a0,a1,a2] t)):(w.setCell ⟨b,2,none⟩ v).heap[b]?=some (.cells #[a0,a1,v] t):=by
 simp only [World.setCell,Array.getElem?_modify,h];simp
theorem ou(l:List Int)(m:Nat)(z:Int):(zs l).set m (.int .i64 z)=zs (l.set m z):=by simp [zs]
theorem nW:∀(l:List Int) (m:Nat) (z:Int) (h:m<l.length),l[m]=0→z≠0→(l.set m z).countP (fun z=>z == 0)+1=l.countP (fun z=>z == 0)
 | a::l,0,z,_,h0,hz=>by
  simp only [List.getElem_cons_zero]at h0;subst h0;have:(z == 0)=false:=beq_false_of_ne hz;simp [this]
 | a::l,m+1,z,h,h0,hz=>by have:=nW l m z (by simpa using h) (by simpa using h0) hz;simp only [List.set_cons_succ,List.countP_cons];omega
theorem Kf.extn{w w':World}{B n bx B6 bM bU:Nat}{U:Option Addr}{cu:Nat}{units:List Bs}{P E F:Value}{nums:List Int}{Am:List Bs}(h:Kf w B n bx B6 bM bU U cu units P E F nums Am)(hx:Aa w w'):Kf w' B n bx B6 bM bU U cu units P E F nums Am:=
 ⟨(hx.block _ (AmA h.cN)).trans h.cN,AI h.num hx,(hx.block _ (AmA h.cM)).trans h.cM,AI h.fac hx,(hx.block _ (AmA h.cU)).trans h.cU,AI h.uni hx,h.uB,h.lenN,h.lenU,h.cu1,h.cu2,h.rng,h.cnt,h.txt⟩
theorem Kf.step{w:World}{B n bx B6 bM bU:Nat}{U:Option Addr}{cu:Nat}{units:List Bs}{P E F:Value}{nums:List Int}{Am:List Bs}(h:Kf w B n bx B6 bM bU U cu units P E F nums Am){m:Nat}(hm:m<nums.length)(hz:nums[m]=0){s:Bs}(hs:s∈units){X:Obj}{W7:World}{F':Value}
  (hg:((w.alloc X).drew).grownBy W7 F.ownBlock) (ho:W7.ownsRow B 9 1 F' (Am.length+1) ((Am ++ [s]).map S)) :
  Kf ((W7.setCell ⟨bM,2,none⟩ F').setCell ⟨B6,m,none⟩ (.int .i64 ((Am.length:Int)+1))) B n bx B6 bM bU U cu units P E F' (nums.set m ((Am.length:Int)+1)) (Am ++ [s])/\Au (fun k=>k=B6∨k=bM∨F.ownBlock=some k) w ((W7.setCell ⟨bM,2,none⟩ F').setCell ⟨B6,m,none⟩ (.int .i64 ((Am.length:Int)+1)))
  /\(W7.setCell ⟨bM,2,none⟩ F').heap[bx]?=some (.cells #[.slice (some ⟨B6,0,none⟩) n n] 68)/\(W7.setCell ⟨bM,2,none⟩ F').heap[bM]?=some (.cells #[P,E,F'] 36)/\(W7.setCell ⟨bM,2,none⟩ F').ownsRow 0 3 1 (.slice (some ⟨B6,0,none⟩) n n) n (zs nums):=by
 obtain⟨cn,DX⟩:=Ob h.num;have E4:Aa w ((w.alloc X).drew):=((Aa.refl w).alloc X).drew;have n1:=DO DX h.cM (by decide);have n2:=DO h.cN DX (by decide);have n3:=DO h.cN h.cM (by decide);have n4:=DO h.cU DX (by decide);have n5:=DO h.cU h.cM (by decide);have f1:=Bp h.fac DX (by decide);have f2:=Bp h.fac h.cM (by decide);have f3:=Bp h.fac h.cN (by decide);have f4:=Bp h.fac h.cU (by decide);have g7:∀{j:Nat} {o:Obj},w.heap[j]?=some o→F.ownBlock≠some j→W7.heap[j]?=some o:=fun {j o} hj hn=>(hg.block j (AmL (AmA hj) E4.size) (fun e=>hn e.symm)).trans ((E4.block j (AmA hj)).trans hj);have ET:=g7 h.cM f2;have UG:=g7 DX f1;have UV:Au (fun k=>k=B6∨k=bM∨F.ownBlock=some k) w W7:=((Au.refl _ w).ext E4).grown hg (fun k e=>.inl (.inr (.inr e)));have LZ:=(UV.setCell (p:=⟨bM,2,none⟩) (.inl (.inr (.inl rfl))) F').setCell (p:=⟨B6,m,none⟩) (.inl (.inl rfl)) (.int .i64 ((Am.length:Int)+1))
 have o7:W7.ownsRow 0 3 1 (.slice (some ⟨B6,0,none⟩) n n) n (zs nums):=(AI h.num E4).kept hg (by
  cases hF:F.ownBlock with
  | none=>exact .inr (by simp [Value.ownBlock])
  | some k=>refine .inr (fun e=>f1 ?_);rw [hF];exact e.symm)
 have o8:=CB (K:=fun k=>k=bM) o7 ((Au.refl (fun k=>k=bM) W7).setCell (p:=⟨bM,2,none⟩) (.inl rfl) F') (fun k hk e=>by simp only [Value.ownBlock,AmG]at hk;omega);have o9:=(o8.stored m (.int .i64 ((Am.length:Int)+1))).1;rw [ou]at o9;have q1:=Bp ho ET (by decide);have q2:=Bp ho UG (by decide);refine⟨⟨?_,o9,?_,?_,?_,?_,h.uB,by rw [List.length_set];exact h.lenN,h.lenU,h.cu1,h.cu2,?_,?_,?_⟩,LZ,by rw [D7 (by show bx≠bM;exact n3)];exact g7 h.cN f3,Yr F' ET,o8⟩
 ·rw [D7 (by show bx≠B6;exact n2),D7 (by show bx≠bM;exact n3)];exact g7 h.cN f3
 ·rw [D7 (by show bM≠B6;exact fun e=>n1 e.symm)];exact Yr F' ET
 ·rw [List.length_append,List.length_singleton];refine CB (K:=fun k=>k=B6∨k=bM) ho (((Au.refl (fun k=>k=B6∨k=bM) W7).setCell (p:=⟨bM,2,none⟩) (.inl (.inr rfl)) F').setCell (p:=⟨B6,m,none⟩) (.inl (.inl rfl)) _) ?_;rintro k hk (e|e)
  ·subst e;exact q2 hk
  ·subst e;exact q1 hk
 ·rw [D7 (by show bU≠B6;exact n4),D7 (by show bU≠bM;exact n5)];exact g7 h.cU f4
 ·have u1:=AI h.uni E4
  have u2:=u1.kept hg (by
   cases hF:(Value.slice U n cu).ownBlock with
   | none=>exact .inl rfl
   | some k=>
    refine .inr (fun e=>?_);have h1:=h.uB k hF;have h2:=(h.fac.lt k e.symm).1
    omega)
  refine CB (K:=fun k=>k=B6∨k=bM) u2 (((Au.refl (fun k=>k=B6∨k=bM) W7).setCell (p:=⟨bM,2,none⟩) (.inl (.inr rfl)) F').setCell (p:=⟨B6,m,none⟩) (.inl (.inl rfl)) _) ?_;rintro k hk (e|e)
  ·subst e;exact Bp h.uni DX (by decide) hk
  ·subst e;exact Bp h.uni h.cM (by decide) hk
 ·intro z hz';rw [List.length_append,List.length_singleton]
  rcases List.mem_or_eq_of_mem_set hz' with k|k
  ·have:=h.rng z k;omega
  ·omega
 ·have h1:=nW nums m ((Am.length:Int)+1) hm hz (by omega);have h2:=h.cnt;rw [List.length_append,List.length_singleton];omega
 ·intro x hx
  rcases List.mem_append.1 hx with k|k
  ·exact h.txt x k
  ·simp only [AmO]at k;rw [k];exact hs
theorem Ni.set{n:Nat}{l:List Hf}(h:Ni n l)(k:Nat){y:Hf}(hy:y∈l):Ni n (l.set k y):=by
 intro z hz
 rcases List.mem_or_eq_of_mem_set hz with e|e
 ·exact h z e
 ·rw [e];exact h y hy
section
variable {ops : Array Oper} {rest : List Oper} {o : Oper} {a : Act} {Q : Exit → Act → World → Prop}
end
structure O4(W3 wr:World)(bM:Nat)(P:Value)(pts:List Pt):Prop where
 cM:wr.heap[bM]?=some (.cells #[P,.slice none 0 0,.slice none 0 0] 36)
 own:wr.ownsRow W3.heap.size 92 2 P pts.length (flat (Ao pts))
 but:Au (fun q=>q=bM) W3 wr
 sheet:∀p∈pts,EJ p
theorem O4.ext{W3 wr w':World}{bM:Nat}{P:Value}{pts:List Pt}(h:O4 W3 wr bM P pts)(hx:Aa wr w'):O4 W3 w' bM P pts:=
 ⟨(hx.block _ (AmA h.cM)).trans h.cM,AI h.own hx,h.but.ext hx,h.sheet⟩
theorem O4.app{W3 wr W7:World}{bM:Nat}{P P':Value}{pts:List Pt}(h:O4 W3 wr bM P pts)(GH:bM<W3.heap.size){p:Pt}(hp:EJ p){E4:World}(hE:Aa wr E4)(hg:E4.grownBy W7 P.ownBlock)(ho:W7.ownsRow W3.heap.size 92 2 P' (pts.length+1) (flat (Ao (pts ++ [p])))) :
  W7.heap[bM]?=some (.cells #[P,.slice none 0 0,.slice none 0 0] 36)/\O4 W3 (W7.setCell ⟨bM,0,none⟩ P') bM P' (pts ++ [p]):=by
 have hne:=Bp h.own h.cM (by decide);have h7:=(hg.block bM (AmL (AmA h.cM) hE.size) (fun e=>hne e.symm)).trans ((hE.block bM (AmA h.cM)).trans h.cM);have hq:=Bp ho h7 (by decide);refine⟨h7,?_,?_,?_,?_⟩
 ·simp only [World.setCell,Array.getElem?_modify,h7];simp
 ·rw [List.length_append,List.length_singleton];exact CB (K:=fun q=>q=bM) ho ((Au.refl (fun q=>q=bM) W7).setCell (p:=⟨bM,0,none⟩) (.inl rfl) P') (fun k hk e=>by subst e;exact hq hk)
 ·exact((h.but.ext hE).own hg (AI h.own hE) (AmC _)).setCell (p:=⟨bM,0,none⟩) (.inl rfl) P'
 ·intro x hx
  rcases List.mem_append.1 hx with k|k
  ·exact h.sheet x k
  ·simp only [AmO]at k;rw [k];exact hp
theorem Abu(l:List Av)(d:Av):Bz (l ++ [d])=Bz l ++ [.int .i64 d.f,.int .i64 d.t,.int .i64 d.l,.int .i64 d.r]:=by simp [Bz]
section
variable {ops : Array Oper} {rest : List Oper} {o : Oper} {a : Act} {K : Act → World → Prop} {Q : Exit → Act → World → Prop} {E : Prop}
theorem Akt(s x:Operand)(ho:o.op=.call {callee:=.builtin .append,args:=#[s,x],argTypes:=#[34,34]})
  (wN:World) (base:Nat) (v:Value) (n:Nat) (l:List Av) (hs:a.eval s=v) (hown:wN.ownsRow base 126 4 v n (Bz l)) (hn:n<200000) (d:Av)
  (g:Nat) (hb:wN.heap[g]?=some (.cells #[.int .i64 d.f,.int .i64 d.t,.int .i64 d.l,.int .i64 d.r] 126)) (hx:a.eval x=.slice (some ⟨g,0,none⟩) 1 1) (hbase:base<=wN.heap.size)
  (h:∀v' w',w'.ownsRow base 126 4 v' (n+1) (Bz (l ++ [d]))→wN.grownBy w' v.ownBlock→K (a.put o.dst v') w') :
  Oper.wp Tryz.prog o a wN K Q:=by
 obtain⟨i0,hi,hz0,hz1,hz2⟩:=info_parts Tryz.infoEd;refine iY s x 34 ho 126 i0 _ 4 32 1 Tryz.underlying34 hi hz0 hz1 hz2 rfl (by omega) (by omega) (by omega) wN base v n _ hs hown hn g _ hb rfl ?_ hx hbase ?_
 ·intro u hu;simp only [List.mem_cons,AmN,or_false]at hu
  rcases hu with rfl|rfl|rfl|rfl<;>rfl
 ·intro v' w' h1 _ h3;refine h v' w' ?_ h3;rw [Abu];exact h1
end
structure G3(W5 wr:World)(n bx B6 bM bU:Nat)(U:Option Addr)(cu:Nat)(units:List Bs)(P E F:Value)(nums:List Int)(Am:List Bs)(eds:List Av):Prop where
 nam:Kf wr W5.heap.size n bx B6 bM bU U cu units P E F nums Am
 own:wr.ownsRow W5.heap.size 126 4 E eds.length (Bz eds)
 but:Au (fun q=>q=B6∨q=bM) W5 wr
theorem G3.extn{W5 wr w':World}{n bx B6 bM bU:Nat}{U:Option Addr}{cu:Nat}{units:List Bs}{P E F:Value}{nums:List Int}{Am:List Bs}{eds:List Av}(h:G3 W5 wr n bx B6 bM bU U cu units P E F nums Am eds)(hx:Aa wr w'):G3 W5 w' n bx B6 bM bU U cu units P E F nums Am eds:=
 ⟨h.nam.extn hx,AI h.own hx,h.but.ext hx⟩
theorem G3.name{W5 wr w':World}{n bx B6 bM bU:Nat}{U:Option Addr}{cu:Nat}{units:List Bs}{P E F F':Value}{nums Cq:List Int}{Am Bl:List Bs}{eds:List Av}(h:G3 W5 wr n bx B6 bM bU U cu units P E F nums Am eds)
  (hn:Kf w' W5.heap.size n bx B6 bM bU U cu units P E F' Cq Bl) (hb:Au (fun k=>k=B6∨k=bM∨F.ownBlock=some k) wr w'):G3 W5 w' n bx B6 bM bU U cu units P E F' Cq Bl eds:=by
 obtain⟨cn,DX⟩:=Ob h.nam.num;refine⟨hn,CB h.own hb ?_,?_⟩
 ·rintro k hk (e|e|e)
  ·subst e;exact Bp h.own DX (by decide) hk
  ·subst e;exact Bp h.own h.nam.cM (by decide) hk
  ·rcases h.nam.fac.2 with⟨h',_⟩|⟨g,cap,cur,h',_,hgb,_⟩
   ·rw [h']at e;cases e
   ·rw [h']at e;simp only [Value.ownBlock,AmG]at e;subst e;exact Bp h.own hgb (by decide) hk
 ·refine⟨hb.os.trans h.but.os,hb.tape.trans h.but.tape,hb.output.trans h.but.output,AmM h.but.size hb.size,fun k hk IO=>?_⟩;refine(hb.block k (AmL hk h.but.size) ?_).trans (h.but.block k hk IO);rintro(e|e|e)
  ·exact IO (.inl e)
  ·exact IO (.inr e)
  ·have:=(h.nam.fac.lt k e).1;omega
theorem G3.app{W5 wr W7:World}{n bx B6 bM bU:Nat}{U:Option Addr}{cu:Nat}{units:List Bs}{P E E' F:Value}{nums:List Int}{Am:List Bs}{eds:List Av}(h:G3 W5 wr n bx B6 bM bU U cu units P E F nums Am eds)
  {d:Av} {X4:World} (hE:Aa wr X4) (hg:X4.grownBy W7 E.ownBlock) (ho:W7.ownsRow W5.heap.size 126 4 E' (eds.length+1) (Bz (eds ++ [d]))) :
  W7.heap[bM]?=some (.cells #[P,E,F] 36)/\G3 W5 (W7.setCell ⟨bM,1,none⟩ E') n bx B6 bM bU U cu units P E' F nums Am (eds ++ [d]):=by
 have h4:=h.extn hE;obtain⟨cn,DX⟩:=Ob h4.nam.num;have e1:=Bp h4.own h4.nam.cM (by decide);have e2:=Bp h4.own DX (by decide);have e3:=Bp h4.own h4.nam.cN (by decide);have e4:=Bp h4.own h4.nam.cU (by decide);have g7:∀{j:Nat} {o:Obj},X4.heap[j]?=some o→E.ownBlock≠some j→W7.heap[j]?=some o:=fun {j o} hj hn=>(hg.block j (AmA hj) (fun e=>hn e.symm)).trans hj;have h7:=g7 h4.nam.cM e1;have n1:=DO DX h4.nam.cM (by decide);have n2:=DO h4.nam.cN h4.nam.cM (by decide);have n3:=DO h4.nam.cU h4.nam.cM (by decide);have bb:=(Au.refl (fun k=>k=bM) W7).setCell (p:=⟨bM,1,none⟩) (.inl rfl) E'
 have kp:∀{e:TypeId} {s m:Nat} {v:Value} {xs:List Value} {B:Nat},X4.ownsRow B e s v m xs→e≠126→e≠36→(W7.setCell ⟨bM,1,none⟩ E').ownsRow B e s v m xs:=by
  intro e s m v xs B hv hne EU
  have MB:W7.ownsRow B e s v m xs:=hv.kept hg (by
   cases hE:E.ownBlock with
   | none=>cases hv':v.ownBlock with
    | none=>exact .inl rfl
    | some k=>exact .inr (by simp)
   | some k=>
    refine .inr (fun e0=>?_)
    rcases h4.own.2 with⟨h',_⟩|⟨g,cap,cur,h',_,hgb,_⟩
    ·rw [h']at hE;cases hE
    ·rw [h']at hE;simp only [Value.ownBlock,AmG]at hE;subst hE
     exact Bp hv hgb hne e0)
  exact CB MB bb (fun k hk e0=>by subst e0;exact Bp MB h7 EU hk)
 refine⟨h7,⟨?_,kp h4.nam.num (by decide) (by decide),?_,kp h4.nam.fac (by decide) (by decide),?_,kp h4.nam.uni (by decide) (by decide),h.nam.uB,h.nam.lenN,h.nam.lenU,h.nam.cu1,h.nam.cu2,h.nam.rng,h.nam.cnt,h.nam.txt⟩,?_,?_⟩
 ·rw [D7 (by show bx≠bM;exact n2)];exact g7 h4.nam.cN e3
 ·simp only [World.setCell,Array.getElem?_modify,h7];simp
 ·rw [D7 (by show bU≠bM;exact n3)];exact g7 h4.nam.cU e4
 ·rw [List.length_append,List.length_singleton];exact CB ho bb (fun k hk e0=>by subst e0;exact Bp ho h7 (by decide) hk)
 ·exact(h4.but.own hg h4.own (AmC _)).setCell (p:=⟨bM,1,none⟩) (.inl (.inr rfl)) E'
structure MapAt(w:World)(n:Nat)(units:List Bs)(A B F:Option Addr)(c d g:Nat)(m:Ck)(Am:List Bs):Prop where
 cap:Ka m c d g
 pts:Ae w A (flat (Ao m.pts))
 eds:Ae w B (Bz m.eds)
 fac:Ae w F (Am.map S)
 nf:m.nf=Am.length
 le:Am.length<=n
 sheet:∀p∈m.pts,EJ p
 txt:∀s∈Am,s∈units
structure Xf(n:Nat)(A B F:Option Addr):Prop where
 a:∀x,A=some x→n<=x.block
 b:∀x,B=some x→n<=x.block
 f:∀x,F=some x→n<=x.block
theorem Xf.mono{n k:Nat}{A B F:Option Addr}(h:Xf n A B F)(hk:k<=n):Xf k A B F:=
 ⟨fun x e=>AmM hk (h.a x e),fun x e=>AmM hk (h.b x e),fun x e=>AmM hk (h.f x e)⟩
end Go.Proofs.YtjalkoacphhgdaaGreatDoor
