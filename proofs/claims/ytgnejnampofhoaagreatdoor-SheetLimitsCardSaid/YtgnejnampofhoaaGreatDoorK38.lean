/- K38: ShKE ShKF ShKF2 ShKF3 ShKG0 ShKG. -/
import Derived.Test.YtgnejnampofhoaaGreatDoorK37
set_option maxRecDepth 100000
set_option maxHeartbeats 16000000
namespace Go.Proofs.YtgnejnampofhoaaGreatDoor
open Go.RowKit Kl
theorem uH(m:MapZ)(p:Pt)(k:Nat)(hk:DU m.pts p=(k:Int))(f:Int)(A B F:Option Addr)(c d g:Nat)(An:Bj m c d g)(w:World)(hA:Ae w A (flat (Ai m.pts))) :
  Calls Tryz.prog 164 #[As A B F m c d g,.int .i64 f,Ak p] w (Bp (.tuple #[As A B F m c d g,.int .i64 (k:Nat)]) w):=by
 have h1:=Ajy w (.cells #[.slice A m.pts.length c,.slice B m.eds.length d,.slice F m.nf g] 35);have h2:=Ajy (w.alloc (.cells #[.slice A m.pts.length c,.slice B m.eds.length d,.slice F m.nf g] 35)) (.cells #[S (R p.x),S (R p.y)] 27);have h3:=Ajy ((w.alloc (.cells #[.slice A m.pts.length c,.slice B m.eds.length d,.slice F m.nf g] 35)).alloc (.cells #[S (R p.x),S (R p.y)] 27)) (.cells #[.slice none 0 0,.slice none 0 0,.slice none 0 0] 35);rw [Aj6]at h2;rw [Aj6,Aj6]at h3;have e1:=(Ac.refl w).alloc (.cells #[.slice A m.pts.length c,.slice B m.eds.length d,.slice F m.nf g] 35);have e2:=(Ac.refl (w.alloc (.cells #[.slice A m.pts.length c,.slice B m.eds.length d,.slice F m.nf g] 35))).alloc (.cells #[S (R p.x),S (R p.y)] 27);have e3:=(Ac.refl ((w.alloc (.cells #[.slice A m.pts.length c,.slice B m.eds.length d,.slice F m.nf g] 35)).alloc (.cells #[S (R p.x),S (R p.y)] 27))).alloc (.cells #[.slice none 0 0,.slice none 0 0,.slice none 0 0] 35);have hM:=((e2.trans e3).block _ (Ajx h1)).trans h1;have hP:=(e3.block _ (Ajx h2)).trans h2;have hE:=e1.trans (e2.trans e3);have ix:=UI m.pts p A c _ (hA.ext hE) An.c1 An.c2;rw [hk]at ix;have hk0:(0:Int)<=(k:Int):=(by omega);unfold As;unfold Ak at ix ⊢;clear h1 h2 e1 e2 e3 hA An hk;go_enter Tryz.func164,Tryz.ntmps164
 go_upto_region 1 with fail
 generalize ((w.alloc (.cells #[.slice A m.pts.length c,.slice B m.eds.length d,.slice F m.nf g] 35)).alloc (.cells #[S (R p.x),S (R p.y)] 27)).alloc (.cells #[.slice none 0 0,.slice none 0 0,.slice none 0 0] 35)=V at *;obtain⟨bm,AD⟩:=Ajv w.heap.size;have CM:w.heap.size<=bm+1+1:=(by omega);rw [←AD]at hM hP h3 ⊢;clear AD;have k1:=Aa (o:=0) hM rfl;have j1:=Aa (o:=0) hP rfl;have j2:=Aa (o:=1) hP rfl;(go_wp2_with fail);(with_reducible refine ix.mono ?_);rintro e w1 ⟨rfl,hx1⟩;have Bt:=(hx1.block _ (Ajx hM)).trans hM;have hR1:=(hx1.block _ (Ajx h3)).trans h3;clear k1 j1 j2 hM hP h3 ix;have k1:=Aa (o:=0) Bt rfl;have k2:=Aa (o:=1) Bt rfl;have k3:=Aa (o:=2) Bt rfl;have r0:=Aa (o:=0) hR1 rfl;have r1:=Aa (o:=1) hR1 rfl;have r2:=Aa (o:=2) hR1 rfl;have r3:=Aj (o:=0) hR1;have r4:=Aj (o:=1) hR1;have r5:=Aj (o:=2) hR1;have hst:=Ck (.slice A m.pts.length c) (.slice B m.eds.length d) (.slice F m.nf g) hR1;have t1:=Aa (o:=0) hst rfl;have t2:=Aa (o:=1) hst rfl;have t3:=Aa (o:=2) hst rfl;have hX:=BI (hE.trans hx1) CM (.slice A m.pts.length c) (.slice B m.eds.length d) (.slice F m.nf g);have HX:=Ajw hX;clear hX hst Bt hR1;go_wp2;refine bodyPost_ret (v:=.tuple #[.agg #[.slice A m.pts.length c,.slice B m.eds.length d,.slice F m.nf g],.int .i64 (k:Nat)]) (by simp [results,Tryz.results164,go_sem,t1,t2,t3]) rfl ?_;exact⟨rfl,HX.out⟩
theorem aC(l:List Int)(z:Int)(A:Option Addr)(c:Nat)(w:World)(hr:Ae w A (zs l))(hc:l.length<=c)(hcm:c<=9223372036854775807) :
  Calls Tryz.prog 166 #[.slice A l.length c,.int .i64 z] w (AK (CU (fun y=>z == y) l) w):=by
 obtain⟨r,hr0⟩:=Ajv (CU (fun y=>z == y) l);rw [←hr0];have HR:=Ajw hr0;clear hr0;go_enter Tryz.func166,Tryz.ntmps166;go_wp2
 go_loopw [8] (fun i wr=>∃j:Nat,i=.int .i64 (j:Nat)/\j<=l.length/\(∀q∈l.take j,(z == q)=false)/\Ac w wr) (fun i _=>l.length-(intOf i).toNat)
 case atStart=>exact⟨0,rfl,by omega,by simp,Ac.refl _⟩
 case round=>
  obtain⟨j,rfl,hj,Ap,Ag⟩:=hrel;have HO:=Ajw Ap;clear Ap;by_cases hlt:j<l.length
  ·obtain⟨b,o,rfl,hc1⟩:=(hr.ext Ag).ad (by simp [zs];omega);have g1:=hc1 j (by simp [zs];exact hlt);have ge:(zs l)[j]'(by simp [zs];exact hlt)=.int .i64 l[j]:=(by simp [zs]);rw [ge]at g1;obtain⟨y,hy⟩:=Ajv (l[j]);rw [←hy]at g1;have HY:=Ajw hy;have hj0:(0:Int)<=(j:Int):=(by omega);have AP:(j:Int)<(l.length:Int):=(by omega);clear hy ge hc1
   cases e0:(z == y)
   ·have HE:=Ajw e0;go_wp2;go_roundw
    case rel=>
     refine⟨j+1,by go_num,hlt,?_,Ag⟩;intro x hx;rw [Aj2 hlt,←HY.out]at hx
     rcases List.mem_append.1 hx with h|h
     ·exact HO.out x h
     ·simp only [AjB]at h;rw [h];exact HE.out
    case measure=>simp [intOf];omega
   ·have Ee:r=(j:Int):=(by rw [HR.out];exact aA hlt HO.out (by rw [←HY.out];exact e0));subst Ee;go_wp2;go_ret;exact⟨rfl,Ag⟩
  ·have hle:(l.length:Int)<=(j:Int):=(by omega);have Ee:r = -1:=(by rw [HR.out];exact aB (by have:=HO.out;rw [Aj7 (by omega)]at this;exact this));subst Ee;go_wp2;go_ret;exact⟨rfl,Ag⟩
theorem vo(l:List Int)(z:Int)(A:Option Addr)(c:Nat)(w:World)(hr:Ae w A (zs l))(hc:l.length<=c)(hcm:c<=9223372036854775807) :
  Calls Tryz.prog 165 #[.slice A l.length c,.int .i64 z] w (By (l.any (fun y=>z == y)) w):=by
 have ix:=aC l z A c w hr hc hcm;have ha:=ZZ (fun y=>z == y) l;obtain⟨r,hr0⟩:=Ajv (l.any (fun y=>z == y));rw [←hr0]at ha ⊢;generalize CU (fun y=>z == y) l=n at *;have HA:=Ajw ha;clear hr0 ha hr;go_enter Tryz.func165,Tryz.ntmps165;(go_wp2_with fail);(with_reducible refine ix.mono ?_);rintro e w2 ⟨rfl,hx2⟩;go_wp2;go_ret;exact⟨by rw [←HA.out];rfl,hx2⟩
section
variable {ops : Array Oper} {rest : List Oper} {o : Oper} {a : Act} {Q : Exit → Act → World → Prop}
theorem pj(hgd:o.guard=none)(s x:Operand)(ho:o.op=.call {callee:=.builtin .append,args:=#[s,x],argTypes:=#[33,33]})
  (wN:World) (base:Nat) (v:Value) (n:Nat) (l:List Bs) (hs:a.eval s=v) (hown:wN.ownsRow base 9 1 v n (l.map S)) (hn:n<200000) (d:Bs)
  (g:Nat) (hb:wN.heap[g]?=some (.cells #[S d] 9)) (hx:a.eval x=.slice (some ⟨g,0,none⟩) 1 1) (hbase:base<=wN.heap.size)
  (h:∀v' w',w'.ownsRow base 9 1 v' (n+1) ((l ++ [d]).map S)→(∀w0,Ac w0 wN→w0.heap.size<=base→Ac w0 w')→wN.grownBy w' v.ownBlock→wpList Tryz.prog ops Q rest (a.put o.dst v') w') :
  wpList Tryz.prog ops Q (o::rest) a wN:=
 wpList_plain hgd fun _ hK=>ei s x ho wN base v n l hs hown hn d g hb hx hbase fun v' w' h1 h2 h3=>hK _ _ (h v' w' h1 h2 h3)
theorem ot(hgd:o.guard=none)(s x:Operand)(ho:o.op=.call {callee:=.builtin .append,args:=#[s,x],argTypes:=#[32,32]})
  (wN:World) (base:Nat) (v:Value) (n:Nat) (l:List EdZ) (hs:a.eval s=v) (hown:wN.ownsRow base 118 4 v n (Au l)) (hn:n<200000) (d:EdZ)
  (g:Nat) (hb:wN.heap[g]?=some (.cells #[.int .i64 d.f,.int .i64 d.t,.int .i64 d.l,.int .i64 d.r] 118)) (hx:a.eval x=.slice (some ⟨g,0,none⟩) 1 1) (hbase:base<=wN.heap.size)
  (h:∀v' w',w'.ownsRow base 118 4 v' (n+1) (Au (l ++ [d]))→(∀w0,Ac w0 wN→w0.heap.size<=base→Ac w0 w')→wN.grownBy w' v.ownBlock→wpList Tryz.prog ops Q rest (a.put o.dst v') w') :
  wpList Tryz.prog ops Q (o::rest) a wN:=by
 obtain⟨i0,hi,hz0,hz1,hz2⟩:=info_parts Tryz.infoEd;refine wpList_plain hgd fun _ hK=>Sy s x 32 ho 118 i0 _ 4 32 1 Tryz.underlying32 hi hz0 hz1 hz2 rfl (by omega) (by omega) (by omega) wN base v n _ hs hown hn g _ hb rfl ?_ hx hbase ?_
 ·intro u hu;simp only [List.mem_cons,AjA,or_false]at hu
  rcases hu with rfl|rfl|rfl|rfl<;>rfl
 ·intro v' w' h1 h2 h3;refine hK _ _ (h v' w' ?_ h2 h3);rw [show Au (l ++ [d])=Au l ++ [.int .i64 d.f,.int .i64 d.t,.int .i64 d.l,.int .i64 d.r] by simp [Au]];exact h1
end
def J7(u v fr:Int)(e:EdZ):EdZ:=if e.f=u/\e.t=v then ⟨e.f,e.t,fr,e.r⟩else if e.f=v/\e.t=u then ⟨e.f,e.t,e.l,fr⟩else e
def M3(l:List Int)(fr:Int)(E:List EdZ)(i0:Nat):Nat→List EdZ
 | 0=>E
 | k+1=>(M3 l fr E i0 k).map (J7 (l.getD ((i0+k) % l.length) 0) (l.getD ((i0+k+1) % l.length) 0) fr)
theorem xB(l:List Int)(fr:Int)(E:List EdZ)(i0:Nat):∀k,(M3 l fr E i0 k).length=E.length
 | 0=>rfl
 | k+1=>by rw [M3,List.length_map];exact xB l fr E i0 k
structure EU(w0 wM:World)(B:Nat)(wr:World)(bm be bR:Nat)(A Al:Option Addr)(c cl:Nat)(E F:Value)(pts:List Pt)(eds:List EdZ)(fa:List Bs)(l:List Int)(e0 e1:Int):Prop where
 cM:wr.heap[bm]?=some (.cells #[.slice A pts.length c,E,F] 35)
 cE:wr.heap[be]?=some (.cells #[.int .i64 e0,.int .i64 e1] 228)
 cR:wr.heap[bR]?=some (.cells #[.slice none 0 0,.slice none 0 0,.slice none 0 0] 35)
 pts:wr.ownsRow B 27 2 (.slice A pts.length c) pts.length (flat (Ai pts))
 eds:wr.ownsRow B 118 4 E eds.length (Au eds)
 fac:wr.ownsRow B 9 1 F fa.length (fa.map S)
 lst:wr.ownsRow 0 3 1 (.slice Al l.length cl) l.length (zs l)
 ext:Ac w0 wr
 szB:w0.heap.size<=B
 szb:w0.heap.size<=bm/\w0.heap.size<=bR/\bm≠bR/\B<=wr.heap.size
 szm:wM.heap.size<=bm/\wM.heap.size<=bR
 mp:∀(j:Nat) (cs:Array Value),wM.heap[j]?=some (.cells cs 35)→wr.heap[j]?=some (.cells cs 35)
theorem EU.grow{w0 wM:World}{B:Nat}{wr w':World}{bm be bR:Nat}{A Al:Option Addr}{c cl:Nat}{E F:Value}{pts:List Pt}{eds:List EdZ}{fa:List Bs}{l:List Int}{e0 e1:Int}(h:EU w0 wM B wr bm be bR A Al c cl E F pts eds fa l e0 e1)(hx:Ac wr w'):EU w0 wM B w' bm be bR A Al c cl E F pts eds fa l e0 e1:=
 ⟨(hx.block _ (Ajx h.cM)).trans h.cM,(hx.block _ (Ajx h.cE)).trans h.cE,(hx.block _ (Ajx h.cR)).trans h.cR,A9 h.pts hx,A9 h.eds hx,A9 h.fac hx,A9 h.lst hx,h.ext.trans hx,h.szB,⟨h.szb.1,h.szb.2.1,h.szb.2.2.1,Aj9 h.szb.2.2.2 hx.size⟩,h.szm,fun j cs hj=>(hx.block _ (Ajx (h.mp j cs hj))).trans (h.mp j cs hj)⟩
theorem lI:∀(l:List EdZ) (k:Nat) (z:Int),k<l.length→(Au l).set (k*4+2) (.int .i64 z)=Au (l.set k ⟨(l.getD k ⟨0,0,0,0⟩).f,(l.getD k ⟨0,0,0,0⟩).t,z,(l.getD k ⟨0,0,0,0⟩).r⟩)
 | [],_,_,h=>by simp at h
 | e::l,0,z,_=>rfl
 | e::l,k+1,z,h=>by
  have ih:=lI l k z (by simpa using h);have e0:Au (e::l)=.int .i64 e.f :: .int .i64 e.t :: .int .i64 e.l :: .int .i64 e.r::Au l:=rfl;have e1:(k+1)*4+2=k*4+2+1+1+1+1:=(by omega);rw [e0,e1];simp only [List.set_cons_succ,ih,List.getD_cons_succ]
  rfl
theorem lJ:∀(l:List EdZ) (k:Nat) (z:Int),k<l.length→(Au l).set (k*4+3) (.int .i64 z)=Au (l.set k ⟨(l.getD k ⟨0,0,0,0⟩).f,(l.getD k ⟨0,0,0,0⟩).t,(l.getD k ⟨0,0,0,0⟩).l,z⟩)
 | [],_,_,h=>by simp at h
 | e::l,0,z,_=>rfl
 | e::l,k+1,z,h=>by
  have ih:=lJ l k z (by simpa using h);have e0:Au (e::l)=.int .i64 e.f :: .int .i64 e.t :: .int .i64 e.l :: .int .i64 e.r::Au l:=rfl;have e1:(k+1)*4+3=k*4+3+1+1+1+1:=(by omega);rw [e0,e1];simp only [List.set_cons_succ,ih,List.getD_cons_succ]
  rfl
theorem EU.cell{w0 wM:World}{B:Nat}{wr:World}{bm be bR:Nat}{A Al:Option Addr}{c cl:Nat}{F:Value}{pts:List Pt}{eds eds':List EdZ}{fa:List Bs}{l:List Int}{e0 e1:Int}{g n d:Nat}(h:EU w0 wM B wr bm be bR A Al c cl (.slice (some ⟨g,0,none⟩) n d) F pts eds fa l e0 e1)(hn:n=eds.length)
  (k:Nat) (z:Int) (he:(Au eds).set k (.int .i64 z)=Au eds') (hl:eds'.length=eds.length):EU w0 wM B (wr.setCell ⟨g,k,none⟩ (.int .i64 z)) bm be bR A Al c cl (.slice (some ⟨g,0,none⟩) n d) F pts eds' fa l e0 e1:=by
 subst hn;have hge:=h.eds
 have hg:∃cur,wr.heap[g]?=some (.cells cur 118 (0,0)):=by
  rcases hge.2 with⟨h',_⟩|⟨g',cap,cur,h',_,hgb,_⟩
  ·cases h'
  ·simp only [Value.slice.injEq,Aj3,Addr.mk.injEq,and_true]at h';obtain⟨⟨rfl⟩,-⟩:=h';exact⟨cur,hgb⟩
 obtain⟨cur,hg⟩:=hg;have hst:=(hge.stored k (.int .i64 z)).1;rw [he]at hst;have bb:=(Ax.refl (fun q=>q=g) wr).setCell (p:=⟨g,k,none⟩) (.inl rfl) (.int .i64 z);have kp:∀{e:TypeId} {s m:Nat} {v:Value} {xs:List Value} {B':Nat},wr.ownsRow B' e s v m xs→e≠118→(wr.setCell ⟨g,k,none⟩ (.int .i64 z)).ownsRow B' e s v m xs:=fun hv hne=>Bw hv bb (fun q hq e=>by subst e;exact Bo hv hg hne hq)
 have far:∀{j:Nat} {cs:Array Value} {t:TypeId},wr.heap[j]?=some (.cells cs t)→t≠118→(wr.setCell ⟨g,k,none⟩ (.int .i64 z)).heap[j]?=some (.cells cs t):=fun hj hne=>by rw [B7 (by exact Ct hj hg hne)];exact hj
 have hB:B<=g:=(hge.lt g rfl).1;refine⟨far h.cM (by decide),far h.cE (by decide),far h.cR (by decide),kp h.pts (by decide),by rw [hl];exact hst,kp h.fac (by decide),kp h.lst (by decide),h.ext.setCell (p:=⟨g,k,none⟩) (Aj9 h.szB hB) _,h.szB,⟨h.szb.1,h.szb.2.1,h.szb.2.2.1,Aj9 h.szb.2.2.2 bb.size⟩,h.szm,fun j cs hj=>far (h.mp j cs hj) (by decide)⟩
theorem M8(w:World)(o1 o2 o3:Obj):(((w.alloc o1).alloc o2).alloc o3).heap[w.heap.size]?=some o1/\(((w.alloc o1).alloc o2).alloc o3).heap[w.heap.size+1]?=some o2/\(((w.alloc o1).alloc o2).alloc o3).heap[w.heap.size+1+1]?=some o3/\Ac w (((w.alloc o1).alloc o2).alloc o3):=by
 have h1:=Ajy w o1;have h2:=Ajy (w.alloc o1) o2;have h3:=Ajy ((w.alloc o1).alloc o2) o3;rw [Aj6]at h2;rw [Aj6,Aj6]at h3;have e1:=(Ac.refl w).alloc o1;have e2:=(Ac.refl (w.alloc o1)).alloc o2;have e3:=(Ac.refl ((w.alloc o1).alloc o2)).alloc o3;exact⟨((e2.trans e3).block _ (Ajx h1)).trans h1,(e3.block _ (Ajx h2)).trans h2,h3,e1.trans (e2.trans e3)⟩
theorem Kb{w w':World}{B B':Nat}{e e':TypeId}{s s' n n':Nat}{v v':Value}{xs xs':List Value}(hg:w.grownBy w' v.ownBlock)(hv:w.ownsRow B e s v n xs)(hu:w.ownsRow B' e' s' v' n' xs')(hne:e'≠e):w'.ownsRow B' e' s' v' n' xs':=by
 refine hu.kept hg ?_
 cases hb:v.ownBlock with
 | none=>
  cases hb':v'.ownBlock with
  | none=>exact .inl rfl
  | some k=>exact .inr (by simp)
 | some k=>
  refine .inr (fun e0=>?_)
  rcases hv.2 with⟨h',_⟩|⟨g,cap,cur,h',_,hgb,_⟩
  ·rw [h']at hb;cases hb
  ·rw [h']at hb;simp only [Value.ownBlock,Aj3]at hb;subst hb;exact Bo hu hgb hne e0
theorem En{w w':World}{B:Nat}{e:TypeId}{s n:Nat}{v:Value}{xs:List Value}(hg:w.grownBy w' v.ownBlock)(hv:w.ownsRow B e s v n xs){j:Nat}{cs:Array Value}{t:TypeId}(hj:w.heap[j]?=some (.cells cs t))(hne:e≠t):w'.heap[j]?=some (.cells cs t):=
 (hg.block j (Ajx hj) (fun e0=>Bo hv hj hne e0.symm)).trans hj
theorem iZ{w:World}{b:Nat}{a0 a1 a2:Value}{t:TypeId}(v:Value)(h:w.heap[b]?=some (.cells #[a0,a1,a2] t)):(w.setCell ⟨b,1,none⟩ v).heap[b]?=some (.cells #[a0,v,a2] t):=by
 simp only [World.setCell,Array.getElem?_modify,h];simp
section
variable {w0 wM : World} {B : Nat} {wr w' : World} {bm be bR : Nat} {A Al : Option Addr} {c cl : Nat} {E F F' E' : Value} {pts : List Pt} {eds eds' : List EdZ} {fa fa' : List Bs} {l : List Int} {e0 e1 : Int}
theorem EU.faces(h:EU w0 wM B wr bm be bR A Al c cl E F pts eds fa l e0 e1)(hg:wr.grownBy w' F.ownBlock)(ho:w'.ownsRow B 9 1 F' fa'.length (fa'.map S)) :
  w'.heap[bm]?=some (.cells #[.slice A pts.length c,E,F] 35)/\EU w0 wM B (w'.setCell ⟨bm,2,none⟩ F') bm be bR A Al c cl E F' pts eds fa' l e0 e1:=by
 have hM:=En hg h.fac h.cM (by decide);have bb:=(Ax.refl (fun q=>q=bm) w').setCell (p:=⟨bm,2,none⟩) (.inl rfl) F'
 have kp:∀{e:TypeId} {s m:Nat} {v:Value} {xs:List Value} {B':Nat},wr.ownsRow B' e s v m xs→e≠9→e≠35→(w'.setCell ⟨bm,2,none⟩ F').ownsRow B' e s v m xs:=fun hv h1 h2=>by have hv':=Kb hg h.fac hv h1;exact Bw hv' bb (fun q hq e=>by subst e;exact Bo hv' hM h2 hq)
 have hE:=En hg h.fac h.cE (by decide);have hR:=En hg h.fac h.cR (by decide);have hX:Ac w0 w':=h.ext.grown hg (fun k hk=>Aj9 h.szB (h.fac.lt k hk).1);refine⟨hM,⟨jA F' hM,?_,?_,kp h.pts (by decide) (by decide),kp h.eds (by decide) (by decide),?_,kp h.lst (by decide) (by decide),hX.setCell (p:=⟨bm,2,none⟩) h.szb.1 F',h.szB,⟨h.szb.1,h.szb.2.1,h.szb.2.2.1,Aj9 h.szb.2.2.2 (Aj9 hg.size bb.size)⟩,h.szm,fun j cs hj=>by rw [B7 (by exact fun e=>by have h1:=h.szm.1;have h2:=Ajx hj;dsimp only at e;omega)];exact En hg h.fac (h.mp j cs hj) (by decide)⟩⟩
 ·rw [B7 (by exact Ct hE hM (by decide))];exact hE
 ·rw [B7 (by exact fun e=>h.szb.2.2.1 e.symm)];exact hR
 ·exact Bw ho bb (fun q hq e=>by subst e;exact Bo ho hM (by decide) hq)
theorem EU.edges(h:EU w0 wM B wr bm be bR A Al c cl E F pts eds fa l e0 e1)(hg:wr.grownBy w' E.ownBlock)(ho:w'.ownsRow B 118 4 E' eds'.length (Au eds')) :
  w'.heap[bm]?=some (.cells #[.slice A pts.length c,E,F] 35)/\EU w0 wM B (w'.setCell ⟨bm,1,none⟩ E') bm be bR A Al c cl E' F pts eds' fa l e0 e1:=by
 have hM:=En hg h.eds h.cM (by decide);have bb:=(Ax.refl (fun q=>q=bm) w').setCell (p:=⟨bm,1,none⟩) (.inl rfl) E'
 have kp:∀{e:TypeId} {s m:Nat} {v:Value} {xs:List Value} {B':Nat},wr.ownsRow B' e s v m xs→e≠118→e≠35→(w'.setCell ⟨bm,1,none⟩ E').ownsRow B' e s v m xs:=fun hv h1 h2=>by have hv':=Kb hg h.eds hv h1;exact Bw hv' bb (fun q hq e=>by subst e;exact Bo hv' hM h2 hq)
 have hE:=En hg h.eds h.cE (by decide);have hR:=En hg h.eds h.cR (by decide);have hX:Ac w0 w':=h.ext.grown hg (fun k hk=>Aj9 h.szB (h.eds.lt k hk).1);refine⟨hM,⟨iZ E' hM,?_,?_,kp h.pts (by decide) (by decide),?_,kp h.fac (by decide) (by decide),kp h.lst (by decide) (by decide),hX.setCell (p:=⟨bm,1,none⟩) h.szb.1 E',h.szB,⟨h.szb.1,h.szb.2.1,h.szb.2.2.1,Aj9 h.szb.2.2.2 (Aj9 hg.size bb.size)⟩,h.szm,fun j cs hj=>by rw [B7 (by exact fun e=>by have h1:=h.szm.1;have h2:=Ajx hj;dsimp only at e;omega)];exact En hg h.eds (h.mp j cs hj) (by decide)⟩⟩
 ·rw [B7 (by exact Ct hE hM (by decide))];exact hE
 ·rw [B7 (by exact fun e=>h.szb.2.2.1 e.symm)];exact hR
 ·exact Bw ho bb (fun q hq e=>by subst e;exact Bo ho hM (by decide) hq)
end
def DI(U V fr:Int)(E:List EdZ)(k:Nat):List EdZ:=(E.take k).map (J7 U V fr)++E.drop k
theorem Iv(U V fr:Int)(E:List EdZ)(k:Nat):(DI U V fr E k).length=E.length:=by
 unfold DI;rw [List.length_append,List.length_map,List.length_take,List.length_drop];omega
theorem kP{U V fr:Int}{E:List EdZ}{k:Nat}(hk:k<E.length):(DI U V fr E k)[k]?=some E[k]:=by
 unfold DI;rw [List.getElem?_append_right (by rw [List.length_map,List.length_take];omega),List.length_map,List.length_take,Nat.min_eq_left (by omega),Nat.sub_self,List.getElem?_drop];simp [hk]
theorem kQ{U V fr:Int}{E:List EdZ}{k:Nat}(hk:k<E.length):DI U V fr E (k+1)=(DI U V fr E k).set k (J7 U V fr E[k]):=by
 have h1:((E.take k).map (J7 U V fr)).length=k:=(by rw [List.length_map,List.length_take];omega);unfold DI;rw [Aj2 hk,List.map_append,List.append_assoc,List.set_append_right _ _ (by omega),h1,Nat.sub_self,List.drop_eq_getElem_cons hk]
 rfl
theorem vv{U V fr:Int}{E:List EdZ}{k:Nat}(hk:k<E.length)(h:J7 U V fr E[k]=E[k]):DI U V fr E (k+1)=DI U V fr E k:=by
 rw [kQ hk,h];have h2:=kP (U:=U) (V:=V) (fr:=fr) hk;obtain⟨h3,h4⟩:=List.getElem?_eq_some_iff.1 h2;rw [←h4,List.set_getElem_self]
theorem vu(U V fr:Int)(E:List EdZ):DI U V fr E E.length=E.map (J7 U V fr):=by
 unfold DI;rw [List.take_length,List.drop_length,List.append_nil]
theorem JW{w:World}{b j:Nat}(hne:b≠j)(x y z:Value):(((w.setCell ⟨b,0,none⟩ x).setCell ⟨b,1,none⟩ y).setCell ⟨b,2,none⟩ z).heap[j]?=w.heap[j]?:=by
 rw [B7 (by exact hne.symm),B7 (by exact hne.symm),B7 (by exact hne.symm)]
def Si(m:MapZ)(l:List Int)(f e0 e1:Int)(i0 N:Nat):MapZ:=⟨m.pts,M3 l (m.nf:Int) m.eds i0 (N-i0) ++ [⟨e0,e1,(m.nf:Int),f⟩],m.nf+1⟩
theorem Ae6(m:MapZ)(fa:List Bs)(l:List Int)(f e0 e1:Int)(u:Bs)(i0 N:Nat)(Bn:m.nf=fa.length)(h1:CU (fun y=>e1 == y) l=(i0:Int))(hN:i0<=N)(Gg:N<=1000)(hend:l.getD (N%l.length) 0=e0)(hrun:∀i,i0<=i→i<N→l.getD (i%l.length) 0≠e0)
  (hck:El (Si m l f e0 e1 i0 N)=0) (hgr:∀p∈m.pts,Cz p) (hel:m.eds.length<=1000) (GR:0<m.eds.length) (CN:fa.length<=1000) (Ed:l.length<=1000) (hl0:0<l.length) (A Bk F Al:Option Addr) (c d g cl:Nat) {B:Nat} {w0 w:World} (hw:Ao w0) (hx:Ac w0 w) (hB0:w0.heap.size<=B) (Ke:B<=w.heap.size)
  (hm:BY B w A Bk F c d g m fa) (hl:w.ownsRow 0 3 1 (.slice Al l.length cl) l.length (zs l)) :
  Calls Tryz.prog 167 #[As A Bk F m c d g,.int .i64 f,.slice Al l.length cl,.agg #[.int .i64 e0,.int .i64 e1],S u] w
   (fun e w'=>∃A' B' F' c' d' g',e=.returned (.tuple #[As A' B' F' (Si m l f e0 e1 i0 N) c' d' g',.int .i64 0])/\BY B w' A' B' F' c' d' g' (Si m l f e0 e1 i0 N) (fa ++ [u])/\Ac w0 w'/\∀(j:Nat) (cs:Array Value),w.heap[j]?=some (.cells cs 35)→w'.heap[j]?=some (.cells cs 35)):=by
 obtain⟨hM,hE,hR,hX⟩:=M8 w (.cells #[.slice A m.pts.length c,.slice Bk m.eds.length d,.slice F m.nf g] 35) (.cells #[.int .i64 e0,.int .i64 e1] 228) (.cells #[.slice none 0 0,.slice none 0 0,.slice none 0 0] 35)
 have Gj:EU w0 w B (((w.alloc (.cells #[.slice A m.pts.length c,.slice Bk m.eds.length d,.slice F m.nf g] 35)).alloc (.cells #[.int .i64 e0,.int .i64 e1] 228)).alloc (.cells #[.slice none 0 0,.slice none 0 0,.slice none 0 0] 35)) w.heap.size (w.heap.size+1) (w.heap.size+1+1) A Al c cl (.slice Bk m.eds.length d) (.slice F m.nf g) m.pts m.eds fa l e0 e1:=by refine⟨hM,hE,hR,A9 hm.pts hX,A9 hm.eds hX,?_,A9 hl hX,hx.trans hX,hB0,⟨by have:=hx.size;omega,by have:=hx.size;omega,by omega,Aj9 Ke hX.size⟩,⟨Ajz _,by omega⟩,fun j cs hj=>(hX.block _ (Ajx hj)).trans hj⟩;have:=A9 hm.fac hX;rw [Bn]at this ⊢;exact this
 obtain⟨gE,rfl⟩:∃gE,Bk=some ⟨gE,0,none⟩:=by
  obtain⟨gE,e⟩:∃gE,Bk=some ⟨gE,0,none⟩:=by
   rcases hm.eds.2 with⟨h',_⟩|⟨g',cap,cur,h',_⟩
   ·simp only [Value.slice.injEq]at h';omega
   ·simp only [Value.slice.injEq]at h';exact⟨g',h'.1⟩
  exact⟨gE,e⟩
 obtain⟨gL,rfl⟩:∃gL,Al=some ⟨gL,0,none⟩:=by
  rcases hl.2 with⟨h',_⟩|⟨g',cap,cur,h',_⟩
  ·simp only [Value.slice.injEq]at h';omega
  ·simp only [Value.slice.injEq]at h';exact⟨g',h'.1⟩
 have hXX:=hx.trans hX;have ix:=aC l e1;rw [h1]at ix;have HN:=Ajw Bn;have gw:=Ajw hend;have PQ:=Ajw hrun;have fx:=Ajw hck;have SK:=Ajw hgr;have iu:=Ajw ix;obtain⟨nf,Zu⟩:=Ajv m.nf;have Ai8:nf<=1000:=(by omega);have jn:=Ajw Zu;unfold As;rw [←Zu]at Gj ⊢;clear hm hl hM hE hR hX Bn hend hrun hck hgr h1 ix Zu;go_enter Tryz.func167,Tryz.ntmps167
 go_upto_region 1 with fail
 generalize ((w.alloc (.cells #[.slice A m.pts.length c,.slice (some ⟨gE,0,none⟩) m.eds.length d,.slice F nf g] 35)).alloc (.cells #[.int .i64 e0,.int .i64 e1] 228)).alloc (.cells #[.slice none 0 0,.slice none 0 0,.slice none 0 0] 35)=V at *;obtain⟨bm,AD⟩:=Ajv w.heap.size;rw [←AD]at Gj ⊢;clear AD hx Ke;have k0:V.cell? ⟨bm,2,none⟩=some (.slice F nf g):=Aa Gj.cM rfl;have XE:=Gj.szb.2.2.2;have G8:=Ajw Gj;clear Gj
 go_wp2_with (at_builtin;go_loud (refine pj rfl _ _ rfl _ B (.slice F nf g) fa.length fa rfl (A9 G8.out.fac ((Ac.refl V).alloc _)) (by omega) u V.heap.size (Ajy V _) rfl (Aj9 XE ((Ac.refl V).alloc _).size) ?_);intro v9 w9 BS YP CO;obtain⟨oF,cF,rfl,-,-,-⟩:=Ae.of_own' (by omega) BS;obtain⟨FH,QI⟩:=(G8.out.grow ((Ac.refl V).alloc _)).faces CO (fa':=fa ++ [u]) (by rw [List.length_append];exact BS);have j0:w9.cell? ⟨bm,2,none⟩=some (.slice F nf g):=Aa FH rfl;have j1:=Aj (o:=2) FH;have j2:w9.cell? ⟨bm+1,1,none⟩=some (.int .i64 e1):=Aa (En CO (G8.out.grow ((Ac.refl V).alloc _)).fac (G8.out.grow ((Ac.refl V).alloc _)).cE (by decide)) rfl)
 have DC:=Ajw QI;clear QI CO BS YP FH k0;generalize w9.setCell ⟨bm,2,none⟩ (.slice oF (fa.length+1) cF)=W9 at *;clear j0 j1 j2
 have hrl:∀(E:Value) (eds:List EdZ) (W:World),EU w0 w B W bm (bm+1) (bm+1+1) A (some ⟨gL,0,none⟩) c cl E (.slice oF (fa.length+1) cF) m.pts eds (fa ++ [u]) l e0 e1→Ae W (some ⟨gL,0,none⟩) (zs l)/\l.length<=cl/\cl<=9223372036854775807:=by intro E eds W h;obtain⟨A1,c1,e,r,s,t⟩:=Ae.of_own' (by omega) h.lst;simp only [Value.slice.injEq,true_and]at e;obtain⟨rfl,rfl⟩:=e;exact⟨r,s,t⟩
 have JH:=Ajw hrl;clear hrl;obtain⟨r1,r2,r3⟩:=JH.out _ _ _ DC.out;have ix:=iu.out (some ⟨gL,0,none⟩) cl W9 r1 r2 r3;clear r1;(with_reducible refine ix.mono ?_);rintro e Ly ⟨rfl,hx10⟩;have fG:=Ajw (DC.out.grow hx10);clear ix hx10 DC G8;obtain⟨fr,hfr⟩:=Ajv ((nf:Int):Int);rw [←hfr];have VN:=Ajw hfr;clear hfr;obtain⟨n,hn⟩:=Ajv l.length;rw [←hn]at hl0 Ed r2 ⊢;have MH:=Ajw hn;clear hn;obtain⟨ne,hne⟩:=Ajv m.eds.length;rw [←hne]at hel GR ⊢;have eZ:=Ajw hne;clear hne
 go_upto_region 4 with fail
 go_loopw [13] (fun iv wr=>∃i:Nat,iv=.int .i64 (i:Nat)/\i0<=i/\i<=N/\EU w0 w B wr bm (bm+1) (bm+1+1) A (some ⟨gL,0,none⟩) c cl (.slice (some ⟨gE,0,none⟩) ne d) (.slice oF (fa.length+1) cF) m.pts (M3 l fr m.eds i0 (i-i0)) (fa ++ [u]) l e0 e1) (fun iv _=>N-(intOf iv).toNat)
 case atStart=>exact⟨i0,rfl,Ajz _,hN,by rw [Nat.sub_self,eZ.out];exact fG.out⟩
 case round=>
  obtain⟨i,rfl,Jp,hiN,hP⟩:=hrel;have HP:=Ajw hP;clear hP;obtain⟨Ei,TQ⟩:=Ajv (M3 l fr m.eds i0 (i-i0));rw [←TQ]at HP;have Dc:Ei.length=ne:=(by rw [TQ,xB,eZ.out]);have eL:=Ajw TQ;clear TQ;obtain⟨k,hk⟩:=Ajv (i%n);obtain⟨q,hq⟩:=Ajv ((i+1)%n);have CB:k<n:=(by rw [hk];exact Nat.mod_lt _ hl0);have K7:q<n:=by rw [hq];exact Nat.mod_lt _ hl0
  have Mg:((i:Int)).tmod (n:Int)=(k:Int):=by rw [Int.tmod_eq_emod_of_nonneg (by omega),hk,Int.natCast_emod]
  have rH:((i:Int))%(n:Int)=(k:Int):=by rw [hk,Int.natCast_emod]
  have hqi:((i:Int)+1).tmod (n:Int)=(q:Int):=by rw [Int.tmod_eq_emod_of_nonneg (by omega),hq,Int.natCast_emod];rfl
  have AiF:((i:Int)+1)%(n:Int)=(q:Int):=(by rw [hq,Int.natCast_emod];rfl);have D6:¬((n:Int)=0):=(by omega);have GV:¬(n=0):=(by omega);have BM:((n:Int) == 0)=false:=beq_false_of_ne D6;have OG:IntKind.wrap .i64 (k:Int)=(k:Int):=Aj5 _ (by omega);have sS:IntKind.wrap .i64 (q:Int)=(q:Int):=Aj5 _ (by omega);have hiw:IntKind.wrap .i64 ((i:Int)+1)=(i:Int)+1:=Aj5 _ (by omega);have k0':(0:Int)<=(k:Int):=(by omega);have k1':(k:Int)<(n:Int):=(by omega);have q0':(0:Int)<=(q:Int):=(by omega);have q1':(q:Int)<(n:Int):=(by omega);obtain⟨x,ZT⟩:=Ajv (l.getD k 0);obtain⟨y,ZV⟩:=Ajv (l.getD q 0)
  have ck:wr.cell? ⟨gL,k,none⟩=some (.int .i64 x):=by rw [HP.out.lst.cellAt k (by have:=MH.out;omega),ZT];simp [zs,List.getD_eq_getElem?_getD,Aj4 (show k<l.length by rw [←MH.out];exact CB)]
  have cq:wr.cell? ⟨gL,q,none⟩=some (.int .i64 y):=by rw [HP.out.lst.cellAt q (by have:=MH.out;omega),ZV];simp [zs,List.getD_eq_getElem?_getD,Aj4 (show q<l.length by rw [←MH.out];exact K7)]
  have c0:wr.cell? ⟨bm+1,0,none⟩=some (.int .i64 e0):=Aa HP.out.cE rfl;have c1:wr.cell? ⟨bm+1,1,none⟩=some (.int .i64 e1):=Aa HP.out.cE rfl;have DX:=Ajw (And.intro ZT (And.intro ZV (And.intro hk hq)));clear ZT ZV hk hq;have f1:∀z:Af wr,z.w.cell? ⟨gL,k,none⟩=some (.int .i64 x):=Af.cell ck;have f2:∀z:Af wr,z.w.cell? ⟨bm+1,0,none⟩=some (.int .i64 e0):=Af.cell c0;by_cases Gy:x=e0
  ·have rC:i=N:=by refine Classical.byContradiction fun hne=>?_;refine PQ.out i Jp (by omega) ?_;rw [←MH.out,←DX.out.2.2.1,←DX.out.1];exact Gy
   subst rC;have hxb:(x != e0)=false:=(by rw [Gy];simp);clear Gy
   go_upto_region 4 with fail
   refine CW (by kernel_rfl) (by kernel_rfl) ?_
   repeat (go_big_quiet_step (fail))
   refine wpQuiet_nil ?_;rintro W4 ⟨z,hz⟩;have Aq:Ac wr W4:=hz▸z.h;clear hz z f1 f2 ck cq c0 c1;have EP:=Ajw (HP.out.grow Aq);clear Aq HP fG;obtain⟨M',LJ⟩:=Ajv (Si m l f e0 e1 i0 i)
   have Ya:Ei ++ [⟨e0,e1,fr,f⟩]=M'.eds:=by rw [LJ,eL.out,VN.out,jn.out];rfl
   have Jh:M'.pts=m.pts:=(by rw [LJ];rfl);have nR:M'.nf=fa.length+1:=(by rw [LJ];show m.nf+1=_;rw [HN.out]);have nQ:M'.eds.length=ne+1:=(by rw [←Ya,List.length_append,Dc];rfl);have qF:El M'=0:=(by rw [LJ];exact fx.out);have qY:∀p∈M'.pts,Cz p:=(by rw [Jh];exact SK.out);have HM:=Ajw (And.intro LJ (And.intro Ya (And.intro Jh (And.intro nR (And.intro nQ (And.intro qF qY))))));clear LJ Ya Jh nR nQ qF qY;have k0:W4.cell? ⟨bm,1,none⟩=some (.slice (some ⟨gE,0,none⟩) ne d):=Aa EP.out.cM rfl;have k1:W4.cell? ⟨bm+1,0,none⟩=some (.int .i64 e0):=Aa EP.out.cE rfl;have k2:W4.cell? ⟨bm+1,1,none⟩=some (.int .i64 e1):=Aa EP.out.cE rfl;have Je:=EP.out.eds;rw [Dc]at Je;have gy:=Ajw Je;clear Je
   go_wp2_with (at_builtin;go_loud (refine ot rfl _ _ rfl _ B (.slice (some ⟨gE,0,none⟩) ne d) ne Ei rfl (A9 gy.out ((Ac.refl W4).alloc _)) (by omega) ⟨e0,e1,fr,f⟩ W4.heap.size (Ajy W4 _) rfl (Aj9 EP.out.szb.2.2.2 ((Ac.refl W4).alloc _).size) ?_);intro v9 w9 BS YP CO;obtain⟨oE,cE,rfl,-,-,-⟩:=Ae.of_own' (by omega) BS;obtain⟨FH,QI⟩:=(EP.out.grow ((Ac.refl W4).alloc _)).edges CO (eds':=Ei ++ [⟨e0,e1,fr,f⟩]) (by rw [List.length_append,Dc];exact BS);have DC:=Ajw QI;have j0:w9.cell? ⟨bm,1,none⟩=some (.slice (some ⟨gE,0,none⟩) ne d):=Aa FH rfl;have j1:=Aj (o:=1) FH;clear QI CO BS YP FH k0 k1 k2)
   generalize w9.setCell ⟨bm,1,none⟩ (.slice oE (ne+1) cE)=V at *;clear j0 j1;have hM:=DC.out.cM;have hR:=DC.out.cR;have hRn:=DC.out.szb.2.2.1
   have pc:∀W,Ac V W→Calls Tryz.prog 48 #[.agg #[.slice A m.pts.length c,.slice oE (ne+1) cE,.slice oF (fa.length+1) cF]] W (AK 0 W):=by intro W hx;obtain⟨A1,c1,q1,r1,s1,t1⟩:=Ae.of_own' (by omega) (A9 DC.out.pts hx);obtain⟨A3,c3,q3,r3,s3,t3⟩:=Ae.of_own' (by omega) (A9 DC.out.fac hx);obtain⟨A2,c2,q2,r2,s2,t2⟩:=Ae.of_own' (by omega) (A9 DC.out.eds hx);rw [HM.out.2.1]at r2 q2 s2;rw [HM.out.2.2.2.2.1]at q2 s2;rw [List.length_append]at q3 s3;simp only [List.length_cons,List.length_nil,Nat.zero_add,Value.slice.injEq,true_and]at q1 q2 q3 s3;obtain⟨rfl,rfl⟩:=q1;obtain⟨rfl,rfl⟩:=q2;obtain⟨rfl,rfl⟩:=q3;have hc:=M4 M' HM.out.2.2.2.2.2.2 A oE oF c cE cF ⟨by rw [HM.out.2.2.1];exact s1,t1,by rw [HM.out.2.2.2.2.1];exact s2,t2,by rw [HM.out.2.2.2.1];exact s3,t3⟩ W (hw.ext (DC.out.ext.trans hx)) (by rw [HM.out.2.2.1];exact r1) r2;unfold As at hc;rw [HM.out.2.2.1,HM.out.2.2.2.1,HM.out.2.2.2.2.1,HM.out.2.2.2.2.2.1]at hc;exact hc
   have k1:V.cell? ⟨bm,0,none⟩=some (.slice A m.pts.length c):=Aa hM rfl;have k2:V.cell? ⟨bm,1,none⟩=some (.slice oE (ne+1) cE):=Aa hM rfl;have k3:V.cell? ⟨bm,2,none⟩=some (.slice oF (fa.length+1) cF):=Aa hM rfl;have X:Ac V V:=Ac.refl V;have SO:=fun (w':World) (h:Ac V w')=>(⟨h.cellS k1,h.cellS k2,h.cellS k3⟩:_/\_/\_)
   go_region_held3 (fun w'=>w'.cell? ⟨bm,0,none⟩=some (.slice A m.pts.length c)/\w'.cell? ⟨bm,1,none⟩=some (.slice oE (ne+1) cE)/\w'.cell? ⟨bm,2,none⟩=some (.slice oF (fa.length+1) cF))
    (first|exact SS|with_reducible exact SO _ X|with_reducible exact SO _ X.drew)
    (first|((with_reducible refine(pc _ (by first|exact X|exact X.drew)).mono ?_);rintro e w3 ⟨rfl,xp⟩;replace X:Ac V w3:=(by first|exact X.trans xp|exact X.drew.trans xp);have SS:=(⟨(FD (show bm≠bm+1+1 by omega) (.slice A m.pts.length c) (.slice oE (ne+1) cE) (.slice oF (fa.length+1) cF) 0).trans (X.cellS k1),(FD (show bm≠bm+1+1 by omega) (.slice A m.pts.length c) (.slice oE (ne+1) cE) (.slice oF (fa.length+1) cF) 1).trans (X.cellS k2),(FD (show bm≠bm+1+1 by omega) (.slice A m.pts.length c) (.slice oE (ne+1) cE) (.slice oF (fa.length+1) cF) 2).trans (X.cellS k3)⟩:_/\_/\_);have AA:=(X.block _ (Ajx hR)).trans hR;have g0:=Aa (o:=0) AA rfl;have g1:=Aa (o:=1) AA rfl;have g2:=Aa (o:=2) AA rfl;have Gd:=Aj (o:=0) AA;have g4:=Aj (o:=1) AA;have g5:=Aj (o:=2) AA))
   have Lp:=Ajw (DC.out.grow X);have A7:=Ck (.slice A m.pts.length c) (.slice oE (ne+1) cE) (.slice oF (fa.length+1) cF) AA;have t1:=Aa (o:=0) A7 rfl;have t2:=Aa (o:=1) A7 rfl;have t3:=Aa (o:=2) A7 rfl;have z1:=Ds Lp.out.pts AA (by decide) (.slice A m.pts.length c) (.slice oE (ne+1) cE) (.slice oF (fa.length+1) cF);have z2:=Ds Lp.out.eds AA (by decide) (.slice A m.pts.length c) (.slice oE (ne+1) cE) (.slice oF (fa.length+1) cF);have z3:=Ds Lp.out.fac AA (by decide) (.slice A m.pts.length c) (.slice oE (ne+1) cE) (.slice oF (fa.length+1) cF);have z4:=BI Lp.out.ext DC.out.szb.2.1 (.slice A m.pts.length c) (.slice oE (ne+1) cE) (.slice oF (fa.length+1) cF);rw [HM.out.2.1]at z2;rw [HM.out.2.2.2.2.1]at z2;rw [List.length_append]at z3;have z5:=fun (j:Nat) (cs:Array Value) (hj:w.heap[j]?=some (.cells cs 35))=>(JW (show bm+1+1≠j by have h1:=Lp.out.szm.2;have h2:=Ajx hj;omega) (.slice A m.pts.length c) (.slice oE (ne+1) cE) (.slice oF (fa.length+1) cF)).trans (Lp.out.mp j cs hj);have BX:=Ajw (And.intro z1 (And.intro z2 (And.intro z3 (And.intro z4 z5))));clear z1 z2 z3 z4 z5 SS SO;go_wp2;refine bodyPost_ret (v:=.tuple #[.agg #[.slice A m.pts.length c,.slice oE (ne+1) cE,.slice oF (fa.length+1) cF],.int .i64 0]) (by simp [results,Tryz.results167,go_sem,t1,t2,t3]) rfl ?_;refine⟨A,oE,oF,c,cE,cF,?_,?_,BX.out.2.2.2.1,BX.out.2.2.2.2⟩
   ·rw [←HM.out.1,HM.out.2.2.1,HM.out.2.2.2.1,HM.out.2.2.2.2.1]
   ·rw [←HM.out.1];refine⟨?_,?_,?_,?_⟩
    ·rw [HM.out.2.2.1];exact BX.out.1
    ·rw [HM.out.2.2.2.2.1];exact BX.out.2.1
    ·rw [HM.out.2.2.2.1];exact BX.out.2.2.1
    ·rw [HM.out.2.2.2.1,List.length_append];rfl
  ·have rC:i<N:=by refine Classical.byContradiction fun hge=>Gy ?_;obtain rfl:i=N:=(by omega);rw [DX.out.1,DX.out.2.2.1,MH.out];exact gw.out
   have hxb:(x != e0)=true:=by rw [bne,beq_false_of_ne Gy];rfl
   go_upto_region 4 with fail
   refine CW (by kernel_rfl) (by kernel_rfl) ?_
   repeat (go_big_quiet_step (fail))
   refine wpQuiet_nil ?_;rintro W4 ⟨z,hz⟩;have Aq:Ac wr W4:=hz▸z.h;clear hz z f1 f2;have EP:=Ajw (HP.out.grow Aq);replace ck:=Aq.cellS ck;replace cq:=Aq.cellS cq;clear c0 c1;have f1:∀z:Af W4,z.w.cell? ⟨gL,k,none⟩=some (.int .i64 x):=Af.cell ck;have f2:∀z:Af W4,z.w.cell? ⟨gL,q,none⟩=some (.int .i64 y):=Af.cell cq
   go_upto_region 6 with fail
   refine CW (by kernel_rfl) (by kernel_rfl) ?_
   repeat (go_big_quiet_step (fail))
   refine wpQuiet_nil ?_;rintro W6 ⟨z,hz⟩;have AU:Ac W4 W6:=hz▸z.h;clear hz z f1 f2 ck cq;have NU:=Ajw (EP.out.grow AU);have k0:W6.cell? ⟨bm,1,none⟩=some (.slice (some ⟨gE,0,none⟩) ne d):=Aa NU.out.cM rfl
   go_upto_region 8 with fail
   clear k0
   go_loopw [61] (fun iv wr=>∃t:Nat,iv=.int .i64 (t:Nat)/\t<=ne/\EU w0 w B wr bm (bm+1) (bm+1+1) A (some ⟨gL,0,none⟩) c cl (.slice (some ⟨gE,0,none⟩) ne d) (.slice oF (fa.length+1) cF) m.pts (DI x y fr Ei t) (fa ++ [u]) l e0 e1) (fun iv _=>ne-(intOf iv).toNat)
   case atStart=>exact⟨0,rfl,by omega,by unfold DI;rw [List.take_zero,List.map_nil,List.nil_append,List.drop_zero];exact NU.out⟩
   case round=>
    obtain⟨t,rfl,ht,oD⟩:=hrel;have SQ:=Ajw oD;clear oD;by_cases htn:t<ne
    ·have ZH:t<Ei.length:=(by rw [Dc];exact htn);have hcl:=Iv x y fr Ei t;have hat:=kP (U:=x) (V:=y) (fr:=fr) ZH;have ZE:=kQ (U:=x) (V:=y) (fr:=fr) ZH;obtain⟨pG,pH⟩:=List.getElem?_eq_some_iff.1 hat;have Je:=SQ.out.eds;rw [hcl,Dc]at Je;obtain⟨JX,JY,JZ,Ka⟩:=On (DI x y fr Ei t) t pG;rw [pH]at JX JY JZ Ka;have d0:=(Je.cellAt (t*4) (by omega)).trans JX;have d1:=(Je.cellAt (t*4+1) (by omega)).trans JY;have d2:=(Je.cellAt (t*4+2) (by omega)).trans JZ;have d3:=(Je.cellAt (t*4+3) (by omega)).trans Ka;obtain⟨ye,N6⟩:=Ajv (Ei[t]);rw [←N6]at d0 d1 d2 d3 ZE hat;have HST:=Ajw (And.intro ZE (And.intro hat N6));clear JX JY JZ Ka Je pH hat ZE hcl pG N6;obtain⟨yf,yt,yl,yr⟩:=ye
     dsimp only at d0 d1 d2 d3
     go_upto_region 10 with fail
     have ve:=Ajy wr (.cells #[.int .i64 yf,.int .i64 yt,.int .i64 yl,.int .i64 yr] 118);have HV:=Ajw (SQ.out.grow ((Ac.refl wr).alloc (.cells #[.int .i64 yf,.int .i64 yt,.int .i64 yl,.int .i64 yr] 118)));clear d0 d1 d2 d3;generalize wr.alloc (.cells #[.int .i64 yf,.int .i64 yt,.int .i64 yl,.int .i64 yr] 118)=VE at *;obtain⟨bw,CM⟩:=Ajv wr.heap.size;rw [←CM]at ve ⊢;clear CM SQ;have v0:VE.cell? ⟨bw,0,none⟩=some (.int .i64 yf):=Aa ve rfl;have v1:VE.cell? ⟨bw,1,none⟩=some (.int .i64 yt):=Aa ve rfl;have m1:VE.cell? ⟨bm,1,none⟩=some (.slice (some ⟨gE,0,none⟩) ne d):=Aa HV.out.cM rfl;have Ca:=HV.out.eds;rw [Iv,Dc]at Ca;have fz2:=Ca.frozenAt (t*4+2);have fz3:=Ca.frozenAt (t*4+3);have o2:=(Ca.cellAt (t*4+2) (by omega));have o3:=(Ca.cellAt (t*4+3) (by omega));have gg:=On (DI x y fr Ei t) t (by rw [Iv,Dc];exact htn);rw [(List.getElem?_eq_some_iff.1 HST.out.2.1).2]at gg;rw [gg.2.2.1]at o2;rw [gg.2.2.2]at o3
     dsimp only at o2 o3
     have hgd:(DI x y fr Ei t).getD t ⟨0,0,0,0⟩=⟨yf,yt,yl,yr⟩:=(by rw [List.getD_eq_getElem?_getD,HST.out.2.1];rfl);have eQ:=Ajw hgd;clear gg Ca hgd ve;have t0':(0:Int)<=(t:Int):=(by omega);have t1':(t:Int)<(ne:Int):=(by omega);by_cases hA:yf=x/\yt=y
     ·have b1:(yf == x)=true:=(by rw [hA.1];simp);have b2:(yt == y)=true:=by rw [hA.2];simp
      have HF:=Ajw (HV.out.cell (eds':=DI x y fr Ei (t+1)) (by rw [Iv,Dc]) (t*4+2) fr (by
       rw [lI _ _ _ (by rw [Iv,Dc];exact htn),HST.out.1,eQ.out];unfold J7;rw [if_pos hA]) (by rw [Iv,Iv]))
      clear hA;go_wp2;go_roundw
      case rel=>exact⟨t+1,by go_num,by omega,HF.out⟩
      case measure=>simp [intOf];omega
     ·have rS:(yf == x)=false∨((yf == x)=true/\(yt == y)=false):=by
       by_cases h:yf=x
       ·exact .inr ⟨by rw [h];simp,beq_false_of_ne fun h'=>hA ⟨h,h'⟩⟩
       ·exact .inl (beq_false_of_ne h)
      by_cases hB:yf=y/\yt=x
      ·have b3:(yf == y)=true:=(by rw [hB.1];simp);have b4:(yt == x)=true:=by rw [hB.2];simp
       have HF:=Ajw (HV.out.cell (eds':=DI x y fr Ei (t+1)) (by rw [Iv,Dc]) (t*4+3) fr (by
        rw [lJ _ _ _ (by rw [Iv,Dc];exact htn),HST.out.1,eQ.out];unfold J7;rw [if_neg hA,if_pos hB]) (by rw [Iv,Iv]))
       clear hA hB
       rcases rS with b1|⟨b1,b2⟩
       ·go_wp2;go_roundw
        case rel=>exact⟨t+1,by go_num,by omega,HF.out⟩
        case measure=>simp [intOf];omega
       ·go_wp2;go_roundw
        case rel=>exact⟨t+1,by go_num,by omega,HF.out⟩
        case measure=>simp [intOf];omega
      ·have hnB:(yf == y)=false∨((yf == y)=true/\(yt == x)=false):=by
        by_cases h:yf=y
        ·exact .inr ⟨by rw [h];simp,beq_false_of_ne fun h'=>hB ⟨h,h'⟩⟩
        ·exact .inl (beq_false_of_ne h)
       have hsm:DI x y fr Ei (t+1)=DI x y fr Ei t:=vv ZH (by rw [←HST.out.2.2];unfold J7;rw [if_neg hA,if_neg hB]);have hv:=HV.out;rw [←hsm]at hv;have HF:=Ajw hv;clear hA hB hsm hv
       rcases rS with b1|⟨b1,b2⟩<;>rcases hnB with b3|⟨b3,b4⟩
       ·go_wp2;go_roundw
        case rel=>exact⟨t+1,by go_num,by omega,HF.out⟩
        case measure=>simp [intOf];omega
       ·go_wp2;go_roundw
        case rel=>exact⟨t+1,by go_num,by omega,HF.out⟩
        case measure=>simp [intOf];omega
       ·go_wp2;go_roundw
        case rel=>exact⟨t+1,by go_num,by omega,HF.out⟩
        case measure=>simp [intOf];omega
       ·go_wp2;go_roundw
        case rel=>exact⟨t+1,by go_num,by omega,HF.out⟩
        case measure=>simp [intOf];omega
    ·obtain rfl:t=ne:=(by omega);have Cg:=SQ.out;rw [show t=Ei.length from Dc.symm,vu]at Cg
     have Rz:Ei.map (J7 x y fr)=M3 l fr m.eds i0 (i+1-i0):=by rw [show i+1-i0=(i-i0)+1 by omega,M3,←eL.out,show i0+(i-i0)=i by omega,←MH.out,←DX.out.2.2.1,←DX.out.2.2.2,←DX.out.1,←DX.out.2.1]
     rw [Rz,Dc]at Cg;have HF:=Ajw Cg;clear Cg Rz;go_wp2;go_roundw
     case rel=>exact⟨i+1,by go_num,by omega,by omega,HF.out⟩
     case measure=>simp [intOf];omega
def Ah:MapZ:=⟨[⟨0,0⟩,⟨0,4⟩,⟨4,0⟩,⟨4,4⟩],[⟨0,1,-1,0⟩,⟨0,2,0,-1⟩,⟨1,3,-1,0⟩,⟨2,3,0,-1⟩],1⟩
def KX:MapZ:=⟨[⟨0,0⟩,⟨0,4⟩,⟨4,0⟩,⟨4,4⟩],[⟨0,1,-1,1⟩,⟨0,2,0,-1⟩,⟨1,3,-1,1⟩,⟨2,3,0,-1⟩,⟨0,3,1,0⟩],2⟩
def c46:MapZ:=⟨[⟨0,0⟩,⟨0,4⟩,⟨4,0⟩,⟨4,4⟩],[⟨0,1,-1,0⟩,⟨0,2,1,-1⟩,⟨0,3,0,1⟩,⟨1,3,-1,0⟩,⟨2,3,1,-1⟩],2⟩
instance:DecidableEq EdZ:=fun a b=>decidable_of_iff (a.f=b.f/\a.t=b.t/\a.l=b.l/\a.r=b.r) (by cases a;cases b;simp)
instance:DecidableEq MapZ:=fun a b=>decidable_of_iff (a.pts=b.pts/\a.eds=b.eds/\a.nf=b.nf) (by cases a;cases b;simp)
theorem xA:Si Ah [0,2,3,1] 0 0 3 2 4=KX:=by decide +kernel
theorem Od:EZ Ah=true:=by decide +kernel
theorem jJ:EZ KX=true:=by decide +kernel
theorem jI:EZ c46=true:=by decide +kernel
theorem Adq:N8 Ah ⟨2,2⟩ 0=true:=by decide +kernel
theorem wl:Xl Ah 0 [0,2,3,1]=true:=by decide +kernel
theorem Adr:N8 c46 ⟨3,1⟩ 1=true:=by decide +kernel
theorem vD:N8 c46 ⟨1,3⟩ 0=true:=by decide +kernel
theorem Oe:Iu Ah [[97]]=Ah/\(Cv Ah [[97]]).fa = [[97]]:=by decide +kernel
theorem jK:Iu KX [[97],[98]]=c46/\(Cv KX [[97],[98]]).fa = [[98],[97]]:=by decide +kernel
theorem tZ:DU Ah.pts ⟨0,0⟩=((0:Nat):Int)/\DU Ah.pts ⟨4,4⟩=((3:Nat):Int):=by decide +kernel
def Fc(k:Int)(a b:Pt)(u:Bs):Value:=.agg #[.int .i64 k,S (R a.x),S (R a.y),S (R b.x),S (R b.y),S [],S [],S u]
theorem AgN(w:World)(hw:Ao w):Calls Tryz.prog 136 #[Ak ⟨0,0⟩,Ak ⟨4,4⟩,S [49,47,50]] w (Bp (Pv ⟨2,2⟩) w):=by
 have h:=Ahd ⟨0,0⟩ ⟨4,4⟩ (1/2) ((Qz (p:=⟨0,0⟩) (by decide +kernel)).sz (by omega)) ((Qz (p:=⟨4,4⟩) (by decide +kernel)).sz (by omega)) (by constructor<;>decide +kernel) w hw;rw [show R (1/2) = [49,47,50] by decide +kernel,show JC (0:Rat) 4 (1/2)=2 by decide +kernel]at h;exact h
structure D5(w0 wM:World)(B:Nat)(wr:World)(bm bx bR:Nat)(A Bk F:Option Addr)(c d g:Nat)(u:Bs):Prop where
 cM:wr.heap[bm]?=some (.cells #[.slice A 4 c,.slice Bk 4 d,.slice F 1 g] 35)
 cX:wr.heap[bx]?=some (.cells #[.int .i64 2,S (R 0),S (R 0),S (R 4),S (R 4),S [],S [],S u] 29)
 cR:wr.heap[bR]?=some (.cells #[.slice none 0 0,.slice none 0 0,.slice none 0 0] 35)
 own:BY B wr A Bk F c d g Ah [[97]]
 ext:Ac w0 wr
 szB:w0.heap.size<=B
 szb:w0.heap.size<=bm/\w0.heap.size<=bR/\bm≠bR/\B<=wr.heap.size
 szm:wM.heap.size<=bm/\wM.heap.size<=bR
 mp:∀(j:Nat) (cs:Array Value),wM.heap[j]?=some (.cells cs 35)→wr.heap[j]?=some (.cells cs 35)
theorem D5.grow{w0 wM:World}{B:Nat}{wr w':World}{bm bx bR:Nat}{A Bk F:Option Addr}{c d g:Nat}{u:Bs}(h:D5 w0 wM B wr bm bx bR A Bk F c d g u)(hx:Ac wr w'):D5 w0 wM B w' bm bx bR A Bk F c d g u:=
 ⟨(hx.block _ (Ajx h.cM)).trans h.cM,(hx.block _ (Ajx h.cX)).trans h.cX,(hx.block _ (Ajx h.cR)).trans h.cR,h.own.ext hx,h.ext.trans hx,h.szB,⟨h.szb.1,h.szb.2.1,h.szb.2.2.1,Aj9 h.szb.2.2.2 hx.size⟩,h.szm,fun j cs hj=>(hx.block _ (Ajx (h.mp j cs hj))).trans (h.mp j cs hj)⟩
theorem D5.rds{w0 wM:World}{B:Nat}{wr:World}{bm bx bR:Nat}{A Bk F:Option Addr}{c d g:Nat}{u:Bs}(h:D5 w0 wM B wr bm bx bR A Bk F c d g u):Bj Ah c d g/\Ae wr A (flat (Ai Ah.pts))/\Ae wr Bk (Au Ah.eds):=⟨h.own.rd.1,h.own.rd.2.1,h.own.rd.2.2.1⟩
section
variable {w0 wM : World} {B : Nat} {wr : World} {bm bx bR : Nat} {A Bk F : Option Addr} {c d g : Nat} {u : Bs}
theorem D5.loc(h:D5 w0 wM B wr bm bx bR A Bk F c d g u)(hw:Ao w0):Calls Tryz.prog 97 #[.agg #[.slice A 4 c,.slice Bk 4 d,.slice F 1 g],.agg #[S (R 2),S (R 2)]] wr (Bp (.tuple #[.int .i64 0,.bool true,.int .i64 0]) wr):=
 RS Ah ⟨2,2⟩ 0 Adq A Bk F c d g h.rds.1 wr (hw.ext h.ext) h.rds.2.1 h.rds.2.2
theorem D5.cyc(h:D5 w0 wM B wr bm bx bR A Bk F c d g u)(hw:Ao w0):Calls Tryz.prog 163 #[.agg #[.slice A 4 c,.slice Bk 4 d,.slice F 1 g],.int .i64 0] wr (fun e w'=>∃v,e=.returned (.tuple #[v,.int .i64 0])/\Lv w' v [0,2,3,1]/\Ac wr w'):=
 AeA Ah 0 [0,2,3,1] wl A Bk F c d g h.rds.1 wr (hw.ext h.ext) h.rds.2.1 h.rds.2.2
theorem D5.in0(h:D5 w0 wM B wr bm bx bR A Bk F c d g u):Calls Tryz.prog 164 #[.agg #[.slice A 4 c,.slice Bk 4 d,.slice F 1 g],.int .i64 0,.agg #[S (R 0),S (R 0)]] wr (Bp (.tuple #[.agg #[.slice A 4 c,.slice Bk 4 d,.slice F 1 g],.int .i64 0]) wr):=
 uH Ah ⟨0,0⟩ 0 tZ.1 0 A Bk F c d g h.rds.1 wr h.rds.2.1
theorem D5.in4(h:D5 w0 wM B wr bm bx bR A Bk F c d g u):Calls Tryz.prog 164 #[.agg #[.slice A 4 c,.slice Bk 4 d,.slice F 1 g],.int .i64 0,.agg #[S (R 4),S (R 4)]] wr (Bp (.tuple #[.agg #[.slice A 4 c,.slice Bk 4 d,.slice F 1 g],.int .i64 3]) wr):=
 uH Ah ⟨4,4⟩ 3 tZ.2 0 A Bk F c d g h.rds.1 wr h.rds.2.1
theorem D5.set(h:D5 w0 wM B wr bm bx bR A Bk F c d g u):D5 w0 wM B (((wr.setCell ⟨bm,0,none⟩ (.slice A 4 c)).setCell ⟨bm,1,none⟩ (.slice Bk 4 d)).setCell ⟨bm,2,none⟩ (.slice F 1 g)) bm bx bR A Bk F c d g u:=by
 refine⟨Ck _ _ _ h.cM,(JW (Ct h.cM h.cX (by decide)) _ _ _).trans h.cX,(JW h.szb.2.2.1 _ _ _).trans h.cR,⟨Ds h.own.pts h.cM (by decide) _ _ _,Ds h.own.eds h.cM (by decide) _ _ _,Ds h.own.fac h.cM (by decide) _ _ _,h.own.nf⟩,BI h.ext h.szb.1 _ _ _,h.szB,⟨h.szb.1,h.szb.2.1,h.szb.2.2.1,?_⟩,h.szm,fun j cs hj=>(JW (show bm≠j by have h1:=h.szm.1;have h2:=Ajx hj;omega) _ _ _).trans (h.mp j cs hj)⟩;have:=h.szb.2.2.2
 simpa [World.setCell]using this
theorem D5.end(h:D5 w0 wM B wr bm bx bR A Bk F c d g u){be k:Nat}{cs:Array Value}(hb:wr.heap[be]?=some (.cells cs 228))(h0:w0.heap.size<=be)(z:Value):D5 w0 wM B (wr.setCell ⟨be,k,none⟩ z) bm bx bR A Bk F c d g u:=by
 have bb:=(Ax.refl (fun q=>q=be) wr).setCell (p:=⟨be,k,none⟩) (.inl rfl) z
 have far:∀{j:Nat} {cs:Array Value} {t:TypeId},wr.heap[j]?=some (.cells cs t)→t≠228→(wr.setCell ⟨be,k,none⟩ z).heap[j]?=some (.cells cs t):=fun hj hne=>by rw [B7 (by exact Ct hj hb hne)];exact hj
 have kp:∀{e:TypeId} {s m:Nat} {v:Value} {xs:List Value} {B':Nat},wr.ownsRow B' e s v m xs→e≠228→(wr.setCell ⟨be,k,none⟩ z).ownsRow B' e s v m xs:=fun hv hne=>Bw hv bb (fun q hq e=>by subst e;exact Bo hv hb hne hq);exact⟨far h.cM (by decide),far h.cX (by decide),far h.cR (by decide),⟨kp h.own.pts (by decide),kp h.own.eds (by decide),kp h.own.fac (by decide),h.own.nf⟩,h.ext.setCell (p:=⟨be,k,none⟩) h0 _,h.szB,⟨h.szb.1,h.szb.2.1,h.szb.2.2.1,Aj9 h.szb.2.2.2 bb.size⟩,h.szm,fun j cs hj=>far (h.mp j cs hj) (by decide)⟩
end
theorem Ae.dropI{w:World}{b o:Nat}{l:List Int}(h:Ae w (some ⟨b,o,none⟩) (zs l))(k:Nat):Ae w (some ⟨b,o+k,none⟩) (zs (l.drop k)):=by
 refine⟨fun h1=>⟨b,o+k,rfl,fun j hj=>?_⟩⟩;have hl:k+j<(zs l).length:=(by unfold zs at hj ⊢;rw [List.length_map,List.length_drop]at hj;rw [List.length_map];omega);obtain⟨b',o',e,hcs⟩:=h.ad (by omega);simp only [Aj3,Addr.mk.injEq,and_true]at e;obtain⟨rfl,rfl⟩:=e;have:=hcs (k+j) hl;rw [Nat.add_assoc,this];simp [zs]
theorem Ty(l:List Int)(z:Int)(n:Nat)(b:Bool)(hn:l.length=n)(hb:l.any (fun y=>z == y)=b)(A:Option Addr)(c:Nat)(w:World)(hr:Ae w A (zs l))(hc:n<=c)(hcm:c<=9223372036854775807) :
  Calls Tryz.prog 165 #[.slice A n c,.int .i64 z] w (By b w):=by
 subst hn hb;exact vo l z A c w hr hc hcm
theorem uG(l:List Int)(z:Int)(n:Nat)(k:Int)(hn:l.length=n)(hb:CU (fun y=>z == y) l=k)(A:Option Addr)(c:Nat)(w:World)(hr:Ae w A (zs l))(hc:n<=c)(hcm:c<=9223372036854775807) :
  Calls Tryz.prog 166 #[.slice A n c,.int .i64 z] w (AK k w):=by
 subst hn hb;exact aC l z A c w hr hc hcm
theorem AfD:∀i,2<=i→i<4→([0,2,3,1]:List Int).getD (i%([0,2,3,1]:List Int).length) 0≠0:=by
 intro i h1 h2;obtain rfl|rfl:i=2∨i=3:=by omega
 ·decide
 ·decide
theorem yo(W:World):(Instr.index 228 (.agg #[.int .i64 0,.int .i64 3]) (.int .i64 0)).run Tryz.prog W=.ok (.int .i64 0) W:=by kernel_rfl
theorem yq(W:World):(Instr.index 228 (.agg #[.int .i64 0,.int .i64 3]) (.int .i64 1)).run Tryz.prog W=.ok (.int .i64 3) W:=by kernel_rfl
theorem au{w:World}{b:Nat}{a0 a1:Value}{t:TypeId}(v:Value)(h:w.heap[b]?=some (.cells #[a0,a1] t)):(w.setCell ⟨b,0,none⟩ v).heap[b]?=some (.cells #[v,a1] t):=by
 simp only [World.setCell,Array.getElem?_modify,h];simp
theorem av{w:World}{b:Nat}{a0 a1:Value}{t:TypeId}(v:Value)(h:w.heap[b]?=some (.cells #[a0,a1] t)):(w.setCell ⟨b,1,none⟩ v).heap[b]?=some (.cells #[a0,v] t):=by
 simp only [World.setCell,Array.getElem?_modify,h];simp
theorem split_c(u:Bs)(A Bk F:Option Addr)(c d g:Nat){B:Nat}{w0 w:World}(hw:Ao w0)(hx:Ac w0 w)(hB0:w0.heap.size<=B)(Ke:B<=w.heap.size)(hm:BY B w A Bk F c d g Ah [[97]]) :
  Calls Tryz.prog 93 #[As A Bk F Ah c d g,Fc 2 ⟨0,0⟩ ⟨4,4⟩ u] w
   (fun e w'=>∃A' B' F' c' d' g',e=.returned (.tuple #[As A' B' F' KX c' d' g',.int .i64 0])/\BY B w' A' B' F' c' d' g' KX [[97],u]/\Ac w0 w'/\∀(j:Nat) (cs:Array Value),w.heap[j]?=some (.cells cs 35)→w'.heap[j]?=some (.cells cs 35)):=by
 obtain⟨hM,hE,hR,hX⟩:=M8 w (.cells #[.slice A 4 c,.slice Bk 4 d,.slice F 1 g] 35) (.cells #[.int .i64 2,S (R 0),S (R 0),S (R 4),S (R 4),S [],S [],S u] 29) (.cells #[.slice none 0 0,.slice none 0 0,.slice none 0 0] 35)
 have Gj:D5 w0 w B (((w.alloc (.cells #[.slice A 4 c,.slice Bk 4 d,.slice F 1 g] 35)).alloc (.cells #[.int .i64 2,S (R 0),S (R 0),S (R 4),S (R 4),S [],S [],S u] 29)).alloc (.cells #[.slice none 0 0,.slice none 0 0,.slice none 0 0] 35)) w.heap.size (w.heap.size+1) (w.heap.size+1+1) A Bk F c d g u:=
  ⟨hM,hE,hR,hm.ext hX,hx.trans hX,hB0,⟨by have:=hx.size;omega,by have:=hx.size;omega,by omega,Aj9 Ke hX.size⟩,⟨Ajz _,by omega⟩,fun j cs hj=>(hX.block _ (Ajx hj)).trans hj⟩
 have PO:=Ajw (show ∃z,z=R 4 from⟨_,rfl⟩);show Calls Tryz.prog 93 #[.agg #[.slice A 4 c,.slice Bk 4 d,.slice F 1 g],.agg #[.int .i64 2,S (R 0),S (R 0),S (R 4),S (R 4),S [],S [],S u]] w _;clear hm hM hE hR hX;go_enter Tryz.func93,Tryz.ntmps93
 go_upto_region 1 with fail
 generalize ((w.alloc (.cells #[.slice A 4 c,.slice Bk 4 d,.slice F 1 g] 35)).alloc (.cells #[.int .i64 2,S (R 0),S (R 0),S (R 4),S (R 4),S [],S [],S u] 29)).alloc (.cells #[.slice none 0 0,.slice none 0 0,.slice none 0 0] 35)=V at *;obtain⟨bm,AD⟩:=Ajv w.heap.size;rw [←AD]at Gj ⊢;clear AD Ke;have G8:=Ajw Gj;clear Gj;have x1:V.cell? ⟨bm+1,1,none⟩=some (S (R 0)):=Aa G8.out.cX rfl;have x2:V.cell? ⟨bm+1,2,none⟩=some (S (R 0)):=Aa G8.out.cX rfl;have x3:V.cell? ⟨bm+1,3,none⟩=some (S (R 4)):=Aa G8.out.cX rfl;have x4:V.cell? ⟨bm+1,4,none⟩=some (S (R 4)):=Aa G8.out.cX rfl;have hne:(R 0 == R 4)=false:=(by decide +kernel);have tw:=AgN V (hw.ext G8.out.ext);unfold Pv Ak at tw
 dsimp only at tw
 (go_wp2_with fail);(with_reducible refine tw.mono ?_);rintro e w1 ⟨rfl,hx1⟩;have fE:=Ajw (G8.out.grow hx1);clear x1 x2 x3 x4 hne tw hx1 G8
 go_upto_region 6 with fail
 obtain⟨V2,hV2⟩:=Ajv (w1.alloc (.cells #[S (R 2),S (R 2)] 27));have hq:=Ajy w1 (.cells #[S (R 2),S (R 2)] 27);have hx2:=(Ac.refl w1).alloc (.cells #[S (R 2),S (R 2)] 27);rw [←hV2]at hq hx2 ⊢;have NT:=Ajw (fE.out.grow hx2);obtain⟨bq,C7⟩:=Ajv w1.heap.size;rw [←C7]at hq ⊢;clear hV2 hx2 C7 fE;have m0:V2.cell? ⟨bm,0,none⟩=some (.slice A 4 c):=Aa NT.out.cM rfl;have m1:V2.cell? ⟨bm,1,none⟩=some (.slice Bk 4 d):=Aa NT.out.cM rfl;have m2:V2.cell? ⟨bm,2,none⟩=some (.slice F 1 g):=Aa NT.out.cM rfl;have q0:V2.cell? ⟨bq,0,none⟩=some (S (R 2)):=Aa hq rfl;have q1:V2.cell? ⟨bq,1,none⟩=some (S (R 2)):=Aa hq rfl;have lc:=NT.out.loc hw;clear hq;(go_wp2_with fail);(with_reducible refine lc.mono ?_);rintro e w2 ⟨rfl,hx2⟩;have Wg:=Ajw (NT.out.grow hx2);replace m0:=hx2.cellS m0;replace m1:=hx2.cellS m1;replace m2:=hx2.cellS m2;have cy:=Wg.out.cyc hw;clear lc hx2 NT q0 q1;(go_wp2_with fail);(with_reducible refine cy.mono ?_);rintro e w3 ⟨v,rfl,ho,hx3⟩;obtain⟨bo,co,bl,cl,rfl,-,-⟩:=ho;have EP:=Ajw (Wg.out.grow hx3);clear cy hx3 Wg m0 m1 m2
 go_upto_region 17 with fail
 obtain⟨V4,C6⟩:=Ajv (w3.alloc (.cells #[.int .i64 0,.int .i64 0] 228));have he:=Ajy w3 (.cells #[.int .i64 0,.int .i64 0] 228);have Aq:=(Ac.refl w3).alloc (.cells #[.int .i64 0,.int .i64 0] 228);have Nl:=EP.out.ext.size;rw [←C6]at he Aq ⊢;have GA:=Ajw (EP.out.grow Aq);obtain⟨be,AB⟩:=Ajv w3.heap.size;rw [←AB]at he Nl ⊢;clear C6 Aq AB EP;have x1:V4.cell? ⟨bm+1,1,none⟩=some (S (R 0)):=Aa GA.out.cX rfl;have x2:V4.cell? ⟨bm+1,2,none⟩=some (S (R 0)):=Aa GA.out.cX rfl;have x3:V4.cell? ⟨bm+1,3,none⟩=some (S (R 4)):=Aa GA.out.cX rfl;have x4:V4.cell? ⟨bm+1,4,none⟩=some (S (R 4)):=Aa GA.out.cX rfl
 go_upto_region 18 with fail
 obtain⟨V5,QM⟩:=Ajv (V4.alloc (.cells #[S (R 0),S (R 0),S (R 4),S (R 4)] 27));have hp:=Ajy V4 (.cells #[S (R 0),S (R 0),S (R 4),S (R 4)] 27);have AE:=(Ac.refl V4).alloc (.cells #[S (R 0),S (R 0),S (R 4),S (R 4)] 27);rw [←QM]at hp AE ⊢;have NU:=Ajw (GA.out.grow AE);replace he:=(AE.block _ (Ajx he)).trans he;obtain⟨bp,Aw⟩:=Ajv V4.heap.size;rw [←Aw]at hp ⊢;clear QM AE Aw GA x1 x2 x3 x4
 go_loopw [72] (fun iv wr=>∃i:Nat,iv=.int .i64 (i:Nat)/\i<=2/\D5 w0 w B wr bm (bm+1) (bm+1+1) A Bk F c d g u/\wr.heap[be]?=some (.cells #[.int .i64 0,.int .i64 (if i=2 then 3 else 0)] 228)/\wr.heap[bp]?=some (.cells #[S (R 0),S (R 0),S (R 4),S (R 4)] 27)) (fun iv _=>2-(intOf iv).toNat)
 case atStart=>exact⟨0,rfl,by omega,NU.out,he,hp⟩
 case round=>
  obtain⟨i,rfl,hi,hP,AB,Aw⟩:=hrel;have HP:=Ajw hP;clear hP;obtain rfl|rfl|rfl:i=0∨i=1∨i=2:=by omega
  ·have p0:wr.cell? ⟨bp,0,none⟩=some (S (R 0)):=Aa Aw rfl;have p1:wr.cell? ⟨bp,1,none⟩=some (S (R 0)):=Aa Aw rfl
   go_upto_region 20 with fail
   obtain⟨V7,I1⟩:=Ajv (wr.alloc (.cells #[S (R 0),S (R 0)] 27));have hz:=Ajy wr (.cells #[S (R 0),S (R 0)] 27);have AL:=(Ac.refl wr).alloc (.cells #[S (R 0),S (R 0)] 27);rw [←I1]at hz AL ⊢;have Cy:=Ajw (HP.out.grow AL);replace AB:=(AL.block _ (Ajx AB)).trans AB;replace Aw:=(AL.block _ (Ajx Aw)).trans Aw;obtain⟨bs,B8⟩:=Ajv wr.heap.size;rw [←B8]at hz ⊢;clear I1 AL B8 HP p0 p1;have m0:V7.cell? ⟨bm,0,none⟩=some (.slice A 4 c):=Aa Cy.out.cM rfl;have m1:V7.cell? ⟨bm,1,none⟩=some (.slice Bk 4 d):=Aa Cy.out.cM rfl;have m2:V7.cell? ⟨bm,2,none⟩=some (.slice F 1 g):=Aa Cy.out.cM rfl;have z0:V7.cell? ⟨bs,0,none⟩=some (S (R 0)):=Aa hz rfl;have z1:V7.cell? ⟨bs,1,none⟩=some (S (R 0)):=Aa hz rfl;have ins:=Cy.out.in0;clear hz;(go_wp2_with fail);(with_reducible refine ins.mono ?_);rintro e w8 ⟨rfl,AX⟩;have Di:=Ajw (Cy.out.grow AX);replace AB:=(AX.block _ (Ajx AB)).trans AB;replace Aw:=(AX.block _ (Ajx Aw)).trans Aw;clear ins AX Cy m0 m1 m2 z0 z1;have m0:w8.cell? ⟨bm,0,none⟩=some (.slice A 4 c):=Aa Di.out.cM rfl;have m1:w8.cell? ⟨bm,1,none⟩=some (.slice Bk 4 d):=Aa Di.out.cM rfl;have m2:w8.cell? ⟨bm,2,none⟩=some (.slice F 1 g):=Aa Di.out.cM rfl;have f0:=Aj (o:=0) Di.out.cM;have f1:=Aj (o:=1) Di.out.cM;have f2:=Aj (o:=2) Di.out.cM;have e0:=Aa (o:=0) AB rfl;have fe:=Aj (o:=0) AB;have hne:be≠bm:=Ct AB Di.out.cM (by decide);have Zr:bm≠be:=fun h=>hne h.symm;have Kk:=(JW Zr (.slice A 4 c) (.slice Bk 4 d) (.slice F 1 g)).trans AB;have Nn:=(JW (Ct Di.out.cM Aw (by decide)) (.slice A 4 c) (.slice Bk 4 d) (.slice F 1 g)).trans Aw;have HF:=Ajw (And.intro (Di.out.set.end (k:=0) Kk Nl (.int .i64 0)) (And.intro (au (.int .i64 0) Kk) ((B7 (p:=⟨be,0,none⟩) (v:=.int .i64 0) (by exact Ct Nn Kk (by decide))).trans Nn)));clear Kk Nn AB Aw;go_wp2;go_roundw
   case rel=>exact⟨1,rfl,by omega,HF.out⟩
   case measure=>simp [intOf]
  ·have p0:wr.cell? ⟨bp,2,none⟩=some (S (R 4)):=Aa Aw rfl;have p1:wr.cell? ⟨bp,3,none⟩=some (S (R 4)):=Aa Aw rfl
   go_upto_region 20 with fail
   obtain⟨V7,I1⟩:=Ajv (wr.alloc (.cells #[S (R 4),S (R 4)] 27));have hz:=Ajy wr (.cells #[S (R 4),S (R 4)] 27);have AL:=(Ac.refl wr).alloc (.cells #[S (R 4),S (R 4)] 27);rw [←I1]at hz AL ⊢;have Cy:=Ajw (HP.out.grow AL);replace AB:=(AL.block _ (Ajx AB)).trans AB;replace Aw:=(AL.block _ (Ajx Aw)).trans Aw;obtain⟨bs,B8⟩:=Ajv wr.heap.size;rw [←B8]at hz ⊢;clear I1 AL B8 HP p0 p1;have m0:V7.cell? ⟨bm,0,none⟩=some (.slice A 4 c):=Aa Cy.out.cM rfl;have m1:V7.cell? ⟨bm,1,none⟩=some (.slice Bk 4 d):=Aa Cy.out.cM rfl;have m2:V7.cell? ⟨bm,2,none⟩=some (.slice F 1 g):=Aa Cy.out.cM rfl;have z0:V7.cell? ⟨bs,0,none⟩=some (S (R 4)):=Aa hz rfl;have z1:V7.cell? ⟨bs,1,none⟩=some (S (R 4)):=Aa hz rfl;have ins:=Cy.out.in4;clear hz;(go_wp2_with fail);(with_reducible refine ins.mono ?_);rintro e w8 ⟨rfl,AX⟩;have Di:=Ajw (Cy.out.grow AX);replace AB:=(AX.block _ (Ajx AB)).trans AB;replace Aw:=(AX.block _ (Ajx Aw)).trans Aw;clear ins AX Cy m0 m1 m2 z0 z1;have m0:w8.cell? ⟨bm,0,none⟩=some (.slice A 4 c):=Aa Di.out.cM rfl;have m1:w8.cell? ⟨bm,1,none⟩=some (.slice Bk 4 d):=Aa Di.out.cM rfl;have m2:w8.cell? ⟨bm,2,none⟩=some (.slice F 1 g):=Aa Di.out.cM rfl;have f0:=Aj (o:=0) Di.out.cM;have f1:=Aj (o:=1) Di.out.cM;have f2:=Aj (o:=2) Di.out.cM;have e0:=Aa (o:=1) AB rfl;have fe:=Aj (o:=1) AB;have hne:be≠bm:=Ct AB Di.out.cM (by decide);have Zr:bm≠be:=fun h=>hne h.symm;have Kk:=(JW Zr (.slice A 4 c) (.slice Bk 4 d) (.slice F 1 g)).trans AB;have Nn:=(JW (Ct Di.out.cM Aw (by decide)) (.slice A 4 c) (.slice Bk 4 d) (.slice F 1 g)).trans Aw;have HF:=Ajw (And.intro (Di.out.set.end (k:=1) Kk Nl (.int .i64 3)) (And.intro (av (.int .i64 3) Kk) ((B7 (p:=⟨be,1,none⟩) (v:=.int .i64 3) (by exact Ct Nn Kk (by decide))).trans Nn)));clear Kk Nn AB Aw;go_wp2;go_roundw
   case rel=>exact⟨2,rfl,by omega,HF.out⟩
   case measure=>simp [intOf]
  ·replace AB:wr.heap[be]?=some (.cells #[.int .i64 0,.int .i64 3] 228):=AB;clear Aw;have m0:wr.cell? ⟨bm,0,none⟩=some (.slice A 4 c):=Aa HP.out.cM rfl;have m1:wr.cell? ⟨bm,1,none⟩=some (.slice Bk 4 d):=Aa HP.out.cM rfl;have m2:wr.cell? ⟨bm,2,none⟩=some (.slice F 1 g):=Aa HP.out.cM rfl;have cy:=HP.out.cyc hw;(go_wp2_with fail);(with_reducible refine cy.mono ?_);rintro e w9 ⟨v,rfl,ho,Dz⟩;obtain⟨rz,co2,iV,GK,rfl,hc2,U5⟩:=ho;replace AB:=(Dz.block _ (Ajx AB)).trans AB;have DC:=Ajw (HP.out.grow Dz);clear cy Dz HP m0 m1 m2;have e0:w9.cell? ⟨be,0,none⟩=some (.int .i64 0):=Aa AB rfl;have e1:w9.cell? ⟨be,1,none⟩=some (.int .i64 3):=Aa AB rfl
   have hrl:=(show Ae w9 iV (zs [0,2,3,1])/\4<=GK/\GK<=9223372036854775807 by
    obtain⟨A1,c1,q1,r1,s1,t1⟩:=Ae.of_own' (by omega) U5;simp only [Value.slice.injEq,true_and]at q1;obtain⟨rfl,rfl⟩:=q1
    exact⟨r1,s1,t1⟩)
   obtain⟨gl,rfl⟩:∃gl,iV=some ⟨gl,0,none⟩:=Vj U5;have js:=Ajw U5;clear U5;obtain⟨r1,hl4,OH⟩:=hrl;have hc3:w9.cell? ⟨rz,0,none⟩=some (.slice (some ⟨gl,0,none⟩) 4 GK):=hc2;clear hc2
   go_upto_region 29 with fail
   have Ll:=Ajw AB;clear hc3 e0 e1 AB
   go_loopw [106] (fun iv wr=>∃i:Nat,iv=.int .i64 (i:Nat)/\i<=2/\Ac w9 wr) (fun iv _=>2-(intOf iv).toNat)
   case atStart=>exact⟨0,rfl,by omega,Ac.refl _⟩
   case round=>
    obtain⟨i,rfl,hi,hx⟩:=hrel;have n0:=yo;have n1:=yq;obtain rfl|rfl|rfl:i=0∨i=1∨i=2:=by omega
    ·have ct:=Ty [0,2,3,1] 0 4 true rfl (by decide) (some ⟨gl,0,none⟩) GK wr (r1.ext hx) hl4 OH;(go_wp2_with fail);(with_reducible refine ct.mono ?_);rintro e w10 ⟨rfl,hx10⟩;replace hx:=hx.trans hx10;have HX:=Ajw hx;clear ct;go_wp2;go_roundw
     case rel=>exact⟨1,rfl,by omega,HX.out⟩
     case measure=>simp [intOf]
    ·have ct:=Ty [0,2,3,1] 3 4 true rfl (by decide) (some ⟨gl,0,none⟩) GK wr (r1.ext hx) hl4 OH;(go_wp2_with fail);(with_reducible refine ct.mono ?_);rintro e w10 ⟨rfl,hx10⟩;replace hx:=hx.trans hx10;have HX:=Ajw hx;clear ct;go_wp2;go_roundw
     case rel=>exact⟨2,rfl,by omega,HX.out⟩
     case measure=>simp [intOf]
    ·have e0:wr.cell? ⟨be,0,none⟩=some (.int .i64 0):=Aa ((hx.block _ (Ajx Ll.out)).trans Ll.out) rfl;have e1:wr.cell? ⟨be,1,none⟩=some (.int .i64 3):=Aa ((hx.block _ (Ajx Ll.out)).trans Ll.out) rfl
     go_upto_region 35 with fail
     have ku:=Ajw hx;clear hx e0 e1
     go_loopw [116] (fun iv wr=>∃i:Nat,iv=.int .i64 (i:Nat)/\i<=2/\Ac w9 wr) (fun iv _=>2-(intOf iv).toNat)
     case atStart=>exact⟨0,rfl,by omega,ku.out⟩
     case round=>
      obtain⟨i,rfl,hi,hx⟩:=hrel;obtain rfl|rfl|rfl:i=0∨i=1∨i=2:=by omega
      ·have ix:=uG [0,2,3,1] 0 4 0 rfl (by decide) (some ⟨gl,0,none⟩) GK wr (r1.ext hx) hl4 OH;(go_wp2_with fail);(with_reducible refine ix.mono ?_);rintro e w10 ⟨rfl,hx10⟩;replace hx:=hx.trans hx10;have ct:=Ty [2,3,1] 0 3 false rfl (by decide) (some ⟨gl,1,none⟩) (GK-1) w10 (show Ae w10 (some ⟨gl,1,none⟩) (zs [2,3,1])by have:=(r1.dropI 1).ext hx;rw [Nat.zero_add]at this;exact this) (by omega) (by omega);have Abu:(4:Int)<=(GK:Int):=(by omega);clear ix;(go_wp2_with fail);(with_reducible refine ct.mono ?_);rintro e w11 ⟨rfl,DR⟩;replace hx:=hx.trans DR;have HX:=Ajw hx;clear ct;go_wp2;go_roundw
       case rel=>exact⟨_,_,_,_,_,_,_,_,_,_,_,_,_,_,_,_,_,⟨1,rfl,by omega,HX.out⟩,rfl⟩
       case measure=>simp [intOf]
      ·have ix:=uG [0,2,3,1] 3 4 2 rfl (by decide) (some ⟨gl,0,none⟩) GK wr (r1.ext hx) hl4 OH;(go_wp2_with fail);(with_reducible refine ix.mono ?_);rintro e w10 ⟨rfl,hx10⟩;replace hx:=hx.trans hx10;have ct:=Ty [1] 3 1 false rfl (by decide) (some ⟨gl,3,none⟩) (GK-3) w10 (show Ae w10 (some ⟨gl,3,none⟩) (zs [1])by have:=(r1.dropI 3).ext hx;rw [Nat.zero_add]at this;exact this) (by omega) (by omega);have Abu:(4:Int)<=(GK:Int):=(by omega);clear ix;(go_wp2_with fail);(with_reducible refine ct.mono ?_);rintro e w11 ⟨rfl,DR⟩;replace hx:=hx.trans DR;have HX:=Ajw hx;clear ct;go_wp2;go_roundw
       case rel=>exact⟨_,_,_,_,_,_,_,_,_,_,_,_,_,_,_,_,_,⟨2,rfl,by omega,HX.out⟩,rfl⟩
       case measure=>simp [intOf]
      ·have Ej:=Ajw (DC.out.grow hx);have m0:wr.cell? ⟨bm,0,none⟩=some (.slice A 4 c):=Aa Ej.out.cM rfl;have m1:wr.cell? ⟨bm,1,none⟩=some (.slice Bk 4 d):=Aa Ej.out.cM rfl;have m2:wr.cell? ⟨bm,2,none⟩=some (.slice F 1 g):=Aa Ej.out.cM rfl;have e0:wr.cell? ⟨be,0,none⟩=some (.int .i64 0):=Aa ((hx.block _ (Ajx Ll.out)).trans Ll.out) rfl;have e1:wr.cell? ⟨be,1,none⟩=some (.int .i64 3):=Aa ((hx.block _ (Ajx Ll.out)).trans Ll.out) rfl;have xu:wr.cell? ⟨bm+1,7,none⟩=some (S u):=Aa Ej.out.cX rfl
       have pa:Calls Tryz.prog 167 #[.agg #[.slice A 4 c,.slice Bk 4 d,.slice F 1 g],.int .i64 0,.slice (some ⟨gl,0,none⟩) 4 GK,.agg #[.int .i64 0,.int .i64 3],S u] wr
         (fun e w'=>∃A' B' F' c' d' g',e=.returned (.tuple #[.agg #[.slice A' 4 c',.slice B' 5 d',.slice F' 2 g'],.int .i64 0])/\BY B w' A' B' F' c' d' g' KX [[97],u]/\Ac w0 w'/\∀(j:Nat) (cs:Array Value),wr.heap[j]?=some (.cells cs 35)→w'.heap[j]?=some (.cells cs 35)):=by
        have h:=Ae6 Ah [[97]] [0,2,3,1] 0 0 3 u 2 4 rfl (by decide) (by omega) (by omega) (by decide) AfD (by rw [xA];exact(JP jJ).1) (JP Od).2 (by decide) (by decide) (by decide) (by decide) (by decide) A Bk F (some ⟨gl,0,none⟩) c d g GK hw Ej.out.ext Ej.out.szB Ej.out.szb.2.2.2 Ej.out.own (A9 js.out hx);rw [xA]at h;exact h
       (go_wp2_with fail);(with_reducible refine pa.mono ?_);rintro e DW ⟨A',B',F',c',d',g',rfl,hown,Cm,FQ⟩;have AA:=FQ _ _ Ej.out.cR;have Iq:=Ajw Ej.out.szb;have PN:=Ajw (fun (j:Nat) (cs:Array Value) (hj:w.heap[j]?=some (.cells cs 35))=>(JW (w:=DW) (show bm+1+1≠j by have h1:=Ej.out.szm.2;have h2:=Ajx hj;omega) (.slice A' 4 c') (.slice B' 5 d') (.slice F' 2 g')).trans (FQ j cs (Ej.out.mp j cs hj)));clear pa FQ hx Ej m0 m1 m2 e0 e1 xu;have g0:=Aa (o:=0) AA rfl;have g1:=Aa (o:=1) AA rfl;have g2:=Aa (o:=2) AA rfl;have Gd:=Aj (o:=0) AA;have g4:=Aj (o:=1) AA;have g5:=Aj (o:=2) AA;have A7:=Ck (.slice A' 4 c') (.slice B' 5 d') (.slice F' 2 g') AA;have t1:=Aa (o:=0) A7 rfl;have t2:=Aa (o:=1) A7 rfl;have t3:=Aa (o:=2) A7 rfl;have BX:=Ajw (show BY B (((DW.setCell ⟨bm+1+1,0,none⟩ (.slice A' 4 c')).setCell ⟨bm+1+1,1,none⟩ (.slice B' 5 d')).setCell ⟨bm+1+1,2,none⟩ (.slice F' 2 g')) A' B' F' c' d' g' KX [[97],u] from⟨Ds hown.pts AA (by decide) _ _ _,Ds hown.eds AA (by decide) _ _ _,Ds hown.fac AA (by decide) _ _ _,hown.nf⟩);have VO:=Ajw (BI Cm Iq.out.2.1 (.slice A' 4 c') (.slice B' 5 d') (.slice F' 2 g'));clear hown Cm AA A7;go_wp2;refine bodyPost_ret (v:=.tuple #[.agg #[.slice A' 4 c',.slice B' 5 d',.slice F' 2 g'],.int .i64 0]) (by simp [results,Tryz.results93,go_sem,t1,t2,t3]) rfl ?_;exact⟨A',B',F',c',d',g',rfl,BX.out,VO.out,PN.out⟩
end Go.Proofs.YtgnejnampofhoaaGreatDoor
