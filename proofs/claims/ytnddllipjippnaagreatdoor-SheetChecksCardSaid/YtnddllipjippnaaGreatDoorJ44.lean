/- J44: KE KF KF2 KF3 KG0 KG. -/
import Derived.Test.YtnddllipjippnaaGreatDoorJ43
set_option maxRecDepth 100000
set_option maxHeartbeats 16000000
namespace Go.Proofs.YtnddllipjippnaaGreatDoor
open Go.RowKit Kl
theorem jq(m:MapZ)(p:Pt)(k:Nat)(hk:Et m.pts p=(k:Int))(f:Int)(A B F:Option Addr)(c d g:Nat)(AP:CY m c d g)(w:World)(hA:Af w A (flat (Aq m.pts))) :
  Calls Tryz.prog 66 #[AO A B F m c d g,.int .i64 f,Ak p] w (BG (.tuple #[AO A B F m c d g,.int .i64 (k:Nat)]) w):=by
 have h1:=Ao6 w (.cells #[.slice A m.pts.length c,.slice B m.eds.length d,.slice F m.nf g] 35);have h2:=Ao6 (w.alloc (.cells #[.slice A m.pts.length c,.slice B m.eds.length d,.slice F m.nf g] 35)) (.cells #[S (R p.x),S (R p.y)] 24);have h3:=Ao6 ((w.alloc (.cells #[.slice A m.pts.length c,.slice B m.eds.length d,.slice F m.nf g] 35)).alloc (.cells #[S (R p.x),S (R p.y)] 24)) (.cells #[.slice none 0 0,.slice none 0 0,.slice none 0 0] 35);rw [AoE]at h2;rw [AoE,AoE]at h3;have e1:=(Ab.refl w).alloc (.cells #[.slice A m.pts.length c,.slice B m.eds.length d,.slice F m.nf g] 35);have e2:=(Ab.refl (w.alloc (.cells #[.slice A m.pts.length c,.slice B m.eds.length d,.slice F m.nf g] 35))).alloc (.cells #[S (R p.x),S (R p.y)] 24);have e3:=(Ab.refl ((w.alloc (.cells #[.slice A m.pts.length c,.slice B m.eds.length d,.slice F m.nf g] 35)).alloc (.cells #[S (R p.x),S (R p.y)] 24))).alloc (.cells #[.slice none 0 0,.slice none 0 0,.slice none 0 0] 35);have hM:=((e2.trans e3).block _ (Ao5 h1)).trans h1;have hP:=(e3.block _ (Ao5 h2)).trans h2;have hE:=e1.trans (e2.trans e3);have ix:=Xz m.pts p A c _ (hA.ext hE) AP.c1 AP.c2;rw [hk]at ix;have hk0:(0:Int)<=(k:Int):=(by omega);unfold AO;unfold Ak at ix ⊢;clear h1 h2 e1 e2 e3 hA AP hk;go_enter Tryz.func66,Tryz.ntmps66
 go_upto_region 1 with fail
 generalize ((w.alloc (.cells #[.slice A m.pts.length c,.slice B m.eds.length d,.slice F m.nf g] 35)).alloc (.cells #[S (R p.x),S (R p.y)] 24)).alloc (.cells #[.slice none 0 0,.slice none 0 0,.slice none 0 0] 35)=V at *;obtain⟨bm,AW⟩:=Ao3 w.heap.size;have Dd:w.heap.size<=bm+1+1:=(by omega);rw [←AW]at hM hP h3 ⊢;clear AW;have k1:=Aa (o:=0) hM rfl;have j1:=Aa (o:=0) hP rfl;have j2:=Aa (o:=1) hP rfl;(go_wp2_with fail);(with_reducible refine ix.mono ?_);rintro e w1 ⟨rfl,hx1⟩;have Cp:=(hx1.block _ (Ao5 hM)).trans hM;have hR1:=(hx1.block _ (Ao5 h3)).trans h3;clear k1 j1 j2 hM hP h3 ix;have k1:=Aa (o:=0) Cp rfl;have k2:=Aa (o:=1) Cp rfl;have k3:=Aa (o:=2) Cp rfl;have r0:=Aa (o:=0) hR1 rfl;have r1:=Aa (o:=1) hR1 rfl;have r2:=Aa (o:=2) hR1 rfl;have r3:=Aj (o:=0) hR1;have r4:=Aj (o:=1) hR1;have r5:=Aj (o:=2) hR1;have hst:=DT (.slice A m.pts.length c) (.slice B m.eds.length d) (.slice F m.nf g) hR1;have t1:=Aa (o:=0) hst rfl;have t2:=Aa (o:=1) hst rfl;have t3:=Aa (o:=2) hst rfl;have hX:=CL (hE.trans hx1) Dd (.slice A m.pts.length c) (.slice B m.eds.length d) (.slice F m.nf g);have HX:=Ao4 hX;clear hX hst Cp hR1;go_wp2;refine bodyPost_ret (v:=.tuple #[.agg #[.slice A m.pts.length c,.slice B m.eds.length d,.slice F m.nf g],.int .i64 (k:Nat)]) (by simp [results,Tryz.results66,go_sem,t1,t2,t3]) rfl ?_;exact⟨rfl,HX.out⟩
theorem iU(l:List Int)(z:Int)(A:Option Addr)(c:Nat)(w:World)(hr:Af w A (zs l))(hc:l.length<=c)(hcm:c<=9223372036854775807) :
  Calls Tryz.prog 68 #[.slice A l.length c,.int .i64 z] w (AI (Dg (fun y=>z == y) l) w):=by
 obtain⟨r,hr0⟩:=Ao3 (Dg (fun y=>z == y) l);rw [←hr0];have HR:=Ao4 hr0;clear hr0;go_enter Tryz.func68,Tryz.ntmps68;go_wp2
 go_loopw [8] (fun i wr=>∃j:Nat,i=.int .i64 (j:Nat)/\j<=l.length/\(∀q∈l.take j,(z == q)=false)/\Ab w wr) (fun i _=>l.length-(intOf i).toNat)
 case atStart=>exact⟨0,rfl,by omega,by simp,Ab.refl _⟩
 case round=>
  obtain⟨j,rfl,hj,Ai,Ac⟩:=hrel;have HO:=Ao4 Ai;clear Ai;by_cases hlt:j<l.length
  ·obtain⟨b,o,rfl,hc1⟩:=(hr.ext Ac).ad (by simp [zs];omega);have g1:=hc1 j (by simp [zs];exact hlt);have ge:(zs l)[j]'(by simp [zs];exact hlt)=.int .i64 l[j]:=(by simp [zs]);rw [ge]at g1;obtain⟨y,hy⟩:=Ao3 (l[j]);rw [←hy]at g1;have HY:=Ao4 hy;have hj0:(0:Int)<=(j:Int):=(by omega);have Bc:(j:Int)<(l.length:Int):=(by omega);clear hy ge hc1
   cases e0:(z == y)
   ·have HE:=Ao4 e0;go_wp2;go_roundw
    case rel=>
     refine⟨j+1,by go_num,hlt,?_,Ac⟩;intro x hx;rw [AoA hlt,←HY.out]at hx
     rcases List.mem_append.1 hx with h|h
     ·exact HO.out x h
     ·simp only [AoJ]at h;rw [h];exact HE.out
    case measure=>simp [intOf];omega
   ·have EJ:r=(j:Int):=(by rw [HR.out];exact iS hlt HO.out (by rw [←HY.out];exact e0));subst EJ;go_wp2;go_ret;exact⟨rfl,Ac⟩
  ·have hle:(l.length:Int)<=(j:Int):=(by omega);have EJ:r = -1:=(by rw [HR.out];exact iT (by have:=HO.out;rw [AoF (by omega)]at this;exact this));subst EJ;go_wp2;go_ret;exact⟨rfl,Ac⟩
theorem AcN(l:List Int)(z:Int)(A:Option Addr)(c:Nat)(w:World)(hr:Af w A (zs l))(hc:l.length<=c)(hcm:c<=9223372036854775807) :
  Calls Tryz.prog 67 #[.slice A l.length c,.int .i64 z] w (BF (l.any (fun y=>z == y)) w):=by
 have ix:=iU l z A c w hr hc hcm;have ha:=iR (fun y=>z == y) l;obtain⟨r,hr0⟩:=Ao3 (l.any (fun y=>z == y));rw [←hr0]at ha ⊢;generalize Dg (fun y=>z == y) l=n at *;have HA:=Ao4 ha;clear hr0 ha hr;go_enter Tryz.func67,Tryz.ntmps67;(go_wp2_with fail);(with_reducible refine ix.mono ?_);rintro e w2 ⟨rfl,hx2⟩;go_wp2;go_ret;exact⟨by rw [←HA.out];rfl,hx2⟩
section
variable {ops : Array Oper} {rest : List Oper} {o : Oper} {a : Act} {Q : Exit → Act → World → Prop}
theorem AbC(hgd:o.guard=none)(s x:Operand)(ho:o.op=.call {callee:=.builtin .append,args:=#[s,x],argTypes:=#[33,33]})
  (wN:World) (base:Nat) (v:Value) (n:Nat) (l:List Bs) (hs:a.eval s=v) (hown:wN.ownsRow base 9 1 v n (l.map S)) (hn:n<200000) (d:Bs)
  (g:Nat) (hb:wN.heap[g]?=some (.cells #[S d] 9)) (hx:a.eval x=.slice (some ⟨g,0,none⟩) 1 1) (hbase:base<=wN.heap.size)
  (h:∀v' w',w'.ownsRow base 9 1 v' (n+1) ((l ++ [d]).map S)→(∀w0,Ab w0 wN→w0.heap.size<=base→Ab w0 w')→wN.grownBy w' v.ownBlock→wpList Tryz.prog ops Q rest (a.put o.dst v') w') :
  wpList Tryz.prog ops Q (o::rest) a wN:=
 wpList_plain hgd fun _ hK=>xm s x ho wN base v n l hs hown hn d g hb hx hbase fun v' w' h1 h2 h3=>hK _ _ (h v' w' h1 h2 h3)
theorem Ab6(hgd:o.guard=none)(s x:Operand)(ho:o.op=.call {callee:=.builtin .append,args:=#[s,x],argTypes:=#[32,32]})
  (wN:World) (base:Nat) (v:Value) (n:Nat) (l:List EdZ) (hs:a.eval s=v) (hown:wN.ownsRow base 51 4 v n (A9 l)) (hn:n<200000) (d:EdZ)
  (g:Nat) (hb:wN.heap[g]?=some (.cells #[.int .i64 d.f,.int .i64 d.t,.int .i64 d.l,.int .i64 d.r] 51)) (hx:a.eval x=.slice (some ⟨g,0,none⟩) 1 1) (hbase:base<=wN.heap.size)
  (h:∀v' w',w'.ownsRow base 51 4 v' (n+1) (A9 (l ++ [d]))→(∀w0,Ab w0 wN→w0.heap.size<=base→Ab w0 w')→wN.grownBy w' v.ownBlock→wpList Tryz.prog ops Q rest (a.put o.dst v') w') :
  wpList Tryz.prog ops Q (o::rest) a wN:=by
 obtain⟨i0,hi,hz0,hz1,hz2⟩:=info_parts Tryz.infoEd;refine wpList_plain hgd fun _ hK=>mI s x 32 ho 51 i0 _ 4 32 1 Tryz.underlying32 hi hz0 hz1 hz2 rfl (by omega) (by omega) (by omega) wN base v n _ hs hown hn g _ hb rfl ?_ hx hbase ?_
 ·intro u hu;simp only [List.mem_cons,AoI,or_false]at hu
  rcases hu with rfl|rfl|rfl|rfl<;>rfl
 ·intro v' w' h1 h2 h3;refine hK _ _ (h v' w' ?_ h2 h3);rw [show A9 (l ++ [d])=A9 l ++ [.int .i64 d.f,.int .i64 d.t,.int .i64 d.l,.int .i64 d.r] by simp [A9]];exact h1
end
def KC(u v fr:Int)(e:EdZ):EdZ:=if e.f=u/\e.t=v then ⟨e.f,e.t,fr,e.r⟩else if e.f=v/\e.t=u then ⟨e.f,e.t,e.l,fr⟩else e
def NF(l:List Int)(fr:Int)(E:List EdZ)(i0:Nat):Nat→List EdZ
 | 0=>E
 | k+1=>(NF l fr E i0 k).map (KC (l.getD ((i0+k) % l.length) 0) (l.getD ((i0+k+1) % l.length) 0) fr)
theorem oy(l:List Int)(fr:Int)(E:List EdZ)(i0:Nat):∀k,(NF l fr E i0 k).length=E.length
 | 0=>rfl
 | k+1=>by rw [NF,List.length_map];exact oy l fr E i0 k
structure FU(w0 wM:World)(B:Nat)(wr:World)(bm be bR:Nat)(A Al:Option Addr)(c cl:Nat)(E F:Value)(pts:List Pt)(eds:List EdZ)(fa:List Bs)(l:List Int)(e0 e1:Int):Prop where
 cM:wr.heap[bm]?=some (.cells #[.slice A pts.length c,E,F] 35)
 cE:wr.heap[be]?=some (.cells #[.int .i64 e0,.int .i64 e1] 120)
 cR:wr.heap[bR]?=some (.cells #[.slice none 0 0,.slice none 0 0,.slice none 0 0] 35)
 pts:wr.ownsRow B 24 2 (.slice A pts.length c) pts.length (flat (Aq pts))
 eds:wr.ownsRow B 51 4 E eds.length (A9 eds)
 fac:wr.ownsRow B 9 1 F fa.length (fa.map S)
 lst:wr.ownsRow 0 3 1 (.slice Al l.length cl) l.length (zs l)
 ext:Ab w0 wr
 szB:w0.heap.size<=B
 szb:w0.heap.size<=bm/\w0.heap.size<=bR/\bm≠bR/\B<=wr.heap.size
 szm:wM.heap.size<=bm/\wM.heap.size<=bR
 mp:∀(j:Nat) (cs:Array Value),wM.heap[j]?=some (.cells cs 35)→wr.heap[j]?=some (.cells cs 35)
theorem FU.grow{w0 wM:World}{B:Nat}{wr w':World}{bm be bR:Nat}{A Al:Option Addr}{c cl:Nat}{E F:Value}{pts:List Pt}{eds:List EdZ}{fa:List Bs}{l:List Int}{e0 e1:Int}(h:FU w0 wM B wr bm be bR A Al c cl E F pts eds fa l e0 e1)(hx:Ab wr w'):FU w0 wM B w' bm be bR A Al c cl E F pts eds fa l e0 e1:=
 ⟨(hx.block _ (Ao5 h.cM)).trans h.cM,(hx.block _ (Ao5 h.cE)).trans h.cE,(hx.block _ (Ao5 h.cR)).trans h.cR,AL h.pts hx,AL h.eds hx,AL h.fac hx,AL h.lst hx,h.ext.trans hx,h.szB,⟨h.szb.1,h.szb.2.1,h.szb.2.2.1,AoH h.szb.2.2.2 hx.size⟩,h.szm,fun j cs hj=>(hx.block _ (Ao5 (h.mp j cs hj))).trans (h.mp j cs hj)⟩
theorem sU:∀(l:List EdZ) (k:Nat) (z:Int),k<l.length→(A9 l).set (k*4+2) (.int .i64 z)=A9 (l.set k ⟨(l.getD k ⟨0,0,0,0⟩).f,(l.getD k ⟨0,0,0,0⟩).t,z,(l.getD k ⟨0,0,0,0⟩).r⟩)
 | [],_,_,h=>by simp at h
 | e::l,0,z,_=>rfl
 | e::l,k+1,z,h=>by
  have ih:=sU l k z (by simpa using h);have e0:A9 (e::l)=.int .i64 e.f :: .int .i64 e.t :: .int .i64 e.l :: .int .i64 e.r::A9 l:=rfl;have e1:(k+1)*4+2=k*4+2+1+1+1+1:=(by omega);rw [e0,e1];simp only [List.set_cons_succ,ih,List.getD_cons_succ]
  rfl
theorem sV:∀(l:List EdZ) (k:Nat) (z:Int),k<l.length→(A9 l).set (k*4+3) (.int .i64 z)=A9 (l.set k ⟨(l.getD k ⟨0,0,0,0⟩).f,(l.getD k ⟨0,0,0,0⟩).t,(l.getD k ⟨0,0,0,0⟩).l,z⟩)
 | [],_,_,h=>by simp at h
 | e::l,0,z,_=>rfl
 | e::l,k+1,z,h=>by
  have ih:=sV l k z (by simpa using h);have e0:A9 (e::l)=.int .i64 e.f :: .int .i64 e.t :: .int .i64 e.l :: .int .i64 e.r::A9 l:=rfl;have e1:(k+1)*4+3=k*4+3+1+1+1+1:=(by omega);rw [e0,e1];simp only [List.set_cons_succ,ih,List.getD_cons_succ]
  rfl
theorem FU.cell{w0 wM:World}{B:Nat}{wr:World}{bm be bR:Nat}{A Al:Option Addr}{c cl:Nat}{F:Value}{pts:List Pt}{eds eds':List EdZ}{fa:List Bs}{l:List Int}{e0 e1:Int}{g n d:Nat}(h:FU w0 wM B wr bm be bR A Al c cl (.slice (some ⟨g,0,none⟩) n d) F pts eds fa l e0 e1)(hn:n=eds.length)
  (k:Nat) (z:Int) (he:(A9 eds).set k (.int .i64 z)=A9 eds') (hl:eds'.length=eds.length):FU w0 wM B (wr.setCell ⟨g,k,none⟩ (.int .i64 z)) bm be bR A Al c cl (.slice (some ⟨g,0,none⟩) n d) F pts eds' fa l e0 e1:=by
 subst hn;have hge:=h.eds
 have hg:∃cur,wr.heap[g]?=some (.cells cur 51 (0,0)):=by
  rcases hge.2 with⟨h',_⟩|⟨g',cap,cur,h',_,hgb,_⟩
  ·cases h'
  ·simp only [Value.slice.injEq,AoB,Addr.mk.injEq,and_true]at h';obtain⟨⟨rfl⟩,-⟩:=h';exact⟨cur,hgb⟩
 obtain⟨cur,hg⟩:=hg;have hst:=(hge.stored k (.int .i64 z)).1;rw [he]at hst;have bb:=(AD.refl (fun q=>q=g) wr).setCell (p:=⟨g,k,none⟩) (.inl rfl) (.int .i64 z);have kp:∀{e:TypeId} {s m:Nat} {v:Value} {xs:List Value} {B':Nat},wr.ownsRow B' e s v m xs→e≠51→(wr.setCell ⟨g,k,none⟩ (.int .i64 z)).ownsRow B' e s v m xs:=fun hv hne=>Cg hv bb (fun q hq e=>by subst e;exact BQ hv hg hne hq)
 have far:∀{j:Nat} {cs:Array Value} {t:TypeId},wr.heap[j]?=some (.cells cs t)→t≠51→(wr.setCell ⟨g,k,none⟩ (.int .i64 z)).heap[j]?=some (.cells cs t):=fun hj hne=>by rw [Cj (by exact CU hj hg hne)];exact hj
 have hB:B<=g:=(hge.lt g rfl).1;refine⟨far h.cM (by decide),far h.cE (by decide),far h.cR (by decide),kp h.pts (by decide),by rw [hl];exact hst,kp h.fac (by decide),kp h.lst (by decide),h.ext.setCell (p:=⟨g,k,none⟩) (AoH h.szB hB) _,h.szB,⟨h.szb.1,h.szb.2.1,h.szb.2.2.1,AoH h.szb.2.2.2 bb.size⟩,h.szm,fun j cs hj=>far (h.mp j cs hj) (by decide)⟩
theorem Pg(w:World)(o1 o2 o3:Obj):(((w.alloc o1).alloc o2).alloc o3).heap[w.heap.size]?=some o1/\(((w.alloc o1).alloc o2).alloc o3).heap[w.heap.size+1]?=some o2/\(((w.alloc o1).alloc o2).alloc o3).heap[w.heap.size+1+1]?=some o3/\Ab w (((w.alloc o1).alloc o2).alloc o3):=by
 have h1:=Ao6 w o1;have h2:=Ao6 (w.alloc o1) o2;have h3:=Ao6 ((w.alloc o1).alloc o2) o3;rw [AoE]at h2;rw [AoE,AoE]at h3;have e1:=(Ab.refl w).alloc o1;have e2:=(Ab.refl (w.alloc o1)).alloc o2;have e3:=(Ab.refl ((w.alloc o1).alloc o2)).alloc o3;exact⟨((e2.trans e3).block _ (Ao5 h1)).trans h1,(e3.block _ (Ao5 h2)).trans h2,h3,e1.trans (e2.trans e3)⟩
theorem PQ{w w':World}{B B':Nat}{e e':TypeId}{s s' n n':Nat}{v v':Value}{xs xs':List Value}(hg:w.grownBy w' v.ownBlock)(hv:w.ownsRow B e s v n xs)(hu:w.ownsRow B' e' s' v' n' xs')(hne:e'≠e):w'.ownsRow B' e' s' v' n' xs':=by
 refine hu.kept hg ?_
 cases hb:v.ownBlock with
 | none=>
  cases hb':v'.ownBlock with
  | none=>exact .inl rfl
  | some k=>exact .inr (by simp)
 | some k=>
  refine .inr (fun e0=>?_)
  rcases hv.2 with⟨h',_⟩|⟨g,cap,cur,h',_,hgb,_⟩
  ·rw [h']at hb;cases hb
  ·rw [h']at hb;simp only [Value.ownBlock,AoB]at hb;subst hb;exact BQ hu hgb hne e0
theorem GI{w w':World}{B:Nat}{e:TypeId}{s n:Nat}{v:Value}{xs:List Value}(hg:w.grownBy w' v.ownBlock)(hv:w.ownsRow B e s v n xs){j:Nat}{cs:Array Value}{t:TypeId}(hj:w.heap[j]?=some (.cells cs t))(hne:e≠t):w'.heap[j]?=some (.cells cs t):=
 (hg.block j (Ao5 hj) (fun e0=>BQ hv hj hne e0.symm)).trans hj
theorem qH{w:World}{b:Nat}{a0 a1 a2:Value}{t:TypeId}(v:Value)(h:w.heap[b]?=some (.cells #[a0,a1,a2] t)):(w.setCell ⟨b,1,none⟩ v).heap[b]?=some (.cells #[a0,v,a2] t):=by
 simp only [World.setCell,Array.getElem?_modify,h];simp
section
variable {w0 wM : World} {B : Nat} {wr w' : World} {bm be bR : Nat} {A Al : Option Addr} {c cl : Nat} {E F F' E' : Value} {pts : List Pt} {eds eds' : List EdZ} {fa fa' : List Bs} {l : List Int} {e0 e1 : Int}
theorem FU.faces(h:FU w0 wM B wr bm be bR A Al c cl E F pts eds fa l e0 e1)(hg:wr.grownBy w' F.ownBlock)(ho:w'.ownsRow B 9 1 F' fa'.length (fa'.map S)) :
  w'.heap[bm]?=some (.cells #[.slice A pts.length c,E,F] 35)/\FU w0 wM B (w'.setCell ⟨bm,2,none⟩ F') bm be bR A Al c cl E F' pts eds fa' l e0 e1:=by
 have hM:=GI hg h.fac h.cM (by decide);have bb:=(AD.refl (fun q=>q=bm) w').setCell (p:=⟨bm,2,none⟩) (.inl rfl) F'
 have kp:∀{e:TypeId} {s m:Nat} {v:Value} {xs:List Value} {B':Nat},wr.ownsRow B' e s v m xs→e≠9→e≠35→(w'.setCell ⟨bm,2,none⟩ F').ownsRow B' e s v m xs:=fun hv h1 h2=>by have hv':=PQ hg h.fac hv h1;exact Cg hv' bb (fun q hq e=>by subst e;exact BQ hv' hM h2 hq)
 have hE:=GI hg h.fac h.cE (by decide);have hR:=GI hg h.fac h.cR (by decide);have hX:Ab w0 w':=h.ext.grown hg (fun k hk=>AoH h.szB (h.fac.lt k hk).1);refine⟨hM,⟨qI F' hM,?_,?_,kp h.pts (by decide) (by decide),kp h.eds (by decide) (by decide),?_,kp h.lst (by decide) (by decide),hX.setCell (p:=⟨bm,2,none⟩) h.szb.1 F',h.szB,⟨h.szb.1,h.szb.2.1,h.szb.2.2.1,AoH h.szb.2.2.2 (AoH hg.size bb.size)⟩,h.szm,fun j cs hj=>by rw [Cj (by exact fun e=>by have h1:=h.szm.1;have h2:=Ao5 hj;dsimp only at e;omega)];exact GI hg h.fac (h.mp j cs hj) (by decide)⟩⟩
 ·rw [Cj (by exact CU hE hM (by decide))];exact hE
 ·rw [Cj (by exact fun e=>h.szb.2.2.1 e.symm)];exact hR
 ·exact Cg ho bb (fun q hq e=>by subst e;exact BQ ho hM (by decide) hq)
theorem FU.edges(h:FU w0 wM B wr bm be bR A Al c cl E F pts eds fa l e0 e1)(hg:wr.grownBy w' E.ownBlock)(ho:w'.ownsRow B 51 4 E' eds'.length (A9 eds')) :
  w'.heap[bm]?=some (.cells #[.slice A pts.length c,E,F] 35)/\FU w0 wM B (w'.setCell ⟨bm,1,none⟩ E') bm be bR A Al c cl E' F pts eds' fa l e0 e1:=by
 have hM:=GI hg h.eds h.cM (by decide);have bb:=(AD.refl (fun q=>q=bm) w').setCell (p:=⟨bm,1,none⟩) (.inl rfl) E'
 have kp:∀{e:TypeId} {s m:Nat} {v:Value} {xs:List Value} {B':Nat},wr.ownsRow B' e s v m xs→e≠51→e≠35→(w'.setCell ⟨bm,1,none⟩ E').ownsRow B' e s v m xs:=fun hv h1 h2=>by have hv':=PQ hg h.eds hv h1;exact Cg hv' bb (fun q hq e=>by subst e;exact BQ hv' hM h2 hq)
 have hE:=GI hg h.eds h.cE (by decide);have hR:=GI hg h.eds h.cR (by decide);have hX:Ab w0 w':=h.ext.grown hg (fun k hk=>AoH h.szB (h.eds.lt k hk).1);refine⟨hM,⟨qH E' hM,?_,?_,kp h.pts (by decide) (by decide),?_,kp h.fac (by decide) (by decide),kp h.lst (by decide) (by decide),hX.setCell (p:=⟨bm,1,none⟩) h.szb.1 E',h.szB,⟨h.szb.1,h.szb.2.1,h.szb.2.2.1,AoH h.szb.2.2.2 (AoH hg.size bb.size)⟩,h.szm,fun j cs hj=>by rw [Cj (by exact fun e=>by have h1:=h.szm.1;have h2:=Ao5 hj;dsimp only at e;omega)];exact GI hg h.eds (h.mp j cs hj) (by decide)⟩⟩
 ·rw [Cj (by exact CU hE hM (by decide))];exact hE
 ·rw [Cj (by exact fun e=>h.szb.2.2.1 e.symm)];exact hR
 ·exact Cg ho bb (fun q hq e=>by subst e;exact BQ ho hM (by decide) hq)
end
def Em(U V fr:Int)(E:List EdZ)(k:Nat):List EdZ:=(E.take k).map (KC U V fr)++E.drop k
theorem Je(U V fr:Int)(E:List EdZ)(k:Nat):(Em U V fr E k).length=E.length:=by
 unfold Em;rw [List.length_append,List.length_map,List.length_take,List.length_drop];omega
theorem rV{U V fr:Int}{E:List EdZ}{k:Nat}(hk:k<E.length):(Em U V fr E k)[k]?=some E[k]:=by
 unfold Em;rw [List.getElem?_append_right (by rw [List.length_map,List.length_take];omega),List.length_map,List.length_take,Nat.min_eq_left (by omega),Nat.sub_self,List.getElem?_drop];simp [hk]
theorem rW{U V fr:Int}{E:List EdZ}{k:Nat}(hk:k<E.length):Em U V fr E (k+1)=(Em U V fr E k).set k (KC U V fr E[k]):=by
 have h1:((E.take k).map (KC U V fr)).length=k:=(by rw [List.length_map,List.length_take];omega);unfold Em;rw [AoA hk,List.map_append,List.append_assoc,List.set_append_right _ _ (by omega),h1,Nat.sub_self,List.drop_eq_getElem_cons hk]
 rfl
theorem AcV{U V fr:Int}{E:List EdZ}{k:Nat}(hk:k<E.length)(h:KC U V fr E[k]=E[k]):Em U V fr E (k+1)=Em U V fr E k:=by
 rw [rW hk,h];have h2:=rV (U:=U) (V:=V) (fr:=fr) hk;obtain⟨h3,h4⟩:=List.getElem?_eq_some_iff.1 h2;rw [←h4,List.set_getElem_self]
theorem AcU(U V fr:Int)(E:List EdZ):Em U V fr E E.length=E.map (KC U V fr):=by
 unfold Em;rw [List.take_length,List.drop_length,List.append_nil]
theorem Lg{w:World}{b j:Nat}(hne:b≠j)(x y z:Value):(((w.setCell ⟨b,0,none⟩ x).setCell ⟨b,1,none⟩ y).setCell ⟨b,2,none⟩ z).heap[j]?=w.heap[j]?:=by
 rw [Cj (by exact hne.symm),Cj (by exact hne.symm),Cj (by exact hne.symm)]
def U3(m:MapZ)(l:List Int)(f e0 e1:Int)(i0 N:Nat):MapZ:=⟨m.pts,NF l (m.nf:Int) m.eds i0 (N-i0) ++ [⟨e0,e1,(m.nf:Int),f⟩],m.nf+1⟩
theorem AiT(m:MapZ)(fa:List Bs)(l:List Int)(f e0 e1:Int)(u:Bs)(i0 N:Nat)(Cr:m.nf=fa.length)(h1:Dg (fun y=>e1 == y) l=(i0:Int))(hN:i0<=N)(GM:N<=1000)(hend:l.getD (N%l.length) 0=e0)(hrun:∀i,i0<=i→i<N→l.getD (i%l.length) 0≠e0)
  (hck:Fx (U3 m l f e0 e1 i0 N)=0) (hgr:∀p∈m.pts,Db p) (hel:m.eds.length<=1000) (Ic:0<m.eds.length) (D6:fa.length<=1000) (EH:l.length<=1000) (hl0:0<l.length) (A Bk F Al:Option Addr) (c d g cl:Nat) {B:Nat} {w0 w:World} (hw:Am w0) (hx:Ab w0 w) (hB0:w0.heap.size<=B) (I5:B<=w.heap.size)
  (hm:C7 B w A Bk F c d g m fa) (hl:w.ownsRow 0 3 1 (.slice Al l.length cl) l.length (zs l)) :
  Calls Tryz.prog 69 #[AO A Bk F m c d g,.int .i64 f,.slice Al l.length cl,.agg #[.int .i64 e0,.int .i64 e1],S u] w
   (fun e w'=>∃A' B' F' c' d' g',e=.returned (.tuple #[AO A' B' F' (U3 m l f e0 e1 i0 N) c' d' g',.int .i64 0])/\C7 B w' A' B' F' c' d' g' (U3 m l f e0 e1 i0 N) (fa ++ [u])/\Ab w0 w'/\∀(j:Nat) (cs:Array Value),w.heap[j]?=some (.cells cs 35)→w'.heap[j]?=some (.cells cs 35)):=by
 obtain⟨hM,hE,hR,hX⟩:=Pg w (.cells #[.slice A m.pts.length c,.slice Bk m.eds.length d,.slice F m.nf g] 35) (.cells #[.int .i64 e0,.int .i64 e1] 120) (.cells #[.slice none 0 0,.slice none 0 0,.slice none 0 0] 35)
 have GP:FU w0 w B (((w.alloc (.cells #[.slice A m.pts.length c,.slice Bk m.eds.length d,.slice F m.nf g] 35)).alloc (.cells #[.int .i64 e0,.int .i64 e1] 120)).alloc (.cells #[.slice none 0 0,.slice none 0 0,.slice none 0 0] 35)) w.heap.size (w.heap.size+1) (w.heap.size+1+1) A Al c cl (.slice Bk m.eds.length d) (.slice F m.nf g) m.pts m.eds fa l e0 e1:=by refine⟨hM,hE,hR,AL hm.pts hX,AL hm.eds hX,?_,AL hl hX,hx.trans hX,hB0,⟨by have:=hx.size;omega,by have:=hx.size;omega,by omega,AoH I5 hX.size⟩,⟨Ao7 _,by omega⟩,fun j cs hj=>(hX.block _ (Ao5 hj)).trans hj⟩;have:=AL hm.fac hX;rw [Cr]at this ⊢;exact this
 obtain⟨gE,rfl⟩:∃gE,Bk=some ⟨gE,0,none⟩:=by
  obtain⟨gE,e⟩:∃gE,Bk=some ⟨gE,0,none⟩:=by
   rcases hm.eds.2 with⟨h',_⟩|⟨g',cap,cur,h',_⟩
   ·simp only [Value.slice.injEq]at h';omega
   ·simp only [Value.slice.injEq]at h';exact⟨g',h'.1⟩
  exact⟨gE,e⟩
 obtain⟨gL,rfl⟩:∃gL,Al=some ⟨gL,0,none⟩:=by
  rcases hl.2 with⟨h',_⟩|⟨g',cap,cur,h',_⟩
  ·simp only [Value.slice.injEq]at h';omega
  ·simp only [Value.slice.injEq]at h';exact⟨g',h'.1⟩
 have hXX:=hx.trans hX;have ix:=iU l e1;rw [h1]at ix;have HN:=Ao4 Cr;have y9:=Ao4 hend;have RA:=Ao4 hrun;have yo:=Ao4 hck;have UZ:=Ao4 hgr;have HIX:=Ao4 ix;obtain⟨nf,fH⟩:=Ao3 m.nf;have An7:nf<=1000:=(by omega);have HNF:=Ao4 fH;unfold AO;rw [←fH]at GP ⊢;clear hm hl hM hE hR hX Cr hend hrun hck hgr h1 ix fH;go_enter Tryz.func69,Tryz.ntmps69
 go_upto_region 1 with fail
 generalize ((w.alloc (.cells #[.slice A m.pts.length c,.slice (some ⟨gE,0,none⟩) m.eds.length d,.slice F nf g] 35)).alloc (.cells #[.int .i64 e0,.int .i64 e1] 120)).alloc (.cells #[.slice none 0 0,.slice none 0 0,.slice none 0 0] 35)=V at *;obtain⟨bm,AW⟩:=Ao3 w.heap.size;rw [←AW]at GP ⊢;clear AW hx I5;have k0:V.cell? ⟨bm,2,none⟩=some (.slice F nf g):=Aa GP.cM rfl;have hBV:=GP.szb.2.2.2;have Hp:=Ao4 GP;clear GP
 go_wp2_with (at_builtin;go_loud (refine AbC rfl _ _ rfl _ B (.slice F nf g) fa.length fa rfl (AL Hp.out.fac ((Ab.refl V).alloc _)) (by omega) u V.heap.size (Ao6 V _) rfl (AoH hBV ((Ab.refl V).alloc _).size) ?_);intro v9 w9 CE dW DW;obtain⟨oF,cF,rfl,-,-,-⟩:=Af.of_own' (by omega) CE;obtain⟨Gs,SZ⟩:=(Hp.out.grow ((Ab.refl V).alloc _)).faces DW (fa':=fa ++ [u]) (by rw [List.length_append];exact CE);have j0:w9.cell? ⟨bm,2,none⟩=some (.slice F nf g):=Aa Gs rfl;have j1:=Aj (o:=2) Gs;have j2:w9.cell? ⟨bm+1,1,none⟩=some (.int .i64 e1):=Aa (GI DW (Hp.out.grow ((Ab.refl V).alloc _)).fac (Hp.out.grow ((Ab.refl V).alloc _)).cE (by decide)) rfl)
 have Ee:=Ao4 SZ;clear SZ DW CE dW Gs k0;generalize w9.setCell ⟨bm,2,none⟩ (.slice oF (fa.length+1) cF)=W9 at *;clear j0 j1 j2
 have hrl:∀(E:Value) (eds:List EdZ) (W:World),FU w0 w B W bm (bm+1) (bm+1+1) A (some ⟨gL,0,none⟩) c cl E (.slice oF (fa.length+1) cF) m.pts eds (fa ++ [u]) l e0 e1→Af W (some ⟨gL,0,none⟩) (zs l)/\l.length<=cl/\cl<=9223372036854775807:=by intro E eds W h;obtain⟨A1,c1,e,r,s,t⟩:=Af.of_own' (by omega) h.lst;simp only [Value.slice.injEq,true_and]at e;obtain⟨rfl,rfl⟩:=e;exact⟨r,s,t⟩
 have KO:=Ao4 hrl;clear hrl;obtain⟨r1,r2,r3⟩:=KO.out _ _ _ Ee.out;have ix:=HIX.out (some ⟨gL,0,none⟩) cl W9 r1 r2 r3;clear r1;(with_reducible refine ix.mono ?_);rintro e MD ⟨rfl,hx10⟩;have nP:=Ao4 (Ee.out.grow hx10);clear ix hx10 Ee Hp;obtain⟨fr,hfr⟩:=Ao3 ((nf:Int):Int);rw [←hfr];have YJ:=Ao4 hfr;clear hfr;obtain⟨n,hn⟩:=Ao3 l.length;rw [←hn]at hl0 EH r2 ⊢;have NU:=Ao4 hn;clear hn;obtain⟨ne,hne⟩:=Ao3 m.eds.length;rw [←hne]at hel Ic ⊢;have nL:=Ao4 hne;clear hne
 go_upto_region 4 with fail
 go_loopw [13] (fun iv wr=>∃i:Nat,iv=.int .i64 (i:Nat)/\i0<=i/\i<=N/\FU w0 w B wr bm (bm+1) (bm+1+1) A (some ⟨gL,0,none⟩) c cl (.slice (some ⟨gE,0,none⟩) ne d) (.slice oF (fa.length+1) cF) m.pts (NF l fr m.eds i0 (i-i0)) (fa ++ [u]) l e0 e1) (fun iv _=>N-(intOf iv).toNat)
 case atStart=>exact⟨i0,rfl,Ao7 _,hN,by rw [Nat.sub_self,nL.out];exact nP.out⟩
 case round=>
  obtain⟨i,rfl,Kh,hiN,hP⟩:=hrel;have HP:=Ao4 hP;clear hP;obtain⟨Ei,Wg⟩:=Ao3 (NF l fr m.eds i0 (i-i0));rw [←Wg]at HP;have Dq:Ei.length=ne:=(by rw [Wg,oy,nL.out]);have mU:=Ao4 Wg;clear Wg;obtain⟨k,hk⟩:=Ao3 (i%n);obtain⟨q,hq⟩:=Ao3 ((i+1)%n);have Ce:k<n:=(by rw [hk];exact Nat.mod_lt _ hl0);have IE:q<n:=by rw [hq];exact Nat.mod_lt _ hl0
  have LD:((i:Int)).tmod (n:Int)=(k:Int):=by rw [Int.tmod_eq_emod_of_nonneg (by omega),hk,Int.natCast_emod]
  have zP:((i:Int))%(n:Int)=(k:Int):=by rw [hk,Int.natCast_emod]
  have hqi:((i:Int)+1).tmod (n:Int)=(q:Int):=by rw [Int.tmod_eq_emod_of_nonneg (by omega),hq,Int.natCast_emod];rfl
  have AnH:((i:Int)+1)%(n:Int)=(q:Int):=(by rw [hq,Int.natCast_emod];rfl);have Gc:¬((n:Int)=0):=(by omega);have Jy:¬(n=0):=(by omega);have Cf:((n:Int) == 0)=false:=beq_false_of_ne Gc;have Qp:IntKind.wrap .i64 (k:Int)=(k:Int):=AoD _ (by omega);have dw:IntKind.wrap .i64 (q:Int)=(q:Int):=AoD _ (by omega);have hiw:IntKind.wrap .i64 ((i:Int)+1)=(i:Int)+1:=AoD _ (by omega);have k0':(0:Int)<=(k:Int):=(by omega);have k1':(k:Int)<(n:Int):=(by omega);have q0':(0:Int)<=(q:Int):=(by omega);have q1':(q:Int)<(n:Int):=(by omega);obtain⟨x,iJ⟩:=Ao3 (l.getD k 0);obtain⟨y,iL⟩:=Ao3 (l.getD q 0)
  have ck:wr.cell? ⟨gL,k,none⟩=some (.int .i64 x):=by rw [HP.out.lst.cellAt k (by have:=NU.out;omega),iJ];simp [zs,List.getD_eq_getElem?_getD,AoC (show k<l.length by rw [←NU.out];exact Ce)]
  have cq:wr.cell? ⟨gL,q,none⟩=some (.int .i64 y):=by rw [HP.out.lst.cellAt q (by have:=NU.out;omega),iL];simp [zs,List.getD_eq_getElem?_getD,AoC (show q<l.length by rw [←NU.out];exact IE)]
  have c0:wr.cell? ⟨bm+1,0,none⟩=some (.int .i64 e0):=Aa HP.out.cE rfl;have c1:wr.cell? ⟨bm+1,1,none⟩=some (.int .i64 e1):=Aa HP.out.cE rfl;have Ez:=Ao4 (And.intro iJ (And.intro iL (And.intro hk hq)));clear iJ iL hk hq;have f1:∀z:Ad wr,z.w.cell? ⟨gL,k,none⟩=some (.int .i64 x):=Ad.cell ck;have f2:∀z:Ad wr,z.w.cell? ⟨bm+1,0,none⟩=some (.int .i64 e0):=Ad.cell c0;by_cases IH:x=e0
  ·have zI:i=N:=by refine Classical.byContradiction fun hne=>?_;refine RA.out i Kh (by omega) ?_;rw [←NU.out,←Ez.out.2.2.1,←Ez.out.1];exact IH
   subst zI;have hxb:(x != e0)=false:=(by rw [IH];simp);clear IH
   go_upto_region 4 with fail
   refine Di (by kernel_rfl) (by kernel_rfl) ?_
   repeat (go_big_quiet_step (fail))
   refine wpQuiet_nil ?_;rintro W4 ⟨z,hz⟩;have Ag:Ab wr W4:=hz▸z.h;clear hz z f1 f2 ck cq c0 c1;have FR:=Ao4 (HP.out.grow Ag);clear Ag HP nP;obtain⟨M',PX⟩:=Ao3 (U3 m l f e0 e1 i0 i)
   have bJ:Ei ++ [⟨e0,e1,fr,f⟩]=M'.eds:=by rw [PX,mU.out,YJ.out,HNF.out];rfl
   have Kb:M'.pts=m.pts:=(by rw [PX];rfl);have vN:M'.nf=fa.length+1:=(by rw [PX];show m.nf+1=_;rw [HN.out]);have vM:M'.eds.length=ne+1:=(by rw [←bJ,List.length_append,Dq];rfl);have yH:Fx M'=0:=(by rw [PX];exact yo.out);have zE:∀p∈M'.pts,Db p:=(by rw [Kb];exact UZ.out);have HM:=Ao4 (And.intro PX (And.intro bJ (And.intro Kb (And.intro vN (And.intro vM (And.intro yH zE))))));clear PX bJ Kb vN vM yH zE;have k0:W4.cell? ⟨bm,1,none⟩=some (.slice (some ⟨gE,0,none⟩) ne d):=Aa FR.out.cM rfl;have k1:W4.cell? ⟨bm+1,0,none⟩=some (.int .i64 e0):=Aa FR.out.cE rfl;have k2:W4.cell? ⟨bm+1,1,none⟩=some (.int .i64 e1):=Aa FR.out.cE rfl;have JZ:=FR.out.eds;rw [Dq]at JZ;have zb:=Ao4 JZ;clear JZ
   go_wp2_with (at_builtin;go_loud (refine Ab6 rfl _ _ rfl _ B (.slice (some ⟨gE,0,none⟩) ne d) ne Ei rfl (AL zb.out ((Ab.refl W4).alloc _)) (by omega) ⟨e0,e1,fr,f⟩ W4.heap.size (Ao6 W4 _) rfl (AoH FR.out.szb.2.2.2 ((Ab.refl W4).alloc _).size) ?_);intro v9 w9 CE dW DW;obtain⟨oE,cE,rfl,-,-,-⟩:=Af.of_own' (by omega) CE;obtain⟨Gs,SZ⟩:=(FR.out.grow ((Ab.refl W4).alloc _)).edges DW (eds':=Ei ++ [⟨e0,e1,fr,f⟩]) (by rw [List.length_append,Dq];exact CE);have Ee:=Ao4 SZ;have j0:w9.cell? ⟨bm,1,none⟩=some (.slice (some ⟨gE,0,none⟩) ne d):=Aa Gs rfl;have j1:=Aj (o:=1) Gs;clear SZ DW CE dW Gs k0 k1 k2)
   generalize w9.setCell ⟨bm,1,none⟩ (.slice oE (ne+1) cE)=V at *;clear j0 j1;have hM:=Ee.out.cM;have hR:=Ee.out.cR;have hRn:=Ee.out.szb.2.2.1
   have pc:∀W,Ab V W→Calls Tryz.prog 19 #[.agg #[.slice A m.pts.length c,.slice oE (ne+1) cE,.slice oF (fa.length+1) cF]] W (AI 0 W):=by intro W hx;obtain⟨A1,c1,q1,r1,s1,t1⟩:=Af.of_own' (by omega) (AL Ee.out.pts hx);obtain⟨A3,c3,q3,r3,s3,t3⟩:=Af.of_own' (by omega) (AL Ee.out.fac hx);obtain⟨A2,c2,q2,r2,s2,t2⟩:=Af.of_own' (by omega) (AL Ee.out.eds hx);rw [HM.out.2.1]at r2 q2 s2;rw [HM.out.2.2.2.2.1]at q2 s2;rw [List.length_append]at q3 s3;simp only [List.length_cons,List.length_nil,Nat.zero_add,Value.slice.injEq,true_and]at q1 q2 q3 s3;obtain⟨rfl,rfl⟩:=q1;obtain⟨rfl,rfl⟩:=q2;obtain⟨rfl,rfl⟩:=q3;have hc:=Pa M' HM.out.2.2.2.2.2.2 A oE oF c cE cF ⟨by rw [HM.out.2.2.1];exact s1,t1,by rw [HM.out.2.2.2.2.1];exact s2,t2,by rw [HM.out.2.2.2.1];exact s3,t3⟩ W (hw.ext (Ee.out.ext.trans hx)) (by rw [HM.out.2.2.1];exact r1) r2;unfold AO at hc;rw [HM.out.2.2.1,HM.out.2.2.2.1,HM.out.2.2.2.2.1,HM.out.2.2.2.2.2.1]at hc;exact hc
   have k1:V.cell? ⟨bm,0,none⟩=some (.slice A m.pts.length c):=Aa hM rfl;have k2:V.cell? ⟨bm,1,none⟩=some (.slice oE (ne+1) cE):=Aa hM rfl;have k3:V.cell? ⟨bm,2,none⟩=some (.slice oF (fa.length+1) cF):=Aa hM rfl;have X:Ab V V:=Ab.refl V;have SO:=fun (w':World) (h:Ab V w')=>(⟨h.cellS k1,h.cellS k2,h.cellS k3⟩:_/\_/\_)
   go_region_held3 (fun w'=>w'.cell? ⟨bm,0,none⟩=some (.slice A m.pts.length c)/\w'.cell? ⟨bm,1,none⟩=some (.slice oE (ne+1) cE)/\w'.cell? ⟨bm,2,none⟩=some (.slice oF (fa.length+1) cF))
    (first|exact SS|with_reducible exact SO _ X|with_reducible exact SO _ X.drew)
    (first|((with_reducible refine(pc _ (by first|exact X|exact X.drew)).mono ?_);rintro e w3 ⟨rfl,xp⟩;replace X:Ab V w3:=(by first|exact X.trans xp|exact X.drew.trans xp);have SS:=(⟨(Gr (show bm≠bm+1+1 by omega) (.slice A m.pts.length c) (.slice oE (ne+1) cE) (.slice oF (fa.length+1) cF) 0).trans (X.cellS k1),(Gr (show bm≠bm+1+1 by omega) (.slice A m.pts.length c) (.slice oE (ne+1) cE) (.slice oF (fa.length+1) cF) 1).trans (X.cellS k2),(Gr (show bm≠bm+1+1 by omega) (.slice A m.pts.length c) (.slice oE (ne+1) cE) (.slice oF (fa.length+1) cF) 2).trans (X.cellS k3)⟩:_/\_/\_);have AK:=(X.block _ (Ao5 hR)).trans hR;have g0:=Aa (o:=0) AK rfl;have g1:=Aa (o:=1) AK rfl;have g2:=Aa (o:=2) AK rfl;have I4:=Aj (o:=0) AK;have g4:=Aj (o:=1) AK;have g5:=Aj (o:=2) AK))
   have M4:=Ao4 (Ee.out.grow X);have Bd:=DT (.slice A m.pts.length c) (.slice oE (ne+1) cE) (.slice oF (fa.length+1) cF) AK;have t1:=Aa (o:=0) Bd rfl;have t2:=Aa (o:=1) Bd rfl;have t3:=Aa (o:=2) Bd rfl;have z1:=Eu M4.out.pts AK (by decide) (.slice A m.pts.length c) (.slice oE (ne+1) cE) (.slice oF (fa.length+1) cF);have z2:=Eu M4.out.eds AK (by decide) (.slice A m.pts.length c) (.slice oE (ne+1) cE) (.slice oF (fa.length+1) cF);have z3:=Eu M4.out.fac AK (by decide) (.slice A m.pts.length c) (.slice oE (ne+1) cE) (.slice oF (fa.length+1) cF);have z4:=CL M4.out.ext Ee.out.szb.2.1 (.slice A m.pts.length c) (.slice oE (ne+1) cE) (.slice oF (fa.length+1) cF);rw [HM.out.2.1]at z2;rw [HM.out.2.2.2.2.1]at z2;rw [List.length_append]at z3;have z5:=fun (j:Nat) (cs:Array Value) (hj:w.heap[j]?=some (.cells cs 35))=>(Lg (show bm+1+1≠j by have h1:=M4.out.szm.2;have h2:=Ao5 hj;omega) (.slice A m.pts.length c) (.slice oE (ne+1) cE) (.slice oF (fa.length+1) cF)).trans (M4.out.mp j cs hj);have CH:=Ao4 (And.intro z1 (And.intro z2 (And.intro z3 (And.intro z4 z5))));clear z1 z2 z3 z4 z5 SS SO;go_wp2;refine bodyPost_ret (v:=.tuple #[.agg #[.slice A m.pts.length c,.slice oE (ne+1) cE,.slice oF (fa.length+1) cF],.int .i64 0]) (by simp [results,Tryz.results69,go_sem,t1,t2,t3]) rfl ?_;refine⟨A,oE,oF,c,cE,cF,?_,?_,CH.out.2.2.2.1,CH.out.2.2.2.2⟩
   ·rw [←HM.out.1,HM.out.2.2.1,HM.out.2.2.2.1,HM.out.2.2.2.2.1]
   ·rw [←HM.out.1];refine⟨?_,?_,?_,?_⟩
    ·rw [HM.out.2.2.1];exact CH.out.1
    ·rw [HM.out.2.2.2.2.1];exact CH.out.2.1
    ·rw [HM.out.2.2.2.1];exact CH.out.2.2.1
    ·rw [HM.out.2.2.2.1,List.length_append];rfl
  ·have zI:i<N:=by refine Classical.byContradiction fun hge=>IH ?_;obtain rfl:i=N:=(by omega);rw [Ez.out.1,Ez.out.2.2.1,NU.out];exact y9.out
   have hxb:(x != e0)=true:=by rw [bne,beq_false_of_ne IH];rfl
   go_upto_region 4 with fail
   refine Di (by kernel_rfl) (by kernel_rfl) ?_
   repeat (go_big_quiet_step (fail))
   refine wpQuiet_nil ?_;rintro W4 ⟨z,hz⟩;have Ag:Ab wr W4:=hz▸z.h;clear hz z f1 f2;have FR:=Ao4 (HP.out.grow Ag);replace ck:=Ag.cellS ck;replace cq:=Ag.cellS cq;clear c0 c1;have f1:∀z:Ad W4,z.w.cell? ⟨gL,k,none⟩=some (.int .i64 x):=Ad.cell ck;have f2:∀z:Ad W4,z.w.cell? ⟨gL,q,none⟩=some (.int .i64 y):=Ad.cell cq
   go_upto_region 6 with fail
   refine Di (by kernel_rfl) (by kernel_rfl) ?_
   repeat (go_big_quiet_step (fail))
   refine wpQuiet_nil ?_;rintro W6 ⟨z,hz⟩;have AG:Ab W4 W6:=hz▸z.h;clear hz z f1 f2 ck cq;have Px:=Ao4 (FR.out.grow AG);have k0:W6.cell? ⟨bm,1,none⟩=some (.slice (some ⟨gE,0,none⟩) ne d):=Aa Px.out.cM rfl
   go_upto_region 8 with fail
   clear k0
   go_loopw [61] (fun iv wr=>∃t:Nat,iv=.int .i64 (t:Nat)/\t<=ne/\FU w0 w B wr bm (bm+1) (bm+1+1) A (some ⟨gL,0,none⟩) c cl (.slice (some ⟨gE,0,none⟩) ne d) (.slice oF (fa.length+1) cF) m.pts (Em x y fr Ei t) (fa ++ [u]) l e0 e1) (fun iv _=>ne-(intOf iv).toNat)
   case atStart=>exact⟨0,rfl,by omega,by unfold Em;rw [List.take_zero,List.map_nil,List.nil_append,List.drop_zero];exact Px.out⟩
   case round=>
    obtain⟨t,rfl,ht,vY⟩:=hrel;have Vb:=Ao4 vY;clear vY;by_cases htn:t<ne
    ·have gQ:t<Ei.length:=(by rw [Dq];exact htn);have hcl:=Je x y fr Ei t;have hat:=rV (U:=x) (V:=y) (fr:=fr) gQ;have gI:=rW (U:=x) (V:=y) (fr:=fr) gQ;obtain⟨wZ,xA⟩:=List.getElem?_eq_some_iff.1 hat;have JZ:=Vb.out.eds;rw [hcl,Dq]at JZ;obtain⟨Lh,Li,Lj,Lk⟩:=PO (Em x y fr Ei t) t wZ;rw [xA]at Lh Li Lj Lk;have d0:=(JZ.cellAt (t*4) (by omega)).trans Lh;have d1:=(JZ.cellAt (t*4+1) (by omega)).trans Li;have d2:=(JZ.cellAt (t*4+2) (by omega)).trans Lj;have d3:=(JZ.cellAt (t*4+3) (by omega)).trans Lk;obtain⟨ye,OU⟩:=Ao3 (Ei[t]);rw [←OU]at d0 d1 d2 d3 gI hat;have HST:=Ao4 (And.intro gI (And.intro hat OU));clear Lh Li Lj Lk JZ xA hat gI hcl wZ OU;obtain⟨yf,yt,yl,yr⟩:=ye
     dsimp only at d0 d1 d2 d3
     go_upto_region 10 with fail
     have ve:=Ao6 wr (.cells #[.int .i64 yf,.int .i64 yt,.int .i64 yl,.int .i64 yr] 51);have HV:=Ao4 (Vb.out.grow ((Ab.refl wr).alloc (.cells #[.int .i64 yf,.int .i64 yt,.int .i64 yl,.int .i64 yr] 51)));clear d0 d1 d2 d3;generalize wr.alloc (.cells #[.int .i64 yf,.int .i64 yt,.int .i64 yl,.int .i64 yr] 51)=VE at *;obtain⟨bw,Dd⟩:=Ao3 wr.heap.size;rw [←Dd]at ve ⊢;clear Dd Vb;have v0:VE.cell? ⟨bw,0,none⟩=some (.int .i64 yf):=Aa ve rfl;have v1:VE.cell? ⟨bw,1,none⟩=some (.int .i64 yt):=Aa ve rfl;have m1:VE.cell? ⟨bm,1,none⟩=some (.slice (some ⟨gE,0,none⟩) ne d):=Aa HV.out.cM rfl;have Dp:=HV.out.eds;rw [Je,Dq]at Dp;have fz2:=Dp.frozenAt (t*4+2);have fz3:=Dp.frozenAt (t*4+3);have o2:=(Dp.cellAt (t*4+2) (by omega));have o3:=(Dp.cellAt (t*4+3) (by omega));have gg:=PO (Em x y fr Ei t) t (by rw [Je,Dq];exact htn);rw [(List.getElem?_eq_some_iff.1 HST.out.2.1).2]at gg;rw [gg.2.2.1]at o2;rw [gg.2.2.2]at o3
     dsimp only at o2 o3
     have hgd:(Em x y fr Ei t).getD t ⟨0,0,0,0⟩=⟨yf,yt,yl,yr⟩:=(by rw [List.getD_eq_getElem?_getD,HST.out.2.1];rfl);have nA:=Ao4 hgd;clear gg Dp hgd ve;have t0':(0:Int)<=(t:Int):=(by omega);have t1':(t:Int)<(ne:Int):=(by omega);by_cases hA:yf=x/\yt=y
     ·have b1:(yf == x)=true:=(by rw [hA.1];simp);have b2:(yt == y)=true:=by rw [hA.2];simp
      have HF:=Ao4 (HV.out.cell (eds':=Em x y fr Ei (t+1)) (by rw [Je,Dq]) (t*4+2) fr (by
       rw [sU _ _ _ (by rw [Je,Dq];exact htn),HST.out.1,nA.out];unfold KC;rw [if_pos hA]) (by rw [Je,Je]))
      clear hA;go_wp2;go_roundw
      case rel=>exact⟨t+1,by go_num,by omega,HF.out⟩
      case measure=>simp [intOf];omega
     ·have ak:(yf == x)=false∨((yf == x)=true/\(yt == y)=false):=by
       by_cases h:yf=x
       ·exact .inr ⟨by rw [h];simp,beq_false_of_ne fun h'=>hA ⟨h,h'⟩⟩
       ·exact .inl (beq_false_of_ne h)
      by_cases hB:yf=y/\yt=x
      ·have b3:(yf == y)=true:=(by rw [hB.1];simp);have b4:(yt == x)=true:=by rw [hB.2];simp
       have HF:=Ao4 (HV.out.cell (eds':=Em x y fr Ei (t+1)) (by rw [Je,Dq]) (t*4+3) fr (by
        rw [sV _ _ _ (by rw [Je,Dq];exact htn),HST.out.1,nA.out];unfold KC;rw [if_neg hA,if_pos hB]) (by rw [Je,Je]))
       clear hA hB
       rcases ak with b1|⟨b1,b2⟩
       ·go_wp2;go_roundw
        case rel=>exact⟨t+1,by go_num,by omega,HF.out⟩
        case measure=>simp [intOf];omega
       ·go_wp2;go_roundw
        case rel=>exact⟨t+1,by go_num,by omega,HF.out⟩
        case measure=>simp [intOf];omega
      ·have hnB:(yf == y)=false∨((yf == y)=true/\(yt == x)=false):=by
        by_cases h:yf=y
        ·exact .inr ⟨by rw [h];simp,beq_false_of_ne fun h'=>hB ⟨h,h'⟩⟩
        ·exact .inl (beq_false_of_ne h)
       have hsm:Em x y fr Ei (t+1)=Em x y fr Ei t:=AcV gQ (by rw [←HST.out.2.2];unfold KC;rw [if_neg hA,if_neg hB]);have hv:=HV.out;rw [←hsm]at hv;have HF:=Ao4 hv;clear hA hB hsm hv
       rcases ak with b1|⟨b1,b2⟩<;>rcases hnB with b3|⟨b3,b4⟩
       ·go_wp2;go_roundw
        case rel=>exact⟨t+1,by go_num,by omega,HF.out⟩
        case measure=>simp [intOf];omega
       ·go_wp2;go_roundw
        case rel=>exact⟨t+1,by go_num,by omega,HF.out⟩
        case measure=>simp [intOf];omega
       ·go_wp2;go_roundw
        case rel=>exact⟨t+1,by go_num,by omega,HF.out⟩
        case measure=>simp [intOf];omega
       ·go_wp2;go_roundw
        case rel=>exact⟨t+1,by go_num,by omega,HF.out⟩
        case measure=>simp [intOf];omega
    ·obtain rfl:t=ne:=(by omega);have CC:=Vb.out;rw [show t=Ei.length from Dq.symm,AcU]at CC
     have TQ:Ei.map (KC x y fr)=NF l fr m.eds i0 (i+1-i0):=by rw [show i+1-i0=(i-i0)+1 by omega,NF,←mU.out,show i0+(i-i0)=i by omega,←NU.out,←Ez.out.2.2.1,←Ez.out.2.2.2,←Ez.out.1,←Ez.out.2.1]
     rw [TQ,Dq]at CC;have HF:=Ao4 CC;clear CC TQ;go_wp2;go_roundw
     case rel=>exact⟨i+1,by go_num,by omega,by omega,HF.out⟩
     case measure=>simp [intOf];omega
def AA:MapZ:=⟨[⟨0,0⟩,⟨0,4⟩,⟨4,0⟩,⟨4,4⟩],[⟨0,1,-1,0⟩,⟨0,2,0,-1⟩,⟨1,3,-1,0⟩,⟨2,3,0,-1⟩],1⟩
def Mh:MapZ:=⟨[⟨0,0⟩,⟨0,4⟩,⟨4,0⟩,⟨4,4⟩],[⟨0,1,-1,1⟩,⟨0,2,0,-1⟩,⟨1,3,-1,1⟩,⟨2,3,0,-1⟩,⟨0,3,1,0⟩],2⟩
def c46:MapZ:=⟨[⟨0,0⟩,⟨0,4⟩,⟨4,0⟩,⟨4,4⟩],[⟨0,1,-1,0⟩,⟨0,2,1,-1⟩,⟨0,3,0,1⟩,⟨1,3,-1,0⟩,⟨2,3,1,-1⟩],2⟩
instance:DecidableEq EdZ:=fun a b=>decidable_of_iff (a.f=b.f/\a.t=b.t/\a.l=b.l/\a.r=b.r) (by cases a;cases b;simp)
instance:DecidableEq MapZ:=fun a b=>decidable_of_iff (a.pts=b.pts/\a.eds=b.eds/\a.nf=b.nf) (by cases a;cases b;simp)
theorem ox:U3 AA [0,2,3,1] 0 0 3 2 4=Mh:=by decide +kernel
theorem VF:Hx AA=true:=by decide +kernel
theorem qR:Hx Mh=true:=by decide +kernel
theorem qQ:Hx c46=true:=by decide +kernel
theorem AhD:QJ AA ⟨2,2⟩ 0=true:=by decide +kernel
theorem AcY:ZN AA 0 [0,2,3,1]=true:=by decide +kernel
theorem AhE:QJ c46 ⟨3,1⟩ 1=true:=by decide +kernel
theorem ku:QJ c46 ⟨1,3⟩ 0=true:=by decide +kernel
theorem qS:Og AA [[97]]=AA/\(Dm AA [[97]]).fa = [[97]]:=by decide +kernel
theorem qT:Og Mh [[97],[98]]=c46/\(Dm Mh [[97],[98]]).fa = [[98],[97]]:=by decide +kernel
theorem ji:Et AA.pts ⟨0,0⟩=((0:Nat):Int)/\Et AA.pts ⟨4,4⟩=((3:Nat):Int):=by decide +kernel
def Ga(k:Int)(a b:Pt)(u:Bs):Value:=.agg #[.int .i64 k,S (R a.x),S (R a.y),S (R b.x),S (R b.y),S [],S [],S u]
theorem Alx(w:World)(hw:Am w):Calls Tryz.prog 64 #[Ak ⟨0,0⟩,Ak ⟨4,4⟩,S [49,47,50]] w (BG (Rc ⟨2,2⟩) w):=by
 have h:=AlK ⟨0,0⟩ ⟨4,4⟩ (1/2) ((S7 (p:=⟨0,0⟩) (by decide +kernel)).sz (by omega)) ((S7 (p:=⟨4,4⟩) (by decide +kernel)).sz (by omega)) (by constructor<;>decide +kernel) w hw;rw [show R (1/2) = [49,47,50] by decide +kernel,show KH (0:Rat) 4 (1/2)=2 by decide +kernel]at h;exact h
structure DR(w0 wM:World)(B:Nat)(wr:World)(bm bx bR:Nat)(A Bk F:Option Addr)(c d g:Nat)(u:Bs):Prop where
 cM:wr.heap[bm]?=some (.cells #[.slice A 4 c,.slice Bk 4 d,.slice F 1 g] 35)
 cX:wr.heap[bx]?=some (.cells #[.int .i64 2,S (R 0),S (R 0),S (R 4),S (R 4),S [],S [],S u] 26)
 cR:wr.heap[bR]?=some (.cells #[.slice none 0 0,.slice none 0 0,.slice none 0 0] 35)
 own:C7 B wr A Bk F c d g AA [[97]]
 ext:Ab w0 wr
 szB:w0.heap.size<=B
 szb:w0.heap.size<=bm/\w0.heap.size<=bR/\bm≠bR/\B<=wr.heap.size
 szm:wM.heap.size<=bm/\wM.heap.size<=bR
 mp:∀(j:Nat) (cs:Array Value),wM.heap[j]?=some (.cells cs 35)→wr.heap[j]?=some (.cells cs 35)
theorem DR.grow{w0 wM:World}{B:Nat}{wr w':World}{bm bx bR:Nat}{A Bk F:Option Addr}{c d g:Nat}{u:Bs}(h:DR w0 wM B wr bm bx bR A Bk F c d g u)(hx:Ab wr w'):DR w0 wM B w' bm bx bR A Bk F c d g u:=
 ⟨(hx.block _ (Ao5 h.cM)).trans h.cM,(hx.block _ (Ao5 h.cX)).trans h.cX,(hx.block _ (Ao5 h.cR)).trans h.cR,h.own.ext hx,h.ext.trans hx,h.szB,⟨h.szb.1,h.szb.2.1,h.szb.2.2.1,AoH h.szb.2.2.2 hx.size⟩,h.szm,fun j cs hj=>(hx.block _ (Ao5 (h.mp j cs hj))).trans (h.mp j cs hj)⟩
theorem DR.rds{w0 wM:World}{B:Nat}{wr:World}{bm bx bR:Nat}{A Bk F:Option Addr}{c d g:Nat}{u:Bs}(h:DR w0 wM B wr bm bx bR A Bk F c d g u):CY AA c d g/\Af wr A (flat (Aq AA.pts))/\Af wr Bk (A9 AA.eds):=⟨h.own.rd.1,h.own.rd.2.1,h.own.rd.2.2.1⟩
section
variable {w0 wM : World} {B : Nat} {wr : World} {bm bx bR : Nat} {A Bk F : Option Addr} {c d g : Nat} {u : Bs}
theorem DR.loc(h:DR w0 wM B wr bm bx bR A Bk F c d g u)(hw:Am w0):Calls Tryz.prog 60 #[.agg #[.slice A 4 c,.slice Bk 4 d,.slice F 1 g],.agg #[S (R 2),S (R 2)]] wr (BG (.tuple #[.int .i64 0,.bool true,.int .i64 0]) wr):=
 XD AA ⟨2,2⟩ 0 AhD A Bk F c d g h.rds.1 wr (hw.ext h.ext) h.rds.2.1 h.rds.2.2
theorem DR.cyc(h:DR w0 wM B wr bm bx bR A Bk F c d g u)(hw:Am w0):Calls Tryz.prog 65 #[.agg #[.slice A 4 c,.slice Bk 4 d,.slice F 1 g],.int .i64 0] wr (fun e w'=>∃v,e=.returned (.tuple #[v,.int .i64 0])/\MB w' v [0,2,3,1]/\Ab wr w'):=
 Aja AA 0 [0,2,3,1] AcY A Bk F c d g h.rds.1 wr (hw.ext h.ext) h.rds.2.1 h.rds.2.2
theorem DR.in0(h:DR w0 wM B wr bm bx bR A Bk F c d g u):Calls Tryz.prog 66 #[.agg #[.slice A 4 c,.slice Bk 4 d,.slice F 1 g],.int .i64 0,.agg #[S (R 0),S (R 0)]] wr (BG (.tuple #[.agg #[.slice A 4 c,.slice Bk 4 d,.slice F 1 g],.int .i64 0]) wr):=
 jq AA ⟨0,0⟩ 0 ji.1 0 A Bk F c d g h.rds.1 wr h.rds.2.1
theorem DR.in4(h:DR w0 wM B wr bm bx bR A Bk F c d g u):Calls Tryz.prog 66 #[.agg #[.slice A 4 c,.slice Bk 4 d,.slice F 1 g],.int .i64 0,.agg #[S (R 4),S (R 4)]] wr (BG (.tuple #[.agg #[.slice A 4 c,.slice Bk 4 d,.slice F 1 g],.int .i64 3]) wr):=
 jq AA ⟨4,4⟩ 3 ji.2 0 A Bk F c d g h.rds.1 wr h.rds.2.1
theorem DR.set(h:DR w0 wM B wr bm bx bR A Bk F c d g u):DR w0 wM B (((wr.setCell ⟨bm,0,none⟩ (.slice A 4 c)).setCell ⟨bm,1,none⟩ (.slice Bk 4 d)).setCell ⟨bm,2,none⟩ (.slice F 1 g)) bm bx bR A Bk F c d g u:=by
 refine⟨DT _ _ _ h.cM,(Lg (CU h.cM h.cX (by decide)) _ _ _).trans h.cX,(Lg h.szb.2.2.1 _ _ _).trans h.cR,⟨Eu h.own.pts h.cM (by decide) _ _ _,Eu h.own.eds h.cM (by decide) _ _ _,Eu h.own.fac h.cM (by decide) _ _ _,h.own.nf⟩,CL h.ext h.szb.1 _ _ _,h.szB,⟨h.szb.1,h.szb.2.1,h.szb.2.2.1,?_⟩,h.szm,fun j cs hj=>(Lg (show bm≠j by have h1:=h.szm.1;have h2:=Ao5 hj;omega) _ _ _).trans (h.mp j cs hj)⟩;have:=h.szb.2.2.2
 simpa [World.setCell]using this
theorem DR.end(h:DR w0 wM B wr bm bx bR A Bk F c d g u){be k:Nat}{cs:Array Value}(hb:wr.heap[be]?=some (.cells cs 120))(h0:w0.heap.size<=be)(z:Value):DR w0 wM B (wr.setCell ⟨be,k,none⟩ z) bm bx bR A Bk F c d g u:=by
 have bb:=(AD.refl (fun q=>q=be) wr).setCell (p:=⟨be,k,none⟩) (.inl rfl) z
 have far:∀{j:Nat} {cs:Array Value} {t:TypeId},wr.heap[j]?=some (.cells cs t)→t≠120→(wr.setCell ⟨be,k,none⟩ z).heap[j]?=some (.cells cs t):=fun hj hne=>by rw [Cj (by exact CU hj hb hne)];exact hj
 have kp:∀{e:TypeId} {s m:Nat} {v:Value} {xs:List Value} {B':Nat},wr.ownsRow B' e s v m xs→e≠120→(wr.setCell ⟨be,k,none⟩ z).ownsRow B' e s v m xs:=fun hv hne=>Cg hv bb (fun q hq e=>by subst e;exact BQ hv hb hne hq);exact⟨far h.cM (by decide),far h.cX (by decide),far h.cR (by decide),⟨kp h.own.pts (by decide),kp h.own.eds (by decide),kp h.own.fac (by decide),h.own.nf⟩,h.ext.setCell (p:=⟨be,k,none⟩) h0 _,h.szB,⟨h.szb.1,h.szb.2.1,h.szb.2.2.1,AoH h.szb.2.2.2 bb.size⟩,h.szm,fun j cs hj=>far (h.mp j cs hj) (by decide)⟩
end
theorem Af.dropI{w:World}{b o:Nat}{l:List Int}(h:Af w (some ⟨b,o,none⟩) (zs l))(k:Nat):Af w (some ⟨b,o+k,none⟩) (zs (l.drop k)):=by
 refine⟨fun h1=>⟨b,o+k,rfl,fun j hj=>?_⟩⟩;have hl:k+j<(zs l).length:=(by unfold zs at hj ⊢;rw [List.length_map,List.length_drop]at hj;rw [List.length_map];omega);obtain⟨b',o',e,hcs⟩:=h.ad (by omega);simp only [AoB,Addr.mk.injEq,and_true]at e;obtain⟨rfl,rfl⟩:=e;have:=hcs (k+j) hl;rw [Nat.add_assoc,this];simp [zs]
theorem VI(l:List Int)(z:Int)(n:Nat)(b:Bool)(hn:l.length=n)(hb:l.any (fun y=>z == y)=b)(A:Option Addr)(c:Nat)(w:World)(hr:Af w A (zs l))(hc:n<=c)(hcm:c<=9223372036854775807) :
  Calls Tryz.prog 67 #[.slice A n c,.int .i64 z] w (BF b w):=by
 subst hn hb;exact AcN l z A c w hr hc hcm
theorem jp(l:List Int)(z:Int)(n:Nat)(k:Int)(hn:l.length=n)(hb:Dg (fun y=>z == y) l=k)(A:Option Addr)(c:Nat)(w:World)(hr:Af w A (zs l))(hc:n<=c)(hcm:c<=9223372036854775807) :
  Calls Tryz.prog 68 #[.slice A n c,.int .i64 z] w (AI k w):=by
 subst hn hb;exact iU l z A c w hr hc hcm
theorem Akb:∀i,2<=i→i<4→([0,2,3,1]:List Int).getD (i%([0,2,3,1]:List Int).length) 0≠0:=by
 intro i h1 h2;obtain rfl|rfl:i=2∨i=3:=by omega
 ·decide
 ·decide
theorem Ad5(W:World):(Instr.index 120 (.agg #[.int .i64 0,.int .i64 3]) (.int .i64 0)).run Tryz.prog W=.ok (.int .i64 0) W:=by kernel_rfl
theorem Ad6(W:World):(Instr.index 120 (.agg #[.int .i64 0,.int .i64 3]) (.int .i64 1)).run Tryz.prog W=.ok (.int .i64 3) W:=by kernel_rfl
theorem vv{w:World}{b:Nat}{a0 a1:Value}{t:TypeId}(v:Value)(h:w.heap[b]?=some (.cells #[a0,a1] t)):(w.setCell ⟨b,0,none⟩ v).heap[b]?=some (.cells #[v,a1] t):=by
 simp only [World.setCell,Array.getElem?_modify,h];simp
theorem vw{w:World}{b:Nat}{a0 a1:Value}{t:TypeId}(v:Value)(h:w.heap[b]?=some (.cells #[a0,a1] t)):(w.setCell ⟨b,1,none⟩ v).heap[b]?=some (.cells #[a0,v] t):=by
 simp only [World.setCell,Array.getElem?_modify,h];simp
theorem split_c(u:Bs)(A Bk F:Option Addr)(c d g:Nat){B:Nat}{w0 w:World}(hw:Am w0)(hx:Ab w0 w)(hB0:w0.heap.size<=B)(I5:B<=w.heap.size)(hm:C7 B w A Bk F c d g AA [[97]]) :
  Calls Tryz.prog 38 #[AO A Bk F AA c d g,Ga 2 ⟨0,0⟩ ⟨4,4⟩ u] w
   (fun e w'=>∃A' B' F' c' d' g',e=.returned (.tuple #[AO A' B' F' Mh c' d' g',.int .i64 0])/\C7 B w' A' B' F' c' d' g' Mh [[97],u]/\Ab w0 w'/\∀(j:Nat) (cs:Array Value),w.heap[j]?=some (.cells cs 35)→w'.heap[j]?=some (.cells cs 35)):=by
 obtain⟨hM,hE,hR,hX⟩:=Pg w (.cells #[.slice A 4 c,.slice Bk 4 d,.slice F 1 g] 35) (.cells #[.int .i64 2,S (R 0),S (R 0),S (R 4),S (R 4),S [],S [],S u] 26) (.cells #[.slice none 0 0,.slice none 0 0,.slice none 0 0] 35)
 have GP:DR w0 w B (((w.alloc (.cells #[.slice A 4 c,.slice Bk 4 d,.slice F 1 g] 35)).alloc (.cells #[.int .i64 2,S (R 0),S (R 0),S (R 4),S (R 4),S [],S [],S u] 26)).alloc (.cells #[.slice none 0 0,.slice none 0 0,.slice none 0 0] 35)) w.heap.size (w.heap.size+1) (w.heap.size+1+1) A Bk F c d g u:=
  ⟨hM,hE,hR,hm.ext hX,hx.trans hX,hB0,⟨by have:=hx.size;omega,by have:=hx.size;omega,by omega,AoH I5 hX.size⟩,⟨Ao7 _,by omega⟩,fun j cs hj=>(hX.block _ (Ao5 hj)).trans hj⟩
 have R9:=Ao4 (show ∃z,z=R 4 from⟨_,rfl⟩);show Calls Tryz.prog 38 #[.agg #[.slice A 4 c,.slice Bk 4 d,.slice F 1 g],.agg #[.int .i64 2,S (R 0),S (R 0),S (R 4),S (R 4),S [],S [],S u]] w _;clear hm hM hE hR hX;go_enter Tryz.func38,Tryz.ntmps38
 go_upto_region 1 with fail
 generalize ((w.alloc (.cells #[.slice A 4 c,.slice Bk 4 d,.slice F 1 g] 35)).alloc (.cells #[.int .i64 2,S (R 0),S (R 0),S (R 4),S (R 4),S [],S [],S u] 26)).alloc (.cells #[.slice none 0 0,.slice none 0 0,.slice none 0 0] 35)=V at *;obtain⟨bm,AW⟩:=Ao3 w.heap.size;rw [←AW]at GP ⊢;clear AW I5;have Hp:=Ao4 GP;clear GP;have x1:V.cell? ⟨bm+1,1,none⟩=some (S (R 0)):=Aa Hp.out.cX rfl;have x2:V.cell? ⟨bm+1,2,none⟩=some (S (R 0)):=Aa Hp.out.cX rfl;have x3:V.cell? ⟨bm+1,3,none⟩=some (S (R 4)):=Aa Hp.out.cX rfl;have x4:V.cell? ⟨bm+1,4,none⟩=some (S (R 4)):=Aa Hp.out.cX rfl;have hne:(R 0 == R 4)=false:=(by decide +kernel);have tw:=Alx V (hw.ext Hp.out.ext);unfold Rc Ak at tw
 dsimp only at tw
 (go_wp2_with fail);(with_reducible refine tw.mono ?_);rintro e w1 ⟨rfl,hx1⟩;have nO:=Ao4 (Hp.out.grow hx1);clear x1 x2 x3 x4 hne tw hx1 Hp
 go_upto_region 6 with fail
 obtain⟨V2,hV2⟩:=Ao3 (w1.alloc (.cells #[S (R 2),S (R 2)] 24));have hq:=Ao6 w1 (.cells #[S (R 2),S (R 2)] 24);have hx2:=(Ab.refl w1).alloc (.cells #[S (R 2),S (R 2)] 24);rw [←hV2]at hq hx2 ⊢;have Pw:=Ao4 (nO.out.grow hx2);obtain⟨bq,D5⟩:=Ao3 w1.heap.size;rw [←D5]at hq ⊢;clear hV2 hx2 D5 nO;have m0:V2.cell? ⟨bm,0,none⟩=some (.slice A 4 c):=Aa Pw.out.cM rfl;have m1:V2.cell? ⟨bm,1,none⟩=some (.slice Bk 4 d):=Aa Pw.out.cM rfl;have m2:V2.cell? ⟨bm,2,none⟩=some (.slice F 1 g):=Aa Pw.out.cM rfl;have q0:V2.cell? ⟨bq,0,none⟩=some (S (R 2)):=Aa hq rfl;have q1:V2.cell? ⟨bq,1,none⟩=some (S (R 2)):=Aa hq rfl;have lc:=Pw.out.loc hw;clear hq;(go_wp2_with fail);(with_reducible refine lc.mono ?_);rintro e w2 ⟨rfl,hx2⟩;have YZ:=Ao4 (Pw.out.grow hx2);replace m0:=hx2.cellS m0;replace m1:=hx2.cellS m1;replace m2:=hx2.cellS m2;have cy:=YZ.out.cyc hw;clear lc hx2 Pw q0 q1;(go_wp2_with fail);(with_reducible refine cy.mono ?_);rintro e w3 ⟨v,rfl,ho,hx3⟩;obtain⟨bo,co,bl,cl,rfl,-,-⟩:=ho;have FR:=Ao4 (YZ.out.grow hx3);clear cy hx3 YZ m0 m1 m2
 go_upto_region 17 with fail
 obtain⟨V4,EE⟩:=Ao3 (w3.alloc (.cells #[.int .i64 0,.int .i64 0] 120));have he:=Ao6 w3 (.cells #[.int .i64 0,.int .i64 0] 120);have Ag:=(Ab.refl w3).alloc (.cells #[.int .i64 0,.int .i64 0] 120);have O8:=FR.out.ext.size;rw [←EE]at he Ag ⊢;have Hr:=Ao4 (FR.out.grow Ag);obtain⟨be,AB⟩:=Ao3 w3.heap.size;rw [←AB]at he O8 ⊢;clear EE Ag AB FR;have x1:V4.cell? ⟨bm+1,1,none⟩=some (S (R 0)):=Aa Hr.out.cX rfl;have x2:V4.cell? ⟨bm+1,2,none⟩=some (S (R 0)):=Aa Hr.out.cX rfl;have x3:V4.cell? ⟨bm+1,3,none⟩=some (S (R 4)):=Aa Hr.out.cX rfl;have x4:V4.cell? ⟨bm+1,4,none⟩=some (S (R 4)):=Aa Hr.out.cX rfl
 go_upto_region 18 with fail
 obtain⟨V5,Ta⟩:=Ao3 (V4.alloc (.cells #[S (R 0),S (R 0),S (R 4),S (R 4)] 24));have hp:=Ao6 V4 (.cells #[S (R 0),S (R 0),S (R 4),S (R 4)] 24);have Ae:=(Ab.refl V4).alloc (.cells #[S (R 0),S (R 0),S (R 4),S (R 4)] 24);rw [←Ta]at hp Ae ⊢;have Px:=Ao4 (Hr.out.grow Ae);replace he:=(Ae.block _ (Ao5 he)).trans he;obtain⟨bp,Au⟩:=Ao3 V4.heap.size;rw [←Au]at hp ⊢;clear Ta Ae Au Hr x1 x2 x3 x4
 go_loopw [72] (fun iv wr=>∃i:Nat,iv=.int .i64 (i:Nat)/\i<=2/\DR w0 w B wr bm (bm+1) (bm+1+1) A Bk F c d g u/\wr.heap[be]?=some (.cells #[.int .i64 0,.int .i64 (if i=2 then 3 else 0)] 120)/\wr.heap[bp]?=some (.cells #[S (R 0),S (R 0),S (R 4),S (R 4)] 24)) (fun iv _=>2-(intOf iv).toNat)
 case atStart=>exact⟨0,rfl,by omega,Px.out,he,hp⟩
 case round=>
  obtain⟨i,rfl,hi,hP,AB,Au⟩:=hrel;have HP:=Ao4 hP;clear hP;obtain rfl|rfl|rfl:i=0∨i=1∨i=2:=by omega
  ·have p0:wr.cell? ⟨bp,0,none⟩=some (S (R 0)):=Aa Au rfl;have p1:wr.cell? ⟨bp,1,none⟩=some (S (R 0)):=Aa Au rfl
   go_upto_region 20 with fail
   obtain⟨V7,Jk⟩:=Ao3 (wr.alloc (.cells #[S (R 0),S (R 0)] 24));have hz:=Ao6 wr (.cells #[S (R 0),S (R 0)] 24);have Aw:=(Ab.refl wr).alloc (.cells #[S (R 0),S (R 0)] 24);rw [←Jk]at hz Aw ⊢;have CJ:=Ao4 (HP.out.grow Aw);replace AB:=(Aw.block _ (Ao5 AB)).trans AB;replace Au:=(Aw.block _ (Ao5 Au)).trans Au;obtain⟨bs,B7⟩:=Ao3 wr.heap.size;rw [←B7]at hz ⊢;clear Jk Aw B7 HP p0 p1;have m0:V7.cell? ⟨bm,0,none⟩=some (.slice A 4 c):=Aa CJ.out.cM rfl;have m1:V7.cell? ⟨bm,1,none⟩=some (.slice Bk 4 d):=Aa CJ.out.cM rfl;have m2:V7.cell? ⟨bm,2,none⟩=some (.slice F 1 g):=Aa CJ.out.cM rfl;have z0:V7.cell? ⟨bs,0,none⟩=some (S (R 0)):=Aa hz rfl;have z1:V7.cell? ⟨bs,1,none⟩=some (S (R 0)):=Aa hz rfl;have ins:=CJ.out.in0;clear hz;(go_wp2_with fail);(with_reducible refine ins.mono ?_);rintro e w8 ⟨rfl,AX⟩;have Dy:=Ao4 (CJ.out.grow AX);replace AB:=(AX.block _ (Ao5 AB)).trans AB;replace Au:=(AX.block _ (Ao5 Au)).trans Au;clear ins AX CJ m0 m1 m2 z0 z1;have m0:w8.cell? ⟨bm,0,none⟩=some (.slice A 4 c):=Aa Dy.out.cM rfl;have m1:w8.cell? ⟨bm,1,none⟩=some (.slice Bk 4 d):=Aa Dy.out.cM rfl;have m2:w8.cell? ⟨bm,2,none⟩=some (.slice F 1 g):=Aa Dy.out.cM rfl;have f0:=Aj (o:=0) Dy.out.cM;have f1:=Aj (o:=1) Dy.out.cM;have f2:=Aj (o:=2) Dy.out.cM;have e0:=Aa (o:=0) AB rfl;have fe:=Aj (o:=0) AB;have hne:be≠bm:=CU AB Dy.out.cM (by decide);have fD:bm≠be:=fun h=>hne h.symm;have Lr:=(Lg fD (.slice A 4 c) (.slice Bk 4 d) (.slice F 1 g)).trans AB;have OA:=(Lg (CU Dy.out.cM Au (by decide)) (.slice A 4 c) (.slice Bk 4 d) (.slice F 1 g)).trans Au;have HF:=Ao4 (And.intro (Dy.out.set.end (k:=0) Lr O8 (.int .i64 0)) (And.intro (vv (.int .i64 0) Lr) ((Cj (p:=⟨be,0,none⟩) (v:=.int .i64 0) (by exact CU OA Lr (by decide))).trans OA)));clear Lr OA AB Au;go_wp2;go_roundw
   case rel=>exact⟨1,rfl,by omega,HF.out⟩
   case measure=>simp [intOf]
  ·have p0:wr.cell? ⟨bp,2,none⟩=some (S (R 4)):=Aa Au rfl;have p1:wr.cell? ⟨bp,3,none⟩=some (S (R 4)):=Aa Au rfl
   go_upto_region 20 with fail
   obtain⟨V7,Jk⟩:=Ao3 (wr.alloc (.cells #[S (R 4),S (R 4)] 24));have hz:=Ao6 wr (.cells #[S (R 4),S (R 4)] 24);have Aw:=(Ab.refl wr).alloc (.cells #[S (R 4),S (R 4)] 24);rw [←Jk]at hz Aw ⊢;have CJ:=Ao4 (HP.out.grow Aw);replace AB:=(Aw.block _ (Ao5 AB)).trans AB;replace Au:=(Aw.block _ (Ao5 Au)).trans Au;obtain⟨bs,B7⟩:=Ao3 wr.heap.size;rw [←B7]at hz ⊢;clear Jk Aw B7 HP p0 p1;have m0:V7.cell? ⟨bm,0,none⟩=some (.slice A 4 c):=Aa CJ.out.cM rfl;have m1:V7.cell? ⟨bm,1,none⟩=some (.slice Bk 4 d):=Aa CJ.out.cM rfl;have m2:V7.cell? ⟨bm,2,none⟩=some (.slice F 1 g):=Aa CJ.out.cM rfl;have z0:V7.cell? ⟨bs,0,none⟩=some (S (R 4)):=Aa hz rfl;have z1:V7.cell? ⟨bs,1,none⟩=some (S (R 4)):=Aa hz rfl;have ins:=CJ.out.in4;clear hz;(go_wp2_with fail);(with_reducible refine ins.mono ?_);rintro e w8 ⟨rfl,AX⟩;have Dy:=Ao4 (CJ.out.grow AX);replace AB:=(AX.block _ (Ao5 AB)).trans AB;replace Au:=(AX.block _ (Ao5 Au)).trans Au;clear ins AX CJ m0 m1 m2 z0 z1;have m0:w8.cell? ⟨bm,0,none⟩=some (.slice A 4 c):=Aa Dy.out.cM rfl;have m1:w8.cell? ⟨bm,1,none⟩=some (.slice Bk 4 d):=Aa Dy.out.cM rfl;have m2:w8.cell? ⟨bm,2,none⟩=some (.slice F 1 g):=Aa Dy.out.cM rfl;have f0:=Aj (o:=0) Dy.out.cM;have f1:=Aj (o:=1) Dy.out.cM;have f2:=Aj (o:=2) Dy.out.cM;have e0:=Aa (o:=1) AB rfl;have fe:=Aj (o:=1) AB;have hne:be≠bm:=CU AB Dy.out.cM (by decide);have fD:bm≠be:=fun h=>hne h.symm;have Lr:=(Lg fD (.slice A 4 c) (.slice Bk 4 d) (.slice F 1 g)).trans AB;have OA:=(Lg (CU Dy.out.cM Au (by decide)) (.slice A 4 c) (.slice Bk 4 d) (.slice F 1 g)).trans Au;have HF:=Ao4 (And.intro (Dy.out.set.end (k:=1) Lr O8 (.int .i64 3)) (And.intro (vw (.int .i64 3) Lr) ((Cj (p:=⟨be,1,none⟩) (v:=.int .i64 3) (by exact CU OA Lr (by decide))).trans OA)));clear Lr OA AB Au;go_wp2;go_roundw
   case rel=>exact⟨2,rfl,by omega,HF.out⟩
   case measure=>simp [intOf]
  ·replace AB:wr.heap[be]?=some (.cells #[.int .i64 0,.int .i64 3] 120):=AB;clear Au;have m0:wr.cell? ⟨bm,0,none⟩=some (.slice A 4 c):=Aa HP.out.cM rfl;have m1:wr.cell? ⟨bm,1,none⟩=some (.slice Bk 4 d):=Aa HP.out.cM rfl;have m2:wr.cell? ⟨bm,2,none⟩=some (.slice F 1 g):=Aa HP.out.cM rfl;have cy:=HP.out.cyc hw;(go_wp2_with fail);(with_reducible refine cy.mono ?_);rintro e w9 ⟨v,rfl,ho,Ah⟩;obtain⟨bo2,co2,pZ,Hy,rfl,hc2,FB⟩:=ho;replace AB:=(Ah.block _ (Ao5 AB)).trans AB;have Ee:=Ao4 (HP.out.grow Ah);clear cy Ah HP m0 m1 m2;have e0:w9.cell? ⟨be,0,none⟩=some (.int .i64 0):=Aa AB rfl;have e1:w9.cell? ⟨be,1,none⟩=some (.int .i64 3):=Aa AB rfl
   have hrl:=(show Af w9 pZ (zs [0,2,3,1])/\4<=Hy/\Hy<=9223372036854775807 by
    obtain⟨A1,c1,q1,r1,s1,t1⟩:=Af.of_own' (by omega) FB;simp only [Value.slice.injEq,true_and]at q1;obtain⟨rfl,rfl⟩:=q1
    exact⟨r1,s1,t1⟩)
   obtain⟨gl,rfl⟩:∃gl,pZ=some ⟨gl,0,none⟩:=Yh FB;have HOL:=Ao4 FB;clear FB;obtain⟨r1,hl4,LE⟩:=hrl;have hc3:w9.cell? ⟨bo2,0,none⟩=some (.slice (some ⟨gl,0,none⟩) 4 Hy):=hc2;clear hc2
   go_upto_region 29 with fail
   have Mx:=Ao4 AB;clear hc3 e0 e1 AB
   go_loopw [106] (fun iv wr=>∃i:Nat,iv=.int .i64 (i:Nat)/\i<=2/\Ab w9 wr) (fun iv _=>2-(intOf iv).toNat)
   case atStart=>exact⟨0,rfl,by omega,Ab.refl _⟩
   case round=>
    obtain⟨i,rfl,hi,hx⟩:=hrel;have n0:=Ad5;have n1:=Ad6;obtain rfl|rfl|rfl:i=0∨i=1∨i=2:=by omega
    ·have ct:=VI [0,2,3,1] 0 4 true rfl (by decide) (some ⟨gl,0,none⟩) Hy wr (r1.ext hx) hl4 LE;(go_wp2_with fail);(with_reducible refine ct.mono ?_);rintro e w10 ⟨rfl,hx10⟩;replace hx:=hx.trans hx10;have HX:=Ao4 hx;clear ct;go_wp2;go_roundw
     case rel=>exact⟨1,rfl,by omega,HX.out⟩
     case measure=>simp [intOf]
    ·have ct:=VI [0,2,3,1] 3 4 true rfl (by decide) (some ⟨gl,0,none⟩) Hy wr (r1.ext hx) hl4 LE;(go_wp2_with fail);(with_reducible refine ct.mono ?_);rintro e w10 ⟨rfl,hx10⟩;replace hx:=hx.trans hx10;have HX:=Ao4 hx;clear ct;go_wp2;go_roundw
     case rel=>exact⟨2,rfl,by omega,HX.out⟩
     case measure=>simp [intOf]
    ·have e0:wr.cell? ⟨be,0,none⟩=some (.int .i64 0):=Aa ((hx.block _ (Ao5 Mx.out)).trans Mx.out) rfl;have e1:wr.cell? ⟨be,1,none⟩=some (.int .i64 3):=Aa ((hx.block _ (Ao5 Mx.out)).trans Mx.out) rfl
     go_upto_region 35 with fail
     have HX0:=Ao4 hx;clear hx e0 e1
     go_loopw [116] (fun iv wr=>∃i:Nat,iv=.int .i64 (i:Nat)/\i<=2/\Ab w9 wr) (fun iv _=>2-(intOf iv).toNat)
     case atStart=>exact⟨0,rfl,by omega,HX0.out⟩
     case round=>
      obtain⟨i,rfl,hi,hx⟩:=hrel;obtain rfl|rfl|rfl:i=0∨i=1∨i=2:=by omega
      ·have ix:=jp [0,2,3,1] 0 4 0 rfl (by decide) (some ⟨gl,0,none⟩) Hy wr (r1.ext hx) hl4 LE;(go_wp2_with fail);(with_reducible refine ix.mono ?_);rintro e w10 ⟨rfl,hx10⟩;replace hx:=hx.trans hx10;have ct:=VI [2,3,1] 0 3 false rfl (by decide) (some ⟨gl,1,none⟩) (Hy-1) w10 (show Af w10 (some ⟨gl,1,none⟩) (zs [2,3,1])by have:=(r1.dropI 1).ext hx;rw [Nat.zero_add]at this;exact this) (by omega) (by omega);have Af9:(4:Int)<=(Hy:Int):=(by omega);clear ix;(go_wp2_with fail);(with_reducible refine ct.mono ?_);rintro e w11 ⟨rfl,Es⟩;replace hx:=hx.trans Es;have HX:=Ao4 hx;clear ct;go_wp2;go_roundw
       case rel=>exact⟨_,_,_,_,_,_,_,_,_,_,_,_,_,_,_,_,_,⟨1,rfl,by omega,HX.out⟩,rfl⟩
       case measure=>simp [intOf]
      ·have ix:=jp [0,2,3,1] 3 4 2 rfl (by decide) (some ⟨gl,0,none⟩) Hy wr (r1.ext hx) hl4 LE;(go_wp2_with fail);(with_reducible refine ix.mono ?_);rintro e w10 ⟨rfl,hx10⟩;replace hx:=hx.trans hx10;have ct:=VI [1] 3 1 false rfl (by decide) (some ⟨gl,3,none⟩) (Hy-3) w10 (show Af w10 (some ⟨gl,3,none⟩) (zs [1])by have:=(r1.dropI 3).ext hx;rw [Nat.zero_add]at this;exact this) (by omega) (by omega);have Af9:(4:Int)<=(Hy:Int):=(by omega);clear ix;(go_wp2_with fail);(with_reducible refine ct.mono ?_);rintro e w11 ⟨rfl,Es⟩;replace hx:=hx.trans Es;have HX:=Ao4 hx;clear ct;go_wp2;go_roundw
       case rel=>exact⟨_,_,_,_,_,_,_,_,_,_,_,_,_,_,_,_,_,⟨2,rfl,by omega,HX.out⟩,rfl⟩
       case measure=>simp [intOf]
      ·have EM:=Ao4 (Ee.out.grow hx);have m0:wr.cell? ⟨bm,0,none⟩=some (.slice A 4 c):=Aa EM.out.cM rfl;have m1:wr.cell? ⟨bm,1,none⟩=some (.slice Bk 4 d):=Aa EM.out.cM rfl;have m2:wr.cell? ⟨bm,2,none⟩=some (.slice F 1 g):=Aa EM.out.cM rfl;have e0:wr.cell? ⟨be,0,none⟩=some (.int .i64 0):=Aa ((hx.block _ (Ao5 Mx.out)).trans Mx.out) rfl;have e1:wr.cell? ⟨be,1,none⟩=some (.int .i64 3):=Aa ((hx.block _ (Ao5 Mx.out)).trans Mx.out) rfl;have xu:wr.cell? ⟨bm+1,7,none⟩=some (S u):=Aa EM.out.cX rfl
       have pa:Calls Tryz.prog 69 #[.agg #[.slice A 4 c,.slice Bk 4 d,.slice F 1 g],.int .i64 0,.slice (some ⟨gl,0,none⟩) 4 Hy,.agg #[.int .i64 0,.int .i64 3],S u] wr
         (fun e w'=>∃A' B' F' c' d' g',e=.returned (.tuple #[.agg #[.slice A' 4 c',.slice B' 5 d',.slice F' 2 g'],.int .i64 0])/\C7 B w' A' B' F' c' d' g' Mh [[97],u]/\Ab w0 w'/\∀(j:Nat) (cs:Array Value),wr.heap[j]?=some (.cells cs 35)→w'.heap[j]?=some (.cells cs 35)):=by
        have h:=AiT AA [[97]] [0,2,3,1] 0 0 3 u 2 4 rfl (by decide) (by omega) (by omega) (by decide) Akb (by rw [ox];exact(La qR).1) (La VF).2 (by decide) (by decide) (by decide) (by decide) (by decide) A Bk F (some ⟨gl,0,none⟩) c d g Hy hw EM.out.ext EM.out.szB EM.out.szb.2.2.2 EM.out.own (AL HOL.out hx);rw [ox]at h;exact h
       (go_wp2_with fail);(with_reducible refine pa.mono ?_);rintro e Ex ⟨A',B',F',c',d',g',rfl,hown,Ca,Jw⟩;have AK:=Jw _ _ EM.out.cR;have Is:=Ao4 EM.out.szb;have R7:=Ao4 (fun (j:Nat) (cs:Array Value) (hj:w.heap[j]?=some (.cells cs 35))=>(Lg (w:=Ex) (show bm+1+1≠j by have h1:=EM.out.szm.2;have h2:=Ao5 hj;omega) (.slice A' 4 c') (.slice B' 5 d') (.slice F' 2 g')).trans (Jw j cs (EM.out.mp j cs hj)));clear pa Jw hx EM m0 m1 m2 e0 e1 xu;have g0:=Aa (o:=0) AK rfl;have g1:=Aa (o:=1) AK rfl;have g2:=Aa (o:=2) AK rfl;have I4:=Aj (o:=0) AK;have g4:=Aj (o:=1) AK;have g5:=Aj (o:=2) AK;have Bd:=DT (.slice A' 4 c') (.slice B' 5 d') (.slice F' 2 g') AK;have t1:=Aa (o:=0) Bd rfl;have t2:=Aa (o:=1) Bd rfl;have t3:=Aa (o:=2) Bd rfl;have CH:=Ao4 (show C7 B (((Ex.setCell ⟨bm+1+1,0,none⟩ (.slice A' 4 c')).setCell ⟨bm+1+1,1,none⟩ (.slice B' 5 d')).setCell ⟨bm+1+1,2,none⟩ (.slice F' 2 g')) A' B' F' c' d' g' Mh [[97],u] from⟨Eu hown.pts AK (by decide) _ _ _,Eu hown.eds AK (by decide) _ _ _,Eu hown.fac AK (by decide) _ _ _,hown.nf⟩);have YK:=Ao4 (CL Ca Is.out.2.1 (.slice A' 4 c') (.slice B' 5 d') (.slice F' 2 g'));clear hown Ca AK Bd;go_wp2;refine bodyPost_ret (v:=.tuple #[.agg #[.slice A' 4 c',.slice B' 5 d',.slice F' 2 g'],.int .i64 0]) (by simp [results,Tryz.results38,go_sem,t1,t2,t3]) rfl ?_;exact⟨A',B',F',c',d',g',rfl,CH.out,YK.out,R7.out⟩
end Go.Proofs.YtnddllipjippnaaGreatDoor
