/- I43: ShKE ShKF ShKF2 ShKF3 ShKG0 ShKG. -/
import Derived.Test.YtnddllipjippnaaGreatDoorI42
set_option maxRecDepth 100000
set_option maxHeartbeats 16000000
namespace Go.Proofs.YtnddllipjippnaaGreatDoor
open Go.RowKit Kl
theorem xt(m:MapZ)(p:Pt)(k:Nat)(hk:CW m.pts p=(k:Int))(f:Int)(A B F:Option Addr)(c d g:Nat)(AW:Db m c d g)(w:World)(hA:Ad w A (flat (Ag m.pts))) :
  Calls Tryz.prog 66 #[AH A B F m c d g,.int .i64 f,Af p] w (BA (.tuple #[AH A B F m c d g,.int .i64 (k:Nat)]) w):=by
 have h1:=Asz w (.cells #[.slice A m.pts.length c,.slice B m.eds.length d,.slice F m.nf g] 35);have h2:=Asz (w.alloc (.cells #[.slice A m.pts.length c,.slice B m.eds.length d,.slice F m.nf g] 35)) (.cells #[S (R p.x),S (R p.y)] 24);have h3:=Asz ((w.alloc (.cells #[.slice A m.pts.length c,.slice B m.eds.length d,.slice F m.nf g] 35)).alloc (.cells #[S (R p.x),S (R p.y)] 24)) (.cells #[.slice none 0 0,.slice none 0 0,.slice none 0 0] 35);rw [As7]at h2;rw [As7,As7]at h3;have e1:=(Ab.refl w).alloc (.cells #[.slice A m.pts.length c,.slice B m.eds.length d,.slice F m.nf g] 35);have e2:=(Ab.refl (w.alloc (.cells #[.slice A m.pts.length c,.slice B m.eds.length d,.slice F m.nf g] 35))).alloc (.cells #[S (R p.x),S (R p.y)] 24);have e3:=(Ab.refl ((w.alloc (.cells #[.slice A m.pts.length c,.slice B m.eds.length d,.slice F m.nf g] 35)).alloc (.cells #[S (R p.x),S (R p.y)] 24))).alloc (.cells #[.slice none 0 0,.slice none 0 0,.slice none 0 0] 35);have hM:=((e2.trans e3).block _ (Asy h1)).trans h1;have hP:=(e3.block _ (Asy h2)).trans h2;have hE:=e1.trans (e2.trans e3);have ix:=YX m.pts p A c _ (hA.ext hE) AW.c1 AW.c2;rw [hk]at ix;have hk0:(0:Int)<=(k:Int):=(by omega);unfold AH;unfold Af at ix ⊢;clear h1 h2 e1 e2 e3 hA AW hk;go_enter Tryz.func66,Tryz.ntmps66
 go_upto_region 1 with fail
 generalize ((w.alloc (.cells #[.slice A m.pts.length c,.slice B m.eds.length d,.slice F m.nf g] 35)).alloc (.cells #[S (R p.x),S (R p.y)] 24)).alloc (.cells #[.slice none 0 0,.slice none 0 0,.slice none 0 0] 35)=V at *;obtain⟨bm,AB⟩:=Asw w.heap.size;have Cp:w.heap.size<=bm+1+1:=(by omega);rw [←AB]at hM hP h3 ⊢;clear AB;have k1:=Aa (o:=0) hM rfl;have j1:=Aa (o:=0) hP rfl;have j2:=Aa (o:=1) hP rfl;(go_wp2_with fail);(with_reducible refine ix.mono ?_);rintro e w1 ⟨rfl,hx1⟩;have CE:=(hx1.block _ (Asy hM)).trans hM;have hR1:=(hx1.block _ (Asy h3)).trans h3;clear k1 j1 j2 hM hP h3 ix;have k1:=Aa (o:=0) CE rfl;have k2:=Aa (o:=1) CE rfl;have k3:=Aa (o:=2) CE rfl;have r0:=Aa (o:=0) hR1 rfl;have r1:=Aa (o:=1) hR1 rfl;have r2:=Aa (o:=2) hR1 rfl;have r3:=Ah (o:=0) hR1;have r4:=Ah (o:=1) hR1;have r5:=Ah (o:=2) hR1;have hst:=Dd (.slice A m.pts.length c) (.slice B m.eds.length d) (.slice F m.nf g) hR1;have t1:=Aa (o:=0) hst rfl;have t2:=Aa (o:=1) hst rfl;have t3:=Aa (o:=2) hst rfl;have hX:=CQ (hE.trans hx1) Cp (.slice A m.pts.length c) (.slice B m.eds.length d) (.slice F m.nf g);have HX:=Asx hX;clear hX hst CE hR1;go_wp2;refine bodyPost_ret (v:=.tuple #[.agg #[.slice A m.pts.length c,.slice B m.eds.length d,.slice F m.nf g],.int .i64 (k:Nat)]) (by simp [results,Tryz.results66,go_sem,t1,t2,t3]) rfl ?_;exact⟨rfl,HX.out⟩
theorem nH(l:List Int)(z:Int)(A:Option Addr)(c:Nat)(w:World)(hr:Ad w A (zs l))(hc:l.length<=c)(hcm:c<=9223372036854775807) :
  Calls Tryz.prog 68 #[.slice A l.length c,.int .i64 z] w (AI (Ds (fun y=>z == y) l) w):=by
 obtain⟨r,hr0⟩:=Asw (Ds (fun y=>z == y) l);rw [←hr0];have HR:=Asx hr0;clear hr0;go_enter Tryz.func68,Tryz.ntmps68;go_wp2
 go_loopw [8] (fun i wr=>∃j:Nat,i=.int .i64 (j:Nat)/\j<=l.length/\(∀q∈l.take j,(z == q)=false)/\Ab w wr) (fun i _=>l.length-(intOf i).toNat)
 case atStart=>exact⟨0,rfl,by omega,by simp,Ab.refl _⟩
 case round=>
  obtain⟨j,rfl,hj,Ai,Ae⟩:=hrel;have HO:=Asx Ai;clear Ai;by_cases hlt:j<l.length
  ·obtain⟨b,o,rfl,hc1⟩:=(hr.ext Ae).ad (by simp [zs];omega);have g1:=hc1 j (by simp [zs];exact hlt);have ge:(zs l)[j]'(by simp [zs];exact hlt)=.int .i64 l[j]:=(by simp [zs]);rw [ge]at g1;obtain⟨y,hy⟩:=Asw (l[j]);rw [←hy]at g1;have HY:=Asx hy;have hj0:(0:Int)<=(j:Int):=(by omega);have Ay:(j:Int)<(l.length:Int):=(by omega);clear hy ge hc1
   cases e0:(z == y)
   ·have HE:=Asx e0;go_wp2;go_roundw
    case rel=>
     refine⟨j+1,by go_num,hlt,?_,Ae⟩;intro x hx;rw [As3 hlt,←HY.out]at hx
     rcases List.mem_append.1 hx with h|h
     ·exact HO.out x h
     ·simp only [AsC]at h;rw [h];exact HE.out
    case measure=>simp [intOf];omega
   ·have CZ:r=(j:Int):=(by rw [HR.out];exact nE hlt HO.out (by rw [←HY.out];exact e0));subst CZ;go_wp2;go_ret;exact⟨rfl,Ae⟩
  ·have hle:(l.length:Int)<=(j:Int):=(by omega);have CZ:r = -1:=(by rw [HR.out];exact nG (by have:=HO.out;rw [As8 (by omega)]at this;exact this));subst CZ;go_wp2;go_ret;exact⟨rfl,Ae⟩
theorem Agy(l:List Int)(z:Int)(A:Option Addr)(c:Nat)(w:World)(hr:Ad w A (zs l))(hc:l.length<=c)(hcm:c<=9223372036854775807) :
  Calls Tryz.prog 67 #[.slice A l.length c,.int .i64 z] w (BP (l.any (fun y=>z == y)) w):=by
 have ix:=nH l z A c w hr hc hcm;have ha:=nD (fun y=>z == y) l;obtain⟨r,hr0⟩:=Asw (l.any (fun y=>z == y));rw [←hr0]at ha ⊢;generalize Ds (fun y=>z == y) l=n at *;have HA:=Asx ha;clear hr0 ha hr;go_enter Tryz.func67,Tryz.ntmps67;(go_wp2_with fail);(with_reducible refine ix.mono ?_);rintro e w2 ⟨rfl,hx2⟩;go_wp2;go_ret;exact⟨by rw [←HA.out];rfl,hx2⟩
section
variable {ops : Array Oper} {rest : List Oper} {o : Oper} {a : Act} {Q : Exit → Act → World → Prop}
theorem Afp(hgd:o.guard=none)(s x:Operand)(ho:o.op=.call {callee:=.builtin .append,args:=#[s,x],argTypes:=#[33,33]})
  (wN:World) (base:Nat) (v:Value) (n:Nat) (l:List Bs) (hs:a.eval s=v) (hown:wN.ownsRow base 9 1 v n (l.map S)) (hn:n<200000) (d:Bs)
  (g:Nat) (hb:wN.heap[g]?=some (.cells #[S d] 9)) (hx:a.eval x=.slice (some ⟨g,0,none⟩) 1 1) (hbase:base<=wN.heap.size)
  (h:∀v' w',w'.ownsRow base 9 1 v' (n+1) ((l ++ [d]).map S)→(∀w0,Ab w0 wN→w0.heap.size<=base→Ab w0 w')→wN.grownBy w' v.ownBlock→wpList Tryz.prog ops Q rest (a.put o.dst v') w') :
  wpList Tryz.prog ops Q (o::rest) a wN:=
 wpList_plain hgd fun _ hK=>rD s x ho wN base v n l hs hown hn d g hb hx hbase fun v' w' h1 h2 h3=>hK _ _ (h v' w' h1 h2 h3)
theorem Afg(hgd:o.guard=none)(s x:Operand)(ho:o.op=.call {callee:=.builtin .append,args:=#[s,x],argTypes:=#[32,32]})
  (wN:World) (base:Nat) (v:Value) (n:Nat) (l:List EdZ) (hs:a.eval s=v) (hown:wN.ownsRow base 51 4 v n (Ar l)) (hn:n<200000) (d:EdZ)
  (g:Nat) (hb:wN.heap[g]?=some (.cells #[.int .i64 d.f,.int .i64 d.t,.int .i64 d.l,.int .i64 d.r] 51)) (hx:a.eval x=.slice (some ⟨g,0,none⟩) 1 1) (hbase:base<=wN.heap.size)
  (h:∀v' w',w'.ownsRow base 51 4 v' (n+1) (Ar (l ++ [d]))→(∀w0,Ab w0 wN→w0.heap.size<=base→Ab w0 w')→wN.grownBy w' v.ownBlock→wpList Tryz.prog ops Q rest (a.put o.dst v') w') :
  wpList Tryz.prog ops Q (o::rest) a wN:=by
 obtain⟨i0,hi,hz0,hz1,hz2⟩:=info_parts Tryz.infoEd;refine wpList_plain hgd fun _ hK=>VZ s x 32 ho 51 i0 _ 4 32 1 Tryz.underlying32 hi hz0 hz1 hz2 rfl (by omega) (by omega) (by omega) wN base v n _ hs hown hn g _ hb rfl ?_ hx hbase ?_
 ·intro u hu;simp only [List.mem_cons,AsB,or_false]at hu
  rcases hu with rfl|rfl|rfl|rfl<;>rfl
 ·intro v' w' h1 h2 h3;refine hK _ _ (h v' w' ?_ h2 h3);rw [show Ar (l ++ [d])=Ar l ++ [.int .i64 d.f,.int .i64 d.t,.int .i64 d.l,.int .i64 d.r] by simp [Ar]];exact h1
end
def Ls(u v fr:Int)(e:EdZ):EdZ:=if e.f=u/\e.t=v then ⟨e.f,e.t,fr,e.r⟩else if e.f=v/\e.t=u then ⟨e.f,e.t,e.l,fr⟩else e
def Ox(l:List Int)(fr:Int)(E:List EdZ)(i0:Nat):Nat→List EdZ
 | 0=>E
 | k+1=>(Ox l fr E i0 k).map (Ls (l.getD ((i0+k) % l.length) 0) (l.getD ((i0+k+1) % l.length) 0) fr)
theorem AaP(l:List Int)(fr:Int)(E:List EdZ)(i0:Nat):∀k,(Ox l fr E i0 k).length=E.length
 | 0=>rfl
 | k+1=>by rw [Ox,List.length_map];exact AaP l fr E i0 k
structure Gg(w0 wM:World)(B:Nat)(wr:World)(bm be bR:Nat)(A Al:Option Addr)(c cl:Nat)(E F:Value)(pts:List Pt)(eds:List EdZ)(fa:List Bs)(l:List Int)(e0 e1:Int):Prop where
 cM:wr.heap[bm]?=some (.cells #[.slice A pts.length c,E,F] 35)
 cE:wr.heap[be]?=some (.cells #[.int .i64 e0,.int .i64 e1] 120)
 cR:wr.heap[bR]?=some (.cells #[.slice none 0 0,.slice none 0 0,.slice none 0 0] 35)
 pts:wr.ownsRow B 24 2 (.slice A pts.length c) pts.length (flat (Ag pts))
 eds:wr.ownsRow B 51 4 E eds.length (Ar eds)
 fac:wr.ownsRow B 9 1 F fa.length (fa.map S)
 lst:wr.ownsRow 0 3 1 (.slice Al l.length cl) l.length (zs l)
 ext:Ab w0 wr
 szB:w0.heap.size<=B
 szb:w0.heap.size<=bm/\w0.heap.size<=bR/\bm≠bR/\B<=wr.heap.size
 szm:wM.heap.size<=bm/\wM.heap.size<=bR
 mp:∀(j:Nat) (cs:Array Value),wM.heap[j]?=some (.cells cs 35)→wr.heap[j]?=some (.cells cs 35)
theorem Gg.grow{w0 wM:World}{B:Nat}{wr w':World}{bm be bR:Nat}{A Al:Option Addr}{c cl:Nat}{E F:Value}{pts:List Pt}{eds:List EdZ}{fa:List Bs}{l:List Int}{e0 e1:Int}(h:Gg w0 wM B wr bm be bR A Al c cl E F pts eds fa l e0 e1)(hx:Ab wr w'):Gg w0 wM B w' bm be bR A Al c cl E F pts eds fa l e0 e1:=
 ⟨(hx.block _ (Asy h.cM)).trans h.cM,(hx.block _ (Asy h.cE)).trans h.cE,(hx.block _ (Asy h.cR)).trans h.cR,An h.pts hx,An h.eds hx,An h.fac hx,An h.lst hx,h.ext.trans hx,h.szB,⟨h.szb.1,h.szb.2.1,h.szb.2.2.1,AsA h.szb.2.2.2 hx.size⟩,h.szm,fun j cs hj=>(hx.block _ (Asy (h.mp j cs hj))).trans (h.mp j cs hj)⟩
theorem yH:∀(l:List EdZ) (k:Nat) (z:Int),k<l.length→(Ar l).set (k*4+2) (.int .i64 z)=Ar (l.set k ⟨(l.getD k ⟨0,0,0,0⟩).f,(l.getD k ⟨0,0,0,0⟩).t,z,(l.getD k ⟨0,0,0,0⟩).r⟩)
 | [],_,_,h=>by simp at h
 | e::l,0,z,_=>rfl
 | e::l,k+1,z,h=>by
  have ih:=yH l k z (by simpa using h);have e0:Ar (e::l)=.int .i64 e.f :: .int .i64 e.t :: .int .i64 e.l :: .int .i64 e.r::Ar l:=rfl;have e1:(k+1)*4+2=k*4+2+1+1+1+1:=(by omega);rw [e0,e1];simp only [List.set_cons_succ,ih,List.getD_cons_succ]
  rfl
theorem yI:∀(l:List EdZ) (k:Nat) (z:Int),k<l.length→(Ar l).set (k*4+3) (.int .i64 z)=Ar (l.set k ⟨(l.getD k ⟨0,0,0,0⟩).f,(l.getD k ⟨0,0,0,0⟩).t,(l.getD k ⟨0,0,0,0⟩).l,z⟩)
 | [],_,_,h=>by simp at h
 | e::l,0,z,_=>rfl
 | e::l,k+1,z,h=>by
  have ih:=yI l k z (by simpa using h);have e0:Ar (e::l)=.int .i64 e.f :: .int .i64 e.t :: .int .i64 e.l :: .int .i64 e.r::Ar l:=rfl;have e1:(k+1)*4+3=k*4+3+1+1+1+1:=(by omega);rw [e0,e1];simp only [List.set_cons_succ,ih,List.getD_cons_succ]
  rfl
theorem Gg.cell{w0 wM:World}{B:Nat}{wr:World}{bm be bR:Nat}{A Al:Option Addr}{c cl:Nat}{F:Value}{pts:List Pt}{eds eds':List EdZ}{fa:List Bs}{l:List Int}{e0 e1:Int}{g n d:Nat}(h:Gg w0 wM B wr bm be bR A Al c cl (.slice (some ⟨g,0,none⟩) n d) F pts eds fa l e0 e1)(hn:n=eds.length)
  (k:Nat) (z:Int) (he:(Ar eds).set k (.int .i64 z)=Ar eds') (hl:eds'.length=eds.length):Gg w0 wM B (wr.setCell ⟨g,k,none⟩ (.int .i64 z)) bm be bR A Al c cl (.slice (some ⟨g,0,none⟩) n d) F pts eds' fa l e0 e1:=by
 subst hn;have hge:=h.eds
 have hg:∃cur,wr.heap[g]?=some (.cells cur 51 (0,0)):=by
  rcases hge.2 with⟨h',_⟩|⟨g',cap,cur,h',_,hgb,_⟩
  ·cases h'
  ·simp only [Value.slice.injEq,As4,Addr.mk.injEq,and_true]at h';obtain⟨⟨rfl⟩,-⟩:=h';exact⟨cur,hgb⟩
 obtain⟨cur,hg⟩:=hg;have hst:=(hge.stored k (.int .i64 z)).1;rw [he]at hst;have bb:=(Ak.refl (fun q=>q=g) wr).setCell (p:=⟨g,k,none⟩) (.inl rfl) (.int .i64 z);have kp:∀{e:TypeId} {s m:Nat} {v:Value} {xs:List Value} {B':Nat},wr.ownsRow B' e s v m xs→e≠51→(wr.setCell ⟨g,k,none⟩ (.int .i64 z)).ownsRow B' e s v m xs:=fun hv hne=>AS hv bb (fun q hq e=>by subst e;exact Av hv hg hne hq)
 have far:∀{j:Nat} {cs:Array Value} {t:TypeId},wr.heap[j]?=some (.cells cs t)→t≠51→(wr.setCell ⟨g,k,none⟩ (.int .i64 z)).heap[j]?=some (.cells cs t):=fun hj hne=>by rw [Bu (by exact BF hj hg hne)];exact hj
 have hB:B<=g:=(hge.lt g rfl).1;refine⟨far h.cM (by decide),far h.cE (by decide),far h.cR (by decide),kp h.pts (by decide),by rw [hl];exact hst,kp h.fac (by decide),kp h.lst (by decide),h.ext.setCell (p:=⟨g,k,none⟩) (AsA h.szB hB) _,h.szB,⟨h.szb.1,h.szb.2.1,h.szb.2.2.1,AsA h.szb.2.2.2 bb.size⟩,h.szm,fun j cs hj=>far (h.mp j cs hj) (by decide)⟩
theorem PZ(w:World)(o1 o2 o3:Obj):(((w.alloc o1).alloc o2).alloc o3).heap[w.heap.size]?=some o1/\(((w.alloc o1).alloc o2).alloc o3).heap[w.heap.size+1]?=some o2/\(((w.alloc o1).alloc o2).alloc o3).heap[w.heap.size+1+1]?=some o3/\Ab w (((w.alloc o1).alloc o2).alloc o3):=by
 have h1:=Asz w o1;have h2:=Asz (w.alloc o1) o2;have h3:=Asz ((w.alloc o1).alloc o2) o3;rw [As7]at h2;rw [As7,As7]at h3;have e1:=(Ab.refl w).alloc o1;have e2:=(Ab.refl (w.alloc o1)).alloc o2;have e3:=(Ab.refl ((w.alloc o1).alloc o2)).alloc o3;exact⟨((e2.trans e3).block _ (Asy h1)).trans h1,(e3.block _ (Asy h2)).trans h2,h3,e1.trans (e2.trans e3)⟩
theorem QB{w w':World}{B B':Nat}{e e':TypeId}{s s' n n':Nat}{v v':Value}{xs xs':List Value}(hg:w.grownBy w' v.ownBlock)(hv:w.ownsRow B e s v n xs)(hu:w.ownsRow B' e' s' v' n' xs')(hne:e'≠e):w'.ownsRow B' e' s' v' n' xs':=by
 refine hu.kept hg ?_
 cases hb:v.ownBlock with
 | none=>
  cases hb':v'.ownBlock with
  | none=>exact .inl rfl
  | some k=>exact .inr (by simp)
 | some k=>
  refine .inr (fun e0=>?_)
  rcases hv.2 with⟨h',_⟩|⟨g,cap,cur,h',_,hgb,_⟩
  ·rw [h']at hb;cases hb
  ·rw [h']at hb;simp only [Value.ownBlock,As4]at hb;subst hb;exact Av hu hgb hne e0
theorem Hl{w w':World}{B:Nat}{e:TypeId}{s n:Nat}{v:Value}{xs:List Value}(hg:w.grownBy w' v.ownBlock)(hv:w.ownsRow B e s v n xs){j:Nat}{cs:Array Value}{t:TypeId}(hj:w.heap[j]?=some (.cells cs t))(hne:e≠t):w'.heap[j]?=some (.cells cs t):=
 (hg.block j (Asy hj) (fun e0=>Av hv hj hne e0.symm)).trans hj
theorem vI{w:World}{b:Nat}{a0 a1 a2:Value}{t:TypeId}(v:Value)(h:w.heap[b]?=some (.cells #[a0,a1,a2] t)):(w.setCell ⟨b,1,none⟩ v).heap[b]?=some (.cells #[a0,v,a2] t):=by
 simp only [World.setCell,Array.getElem?_modify,h];simp
section
variable {w0 wM : World} {B : Nat} {wr w' : World} {bm be bR : Nat} {A Al : Option Addr} {c cl : Nat} {E F F' E' : Value} {pts : List Pt} {eds eds' : List EdZ} {fa fa' : List Bs} {l : List Int} {e0 e1 : Int}
theorem Gg.faces(h:Gg w0 wM B wr bm be bR A Al c cl E F pts eds fa l e0 e1)(hg:wr.grownBy w' F.ownBlock)(ho:w'.ownsRow B 9 1 F' fa'.length (fa'.map S)) :
  w'.heap[bm]?=some (.cells #[.slice A pts.length c,E,F] 35)/\Gg w0 wM B (w'.setCell ⟨bm,2,none⟩ F') bm be bR A Al c cl E F' pts eds fa' l e0 e1:=by
 have hM:=Hl hg h.fac h.cM (by decide);have bb:=(Ak.refl (fun q=>q=bm) w').setCell (p:=⟨bm,2,none⟩) (.inl rfl) F'
 have kp:∀{e:TypeId} {s m:Nat} {v:Value} {xs:List Value} {B':Nat},wr.ownsRow B' e s v m xs→e≠9→e≠35→(w'.setCell ⟨bm,2,none⟩ F').ownsRow B' e s v m xs:=fun hv h1 h2=>by have hv':=QB hg h.fac hv h1;exact AS hv' bb (fun q hq e=>by subst e;exact Av hv' hM h2 hq)
 have hE:=Hl hg h.fac h.cE (by decide);have hR:=Hl hg h.fac h.cR (by decide);have hX:Ab w0 w':=h.ext.grown hg (fun k hk=>AsA h.szB (h.fac.lt k hk).1);refine⟨hM,⟨Xh F' hM,?_,?_,kp h.pts (by decide) (by decide),kp h.eds (by decide) (by decide),?_,kp h.lst (by decide) (by decide),hX.setCell (p:=⟨bm,2,none⟩) h.szb.1 F',h.szB,⟨h.szb.1,h.szb.2.1,h.szb.2.2.1,AsA h.szb.2.2.2 (AsA hg.size bb.size)⟩,h.szm,fun j cs hj=>by rw [Bu (by exact fun e=>by have h1:=h.szm.1;have h2:=Asy hj;dsimp only at e;omega)];exact Hl hg h.fac (h.mp j cs hj) (by decide)⟩⟩
 ·rw [Bu (by exact BF hE hM (by decide))];exact hE
 ·rw [Bu (by exact fun e=>h.szb.2.2.1 e.symm)];exact hR
 ·exact AS ho bb (fun q hq e=>by subst e;exact Av ho hM (by decide) hq)
theorem Gg.edges(h:Gg w0 wM B wr bm be bR A Al c cl E F pts eds fa l e0 e1)(hg:wr.grownBy w' E.ownBlock)(ho:w'.ownsRow B 51 4 E' eds'.length (Ar eds')) :
  w'.heap[bm]?=some (.cells #[.slice A pts.length c,E,F] 35)/\Gg w0 wM B (w'.setCell ⟨bm,1,none⟩ E') bm be bR A Al c cl E' F pts eds' fa l e0 e1:=by
 have hM:=Hl hg h.eds h.cM (by decide);have bb:=(Ak.refl (fun q=>q=bm) w').setCell (p:=⟨bm,1,none⟩) (.inl rfl) E'
 have kp:∀{e:TypeId} {s m:Nat} {v:Value} {xs:List Value} {B':Nat},wr.ownsRow B' e s v m xs→e≠51→e≠35→(w'.setCell ⟨bm,1,none⟩ E').ownsRow B' e s v m xs:=fun hv h1 h2=>by have hv':=QB hg h.eds hv h1;exact AS hv' bb (fun q hq e=>by subst e;exact Av hv' hM h2 hq)
 have hE:=Hl hg h.eds h.cE (by decide);have hR:=Hl hg h.eds h.cR (by decide);have hX:Ab w0 w':=h.ext.grown hg (fun k hk=>AsA h.szB (h.eds.lt k hk).1);refine⟨hM,⟨vI E' hM,?_,?_,kp h.pts (by decide) (by decide),?_,kp h.fac (by decide) (by decide),kp h.lst (by decide) (by decide),hX.setCell (p:=⟨bm,1,none⟩) h.szb.1 E',h.szB,⟨h.szb.1,h.szb.2.1,h.szb.2.2.1,AsA h.szb.2.2.2 (AsA hg.size bb.size)⟩,h.szm,fun j cs hj=>by rw [Bu (by exact fun e=>by have h1:=h.szm.1;have h2:=Asy hj;dsimp only at e;omega)];exact Hl hg h.eds (h.mp j cs hj) (by decide)⟩⟩
 ·rw [Bu (by exact BF hE hM (by decide))];exact hE
 ·rw [Bu (by exact fun e=>h.szb.2.2.1 e.symm)];exact hR
 ·exact AS ho bb (fun q hq e=>by subst e;exact Av ho hM (by decide) hq)
end
def Ez(U V fr:Int)(E:List EdZ)(k:Nat):List EdZ:=(E.take k).map (Ls U V fr)++E.drop k
theorem JB(U V fr:Int)(E:List EdZ)(k:Nat):(Ez U V fr E k).length=E.length:=by
 unfold Ez;rw [List.length_append,List.length_map,List.length_take,List.length_drop];omega
theorem xM{U V fr:Int}{E:List EdZ}{k:Nat}(hk:k<E.length):(Ez U V fr E k)[k]?=some E[k]:=by
 unfold Ez;rw [List.getElem?_append_right (by rw [List.length_map,List.length_take];omega),List.length_map,List.length_take,Nat.min_eq_left (by omega),Nat.sub_self,List.getElem?_drop];simp [hk]
theorem xN{U V fr:Int}{E:List EdZ}{k:Nat}(hk:k<E.length):Ez U V fr E (k+1)=(Ez U V fr E k).set k (Ls U V fr E[k]):=by
 have h1:((E.take k).map (Ls U V fr)).length=k:=(by rw [List.length_map,List.length_take];omega);unfold Ez;rw [As3 hk,List.map_append,List.append_assoc,List.set_append_right _ _ (by omega),h1,Nat.sub_self,List.drop_eq_getElem_cons hk]
 rfl
theorem Ag7{U V fr:Int}{E:List EdZ}{k:Nat}(hk:k<E.length)(h:Ls U V fr E[k]=E[k]):Ez U V fr E (k+1)=Ez U V fr E k:=by
 rw [xN hk,h];have h2:=xM (U:=U) (V:=V) (fr:=fr) hk;obtain⟨h3,h4⟩:=List.getElem?_eq_some_iff.1 h2;rw [←h4,List.set_getElem_self]
theorem Ag6(U V fr:Int)(E:List EdZ):Ez U V fr E E.length=E.map (Ls U V fr):=by
 unfold Ez;rw [List.take_length,List.drop_length,List.append_nil]
theorem LO{w:World}{b j:Nat}(hne:b≠j)(x y z:Value):(((w.setCell ⟨b,0,none⟩ x).setCell ⟨b,1,none⟩ y).setCell ⟨b,2,none⟩ z).heap[j]?=w.heap[j]?:=by
 rw [Bu (by exact hne.symm),Bu (by exact hne.symm),Bu (by exact hne.symm)]
def VI(m:MapZ)(l:List Int)(f e0 e1:Int)(i0 N:Nat):MapZ:=⟨m.pts,Ox l (m.nf:Int) m.eds i0 (N-i0) ++ [⟨e0,e1,(m.nf:Int),f⟩],m.nf+1⟩
theorem AmL(m:MapZ)(fa:List Bs)(l:List Int)(f e0 e1:Int)(u:Bs)(i0 N:Nat)(BS:m.nf=fa.length)(h1:Ds (fun y=>e1 == y) l=(i0:Int))(hN:i0<=N)(Hn:N<=1000)(hend:l.getD (N%l.length) 0=e0)(hrun:∀i,i0<=i→i<N→l.getD (i%l.length) 0≠e0)
  (hck:Fq (VI m l f e0 e1 i0 N)=0) (hgr:∀p∈m.pts,Ce p) (hel:m.eds.length<=1000) (I5:0<m.eds.length) (C5:fa.length<=1000) (DK:l.length<=1000) (hl0:0<l.length) (A Bk F Al:Option Addr) (c d g cl:Nat) {B:Nat} {w0 w:World} (hw:Aj w0) (hx:Ab w0 w) (hB0:w0.heap.size<=B) (N4:B<=w.heap.size)
  (hm:Cx B w A Bk F c d g m fa) (hl:w.ownsRow 0 3 1 (.slice Al l.length cl) l.length (zs l)) :
  Calls Tryz.prog 69 #[AH A Bk F m c d g,.int .i64 f,.slice Al l.length cl,.agg #[.int .i64 e0,.int .i64 e1],S u] w
   (fun e w'=>∃A' B' F' c' d' g',e=.returned (.tuple #[AH A' B' F' (VI m l f e0 e1 i0 N) c' d' g',.int .i64 0])/\Cx B w' A' B' F' c' d' g' (VI m l f e0 e1 i0 N) (fa ++ [u])/\Ab w0 w'/\∀(j:Nat) (cs:Array Value),w.heap[j]?=some (.cells cs 35)→w'.heap[j]?=some (.cells cs 35)):=by
 obtain⟨hM,hE,hR,hX⟩:=PZ w (.cells #[.slice A m.pts.length c,.slice Bk m.eds.length d,.slice F m.nf g] 35) (.cells #[.int .i64 e0,.int .i64 e1] 120) (.cells #[.slice none 0 0,.slice none 0 0,.slice none 0 0] 35)
 have Hq:Gg w0 w B (((w.alloc (.cells #[.slice A m.pts.length c,.slice Bk m.eds.length d,.slice F m.nf g] 35)).alloc (.cells #[.int .i64 e0,.int .i64 e1] 120)).alloc (.cells #[.slice none 0 0,.slice none 0 0,.slice none 0 0] 35)) w.heap.size (w.heap.size+1) (w.heap.size+1+1) A Al c cl (.slice Bk m.eds.length d) (.slice F m.nf g) m.pts m.eds fa l e0 e1:=by refine⟨hM,hE,hR,An hm.pts hX,An hm.eds hX,?_,An hl hX,hx.trans hX,hB0,⟨by have:=hx.size;omega,by have:=hx.size;omega,by omega,AsA N4 hX.size⟩,⟨As0 _,by omega⟩,fun j cs hj=>(hX.block _ (Asy hj)).trans hj⟩;have:=An hm.fac hX;rw [BS]at this ⊢;exact this
 obtain⟨gE,rfl⟩:∃gE,Bk=some ⟨gE,0,none⟩:=by
  obtain⟨gE,e⟩:∃gE,Bk=some ⟨gE,0,none⟩:=by
   rcases hm.eds.2 with⟨h',_⟩|⟨g',cap,cur,h',_⟩
   ·simp only [Value.slice.injEq]at h';omega
   ·simp only [Value.slice.injEq]at h';exact⟨g',h'.1⟩
  exact⟨gE,e⟩
 obtain⟨gL,rfl⟩:∃gL,Al=some ⟨gL,0,none⟩:=by
  rcases hl.2 with⟨h',_⟩|⟨g',cap,cur,h',_⟩
  ·simp only [Value.slice.injEq]at h';omega
  ·simp only [Value.slice.injEq]at h';exact⟨g',h'.1⟩
 have hXX:=hx.trans hX;have ix:=nH l e1;rw [h1]at ix;have HN:=Asx BS;have Adp:=Asx hend;have Ta:=Asx hrun;have SA:=Asx hck;have IL:=Asx hgr;have HIX:=Asx ix;obtain⟨nf,lE⟩:=Asw m.nf;have Art:nf<=1000:=(by omega);have SV:=Asx lE;unfold AH;rw [←lE]at Hq ⊢;clear hm hl hM hE hR hX BS hend hrun hck hgr h1 ix lE;go_enter Tryz.func69,Tryz.ntmps69
 go_upto_region 1 with fail
 generalize ((w.alloc (.cells #[.slice A m.pts.length c,.slice (some ⟨gE,0,none⟩) m.eds.length d,.slice F nf g] 35)).alloc (.cells #[.int .i64 e0,.int .i64 e1] 120)).alloc (.cells #[.slice none 0 0,.slice none 0 0,.slice none 0 0] 35)=V at *;obtain⟨bm,AB⟩:=Asw w.heap.size;rw [←AB]at Hq ⊢;clear AB hx N4;have k0:V.cell? ⟨bm,2,none⟩=some (.slice F nf g):=Aa Hq.cM rfl;have hBV:=Hq.szb.2.2.2;have Il:=Asx Hq;clear Hq
 go_wp2_with (at_builtin;go_loud (refine Afp rfl _ _ rfl _ B (.slice F nf g) fa.length fa rfl (An Il.out.fac ((Ab.refl V).alloc _)) (by omega) u V.heap.size (Asz V _) rfl (AsA hBV ((Ab.refl V).alloc _).size) ?_);intro v9 w9 Bo CY AP;obtain⟨oF,cF,rfl,-,-,-⟩:=Ad.of_own' (by omega) Bo;obtain⟨DG,Uk⟩:=(Il.out.grow ((Ab.refl V).alloc _)).faces AP (fa':=fa ++ [u]) (by rw [List.length_append];exact Bo);have j0:w9.cell? ⟨bm,2,none⟩=some (.slice F nf g):=Aa DG rfl;have j1:=Ah (o:=2) DG;have j2:w9.cell? ⟨bm+1,1,none⟩=some (.int .i64 e1):=Aa (Hl AP (Il.out.grow ((Ab.refl V).alloc _)).fac (Il.out.grow ((Ab.refl V).alloc _)).cE (by decide)) rfl)
 have Eu:=Asx Uk;clear Uk AP Bo CY DG k0;generalize w9.setCell ⟨bm,2,none⟩ (.slice oF (fa.length+1) cF)=W9 at *;clear j0 j1 j2
 have hrl:∀(E:Value) (eds:List EdZ) (W:World),Gg w0 w B W bm (bm+1) (bm+1+1) A (some ⟨gL,0,none⟩) c cl E (.slice oF (fa.length+1) cF) m.pts eds (fa ++ [u]) l e0 e1→Ad W (some ⟨gL,0,none⟩) (zs l)/\l.length<=cl/\cl<=9223372036854775807:=by intro E eds W h;obtain⟨A1,c1,e,r,s,t⟩:=Ad.of_own' (by omega) h.lst;simp only [Value.slice.injEq,true_and]at e;obtain⟨rfl,rfl⟩:=e;exact⟨r,s,t⟩
 have LA:=Asx hrl;clear hrl;obtain⟨r1,r2,r3⟩:=LA.out _ _ _ Eu.out;have ix:=HIX.out (some ⟨gL,0,none⟩) cl W9 r1 r2 r3;clear r1;(with_reducible refine ix.mono ?_);rintro e LF ⟨rfl,hx10⟩;have sT:=Asx (Eu.out.grow hx10);clear ix hx10 Eu Il;obtain⟨fr,hfr⟩:=Asw ((nf:Int):Int);rw [←hfr];have SD:=Asx hfr;clear hfr;obtain⟨n,hn⟩:=Asw l.length;rw [←hn]at hl0 DK r2 ⊢;have OF:=Asx hn;clear hn;obtain⟨ne,hne⟩:=Asw m.eds.length;rw [←hne]at hel I5 ⊢;have sO:=Asx hne;clear hne
 go_upto_region 4 with fail
 go_loopw [13] (fun iv wr=>∃i:Nat,iv=.int .i64 (i:Nat)/\i0<=i/\i<=N/\Gg w0 w B wr bm (bm+1) (bm+1+1) A (some ⟨gL,0,none⟩) c cl (.slice (some ⟨gE,0,none⟩) ne d) (.slice oF (fa.length+1) cF) m.pts (Ox l fr m.eds i0 (i-i0)) (fa ++ [u]) l e0 e1) (fun iv _=>N-(intOf iv).toNat)
 case atStart=>exact⟨i0,rfl,As0 _,hN,by rw [Nat.sub_self,sO.out];exact sT.out⟩
 case round=>
  obtain⟨i,rfl,EW,hiN,hP⟩:=hrel;have HP:=Asx hP;clear hP;obtain⟨Ei,XK⟩:=Asw (Ox l fr m.eds i0 (i-i0));rw [←XK]at HP;have Dy:Ei.length=ne:=(by rw [XK,AaP,sO.out]);have rS:=Asx XK;clear XK;obtain⟨k,hk⟩:=Asw (i%n);obtain⟨q,hq⟩:=Asw ((i+1)%n);have C6:k<n:=(by rw [hk];exact Nat.mod_lt _ hl0);have Gx:q<n:=by rw [hq];exact Nat.mod_lt _ hl0
  have I8:((i:Int)).tmod (n:Int)=(k:Int):=by rw [Int.tmod_eq_emod_of_nonneg (by omega),hk,Int.natCast_emod]
  have kR:((i:Int))%(n:Int)=(k:Int):=by rw [hk,Int.natCast_emod]
  have YP:((i:Int)+1).tmod (n:Int)=(q:Int):=by rw [Int.tmod_eq_emod_of_nonneg (by omega),hq,Int.natCast_emod];rfl
  have Arz:((i:Int)+1)%(n:Int)=(q:Int):=(by rw [hq,Int.natCast_emod];rfl);have DL:¬((n:Int)=0):=(by omega);have Jl:¬(n=0):=(by omega);have Ci:((n:Int) == 0)=false:=beq_false_of_ne DL;have NV:IntKind.wrap .i64 (k:Int)=(k:Int):=As6 _ (by omega);have lU:IntKind.wrap .i64 (q:Int)=(q:Int):=As6 _ (by omega);have hiw:IntKind.wrap .i64 ((i:Int)+1)=(i:Int)+1:=As6 _ (by omega);have k0':(0:Int)<=(k:Int):=(by omega);have k1':(k:Int)<(n:Int):=(by omega);have q0':(0:Int)<=(q:Int):=(by omega);have q1':(q:Int)<(n:Int):=(by omega);obtain⟨x,mT⟩:=Asw (l.getD k 0);obtain⟨y,mX⟩:=Asw (l.getD q 0)
  have ck:wr.cell? ⟨gL,k,none⟩=some (.int .i64 x):=by rw [HP.out.lst.cellAt k (by have:=OF.out;omega),mT];simp [zs,List.getD_eq_getElem?_getD,As5 (show k<l.length by rw [←OF.out];exact C6)]
  have cq:wr.cell? ⟨gL,q,none⟩=some (.int .i64 y):=by rw [HP.out.lst.cellAt q (by have:=OF.out;omega),mX];simp [zs,List.getD_eq_getElem?_getD,As5 (show q<l.length by rw [←OF.out];exact Gx)]
  have c0:wr.cell? ⟨bm+1,0,none⟩=some (.int .i64 e0):=Aa HP.out.cE rfl;have c1:wr.cell? ⟨bm+1,1,none⟩=some (.int .i64 e1):=Aa HP.out.cE rfl;have EK:=Asx (And.intro mT (And.intro mX (And.intro hk hq)));clear mT mX hk hq;have f1:∀z:Ac wr,z.w.cell? ⟨gL,k,none⟩=some (.int .i64 x):=Ac.cell ck;have f2:∀z:Ac wr,z.w.cell? ⟨bm+1,0,none⟩=some (.int .i64 e0):=Ac.cell c0;by_cases Jr:x=e0
  ·have ng:i=N:=by refine Classical.byContradiction fun hne=>?_;refine Ta.out i EW (by omega) ?_;rw [←OF.out,←EK.out.2.2.1,←EK.out.1];exact Jr
   subst ng;have hxb:(x != e0)=false:=(by rw [Jr];simp);clear Jr
   go_upto_region 4 with fail
   refine Bh (by kernel_rfl) (by kernel_rfl) ?_
   repeat (go_big_quiet_step (fail))
   refine wpQuiet_nil ?_;rintro W4 ⟨z,hz⟩;have Ao:Ab wr W4:=hz▸z.h;clear hz z f1 f2 ck cq c0 c1;have Fl:=Asx (HP.out.grow Ao);clear Ao HP sT;obtain⟨M',QI⟩:=Asw (VI m l f e0 e1 i0 i)
   have fY:Ei ++ [⟨e0,e1,fr,f⟩]=M'.eds:=by rw [QI,rS.out,SD.out,SV.out];rfl
   have KT:M'.pts=m.pts:=(by rw [QI];rfl);have br:M'.nf=fa.length+1:=(by rw [QI];show m.nf+1=_;rw [HN.out]);have bj:M'.eds.length=ne+1:=(by rw [←fY,List.length_append,Dy];rfl);have kf:Fq M'=0:=(by rw [QI];exact SA.out);have mo:∀p∈M'.pts,Ce p:=(by rw [KT];exact IL.out);have HM:=Asx (And.intro QI (And.intro fY (And.intro KT (And.intro br (And.intro bj (And.intro kf mo))))));clear QI fY KT br bj kf mo;have k0:W4.cell? ⟨bm,1,none⟩=some (.slice (some ⟨gE,0,none⟩) ne d):=Aa Fl.out.cM rfl;have k1:W4.cell? ⟨bm+1,0,none⟩=some (.int .i64 e0):=Aa Fl.out.cE rfl;have k2:W4.cell? ⟨bm+1,1,none⟩=some (.int .i64 e1):=Aa Fl.out.cE rfl;have KQ:=Fl.out.eds;rw [Dy]at KQ;have HES:=Asx KQ;clear KQ
   go_wp2_with (at_builtin;go_loud (refine Afg rfl _ _ rfl _ B (.slice (some ⟨gE,0,none⟩) ne d) ne Ei rfl (An HES.out ((Ab.refl W4).alloc _)) (by omega) ⟨e0,e1,fr,f⟩ W4.heap.size (Asz W4 _) rfl (AsA Fl.out.szb.2.2.2 ((Ab.refl W4).alloc _).size) ?_);intro v9 w9 Bo CY AP;obtain⟨oE,cE,rfl,-,-,-⟩:=Ad.of_own' (by omega) Bo;obtain⟨DG,Uk⟩:=(Fl.out.grow ((Ab.refl W4).alloc _)).edges AP (eds':=Ei ++ [⟨e0,e1,fr,f⟩]) (by rw [List.length_append,Dy];exact Bo);have Eu:=Asx Uk;have j0:w9.cell? ⟨bm,1,none⟩=some (.slice (some ⟨gE,0,none⟩) ne d):=Aa DG rfl;have j1:=Ah (o:=1) DG;clear Uk AP Bo CY DG k0 k1 k2)
   generalize w9.setCell ⟨bm,1,none⟩ (.slice oE (ne+1) cE)=V at *;clear j0 j1;have hM:=Eu.out.cM;have hR:=Eu.out.cR;have hRn:=Eu.out.szb.2.2.1
   have pc:∀W,Ab V W→Calls Tryz.prog 19 #[.agg #[.slice A m.pts.length c,.slice oE (ne+1) cE,.slice oF (fa.length+1) cF]] W (AI 0 W):=by intro W hx;obtain⟨A1,c1,q1,r1,s1,t1⟩:=Ad.of_own' (by omega) (An Eu.out.pts hx);obtain⟨A3,c3,q3,r3,s3,t3⟩:=Ad.of_own' (by omega) (An Eu.out.fac hx);obtain⟨A2,c2,q2,r2,s2,t2⟩:=Ad.of_own' (by omega) (An Eu.out.eds hx);rw [HM.out.2.1]at r2 q2 s2;rw [HM.out.2.2.2.2.1]at q2 s2;rw [List.length_append]at q3 s3;simp only [List.length_cons,List.length_nil,Nat.zero_add,Value.slice.injEq,true_and]at q1 q2 q3 s3;obtain⟨rfl,rfl⟩:=q1;obtain⟨rfl,rfl⟩:=q2;obtain⟨rfl,rfl⟩:=q3;have hc:=PR M' HM.out.2.2.2.2.2.2 A oE oF c cE cF ⟨by rw [HM.out.2.2.1];exact s1,t1,by rw [HM.out.2.2.2.2.1];exact s2,t2,by rw [HM.out.2.2.2.1];exact s3,t3⟩ W (hw.ext (Eu.out.ext.trans hx)) (by rw [HM.out.2.2.1];exact r1) r2;unfold AH at hc;rw [HM.out.2.2.1,HM.out.2.2.2.1,HM.out.2.2.2.2.1,HM.out.2.2.2.2.2.1]at hc;exact hc
   have k1:V.cell? ⟨bm,0,none⟩=some (.slice A m.pts.length c):=Aa hM rfl;have k2:V.cell? ⟨bm,1,none⟩=some (.slice oE (ne+1) cE):=Aa hM rfl;have k3:V.cell? ⟨bm,2,none⟩=some (.slice oF (fa.length+1) cF):=Aa hM rfl;have X:Ab V V:=Ab.refl V;have SO:=fun (w':World) (h:Ab V w')=>(⟨h.cellS k1,h.cellS k2,h.cellS k3⟩:_/\_/\_)
   go_region_held3 (fun w'=>w'.cell? ⟨bm,0,none⟩=some (.slice A m.pts.length c)/\w'.cell? ⟨bm,1,none⟩=some (.slice oE (ne+1) cE)/\w'.cell? ⟨bm,2,none⟩=some (.slice oF (fa.length+1) cF))
    (first|exact SS|with_reducible exact SO _ X|with_reducible exact SO _ X.drew)
    (first|((with_reducible refine(pc _ (by first|exact X|exact X.drew)).mono ?_);rintro e w3 ⟨rfl,xp⟩;replace X:Ab V w3:=(by first|exact X.trans xp|exact X.drew.trans xp);have SS:=(⟨(GF (show bm≠bm+1+1 by omega) (.slice A m.pts.length c) (.slice oE (ne+1) cE) (.slice oF (fa.length+1) cF) 0).trans (X.cellS k1),(GF (show bm≠bm+1+1 by omega) (.slice A m.pts.length c) (.slice oE (ne+1) cE) (.slice oF (fa.length+1) cF) 1).trans (X.cellS k2),(GF (show bm≠bm+1+1 by omega) (.slice A m.pts.length c) (.slice oE (ne+1) cE) (.slice oF (fa.length+1) cF) 2).trans (X.cellS k3)⟩:_/\_/\_);have AE:=(X.block _ (Asy hR)).trans hR;have g0:=Aa (o:=0) AE rfl;have g1:=Aa (o:=1) AE rfl;have g2:=Aa (o:=2) AE rfl;have Jb:=Ah (o:=0) AE;have g4:=Ah (o:=1) AE;have g5:=Ah (o:=2) AE))
   have Na:=Asx (Eu.out.grow X);have AA:=Dd (.slice A m.pts.length c) (.slice oE (ne+1) cE) (.slice oF (fa.length+1) cF) AE;have t1:=Aa (o:=0) AA rfl;have t2:=Aa (o:=1) AA rfl;have t3:=Aa (o:=2) AA rfl;have z1:=DN Na.out.pts AE (by decide) (.slice A m.pts.length c) (.slice oE (ne+1) cE) (.slice oF (fa.length+1) cF);have z2:=DN Na.out.eds AE (by decide) (.slice A m.pts.length c) (.slice oE (ne+1) cE) (.slice oF (fa.length+1) cF);have z3:=DN Na.out.fac AE (by decide) (.slice A m.pts.length c) (.slice oE (ne+1) cE) (.slice oF (fa.length+1) cF);have z4:=CQ Na.out.ext Eu.out.szb.2.1 (.slice A m.pts.length c) (.slice oE (ne+1) cE) (.slice oF (fa.length+1) cF);rw [HM.out.2.1]at z2;rw [HM.out.2.2.2.2.1]at z2;rw [List.length_append]at z3;have z5:=fun (j:Nat) (cs:Array Value) (hj:w.heap[j]?=some (.cells cs 35))=>(LO (show bm+1+1≠j by have h1:=Na.out.szm.2;have h2:=Asy hj;omega) (.slice A m.pts.length c) (.slice oE (ne+1) cE) (.slice oF (fa.length+1) cF)).trans (Na.out.mp j cs hj);have Bf:=Asx (And.intro z1 (And.intro z2 (And.intro z3 (And.intro z4 z5))));clear z1 z2 z3 z4 z5 SS SO;go_wp2;refine bodyPost_ret (v:=.tuple #[.agg #[.slice A m.pts.length c,.slice oE (ne+1) cE,.slice oF (fa.length+1) cF],.int .i64 0]) (by simp [results,Tryz.results69,go_sem,t1,t2,t3]) rfl ?_;refine⟨A,oE,oF,c,cE,cF,?_,?_,Bf.out.2.2.2.1,Bf.out.2.2.2.2⟩
   ·rw [←HM.out.1,HM.out.2.2.1,HM.out.2.2.2.1,HM.out.2.2.2.2.1]
   ·rw [←HM.out.1];refine⟨?_,?_,?_,?_⟩
    ·rw [HM.out.2.2.1];exact Bf.out.1
    ·rw [HM.out.2.2.2.2.1];exact Bf.out.2.1
    ·rw [HM.out.2.2.2.1];exact Bf.out.2.2.1
    ·rw [HM.out.2.2.2.1,List.length_append];rfl
  ·have ng:i<N:=by refine Classical.byContradiction fun hge=>Jr ?_;obtain rfl:i=N:=(by omega);rw [EK.out.1,EK.out.2.2.1,OF.out];exact Adp.out
   have hxb:(x != e0)=true:=by rw [bne,beq_false_of_ne Jr];rfl
   go_upto_region 4 with fail
   refine Bh (by kernel_rfl) (by kernel_rfl) ?_
   repeat (go_big_quiet_step (fail))
   refine wpQuiet_nil ?_;rintro W4 ⟨z,hz⟩;have Ao:Ab wr W4:=hz▸z.h;clear hz z f1 f2;have Fl:=Asx (HP.out.grow Ao);replace ck:=Ao.cellS ck;replace cq:=Ao.cellS cq;clear c0 c1;have f1:∀z:Ac W4,z.w.cell? ⟨gL,k,none⟩=some (.int .i64 x):=Ac.cell ck;have f2:∀z:Ac W4,z.w.cell? ⟨gL,q,none⟩=some (.int .i64 y):=Ac.cell cq
   go_upto_region 6 with fail
   refine Bh (by kernel_rfl) (by kernel_rfl) ?_
   repeat (go_big_quiet_step (fail))
   refine wpQuiet_nil ?_;rintro W6 ⟨z,hz⟩;have AX:Ab W4 W6:=hz▸z.h;clear hz z f1 f2 ck cq;have Qn:=Asx (Fl.out.grow AX);have k0:W6.cell? ⟨bm,1,none⟩=some (.slice (some ⟨gE,0,none⟩) ne d):=Aa Qn.out.cM rfl
   go_upto_region 8 with fail
   clear k0
   go_loopw [61] (fun iv wr=>∃t:Nat,iv=.int .i64 (t:Nat)/\t<=ne/\Gg w0 w B wr bm (bm+1) (bm+1+1) A (some ⟨gL,0,none⟩) c cl (.slice (some ⟨gE,0,none⟩) ne d) (.slice oF (fa.length+1) cF) m.pts (Ez x y fr Ei t) (fa ++ [u]) l e0 e1) (fun iv _=>ne-(intOf iv).toNat)
   case atStart=>exact⟨0,rfl,by omega,by unfold Ez;rw [List.take_zero,List.map_nil,List.nil_append,List.drop_zero];exact Qn.out⟩
   case round=>
    obtain⟨t,rfl,ht,dp⟩:=hrel;have Wz:=Asx dp;clear dp;by_cases htn:t<ne
    ·have mF:t<Ei.length:=(by rw [Dy];exact htn);have hcl:=JB x y fr Ei t;have hat:=xM (U:=x) (V:=y) (fr:=fr) mF;have mB:=xN (U:=x) (V:=y) (fr:=fr) mF;obtain⟨gi,gj⟩:=List.getElem?_eq_some_iff.1 hat;have KQ:=Wz.out.eds;rw [hcl,Dy]at KQ;obtain⟨Hi,Iy,Hj,Hk⟩:=Nw (Ez x y fr Ei t) t gi;rw [gj]at Hi Iy Hj Hk;have d0:=(KQ.cellAt (t*4) (by omega)).trans Hi;have d1:=(KQ.cellAt (t*4+1) (by omega)).trans Iy;have d2:=(KQ.cellAt (t*4+2) (by omega)).trans Hj;have d3:=(KQ.cellAt (t*4+3) (by omega)).trans Hk;obtain⟨ye,PK⟩:=Asw (Ei[t]);rw [←PK]at d0 d1 d2 d3 mB hat;have HST:=Asx (And.intro mB (And.intro hat PK));clear Hi Iy Hj Hk KQ gj hat mB hcl gi PK;obtain⟨yf,yt,yl,yr⟩:=ye
     dsimp only at d0 d1 d2 d3
     go_upto_region 10 with fail
     have ve:=Asz wr (.cells #[.int .i64 yf,.int .i64 yt,.int .i64 yl,.int .i64 yr] 51);have HV:=Asx (Wz.out.grow ((Ab.refl wr).alloc (.cells #[.int .i64 yf,.int .i64 yt,.int .i64 yl,.int .i64 yr] 51)));clear d0 d1 d2 d3;generalize wr.alloc (.cells #[.int .i64 yf,.int .i64 yt,.int .i64 yl,.int .i64 yr] 51)=VE at *;obtain⟨bw,Cp⟩:=Asw wr.heap.size;rw [←Cp]at ve ⊢;clear Cp Wz;have v0:VE.cell? ⟨bw,0,none⟩=some (.int .i64 yf):=Aa ve rfl;have v1:VE.cell? ⟨bw,1,none⟩=some (.int .i64 yt):=Aa ve rfl;have m1:VE.cell? ⟨bm,1,none⟩=some (.slice (some ⟨gE,0,none⟩) ne d):=Aa HV.out.cM rfl;have DF:=HV.out.eds;rw [JB,Dy]at DF;have fz2:=DF.frozenAt (t*4+2);have fz3:=DF.frozenAt (t*4+3);have o2:=(DF.cellAt (t*4+2) (by omega));have o3:=(DF.cellAt (t*4+3) (by omega));have gg:=Nw (Ez x y fr Ei t) t (by rw [JB,Dy];exact htn);rw [(List.getElem?_eq_some_iff.1 HST.out.2.1).2]at gg;rw [gg.2.2.1]at o2;rw [gg.2.2.2]at o3
     dsimp only at o2 o3
     have hgd:(Ez x y fr Ei t).getD t ⟨0,0,0,0⟩=⟨yf,yt,yl,yr⟩:=(by rw [List.getD_eq_getElem?_getD,HST.out.2.1];rfl);have rW:=Asx hgd;clear gg DF hgd ve;have t0':(0:Int)<=(t:Int):=(by omega);have t1':(t:Int)<(ne:Int):=(by omega);by_cases hA:yf=x/\yt=y
     ·have b1:(yf == x)=true:=(by rw [hA.1];simp);have b2:(yt == y)=true:=by rw [hA.2];simp
      have HF:=Asx (HV.out.cell (eds':=Ez x y fr Ei (t+1)) (by rw [JB,Dy]) (t*4+2) fr (by
       rw [yH _ _ _ (by rw [JB,Dy];exact htn),HST.out.1,rW.out];unfold Ls;rw [if_pos hA]) (by rw [JB,JB]))
      clear hA;go_wp2;go_roundw
      case rel=>exact⟨t+1,by go_num,by omega,HF.out⟩
      case measure=>simp [intOf];omega
     ·have qd:(yf == x)=false∨((yf == x)=true/\(yt == y)=false):=by
       by_cases h:yf=x
       ·exact .inr ⟨by rw [h];simp,beq_false_of_ne fun h'=>hA ⟨h,h'⟩⟩
       ·exact .inl (beq_false_of_ne h)
      by_cases hB:yf=y/\yt=x
      ·have b3:(yf == y)=true:=(by rw [hB.1];simp);have b4:(yt == x)=true:=by rw [hB.2];simp
       have HF:=Asx (HV.out.cell (eds':=Ez x y fr Ei (t+1)) (by rw [JB,Dy]) (t*4+3) fr (by
        rw [yI _ _ _ (by rw [JB,Dy];exact htn),HST.out.1,rW.out];unfold Ls;rw [if_neg hA,if_pos hB]) (by rw [JB,JB]))
       clear hA hB
       rcases qd with b1|⟨b1,b2⟩
       ·go_wp2;go_roundw
        case rel=>exact⟨t+1,by go_num,by omega,HF.out⟩
        case measure=>simp [intOf];omega
       ·go_wp2;go_roundw
        case rel=>exact⟨t+1,by go_num,by omega,HF.out⟩
        case measure=>simp [intOf];omega
      ·have hnB:(yf == y)=false∨((yf == y)=true/\(yt == x)=false):=by
        by_cases h:yf=y
        ·exact .inr ⟨by rw [h];simp,beq_false_of_ne fun h'=>hB ⟨h,h'⟩⟩
        ·exact .inl (beq_false_of_ne h)
       have hsm:Ez x y fr Ei (t+1)=Ez x y fr Ei t:=Ag7 mF (by rw [←HST.out.2.2];unfold Ls;rw [if_neg hA,if_neg hB]);have hv:=HV.out;rw [←hsm]at hv;have HF:=Asx hv;clear hA hB hsm hv
       rcases qd with b1|⟨b1,b2⟩<;>rcases hnB with b3|⟨b3,b4⟩
       ·go_wp2;go_roundw
        case rel=>exact⟨t+1,by go_num,by omega,HF.out⟩
        case measure=>simp [intOf];omega
       ·go_wp2;go_roundw
        case rel=>exact⟨t+1,by go_num,by omega,HF.out⟩
        case measure=>simp [intOf];omega
       ·go_wp2;go_roundw
        case rel=>exact⟨t+1,by go_num,by omega,HF.out⟩
        case measure=>simp [intOf];omega
       ·go_wp2;go_roundw
        case rel=>exact⟨t+1,by go_num,by omega,HF.out⟩
        case measure=>simp [intOf];omega
    ·obtain rfl:t=ne:=(by omega);have AQ:=Wz.out;rw [show t=Ei.length from Dy.symm,Ag6]at AQ
     have Jn:Ei.map (Ls x y fr)=Ox l fr m.eds i0 (i+1-i0):=by rw [show i+1-i0=(i-i0)+1 by omega,Ox,←rS.out,show i0+(i-i0)=i by omega,←OF.out,←EK.out.2.2.1,←EK.out.2.2.2,←EK.out.1,←EK.out.2.1]
     rw [Jn,Dy]at AQ;have HF:=Asx AQ;clear AQ Jn;go_wp2;go_roundw
     case rel=>exact⟨i+1,by go_num,by omega,by omega,HF.out⟩
     case measure=>simp [intOf];omega
def AL:MapZ:=⟨[⟨0,0⟩,⟨0,4⟩,⟨4,0⟩,⟨4,4⟩],[⟨0,1,-1,0⟩,⟨0,2,0,-1⟩,⟨1,3,-1,0⟩,⟨2,3,0,-1⟩],1⟩
def MH:MapZ:=⟨[⟨0,0⟩,⟨0,4⟩,⟨4,0⟩,⟨4,4⟩],[⟨0,1,-1,1⟩,⟨0,2,0,-1⟩,⟨1,3,-1,1⟩,⟨2,3,0,-1⟩,⟨0,3,1,0⟩],2⟩
def c46:MapZ:=⟨[⟨0,0⟩,⟨0,4⟩,⟨4,0⟩,⟨4,4⟩],[⟨0,1,-1,0⟩,⟨0,2,1,-1⟩,⟨0,3,0,1⟩,⟨1,3,-1,0⟩,⟨2,3,1,-1⟩],2⟩
instance:DecidableEq EdZ:=fun a b=>decidable_of_iff (a.f=b.f/\a.t=b.t/\a.l=b.l/\a.r=b.r) (by cases a;cases b;simp)
instance:DecidableEq MapZ:=fun a b=>decidable_of_iff (a.pts=b.pts/\a.eds=b.eds/\a.nf=b.nf) (by cases a;cases b;simp)
theorem AaO:VI AL [0,2,3,1] 0 0 3 2 4=MH:=by decide +kernel
theorem Xj:Iu AL=true:=by decide +kernel
theorem vX:Iu MH=true:=by decide +kernel
theorem vW:Iu c46=true:=by decide +kernel
theorem Aly:RQ AL ⟨2,2⟩ 0=true:=by decide +kernel
theorem AgE:eC AL 0 [0,2,3,1]=true:=by decide +kernel
theorem Alz:RQ c46 ⟨3,1⟩ 1=true:=by decide +kernel
theorem zo:RQ c46 ⟨1,3⟩ 0=true:=by decide +kernel
theorem vY:OL AL [[97]]=AL/\(Dx AL [[97]]).fa = [[97]]:=by decide +kernel
theorem vZ:OL MH [[97],[98]]=c46/\(Dx MH [[97],[98]]).fa = [[98],[97]]:=by decide +kernel
theorem xg:CW AL.pts ⟨0,0⟩=((0:Nat):Int)/\CW AL.pts ⟨4,4⟩=((3:Nat):Int):=by decide +kernel
def Gl(k:Int)(a b:Pt)(u:Bs):Value:=.agg #[.int .i64 k,S (R a.x),S (R a.y),S (R b.x),S (R b.y),S [],S [],S u]
theorem Apl(w:World)(hw:Aj w):Calls Tryz.prog 64 #[Af ⟨0,0⟩,Af ⟨4,4⟩,S [49,47,50]] w (BA (PV ⟨2,2⟩) w):=by
 have h:=qY ⟨0,0⟩ ⟨4,4⟩ (1/2) ((TS (p:=⟨0,0⟩) (by decide +kernel)).sz (by omega)) ((TS (p:=⟨4,4⟩) (by decide +kernel)).sz (by omega)) (by constructor<;>decide +kernel) w hw;rw [show R (1/2) = [49,47,50] by decide +kernel,show Di (0:Rat) 4 (1/2)=2 by decide +kernel]at h;exact h
structure Em(w0 wM:World)(B:Nat)(wr:World)(bm bx bR:Nat)(A Bk F:Option Addr)(c d g:Nat)(u:Bs):Prop where
 cM:wr.heap[bm]?=some (.cells #[.slice A 4 c,.slice Bk 4 d,.slice F 1 g] 35)
 cX:wr.heap[bx]?=some (.cells #[.int .i64 2,S (R 0),S (R 0),S (R 4),S (R 4),S [],S [],S u] 26)
 cR:wr.heap[bR]?=some (.cells #[.slice none 0 0,.slice none 0 0,.slice none 0 0] 35)
 own:Cx B wr A Bk F c d g AL [[97]]
 ext:Ab w0 wr
 szB:w0.heap.size<=B
 szb:w0.heap.size<=bm/\w0.heap.size<=bR/\bm≠bR/\B<=wr.heap.size
 szm:wM.heap.size<=bm/\wM.heap.size<=bR
 mp:∀(j:Nat) (cs:Array Value),wM.heap[j]?=some (.cells cs 35)→wr.heap[j]?=some (.cells cs 35)
theorem Em.grow{w0 wM:World}{B:Nat}{wr w':World}{bm bx bR:Nat}{A Bk F:Option Addr}{c d g:Nat}{u:Bs}(h:Em w0 wM B wr bm bx bR A Bk F c d g u)(hx:Ab wr w'):Em w0 wM B w' bm bx bR A Bk F c d g u:=
 ⟨(hx.block _ (Asy h.cM)).trans h.cM,(hx.block _ (Asy h.cX)).trans h.cX,(hx.block _ (Asy h.cR)).trans h.cR,h.own.ext hx,h.ext.trans hx,h.szB,⟨h.szb.1,h.szb.2.1,h.szb.2.2.1,AsA h.szb.2.2.2 hx.size⟩,h.szm,fun j cs hj=>(hx.block _ (Asy (h.mp j cs hj))).trans (h.mp j cs hj)⟩
theorem Em.rds{w0 wM:World}{B:Nat}{wr:World}{bm bx bR:Nat}{A Bk F:Option Addr}{c d g:Nat}{u:Bs}(h:Em w0 wM B wr bm bx bR A Bk F c d g u):Db AL c d g/\Ad wr A (flat (Ag AL.pts))/\Ad wr Bk (Ar AL.eds):=⟨h.own.rd.1,h.own.rd.2.1,h.own.rd.2.2.1⟩
section
variable {w0 wM : World} {B : Nat} {wr : World} {bm bx bR : Nat} {A Bk F : Option Addr} {c d g : Nat} {u : Bs}
theorem Em.loc(h:Em w0 wM B wr bm bx bR A Bk F c d g u)(hw:Aj w0):Calls Tryz.prog 60 #[.agg #[.slice A 4 c,.slice Bk 4 d,.slice F 1 g],.agg #[S (R 2),S (R 2)]] wr (BA (.tuple #[.int .i64 0,.bool true,.int .i64 0]) wr):=
 Zd AL ⟨2,2⟩ 0 Aly A Bk F c d g h.rds.1 wr (hw.ext h.ext) h.rds.2.1 h.rds.2.2
theorem Em.cyc(h:Em w0 wM B wr bm bx bR A Bk F c d g u)(hw:Aj w0):Calls Tryz.prog 65 #[.agg #[.slice A 4 c,.slice Bk 4 d,.slice F 1 g],.int .i64 0] wr (fun e w'=>∃v,e=.returned (.tuple #[v,.int .i64 0])/\Nj w' v [0,2,3,1]/\Ab wr w'):=
 AmT AL 0 [0,2,3,1] AgE A Bk F c d g h.rds.1 wr (hw.ext h.ext) h.rds.2.1 h.rds.2.2
theorem Em.in0(h:Em w0 wM B wr bm bx bR A Bk F c d g u):Calls Tryz.prog 66 #[.agg #[.slice A 4 c,.slice Bk 4 d,.slice F 1 g],.int .i64 0,.agg #[S (R 0),S (R 0)]] wr (BA (.tuple #[.agg #[.slice A 4 c,.slice Bk 4 d,.slice F 1 g],.int .i64 0]) wr):=
 xt AL ⟨0,0⟩ 0 xg.1 0 A Bk F c d g h.rds.1 wr h.rds.2.1
theorem Em.in4(h:Em w0 wM B wr bm bx bR A Bk F c d g u):Calls Tryz.prog 66 #[.agg #[.slice A 4 c,.slice Bk 4 d,.slice F 1 g],.int .i64 0,.agg #[S (R 4),S (R 4)]] wr (BA (.tuple #[.agg #[.slice A 4 c,.slice Bk 4 d,.slice F 1 g],.int .i64 3]) wr):=
 xt AL ⟨4,4⟩ 3 xg.2 0 A Bk F c d g h.rds.1 wr h.rds.2.1
theorem Em.set(h:Em w0 wM B wr bm bx bR A Bk F c d g u):Em w0 wM B (((wr.setCell ⟨bm,0,none⟩ (.slice A 4 c)).setCell ⟨bm,1,none⟩ (.slice Bk 4 d)).setCell ⟨bm,2,none⟩ (.slice F 1 g)) bm bx bR A Bk F c d g u:=by
 refine⟨Dd _ _ _ h.cM,(LO (BF h.cM h.cX (by decide)) _ _ _).trans h.cX,(LO h.szb.2.2.1 _ _ _).trans h.cR,⟨DN h.own.pts h.cM (by decide) _ _ _,DN h.own.eds h.cM (by decide) _ _ _,DN h.own.fac h.cM (by decide) _ _ _,h.own.nf⟩,CQ h.ext h.szb.1 _ _ _,h.szB,⟨h.szb.1,h.szb.2.1,h.szb.2.2.1,?_⟩,h.szm,fun j cs hj=>(LO (show bm≠j by have h1:=h.szm.1;have h2:=Asy hj;omega) _ _ _).trans (h.mp j cs hj)⟩;have:=h.szb.2.2.2
 simpa [World.setCell]using this
theorem Em.end(h:Em w0 wM B wr bm bx bR A Bk F c d g u){be k:Nat}{cs:Array Value}(hb:wr.heap[be]?=some (.cells cs 120))(h0:w0.heap.size<=be)(z:Value):Em w0 wM B (wr.setCell ⟨be,k,none⟩ z) bm bx bR A Bk F c d g u:=by
 have bb:=(Ak.refl (fun q=>q=be) wr).setCell (p:=⟨be,k,none⟩) (.inl rfl) z
 have far:∀{j:Nat} {cs:Array Value} {t:TypeId},wr.heap[j]?=some (.cells cs t)→t≠120→(wr.setCell ⟨be,k,none⟩ z).heap[j]?=some (.cells cs t):=fun hj hne=>by rw [Bu (by exact BF hj hb hne)];exact hj
 have kp:∀{e:TypeId} {s m:Nat} {v:Value} {xs:List Value} {B':Nat},wr.ownsRow B' e s v m xs→e≠120→(wr.setCell ⟨be,k,none⟩ z).ownsRow B' e s v m xs:=fun hv hne=>AS hv bb (fun q hq e=>by subst e;exact Av hv hb hne hq);exact⟨far h.cM (by decide),far h.cX (by decide),far h.cR (by decide),⟨kp h.own.pts (by decide),kp h.own.eds (by decide),kp h.own.fac (by decide),h.own.nf⟩,h.ext.setCell (p:=⟨be,k,none⟩) h0 _,h.szB,⟨h.szb.1,h.szb.2.1,h.szb.2.2.1,AsA h.szb.2.2.2 bb.size⟩,h.szm,fun j cs hj=>far (h.mp j cs hj) (by decide)⟩
end
theorem Ad.dropI{w:World}{b o:Nat}{l:List Int}(h:Ad w (some ⟨b,o,none⟩) (zs l))(k:Nat):Ad w (some ⟨b,o+k,none⟩) (zs (l.drop k)):=by
 refine⟨fun h1=>⟨b,o+k,rfl,fun j hj=>?_⟩⟩;have hl:k+j<(zs l).length:=(by unfold zs at hj ⊢;rw [List.length_map,List.length_drop]at hj;rw [List.length_map];omega);obtain⟨b',o',e,hcs⟩:=h.ad (by omega);simp only [As4,Addr.mk.injEq,and_true]at e;obtain⟨rfl,rfl⟩:=e;have:=hcs (k+j) hl;rw [Nat.add_assoc,this];simp [zs]
theorem Xm(l:List Int)(z:Int)(n:Nat)(b:Bool)(hn:l.length=n)(hb:l.any (fun y=>z == y)=b)(A:Option Addr)(c:Nat)(w:World)(hr:Ad w A (zs l))(hc:n<=c)(hcm:c<=9223372036854775807) :
  Calls Tryz.prog 67 #[.slice A n c,.int .i64 z] w (BP b w):=by
 subst hn hb;exact Agy l z A c w hr hc hcm
theorem xr(l:List Int)(z:Int)(n:Nat)(k:Int)(hn:l.length=n)(hb:Ds (fun y=>z == y) l=k)(A:Option Addr)(c:Nat)(w:World)(hr:Ad w A (zs l))(hc:n<=c)(hcm:c<=9223372036854775807) :
  Calls Tryz.prog 68 #[.slice A n c,.int .i64 z] w (AI k w):=by
 subst hn hb;exact nH l z A c w hr hc hcm
theorem Aoc:∀i,2<=i→i<4→([0,2,3,1]:List Int).getD (i%([0,2,3,1]:List Int).length) 0≠0:=by
 intro i h1 h2;obtain rfl|rfl:i=2∨i=3:=by omega
 ·decide
 ·decide
theorem Ahh(W:World):(Instr.index 120 (.agg #[.int .i64 0,.int .i64 3]) (.int .i64 0)).run Tryz.prog W=.ok (.int .i64 0) W:=by kernel_rfl
theorem Ahi(W:World):(Instr.index 120 (.agg #[.int .i64 0,.int .i64 3]) (.int .i64 1)).run Tryz.prog W=.ok (.int .i64 3) W:=by kernel_rfl
theorem Ac2{w:World}{b:Nat}{a0 a1:Value}{t:TypeId}(v:Value)(h:w.heap[b]?=some (.cells #[a0,a1] t)):(w.setCell ⟨b,0,none⟩ v).heap[b]?=some (.cells #[v,a1] t):=by
 simp only [World.setCell,Array.getElem?_modify,h];simp
theorem Ac3{w:World}{b:Nat}{a0 a1:Value}{t:TypeId}(v:Value)(h:w.heap[b]?=some (.cells #[a0,a1] t)):(w.setCell ⟨b,1,none⟩ v).heap[b]?=some (.cells #[a0,v] t):=by
 simp only [World.setCell,Array.getElem?_modify,h];simp
theorem split_c(u:Bs)(A Bk F:Option Addr)(c d g:Nat){B:Nat}{w0 w:World}(hw:Aj w0)(hx:Ab w0 w)(hB0:w0.heap.size<=B)(N4:B<=w.heap.size)(hm:Cx B w A Bk F c d g AL [[97]]) :
  Calls Tryz.prog 38 #[AH A Bk F AL c d g,Gl 2 ⟨0,0⟩ ⟨4,4⟩ u] w
   (fun e w'=>∃A' B' F' c' d' g',e=.returned (.tuple #[AH A' B' F' MH c' d' g',.int .i64 0])/\Cx B w' A' B' F' c' d' g' MH [[97],u]/\Ab w0 w'/\∀(j:Nat) (cs:Array Value),w.heap[j]?=some (.cells cs 35)→w'.heap[j]?=some (.cells cs 35)):=by
 obtain⟨hM,hE,hR,hX⟩:=PZ w (.cells #[.slice A 4 c,.slice Bk 4 d,.slice F 1 g] 35) (.cells #[.int .i64 2,S (R 0),S (R 0),S (R 4),S (R 4),S [],S [],S u] 26) (.cells #[.slice none 0 0,.slice none 0 0,.slice none 0 0] 35)
 have Hq:Em w0 w B (((w.alloc (.cells #[.slice A 4 c,.slice Bk 4 d,.slice F 1 g] 35)).alloc (.cells #[.int .i64 2,S (R 0),S (R 0),S (R 4),S (R 4),S [],S [],S u] 26)).alloc (.cells #[.slice none 0 0,.slice none 0 0,.slice none 0 0] 35)) w.heap.size (w.heap.size+1) (w.heap.size+1+1) A Bk F c d g u:=
  ⟨hM,hE,hR,hm.ext hX,hx.trans hX,hB0,⟨by have:=hx.size;omega,by have:=hx.size;omega,by omega,AsA N4 hX.size⟩,⟨As0 _,by omega⟩,fun j cs hj=>(hX.block _ (Asy hj)).trans hj⟩
 have SZ:=Asx (show ∃z,z=R 4 from⟨_,rfl⟩);show Calls Tryz.prog 38 #[.agg #[.slice A 4 c,.slice Bk 4 d,.slice F 1 g],.agg #[.int .i64 2,S (R 0),S (R 0),S (R 4),S (R 4),S [],S [],S u]] w _;clear hm hM hE hR hX;go_enter Tryz.func38,Tryz.ntmps38
 go_upto_region 1 with fail
 generalize ((w.alloc (.cells #[.slice A 4 c,.slice Bk 4 d,.slice F 1 g] 35)).alloc (.cells #[.int .i64 2,S (R 0),S (R 0),S (R 4),S (R 4),S [],S [],S u] 26)).alloc (.cells #[.slice none 0 0,.slice none 0 0,.slice none 0 0] 35)=V at *;obtain⟨bm,AB⟩:=Asw w.heap.size;rw [←AB]at Hq ⊢;clear AB N4;have Il:=Asx Hq;clear Hq;have x1:V.cell? ⟨bm+1,1,none⟩=some (S (R 0)):=Aa Il.out.cX rfl;have x2:V.cell? ⟨bm+1,2,none⟩=some (S (R 0)):=Aa Il.out.cX rfl;have x3:V.cell? ⟨bm+1,3,none⟩=some (S (R 4)):=Aa Il.out.cX rfl;have x4:V.cell? ⟨bm+1,4,none⟩=some (S (R 4)):=Aa Il.out.cX rfl;have hne:(R 0 == R 4)=false:=(by decide +kernel);have tw:=Apl V (hw.ext Il.out.ext);unfold PV Af at tw
 dsimp only at tw
 (go_wp2_with fail);(with_reducible refine tw.mono ?_);rintro e w1 ⟨rfl,hx1⟩;have sS:=Asx (Il.out.grow hx1);clear x1 x2 x3 x4 hne tw hx1 Il
 go_upto_region 6 with fail
 obtain⟨V2,hV2⟩:=Asw (w1.alloc (.cells #[S (R 2),S (R 2)] 24));have hq:=Asz w1 (.cells #[S (R 2),S (R 2)] 24);have hx2:=(Ab.refl w1).alloc (.cells #[S (R 2),S (R 2)] 24);rw [←hV2]at hq hx2 ⊢;have Qm:=Asx (sS.out.grow hx2);obtain⟨bq,BH⟩:=Asw w1.heap.size;rw [←BH]at hq ⊢;clear hV2 hx2 BH sS;have m0:V2.cell? ⟨bm,0,none⟩=some (.slice A 4 c):=Aa Qm.out.cM rfl;have m1:V2.cell? ⟨bm,1,none⟩=some (.slice Bk 4 d):=Aa Qm.out.cM rfl;have m2:V2.cell? ⟨bm,2,none⟩=some (.slice F 1 g):=Aa Qm.out.cM rfl;have q0:V2.cell? ⟨bq,0,none⟩=some (S (R 2)):=Aa hq rfl;have q1:V2.cell? ⟨bq,1,none⟩=some (S (R 2)):=Aa hq rfl;have lc:=Qm.out.loc hw;clear hq;(go_wp2_with fail);(with_reducible refine lc.mono ?_);rintro e w2 ⟨rfl,hx2⟩;have bH:=Asx (Qm.out.grow hx2);replace m0:=hx2.cellS m0;replace m1:=hx2.cellS m1;replace m2:=hx2.cellS m2;have cy:=bH.out.cyc hw;clear lc hx2 Qm q0 q1;(go_wp2_with fail);(with_reducible refine cy.mono ?_);rintro e w3 ⟨v,rfl,ho,hx3⟩;obtain⟨bo,co,bl,cl,rfl,-,-⟩:=ho;have Fl:=Asx (bH.out.grow hx3);clear cy hx3 bH m0 m1 m2
 go_upto_region 17 with fail
 obtain⟨V4,EP⟩:=Asw (w3.alloc (.cells #[.int .i64 0,.int .i64 0] 120));have he:=Asz w3 (.cells #[.int .i64 0,.int .i64 0] 120);have Ao:=(Ab.refl w3).alloc (.cells #[.int .i64 0,.int .i64 0] 120);have Pi:=Fl.out.ext.size;rw [←EP]at he Ao ⊢;have Io:=Asx (Fl.out.grow Ao);obtain⟨be,A7⟩:=Asw w3.heap.size;rw [←A7]at he Pi ⊢;clear EP Ao A7 Fl;have x1:V4.cell? ⟨bm+1,1,none⟩=some (S (R 0)):=Aa Io.out.cX rfl;have x2:V4.cell? ⟨bm+1,2,none⟩=some (S (R 0)):=Aa Io.out.cX rfl;have x3:V4.cell? ⟨bm+1,3,none⟩=some (S (R 4)):=Aa Io.out.cX rfl;have x4:V4.cell? ⟨bm+1,4,none⟩=some (S (R 4)):=Aa Io.out.cX rfl
 go_upto_region 18 with fail
 obtain⟨V5,KV⟩:=Asw (V4.alloc (.cells #[S (R 0),S (R 0),S (R 4),S (R 4)] 24));have hp:=Asz V4 (.cells #[S (R 0),S (R 0),S (R 4),S (R 4)] 24);have As:=(Ab.refl V4).alloc (.cells #[S (R 0),S (R 0),S (R 4),S (R 4)] 24);rw [←KV]at hp As ⊢;have Qn:=Asx (Io.out.grow As);replace he:=(As.block _ (Asy he)).trans he;obtain⟨bp,Ap⟩:=Asw V4.heap.size;rw [←Ap]at hp ⊢;clear KV As Ap Io x1 x2 x3 x4
 go_loopw [72] (fun iv wr=>∃i:Nat,iv=.int .i64 (i:Nat)/\i<=2/\Em w0 w B wr bm (bm+1) (bm+1+1) A Bk F c d g u/\wr.heap[be]?=some (.cells #[.int .i64 0,.int .i64 (if i=2 then 3 else 0)] 120)/\wr.heap[bp]?=some (.cells #[S (R 0),S (R 0),S (R 4),S (R 4)] 24)) (fun iv _=>2-(intOf iv).toNat)
 case atStart=>exact⟨0,rfl,by omega,Qn.out,he,hp⟩
 case round=>
  obtain⟨i,rfl,hi,hP,A7,Ap⟩:=hrel;have HP:=Asx hP;clear hP;obtain rfl|rfl|rfl:i=0∨i=1∨i=2:=by omega
  ·have p0:wr.cell? ⟨bp,0,none⟩=some (S (R 0)):=Aa Ap rfl;have p1:wr.cell? ⟨bp,1,none⟩=some (S (R 0)):=Aa Ap rfl
   go_upto_region 20 with fail
   obtain⟨V7,JL⟩:=Asw (wr.alloc (.cells #[S (R 0),S (R 0)] 24));have hz:=Asz wr (.cells #[S (R 0),S (R 0)] 24);have Az:=(Ab.refl wr).alloc (.cells #[S (R 0),S (R 0)] 24);rw [←JL]at hz Az ⊢;have C9:=Asx (HP.out.grow Az);replace A7:=(Az.block _ (Asy A7)).trans A7;replace Ap:=(Az.block _ (Asy Ap)).trans Ap;obtain⟨bs,Bz⟩:=Asw wr.heap.size;rw [←Bz]at hz ⊢;clear JL Az Bz HP p0 p1;have m0:V7.cell? ⟨bm,0,none⟩=some (.slice A 4 c):=Aa C9.out.cM rfl;have m1:V7.cell? ⟨bm,1,none⟩=some (.slice Bk 4 d):=Aa C9.out.cM rfl;have m2:V7.cell? ⟨bm,2,none⟩=some (.slice F 1 g):=Aa C9.out.cM rfl;have z0:V7.cell? ⟨bs,0,none⟩=some (S (R 0)):=Aa hz rfl;have z1:V7.cell? ⟨bs,1,none⟩=some (S (R 0)):=Aa hz rfl;have ins:=C9.out.in0;clear hz;(go_wp2_with fail);(with_reducible refine ins.mono ?_);rintro e w8 ⟨rfl,Be⟩;have D8:=Asx (C9.out.grow Be);replace A7:=(Be.block _ (Asy A7)).trans A7;replace Ap:=(Be.block _ (Asy Ap)).trans Ap;clear ins Be C9 m0 m1 m2 z0 z1;have m0:w8.cell? ⟨bm,0,none⟩=some (.slice A 4 c):=Aa D8.out.cM rfl;have m1:w8.cell? ⟨bm,1,none⟩=some (.slice Bk 4 d):=Aa D8.out.cM rfl;have m2:w8.cell? ⟨bm,2,none⟩=some (.slice F 1 g):=Aa D8.out.cM rfl;have f0:=Ah (o:=0) D8.out.cM;have f1:=Ah (o:=1) D8.out.cM;have f2:=Ah (o:=2) D8.out.cM;have e0:=Aa (o:=0) A7 rfl;have fe:=Ah (o:=0) A7;have hne:be≠bm:=BF A7 D8.out.cM (by decide);have YH:bm≠be:=fun h=>hne h.symm;have Me:=(LO YH (.slice A 4 c) (.slice Bk 4 d) (.slice F 1 g)).trans A7;have Pj:=(LO (BF D8.out.cM Ap (by decide)) (.slice A 4 c) (.slice Bk 4 d) (.slice F 1 g)).trans Ap;have HF:=Asx (And.intro (D8.out.set.end (k:=0) Me Pi (.int .i64 0)) (And.intro (Ac2 (.int .i64 0) Me) ((Bu (p:=⟨be,0,none⟩) (v:=.int .i64 0) (by exact BF Pj Me (by decide))).trans Pj)));clear Me Pj A7 Ap;go_wp2;go_roundw
   case rel=>exact⟨1,rfl,by omega,HF.out⟩
   case measure=>simp [intOf]
  ·have p0:wr.cell? ⟨bp,2,none⟩=some (S (R 4)):=Aa Ap rfl;have p1:wr.cell? ⟨bp,3,none⟩=some (S (R 4)):=Aa Ap rfl
   go_upto_region 20 with fail
   obtain⟨V7,JL⟩:=Asw (wr.alloc (.cells #[S (R 4),S (R 4)] 24));have hz:=Asz wr (.cells #[S (R 4),S (R 4)] 24);have Az:=(Ab.refl wr).alloc (.cells #[S (R 4),S (R 4)] 24);rw [←JL]at hz Az ⊢;have C9:=Asx (HP.out.grow Az);replace A7:=(Az.block _ (Asy A7)).trans A7;replace Ap:=(Az.block _ (Asy Ap)).trans Ap;obtain⟨bs,Bz⟩:=Asw wr.heap.size;rw [←Bz]at hz ⊢;clear JL Az Bz HP p0 p1;have m0:V7.cell? ⟨bm,0,none⟩=some (.slice A 4 c):=Aa C9.out.cM rfl;have m1:V7.cell? ⟨bm,1,none⟩=some (.slice Bk 4 d):=Aa C9.out.cM rfl;have m2:V7.cell? ⟨bm,2,none⟩=some (.slice F 1 g):=Aa C9.out.cM rfl;have z0:V7.cell? ⟨bs,0,none⟩=some (S (R 4)):=Aa hz rfl;have z1:V7.cell? ⟨bs,1,none⟩=some (S (R 4)):=Aa hz rfl;have ins:=C9.out.in4;clear hz;(go_wp2_with fail);(with_reducible refine ins.mono ?_);rintro e w8 ⟨rfl,Be⟩;have D8:=Asx (C9.out.grow Be);replace A7:=(Be.block _ (Asy A7)).trans A7;replace Ap:=(Be.block _ (Asy Ap)).trans Ap;clear ins Be C9 m0 m1 m2 z0 z1;have m0:w8.cell? ⟨bm,0,none⟩=some (.slice A 4 c):=Aa D8.out.cM rfl;have m1:w8.cell? ⟨bm,1,none⟩=some (.slice Bk 4 d):=Aa D8.out.cM rfl;have m2:w8.cell? ⟨bm,2,none⟩=some (.slice F 1 g):=Aa D8.out.cM rfl;have f0:=Ah (o:=0) D8.out.cM;have f1:=Ah (o:=1) D8.out.cM;have f2:=Ah (o:=2) D8.out.cM;have e0:=Aa (o:=1) A7 rfl;have fe:=Ah (o:=1) A7;have hne:be≠bm:=BF A7 D8.out.cM (by decide);have YH:bm≠be:=fun h=>hne h.symm;have Me:=(LO YH (.slice A 4 c) (.slice Bk 4 d) (.slice F 1 g)).trans A7;have Pj:=(LO (BF D8.out.cM Ap (by decide)) (.slice A 4 c) (.slice Bk 4 d) (.slice F 1 g)).trans Ap;have HF:=Asx (And.intro (D8.out.set.end (k:=1) Me Pi (.int .i64 3)) (And.intro (Ac3 (.int .i64 3) Me) ((Bu (p:=⟨be,1,none⟩) (v:=.int .i64 3) (by exact BF Pj Me (by decide))).trans Pj)));clear Me Pj A7 Ap;go_wp2;go_roundw
   case rel=>exact⟨2,rfl,by omega,HF.out⟩
   case measure=>simp [intOf]
  ·replace A7:wr.heap[be]?=some (.cells #[.int .i64 0,.int .i64 3] 120):=A7;clear Ap;have m0:wr.cell? ⟨bm,0,none⟩=some (.slice A 4 c):=Aa HP.out.cM rfl;have m1:wr.cell? ⟨bm,1,none⟩=some (.slice Bk 4 d):=Aa HP.out.cM rfl;have m2:wr.cell? ⟨bm,2,none⟩=some (.slice F 1 g):=Aa HP.out.cM rfl;have cy:=HP.out.cyc hw;(go_wp2_with fail);(with_reducible refine cy.mono ?_);rintro e w9 ⟨v,rfl,ho,Df⟩;obtain⟨bo2,co2,vG,Iw,rfl,hc2,YM⟩:=ho;replace A7:=(Df.block _ (Asy A7)).trans A7;have Eu:=Asx (HP.out.grow Df);clear cy Df HP m0 m1 m2;have e0:w9.cell? ⟨be,0,none⟩=some (.int .i64 0):=Aa A7 rfl;have e1:w9.cell? ⟨be,1,none⟩=some (.int .i64 3):=Aa A7 rfl
   have hrl:=(show Ad w9 vG (zs [0,2,3,1])/\4<=Iw/\Iw<=9223372036854775807 by
    obtain⟨A1,c1,q1,r1,s1,t1⟩:=Ad.of_own' (by omega) YM;simp only [Value.slice.injEq,true_and]at q1;obtain⟨rfl,rfl⟩:=q1
    exact⟨r1,s1,t1⟩)
   obtain⟨gl,rfl⟩:∃gl,vG=some ⟨gl,0,none⟩:=Z7 YM;have HOL:=Asx YM;clear YM;obtain⟨r1,hl4,Rq⟩:=hrl;have hc3:w9.cell? ⟨bo2,0,none⟩=some (.slice (some ⟨gl,0,none⟩) 4 Iw):=hc2;clear hc2
   go_upto_region 29 with fail
   have MY:=Asx A7;clear hc3 e0 e1 A7
   go_loopw [106] (fun iv wr=>∃i:Nat,iv=.int .i64 (i:Nat)/\i<=2/\Ab w9 wr) (fun iv _=>2-(intOf iv).toNat)
   case atStart=>exact⟨0,rfl,by omega,Ab.refl _⟩
   case round=>
    obtain⟨i,rfl,hi,hx⟩:=hrel;have n0:=Ahh;have n1:=Ahi;obtain rfl|rfl|rfl:i=0∨i=1∨i=2:=by omega
    ·have ct:=Xm [0,2,3,1] 0 4 true rfl (by decide) (some ⟨gl,0,none⟩) Iw wr (r1.ext hx) hl4 Rq;(go_wp2_with fail);(with_reducible refine ct.mono ?_);rintro e w10 ⟨rfl,hx10⟩;replace hx:=hx.trans hx10;have HX:=Asx hx;clear ct;go_wp2;go_roundw
     case rel=>exact⟨1,rfl,by omega,HX.out⟩
     case measure=>simp [intOf]
    ·have ct:=Xm [0,2,3,1] 3 4 true rfl (by decide) (some ⟨gl,0,none⟩) Iw wr (r1.ext hx) hl4 Rq;(go_wp2_with fail);(with_reducible refine ct.mono ?_);rintro e w10 ⟨rfl,hx10⟩;replace hx:=hx.trans hx10;have HX:=Asx hx;clear ct;go_wp2;go_roundw
     case rel=>exact⟨2,rfl,by omega,HX.out⟩
     case measure=>simp [intOf]
    ·have e0:wr.cell? ⟨be,0,none⟩=some (.int .i64 0):=Aa ((hx.block _ (Asy MY.out)).trans MY.out) rfl;have e1:wr.cell? ⟨be,1,none⟩=some (.int .i64 3):=Aa ((hx.block _ (Asy MY.out)).trans MY.out) rfl
     go_upto_region 35 with fail
     have HX0:=Asx hx;clear hx e0 e1
     go_loopw [116] (fun iv wr=>∃i:Nat,iv=.int .i64 (i:Nat)/\i<=2/\Ab w9 wr) (fun iv _=>2-(intOf iv).toNat)
     case atStart=>exact⟨0,rfl,by omega,HX0.out⟩
     case round=>
      obtain⟨i,rfl,hi,hx⟩:=hrel;obtain rfl|rfl|rfl:i=0∨i=1∨i=2:=by omega
      ·have ix:=xr [0,2,3,1] 0 4 0 rfl (by decide) (some ⟨gl,0,none⟩) Iw wr (r1.ext hx) hl4 Rq;(go_wp2_with fail);(with_reducible refine ix.mono ?_);rintro e w10 ⟨rfl,hx10⟩;replace hx:=hx.trans hx10;have ct:=Xm [2,3,1] 0 3 false rfl (by decide) (some ⟨gl,1,none⟩) (Iw-1) w10 (show Ad w10 (some ⟨gl,1,none⟩) (zs [2,3,1])by have:=(r1.dropI 1).ext hx;rw [Nat.zero_add]at this;exact this) (by omega) (by omega);have Ajr:(4:Int)<=(Iw:Int):=(by omega);clear ix;(go_wp2_with fail);(with_reducible refine ct.mono ?_);rintro e w11 ⟨rfl,EF⟩;replace hx:=hx.trans EF;have HX:=Asx hx;clear ct;go_wp2;go_roundw
       case rel=>exact⟨_,_,_,_,_,_,_,_,_,_,_,_,_,_,_,_,_,⟨1,rfl,by omega,HX.out⟩,rfl⟩
       case measure=>simp [intOf]
      ·have ix:=xr [0,2,3,1] 3 4 2 rfl (by decide) (some ⟨gl,0,none⟩) Iw wr (r1.ext hx) hl4 Rq;(go_wp2_with fail);(with_reducible refine ix.mono ?_);rintro e w10 ⟨rfl,hx10⟩;replace hx:=hx.trans hx10;have ct:=Xm [1] 3 1 false rfl (by decide) (some ⟨gl,3,none⟩) (Iw-3) w10 (show Ad w10 (some ⟨gl,3,none⟩) (zs [1])by have:=(r1.dropI 3).ext hx;rw [Nat.zero_add]at this;exact this) (by omega) (by omega);have Ajr:(4:Int)<=(Iw:Int):=(by omega);clear ix;(go_wp2_with fail);(with_reducible refine ct.mono ?_);rintro e w11 ⟨rfl,EF⟩;replace hx:=hx.trans EF;have HX:=Asx hx;clear ct;go_wp2;go_roundw
       case rel=>exact⟨_,_,_,_,_,_,_,_,_,_,_,_,_,_,_,_,_,⟨2,rfl,by omega,HX.out⟩,rfl⟩
       case measure=>simp [intOf]
      ·have Fo:=Asx (Eu.out.grow hx);have m0:wr.cell? ⟨bm,0,none⟩=some (.slice A 4 c):=Aa Fo.out.cM rfl;have m1:wr.cell? ⟨bm,1,none⟩=some (.slice Bk 4 d):=Aa Fo.out.cM rfl;have m2:wr.cell? ⟨bm,2,none⟩=some (.slice F 1 g):=Aa Fo.out.cM rfl;have e0:wr.cell? ⟨be,0,none⟩=some (.int .i64 0):=Aa ((hx.block _ (Asy MY.out)).trans MY.out) rfl;have e1:wr.cell? ⟨be,1,none⟩=some (.int .i64 3):=Aa ((hx.block _ (Asy MY.out)).trans MY.out) rfl;have xu:wr.cell? ⟨bm+1,7,none⟩=some (S u):=Aa Fo.out.cX rfl
       have pa:Calls Tryz.prog 69 #[.agg #[.slice A 4 c,.slice Bk 4 d,.slice F 1 g],.int .i64 0,.slice (some ⟨gl,0,none⟩) 4 Iw,.agg #[.int .i64 0,.int .i64 3],S u] wr
         (fun e w'=>∃A' B' F' c' d' g',e=.returned (.tuple #[.agg #[.slice A' 4 c',.slice B' 5 d',.slice F' 2 g'],.int .i64 0])/\Cx B w' A' B' F' c' d' g' MH [[97],u]/\Ab w0 w'/\∀(j:Nat) (cs:Array Value),wr.heap[j]?=some (.cells cs 35)→w'.heap[j]?=some (.cells cs 35)):=by
        have h:=AmL AL [[97]] [0,2,3,1] 0 0 3 u 2 4 rfl (by decide) (by omega) (by omega) (by decide) Aoc (by rw [AaO];exact(LI vX).1) (LI Xj).2 (by decide) (by decide) (by decide) (by decide) (by decide) A Bk F (some ⟨gl,0,none⟩) c d g Iw hw Fo.out.ext Fo.out.szB Fo.out.szb.2.2.2 Fo.out.own (An HOL.out hx);rw [AaO]at h;exact h
       (go_wp2_with fail);(with_reducible refine pa.mono ?_);rintro e Cu ⟨A',B',F',c',d',g',rfl,hown,Cc,JZ⟩;have AE:=JZ _ _ Fo.out.cR;have J4:=Asx Fo.out.szb;have SQ:=Asx (fun (j:Nat) (cs:Array Value) (hj:w.heap[j]?=some (.cells cs 35))=>(LO (w:=Cu) (show bm+1+1≠j by have h1:=Fo.out.szm.2;have h2:=Asy hj;omega) (.slice A' 4 c') (.slice B' 5 d') (.slice F' 2 g')).trans (JZ j cs (Fo.out.mp j cs hj)));clear pa JZ hx Fo m0 m1 m2 e0 e1 xu;have g0:=Aa (o:=0) AE rfl;have g1:=Aa (o:=1) AE rfl;have g2:=Aa (o:=2) AE rfl;have Jb:=Ah (o:=0) AE;have g4:=Ah (o:=1) AE;have g5:=Ah (o:=2) AE;have AA:=Dd (.slice A' 4 c') (.slice B' 5 d') (.slice F' 2 g') AE;have t1:=Aa (o:=0) AA rfl;have t2:=Aa (o:=1) AA rfl;have t3:=Aa (o:=2) AA rfl;have Bf:=Asx (show Cx B (((Cu.setCell ⟨bm+1+1,0,none⟩ (.slice A' 4 c')).setCell ⟨bm+1+1,1,none⟩ (.slice B' 5 d')).setCell ⟨bm+1+1,2,none⟩ (.slice F' 2 g')) A' B' F' c' d' g' MH [[97],u] from⟨DN hown.pts AE (by decide) _ _ _,DN hown.eds AE (by decide) _ _ _,DN hown.fac AE (by decide) _ _ _,hown.nf⟩);have aL:=Asx (CQ Cc J4.out.2.1 (.slice A' 4 c') (.slice B' 5 d') (.slice F' 2 g'));clear hown Cc AE AA;go_wp2;refine bodyPost_ret (v:=.tuple #[.agg #[.slice A' 4 c',.slice B' 5 d',.slice F' 2 g'],.int .i64 0]) (by simp [results,Tryz.results38,go_sem,t1,t2,t3]) rfl ?_;exact⟨A',B',F',c',d',g',rfl,Bf.out,aL.out,SQ.out⟩
end Go.Proofs.YtnddllipjippnaaGreatDoor
