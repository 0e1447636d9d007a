/- J24: BA BJ QDP. -/
import Derived.Test.YtnddllipjippnaaGreatDoorJ23
set_option maxRecDepth 100000
set_option maxHeartbeats 8000000
namespace Go.Proofs.YtnddllipjippnaaGreatDoor
open Go.RowKit Kl Go.Lib
instance instInhPt:Inhabited Pt:=⟨⟨0,0⟩⟩
instance instDecPt:DecidableEq Pt:=fun a b=>if h:Ax a b=true then isTrue (CP.1 h)else isFalse fun e=>h (CP.2 e)
theorem aA{w0:World}(b:Nat)(hb:w0.heap.size<=b):∀(vs:List Value) (o:Nat) (w:World),Ab w0 w→Ab w0 (w.setCells b o vs)
 | [],_,_,h=>h
 | v::r,o,_,h=>aA b hb r (o+1) _ (h.setCell (p:=⟨b,o,none⟩) hb v)
theorem QR{w:World}{base g n cap:Nat}{e:TypeId}{d:Array Pt}(h:w.ownsRow base e 2 (.slice (some ⟨g,0,none⟩) n cap) n (flat (Aq d.toList)))(hs:d.size=n){j:Nat}(hj:j<n) :
  w.cell? ⟨g,j*2,none⟩=some (S (R d[j]!.x))/\w.cell? ⟨g,j*2+1,none⟩=some (S (R d[j]!.y)):=by
 have hl:(Aq d.toList).length=n:=(by simp [Aq,hs]);have hd:d[j]! = d.toList[j]'(by simpa [hs]using hj):=(by rw [getElem!_pos d j (by omega)];simp);obtain⟨f1,f2⟩:=flat_get (Aq d.toList) j (by omega);rw [h.cellAt (j*2) (by omega),h.cellAt (j*2+1) (by omega),hd,f1,f2];simp [Aq,Ma]
theorem uE:∀(l:List (Bs×Bs)) (k:Nat) (u:Bs×Bs),((flat l).set (k*2) (S u.1)).set (k*2+1) (S u.2)=flat (l.set k u)
 | [],_,_=>by simp [flat]
 | p::l,0,_=>rfl
 | p::l,k+1,u=>by
  have e:flat (p::l)=S p.1::S p.2::flat l:=rfl;have e1:(k+1)*2=k*2+1+1:=(by omega);rw [e,e1,List.set_cons_succ,List.set_cons_succ,List.set_cons_succ,List.set_cons_succ,uE l k u]
  rfl
theorem AiM{w:World}{base g n cap:Nat}{e:TypeId}{d:Array Pt}(h:w.ownsRow base e 2 (.slice (some ⟨g,0,none⟩) n cap) n (flat (Aq d.toList)))(k:Nat)(u:Pt) :
  ((w.setCell ⟨g,k*2,none⟩ (S (R u.x))).setCell ⟨g,k*2+1,none⟩ (S (R u.y))).ownsRow base e 2 (.slice (some ⟨g,0,none⟩) n cap) n (flat (Aq (d.setIfInBounds k u).toList)):=by
 have h2:=((h.stored (k*2) (S (R u.x))).1.stored (k*2+1) (S (R u.y))).1;have e2:=uE (Aq d.toList) k (Ma u);simp only [Ma]at e2;rw [e2]at h2;rw [Array.toList_setIfInBounds];have e3:Aq (d.toList.set k u)=(Aq d.toList).set k (R u.x,R u.y):=(by unfold Aq;rw [List.map_set];rfl);rw [e3];exact h2
theorem Ake(w:World)(b o n c:Nat)(hn:0<n)(hc:∀j,j<n*2→(w.cell? ⟨b,o+j,none⟩).isSome=true)(hf:∀j,j<n*2→w.frozen? ⟨b,o+j,none⟩=false) :
  ∃vs:List Value,vs.length=n*2/\∀ty,(Builtin.clear_ #[31] ty #[.slice (some ⟨b,o,none⟩) n c]).run Tryz.prog w=.ok (.tuple #[]) (w.setCells b o vs):=by
 obtain⟨i0,hi,hz0,hz1,hz2⟩:=info_parts Tryz.infoPt;have hv:∀w,(zeroValue 24).run Tryz.prog w=.ok (.agg #[S [],S []]) w:=fun w=>(by simp [zeroValue,typeInfo,hi,hz0]);have dR:(Value.agg #[S [],S []]).cells=#[S [],S []]:=(by kernel_rfl);have hl:(Builtin.zeroCells #[S [],S []] n).toList.length=n*2:=(by simp [Builtin.zeroCells]);refine⟨(Builtin.zeroCells #[S [],S []] n).toList,hl,fun ty=>?_⟩
 have hst:=run_storeCells_cells (P:=Tryz.prog) b o (Builtin.zeroCells #[S [],S []] n).toList 0 w (by rw [hl];simpa using hc) (by rw [hl];simpa using hf) (by
  intro v hv';simp only [Builtin.zeroCells]at hv';simp at hv';obtain⟨j,_,e⟩:=hv';have:j%2=0∨j%2=1:=by omega
  rcases this with h|h<;>(rw [h]at e;simp at e;subst e;rfl))
 simp only [Nat.add_zero]at hst;obtain⟨m,rfl⟩:∃m,n=m+1:=⟨n-1,by omega⟩;simp [Builtin.clear_,run_underlying Tryz.underlying31,hv,dR,hst]
def Zm(w:World)(base:Nat)(wr:World):Prop:=∀w0,Ab w0 w→w0.heap.size<=base→Ab w0 wr
def Abd(l:List Pt)(w:World)(base:Nat)(e:Ending)(w':World):Prop:=
 ∃A k,e=.returned (.slice A l.length k)/\Af w' A (flat (Aq l))/\l.length<=k/\k<=9223372036854775807/\Zm w base w'
theorem AjJ{w:World}{g:Nat}{l:List Pt}(h:∀j (hj:j<l.length),w.cell? ⟨g,j*2,none⟩=some (S (R l[j].x))/\w.cell? ⟨g,j*2+1,none⟩=some (S (R l[j].y))):Af w (some ⟨g,0,none⟩) (flat (Aq l)):=by
 refine⟨fun _=>⟨g,0,rfl,fun j hj=>?_⟩⟩;have hj':=hj;rw [flat_length,show (Aq l).length=l.length by simp [Aq]]at hj';obtain⟨q,hq⟩:∃q,j=q*2∨j=q*2+1:=⟨j/2,by omega⟩;obtain⟨f1,f2⟩:=h q (by omega);obtain⟨e1,e2⟩:=flat_get (Aq l) q (by simp [Aq];omega);simp only [Aq,List.getElem_map,Ma]at e1 e2;rw [Nat.zero_add,←AoC hj]
 rcases hq with rfl|rfl
 ·rw [f1];exact e1.symm
 ·rw [f2];exact e2.symm
theorem Yd{w:World}{base:Nat}{e:TypeId}{size:Nat}{v:Value}{n:Nat}{xs:List Value}(h:w.ownsRow base e size v n xs)(k:Nat):(w.drewN k).ownsRow base e size v n xs:=AL h ((Ab.refl w).drewN k)
theorem AcL{L:List Pt}(h:L.length<2):compact L=L:=compact_all L fun j hj=>keeps_lt_one _ j (by omega)
theorem AcJ(L:List Pt)(v:Value)(w:World)(base:Nat)(hown:w.ownsRow base 24 2 v L.length (flat (Aq L))) :
  Calls Tryz.prog 136 #[v] w (Abd (compact L) w base):=by
 by_cases h2:L.length<2
 ·rw [AcL h2];obtain⟨A,c,rfl,hr,hc1,hc2⟩:=Af.of_own' (by omega) hown;have h2':(L.length:Int)<2:=(by omega);have HR:=Ao4 hr;clear hown hr;go_enter Tryz.func136,Tryz.ntmps136;go_wp2;go_ret;exact⟨A,c,rfl,HR.out,hc1,hc2,fun _ h _=>h⟩
 ·obtain⟨g,cap,rfl,hc1,hc2⟩:∃g cap,v=.slice (some ⟨g,0,none⟩) L.length cap/\L.length<=cap/\cap<=9223372036854775807:=by
   rcases hown.2 with⟨_,h'⟩|⟨g,cap,cur,hv,hb,hg,hnc,hcm,hcs,htake⟩
   ·omega
   ·exact⟨g,cap,hv,hnc,by unfold maxLen at hcm;omega⟩
  have hbg:=kH hown g rfl;obtain⟨d,hd⟩:=Ao3 L.toArray;obtain⟨n,hn⟩:=Ao3 L.length;have En:d.size=n:=(by rw [hd,hn];simp);have Lu:compact L=compactUpTo d n:=(by unfold compact;rw [hd,hn]);rw [←hn]at hown h2 hc1 ⊢;rw [Lu];rw [show L=d.toList by rw [hd]]at hown;clear hd hn Lu;have h2a:(2:Int)<=(n:Int):=(by omega);clear h2;go_enter Tryz.func136,Tryz.ntmps136;go_wp2
  go_loopw [3] (fun s3 wr=>∃k:Nat,s3=.int .i64 k/\1<=k/\k<=n/\(∀j,j<k→keeps d j=true)/\wr.ownsRow base 24 2 (.slice (some ⟨g,0,none⟩) n cap) n (flat (Aq d.toList))/\Zm w base wr) (fun s3 _=>n-(RowKit.intOf s3).toNat)
  case atStart=>exact⟨1,rfl,by omega,by omega,keeps_lt_one d,hown,fun _ h _=>h⟩
  case round=>
   obtain⟨k,rfl,DX,hk,hall,hown1,hex⟩:=hrel;have mR:=Ao4 hall;by_cases hlt:k<n
   ·have hk0:(0:Int)<=(k:Int):=(by omega);have Anr:(1:Int)<=(k:Int):=(by omega);have hkn:(k:Int)<(n:Int):=(by omega);obtain⟨g1,g2⟩:=QR hown1 En hlt;obtain⟨g3,g4⟩:=QR hown1 En (j:=k-1) (by omega);obtain⟨x,hx⟩:=Ao3 (d[k]!);obtain⟨y,hy⟩:=Ao3 (d[k-1]!);rw [←hx]at g1 g2;rw [←hy]at g3 g4;have Ez:=Ao4 (And.intro hx hy);have TC:((k:Int)-1).toNat=k-1:=(by omega);have Qp:IntKind.i64.wrap ((k:Int)-1)=(k:Int)-1:=AoD _ (by omega);have zQ:((k:Int)-1)<(n:Int):=(by omega);have zR:(0:Int)<=((k:Int)-1):=(by omega);clear hx hy hall;have he:=lH x y
    cases hb:Ax x y
    ·rw [hb]at he;have hdec:keeps d k=true:=keeps_pos (by rw [←Ez.out.1,←Ez.out.2];intro e;rw [CP.2 e]at hb;cases hb)
     have wW:∀j,j<k+1→keeps d j=true:=fun j hj=>by
      by_cases e:j=k
      ·subst e;exact hdec
      ·exact mR.out j (by omega)
     have xz:=Ao4 wW;clear wW hdec hb;(go_wp2_with fail)
     go_quiet (fail)
     go_wp2;go_roundw
     case rel=>exact⟨k+1,by go_num,by omega,by omega,xz.out,Yd hown1 _,fun w0 h h'=>(hex w0 h h').drewN _⟩
     case measure=>simp [RowKit.intOf];omega
    ·rw [hb]at he;have zO:keeps d k=false:=keeps_neg (by omega) (by rw [←Ez.out.1,←Ez.out.2];exact CP.1 hb);have Aai:=Ao4 zO;clear zO hb;(go_wp2_with fail)
     go_quiet (fail)
     clear g1 g2 g3 g4 TC Qp zQ zR hlt he;have AmW:cap-k<=cap:=(by omega);go_wp2
     go_loopw [3,5] (fun s3 s5 wr2=>∃(kk k2:Nat) (dk:Array Pt),s3=.int .i64 kk/\s5=.int .i64 k2/\1<=k2/\k+k2<=n/\wr2.ownsRow base 24 2 (.slice (some ⟨g,0,none⟩) n cap) n (flat (Aq dk.toList))/\CompInv d (k+k2) kk dk/\Zm w base wr2) (fun _ s5 _=>n-k-(RowKit.intOf s5).toNat)
     case atStart=>exact⟨k,1,d,rfl,rfl,by omega,by omega,Yd hown1 _,CompInv.start mR.out Aai.out,fun w0 h h'=>(hex w0 h h').drewN _⟩
     case round=>
      clear hown1 hex;obtain⟨kk,k2,dk,rfl,rfl,hk2,hle,hown2,hI,hex⟩:=hrel;have CO:=hI.lt;have WP:dk.size=n:=(by rw [hI.size,En]);have HI:=Ao4 hI;have AY:(0:Int)<=(kk:Int):=(by omega);have Bl:(1:Int)<=(k2:Int):=(by omega);have BH:(0:Int)<=(k2:Int):=(by omega);by_cases hlt2:k+k2<n
      ·have TS:(k2:Int)<((n-k:Nat):Int):=(by omega);obtain⟨g1,g2⟩:=QR hown2 WP hlt2;obtain⟨g3,g4⟩:=QR hown2 WP (j:=k+(k2-1)) (by omega);obtain⟨g5,g6⟩:=QR hown2 WP (j:=kk) (by omega);have f5:=hown2.frozenAt (kk*2);have f6:=hown2.frozenAt (kk*2+1);rw [hI.high (k+k2) (by omega),show (k+k2)*2=k*2+k2*2 by omega]at g1 g2;rw [hI.high (k+(k2-1)) (by omega),show (k+(k2-1))*2=k*2+(k2-1)*2 by omega]at g3 g4;obtain⟨x,hx⟩:=Ao3 (d[k+k2]!);obtain⟨y,hy⟩:=Ao3 (d[k+(k2-1)]!);obtain⟨z,hz⟩:=Ao3 (dk[kk]!);rw [←hx]at g1 g2;rw [←hy]at g3 g4;rw [←hz]at g5 g6;rw [show k+(k2-1)=k+k2-1 by omega]at hy;have Ez:=Ao4 (And.intro hx hy);have TC:((k2:Int)-1).toNat=k2-1:=(by omega);have Qp:IntKind.i64.wrap ((k2:Int)-1)=(k2:Int)-1:=AoD _ (by omega);have zQ:((k2:Int)-1)<((n-k:Nat):Int):=(by omega);have zR:(0:Int)<=((k2:Int)-1):=(by omega);have Af5:(kk:Int)<(n:Int):=(by omega);clear hx hy hz hI;have he:=rx x y
       cases hb:Ax x y
       ·rw [hb,Bool.not_false]at he
        have MS:CompInv d (k+(k2+1)) (kk+1) (dk.setIfInBounds kk x):=by have:=HI.out.keep (by omega) (keeps_pos (by rw [←Ez.out.1,←Ez.out.2];intro e;rw [CP.2 e]at hb;cases hb));rw [←Ez.out.1]at this;exact this
        have YM:=Ao4 MS;clear MS hb;(go_wp2_with fail)
        go_quiet (fail)
        go_wp2;go_roundw
        case rel=>exact⟨kk+1,k2+1,dk.setIfInBounds kk x,by go_num,by go_num,by omega,by omega,AiM (Yd hown2 _) kk x,YM.out,fun w0 h h'=>(((hex w0 h h').drewN _).setCell (p:=⟨g,kk*2,none⟩) (AoH h' hbg) _).setCell (p:=⟨g,kk*2+1,none⟩) (AoH h' hbg) _⟩
        case measure=>simp [RowKit.intOf];omega
       ·rw [hb,Bool.not_true]at he;have MS:CompInv d (k+(k2+1)) kk dk:=HI.out.skip (keeps_neg (by omega) (by rw [←Ez.out.1,←Ez.out.2];exact CP.1 hb));have YM:=Ao4 MS;clear MS hb;(go_wp2_with fail)
        go_quiet (fail)
        go_wp2;go_roundw
        case rel=>exact⟨kk,k2+1,dk,rfl,by go_num,by omega,by omega,Yd hown2 _,YM.out,fun w0 h h'=>(hex w0 h h').drewN _⟩
        case measure=>simp [RowKit.intOf];omega
      ·have hend:k+k2=n:=(by omega);have TS:((n-k:Nat):Int)<=(k2:Int):=(by omega);have Af5:(kk:Int)<=(n:Int):=(by omega);have Ant:(kk:Int)<=(cap:Int):=(by omega);obtain⟨vs,IG,hcl⟩:=Ake wr g (kk*2) (n-kk) (cap-kk) (by omega) (fun j hj=>by rw [hown2.cellAt _ (by omega),AoC (by rw [hown2.1];omega)];rfl) (fun j hj=>hown2.frozenAt _)
       have hpre:∀j (hj:j<(compactUpTo d n).length),(wr.setCells g (kk*2) vs).cell? ⟨g,j*2,none⟩=some (S (R (compactUpTo d n)[j].x))/\(wr.setCells g (kk*2) vs).cell? ⟨g,j*2+1,none⟩=some (S (R (compactUpTo d n)[j].y)):=by intro j hj;rw [hend]at hI;have hj':j<kk:=(by rw [←hI.len];exact hj);have TF:=hI.low j hj';rw [AoC hj,AoB]at TF;rw [World.cell?_setCells_out _ _ _ _ _ (fun _ _=>.inl (by simp only [];omega)),World.cell?_setCells_out _ _ _ _ _ (fun _ _=>.inl (by simp only [];omega)),TF];exact QR hown2 WP (by omega)
       have Aa2:=Ao4 hpre;have hlen:(compactUpTo d n).length=kk:=(by have:=hI.len;rw [hend]at this;exact this);clear hI hpre;go_wp2;go_ret;exact⟨some ⟨g,0,none⟩,cap,by rw [hlen];rfl,AjJ Aa2.out,by omega,hc2,fun w0 h h'=>aA g (AoH h' hbg) _ _ _ (hex w0 h h')⟩
   ·have hle:(n:Int)<=(k:Int):=by omega
    have he:compactUpTo d n=d.toList:=by have hr:=range_map_get d;rw [En]at hr;rw [compactUpTo_all _ _ (fun j hj=>hall j (by omega)),hr]
    have hl:(compactUpTo d n).length=n:=(by rw [he];simp [En]);go_wp2;go_ret;refine⟨some ⟨g,0,none⟩,cap,by rw [hl];rfl,?_,by omega,hc2,hex⟩;obtain⟨A,c,e,hr,_,_⟩:=Af.of_own' (by omega) hown1;rw [he]
    cases e;exact hr
end Go.Proofs.YtnddllipjippnaaGreatDoor
namespace Go.Proofs.YtnddllipjippnaaGreatDoor
open Go.RowKit Kl
theorem AjW{l:List Int}{k:Nat}(hk:k<l.length)(hl:l[k]=(k:Int)){A:Option Addr}{c:Nat}{w:World}(hr:Af w A (l.map (Value.int .i64))) :
  Calls Tryz.prog 83 #[.slice A l.length c,.int .i64 (k:Nat)] w (AI k w):=by
 obtain⟨b,o,rfl,hcell⟩:=hr.ad (by simp;omega);have f:=hcell k (by simp;omega);rw [List.getElem_map,hl]at f;have hk0:(0:Int)<=(k:Int):=(by omega);have DX:(k:Int)<(l.length:Int):=(by omega);clear hcell hr hl;go_enter Tryz.func83,Tryz.ntmps83;go_wp2
 go_loopw [1] (fun v wr=>v=.int .i64 (k:Nat)/\wr=w) (fun _ _=>0)
 case atStart=>exact⟨rfl,rfl⟩
 case round=>obtain⟨rfl,rfl⟩:=hrel;go_wp2;go_ret;exact⟨rfl,Ab.refl _⟩
theorem AjU{w:World}{base g cap:Nat}{x y:Pt}(h:w.ownsRow base 24 2 (.slice (some ⟨g,0,none⟩) 2 cap) 2 (flat (Aq [x,y]))) :
  ((((w.setCell ⟨g,0,none⟩ (S (R y.x))).setCell ⟨g,1,none⟩ (S (R y.y))).setCell ⟨g,2,none⟩ (S (R x.x))).setCell ⟨g,3,none⟩ (S (R x.y))).drew.ownsRow base 24 2 (.slice (some ⟨g,0,none⟩) 2 cap) 2 (flat (Aq [y,x]))
   /\w.grownBy ((((w.setCell ⟨g,0,none⟩ (S (R y.x))).setCell ⟨g,1,none⟩ (S (R y.y))).setCell ⟨g,2,none⟩ (S (R x.x))).setCell ⟨g,3,none⟩ (S (R x.y))).drew (some g):=by
 have h1:=((((h.stored 0 (S (R y.x))).1.stored 1 (S (R y.y))).1.stored 2 (S (R x.x))).1.stored 3 (S (R x.y))).1;refine⟨AL h1 (Ab.refl _).drew,⟨rfl,rfl,rfl,by simp,fun k hk hne=>?_⟩⟩;have WZ:k≠g:=fun e=>hne (by rw [e]);exact(Below.heap_setCell _ _ _ k WZ).trans ((Below.heap_setCell _ _ _ k WZ).trans ((Below.heap_setCell _ _ _ k WZ).trans (Below.heap_setCell _ _ _ k WZ)))
theorem AjV(x y:Pt)(g cap base:Nat)(w:World)(h:w.ownsRow base 24 2 (.slice (some ⟨g,0,none⟩) 2 cap) 2 (flat (Aq [x,y]))) :
  Calls Tryz.prog 137 #[.slice (some ⟨g,0,none⟩) 2 cap] w fun e w'=>
   e=.returned (.tuple #[])/\w'.ownsRow base 24 2 (.slice (some ⟨g,0,none⟩) 2 cap) 2 (flat (Aq [y,x]))/\w.grownBy w' (some g):=by
 have f0:=h.cellAt 0 (by omega);have f1:=h.cellAt 1 (by omega);have f2:=h.cellAt 2 (by omega);have f3:=h.cellAt 3 (by omega);simp only [Aq,Ma,flat,List.map_cons,List.map_nil,List.flatMap_cons,List.flatMap_nil,List.append_nil,List.cons_append,List.nil_append,List.getElem?_cons_zero,List.getElem?_cons_succ]at f0 f1 f2 f3;have z0:=h.frozenAt 0;have z1:=h.frozenAt 1;have z2:=h.frozenAt 2;have z3:=h.frozenAt 3;have H:=Ao4 h;clear h;go_enter Tryz.func137,Tryz.ntmps137;go_wp2
 go_loopw [2,3] (fun i j wr=>(i=.int .i64 0/\j=.int .i64 1/\wr=w)∨(i=.int .i64 1/\j=.int .i64 0/\wr.ownsRow base 24 2 (.slice (some ⟨g,0,none⟩) 2 cap) 2 (flat (Aq [y,x]))/\w.grownBy wr (some g))) (fun i _ _=>1-(intOf i).toNat)
 case atStart=>exact .inl ⟨rfl,rfl,rfl⟩
 case round=>
  rcases hrel with⟨rfl,rfl,rfl⟩|⟨rfl,rfl,ho,hg⟩
  ·go_upto_region 3 with fail
   have HR:=Ao4 (AjU H.out);unfold S at f0 f1 f2 f3 HR
   go_region
   go_wp2;go_roundw
   case rel=>exact .inr ⟨rfl,rfl,HR.out.1,HR.out.2⟩
   case measure=>simp [intOf]
  ·go_wp2
   go_end0
   exact⟨rfl,ho,hg⟩
end Go.Proofs.YtnddllipjippnaaGreatDoor
namespace Go.Proofs.YtnddllipjippnaaGreatDoor
end Go.Proofs.YtnddllipjippnaaGreatDoor
