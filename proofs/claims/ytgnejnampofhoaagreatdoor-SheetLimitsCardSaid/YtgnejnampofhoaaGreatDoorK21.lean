/- K21: ShBA ShBJ ShQDP. -/
import Derived.Test.YtgnejnampofhoaaGreatDoorK20
set_option maxRecDepth 100000
set_option maxHeartbeats 8000000
namespace Go.Proofs.YtgnejnampofhoaaGreatDoor
open Go.RowKit Kl Go.Lib
instance instInhPt:Inhabited Pt:=⟨⟨0,0⟩⟩
instance instDecPt:DecidableEq Pt:=fun a b=>if h:Ay a b=true then isTrue (C3.1 h)else isFalse fun e=>h (C3.2 e)
theorem Xw{w0:World}(b:Nat)(hb:w0.heap.size<=b):∀(vs:List Value) (o:Nat) (w:World),Ac w0 w→Ac w0 (w.setCells b o vs)
 | [],_,_,h=>h
 | v::r,o,_,h=>Xw b hb r (o+1) _ (h.setCell (p:=⟨b,o,none⟩) hb v)
theorem Pj{w:World}{base g n cap:Nat}{e:TypeId}{d:Array Pt}(h:w.ownsRow base e 2 (.slice (some ⟨g,0,none⟩) n cap) n (flat (Ai d.toList)))(hs:d.size=n){j:Nat}(hj:j<n) :
  w.cell? ⟨g,j*2,none⟩=some (S (R d[j]!.x))/\w.cell? ⟨g,j*2+1,none⟩=some (S (R d[j]!.y)):=by
 have hl:(Ai d.toList).length=n:=(by simp [Ai,hs]);have hd:d[j]! = d.toList[j]'(by simpa [hs]using hj):=(by rw [getElem!_pos d j (by omega)];simp);obtain⟨f1,f2⟩:=flat_get (Ai d.toList) j (by omega);rw [h.cellAt (j*2) (by omega),h.cellAt (j*2+1) (by omega),hd,f1,f2];simp [Ai,KR]
theorem mI:∀(l:List (Bs×Bs)) (k:Nat) (u:Bs×Bs),((flat l).set (k*2) (S u.1)).set (k*2+1) (S u.2)=flat (l.set k u)
 | [],_,_=>by simp [flat]
 | p::l,0,_=>rfl
 | p::l,k+1,u=>by
  have e:flat (p::l)=S p.1::S p.2::flat l:=rfl;have e1:(k+1)*2=k*2+1+1:=(by omega);rw [e,e1,List.set_cons_succ,List.set_cons_succ,List.set_cons_succ,List.set_cons_succ,mI l k u]
  rfl
theorem Ae0{w:World}{base g n cap:Nat}{e:TypeId}{d:Array Pt}(h:w.ownsRow base e 2 (.slice (some ⟨g,0,none⟩) n cap) n (flat (Ai d.toList)))(k:Nat)(u:Pt) :
  ((w.setCell ⟨g,k*2,none⟩ (S (R u.x))).setCell ⟨g,k*2+1,none⟩ (S (R u.y))).ownsRow base e 2 (.slice (some ⟨g,0,none⟩) n cap) n (flat (Ai (d.setIfInBounds k u).toList)):=by
 have h2:=((h.stored (k*2) (S (R u.x))).1.stored (k*2+1) (S (R u.y))).1;have e2:=mI (Ai d.toList) k (KR u);simp only [KR]at e2;rw [e2]at h2;rw [Array.toList_setIfInBounds];have e3:Ai (d.toList.set k u)=(Ai d.toList).set k (R u.x,R u.y):=(by unfold Ai;rw [List.map_set];rfl);rw [e3];exact h2
theorem AfF(w:World)(b o n c:Nat)(hn:0<n)(hc:∀j,j<n*2→(w.cell? ⟨b,o+j,none⟩).isSome=true)(hf:∀j,j<n*2→w.frozen? ⟨b,o+j,none⟩=false) :
  ∃vs:List Value,vs.length=n*2/\∀ty,(Builtin.clear_ #[31] ty #[.slice (some ⟨b,o,none⟩) n c]).run Tryz.prog w=.ok (.tuple #[]) (w.setCells b o vs):=by
 obtain⟨i0,hi,hz0,hz1,hz2⟩:=info_parts Tryz.infoPt;have hv:∀w,(zeroValue 27).run Tryz.prog w=.ok (.agg #[S [],S []]) w:=fun w=>(by simp [zeroValue,typeInfo,hi,hz0]);have LX:(Value.agg #[S [],S []]).cells=#[S [],S []]:=(by kernel_rfl);have hl:(Builtin.zeroCells #[S [],S []] n).toList.length=n*2:=(by simp [Builtin.zeroCells]);refine⟨(Builtin.zeroCells #[S [],S []] n).toList,hl,fun ty=>?_⟩
 have hst:=run_storeCells_cells (P:=Tryz.prog) b o (Builtin.zeroCells #[S [],S []] n).toList 0 w (by rw [hl];simpa using hc) (by rw [hl];simpa using hf) (by
  intro v hv';simp only [Builtin.zeroCells]at hv';simp at hv';obtain⟨j,_,e⟩:=hv';have:j%2=0∨j%2=1:=by omega
  rcases this with h|h<;>(rw [h]at e;simp at e;subst e;rfl))
 simp only [Nat.add_zero]at hst;obtain⟨m,rfl⟩:∃m,n=m+1:=⟨n-1,by omega⟩;simp [Builtin.clear_,run_underlying Tryz.underlying31,hv,LX,hst]
def Ww(w:World)(base:Nat)(wr:World):Prop:=∀w0,Ac w0 w→w0.heap.size<=base→Ac w0 wr
def mg(l:List Pt)(w:World)(base:Nat)(e:Ending)(w':World):Prop:=
 ∃A k,e=.returned (.slice A l.length k)/\Ae w' A (flat (Ai l))/\l.length<=k/\k<=9223372036854775807/\Ww w base w'
theorem Afo{w:World}{g:Nat}{l:List Pt}(h:∀j (hj:j<l.length),w.cell? ⟨g,j*2,none⟩=some (S (R l[j].x))/\w.cell? ⟨g,j*2+1,none⟩=some (S (R l[j].y))):Ae w (some ⟨g,0,none⟩) (flat (Ai l)):=by
 refine⟨fun _=>⟨g,0,rfl,fun j hj=>?_⟩⟩;have hj':=hj;rw [flat_length,show (Ai l).length=l.length by simp [Ai]]at hj';obtain⟨q,hq⟩:∃q,j=q*2∨j=q*2+1:=⟨j/2,by omega⟩;obtain⟨f1,f2⟩:=h q (by omega);obtain⟨e1,e2⟩:=flat_get (Ai l) q (by simp [Ai];omega);simp only [Ai,List.getElem_map,KR]at e1 e2;rw [Nat.zero_add,←Aj4 hj]
 rcases hq with rfl|rfl
 ·rw [f1];exact e1.symm
 ·rw [f2];exact e2.symm
theorem Vg{w:World}{base:Nat}{e:TypeId}{size:Nat}{v:Value}{n:Nat}{xs:List Value}(h:w.ownsRow base e size v n xs)(k:Nat):(w.drewN k).ownsRow base e size v n xs:=A9 h ((Ac.refl w).drewN k)
theorem vk{L:List Pt}(h:L.length<2):compact L=L:=compact_all L fun j hj=>keeps_lt_one _ j (by omega)
theorem vg(L:List Pt)(v:Value)(w:World)(base:Nat)(hown:w.ownsRow base 27 2 v L.length (flat (Ai L))) :
  Calls Tryz.prog 208 #[v] w (mg (compact L) w base):=by
 by_cases h2:L.length<2
 ·rw [vk h2];obtain⟨A,c,rfl,hr,hc1,hc2⟩:=Ae.of_own' (by omega) hown;have h2':(L.length:Int)<2:=(by omega);have HR:=Ajw hr;clear hown hr;go_enter Tryz.func208,Tryz.ntmps208;go_wp2;go_ret;exact⟨A,c,rfl,HR.out,hc1,hc2,fun _ h _=>h⟩
 ·obtain⟨g,cap,rfl,hc1,hc2⟩:∃g cap,v=.slice (some ⟨g,0,none⟩) L.length cap/\L.length<=cap/\cap<=9223372036854775807:=by
   rcases hown.2 with⟨_,h'⟩|⟨g,cap,cur,hv,hb,hg,hnc,hcm,hcs,htake⟩
   ·omega
   ·exact⟨g,cap,hv,hnc,by unfold maxLen at hcm;omega⟩
  have hbg:=Aez hown g rfl;obtain⟨d,hd⟩:=Ajv L.toArray;obtain⟨n,hn⟩:=Ajv L.length;have DJ:d.size=n:=(by rw [hd,hn];simp);have LY:compact L=compactUpTo d n:=(by unfold compact;rw [hd,hn]);rw [←hn]at hown h2 hc1 ⊢;rw [LY];rw [show L=d.toList by rw [hd]]at hown;clear hd hn LY;have h2a:(2:Int)<=(n:Int):=(by omega);clear h2;go_enter Tryz.func208,Tryz.ntmps208;go_wp2
  go_loopw [3] (fun s3 wr=>∃k:Nat,s3=.int .i64 k/\1<=k/\k<=n/\(∀j,j<k→keeps d j=true)/\wr.ownsRow base 27 2 (.slice (some ⟨g,0,none⟩) n cap) n (flat (Ai d.toList))/\Ww w base wr) (fun s3 _=>n-(RowKit.intOf s3).toNat)
  case atStart=>exact⟨1,rfl,by omega,by omega,keeps_lt_one d,hown,fun _ h _=>h⟩
  case round=>
   obtain⟨k,rfl,Dn,hk,hall,hown1,hex⟩:=hrel;have eH:=Ajw hall;by_cases hlt:k<n
   ·have hk0:(0:Int)<=(k:Int):=(by omega);have Aiz:(1:Int)<=(k:Int):=(by omega);have hkn:(k:Int)<(n:Int):=(by omega);obtain⟨g1,g2⟩:=Pj hown1 DJ hlt;obtain⟨g3,g4⟩:=Pj hown1 DJ (j:=k-1) (by omega);obtain⟨x,hx⟩:=Ajv (d[k]!);obtain⟨y,hy⟩:=Ajv (d[k-1]!);rw [←hx]at g1 g2;rw [←hy]at g3 g4;have DX:=Ajw (And.intro hx hy);have Mh:((k:Int)-1).toNat=k-1:=(by omega);have OG:IntKind.i64.wrap ((k:Int)-1)=(k:Int)-1:=Aj5 _ (by omega);have rI:((k:Int)-1)<(n:Int):=(by omega);have rJ:(0:Int)<=((k:Int)-1):=(by omega);clear hx hy hall;have he:=cZ x y
    cases hb:Ay x y
    ·rw [hb]at he;have hdec:keeps d k=true:=keeps_pos (by rw [←DX.out.1,←DX.out.2];intro e;rw [C3.2 e]at hb;cases hb)
     have pC:∀j,j<k+1→keeps d j=true:=fun j hj=>by
      by_cases e:j=k
      ·subst e;exact hdec
      ·exact eH.out j (by omega)
     have ey:=Ajw pC;clear pC hdec hb;(go_wp2_with fail)
     go_quiet (fail)
     go_wp2;go_roundw
     case rel=>exact⟨k+1,by go_num,by omega,by omega,ey.out,Vg hown1 _,fun w0 h h'=>(hex w0 h h').drewN _⟩
     case measure=>simp [RowKit.intOf];omega
    ·rw [hb]at he;have Rp:keeps d k=false:=keeps_neg (by omega) (by rw [←DX.out.1,←DX.out.2];exact C3.1 hb);have jc:=Ajw Rp;clear Rp hb;(go_wp2_with fail)
     go_quiet (fail)
     clear g1 g2 g3 g4 Mh OG rI rJ hlt he;have Aii:cap-k<=cap:=(by omega);go_wp2
     go_loopw [3,5] (fun s3 s5 wr2=>∃(kk k2:Nat) (dk:Array Pt),s3=.int .i64 kk/\s5=.int .i64 k2/\1<=k2/\k+k2<=n/\wr2.ownsRow base 27 2 (.slice (some ⟨g,0,none⟩) n cap) n (flat (Ai dk.toList))/\CompInv d (k+k2) kk dk/\Ww w base wr2) (fun _ s5 _=>n-k-(RowKit.intOf s5).toNat)
     case atStart=>exact⟨k,1,d,rfl,rfl,by omega,by omega,Vg hown1 _,CompInv.start eH.out jc.out,fun w0 h h'=>(hex w0 h h').drewN _⟩
     case round=>
      clear hown1 hex;obtain⟨kk,k2,dk,rfl,rfl,hk2,hle,hown2,hI,hex⟩:=hrel;have CP:=hI.lt;have Un:dk.size=n:=(by rw [hI.size,DJ]);have HI:=Ajw hI;have Bc:(0:Int)<=(kk:Int):=(by omega);have Bu:(1:Int)<=(k2:Int):=(by omega);have BN:(0:Int)<=(k2:Int):=(by omega);by_cases hlt2:k+k2<n
      ·have sQ:(k2:Int)<((n-k:Nat):Int):=(by omega);obtain⟨g1,g2⟩:=Pj hown2 Un hlt2;obtain⟨g3,g4⟩:=Pj hown2 Un (j:=k+(k2-1)) (by omega);obtain⟨g5,g6⟩:=Pj hown2 Un (j:=kk) (by omega);have f5:=hown2.frozenAt (kk*2);have f6:=hown2.frozenAt (kk*2+1);rw [hI.high (k+k2) (by omega),show (k+k2)*2=k*2+k2*2 by omega]at g1 g2;rw [hI.high (k+(k2-1)) (by omega),show (k+(k2-1))*2=k*2+(k2-1)*2 by omega]at g3 g4;obtain⟨x,hx⟩:=Ajv (d[k+k2]!);obtain⟨y,hy⟩:=Ajv (d[k+(k2-1)]!);obtain⟨z,hz⟩:=Ajv (dk[kk]!);rw [←hx]at g1 g2;rw [←hy]at g3 g4;rw [←hz]at g5 g6;rw [show k+(k2-1)=k+k2-1 by omega]at hy;have DX:=Ajw (And.intro hx hy);have Mh:((k2:Int)-1).toNat=k2-1:=(by omega);have OG:IntKind.i64.wrap ((k2:Int)-1)=(k2:Int)-1:=Aj5 _ (by omega);have rI:((k2:Int)-1)<((n-k:Nat):Int):=(by omega);have rJ:(0:Int)<=((k2:Int)-1):=(by omega);have Abq:(kk:Int)<(n:Int):=(by omega);clear hx hy hz hI;have he:=yR x y
       cases hb:Ay x y
       ·rw [hb,Bool.not_false]at he
        have LG:CompInv d (k+(k2+1)) (kk+1) (dk.setIfInBounds kk x):=by have:=HI.out.keep (by omega) (keeps_pos (by rw [←DX.out.1,←DX.out.2];intro e;rw [C3.2 e]at hb;cases hb));rw [←DX.out.1]at this;exact this
        have VQ:=Ajw LG;clear LG hb;(go_wp2_with fail)
        go_quiet (fail)
        go_wp2;go_roundw
        case rel=>exact⟨kk+1,k2+1,dk.setIfInBounds kk x,by go_num,by go_num,by omega,by omega,Ae0 (Vg hown2 _) kk x,VQ.out,fun w0 h h'=>(((hex w0 h h').drewN _).setCell (p:=⟨g,kk*2,none⟩) (Aj9 h' hbg) _).setCell (p:=⟨g,kk*2+1,none⟩) (Aj9 h' hbg) _⟩
        case measure=>simp [RowKit.intOf];omega
       ·rw [hb,Bool.not_true]at he;have LG:CompInv d (k+(k2+1)) kk dk:=HI.out.skip (keeps_neg (by omega) (by rw [←DX.out.1,←DX.out.2];exact C3.1 hb));have VQ:=Ajw LG;clear LG hb;(go_wp2_with fail)
        go_quiet (fail)
        go_wp2;go_roundw
        case rel=>exact⟨kk,k2+1,dk,rfl,by go_num,by omega,by omega,Vg hown2 _,VQ.out,fun w0 h h'=>(hex w0 h h').drewN _⟩
        case measure=>simp [RowKit.intOf];omega
      ·have hend:k+k2=n:=(by omega);have sQ:((n-k:Nat):Int)<=(k2:Int):=(by omega);have Abq:(kk:Int)<=(n:Int):=(by omega);have Ai1:(kk:Int)<=(cap:Int):=(by omega);obtain⟨vs,hvl,hcl⟩:=AfF wr g (kk*2) (n-kk) (cap-kk) (by omega) (fun j hj=>by rw [hown2.cellAt _ (by omega),Aj4 (by rw [hown2.1];omega)];rfl) (fun j hj=>hown2.frozenAt _)
       have hpre:∀j (hj:j<(compactUpTo d n).length),(wr.setCells g (kk*2) vs).cell? ⟨g,j*2,none⟩=some (S (R (compactUpTo d n)[j].x))/\(wr.setCells g (kk*2) vs).cell? ⟨g,j*2+1,none⟩=some (S (R (compactUpTo d n)[j].y)):=by intro j hj;rw [hend]at hI;have hj':j<kk:=(by rw [←hI.len];exact hj);have Rr:=hI.low j hj';rw [Aj4 hj,Aj3]at Rr;rw [World.cell?_setCells_out _ _ _ _ _ (fun _ _=>.inl (by simp only [];omega)),World.cell?_setCells_out _ _ _ _ _ (fun _ _=>.inl (by simp only [];omega)),Rr];exact Pj hown2 Un (by omega)
       have jz:=Ajw hpre;have hlen:(compactUpTo d n).length=kk:=(by have:=hI.len;rw [hend]at this;exact this);clear hI hpre;go_wp2;go_ret;exact⟨some ⟨g,0,none⟩,cap,by rw [hlen];rfl,Afo jz.out,by omega,hc2,fun w0 h h'=>Xw g (Aj9 h' hbg) _ _ _ (hex w0 h h')⟩
   ·have hle:(n:Int)<=(k:Int):=by omega
    have he:compactUpTo d n=d.toList:=by have hr:=range_map_get d;rw [DJ]at hr;rw [compactUpTo_all _ _ (fun j hj=>hall j (by omega)),hr]
    have hl:(compactUpTo d n).length=n:=(by rw [he];simp [DJ]);go_wp2;go_ret;refine⟨some ⟨g,0,none⟩,cap,by rw [hl];rfl,?_,by omega,hc2,hex⟩;obtain⟨A,c,e,hr,_,_⟩:=Ae.of_own' (by omega) hown1;rw [he]
    cases e;exact hr
end Go.Proofs.YtgnejnampofhoaaGreatDoor
namespace Go.Proofs.YtgnejnampofhoaaGreatDoor
open Go.RowKit Kl
theorem Af8{l:List Int}{k:Nat}(hk:k<l.length)(hl:l[k]=(k:Int)){A:Option Addr}{c:Nat}{w:World}(hr:Ae w A (l.map (Value.int .i64))) :
  Calls Tryz.prog 115 #[.slice A l.length c,.int .i64 (k:Nat)] w (AK k w):=by
 obtain⟨b,o,rfl,hcell⟩:=hr.ad (by simp;omega);have f:=hcell k (by simp;omega);rw [List.getElem_map,hl]at f;have hk0:(0:Int)<=(k:Int):=(by omega);have Dn:(k:Int)<(l.length:Int):=(by omega);clear hcell hr hl;go_enter Tryz.func115,Tryz.ntmps115;go_wp2
 go_loopw [1] (fun v wr=>v=.int .i64 (k:Nat)/\wr=w) (fun _ _=>0)
 case atStart=>exact⟨rfl,rfl⟩
 case round=>obtain⟨rfl,rfl⟩:=hrel;go_wp2;go_ret;exact⟨rfl,Ac.refl _⟩
theorem Af6{w:World}{base g cap:Nat}{x y:Pt}(h:w.ownsRow base 27 2 (.slice (some ⟨g,0,none⟩) 2 cap) 2 (flat (Ai [x,y]))) :
  ((((w.setCell ⟨g,0,none⟩ (S (R y.x))).setCell ⟨g,1,none⟩ (S (R y.y))).setCell ⟨g,2,none⟩ (S (R x.x))).setCell ⟨g,3,none⟩ (S (R x.y))).drew.ownsRow base 27 2 (.slice (some ⟨g,0,none⟩) 2 cap) 2 (flat (Ai [y,x]))
   /\w.grownBy ((((w.setCell ⟨g,0,none⟩ (S (R y.x))).setCell ⟨g,1,none⟩ (S (R y.y))).setCell ⟨g,2,none⟩ (S (R x.x))).setCell ⟨g,3,none⟩ (S (R x.y))).drew (some g):=by
 have h1:=((((h.stored 0 (S (R y.x))).1.stored 1 (S (R y.y))).1.stored 2 (S (R x.x))).1.stored 3 (S (R x.y))).1;refine⟨A9 h1 (Ac.refl _).drew,⟨rfl,rfl,rfl,by simp,fun k hk hne=>?_⟩⟩;have Uw:k≠g:=fun e=>hne (by rw [e]);exact(Below.heap_setCell _ _ _ k Uw).trans ((Below.heap_setCell _ _ _ k Uw).trans ((Below.heap_setCell _ _ _ k Uw).trans (Below.heap_setCell _ _ _ k Uw)))
theorem Af7(x y:Pt)(g cap base:Nat)(w:World)(h:w.ownsRow base 27 2 (.slice (some ⟨g,0,none⟩) 2 cap) 2 (flat (Ai [x,y]))) :
  Calls Tryz.prog 209 #[.slice (some ⟨g,0,none⟩) 2 cap] w fun e w'=>
   e=.returned (.tuple #[])/\w'.ownsRow base 27 2 (.slice (some ⟨g,0,none⟩) 2 cap) 2 (flat (Ai [y,x]))/\w.grownBy w' (some g):=by
 have f0:=h.cellAt 0 (by omega);have f1:=h.cellAt 1 (by omega);have f2:=h.cellAt 2 (by omega);have f3:=h.cellAt 3 (by omega);simp only [Ai,KR,flat,List.map_cons,List.map_nil,List.flatMap_cons,List.flatMap_nil,List.append_nil,List.cons_append,List.nil_append,List.getElem?_cons_zero,List.getElem?_cons_succ]at f0 f1 f2 f3;have z0:=h.frozenAt 0;have z1:=h.frozenAt 1;have z2:=h.frozenAt 2;have z3:=h.frozenAt 3;have H:=Ajw h;clear h;go_enter Tryz.func209,Tryz.ntmps209;go_wp2
 go_loopw [2,3] (fun i j wr=>(i=.int .i64 0/\j=.int .i64 1/\wr=w)∨(i=.int .i64 1/\j=.int .i64 0/\wr.ownsRow base 27 2 (.slice (some ⟨g,0,none⟩) 2 cap) 2 (flat (Ai [y,x]))/\w.grownBy wr (some g))) (fun i _ _=>1-(intOf i).toNat)
 case atStart=>exact .inl ⟨rfl,rfl,rfl⟩
 case round=>
  rcases hrel with⟨rfl,rfl,rfl⟩|⟨rfl,rfl,ho,hg⟩
  ·go_upto_region 3 with fail
   have HR:=Ajw (Af6 H.out);unfold S at f0 f1 f2 f3 HR
   go_region
   go_wp2;go_roundw
   case rel=>exact .inr ⟨rfl,rfl,HR.out.1,HR.out.2⟩
   case measure=>simp [intOf]
  ·go_wp2
   go_end0
   exact⟨rfl,ho,hg⟩
end Go.Proofs.YtgnejnampofhoaaGreatDoor
namespace Go.Proofs.YtgnejnampofhoaaGreatDoor
end Go.Proofs.YtgnejnampofhoaaGreatDoor
