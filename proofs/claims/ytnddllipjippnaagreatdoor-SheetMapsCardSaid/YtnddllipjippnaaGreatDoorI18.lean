/- I18: ShBA ShBJ ShLG1 ShLG2 ShLG3 ShKJ2. -/
import Derived.Test.YtnddllipjippnaaGreatDoorI17
set_option maxRecDepth 100000
set_option maxHeartbeats 8000000
namespace Go.Proofs.YtnddllipjippnaaGreatDoor
open Go.RowKit Kl Go.Lib
instance instInhPt:Inhabited Pt:=⟨⟨0,0⟩⟩
instance instDecPt:DecidableEq Pt:=fun a b=>if h:Aq a b=true then isTrue (Ca.1 h)else isFalse fun e=>h (Ca.2 e)
theorem eO{w0:World}(b:Nat)(hb:w0.heap.size<=b):∀(vs:List Value) (o:Nat) (w:World),Ab w0 w→Ab w0 (w.setCells b o vs)
 | [],_,_,h=>h
 | v::r,o,_,h=>eO b hb r (o+1) _ (h.setCell (p:=⟨b,o,none⟩) hb v)
theorem Sa{w:World}{base g n cap:Nat}{e:TypeId}{d:Array Pt}(h:w.ownsRow base e 2 (.slice (some ⟨g,0,none⟩) n cap) n (flat (Ag d.toList)))(hs:d.size=n){j:Nat}(hj:j<n) :
  w.cell? ⟨g,j*2,none⟩=some (S (R d[j]!.x))/\w.cell? ⟨g,j*2+1,none⟩=some (S (R d[j]!.y)):=by
 have hl:(Ag d.toList).length=n:=(by simp [Ag,hs]);have hd:d[j]! = d.toList[j]'(by simpa [hs]using hj):=(by rw [getElem!_pos d j (by omega)];simp);obtain⟨f1,f2⟩:=flat_get (Ag d.toList) j (by omega);rw [h.cellAt (j*2) (by omega),h.cellAt (j*2+1) (by omega),hd,f1,f2];simp [Ag,Lo]
theorem zF:∀(l:List (Bs×Bs)) (k:Nat) (u:Bs×Bs),((flat l).set (k*2) (S u.1)).set (k*2+1) (S u.2)=flat (l.set k u)
 | [],_,_=>by simp [flat]
 | p::l,0,_=>rfl
 | p::l,k+1,u=>by
  have e:flat (p::l)=S p.1::S p.2::flat l:=rfl;have e1:(k+1)*2=k*2+1+1:=(by omega);rw [e,e1,List.set_cons_succ,List.set_cons_succ,List.set_cons_succ,List.set_cons_succ,zF l k u]
  rfl
theorem AmF{w:World}{base g n cap:Nat}{e:TypeId}{d:Array Pt}(h:w.ownsRow base e 2 (.slice (some ⟨g,0,none⟩) n cap) n (flat (Ag d.toList)))(k:Nat)(u:Pt) :
  ((w.setCell ⟨g,k*2,none⟩ (S (R u.x))).setCell ⟨g,k*2+1,none⟩ (S (R u.y))).ownsRow base e 2 (.slice (some ⟨g,0,none⟩) n cap) n (flat (Ag (d.setIfInBounds k u).toList)):=by
 have h2:=((h.stored (k*2) (S (R u.x))).1.stored (k*2+1) (S (R u.y))).1;have e2:=zF (Ag d.toList) k (Lo u);simp only [Lo]at e2;rw [e2]at h2;rw [Array.toList_setIfInBounds];have e3:Ag (d.toList.set k u)=(Ag d.toList).set k (R u.x,R u.y):=(by unfold Ag;rw [List.map_set];rfl);rw [e3];exact h2
theorem Aod(w:World)(b o n c:Nat)(hn:0<n)(hc:∀j,j<n*2→(w.cell? ⟨b,o+j,none⟩).isSome=true)(hf:∀j,j<n*2→w.frozen? ⟨b,o+j,none⟩=false) :
  ∃vs:List Value,vs.length=n*2/\∀ty,(Builtin.clear_ #[31] ty #[.slice (some ⟨b,o,none⟩) n c]).run Tryz.prog w=.ok (.tuple #[]) (w.setCells b o vs):=by
 obtain⟨i0,hi,hz0,hz1,hz2⟩:=info_parts Tryz.infoPt;have hv:∀w,(zeroValue 24).run Tryz.prog w=.ok (.agg #[S [],S []]) w:=fun w=>(by simp [zeroValue,typeInfo,hi,hz0]);have Bn:(Value.agg #[S [],S []]).cells=#[S [],S []]:=(by kernel_rfl);have hl:(Builtin.zeroCells #[S [],S []] n).toList.length=n*2:=(by simp [Builtin.zeroCells]);refine⟨(Builtin.zeroCells #[S [],S []] n).toList,hl,fun ty=>?_⟩
 have hst:=run_storeCells_cells (P:=Tryz.prog) b o (Builtin.zeroCells #[S [],S []] n).toList 0 w (by rw [hl];simpa using hc) (by rw [hl];simpa using hf) (by
  intro v hv';simp only [Builtin.zeroCells]at hv';simp at hv';obtain⟨j,_,e⟩:=hv';have:j%2=0∨j%2=1:=by omega
  rcases this with h|h<;>(rw [h]at e;simp at e;subst e;rfl))
 simp only [Nat.add_zero]at hst;obtain⟨m,rfl⟩:∃m,n=m+1:=⟨n-1,by omega⟩;simp [Builtin.clear_,run_underlying Tryz.underlying31,hv,Bn,hst]
def cG(w:World)(base:Nat)(wr:World):Prop:=∀w0,Ab w0 w→w0.heap.size<=base→Ab w0 wr
def AeF(l:List Pt)(w:World)(base:Nat)(e:Ending)(w':World):Prop:=
 ∃A k,e=.returned (.slice A l.length k)/\Ad w' A (flat (Ag l))/\l.length<=k/\k<=9223372036854775807/\cG w base w'
theorem AnI{w:World}{g:Nat}{l:List Pt}(h:∀j (hj:j<l.length),w.cell? ⟨g,j*2,none⟩=some (S (R l[j].x))/\w.cell? ⟨g,j*2+1,none⟩=some (S (R l[j].y))):Ad w (some ⟨g,0,none⟩) (flat (Ag l)):=by
 refine⟨fun _=>⟨g,0,rfl,fun j hj=>?_⟩⟩;have hj':=hj;rw [flat_length,show (Ag l).length=l.length by simp [Ag]]at hj';obtain⟨q,hq⟩:∃q,j=q*2∨j=q*2+1:=⟨j/2,by omega⟩;obtain⟨f1,f2⟩:=h q (by omega);obtain⟨e1,e2⟩:=flat_get (Ag l) q (by simp [Ag];omega);simp only [Ag,List.getElem_map,Lo]at e1 e2;rw [Nat.zero_add,←As5 hj]
 rcases hq with rfl|rfl
 ·rw [f1];exact e1.symm
 ·rw [f2];exact e2.symm
theorem Z1{w:World}{base:Nat}{e:TypeId}{size:Nat}{v:Value}{n:Nat}{xs:List Value}(h:w.ownsRow base e size v n xs)(k:Nat):(w.drewN k).ownsRow base e size v n xs:=An h ((Ab.refl w).drewN k)
theorem Agw{L:List Pt}(h:L.length<2):compact L=L:=compact_all L fun j hj=>keeps_lt_one _ j (by omega)
theorem Agu(L:List Pt)(v:Value)(w:World)(base:Nat)(hown:w.ownsRow base 24 2 v L.length (flat (Ag L))) :
  Calls Tryz.prog 136 #[v] w (AeF (compact L) w base):=by
 by_cases h2:L.length<2
 ·rw [Agw h2];obtain⟨A,c,rfl,hr,hc1,hc2⟩:=Ad.of_own' (by omega) hown;have h2':(L.length:Int)<2:=(by omega);have HR:=Asx hr;clear hown hr;go_enter Tryz.func136,Tryz.ntmps136;go_wp2;go_ret;exact⟨A,c,rfl,HR.out,hc1,hc2,fun _ h _=>h⟩
 ·obtain⟨g,cap,rfl,hc1,hc2⟩:∃g cap,v=.slice (some ⟨g,0,none⟩) L.length cap/\L.length<=cap/\cap<=9223372036854775807:=by
   rcases hown.2 with⟨_,h'⟩|⟨g,cap,cur,hv,hb,hg,UT,hcm,hcs,htake⟩
   ·omega
   ·exact⟨g,cap,hv,UT,by unfold maxLen at hcm;omega⟩
  have hbg:=AmE hown g rfl;obtain⟨d,hd⟩:=Asw L.toArray;obtain⟨n,hn⟩:=Asw L.length;have EC:d.size=n:=(by rw [hd,hn];simp);have Yp:compact L=compactUpTo d n:=(by unfold compact;rw [hd,hn]);rw [←hn]at hown h2 hc1 ⊢;rw [Yp];rw [show L=d.toList by rw [hd]]at hown;clear hd hn Yp;have h2a:(2:Int)<=(n:Int):=(by omega);clear h2;go_enter Tryz.func136,Tryz.ntmps136;go_wp2
  go_loopw [3] (fun s3 wr=>∃k:Nat,s3=.int .i64 k/\1<=k/\k<=n/\(∀j,j<k→keeps d j=true)/\wr.ownsRow base 24 2 (.slice (some ⟨g,0,none⟩) n cap) n (flat (Ag d.toList))/\cG w base wr) (fun s3 _=>n-(RowKit.intOf s3).toNat)
  case atStart=>exact⟨1,rfl,by omega,by omega,keeps_lt_one d,hown,fun _ h _=>h⟩
  case round=>
   obtain⟨k,rfl,D3,hk,hall,hown1,hex⟩:=hrel;have rN:=Asx hall;by_cases hlt:k<n
   ·have hk0:(0:Int)<=(k:Int):=(by omega);have Arb:(1:Int)<=(k:Int):=(by omega);have hkn:(k:Int)<(n:Int):=(by omega);obtain⟨g1,g2⟩:=Sa hown1 EC hlt;obtain⟨g3,g4⟩:=Sa hown1 EC (j:=k-1) (by omega);obtain⟨x,hx⟩:=Asw (d[k]!);obtain⟨y,hy⟩:=Asw (d[k-1]!);rw [←hx]at g1 g2;rw [←hy]at g3 g4;have EK:=Asx (And.intro hx hy);have UK:((k:Int)-1).toNat=k-1:=(by omega);have NV:IntKind.i64.wrap ((k:Int)-1)=(k:Int)-1:=As6 _ (by omega);have ol:((k:Int)-1)<(n:Int):=(by omega);have om:(0:Int)<=((k:Int)-1):=(by omega);clear hx hy hall;have he:=PY x y
    cases hb:Aq x y
    ·rw [hb]at he;have hdec:keeps d k=true:=keeps_pos (by rw [←EK.out.1,←EK.out.2];intro e;rw [Ca.2 e]at hb;cases hb)
     have fy:∀j,j<k+1→keeps d j=true:=fun j hj=>by
      by_cases e:j=k
      ·subst e;exact hdec
      ·exact rN.out j (by omega)
     have AcX:=Asx fy;clear fy hdec hb;(go_wp2_with fail)
     go_quiet (fail)
     go_wp2;go_roundw
     case rel=>exact⟨k+1,by go_num,by omega,by omega,AcX.out,Z1 hown1 _,fun w0 h h'=>(hex w0 h h').drewN _⟩
     case measure=>simp [RowKit.intOf];omega
    ·rw [hb]at he;have oh:keeps d k=false:=keeps_neg (by omega) (by rw [←EK.out.1,←EK.out.2];exact Ca.1 hb);have Ad7:=Asx oh;clear oh hb;(go_wp2_with fail)
     go_quiet (fail)
     clear g1 g2 g3 g4 UK NV ol om hlt he;have AqJ:cap-k<=cap:=(by omega);go_wp2
     go_loopw [3,5] (fun s3 s5 wr2=>∃(kk k2:Nat) (dk:Array Pt),s3=.int .i64 kk/\s5=.int .i64 k2/\1<=k2/\k+k2<=n/\wr2.ownsRow base 24 2 (.slice (some ⟨g,0,none⟩) n cap) n (flat (Ag dk.toList))/\CompInv d (k+k2) kk dk/\cG w base wr2) (fun _ s5 _=>n-k-(RowKit.intOf s5).toNat)
     case atStart=>exact⟨k,1,d,rfl,rfl,by omega,by omega,Z1 hown1 _,CompInv.start rN.out Ad7.out,fun w0 h h'=>(hex w0 h h').drewN _⟩
     case round=>
      clear hown1 hex;obtain⟨kk,k2,dk,rfl,rfl,hk2,hle,hown2,hI,hex⟩:=hrel;have Ch:=hI.lt;have Yq:dk.size=n:=(by rw [hI.size,EC]);have HI:=Asx hI;have Bd:(0:Int)<=(kk:Int):=(by omega);have Bl:(1:Int)<=(k2:Int):=(by omega);have Bp:(0:Int)<=(k2:Int):=(by omega);by_cases hlt2:k+k2<n
      ·have rq:(k2:Int)<((n-k:Nat):Int):=(by omega);obtain⟨g1,g2⟩:=Sa hown2 Yq hlt2;obtain⟨g3,g4⟩:=Sa hown2 Yq (j:=k+(k2-1)) (by omega);obtain⟨g5,g6⟩:=Sa hown2 Yq (j:=kk) (by omega);have f5:=hown2.frozenAt (kk*2);have f6:=hown2.frozenAt (kk*2+1);rw [hI.high (k+k2) (by omega),show (k+k2)*2=k*2+k2*2 by omega]at g1 g2;rw [hI.high (k+(k2-1)) (by omega),show (k+(k2-1))*2=k*2+(k2-1)*2 by omega]at g3 g4;obtain⟨x,hx⟩:=Asw (d[k+k2]!);obtain⟨y,hy⟩:=Asw (d[k+(k2-1)]!);obtain⟨z,hz⟩:=Asw (dk[kk]!);rw [←hx]at g1 g2;rw [←hy]at g3 g4;rw [←hz]at g5 g6;rw [show k+(k2-1)=k+k2-1 by omega]at hy;have EK:=Asx (And.intro hx hy);have UK:((k2:Int)-1).toNat=k2-1:=(by omega);have NV:IntKind.i64.wrap ((k2:Int)-1)=(k2:Int)-1:=As6 _ (by omega);have ol:((k2:Int)-1)<((n-k:Nat):Int):=(by omega);have om:(0:Int)<=((k2:Int)-1):=(by omega);have Ajl:(kk:Int)<(n:Int):=(by omega);clear hx hy hz hI;have he:=Sq x y
       cases hb:Aq x y
       ·rw [hb,Bool.not_false]at he
        have N6:CompInv d (k+(k2+1)) (kk+1) (dk.setIfInBounds kk x):=by have:=HI.out.keep (by omega) (keeps_pos (by rw [←EK.out.1,←EK.out.2];intro e;rw [Ca.2 e]at hb;cases hb));rw [←EK.out.1]at this;exact this
        have aQ:=Asx N6;clear N6 hb;(go_wp2_with fail)
        go_quiet (fail)
        go_wp2;go_roundw
        case rel=>exact⟨kk+1,k2+1,dk.setIfInBounds kk x,by go_num,by go_num,by omega,by omega,AmF (Z1 hown2 _) kk x,aQ.out,fun w0 h h'=>(((hex w0 h h').drewN _).setCell (p:=⟨g,kk*2,none⟩) (AsA h' hbg) _).setCell (p:=⟨g,kk*2+1,none⟩) (AsA h' hbg) _⟩
        case measure=>simp [RowKit.intOf];omega
       ·rw [hb,Bool.not_true]at he;have N6:CompInv d (k+(k2+1)) kk dk:=HI.out.skip (keeps_neg (by omega) (by rw [←EK.out.1,←EK.out.2];exact Ca.1 hb));have aQ:=Asx N6;clear N6 hb;(go_wp2_with fail)
        go_quiet (fail)
        go_wp2;go_roundw
        case rel=>exact⟨kk,k2+1,dk,rfl,by go_num,by omega,by omega,Z1 hown2 _,aQ.out,fun w0 h h'=>(hex w0 h h').drewN _⟩
        case measure=>simp [RowKit.intOf];omega
      ·have hend:k+k2=n:=(by omega);have rq:((n-k:Nat):Int)<=(k2:Int):=(by omega);have Ajl:(kk:Int)<=(n:Int):=(by omega);have Are:(kk:Int)<=(cap:Int):=(by omega);obtain⟨vs,hvl,hcl⟩:=Aod wr g (kk*2) (n-kk) (cap-kk) (by omega) (fun j hj=>by rw [hown2.cellAt _ (by omega),As5 (by rw [hown2.1];omega)];rfl) (fun j hj=>hown2.frozenAt _)
       have hpre:∀j (hj:j<(compactUpTo d n).length),(wr.setCells g (kk*2) vs).cell? ⟨g,j*2,none⟩=some (S (R (compactUpTo d n)[j].x))/\(wr.setCells g (kk*2) vs).cell? ⟨g,j*2+1,none⟩=some (S (R (compactUpTo d n)[j].y)):=by intro j hj;rw [hend]at hI;have hj':j<kk:=(by rw [←hI.len];exact hj);have UN:=hI.low j hj';rw [As5 hj,As4]at UN;rw [World.cell?_setCells_out _ _ _ _ _ (fun _ _=>.inl (by simp only [];omega)),World.cell?_setCells_out _ _ _ _ _ (fun _ _=>.inl (by simp only [];omega)),UN];exact Sa hown2 Yq (by omega)
       have AdY:=Asx hpre;have hlen:(compactUpTo d n).length=kk:=(by have:=hI.len;rw [hend]at this;exact this);clear hI hpre;go_wp2;go_ret;exact⟨some ⟨g,0,none⟩,cap,by rw [hlen];rfl,AnI AdY.out,by omega,hc2,fun w0 h h'=>eO g (AsA h' hbg) _ _ _ (hex w0 h h')⟩
   ·have hle:(n:Int)<=(k:Int):=by omega
    have he:compactUpTo d n=d.toList:=by have hr:=range_map_get d;rw [EC]at hr;rw [compactUpTo_all _ _ (fun j hj=>hall j (by omega)),hr]
    have hl:(compactUpTo d n).length=n:=(by rw [he];simp [EC]);go_wp2;go_ret;refine⟨some ⟨g,0,none⟩,cap,by rw [hl];rfl,?_,by omega,hc2,hex⟩;obtain⟨A,c,e,hr,_,_⟩:=Ad.of_own' (by omega) hown1;rw [he]
    cases e;exact hr
end Go.Proofs.YtnddllipjippnaaGreatDoor
namespace Go.Proofs.YtnddllipjippnaaGreatDoor
open Go.RowKit Kl
theorem AnX{l:List Int}{k:Nat}(hk:k<l.length)(hl:l[k]=(k:Int)){A:Option Addr}{c:Nat}{w:World}(hr:Ad w A (l.map (Value.int .i64))) :
  Calls Tryz.prog 83 #[.slice A l.length c,.int .i64 (k:Nat)] w (AI k w):=by
 obtain⟨b,o,rfl,hcell⟩:=hr.ad (by simp;omega);have f:=hcell k (by simp;omega);rw [List.getElem_map,hl]at f;have hk0:(0:Int)<=(k:Int):=(by omega);have D3:(k:Int)<(l.length:Int):=(by omega);clear hcell hr hl;go_enter Tryz.func83,Tryz.ntmps83;go_wp2
 go_loopw [1] (fun v wr=>v=.int .i64 (k:Nat)/\wr=w) (fun _ _=>0)
 case atStart=>exact⟨rfl,rfl⟩
 case round=>obtain⟨rfl,rfl⟩:=hrel;go_wp2;go_ret;exact⟨rfl,Ab.refl _⟩
theorem AnT{w:World}{base g cap:Nat}{x y:Pt}(h:w.ownsRow base 24 2 (.slice (some ⟨g,0,none⟩) 2 cap) 2 (flat (Ag [x,y]))) :
  ((((w.setCell ⟨g,0,none⟩ (S (R y.x))).setCell ⟨g,1,none⟩ (S (R y.y))).setCell ⟨g,2,none⟩ (S (R x.x))).setCell ⟨g,3,none⟩ (S (R x.y))).drew.ownsRow base 24 2 (.slice (some ⟨g,0,none⟩) 2 cap) 2 (flat (Ag [y,x]))
   /\w.grownBy ((((w.setCell ⟨g,0,none⟩ (S (R y.x))).setCell ⟨g,1,none⟩ (S (R y.y))).setCell ⟨g,2,none⟩ (S (R x.x))).setCell ⟨g,3,none⟩ (S (R x.y))).drew (some g):=by
 have h1:=((((h.stored 0 (S (R y.x))).1.stored 1 (S (R y.y))).1.stored 2 (S (R x.x))).1.stored 3 (S (R x.y))).1;refine⟨An h1 (Ab.refl _).drew,⟨rfl,rfl,rfl,by simp,fun k hk hne=>?_⟩⟩;have Y6:k≠g:=fun e=>hne (by rw [e]);exact(Below.heap_setCell _ _ _ k Y6).trans ((Below.heap_setCell _ _ _ k Y6).trans ((Below.heap_setCell _ _ _ k Y6).trans (Below.heap_setCell _ _ _ k Y6)))
theorem AnU(x y:Pt)(g cap base:Nat)(w:World)(h:w.ownsRow base 24 2 (.slice (some ⟨g,0,none⟩) 2 cap) 2 (flat (Ag [x,y]))) :
  Calls Tryz.prog 137 #[.slice (some ⟨g,0,none⟩) 2 cap] w fun e w'=>
   e=.returned (.tuple #[])/\w'.ownsRow base 24 2 (.slice (some ⟨g,0,none⟩) 2 cap) 2 (flat (Ag [y,x]))/\w.grownBy w' (some g):=by
 have f0:=h.cellAt 0 (by omega);have f1:=h.cellAt 1 (by omega);have f2:=h.cellAt 2 (by omega);have f3:=h.cellAt 3 (by omega);simp only [Ag,Lo,flat,List.map_cons,List.map_nil,List.flatMap_cons,List.flatMap_nil,List.append_nil,List.cons_append,List.nil_append,List.getElem?_cons_zero,List.getElem?_cons_succ]at f0 f1 f2 f3;have z0:=h.frozenAt 0;have z1:=h.frozenAt 1;have z2:=h.frozenAt 2;have z3:=h.frozenAt 3;have H:=Asx h;clear h;go_enter Tryz.func137,Tryz.ntmps137;go_wp2
 go_loopw [2,3] (fun i j wr=>(i=.int .i64 0/\j=.int .i64 1/\wr=w)∨(i=.int .i64 1/\j=.int .i64 0/\wr.ownsRow base 24 2 (.slice (some ⟨g,0,none⟩) 2 cap) 2 (flat (Ag [y,x]))/\w.grownBy wr (some g))) (fun i _ _=>1-(intOf i).toNat)
 case atStart=>exact .inl ⟨rfl,rfl,rfl⟩
 case round=>
  rcases hrel with⟨rfl,rfl,rfl⟩|⟨rfl,rfl,ho,hg⟩
  ·go_upto_region 3 with fail
   have HR:=Asx (AnT H.out);unfold S at f0 f1 f2 f3 HR
   go_region
   go_wp2;go_roundw
   case rel=>exact .inr ⟨rfl,rfl,HR.out.1,HR.out.2⟩
   case measure=>simp [intOf]
  ·go_wp2
   go_end0
   exact⟨rfl,ho,hg⟩
end Go.Proofs.YtnddllipjippnaaGreatDoor
namespace Go.Proofs.YtnddllipjippnaaGreatDoor
section
open Go.RowKit Kl
theorem Apf(w:World)(l:Bs):∃W c,(convert 9 113 (S l)).run Tryz.prog w=.ok (.slice (some ⟨w.heap.size,0,none⟩) l.length c) W/\Ab w W/\∀j (h:j<l.length),W.cell? ⟨w.heap.size,j,none⟩=some (.int .u8 (l[j].toNat:Nat)):=by
 refine⟨Go.Lib.bytesWorld w 5 ⟨l.toArray⟩,_,Go.Lib.run_convert_string_bytes w 9 113 5 ⟨l.toArray⟩ Tryz.underlying9 Tryz.underlying113 Tryz.underlying5,?_,?_⟩
 ·have h1:Ab w (w.drew.alloc (.cells (Go.Lib.bytesCells w 5 ⟨l.toArray⟩) 5)):=(Ab.refl w).drew.alloc _;refine⟨h1.os,h1.tape,h1.output,?_,fun j hj=>Go.Lib.bytesWorld_at_old w 5 ⟨l.toArray⟩ j hj⟩;rw [Go.Lib.bytesWorld_size];omega
 ·intro j h;have:=Go.Lib.bytesWorld_cell w 5 ⟨l.toArray⟩ j (show j<l.toArray.size by simpa using h);rw [this];simp [List.getD_eq_getElem?_getD,h]
end
end Go.Proofs.YtnddllipjippnaaGreatDoor
namespace Kl
def Lk(i:Nat)(b:UInt8):Bool:=Ki b||(decide (i≠0)&&Nv b)
theorem AlL{l:Bs}{k:Nat}(hk:k<l.length)(h:Lk k l[k]=false):nameB l=false:=by
 cases l with
 | nil=>rfl
 | cons b l=>
  unfold nameB;unfold Lk at h
  cases k with
  | zero=>
   simp only [List.getElem_cons_zero,ne_eq,not_true,decide_false,Bool.false_and,Bool.or_false]at h;show (decide (l.length<32)&&(Ki b&&l.all (fun c=>Ki c||Nv c)))=false;rw [h];simp
  | succ k=>
   simp only [List.getElem_cons_succ]at h;have hk':k<l.length:=by simpa using hk
   have h2:l.all (fun c=>Ki c||Nv c)=false:=by rw [List.all_eq_false];exact⟨l[k],List.getElem_mem hk',by simpa using h⟩
   show (decide (l.length<32)&&(Ki b&&l.all (fun c=>Ki c||Nv c)))=false;rw [h2];simp
theorem AlM{l:Bs}(h0:l≠[])(h1:l.length<=32)(h:∀k (hk:k<l.length),Lk k l[k]=true):nameB l=true:=by
 cases l with
 | nil=>exact absurd rfl h0
 | cons b l=>
  unfold nameB;rw [Bool.and_eq_true,Bool.and_eq_true];refine⟨decide_eq_true (by simp only [List.length_cons]at h1;omega),?_,?_⟩
  ·have:=h 0 (by simp)
   simpa [Lk]using this
  ·rw [List.all_eq_true];intro c hc;obtain⟨j,hj,rfl⟩:=List.getElem_of_mem hc;have:=h (j+1) (by simpa using hj)
   simpa [Lk]using this
end Kl
namespace Go.Proofs.YtnddllipjippnaaGreatDoor
open Go.RowKit Kl
theorem AkK(l:Bs)(hl:l.length<1000000)(w:World) :
  Calls Tryz.prog 34 #[S l] w (BP (nameB l) w):=by
 obtain⟨W,c,hcv,hx,hcell⟩:=Apf w l;by_cases h0:l = []
 ·subst h0;clear hcv hcell;go_enter Tryz.func34,Tryz.ntmps34;go_wp2;go_ret;exact⟨VN rfl,Ab.refl _⟩
 ·have e1:(l == [])=false:=beq_false_of_ne h0
  have e2:l.isEmpty=false:=by cases l with|nil=>exact absurd rfl h0|cons a b=>rfl
  have H0:=Asx h0;by_cases h1:32<l.length
  ·have ho:nameB l=false:=by
    cases l with
    | nil=>rfl
    | cons b l=>show (decide (l.length < 32) && _)=false;rw [decide_eq_false (by simp only [List.length_cons]at h1;omega)];rfl
   have HO:=Asx ho;have h1':(32:Int)<(l.length:Int):=(by omega);clear ho hcv hcell;go_enter Tryz.func34,Tryz.ntmps34;go_wp2;go_ret;exact⟨VN (by rw [HO.out]),Ab.refl _⟩
  ·have h1':¬((32:Int)<(l.length:Int)):=(by omega);have Aqk:(l.length:Int)<=32:=(by omega);have HC:=Asx hcell;have HX:=Asx hx;obtain⟨r,hr0⟩:=Asw (nameB l);rw [←hr0];have HR:=Asx hr0;clear hcell hx hr0;obtain⟨bw,Cp⟩:=Asw w.heap.size;rw [←Cp]at hcv;have HBW:=Asx Cp;clear Cp;go_enter Tryz.func34,Tryz.ntmps34
   go_upto_region 4 with fail
   go_loopw [17] (fun kv wr=>∃(k:Nat),kv=.int .i64 (k:Nat)/\k<=l.length/\(∀i (h:i<l.length),i<k→Lk i l[i]=true)/\wr=W) (fun kv _=>l.length-(intOf kv).toNat)
   case atStart=>exact⟨0,rfl,by omega,by intro i _ h;omega,rfl⟩
   case round=>
    obtain⟨k,rfl,hk,QV,rfl⟩:=hrel;have Wk:=Asx QV;clear QV;by_cases hkn:k<l.length
    ·have hk0:(0:Int)<=(k:Int):=(by omega);have D3:(k:Int)<(l.length:Int):=(by omega);have v1:IntKind.wrap .i64 ((k:Int)+1)=(k:Int)+1:=As6 _ (by omega);have hg:=HC.out k hkn;rw [←HBW.out]at hg;have hg0:wr.cell? ⟨bw,0+k,none⟩=some (.int .u8 (l[k].toNat:Nat)):=(by rw [Nat.zero_add];exact hg);obtain⟨b,hb⟩:=Asw (l[k]);rw [←hb]at hg hg0;have HB:=Asx hb;clear hb
     go_upto_region 6 with fail
     go_cut [5] (fun v wx=>v=.bool (Ki b)/\wx=wr)
     case first=>
      by_cases a1:97<=b.toNat<;>by_cases a2:b.toNat<=122<;>by_cases a3:65<=b.toNat<;>by_cases a4:b.toNat<=90
      all_goals
       have hv:Ki b=((decide (97<=b.toNat)&&decide (b.toNat<=122))||(decide (65<=b.toNat)&&decide (b.toNat<=90))):=rfl;simp only [a1,a2,a3,a4,decide_true,decide_false,Bool.and_true,Bool.and_false,Bool.or_true,Bool.or_false]at hv;have HV:=Asx hv;clear hv;go_wp2
       all_goals go_meet
       all_goals exact⟨by rw [HV.out];try (first|rfl|(congr 1;rw [Bool.eq_iff_iff];simp;omega)),rfl⟩
     case rest=>
      obtain⟨rfl,rfl⟩:=hcut;obtain⟨lt,hlt⟩:=Asw (Ki b);rw [←hlt];have HLT:=Asx hlt;clear hlt
      go_upto_region 7 with fail
      go_cut [6] (fun v wx=>v=.bool (Nv b)/\wx=wc)
      case first=>
       have c95:((b.toNat:Int) == 95)=decide (b.toNat=95):=by rw [Bool.eq_iff_iff,beq_iff_eq,decide_eq_true_iff];omega
       by_cases a1:48<=b.toNat<;>by_cases a2:b.toNat<=57<;>by_cases a3:b.toNat=95
       all_goals
        have hv:Nv b=((decide (48<=b.toNat)&&decide (b.toNat<=57))||decide (b.toNat=95)):=rfl;simp only [a1,a2,a3,decide_true,decide_false,Bool.and_true,Bool.and_false,Bool.or_true,Bool.or_false]at hv;have HV:=Asx hv;clear hv;go_wp2
        all_goals go_meet
        all_goals exact⟨by rw [HV.out];try (first|rfl|(congr 1;rw [Bool.eq_iff_iff];simp;omega)),rfl⟩
      case rest=>
       obtain⟨rfl,rfl⟩:=hcut;obtain⟨dt,Mi⟩:=Asw (Nv b);rw [←Mi];have HDT:=Asx Mi;clear Mi;have DZ:Lk k b=(lt||(decide (k≠0)&&dt)):=(by rw [HLT.out,HDT.out];rfl);have L8:=Asx DZ;clear DZ
       have good:Lk k b=true→∀i (h:i<l.length),i<k+1→Lk i l[i]=true:=by
        intro hg i hi hik;by_cases e:i=k
        ·subst e;rw [←HB.out];exact hg
        ·exact Wk.out i hi (by omega)
       have bad:Lk k b=false→r=false:=fun h=>(by rw [HR.out];exact AlL hkn (by rw [←HB.out];exact h));have HG:=Asx good;have rO:=Asx bad;clear good bad
       cases lt
       ·by_cases Y5:k=0
        ·subst Y5;have hr:r=false:=rO.out (by rw [L8.out];rfl);have L9:=Asx hr;clear hr;go_wp2;go_ret;exact⟨VN (by rw [L9.out]),HX.out⟩
        ·have t0:((k:Int) == 0)=false:=beq_false_of_ne (by omega)
         cases dt
         ·have hr:r=false:=rO.out (by rw [L8.out];simp);have L9:=Asx hr;clear hr Y5;go_wp2;go_ret;exact⟨VN (by rw [L9.out]),HX.out⟩
         ·have hg2:=Asx (HG.out (by rw [L8.out];simp [Y5]));clear Y5;go_wp2;go_roundw
          case rel=>exact⟨k+1,by go_num,hkn,hg2.out,by trivial⟩
          case measure=>simp [intOf];omega
       ·have hg2:=Asx (HG.out (by rw [L8.out];simp));go_wp2;go_roundw
        case rel=>exact⟨k+1,by go_num,hkn,hg2.out,by trivial⟩
        case measure=>simp [intOf];omega
    ·have Ch:k=l.length:=(by omega);subst Ch;have hr:r=true:=(by rw [HR.out];exact AlM H0.out (by omega) (fun i hi=>Wk.out i hi hi));have L9:=Asx hr;clear hr;go_wp2;go_ret;exact⟨VN (by rw [L9.out]),HX.out⟩
def JE(k:Int)(a b p:Bs×Bs)(u:Bs):Value:=.agg #[.int .i64 k,S a.1,S a.2,S b.1,S b.2,S p.1,S p.2,S u]
noncomputable def D6(t:Bs×Bs):Bool:=@decide (Du t.1/\Du t.2) (Classical.propDecidable _)
theorem Ot(t:Bs×Bs):D6 t=true↔Du t.1/\Du t.2:=by unfold D6;exact @decide_eq_true_iff _ (Classical.propDecidable _)
def xA(k:Int):Nat:=if k=1 then 1 else if k=5 then 3 else 2
def AlX(k:Int):Bool:=k == 1||k == 2
noncomputable def Q4(k:Int)(a b p:Bs×Bs)(u:Bs):Int:=
 if k<1∨5<k then 12 else if ([a,b,p].take (xA k)).all D6=false then 2
 else if (AlX k && !(u == []) && !nameB u)=true then 8 else if (!AlX k && !(u == [])||([a,b,p].drop (xA k)).any Gn)=true then 7 else 0
structure WS(a b p:Bs×Bs)(u:Bs):Prop where
 a1:a.1.length<=17
 a2:a.2.length<=17
 b1:b.1.length<=17
 b2:b.2.length<=17
 p1:p.1.length<=17
 p2:p.2.length<=17
 u:u.length<=17
theorem WS.pt{a b p:Bs×Bs}{u:Bs}(h:WS a b p u):∀t∈[a,b,p],t.1.length<=17/\t.2.length<=17:=by
 obtain⟨h1,h2,h3,h4,h5,h6,-⟩:=h;intro t ht;simp only [List.mem_cons,AsB,or_false]at ht
 rcases ht with rfl|rfl|rfl<;>constructor<;>omega
theorem ze{w:World}{b:Nat}(x y z:Bs×Bs)(h:w.heap[b]?=some (.cells #[S x.1,S x.2,S y.1,S y.2,S z.1,S z.2] 24)):Ad w (some ⟨b,0,none⟩) (flat [x,y,z]):=by
 refine⟨fun _=>⟨b,0,rfl,fun j hj=>?_⟩⟩;have hj6:j<6:=hj;obtain rfl|rfl|rfl|rfl|rfl|rfl:j=0∨j=1∨j=2∨j=3∨j=4∨j=5:=by omega
 all_goals exact Aa h rfl
theorem yD{w:World}{b:Nat}{l:List (Bs×Bs)}(h:Ad w (some ⟨b,0,none⟩) (flat l))(k:Nat):Ad w (some ⟨b,k*2,none⟩) (flat (l.drop k)):=by
 refine⟨fun h0=>?_⟩;rw [flat_length]at h0;have hl:(l.drop k).length=l.length-k:=List.length_drop;obtain⟨b',o,e,hc⟩:=h.ad (by rw [flat_length];omega);simp only [As4,Addr.mk.injEq]at e;obtain⟨rfl,rfl,-⟩:=e;refine⟨b,k*2,rfl,fun j hj=>?_⟩;rw [flat_length]at hj;have:=hc (k*2+j) (by rw [flat_length];omega);rw [Nat.zero_add]at this;rw [this];have hd:flat l=flat (l.take k)++flat (l.drop k):=(by unfold flat;rw [←List.flatMap_append,List.take_append_drop]);have hk:(flat (l.take k)).length=k*2:=(by rw [flat_length,List.length_take];omega);simp only [hd];rw [List.getElem_append_right (by omega)];simp only [hk]
 congr 2
 omega
theorem wR(a b p:Bs×Bs)(u:Bs):Q4 2 a b p u=if ([a,b,p].take 2).all D6=false then 2 else if (true && !(u == []) && !nameB u)=true then 8 else if (!true && !(u == [])||([a,b,p].drop 2).any Gn)=true then 7 else 0:=rfl
theorem Aoq(a b p:Bs×Bs)(u:Bs)(hs:WS a b p u)(w:World)(hw:Aj w):Calls Tryz.prog 9 #[JE 2 a b p u] w (AI (Q4 2 a b p u) w):=by
 rw [wR];have hsp:=hs.pt;have hsu:=hs.u;obtain⟨z,hz⟩:=Asw ((if ([a,b,p].take 2).all D6=false then (2:Int)else if (true && !(u == []) && !nameB u)=true then 8 else if (!true && !(u == [])||([a,b,p].drop 2).any Gn)=true then 7 else 0));rw [←hz];have HZ:=Asx hz;clear hz hs;have hE:=(Ab.refl w).alloc (.cells #[.int .i64 2,S a.1,S a.2,S b.1,S b.2,S p.1,S p.2,S u] 26);have hq:=Asz w (.cells #[.int .i64 2,S a.1,S a.2,S b.1,S b.2,S p.1,S p.2,S u] 26);unfold JE;go_enter Tryz.func9,Tryz.ntmps9
 go_upto_region 1 with fail
 generalize w.alloc (.cells #[.int .i64 2,S a.1,S a.2,S b.1,S b.2,S p.1,S p.2,S u] 26)=V at *;obtain⟨bx,Ax⟩:=Asw w.heap.size;rw [←Ax]at hq ⊢;clear Ax;have q0:V.cell? ⟨bx,0,none⟩=some (.int .i64 2):=Aa hq rfl;have q1:V.cell? ⟨bx,1,none⟩=some (S a.1):=Aa hq rfl;have q2:V.cell? ⟨bx,2,none⟩=some (S a.2):=Aa hq rfl;have q3:V.cell? ⟨bx,3,none⟩=some (S b.1):=Aa hq rfl;have q4:V.cell? ⟨bx,4,none⟩=some (S b.2):=Aa hq rfl;have q5:V.cell? ⟨bx,5,none⟩=some (S p.1):=Aa hq rfl;have q6:V.cell? ⟨bx,6,none⟩=some (S p.2):=Aa hq rfl
 go_upto_region 5 with fail
 have hp:=Asz V (.cells #[S a.1,S a.2,S b.1,S b.2,S p.1,S p.2] 24);have hx1:=(Ab.refl V).alloc (.cells #[S a.1,S a.2,S b.1,S b.2,S p.1,S p.2] 24);generalize V.alloc (.cells #[S a.1,S a.2,S b.1,S b.2,S p.1,S p.2] 24)=V1 at *;obtain⟨bp,Ap⟩:=Asw V.heap.size;rw [←Ap]at hp ⊢;clear Ap;replace hq:=(hx1.block _ (Asy hq)).trans hq;replace hE:=hE.trans hx1;clear q0 q1 q2 q3 q4 q5 q6 hx1;have q0:V1.cell? ⟨bx,0,none⟩=some (.int .i64 2):=Aa hq rfl;have al:∀O,(V1.alloc O).cell? ⟨bx,0,none⟩=some (.int .i64 2):=fun O=>((Ab.refl V1).alloc O).cellS q0
 go_upto_region 7 with fail
 clear al q0;generalize hV2:V1.alloc _=V2;have hx2:Ab V1 V2:=hV2▸(Ab.refl V1).alloc _;replace hq:=(hx2.block _ (Asy hq)).trans hq;replace hp:=(hx2.block _ (Asy hp)).trans hp;replace hE:=hE.trans hx2;clear hV2 hx2;have HP:=ze a b p hp
 go_loopw [40] (fun i wr=>∃j:Nat,i=.int .i64 (j:Nat)/\j<=2/\(∀q∈[a,b,p].take j,D6 q=true)/\Ab V2 wr) (fun i _=>2-(intOf i).toNat)
 case atStart=>exact⟨0,rfl,by omega,by simp,Ab.refl _⟩
 case round=>
  obtain⟨j,rfl,hj,Ai,Ae⟩:=hrel;have HO:=Asx Ai;clear Ai;by_cases hlt:j<2
  ·have hlt3:j < [a,b,p].length:=(by show j<3;omega);obtain⟨bb,o,e,hg1,hg2⟩:=ZD (HP.ext Ae) hlt3;simp only [As4,Addr.mk.injEq]at e;obtain⟨rfl,rfl,-⟩:=e;rw [Nat.zero_add]at hg1 hg2;have Ee:=hsp _ (As1 hlt3);obtain⟨q,PC⟩:=Asw ([a,b,p][j]);rw [←PC]at hg1 hg2 Ee;have hj0:(0:Int)<=(j:Int):=(by omega);have Ay:(j:Int)<2:=(by omega);have hnew:=fun O=>(Ab.refl wr).alloc O;have cp:=fun W (h:Ab w W)=>Ns q.1 q.2 (D6 q) (Ot q) Ee.1 Ee.2 W (hw.ext h);have Pg:=hE.trans Ae;have HQ:=Asx PC;clear PC Ee
   cases e0:D6 q
   ·have HE:=Asx e0
    have hall:([a,b,p].take 2).all D6=false:=by rw [List.all_eq_false];exact⟨q,by rw [HQ.out];exact List.mem_take_iff_getElem.2 ⟨j,by show j<min 2 3;omega,rfl⟩,by rw [e0];simp⟩
    rw [e0,Nu]at cp;clear e0;have hz2:z=2:=(by rw [HZ.out,if_pos hall]);clear hall;subst hz2;have c1:=cp _ (Pg.trans (hnew (.cells #[S q.1,S q.2] 24)));(go_wp2_with fail);(with_reducible refine c1.mono ?_);rintro e w2 ⟨rfl,hx2⟩;go_wp2;go_ret;exact⟨rfl,(Pg.trans (hnew _)).trans hx2⟩
   ·have HE:=Asx e0;rw [e0,Iv]at cp;clear e0;have c1:=cp _ (Pg.trans (hnew (.cells #[S q.1,S q.2] 24)));(go_wp2_with fail);(with_reducible refine c1.mono ?_);rintro e w2 ⟨rfl,hx2⟩;go_wp2;go_roundw
    case rel=>
     refine⟨j+1,by go_num,hlt,?_,(Ae.trans (hnew _)).trans hx2⟩;intro x hx;rw [As3 hlt3,←HQ.out]at hx
     rcases List.mem_append.1 hx with h|h
     ·exact HO.out x h
     ·simp only [AsC]at h;rw [h];exact HE.out
    case measure=>simp [intOf];omega
  ·obtain rfl:j=2:=(by omega);have hall:([a,b,p].take 2).all D6=true:=List.all_eq_true.2 HO.out;have hz1:=HZ.out;rw [hall,if_neg (by simp)]at hz1;have LC:=Asx hz1;clear hall hz1 HZ HO hlt hj;replace hq:=(Ae.block _ (Asy hq)).trans hq;have hW:=hE.trans Ae;have HD:Ad wr (some ⟨bp,4,none⟩) (flat ([a,b,p].drop 2)):=yD (HP.ext Ae) 2;clear HP hp Ae hE;have q7:wr.cell? ⟨bx,7,none⟩=some (S u):=Aa hq rfl;have hnil:¬u = []→u.isEmpty=false:=fun h=>by cases u<;>simp_all
   have ay:∀W,Ab wr W→Calls Tryz.prog 35 #[.slice (some ⟨bp,4,none⟩) 1 1,.func (.func 36) #[] #[]] W (BP (([a,b,p].drop 2).any Gn) W):=fun W h=>uO yR Gn ([a,b,p].drop 2) _ 1 W (HD.ext h) (As0 _) (by decide) (fun e _ W _=>wG e W)
   have nx:=fun W=>AkK u (by omega) W;by_cases hu:u = []
   ·have hz2:=LC.out;rw [hu]at hz2 q7;rw [if_neg (by simp)]at hz2;clear LC nx hnil
    cases e2:([a,b,p].drop 2).any Gn
    ·rw [e2,if_neg (by simp)]at hz2;have a1:=ay wr (Ab.refl wr);rw [e2]at a1;clear e2;subst hz2;(go_wp2_with fail);(with_reducible refine a1.mono ?_);rintro e w3 ⟨rfl,hx3⟩;go_wp2;go_ret;exact⟨rfl,hW.trans hx3⟩
    ·rw [e2,if_pos (by simp)]at hz2;have a1:=ay wr (Ab.refl wr);rw [e2]at a1;clear e2;subst hz2;(go_wp2_with fail);(with_reducible refine a1.mono ?_);rintro e w3 ⟨rfl,hx3⟩;go_wp2;go_ret;exact⟨rfl,hW.trans hx3⟩
   ·have hu2:=hnil hu
    have hb:(u == [])=false:=by cases u with|nil=>exact absurd rfl hu|cons x y=>rfl
    have hz2:=LC.out;rw [hb]at hz2;clear LC hnil
    cases e1:nameB u
    ·rw [e1,if_pos (by simp)]at hz2;have n1:=nx wr;rw [e1]at n1;clear e1;subst hz2;(go_wp2_with fail);(with_reducible refine n1.mono ?_);rintro e w3 ⟨rfl,hx3⟩;go_wp2;go_ret;exact⟨rfl,hW.trans hx3⟩
    ·rw [e1,if_neg (by simp)]at hz2;have n1:=nx wr;rw [e1]at n1;clear e1
     cases e2:([a,b,p].drop 2).any Gn
     ·rw [e2,if_neg (by simp)]at hz2;rw [e2]at ay;clear e2;subst hz2;(go_wp2_with fail);(with_reducible refine n1.mono ?_);rintro e w3 ⟨rfl,hx3⟩;have a1:=ay w3 hx3;(go_wp2_with fail);(with_reducible refine a1.mono ?_);rintro e w4 ⟨rfl,Ao⟩;go_wp2;go_ret;exact⟨rfl,(hW.trans hx3).trans Ao⟩
     ·rw [e2,if_pos (by simp)]at hz2;rw [e2]at ay;clear e2;subst hz2;(go_wp2_with fail);(with_reducible refine n1.mono ?_);rintro e w3 ⟨rfl,hx3⟩;have a1:=ay w3 hx3;(go_wp2_with fail);(with_reducible refine a1.mono ?_);rintro e w4 ⟨rfl,Ao⟩;go_wp2;go_ret;exact⟨rfl,(hW.trans hx3).trans Ao⟩
theorem wS(a b p:Bs×Bs)(u:Bs):Q4 3 a b p u=if ([a,b,p].take 2).all D6=false then 2 else if (false && !(u == []) && !nameB u)=true then 8 else if (!false && !(u == [])||([a,b,p].drop 2).any Gn)=true then 7 else 0:=rfl
theorem Aor(a b p:Bs×Bs)(u:Bs)(hs:WS a b p u)(w:World)(hw:Aj w):Calls Tryz.prog 9 #[JE 3 a b p u] w (AI (Q4 3 a b p u) w):=by
 rw [wS];have hsp:=hs.pt;have hsu:=hs.u;obtain⟨z,hz⟩:=Asw ((if ([a,b,p].take 2).all D6=false then (2:Int)else if (false && !(u == []) && !nameB u)=true then 8 else if (!false && !(u == [])||([a,b,p].drop 2).any Gn)=true then 7 else 0));rw [←hz];have HZ:=Asx hz;clear hz hs;have hE:=(Ab.refl w).alloc (.cells #[.int .i64 3,S a.1,S a.2,S b.1,S b.2,S p.1,S p.2,S u] 26);have hq:=Asz w (.cells #[.int .i64 3,S a.1,S a.2,S b.1,S b.2,S p.1,S p.2,S u] 26);unfold JE;go_enter Tryz.func9,Tryz.ntmps9
 go_upto_region 1 with fail
 generalize w.alloc (.cells #[.int .i64 3,S a.1,S a.2,S b.1,S b.2,S p.1,S p.2,S u] 26)=V at *;obtain⟨bx,Ax⟩:=Asw w.heap.size;rw [←Ax]at hq ⊢;clear Ax;have q0:V.cell? ⟨bx,0,none⟩=some (.int .i64 3):=Aa hq rfl;have q1:V.cell? ⟨bx,1,none⟩=some (S a.1):=Aa hq rfl;have q2:V.cell? ⟨bx,2,none⟩=some (S a.2):=Aa hq rfl;have q3:V.cell? ⟨bx,3,none⟩=some (S b.1):=Aa hq rfl;have q4:V.cell? ⟨bx,4,none⟩=some (S b.2):=Aa hq rfl;have q5:V.cell? ⟨bx,5,none⟩=some (S p.1):=Aa hq rfl;have q6:V.cell? ⟨bx,6,none⟩=some (S p.2):=Aa hq rfl
 go_upto_region 5 with fail
 have hp:=Asz V (.cells #[S a.1,S a.2,S b.1,S b.2,S p.1,S p.2] 24);have hx1:=(Ab.refl V).alloc (.cells #[S a.1,S a.2,S b.1,S b.2,S p.1,S p.2] 24);generalize V.alloc (.cells #[S a.1,S a.2,S b.1,S b.2,S p.1,S p.2] 24)=V1 at *;obtain⟨bp,Ap⟩:=Asw V.heap.size;rw [←Ap]at hp ⊢;clear Ap;replace hq:=(hx1.block _ (Asy hq)).trans hq;replace hE:=hE.trans hx1;clear q0 q1 q2 q3 q4 q5 q6 hx1;have q0:V1.cell? ⟨bx,0,none⟩=some (.int .i64 3):=Aa hq rfl;have al:∀O,(V1.alloc O).cell? ⟨bx,0,none⟩=some (.int .i64 3):=fun O=>((Ab.refl V1).alloc O).cellS q0
 go_upto_region 7 with fail
 clear al q0;generalize hV2:V1.alloc _=V2;have hx2:Ab V1 V2:=hV2▸(Ab.refl V1).alloc _;replace hq:=(hx2.block _ (Asy hq)).trans hq;replace hp:=(hx2.block _ (Asy hp)).trans hp;replace hE:=hE.trans hx2;clear hV2 hx2;have HP:=ze a b p hp
 go_loopw [40] (fun i wr=>∃j:Nat,i=.int .i64 (j:Nat)/\j<=2/\(∀q∈[a,b,p].take j,D6 q=true)/\Ab V2 wr) (fun i _=>2-(intOf i).toNat)
 case atStart=>exact⟨0,rfl,by omega,by simp,Ab.refl _⟩
 case round=>
  obtain⟨j,rfl,hj,Ai,Ae⟩:=hrel;have HO:=Asx Ai;clear Ai;by_cases hlt:j<2
  ·have hlt3:j < [a,b,p].length:=(by show j<3;omega);obtain⟨bb,o,e,hg1,hg2⟩:=ZD (HP.ext Ae) hlt3;simp only [As4,Addr.mk.injEq]at e;obtain⟨rfl,rfl,-⟩:=e;rw [Nat.zero_add]at hg1 hg2;have Ee:=hsp _ (As1 hlt3);obtain⟨q,PC⟩:=Asw ([a,b,p][j]);rw [←PC]at hg1 hg2 Ee;have hj0:(0:Int)<=(j:Int):=(by omega);have Ay:(j:Int)<2:=(by omega);have hnew:=fun O=>(Ab.refl wr).alloc O;have cp:=fun W (h:Ab w W)=>Ns q.1 q.2 (D6 q) (Ot q) Ee.1 Ee.2 W (hw.ext h);have Pg:=hE.trans Ae;have HQ:=Asx PC;clear PC Ee
   cases e0:D6 q
   ·have HE:=Asx e0
    have hall:([a,b,p].take 2).all D6=false:=by rw [List.all_eq_false];exact⟨q,by rw [HQ.out];exact List.mem_take_iff_getElem.2 ⟨j,by show j<min 2 3;omega,rfl⟩,by rw [e0];simp⟩
    rw [e0,Nu]at cp;clear e0;have hz2:z=2:=(by rw [HZ.out,if_pos hall]);clear hall;subst hz2;have c1:=cp _ (Pg.trans (hnew (.cells #[S q.1,S q.2] 24)));(go_wp2_with fail);(with_reducible refine c1.mono ?_);rintro e w2 ⟨rfl,hx2⟩;go_wp2;go_ret;exact⟨rfl,(Pg.trans (hnew _)).trans hx2⟩
   ·have HE:=Asx e0;rw [e0,Iv]at cp;clear e0;have c1:=cp _ (Pg.trans (hnew (.cells #[S q.1,S q.2] 24)));(go_wp2_with fail);(with_reducible refine c1.mono ?_);rintro e w2 ⟨rfl,hx2⟩;go_wp2;go_roundw
    case rel=>
     refine⟨j+1,by go_num,hlt,?_,(Ae.trans (hnew _)).trans hx2⟩;intro x hx;rw [As3 hlt3,←HQ.out]at hx
     rcases List.mem_append.1 hx with h|h
     ·exact HO.out x h
     ·simp only [AsC]at h;rw [h];exact HE.out
    case measure=>simp [intOf];omega
  ·obtain rfl:j=2:=(by omega);have hall:([a,b,p].take 2).all D6=true:=List.all_eq_true.2 HO.out;have hz1:=HZ.out;rw [hall,if_neg (by simp)]at hz1;have LC:=Asx hz1;clear hall hz1 HZ HO hlt hj;replace hq:=(Ae.block _ (Asy hq)).trans hq;have hW:=hE.trans Ae;have HD:Ad wr (some ⟨bp,4,none⟩) (flat ([a,b,p].drop 2)):=yD (HP.ext Ae) 2;clear HP hp Ae hE;have q7:wr.cell? ⟨bx,7,none⟩=some (S u):=Aa hq rfl;have hnil:¬u = []→u.isEmpty=false:=fun h=>by cases u<;>simp_all
   have ay:∀W,Ab wr W→Calls Tryz.prog 35 #[.slice (some ⟨bp,4,none⟩) 1 1,.func (.func 36) #[] #[]] W (BP (([a,b,p].drop 2).any Gn) W):=fun W h=>uO yR Gn ([a,b,p].drop 2) _ 1 W (HD.ext h) (As0 _) (by decide) (fun e _ W _=>wG e W)
   by_cases hu:u = []
   ·have hz2:=LC.out;rw [hu]at hz2 q7;rw [if_neg (by simp)]at hz2;clear LC hnil
    cases e2:([a,b,p].drop 2).any Gn
    ·rw [e2,if_neg (by simp)]at hz2;have a1:=ay wr (Ab.refl wr);rw [e2]at a1;clear e2;subst hz2;(go_wp2_with fail);(with_reducible refine a1.mono ?_);rintro e w3 ⟨rfl,hx3⟩;go_wp2;go_ret;exact⟨rfl,hW.trans hx3⟩
    ·rw [e2,if_pos (by simp)]at hz2;have a1:=ay wr (Ab.refl wr);rw [e2]at a1;clear e2;subst hz2;(go_wp2_with fail);(with_reducible refine a1.mono ?_);rintro e w3 ⟨rfl,hx3⟩;go_wp2;go_ret;exact⟨rfl,hW.trans hx3⟩
   ·have hu2:=hnil hu
    have hb:(u == [])=false:=by cases u with|nil=>exact absurd rfl hu|cons x y=>rfl
    have hz2:=LC.out;rw [hb,if_neg (by simp),if_pos (by simp)]at hz2;clear LC hnil ay;subst hz2;go_wp2;go_ret;exact⟨rfl,hW⟩
end Go.Proofs.YtnddllipjippnaaGreatDoor
