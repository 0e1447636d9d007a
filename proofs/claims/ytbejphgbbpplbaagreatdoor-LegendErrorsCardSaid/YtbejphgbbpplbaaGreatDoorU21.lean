/- U21: ShBA ShBJ ShQA ShLG6 ShLG9 ShD5 ShLGF ShLO1 ShLO2 ShLGC. -/
import Derived.Test.YtbejphgbbpplbaaGreatDoorU20
set_option maxRecDepth 100000
set_option maxHeartbeats 16000000
namespace Go.Proofs.YtbejphgbbpplbaaGreatDoor
open Go.RowKit Kl Go.Lib
instance instInhPt:Inhabited Pt:=⟨⟨0,0⟩⟩
instance instDecPt:DecidableEq Pt:=fun a b=>if h:An a b=true then isTrue (BY.1 h)else isFalse fun e=>h (BY.2 e)
theorem wR{w0:World}(b:Nat)(hb:w0.heap.size<=b):∀(vs:List Value) (o:Nat) (w:World),Aa w0 w→Aa w0 (w.setCells b o vs)
 | [],_,_,h=>h
 | v::r,o,_,h=>wR b hb r (o+1) _ (h.setCell (p:=⟨b,o,none⟩) hb v)
theorem Rp{w:World}{base g n cap:Nat}{e:TypeId}{d:Array Pt}(h:w.ownsRow base e 2 (.slice (some ⟨g,0,none⟩) n cap) n (flat (Ak d.toList)))(hs:d.size=n){j:Nat}(hj:j<n) :
  w.cell? ⟨g,j*2,none⟩=some (S (R d[j]!.x))/\w.cell? ⟨g,j*2+1,none⟩=some (S (R d[j]!.y)):=by
 have hl:(Ak d.toList).length=n:=(by simp [Ak,hs]);have hd:d[j]! = d.toList[j]'(by simpa [hs]using hj):=(by rw [getElem!_pos d j (by omega)];simp);obtain⟨f1,f2⟩:=flat_get (Ak d.toList) j (by omega);rw [h.cellAt (j*2) (by omega),h.cellAt (j*2+1) (by omega),hd,f1,f2];simp [Ak,Me]
theorem xF:∀(l:List (Bs×Bs)) (k:Nat) (u:Bs×Bs),((flat l).set (k*2) (S u.1)).set (k*2+1) (S u.2)=flat (l.set k u)
 | [],_,_=>by simp [flat]
 | p::l,0,_=>rfl
 | p::l,k+1,u=>by
  have e:flat (p::l)=S p.1::S p.2::flat l:=rfl;have e1:(k+1)*2=k*2+1+1:=(by omega);rw [e,e1,List.set_cons_succ,List.set_cons_succ,List.set_cons_succ,List.set_cons_succ,xF l k u]
  rfl
theorem Amb{w:World}{base g n cap:Nat}{e:TypeId}{d:Array Pt}(h:w.ownsRow base e 2 (.slice (some ⟨g,0,none⟩) n cap) n (flat (Ak d.toList)))(k:Nat)(u:Pt) :
  ((w.setCell ⟨g,k*2,none⟩ (S (R u.x))).setCell ⟨g,k*2+1,none⟩ (S (R u.y))).ownsRow base e 2 (.slice (some ⟨g,0,none⟩) n cap) n (flat (Ak (d.setIfInBounds k u).toList)):=by
 have h2:=((h.stored (k*2) (S (R u.x))).1.stored (k*2+1) (S (R u.y))).1;have e2:=xF (Ak d.toList) k (Me u);simp only [Me]at e2;rw [e2]at h2;rw [Array.toList_setIfInBounds];have e3:Ak (d.toList.set k u)=(Ak d.toList).set k (R u.x,R u.y):=(by unfold Ak;rw [List.map_set];rfl);rw [e3];exact h2
theorem An0(w:World)(b o n c:Nat)(hn:0<n)(hc:∀j,j<n*2→(w.cell? ⟨b,o+j,none⟩).isSome=true)(hf:∀j,j<n*2→w.frozen? ⟨b,o+j,none⟩=false) :
  ∃vs:List Value,vs.length=n*2/\∀ty,(Builtin.clear_ #[33] ty #[.slice (some ⟨b,o,none⟩) n c]).run Tryz.prog w=.ok (.tuple #[]) (w.setCells b o vs):=by
 obtain⟨i0,hi,hz0,hz1,hz2⟩:=info_parts Tryz.infoPt;have hv:∀w,(zeroValue 94).run Tryz.prog w=.ok (.agg #[S [],S []]) w:=fun w=>(by simp [zeroValue,typeInfo,hi,hz0]);have Bd:(Value.agg #[S [],S []]).cells=#[S [],S []]:=(by kernel_rfl);have hl:(Builtin.zeroCells #[S [],S []] n).toList.length=n*2:=(by simp [Builtin.zeroCells]);refine⟨(Builtin.zeroCells #[S [],S []] n).toList,hl,fun ty=>?_⟩
 have hst:=run_storeCells_cells (P:=Tryz.prog) b o (Builtin.zeroCells #[S [],S []] n).toList 0 w (by rw [hl];simpa using hc) (by rw [hl];simpa using hf) (by
  intro v hv';simp only [Builtin.zeroCells]at hv';simp at hv';obtain⟨j,_,e⟩:=hv';have:j%2=0∨j%2=1:=by omega
  rcases this with h|h<;>(rw [h]at e;simp at e;subst e;rfl))
 simp only [Nat.add_zero]at hst;obtain⟨m,rfl⟩:∃m,n=m+1:=⟨n-1,by omega⟩;simp [Builtin.clear_,run_underlying Tryz.underlying33,hv,Bd,hst]
def ZL(w:World)(base:Nat)(wr:World):Prop:=∀w0,Aa w0 w→w0.heap.size<=base→Aa w0 wr
def Adr(l:List Pt)(w:World)(base:Nat)(e:Ending)(w':World):Prop:=
 ∃A k,e=.returned (.slice A l.length k)/\Ae w' A (flat (Ak l))/\l.length<=k/\k<=9223372036854775807/\ZL w base w'
theorem AmW{w:World}{g:Nat}{l:List Pt}(h:∀j (hj:j<l.length),w.cell? ⟨g,j*2,none⟩=some (S (R l[j].x))/\w.cell? ⟨g,j*2+1,none⟩=some (S (R l[j].y))):Ae w (some ⟨g,0,none⟩) (flat (Ak l)):=by
 refine⟨fun _=>⟨g,0,rfl,fun j hj=>?_⟩⟩;have hj':=hj;rw [flat_length,show (Ak l).length=l.length by simp [Ak]]at hj';obtain⟨q,hq⟩:∃q,j=q*2∨j=q*2+1:=⟨j/2,by omega⟩;obtain⟨f1,f2⟩:=h q (by omega);obtain⟨e1,e2⟩:=flat_get (Ak l) q (by simp [Ak];omega);simp only [Ak,List.getElem_map,Me]at e1 e2;rw [Nat.zero_add,←Asf hj]
 rcases hq with rfl|rfl
 ·rw [f1];exact e1.symm
 ·rw [f2];exact e2.symm
theorem Y5{w:World}{base:Nat}{e:TypeId}{size:Nat}{v:Value}{n:Nat}{xs:List Value}(h:w.ownsRow base e size v n xs)(k:Nat):(w.drewN k).ownsRow base e size v n xs:=Ao h ((Aa.refl w).drewN k)
theorem Afg{L:List Pt}(h:L.length<2):compact L=L:=compact_all L fun j hj=>keeps_lt_one _ j (by omega)
theorem Afd(L:List Pt)(v:Value)(w:World)(base:Nat)(hown:w.ownsRow base 94 2 v L.length (flat (Ak L))) :
  Calls Tryz.prog 179 #[v] w (Adr (compact L) w base):=by
 by_cases h2:L.length<2
 ·rw [Afg h2];obtain⟨A,c,rfl,hr,hc1,hc2⟩:=Ae.of_own' (by omega) hown;have h2':(L.length:Int)<2:=(by omega);have HR:=ArW hr;clear hown hr;go_enter Tryz.func179,Tryz.ntmps179;go_wp2;go_ret;exact⟨A,c,rfl,HR.out,hc1,hc2,fun _ h _=>h⟩
 ·obtain⟨g,cap,rfl,hc1,hc2⟩:∃g cap,v=.slice (some ⟨g,0,none⟩) L.length cap/\L.length<=cap/\cap<=9223372036854775807:=by
   rcases hown.2 with⟨_,h'⟩|⟨g,cap,cur,hv,hb,hg,XA,hcm,hcs,htake⟩
   ·omega
   ·exact⟨g,cap,hv,XA,by unfold maxLen at hcm;omega⟩
  have hbg:=AlZ hown g rfl;obtain⟨d,hd⟩:=ArV L.toArray;obtain⟨n,hn⟩:=ArV L.length;have Dk:d.size=n:=(by rw [hd,hn];simp);have WZ:compact L=compactUpTo d n:=(by unfold compact;rw [hd,hn]);rw [←hn]at hown h2 hc1 ⊢;rw [WZ];rw [show L=d.toList by rw [hd]]at hown;clear hd hn WZ;have h2a:(2:Int)<=(n:Int):=(by omega);clear h2;go_enter Tryz.func179,Tryz.ntmps179;go_wp2
  go_loopw [3] (fun s3 wr=>∃k:Nat,s3=.int .i64 k/\1<=k/\k<=n/\(∀j,j<k→keeps d j=true)/\wr.ownsRow base 94 2 (.slice (some ⟨g,0,none⟩) n cap) n (flat (Ak d.toList))/\ZL w base wr) (fun s3 _=>n-(RowKit.intOf s3).toNat)
  case atStart=>exact⟨1,rfl,by omega,by omega,keeps_lt_one d,hown,fun _ h _=>h⟩
  case round=>
   obtain⟨k,rfl,BX,hk,hall,hown1,hex⟩:=hrel;have pM:=ArW hall;by_cases hlt:k<n
   ·have hk0:(0:Int)<=(k:Int):=(by omega);have AqL:(1:Int)<=(k:Int):=(by omega);have hkn:(k:Int)<(n:Int):=(by omega);obtain⟨g1,g2⟩:=Rp hown1 Dk hlt;obtain⟨g3,g4⟩:=Rp hown1 Dk (j:=k-1) (by omega);obtain⟨x,hx⟩:=ArV (d[k]!);obtain⟨y,hy⟩:=ArV (d[k-1]!);rw [←hx]at g1 g2;rw [←hy]at g3 g4;have JR:=ArW (And.intro hx hy);have TY:((k:Int)-1).toNat=k-1:=(by omega);have OS:IntKind.i64.wrap ((k:Int)-1)=(k:Int)-1:=Asg _ (by omega);have jg:((k:Int)-1)<(n:Int):=(by omega);have jh:(0:Int)<=((k:Int)-1):=(by omega);clear hx hy hall;have he:=Px x y
    cases hb:An x y
    ·rw [hb]at he;have hdec:keeps d k=true:=keeps_pos (by rw [←JR.out.1,←JR.out.2];intro e;rw [BY.2 e]at hb;cases hb)
     have zT:∀j,j<k+1→keeps d j=true:=fun j hj=>by
      by_cases e:j=k
      ·subst e;exact hdec
      ·exact pM.out j (by omega)
     have AbW:=ArW zT;clear zT hdec hb;(go_wp2_with fail)
     go_quiet (fail)
     go_wp2;go_roundw
     case rel=>exact⟨k+1,by go_num,by omega,by omega,AbW.out,Y5 hown1 _,fun w0 h h'=>(hex w0 h h').drewN _⟩
     case measure=>simp [RowKit.intOf];omega
    ·rw [hb]at he;have je:keeps d k=false:=keeps_neg (by omega) (by rw [←JR.out.1,←JR.out.2];exact BY.1 hb);have Acy:=ArW je;clear je hb;(go_wp2_with fail)
     go_quiet (fail)
     clear g1 g2 g3 g4 TY OS jg jh hlt he;have Aq9:cap-k<=cap:=(by omega);go_wp2
     go_loopw [3,5] (fun s3 s5 wr2=>∃(kk k2:Nat) (dk:Array Pt),s3=.int .i64 kk/\s5=.int .i64 k2/\1<=k2/\k+k2<=n/\wr2.ownsRow base 94 2 (.slice (some ⟨g,0,none⟩) n cap) n (flat (Ak dk.toList))/\CompInv d (k+k2) kk dk/\ZL w base wr2) (fun _ s5 _=>n-k-(RowKit.intOf s5).toNat)
     case atStart=>exact⟨k,1,d,rfl,rfl,by omega,by omega,Y5 hown1 _,CompInv.start pM.out Acy.out,fun w0 h h'=>(hex w0 h h').drewN _⟩
     case round=>
      clear hown1 hex;obtain⟨kk,k2,dk,rfl,rfl,hk2,hle,hown2,hI,hex⟩:=hrel;have Bf:=hI.lt;have Xb:dk.size=n:=(by rw [hI.size,Dk]);have HI:=ArW hI;have AW:(0:Int)<=(kk:Int):=(by omega);have Bg:(1:Int)<=(k2:Int):=(by omega);have Bo:(0:Int)<=(k2:Int):=(by omega);by_cases hlt2:k+k2<n
      ·have kr:(k2:Int)<((n-k:Nat):Int):=(by omega);obtain⟨g1,g2⟩:=Rp hown2 Xb hlt2;obtain⟨g3,g4⟩:=Rp hown2 Xb (j:=k+(k2-1)) (by omega);obtain⟨g5,g6⟩:=Rp hown2 Xb (j:=kk) (by omega);have f5:=hown2.frozenAt (kk*2);have f6:=hown2.frozenAt (kk*2+1);rw [hI.high (k+k2) (by omega),show (k+k2)*2=k*2+k2*2 by omega]at g1 g2;rw [hI.high (k+(k2-1)) (by omega),show (k+(k2-1))*2=k*2+(k2-1)*2 by omega]at g3 g4;obtain⟨x,hx⟩:=ArV (d[k+k2]!);obtain⟨y,hy⟩:=ArV (d[k+(k2-1)]!);obtain⟨z,hz⟩:=ArV (dk[kk]!);rw [←hx]at g1 g2;rw [←hy]at g3 g4;rw [←hz]at g5 g6;rw [show k+(k2-1)=k+k2-1 by omega]at hy;have JR:=ArW (And.intro hx hy);have TY:((k2:Int)-1).toNat=k2-1:=(by omega);have OS:IntKind.i64.wrap ((k2:Int)-1)=(k2:Int)-1:=Asg _ (by omega);have jg:((k2:Int)-1)<((n-k:Nat):Int):=(by omega);have jh:(0:Int)<=((k2:Int)-1):=(by omega);have Aij:(kk:Int)<(n:Int):=(by omega);clear hx hy hz hI;have he:=RA x y
       cases hb:An x y
       ·rw [hb,Bool.not_false]at he
        have MW:CompInv d (k+(k2+1)) (kk+1) (dk.setIfInBounds kk x):=by have:=HI.out.keep (by omega) (keeps_pos (by rw [←JR.out.1,←JR.out.2];intro e;rw [BY.2 e]at hb;cases hb));rw [←JR.out.1]at this;exact this
        have Zw:=ArW MW;clear MW hb;(go_wp2_with fail)
        go_quiet (fail)
        go_wp2;go_roundw
        case rel=>exact⟨kk+1,k2+1,dk.setIfInBounds kk x,by go_num,by go_num,by omega,by omega,Amb (Y5 hown2 _) kk x,Zw.out,fun w0 h h'=>(((hex w0 h h').drewN _).setCell (p:=⟨g,kk*2,none⟩) (Asl h' hbg) _).setCell (p:=⟨g,kk*2+1,none⟩) (Asl h' hbg) _⟩
        case measure=>simp [RowKit.intOf];omega
       ·rw [hb,Bool.not_true]at he;have MW:CompInv d (k+(k2+1)) kk dk:=HI.out.skip (keeps_neg (by omega) (by rw [←JR.out.1,←JR.out.2];exact BY.1 hb));have Zw:=ArW MW;clear MW hb;(go_wp2_with fail)
        go_quiet (fail)
        go_wp2;go_roundw
        case rel=>exact⟨kk,k2+1,dk,rfl,by go_num,by omega,by omega,Y5 hown2 _,Zw.out,fun w0 h h'=>(hex w0 h h').drewN _⟩
        case measure=>simp [RowKit.intOf];omega
      ·have hend:k+k2=n:=(by omega);have kr:((n-k:Nat):Int)<=(k2:Int):=(by omega);have Aij:(kk:Int)<=(n:Int):=(by omega);have AqP:(kk:Int)<=(cap:Int):=(by omega);obtain⟨vs,hvl,hcl⟩:=An0 wr g (kk*2) (n-kk) (cap-kk) (by omega) (fun j hj=>by rw [hown2.cellAt _ (by omega),Asf (by rw [hown2.1];omega)];rfl) (fun j hj=>hown2.frozenAt _)
       have hpre:∀j (hj:j<(compactUpTo d n).length),(wr.setCells g (kk*2) vs).cell? ⟨g,j*2,none⟩=some (S (R (compactUpTo d n)[j].x))/\(wr.setCells g (kk*2) vs).cell? ⟨g,j*2+1,none⟩=some (S (R (compactUpTo d n)[j].y)):=by intro j hj;rw [hend]at hI;have hj':j<kk:=(by rw [←hI.len];exact hj);have Ub:=hI.low j hj';rw [Asf hj,Ase]at Ub;rw [World.cell?_setCells_out _ _ _ _ _ (fun _ _=>.inl (by simp only [];omega)),World.cell?_setCells_out _ _ _ _ _ (fun _ _=>.inl (by simp only [];omega)),Ub];exact Rp hown2 Xb (by omega)
       have AcF:=ArW hpre;have hlen:(compactUpTo d n).length=kk:=(by have:=hI.len;rw [hend]at this;exact this);clear hI hpre;go_wp2;go_ret;exact⟨some ⟨g,0,none⟩,cap,by rw [hlen];rfl,AmW AcF.out,by omega,hc2,fun w0 h h'=>wR g (Asl h' hbg) _ _ _ (hex w0 h h')⟩
   ·have hle:(n:Int)<=(k:Int):=by omega
    have he:compactUpTo d n=d.toList:=by have hr:=range_map_get d;rw [Dk]at hr;rw [compactUpTo_all _ _ (fun j hj=>hall j (by omega)),hr]
    have hl:(compactUpTo d n).length=n:=(by rw [he];simp [Dk]);go_wp2;go_ret;refine⟨some ⟨g,0,none⟩,cap,by rw [hl];rfl,?_,by omega,hc2,hex⟩;obtain⟨A,c,e,hr,_,_⟩:=Ae.of_own' (by omega) hown1;rw [he]
    cases e;exact hr
end Go.Proofs.YtbejphgbbpplbaaGreatDoor
namespace Go.Proofs.YtbejphgbbpplbaaGreatDoor
open Go.RowKit Kl
theorem Anr{l:List Int}{k:Nat}(hk:k<l.length)(hl:l[k]=(k:Int)){A:Option Addr}{c:Nat}{w:World}(hr:Ae w A (l.map (Value.int .i64))) :
  Calls Tryz.prog 105 #[.slice A l.length c,.int .i64 (k:Nat)] w (Av k w):=by
 obtain⟨b,o,rfl,hcell⟩:=hr.ad (by simp;omega);have f:=hcell k (by simp;omega);rw [List.getElem_map,hl]at f;have hk0:(0:Int)<=(k:Int):=(by omega);have BX:(k:Int)<(l.length:Int):=(by omega);clear hcell hr hl;go_enter Tryz.func105,Tryz.ntmps105;go_wp2
 go_loopw [1] (fun v wr=>v=.int .i64 (k:Nat)/\wr=w) (fun _ _=>0)
 case atStart=>exact⟨rfl,rfl⟩
 case round=>obtain⟨rfl,rfl⟩:=hrel;go_wp2;go_ret;exact⟨rfl,Aa.refl _⟩
theorem Ano{w:World}{base g cap:Nat}{x y:Pt}(h:w.ownsRow base 94 2 (.slice (some ⟨g,0,none⟩) 2 cap) 2 (flat (Ak [x,y]))) :
  ((((w.setCell ⟨g,0,none⟩ (S (R y.x))).setCell ⟨g,1,none⟩ (S (R y.y))).setCell ⟨g,2,none⟩ (S (R x.x))).setCell ⟨g,3,none⟩ (S (R x.y))).drew.ownsRow base 94 2 (.slice (some ⟨g,0,none⟩) 2 cap) 2 (flat (Ak [y,x]))
   /\w.grownBy ((((w.setCell ⟨g,0,none⟩ (S (R y.x))).setCell ⟨g,1,none⟩ (S (R y.y))).setCell ⟨g,2,none⟩ (S (R x.x))).setCell ⟨g,3,none⟩ (S (R x.y))).drew (some g):=by
 have h1:=((((h.stored 0 (S (R y.x))).1.stored 1 (S (R y.y))).1.stored 2 (S (R x.x))).1.stored 3 (S (R x.y))).1;refine⟨Ao h1 (Aa.refl _).drew,⟨rfl,rfl,rfl,by simp,fun k hk hne=>?_⟩⟩;have Xp:k≠g:=fun e=>hne (by rw [e]);exact(Below.heap_setCell _ _ _ k Xp).trans ((Below.heap_setCell _ _ _ k Xp).trans ((Below.heap_setCell _ _ _ k Xp).trans (Below.heap_setCell _ _ _ k Xp)))
theorem Anp(x y:Pt)(g cap base:Nat)(w:World)(h:w.ownsRow base 94 2 (.slice (some ⟨g,0,none⟩) 2 cap) 2 (flat (Ak [x,y]))) :
  Calls Tryz.prog 180 #[.slice (some ⟨g,0,none⟩) 2 cap] w fun e w'=>
   e=.returned (.tuple #[])/\w'.ownsRow base 94 2 (.slice (some ⟨g,0,none⟩) 2 cap) 2 (flat (Ak [y,x]))/\w.grownBy w' (some g):=by
 have f0:=h.cellAt 0 (by omega);have f1:=h.cellAt 1 (by omega);have f2:=h.cellAt 2 (by omega);have f3:=h.cellAt 3 (by omega);simp only [Ak,Me,flat,List.map_cons,List.map_nil,List.flatMap_cons,List.flatMap_nil,List.append_nil,List.cons_append,List.nil_append,List.getElem?_cons_zero,List.getElem?_cons_succ]at f0 f1 f2 f3;have z0:=h.frozenAt 0;have z1:=h.frozenAt 1;have z2:=h.frozenAt 2;have z3:=h.frozenAt 3;have H:=ArW h;clear h;go_enter Tryz.func180,Tryz.ntmps180;go_wp2
 go_loopw [2,3] (fun i j wr=>(i=.int .i64 0/\j=.int .i64 1/\wr=w)∨(i=.int .i64 1/\j=.int .i64 0/\wr.ownsRow base 94 2 (.slice (some ⟨g,0,none⟩) 2 cap) 2 (flat (Ak [y,x]))/\w.grownBy wr (some g))) (fun i _ _=>1-(intOf i).toNat)
 case atStart=>exact .inl ⟨rfl,rfl,rfl⟩
 case round=>
  rcases hrel with⟨rfl,rfl,rfl⟩|⟨rfl,rfl,ho,hg⟩
  ·go_upto_region 3 with fail
   have HR:=ArW (Ano H.out);unfold S at f0 f1 f2 f3 HR
   go_region
   go_wp2;go_roundw
   case rel=>exact .inr ⟨rfl,rfl,HR.out.1,HR.out.2⟩
   case measure=>simp [intOf]
  ·go_wp2
   go_end0
   exact⟨rfl,ho,hg⟩
theorem NP{w:World}{B B':Nat}{e:TypeId}{size:Nat}{v:Value}{n:Nat}{xs:List Value}(h:w.ownsRow B e size v n xs)(hB:B'<=B):w.ownsRow B' e size v n xs:=by
 refine⟨h.1,?_⟩
 rcases h.2 with h'|⟨g,cap,cur,h1,h2,h3⟩
 ·exact .inl h'
 ·exact .inr ⟨g,cap,cur,h1,Asl hB h2,h3⟩
theorem J9{a b:World}(_:Aa a b):∃x,x=b:=⟨b,rfl⟩
theorem Zb{o:Oper}{a:Act}{K:Act→World→Prop}{Q:Exit→Act→World→Prop}(s x:Operand)(t:TypeId)(ho:o.op=.call {callee:=.builtin .append,args:=#[s,x],argTypes:=#[t,t]})
  (e:TypeId) (i:TypeInfo) (z:Value) (size bytes m:Nat) (ht:Tryz.prog.underlying t=some (.slice e)) (hi:Tryz.prog.info? e=some i) (hz:i.zero=some z)
  (hsize:i.size=size) (hby:i.bytes=bytes) (hzs:z.cells.size=size) (hsz:0<size) (fO:bytes<=512) (hm:m<=10)
  (wN:World) (base:Nat) (v:Value) (n:Nat) (xs:List Value) (hs:a.eval s=v) (hown:wN.ownsRow base e size v n xs) (hn:n<200000)
  (g:Nat) (cs:Array Value) (hb:wN.heap[g]?=some (.cells cs e)) (hcs:cs.size=m*size) (h1:∀u∈cs.toList,u.oneCell'=true)
  (hx:a.eval x=.slice (some ⟨g,0,none⟩) m m) (hbase:base<=wN.heap.size)
  (h:∀v' w',w'.ownsRow base e size v' (n+m) (xs++cs.toList)→(∀w0,Aa w0 wN→w0.heap.size<=base→Aa w0 w')→wN.grownBy w' v.ownBlock→K (a.put o.dst v') w') :
  o.wp Tryz.prog a wN K Q:=by
 have TD:(n+m)*bytes<=140737488355328:=Asl (Nat.mul_le_mul (show n+m<=200010 by omega) fO) (by omega);have Fz:n+m<=maxLen:=(by unfold maxLen;omega);refine wp_append_own _ s x t ho base e i z size bytes ht hi hz hsize hby hzs hsz v n xs hs hown ⟨g,0,none⟩ m m cs.toList hx ?_ ?_ h1 Fz TD hbase ?_
 ·simp [hcs]
 ·intro j u hu;rw [Addr.add_lit,Nat.zero_add];refine Ab hb ?_;rw [←Array.getElem?_toList];exact hu
 ·intro v' w' h2 h3 _;refine h v' w' h2 (fun w0 he Bq=>?_) h3
  exact he.grown h3 fun k hk=>by
   rcases hown.2 with⟨rfl,_⟩|⟨g,cap,cur,rfl,hb',_⟩
   ·cases hk
   ·simp only [Value.ownBlock,Ase]at hk;omega
theorem Tryz.infoHf:(Tryz.prog.info? 176).map (fun i=>(i.zero,i.size,i.bytes))=some (some (.agg #[S [],S [],S [],S [],.int .i64 0]),5,72):=by kernel_rfl
theorem Tryz.infoPc:(Tryz.prog.info? 97).map (fun i=>(i.zero,i.size,i.bytes))=some (some (.agg #[.slice none 0 0,S [],.slice none 0 0]),3,64):=by kernel_rfl
theorem Tryz.infoEd:(Tryz.prog.info? 126).map (fun i=>(i.zero,i.size,i.bytes))=some (some (.agg #[.int .i64 0,.int .i64 0,.int .i64 0,.int .i64 0]),4,32):=by kernel_rfl
section
variable {ops : Array Oper} {rest : List Oper} {o : Oper} {a : Act} {K : Act → World → Prop} {Q : Exit → Act → World → Prop}
theorem AbI(s x:Operand)(ho:o.op=.call {callee:=.builtin .append,args:=#[s,x],argTypes:=#[173,173]})
  (wN:World) (base:Nat) (v:Value) (n:Nat) (l d:List Hf) (hs:a.eval s=v) (hown:wN.ownsRow base 176 5 v n (Bd l)) (hn:n<200000) (hd:d.length<=10)
  (g m:Nat) (hm:d.length=m) (hb:wN.heap[g]?=some (.cells (Bd d).toArray 176)) (hx:a.eval x=.slice (some ⟨g,0,none⟩) m m) (hbase:base<=wN.heap.size)
  (h:∀v' w',w'.ownsRow base 176 5 v' (n+m) (Bd (l++d))→(∀w0,Aa w0 wN→w0.heap.size<=base→Aa w0 w')→wN.grownBy w' v.ownBlock→K (a.put o.dst v') w') :
  o.wp Tryz.prog a wN K Q:=by
 subst hm;obtain⟨i0,hi,hz0,hz1,hz2⟩:=info_parts Tryz.infoHf;refine Zb s x 173 ho 176 i0 _ 5 72 d.length Tryz.underlying173 hi hz0 hz1 hz2 rfl (by omega) (by omega) hd wN base v n _ hs hown hn g _ hb (by simp [fj]) ?_ hx hbase ?_
 ·intro u hu;simp only [Bd,List.mem_flatMap,List.mem_cons,Asm,or_false]at hu;obtain⟨y,_,hu⟩:=hu
  rcases hu with rfl|rfl|rfl|rfl|rfl<;>rfl
 ·intro v' w' h1 h2 h3;refine h v' w' ?_ h2 h3;have:Bd (l++d)=Bd l++(Bd d).toArray.toList:=(by simp [Bd]);rw [this];exact h1
theorem aE(hgd:o.guard=none)(s x:Operand)(ho:o.op=.call {callee:=.builtin .append,args:=#[s,x],argTypes:=#[173,173]})
  (wN:World) (base:Nat) (v:Value) (n:Nat) (l d:List Hf) (hs:a.eval s=v) (hown:wN.ownsRow base 176 5 v n (Bd l)) (hn:n<200000) (hd:d.length<=10)
  (g m:Nat) (hm:d.length=m) (hb:wN.heap[g]?=some (.cells (Bd d).toArray 176)) (hx:a.eval x=.slice (some ⟨g,0,none⟩) m m) (hbase:base<=wN.heap.size)
  (h:∀v' w',w'.ownsRow base 176 5 v' (n+m) (Bd (l++d))→(∀w0,Aa w0 wN→w0.heap.size<=base→Aa w0 w')→wN.grownBy w' v.ownBlock→wpList Tryz.prog ops Q rest (a.put o.dst v') w') :
  wpList Tryz.prog ops Q (o::rest) a wN:=
 wpList_plain hgd fun _ hK=>AbI s x ho wN base v n l d hs hown hn hd g m hm hb hx hbase fun v' w' h1 h2 h3=>hK _ _ (h v' w' h1 h2 h3)
theorem Abd{E:Prop}(hgd:o.guard=none)(s x:Operand)(ho:o.op=.call {callee:=.builtin .append,args:=#[s,x],argTypes:=#[173,173]})
  (wN:World) (base:Nat) (v:Value) (n:Nat) (l d:List Hf) (hs:a.eval s=v) (hown:wN.ownsRow base 176 5 v n (Bd l)) (hn:n<200000) (hd:d.length<=10)
  (g m:Nat) (hm:d.length=m) (hb:wN.heap[g]?=some (.cells (Bd d).toArray 176)) (hx:a.eval x=.slice (some ⟨g,0,none⟩) m m) (hbase:base<=wN.heap.size)
  (h:∀v' w',w'.ownsRow base 176 5 v' (n+m) (Bd (l++d))→(∀w0,Aa w0 wN→w0.heap.size<=base→Aa w0 w')→wN.grownBy w' v.ownBlock→K (a.put o.dst v') w') :
  if Region.wanted o (yielded ops a.tmps)=true then Oper.wp Tryz.prog o a wN K Q else E:=by
 have hw:Region.wanted o (yielded ops a.tmps)=true:=(by simp [Region.wanted,hgd]);rw [if_pos hw];exact AbI s x ho wN base v n l d hs hown hn hd g m hm hb hx hbase h
end
theorem AfO(l:List En)(i:Nat):AN (l.take i)=(AN l).take (i*4):=by
 induction l generalizing i with
 | nil=>simp [AN]
 | cons e l ih=>
  cases i with
  | zero=>simp [AN]
  | succ i=>have e0:∀l,AN (e::l)=S e.u::S e.s :: .int .i64 e.p::S e.t::AN l:=fun _=>rfl;rw [List.take_succ_cons,e0,e0,ih];have e1:(i+1)*4=i*4+1+1+1+1:=(by omega);rw [e1];simp
theorem Agb(y x:En)(b:Nat)(w:World)(hb:w.heap[b]?=some (.cells #[S x.u,S x.s,.int .i64 x.p,S x.t] 40)) :
  Calls Tryz.prog 114 #[Ew y,.pointer (some ⟨b,0,none⟩)] w (Bw (y.s == x.s) w):=by
 have hx:=(Aa.refl w).alloc (.cells #[S y.u,S y.s,.int .i64 y.p,S y.t] 40);have j1:=hx.cellS (Ab (o:=1) hb rfl);unfold Ew;clear hb;go_enter Tryz.func114,Tryz.ntmps114;go_wp2;go_ret;exact⟨rfl,hx⟩
theorem AfV:∀args w,(callFunc 114 args).run Tryz.prog w=.ok (.enter 114 args) w:=enters_of Tryz.func114 (by kernel_rfl) rfl
def Ih(e:En):Prop:=e.u.length<1000000/\e.s.length<1000000/\e.t.length<1000000
theorem Agc(l:List En)(x:En)(A:Option Addr)(c:Nat)(w:World)(hr:Ae w A (AN l))(hc:l.length<=c)(hcm:c<=9223372036854775807)(hl:Ih x) :
  Calls Tryz.prog 48 #[.slice A l.length c,Ew x] w (Av (CZ l x) w):=by
 obtain⟨hu,hs,ht⟩:=hl;have hB:=ArY w (.cells #[S x.u,S x.s,.int .i64 x.p,S x.t] 40);have hE:=(Aa.refl w).alloc (.cells #[S x.u,S x.s,.int .i64 x.p,S x.t] 40);have nm:=kV x.u hu;have o1:∀W,Calls Tryz.prog 113 #[S x.s,.int .u8 33] W (Bw (x.s.any (Dd 33)) W):=fun W=>yb x.s hs 33 W;have o2:∀W,Calls Tryz.prog 113 #[S x.t,.int .u8 32] W (Bw (x.t.any (Dd 32)) W):=fun W=>yb x.t ht 32 W;have G7:=ArW (hr.ext hE);obtain⟨r,hr0⟩:=ArV (CZ l x);rw [←hr0];have HR:=ArW hr0;unfold Ew;clear hr hr0;go_enter Tryz.func48,Tryz.ntmps48
 go_upto_region 1 with fail
 generalize w.alloc (.cells #[S x.u,S x.s,.int .i64 x.p,S x.t] 40)=V at *;obtain⟨b,hb⟩:=ArV w.heap.size;rw [←hb]at hB ⊢;clear hb;have k1:=Ab (o:=0) hB rfl
 cases h1:nameB x.u
 ·rw [h1]at nm;have HH:=ArW (show r=8 by rw [HR.out];unfold CZ;rw [if_pos h1]);clear h1 o1 o2;(go_wp2_with fail);(with_reducible refine(nm V).mono ?_);rintro e w1 ⟨rfl,hx1⟩;go_wp2;go_ret;exact⟨BA HH.out,hE.trans hx1⟩
 rw [h1]at nm;have H1:=ArW (show ¬(nameB x.u=false)by rw [h1];simp);clear h1;(go_wp2_with fail);(with_reducible refine(nm V).mono ?_);rintro e w1 ⟨rfl,hx1⟩;have hB1:=(hx1.block _ (ArX hB)).trans hB;have X1:=hE.trans hx1;have k2:=Ab (o:=0) hB1 rfl;have fd:=xA l x.u A c w1 (G7.out.ext hx1) hc hcm;have Vs:=ArW hx1;clear nm k1 hB hx1;by_cases h2:0<=I6 l x.u
 ·have HH:=ArW (show r=9 by rw [HR.out];unfold CZ;rw [if_neg H1.out,if_pos h2]);generalize I6 l x.u=z at *;clear o1 o2;(go_wp2_with fail);(with_reducible refine fd.mono ?_);rintro e w2 ⟨rfl,hx2⟩;go_wp2;go_ret;exact⟨BA HH.out,X1.trans hx2⟩
 have H2:=ArW (Int.not_le.1 h2);have h2':=Int.not_le.1 h2;clear h2;have Sc:=ArW (Eq.refl (I6 l x.u));obtain⟨z,hz⟩:=ArV (I6 l x.u);rw [←hz]at fd h2';clear hz;(go_wp2_with fail);(with_reducible refine fd.mono ?_);rintro e w2 ⟨rfl,hx2⟩;have hB2:=(hx2.block _ (ArX hB1)).trans hB1;have X2:=X1.trans hx2;have Is:=ArW (Vs.out.trans hx2);have k3:=Ab (o:=1) hB2 rfl;have k4:=Ab (o:=2) hB2 rfl;have k5:=Ab (o:=3) hB2 rfl;clear fd k2 hB1 hx2 Sc;by_cases h3:x.s.length=1
 rotate_left
 ·have HH:=ArW (show r=7 by rw [HR.out];unfold CZ;rw [if_neg H1.out,if_neg (Int.not_le.2 H2.out),if_pos h3]);have t1:((x.s.length:Int) != 1)=true:=(by rw [bne_iff_ne];omega);clear o1 o2;go_wp2;go_ret;exact⟨BA HH.out,X2⟩
 have H3:=ArW (show ¬(x.s.length≠1)from fun h=>h h3);have t1:((x.s.length:Int) != 1)=false:=(by rw [bne_eq_false_iff_eq];omega);have UA:=o1 w2;clear h3 o1
 cases h4:x.s.any (Dd 33)
 rotate_left
 ·have HH:=ArW (show r=7 by rw [HR.out];unfold CZ;rw [if_neg H1.out,if_neg (Int.not_le.2 H2.out),if_neg H3.out,if_pos h4]);rw [h4]at UA;clear o2 h4;(go_wp2_with fail);(with_reducible refine UA.mono ?_);rintro e w3 ⟨rfl,hx3⟩;go_wp2;go_ret;exact⟨BA HH.out,X2.trans hx3⟩
 have H4:=ArW (show ¬(x.s.any (Dd 33)=true)by rw [h4];simp);rw [h4]at UA;clear h4;(go_wp2_with fail);(with_reducible refine UA.mono ?_);rintro e w3 ⟨rfl,hx3⟩;have BM:=(hx3.block _ (ArX hB2)).trans hB2;have X3:=X2.trans hx3
 have an:=sM (cb:=#[.pointer (some ⟨b,0,none⟩)]) AfV (fun y=>y.s == x.s) l A c w3 (G7.out.ext (Is.out.trans hx3)) hc hcm
  (fun y _ W hx=>Agb y x b W ((hx.block _ (ArX BM)).trans BM))
 have hlt3:=ArX BM;have Vd:=ArW BM;clear k3 k4 k5 hB2 UA t1 hx3 BM hlt3
 cases h5:l.any (fun y=>y.s == x.s)
 rotate_left
 ·have HH:=ArW (show r=9 by rw [HR.out];unfold CZ;rw [if_neg H1.out,if_neg (Int.not_le.2 H2.out),if_neg H3.out,if_neg H4.out,if_pos h5]);rw [h5]at an;clear o2 h5;(go_wp2_with fail);(with_reducible refine an.mono ?_);rintro e w4 ⟨rfl,Aj⟩;go_wp2;go_ret;exact⟨BA HH.out,X3.trans Aj⟩
 have H5:=ArW (show ¬(l.any (fun y=>y.s == x.s)=true)by rw [h5];simp);rw [h5]at an;clear h5;(go_wp2_with fail);(with_reducible refine an.mono ?_);rintro e w4 ⟨rfl,Aj⟩;have Hw:=(Aj.block _ (ArX Vd.out)).trans Vd.out;have X4:=X3.trans Aj;have k4:=Ab (o:=2) Hw rfl;have k5:=Ab (o:=3) Hw rfl;have Po:=o2 w4;clear an Hw Aj o2;by_cases h6:x.p<1
 ·have HH:=ArW (show r=12 by rw [HR.out];unfold CZ;rw [if_neg H1.out,if_neg (Int.not_le.2 H2.out),if_neg H3.out,if_neg H4.out,if_neg H5.out,if_pos h6]);clear Po;go_wp2;go_ret;exact⟨BA HH.out,X4⟩
 by_cases h7:5<x.p
 ·have HH:=ArW (show r=12 by rw [HR.out];unfold CZ;rw [if_neg H1.out,if_neg (Int.not_le.2 H2.out),if_neg H3.out,if_neg H4.out,if_neg H5.out,if_neg h6,if_pos h7]);clear Po;go_wp2;go_ret;exact⟨BA HH.out,X4⟩
 by_cases h8:80<x.t.length
 ·have HH:=ArW (show r=16 by rw [HR.out];unfold CZ;rw [if_neg H1.out,if_neg (Int.not_le.2 H2.out),if_neg H3.out,if_neg H4.out,if_neg H5.out,if_neg h6,if_neg h7,if_pos h8]);have t2:(80:Int)<(x.t.length:Int):=(by omega);clear Po;go_wp2;go_ret;exact⟨BA HH.out,X4⟩
 have t2:¬(80:Int)<(x.t.length:Int):=by omega
 cases h9:x.t.any (Dd 32)
 rotate_left
 ·have HH:=ArW (show r=15 by rw [HR.out];unfold CZ;rw [if_neg H1.out,if_neg (Int.not_le.2 H2.out),if_neg H3.out,if_neg H4.out,if_neg H5.out,if_neg h6,if_neg h7,if_neg h8,if_pos h9]);rw [h9]at Po;clear h9;(go_wp2_with fail);(with_reducible refine Po.mono ?_);rintro e w5 ⟨rfl,Ax⟩;go_wp2;go_ret;exact⟨BA HH.out,X4.trans Ax⟩
 have HH:=ArW (show r=0 by rw [HR.out];unfold CZ;rw [if_neg H1.out,if_neg (Int.not_le.2 H2.out),if_neg H3.out,if_neg H4.out,if_neg H5.out,if_neg h6,if_neg h7,if_neg h8,if_neg (by rw [h9];simp)]);rw [h9]at Po;clear h9;(go_wp2_with fail);(with_reducible refine Po.mono ?_);rintro e w5 ⟨rfl,Ax⟩;go_wp2;go_ret;exact⟨BA HH.out,X4.trans Ax⟩
theorem Qb(l:List En)(A:Option Addr)(c:Nat)(w:World)(hr:Ae w A (AN l))(hc:l.length<=c)(hcm:c<=9223372036854775807)(hl:∀e∈l,Ih e) :
  Calls Tryz.prog 12 #[.slice A l.length c] w (Av (Dh l) w):=by
 have HL:=ArW hl;have G7:=ArW hr;obtain⟨r,hr0⟩:=ArV (Dh l);rw [←hr0];have HR:=ArW hr0;clear hl hr hr0;by_cases EW:20<l.length
 ·have HH:=ArW (show r=4 by rw [HR.out];unfold Dh;rw [if_pos EW]);have t2:(20:Int)<(l.length:Int):=(by omega);go_enter Tryz.func12,Tryz.ntmps12;go_wp2;go_ret;exact⟨BA HH.out,Aa.refl _⟩
 ·have HC:=ArW (show r=Jg [] l by rw [HR.out];unfold Dh;rw [if_neg EW]);have t2:¬(20:Int)<(l.length:Int):=(by omega);obtain⟨n,hn⟩:=ArV l.length;rw [←hn]at hc EW t2 ⊢;have HN:=ArW hn;clear hn HR;go_enter Tryz.func12,Tryz.ntmps12
  go_upto_region 4 with fail
  go_loopw [11] (fun kv wr=>∃(k:Nat),kv=.int .i64 (k:Nat)/\k<=n/\r=Jg (l.take k) (l.drop k)/\Aa w wr) (fun kv _=>n-(intOf kv).toNat)
  case atStart=>exact⟨0,rfl,by omega,by rw [List.take_zero,List.drop_zero];exact HC.out,Aa.refl _⟩
  case round=>
   obtain⟨k,rfl,hk,hck,Ad⟩:=hrel;have JO:=ArW hck;clear hck;by_cases hkn:k<n
   ·have C0:k<l.length:=(by rw [←HN.out];exact hkn);obtain⟨b,o,rfl,hg1,hg2,hg3,hg4⟩:=Rz (G7.out.ext Ad) C0;have hst:=AeI C0 rfl;rw [←JO.out]at hst;have hlen:=HL.out l[k] (Asa C0);obtain⟨x,hx⟩:=ArV (l[k]);rw [←hx]at hg1 hg2 hg3 hg4 hst hlen;have HST:=ArW hst;have FZ:(l.take k).length=k:=(by rw [List.length_take];omega);have hk0:(0:Int)<=(k:Int):=(by omega);have BX:(k:Int)<(n:Int):=(by omega);have hk2:(k:Int)<=(c:Int):=(by omega);have v1:IntKind.wrap .i64 ((k:Int)+1)=(k:Int)+1:=Asg _ (by omega);have hxb:=ArY wr (.cells #[S x.u,S x.s,.int .i64 x.p,S x.t] 40);have hx1:=(Aa.refl wr).alloc (.cells #[S x.u,S x.s,.int .i64 x.p,S x.t] 40);have hE:=Ad.trans hx1;have ck:=fun q:Ac (wr.alloc (.cells #[S x.u,S x.s,.int .i64 x.p,S x.t] 40))=>Agc (l.take k) x (some ⟨b,o,none⟩) c q.w (by rw [AfO];exact((G7.out.ext hE).ext q.h).take _) (by omega) hcm hlen;rw [FZ]at ck;unfold Ew at ck;clear hx hst FZ hlen Ad
    go_upto_region 6 with fail
    generalize wr.alloc (.cells #[S x.u,S x.s,.int .i64 x.p,S x.t] 40)=V at *;obtain⟨bx,Ap⟩:=ArV wr.heap.size;rw [←Ap]at hxb ⊢;clear Ap hg1 hg2 hg3 hg4;have f1:∀q:Ac V,q.w.cell? ⟨bx,0,none⟩=some (S x.u):=Ac.cell (Ab hxb rfl);have f2:∀q:Ac V,q.w.cell? ⟨bx,1,none⟩=some (S x.s):=Ac.cell (Ab hxb rfl);have f3:∀q:Ac V,q.w.cell? ⟨bx,2,none⟩=some (.int .i64 x.p):=Ac.cell (Ab hxb rfl);have f4:∀q:Ac V,q.w.cell? ⟨bx,3,none⟩=some (S x.t):=Ac.cell (Ab hxb rfl);obtain⟨z,hz⟩:=ArV (CZ (l.take k) x);rw [←hz]at ck;have HZ:=ArW hz;clear hz hxb;refine Bp (by kernel_rfl) (by kernel_rfl) ?_
    repeat (go_big_quiet_step (with_reducible refine Di (ck _)))
    refine wpQuiet_nil ?_;rintro _ ⟨q,rfl⟩;have HQ:=ArW (hE.trans q.h);clear f1 f2 f3 f4 ck;by_cases hz0:z=0
    ·have HH:=ArW (show r=Jg (l.take (k+1)) (l.drop (k+1))by rw [HST.out,if_pos (by rw [←HZ.out];exact hz0)]);subst hz0;go_wp2;go_roundw
     case rel=>exact⟨k+1,by go_num,hkn,HH.out,HQ.out⟩
     case measure=>simp [intOf];omega
    ·have HH:=ArW (show r=z by rw [HST.out,if_neg (by rw [←HZ.out];exact hz0),HZ.out]);have t1:(z != 0)=true:=(by rw [bne_iff_ne];exact hz0);clear hz0;go_wp2;go_ret;exact⟨BA HH.out,HQ.out⟩
   ·have Bf:k=n:=(by omega);subst Bf;have HH:=ArW (show r=0 by rw [JO.out,HN.out,List.drop_length];rfl);go_wp2;go_ret;exact⟨BA HH.out,Ad⟩
theorem AeY(x:La)(u:Bs)(b:Nat)(w:World)(hb:w.cell? ⟨b,0,none⟩=some (S u)) :
  Calls Tryz.prog 97 #[LZ x,.pointer (some ⟨b,0,none⟩)] w (Bw (x.u == u) w):=by
 have hx:=(Aa.refl w).alloc (.cells #[S x.u,S x.mn,S x.mx] 31);have j1:=hx.cellS hb;unfold LZ;clear hb;go_enter Tryz.func97,Tryz.ntmps97;go_wp2;go_ret;exact⟨rfl,hx⟩
theorem AfT:∀args w,(callFunc 97 args).run Tryz.prog w=.ok (.enter 97 args) w:=enters_of Tryz.func97 (by kernel_rfl) rfl
theorem Ams(c:List La)(A:Option Addr)(cc bc:Nat)(w:World)(hb:w.cell? ⟨bc,0,none⟩=some (.slice A c.length cc))(hr:Ae w A (Cj c))(h1:c.length<=cc)(h2:cc<=9223372036854775807)(u:Bs) :
  Calls Tryz.prog 96 #[S u,.pointer (some ⟨bc,0,none⟩)] w (Av (BQ c u) w):=by
 have hB:=ArY w (.cells #[S u] 9);have hE:=(Aa.refl w).alloc (.cells #[S u] 9);have j1:=hE.cellS hb
 have ix:=qq (cb:=#[.pointer (some ⟨w.heap.size,0,none⟩)]) AfT (fun e=>e.u == u) c A cc (w.alloc (.cells #[S u] 9)) (hr.ext hE) h1 h2
  (fun e _ W hx=>AeY e u _ W (Ab (o:=0) ((hx.block _ (ArX hB)).trans hB) rfl))
 unfold BQ;clear hr hB hb;go_enter Tryz.func96,Tryz.ntmps96;(go_wp2_with fail);(with_reducible refine ix.mono ?_);rintro e w1 ⟨rfl,hx⟩;go_wp2;go_ret;exact⟨rfl,hE.trans hx⟩
theorem Ae1(x y:Int)(w:World):Calls Tryz.prog 99 #[.int .i64 x,.int .i64 y] w (Av (Jj x y) w):=by
 unfold Jj;by_cases h1:x<y
 ·rw [if_pos h1];go_enter Tryz.func99,Tryz.ntmps99;go_wp2;go_ret;exact⟨rfl,Aa.refl _⟩
 ·rw [if_neg h1];by_cases h2:y<x
  ·rw [if_pos h2];go_enter Tryz.func99,Tryz.ntmps99;go_wp2;go_ret;exact⟨rfl,Aa.refl _⟩
  ·rw [if_neg h2];go_enter Tryz.func99,Tryz.ntmps99;go_wp2;go_ret;exact⟨rfl,Aa.refl _⟩
theorem bH(c:List La)(A:Option Addr)(cc:Nat)(w:World)(hr:Ae w A (Cj c))(h1:c.length<=cc)(h2:cc<=9223372036854775807)(a b:Bs) :
  Calls Tryz.prog 45 #[.slice A c.length cc,S a,S b] w (Av (Cz c a b) w):=by
 have hB:=ArY w (.cells #[.slice A c.length cc] 32);have hE:=(Aa.refl w).alloc (.cells #[.slice A c.length cc] 32);have pl:=fun (W:World) (hx:Aa (w.alloc (.cells #[.slice A c.length cc] 32)) W) (u:Bs)=>Ams c A cc w.heap.size W (Ab (o:=0) ((hx.block _ (ArX hB)).trans hB) rfl) ((hr.ext hE).ext hx) h1 h2 u;have c3:=uZ a b;obtain⟨r,hr0⟩:=ArV (Cz c a b);rw [←hr0]
 have hr1:r=if Jj (BQ c b) (BQ c a)≠0 then Jj (BQ c b) (BQ c a)else Lib.compareBytes a b:=hr0
 have c2:=Ae1 (BQ c b) (BQ c a);have p1:=fun W hx=>pl W hx b;have p2:=fun W hx=>pl W hx a;generalize BQ c b=z1 at *;generalize BQ c a=z2 at *;generalize Jj z1 z2=z3 at *;generalize Lib.compareBytes a b=z4 at *
 have NN:∀(b o:Nat) (w:World),w.cell? ⟨b,o,none⟩=some (.int .i64 z3)→w.cell? ⟨b,o+1,none⟩=some (.int .i64 z4)→Calls Tryz.prog 98 #[.slice (some ⟨b,o,none⟩) 2 2] w (Av r w):=by intro b o w h1 h2;rw [hr1];exact Y2 z3 z4 b o w h1 h2
 clear pl hr hB hr0 hr1;go_enter Tryz.func45,Tryz.ntmps45;(go_wp2_with fail);(with_reducible refine(p1 _ (Aa.refl _)).mono ?_);rintro e w1 ⟨rfl,hx1⟩;(go_wp2_with fail);(with_reducible refine(p2 _ hx1).mono ?_);rintro e w2 ⟨rfl,hx2⟩;replace hx1:=hx1.trans hx2;(go_wp2_with fail);(with_reducible refine(c2 _).mono ?_);rintro e w3 ⟨rfl,hx3⟩;replace hx1:=hx1.trans hx3;(go_wp2_with fail);(with_reducible refine(c3 _).mono ?_);rintro e w4 ⟨rfl,Aj⟩;replace hx1:=hx1.trans Aj;have hL:=ArY w4 (.cells #[.int .i64 z3,.int .i64 z4] 69);have hN:=(Aa.refl w4).alloc (.cells #[.int .i64 z3,.int .i64 z4] 3);have o1:=NN w4.heap.size 0 (w4.alloc (.cells #[.int .i64 z3,.int .i64 z4] 3)) (Ab (ArY w4 _) rfl) (Ab (ArY w4 _) rfl);clear hL p1 p2 c2 c3 NN;(go_wp2_with fail);(with_reducible refine o1.mono ?_);rintro e w5 ⟨rfl,Ax⟩;go_wp2;go_ret;exact⟨rfl,hE.trans (hx1.trans (hN.trans Ax))⟩
section
open Go.ChangeMaps (setBlock)
def Ll(l:List (Int×Int)):List MapEntry:=l.mapIdx fun i e=>⟨.int .i64 e.1,.int .i64 e.2,i⟩
theorem Agd(l:List (Int×Int))(e:Int×Int):Ll (l ++ [e])=Ll l ++ [⟨.int .i64 e.1,.int .i64 e.2,l.length⟩]:=by simp [Ll,List.mapIdx_append]
def CU(k:Int)(l:List (Int×Int)):Option Int:=(l.find? (fun e=>k == e.1)).map (·.2)
theorem xB(k:Int):∀(l:List (Int×Int)) (i j:Nat),∃x,Instr.findNow (.int .i64) (.int .i64 k) (l.mapIdx fun i e=>⟨.int .i64 e.1,.int .i64 e.2,i+j⟩) i=some x/\x.map (·.2)=(CU k l).map (fun z=>Value.int .i64 z)
 | [],i,j=>⟨none,by simp [Instr.findNow],by simp [CU]⟩
 | e::l,i,j=>by
  rw [List.mapIdx_cons];by_cases h:k=e.1
  ·refine⟨some (i,.int .i64 e.2),?_,?_⟩
   ·simp [Instr.findNow,Instr.sameNow,h]
   ·simp [CU,h]
  ·obtain⟨x,h1,h2⟩:=xB k l (i+1) (j+1);have hh:(k == e.1)=false:=(by simpa using h);refine⟨x,?_,?_⟩
   ·simp only [Instr.findNow,Instr.sameNow,if_pos,hh]
    simpa only [Nat.add_assoc,Nat.add_comm 1 j]using h1
   ·rw [h2];simp [CU,hh]
theorem cY(k:Int)(l:List (Int×Int))(W:World):∃x,(Instr.findKey 3 (.int .i64 k) (Ll l)).run Tryz.prog W=.ok x W/\x.map (·.2)=(CU k l).map (fun z=>Value.int .i64 z):=by
 obtain⟨x,h1,h2⟩:=xB k l 0 0;exact⟨x,MapKept.run_findKey Tryz.underlying3 h1,h2⟩
theorem nH(k:Int)(l:List (Int×Int)){b clock:Nat}{W:World}(hb:W.heap[b]?=some (.map (Ll l).toArray clock)) :
  (Instr.lookup 212 (.map (some b)) (.int .i64 k) true).run Tryz.prog W=.ok (.tuple #[.int .i64 ((CU k l).getD 0),.bool (CU k l).isSome]) W:=by
 obtain⟨x,h1,h2⟩:=cY k l W;have hz:(zeroValue 3).run Tryz.prog W=.ok (.int .i64 0) W:=(by simp [go_sem]);have hc:∀b,(Instr.checkKey b 10000 3 (.int .i64 k)).run Tryz.prog W=.ok () W:=fun b=>MapKept.run_checkKey (k:=.int .i64 k) Tryz.underlying3 (by simp [MapKept.IsKey]) b 9999;have hm:=run_underlying (w:=W) Tryz.underlying212
 cases h:CU k l with
 | none=>
  rw [h]at h2;have hx:x=none:=(by simpa using h2);subst hx;simp [Instr.lookup,hm,MapKept.run_getObj_map hb,hc,h1,hz,Result.andThen]
 | some z=>rw [h]at h2;obtain⟨⟨i,v⟩,rfl,hv⟩:=Option.map_eq_some_iff.1 h2;simp only at hv;subst hv;simp [Instr.lookup,hm,MapKept.run_getObj_map hb,hc,h1,Result.andThen]
theorem An7(k z:Int)(l:List (Int×Int))(hno:CU k l=none){b:Nat}{W:World}(hb:W.heap[b]?=some (.map (Ll l).toArray l.length)) :
  (Instr.mapUpdate 212 (.map (some b)) (.int .i64 k) (.int .i64 z)).run Tryz.prog W=.ok () (setBlock W b (.map (Ll (l ++ [(k,z)])).toArray (l.length+1))):=by
 obtain⟨x,h1,h2⟩:=cY k l W;have hc:∀b,(Instr.checkKey b 10000 3 (.int .i64 k)).run Tryz.prog W=.ok () W:=fun b=>MapKept.run_checkKey (k:=.int .i64 k) Tryz.underlying3 (by simp [MapKept.IsKey]) b 9999;have hm:=run_underlying (w:=W) Tryz.underlying212;rw [hno]at h2;have hx:x=none:=(by simpa using h2);subst hx;rw [Agd];simp [Instr.mapUpdate,hm,MapKept.run_getObj_map hb,hc,h1,MapKept.run_setObj_map _ hb,Result.andThen,setBlock]
def Gi(W:World)(b:Nat)(l:List (Int×Int)):Prop:=W.heap[b]?=some (.map (Ll l).toArray l.length)
theorem Gi.put{W:World}{b:Nat}{l:List (Int×Int)}(h:Gi W b l)(k z:Int)(hno:CU k l=none) :
  ∃W',(Instr.mapUpdate 212 (.map (some b)) (.int .i64 k) (.int .i64 z)).run Tryz.prog W=.ok () W'/\Gi W' b (l ++ [(k,z)])/\W.grownBy W' (some b)/\W'.heap.size=W.heap.size:=by
 refine⟨_,An7 k z l hno h,?_,Ln h,by simp [setBlock]⟩;unfold Gi;rw [Mm h];simp
/-! ### Bools in a row -/
def Hr(l:List Bool):List Value:=l.map Value.bool
theorem tC(l:List Bool):(Hr l).length=l.length:=by simp [Hr]
theorem AmS{w:World}{A:Option Addr}{l:List Bool}(hr:Ae w A (Hr l)){j:Nat}(h:j<l.length):∃b o,A=some ⟨b,o,none⟩/\w.cell? ⟨b,o+j,none⟩=some (.bool l[j]):=by
 obtain⟨b,o,e,hc⟩:=hr.ad (by rw [tC];omega);refine⟨b,o,e,?_⟩;rw [hc j (by rw [tC];exact h)];simp [Hr]
def LV(l:List Bool)(x:Bool):Int:=match l.findIdx? (x == ·)with|some j=>(j:Int)|none=>-1
theorem Aj0{l:List Bool}{x:Bool}{j:Nat}(h:j<l.length)(hno:∀q∈l.take j,(x == q)=false)(he:(x == l[j])=true):LV l x=(j:Int):=by
 unfold LV
 have:l.findIdx? (x == ·)=some j:=by rw [List.findIdx?_eq_some_iff_getElem];exact⟨h,he,fun i hi=>by rw [hno l[i] (by rw [List.mem_take_iff_getElem];exact⟨i,by omega,rfl⟩)];simp⟩
 rw [this]
theorem qm{l:List Bool}{x:Bool}(hno:∀q∈l,(x == q)=false):LV l x = -1:=by
 unfold LV;rw [List.findIdx?_eq_none_iff.2 hno]
theorem Ajz(l:List Bool)(x:Bool):decide (0<=LV l x)=l.contains x:=by
 by_cases h:∃q∈l,(x == q)=true
 ·obtain⟨q,hq,he⟩:=h;have e:x=q:=(by simpa using he);subst e;have h2:l.contains x=true:=(by simpa using hq);rw [h2];unfold LV
  cases hf:l.findIdx? (x == ·)with
  | none=>
   rw [List.findIdx?_eq_none_iff]at hf;have:=hf x hq;simp at this
  | some j=>simp
 ·have hn:∀q∈l,(x == q)=false:=fun q hq=>by rw [Bool.eq_false_iff];exact fun he=>h ⟨q,hq,he⟩
  rw [qm hn];have:x∉l:=fun hx=>(by have:=hn x hx;simp at this);simp [this]
theorem AjB(l:List Bool)(x:Bool)(A:Option Addr)(c:Nat)(w:World)(hr:Ae w A (Hr l))(hc:l.length<=c)(hcm:c<=9223372036854775807) :
  Calls Tryz.prog 236 #[.slice A l.length c,.bool x] w (Av (LV l x) w):=by
 obtain⟨r,hr0⟩:=ArV (LV l x);rw [←hr0];have HR:=ArW hr0;clear hr0;go_enter Tryz.func236,Tryz.ntmps236
 go_upto_region 2 with fail
 go_loopw [8] (fun i wr=>∃j:Nat,i=.int .i64 (j:Nat)/\j<=l.length/\(∀q∈l.take j,(x == q)=false)/\Aa w wr) (fun i _=>l.length-(intOf i).toNat)
 case atStart=>exact⟨0,rfl,by omega,by simp,Aa.refl _⟩
 case round=>
  obtain⟨j,rfl,hj,Ah,Ad⟩:=hrel;have HO:=ArW Ah;clear Ah;by_cases hlt:j<l.length
  ·obtain⟨b,o,rfl,hg⟩:=AmS (hr.ext Ad) hlt;obtain⟨q,hq⟩:=ArV (l[j]);rw [←hq]at hg;have hj0:(0:Int)<=(j:Int):=(by omega);have A7:(j:Int)<(l.length:Int):=(by omega);have HQ:=ArW hq;clear hq
   cases x<;>cases q
   case false.true|true.false=>
    have HE:=ArW (show ∀y∈l.take (j+1),_ from by
     intro y hy;rw [Asd hlt,←HQ.out]at hy
     rcases List.mem_append.1 hy with h|h
     ·exact HO.out y h
     ·simp only [Asn]at h;rw [h];rfl)
    go_wp2;go_roundw
    case rel=>exact⟨j+1,by go_num,hlt,HE.out,Ad⟩
    case measure=>simp [intOf];omega
   case false.false|true.true=>have Ct:r=(j:Int):=(by rw [HR.out];exact Aj0 hlt HO.out (by rw [←HQ.out];rfl));subst Ct;go_wp2;go_ret;exact⟨rfl,Ad⟩
  ·have hle:(l.length:Int)<=(j:Int):=(by omega);have Ct:r = -1:=(by rw [HR.out];exact qm (by have:=HO.out;rw [Asi (by omega)]at this;exact this));subst Ct;go_wp2;go_ret;exact⟨rfl,Ad⟩
theorem Afl(l:List Bool)(x:Bool)(A:Option Addr)(c:Nat)(w:World)(hr:Ae w A (Hr l))(hc:l.length<=c)(hcm:c<=9223372036854775807) :
  Calls Tryz.prog 157 #[.slice A l.length c,.bool x] w (Bw (l.contains x) w):=by
 have ix:=AjB l x A c w hr hc hcm;have ha:=Ajz l x;obtain⟨r,hr0⟩:=ArV (l.contains x);rw [←hr0]at ha ⊢;obtain⟨n,hn⟩:=ArV (LV l x);rw [←hn]at ix ha;have HA:=ArW ha;clear hr0 hn ha;go_enter Tryz.func157,Tryz.ntmps157;(go_wp2_with fail);(with_reducible refine ix.mono ?_);rintro e w2 ⟨rfl,hx2⟩;go_wp2;go_ret;exact⟨by rw [←HA.out];rfl,hx2⟩
end
theorem Agg(l:List Bs)(A B:Option Addr)(c d:Nat)(w:World)(hA:Ae w A (l.map S))(hB:Ae w B (l.map S))(hl:l.length<=100000) :
  Calls Tryz.prog 30 #[.slice A l.length c,.slice B l.length d] w (Bw true w):=by
 have HAA:=ArW hA;have Zo:=ArW hB;obtain⟨n,hn⟩:=ArV l.length;rw [←hn]at hl ⊢;have HN:=ArW hn;clear hA hB hn;go_enter Tryz.func30,Tryz.ntmps30
 go_upto_region 4 with fail
 go_loopw [13] (fun i wr=>∃j:Nat,i=.int .i64 (j:Nat)/\j<=n/\Aa w wr) (fun i _=>n-(intOf i).toNat)
 case atStart=>exact⟨0,rfl,Nat.zero_le _,Aa.refl _⟩
 case round=>
  obtain⟨j,rfl,hj,Ad⟩:=hrel;by_cases hlt:j<n
  ·have A7:j<(l.map S).length:=(by rw [List.length_map,←HN.out];exact hlt);obtain⟨b,o,rfl,hc1⟩:=(HAA.out.ext Ad).ad (by omega);obtain⟨b',o',rfl,hc2⟩:=(Zo.out.ext Ad).ad (by omega);have g1:=hc1 j A7;have g2:=hc2 j A7;rw [List.getElem_map]at g1 g2;generalize l[j]'(by rw [List.length_map]at A7;exact A7)=s at *;have hj0:(0:Int)<=(j:Int):=(by omega);have Fy:(j:Int)<(n:Int):=(by omega);have v1:IntKind.wrap .i64 ((j:Int)+1)=(j:Int)+1:=Asg _ (by omega);clear hc1 hc2 A7
   go_upto_region 6 with fail
   go_quiet (fail)
   go_wp2;go_roundw
   case rel=>exact⟨j+1,by go_num,hlt,Ad.drewN _⟩
   case measure=>simp [intOf];omega
  ·have hle:(n:Int)<=(j:Int):=(by omega);go_wp2;go_ret;exact⟨rfl,Ad⟩
theorem AjZ(l:List La)(i:Nat):Cj (l.take i)=(Cj l).take (i*3):=by
 induction l generalizing i with
 | nil=>simp [Cj]
 | cons e l ih=>
  cases i with
  | zero=>simp [Cj]
  | succ i=>have e0:∀l,Cj (e::l)=S e.u::S e.mn::S e.mx::Cj l:=fun _=>rfl;rw [List.take_succ_cons,e0,e0,ih];have e1:(i+1)*3=i*3+1+1+1:=(by omega);rw [e1];simp
theorem AdS(x:La)(u:Bs)(b:Nat)(w:World)(hb:w.cell? ⟨b,0,none⟩=some (S u)) :
  Calls Tryz.prog 141 #[LZ x,.pointer (some ⟨b,0,none⟩)] w (Bw (x.u == u) w):=by
 have hx:=(Aa.refl w).alloc (.cells #[S x.u,S x.mn,S x.mx] 31);have j1:=hx.cellS hb;unfold LZ;clear hb;go_enter Tryz.func141,Tryz.ntmps141;go_wp2;go_ret;exact⟨rfl,hx⟩
theorem AfR:∀args w,(callFunc 141 args).run Tryz.prog w=.ok (.enter 141 args) w:=enters_of Tryz.func141 (by kernel_rfl) rfl
theorem AeV(c:List La)(u:Bs)(A:Option Addr)(cc:Nat)(w:World)(hr:Ae w A (Cj c))(h1:c.length<=cc)(h2:cc<=9223372036854775807) :
  Calls Tryz.prog 74 #[.slice A c.length cc,S u] w (Av (BQ c u) w):=by
 have hb:=ArY w (.cells #[S u] 9);have hE:=(Aa.refl w).alloc (.cells #[S u] 9)
 have ix:=qq (cb:=#[.pointer (some ⟨w.heap.size,0,none⟩)]) AfR (fun e=>e.u == u) c A cc (w.alloc (.cells #[S u] 9)) (hr.ext hE) h1 h2
  (fun e _ W hx=>AdS e u _ W (Ab (o:=0) ((hx.block _ (ArX hb)).trans hb) rfl))
 unfold BQ;clear hr hb;go_enter Tryz.func74,Tryz.ntmps74;(go_wp2_with fail);(with_reducible refine ix.mono ?_);rintro e w1 ⟨rfl,hx⟩;go_wp2;go_ret;exact⟨rfl,hE.trans hx⟩
open Classical in
noncomputable def Ma(x:La):Int:=if ¬Cc x.mn then 2 else if x.mx≠[]/\¬Cc x.mx then 2 else 0
open Classical in
theorem Aka(x:La)(h1:x.mn.length<=8)(h2:x.mx.length<=8)(w:World)(hw:Al w):Calls Tryz.prog 73 #[LZ x] w (Av (Ma x) w):=by
 have hb:=ArY w (.cells #[S x.u,S x.mn,S x.mx] 31);have hE:=(Aa.refl w).alloc (.cells #[S x.u,S x.mn,S x.mx] 31);have c1:=nA x.mn (by omega) (w.alloc (.cells #[S x.u,S x.mn,S x.mx] 31)) (hw.ext hE);have c2:=nA x.mx (by omega);unfold LZ;obtain⟨r,hr0⟩:=ArV (Ma x);rw [←hr0];have HR:=ArW hr0;clear hr0;go_enter Tryz.func73,Tryz.ntmps73
 go_upto_region 1 with fail
 generalize w.alloc (.cells #[S x.u,S x.mn,S x.mx] 31)=V at *;obtain⟨b,Bq⟩:=ArV w.heap.size;rw [←Bq]at hb ⊢;clear Bq;have k1:=Ab (o:=1) hb rfl;by_cases o1:Cc x.mn
 ·rw [decide_eq_true o1,Jh]at c1;(go_wp2_with fail);(with_reducible refine c1.mono ?_);rintro e w1 ⟨rfl,hx1⟩;have X1:=hE.trans hx1;have hb1:=(hx1.block _ (ArX hb)).trans hb;have k2:=Ab (o:=2) hb1 rfl;have O1:=ArW (show ¬¬Cc x.mn from fun h=>h o1);clear k1 hb hx1 o1;by_cases e0:x.mx = []
  ·have HH:=ArW (show r=0 by rw [HR.out];unfold Ma;rw [if_neg O1.out,if_neg (by rintro⟨h,_⟩;exact h e0)]);have t1:(x.mx == [])=true:=(by rw [e0];rfl);rw [e0]at k2;clear e0 t1;go_wp2;go_ret;exact⟨BA HH.out,X1⟩
  ·have t1:(x.mx == [])=false:=beq_false_of_ne e0
   have t2:x.mx.isEmpty=false:=by cases hm:x.mx with|nil=>exact absurd hm e0|cons a b=>rfl
   have c3:=c2 w1 (hw.ext X1);have E0:=ArW e0;by_cases o2:Cc x.mx
   ·rw [decide_eq_true o2,Jh]at c3;have HH:=ArW (show r=0 by rw [HR.out];unfold Ma;rw [if_neg O1.out,if_neg (by rintro⟨_,h⟩;exact h o2)]);clear o2;(go_wp2_with fail);(with_reducible refine c3.mono ?_);rintro e w2 ⟨rfl,hx2⟩;go_wp2;go_ret;exact⟨BA HH.out,X1.trans hx2⟩
   ·rw [decide_eq_false o2,Ov]at c3;have HH:=ArW (show r=2 by rw [HR.out];unfold Ma;rw [if_neg O1.out,if_pos ⟨e0,o2⟩]);clear o2;(go_wp2_with fail);(with_reducible refine c3.mono ?_);rintro e w2 ⟨rfl,hx2⟩;go_wp2;go_ret;exact⟨BA HH.out,X1.trans hx2⟩
 ·rw [decide_eq_false o1,Ov]at c1;have HH:=ArW (show r=2 by rw [HR.out];unfold Ma;rw [if_pos o1]);clear o1;(go_wp2_with fail);(with_reducible refine c1.mono ?_);rintro e w1 ⟨rfl,hx1⟩;go_wp2;go_ret;exact⟨BA HH.out,hE.trans hx1⟩
theorem Abo{l:Bs}(h:Cc l)(hl:l.length<=8):Sz 8 (rv l):=by
 obtain⟨q,rfl,-,-⟩:=h;rw [YH];have h1:=Zj q.num;rw [Lb]at hl;unfold Fu at hl;by_cases hd:q.den=1
 ·rw [if_pos hd]at hl;exact⟨K1 (by omega),by rw [hd];decide⟩
 ·rw [if_neg hd,List.length_append,List.length_cons]at hl;exact⟨K1 (by omega),K1 (by omega)⟩
def td(x:La):Prop:=x.u.length<1000000/\x.mn.length<=8/\x.mx.length<=8
theorem bF(l:List La)(A:Option Addr)(c:Nat)(w:World)(hw:Al w)(hr:Ae w A (Cj l))(hc:l.length<=c)(hcm:c<=9223372036854775807)(hl:∀e∈l,td e) :
  Calls Tryz.prog 32 #[.slice A l.length c] w (Av (MN l) w):=by
 have HL:=ArW hl;have G7:=ArW hr;obtain⟨r,hr0⟩:=ArV (MN l);rw [←hr0];have HR:=ArW hr0;obtain⟨n,hn⟩:=ArV l.length;rw [←hn]at hc ⊢;have HN:=ArW hn;clear hl hr hr0 hn;by_cases h0:n=0
 ·have HH:=ArW (show r=13 by rw [HR.out];unfold MN;rw [if_pos (by rw [←HN.out];exact h0)]);subst h0;go_enter Tryz.func32,Tryz.ntmps32;go_wp2;go_ret;exact⟨BA HH.out,Aa.refl _⟩
 have t0:((n:Int) == 0)=false:=beq_false_of_ne (by omega);by_cases dD:60<n
 ·have HH:=ArW (show r=4 by rw [HR.out];unfold MN;rw [if_neg (by rw [←HN.out];exact h0),if_pos (by rw [←HN.out];exact dD)]);have t2:(60:Int)<(n:Int):=(by omega);go_enter Tryz.func32,Tryz.ntmps32;go_wp2;go_ret;exact⟨BA HH.out,Aa.refl _⟩
 have HC:=ArW (show r=Lg [] l by rw [HR.out];unfold MN;rw [if_neg (by rw [←HN.out];exact h0),if_neg (by rw [←HN.out];exact dD)]);have t2:¬(60:Int)<(n:Int):=(by omega);clear h0 HR;go_enter Tryz.func32,Tryz.ntmps32
 go_upto_region 6 with fail
 go_loopw [16] (fun kv wr=>∃(k:Nat),kv=.int .i64 (k:Nat)/\k<=n/\r=Lg (l.take k) (l.drop k)/\Aa w wr) (fun kv _=>n-(intOf kv).toNat)
 case atStart=>exact⟨0,rfl,by omega,by rw [List.take_zero,List.drop_zero];exact HC.out,Aa.refl _⟩
 case round=>
  obtain⟨k,rfl,hk,hck,Ad⟩:=hrel;have JO:=ArW hck;clear hck;by_cases hkn:k<n
  ·have C0:k<l.length:=(by rw [←HN.out];exact hkn);obtain⟨b,o,rfl,hg1,hg2,hg3⟩:=nC (G7.out.ext Ad) C0;have hst:=AeW C0 rfl;rw [←JO.out]at hst;obtain⟨m1,m2,m3⟩:=HL.out l[k] (Asa C0);obtain⟨x,hx⟩:=ArV (l[k]);rw [←hx]at hg1 hg2 hg3 hst m1 m2 m3;have HST:=ArW hst;have FZ:(l.take k).length=k:=(by rw [List.length_take];omega);have hk0:(0:Int)<=(k:Int):=(by omega);have BX:(k:Int)<(n:Int):=(by omega);have hk2:(k:Int)<=(c:Int):=(by omega);have v1:IntKind.wrap .i64 ((k:Int)+1)=(k:Int)+1:=Asg _ (by omega);have hxb:=ArY wr (.cells #[S x.u,S x.mn,S x.mx] 31);have hx1:=(Aa.refl wr).alloc (.cells #[S x.u,S x.mn,S x.mx] 31);have hE:=Ad.trans hx1;have la:=fun W (hw:Al W)=>Aka x m2 m3 W hw;unfold LZ at la;have at_:=fun W (hx:Aa w W)=>AeV (l.take k) x.u (some ⟨b,o,none⟩) c W (by rw [AjZ];exact(G7.out.ext hx).take _) (by omega) hcm;rw [FZ]at at_;have nm:=kV x.u m1;clear hx hst FZ Ad
   go_upto_region 8 with fail
   generalize wr.alloc (.cells #[S x.u,S x.mn,S x.mx] 31)=V at *;obtain⟨bx,Ap⟩:=ArV wr.heap.size;rw [←Ap]at hxb ⊢;clear Ap hg1 hg2 hg3 hx1;have k1:=Ab (o:=0) hxb rfl;have k2:=Ab (o:=1) hxb rfl;have k3:=Ab (o:=2) hxb rfl;have lC:=la V (hw.ext hE);obtain⟨z,hz⟩:=ArV (Ma x);rw [←hz]at lC;have HZ:=ArW hz;clear la hz;(go_wp2_with fail);(with_reducible refine lC.mono ?_);rintro e w1 ⟨rfl,hx1⟩;have hb1:=(hx1.block _ (ArX hxb)).trans hxb;have X1:=hE.trans hx1;clear lC k1 k2 k3 hxb hx1;by_cases hz0:z=0
   ·subst hz0
    obtain⟨o1,o2⟩:Cc x.mn/\(x.mx = []∨Cc x.mx):=by
     have h3:=HZ.out;unfold Ma at h3
     split at h3
     ·cases h3
     ·rename_i h4
      refine⟨Classical.not_not.1 h4,?_⟩
      split at h3
      ·cases h3
      ·rename_i h5
       by_cases h6:x.mx = []
       ·exact .inl h6
       ·exact .inr (Classical.not_not.1 fun h=>h5 ⟨h6,h⟩)
    obtain⟨e1,-,-⟩:=Aa3 o1;have s1:=Abo o1 m2;obtain⟨p,hp⟩:=ArV (rv x.mn);rw [←hp]at e1 s1;have sg:∀W,Calls Tryz.prog 75 #[S x.mn] W (Av (AI p) W):=by intro W;rw [e1];exact Pv p W
    have hcs:colS (l.take k) x=if nameB x.u=false then 8 else if 0<=BQ (l.take k) x.u then 9 else if p<0 then 3 else if x.mx≠[]/\rv x.mx<p then 6 else 0:=by unfold colS;rw [if_neg (fun h=>h o1),if_neg (by rintro⟨h,h'⟩;rcases o2 with e|e;exact h e;exact h' e),←hp]
    have G6:=ArW hcs;have Vj:=ArW o2;have Zs:=ArW e1;clear hcs o1 o2 e1 hp;have k4:=Ab (o:=0) hb1 rfl;have K3:=nm w1;clear nm
    cases a1:nameB x.u
    ·have HH:=ArW (show r=8 by
      have h2:colS (l.take k) x=8:=by rw [G6.out,if_pos a1]
      rw [HST.out,if_neg (by rw [h2];omega),h2])
     rw [a1]at K3;clear a1;(go_wp2_with fail);(with_reducible refine K3.mono ?_);rintro e w2 ⟨rfl,hx2⟩;go_wp2;go_ret;exact⟨BA HH.out,X1.trans hx2⟩
    have A1:=ArW (show ¬(nameB x.u=false)by rw [a1];simp);rw [a1]at K3;clear a1;(go_wp2_with fail);(with_reducible refine K3.mono ?_);rintro e w2 ⟨rfl,hx2⟩;have hb2:=(hx2.block _ (ArX hb1)).trans hb1;have X2:=X1.trans hx2;have Is:=ArW X2;clear K3 k4 hb1 hx2;have f1:∀q:Ac w2,q.w.cell? ⟨bx,0,none⟩=some (S x.u):=Ac.cell (Ab hb2 rfl);have Ou:=fun q:Ac w2=>at_ q.w (Is.out.trans q.h);obtain⟨y,hy⟩:=ArV (BQ (l.take k) x.u);rw [←hy]at Ou;have HY:=ArW hy;clear hy at_ X2
    go_upto_region 13 with fail
    refine Bp (by kernel_rfl) (by kernel_rfl) ?_
    repeat (go_big_quiet_step (with_reducible refine Di (Ou _)))
    refine wpQuiet_nil ?_;rintro _ ⟨q,rfl⟩;have X3:=Is.out.trans q.h;have hb3:=(q.h.block _ (ArX hb2)).trans hb2;have Cq:=ArW X3;clear f1 Ou;by_cases a2:0<=y
    ·have HH:=ArW (show r=9 by
      have h2:colS (l.take k) x=9:=by rw [G6.out,if_neg A1.out,if_pos (by rw [←HY.out];exact a2)]
      rw [HST.out,if_neg (by rw [h2];omega),h2])
     go_wp2;go_ret;exact⟨BA HH.out,Cq.out⟩
    have a2':=Int.not_le.1 a2;have A2:=ArW (show BQ (l.take k) x.u<0 by rw [←HY.out];exact a2');have k4:=Ab (o:=1) hb3 rfl;have YL:=sg q.w;have hw3:=hw.ext X3;generalize q.w=w3 at *;clear sg a2;have UP:AI p<0↔p<0:=(by unfold AI;grind);obtain⟨s,hs⟩:=ArV (AI p);rw [←hs]at YL UP;clear hs;by_cases a3:s<0
    ·have HH:=ArW (show r=3 by
      have h2:colS (l.take k) x=3:=by rw [G6.out,if_neg A1.out,if_neg (Int.not_le.2 A2.out),if_pos (UP.1 a3)]
      rw [HST.out,if_neg (by rw [h2];omega),h2])
     clear UP;(go_wp2_with fail);(with_reducible refine YL.mono ?_);rintro e w4 ⟨rfl,Aj⟩;go_wp2;go_ret;exact⟨BA HH.out,Cq.out.trans Aj⟩
    have A3:=ArW (show ¬(p<0)from fun h=>a3 (UP.2 h));clear UP;(go_wp2_with fail);(with_reducible refine YL.mono ?_);rintro e w4 ⟨rfl,Aj⟩;have hb4:=(Aj.block _ (ArX hb3)).trans hb3;have X4:=Cq.out.trans Aj;have hw4:=hw.ext X4;have Sq:=ArW X4;clear hb3 Aj k4 YL X4 Cq;have k5:=Ab (o:=2) hb4 rfl;have k6:=Ab (o:=1) hb4 rfl;by_cases e0:x.mx = []
    ·have HH:=ArW (show r=Lg (l.take (k+1)) (l.drop (k+1))by
      have h2:colS (l.take k) x=0:=by rw [G6.out,if_neg A1.out,if_neg (Int.not_le.2 A2.out),if_neg A3.out,if_neg (by rintro⟨h,_⟩;exact h e0)]
      rw [HST.out,if_pos h2])
     rw [e0]at k5;clear e0;go_wp2;go_roundw
     case rel=>exact⟨k+1,by go_num,hkn,HH.out,Sq.out⟩
     case measure=>simp [intOf];omega
    ·have t1:(x.mx == [])=false:=beq_false_of_ne e0
     have t3:x.mx.isEmpty=false:=by cases hm:x.mx with|nil=>exact absurd hm e0|cons a b=>rfl
     have o3:Cc x.mx:=Vj.out.resolve_left e0;have s2:=Abo o3 m3;obtain⟨e2,-,-⟩:=Aa3 o3;obtain⟨p2,J2⟩:=ArV (rv x.mx);rw [←J2]at e2 s2
     have cp:Calls Tryz.prog 76 #[S x.mx,S x.mn] w4 (Av (AH p2 p) w4):=by rw [e2,Zs.out];exact FB p2 p ⟨s2,s1,by omega,by omega,by omega⟩ w4 hw4
     have SL:AH p2 p<0↔p2<p:=(by unfold AH;grind);have qJ:=ArW J2;have E0:=ArW e0;obtain⟨s,hs⟩:=ArV (AH p2 p);rw [←hs]at cp SL;clear hs o3 e2 J2;by_cases a4:s<0
     ·have HH:=ArW (show r=6 by
       have h2:colS (l.take k) x=6:=by rw [G6.out,if_neg A1.out,if_neg (Int.not_le.2 A2.out),if_neg A3.out,if_pos ⟨E0.out,by rw [←qJ.out];exact SL.1 a4⟩]
       rw [HST.out,if_neg (by rw [h2];omega),h2])
      clear SL;(go_wp2_with fail);(with_reducible refine cp.mono ?_);rintro e w5 ⟨rfl,Ax⟩;go_wp2;go_ret;exact⟨BA HH.out,Sq.out.trans Ax⟩
     ·have HH:=ArW (show r=Lg (l.take (k+1)) (l.drop (k+1))by
       have h2:colS (l.take k) x=0:=by rw [G6.out,if_neg A1.out,if_neg (Int.not_le.2 A2.out),if_neg A3.out,if_neg (by rintro⟨_,h⟩;rw [←qJ.out]at h;exact a4 (SL.2 h))]
       rw [HST.out,if_pos h2])
      clear SL;(go_wp2_with fail);(with_reducible refine cp.mono ?_);rintro e w5 ⟨rfl,Ax⟩;go_wp2;go_roundw
      case rel=>exact⟨k+1,by go_num,hkn,HH.out,Sq.out.trans Ax⟩
      case measure=>simp [intOf];omega
   ·have HH:=ArW (show r=z by
     have h2:colS (l.take k) x=z:=by
      have h3:=HZ.out;unfold Ma at h3;unfold colS
      split at h3
      ·rename_i h4;rw [if_pos h4];exact h3.symm
      ·rename_i h4
       rw [if_neg h4]
       split at h3
       ·rename_i h5;rw [if_pos h5];exact h3.symm
       ·exact absurd h3 hz0
     rw [HST.out,if_neg (by rw [h2];exact hz0),h2])
    have t1:(z != 0)=true:=(by rw [bne_iff_ne];exact hz0);clear hz0;go_wp2;go_ret;exact⟨BA HH.out,X1⟩
  ·have Bf:k=n:=(by omega);subst Bf;have HH:=ArW (show r=0 by rw [JO.out,HN.out,List.drop_length];rfl);go_wp2;go_ret;exact⟨BA HH.out,Ad⟩
end Go.Proofs.YtbejphgbbpplbaaGreatDoor
