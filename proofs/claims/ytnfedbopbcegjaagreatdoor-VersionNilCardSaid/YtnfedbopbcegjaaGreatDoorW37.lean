/- W37. -/
import Derived.Test.YtnfedbopbcegjaaGreatDoorW36
import Derived.Test.YtnfedbopbcegjaaGreatDoorW34
set_option maxRecDepth 100000
set_option maxHeartbeats 16000000
namespace Go.Proofs.YtnfedbopbcegjaaGreatDoor
open Go.RowKit Kl
theorem Af6{l:List Hf}{j:Nat}{x:Hf}(hj:j<l.length)(hx:x=l[j]):Iu (l.take (j+1))=KL (Iu (l.take j)) x.a:=by
 rw [AjQ hj,Af5,hx]
theorem nz{ps:List Pt}{t:Nat}{y p:Pt}(ht:ps.length=t+1)(hy:Ah y p=true)(CN:ps[t]?=some y):KL ps p=ps:=by
 have e:ps.getLast?=some y:=(by rw [List.getLast?_eq_getElem?,ht];exact CN);unfold KL;rw [e];exact if_pos hy
theorem ny{ps:List Pt}{p:Pt}(h:ps.length=0∨∃t,ps.length=t+1/\∃y,Ah y p=false/\ps[t]?=some y):KL ps p=ps ++ [p]:=by
 unfold KL
 rcases h with h|⟨t,ht,y,hy,CN⟩
 ·rw [List.length_eq_zero_iff.1 h];rfl
 ·have e:ps.getLast?=some y:=(by rw [List.getLast?_eq_getElem?,ht];exact CN);rw [e];exact if_neg (by rw [hy];exact Bool.false_ne_true)
def J4(units:List Bs)(P:List Pt)(L:List Hf)(st:List Int×List Bs×List Au)(x:Hf):List Int×List Bs×List Au:=
 if 0<AS x.a x.b then st
 else ((D7 units (D7 units st.1 st.2.1 x.l).2.1 (D7 units st.1 st.2.1 x.l).2.2 (BO L x)).2.1,(D7 units (D7 units st.1 st.2.1 x.l).2.1 (D7 units st.1 st.2.1 x.l).2.2 (BO L x)).2.2,
  st.2.2 ++ [⟨Dl P x.a,Dl P x.b,(D7 units st.1 st.2.1 x.l).1,(D7 units (D7 units st.1 st.2.1 x.l).2.1 (D7 units st.1 st.2.1 x.l).2.2 (BO L x)).1⟩])
theorem zh{units:List Bs}{P:List Pt}{L l:List Hf}{j:Nat}{x:Hf}{s0 st:List Int×List Bs×List Au}(hj:j<l.length)(hx:x=l[j])(h0:0<AS x.a x.b)(hst:st=(l.take j).foldl (J4 units P L) s0):st=(l.take (j+1)).foldl (J4 units P L) s0:=by
 rw [AjQ hj,List.foldl_append,←hst,←hx];exact(if_pos h0).symm
theorem zg{units:List Bs}{P:List Pt}{L l:List Hf}{j:Nat}{x:Hf}{s0:List Int×List Bs×List Au}{n1 n2 n3:List Int}{f1 f2 f3:List Bs}{eds:List Au}{zl zr r1 r2 r3:Int}(hj:j<l.length)(hx:x=l[j])(h0:¬0<AS x.a x.b)(hst:(n1,f1,eds)=(l.take j).foldl (J4 units P L) s0)
  (h1:(zl,n2,f2)=D7 units n1 f1 x.l) (h2:(zr,n3,f3)=D7 units n2 f2 r3) (hr:Dl P x.a=r1/\Dl P x.b=r2/\BO L x=r3):(n3,f3,eds ++ [⟨r1,r2,zl,zr⟩])=(l.take (j+1)).foldl (J4 units P L) s0:=by
 rw [AjQ hj,List.foldl_append,←hst,←hx];obtain⟨rfl,rfl,rfl⟩:=hr;show _=J4 units P L (n1,f1,eds) x;unfold J4;rw [if_neg h0];simp only [←h1,←h2]
def VH(Q:List Hf→Prop)(units:List Bs)(m:MapZ)(faces:List Bs):Prop:=
 ∃l0 l3 nums,Q l0/\l3.Perm l0/\l3.Pairwise GW/\m.pts=Iu l3/\(nums,faces,m.eds)=l3.foldl (J4 units (Iu l3) l3) (zn (List.replicate units.length 0),[],[])
def mj(Q:List Hf→Prop)(w0:World)(n:Nat)(units:List Bs)(e:Ending)(w':World):Prop:=
 ∃A B F c d g m faces,e=.returned (AE A B F m c d g)/\MapAt w' n units A B F c d g m faces/\Aa w0 w'/\LY w0.heap.size A B F/\VH Q units m faces
theorem AeX(Q:List Hf→Prop)(lK:∀l x y,x∈l→y∈l→Q l→VG l x y→Q (Jd l x y)){w0 w:World}(hw:Ak w0)(hx:Aa w0 w){n:Nat}(hn:n<=1000)(l:List Hf)(hl:Dn n l)(Ct:Q l)(hlen:l.length<=2000)(v:Value)(hv:w.ownsRow w0.heap.size 145 5 v l.length (AO l))
  (units:List Bs) (A8:units.length=n) (U:Option Addr) (cu:Nat) (hU:w.ownsRow 0 9 1 (.slice U n cu) n (units.map S)) (hc1:n<=cu) (hc2:cu<=9223372036854775807) :
  Calls Tryz.prog 76 #[v,.slice U n cu] w (mj Q w0 n units):=by
 obtain⟨vA,vc,rfl,-,-,-⟩:=Ad.of_own' (by omega) hv;have hb1:=(Below.heap_alloc (w.alloc (.cells #[.slice U n cu] 33)) (.cells #[.slice none 0 0,.slice none 0 0,.slice none 0 0] 44) w.heap.size (by simp)).trans (AjM w (.cells #[.slice U n cu] 33));have hb2:=AjM (w.alloc (.cells #[.slice U n cu] 33)) (.cells #[.slice none 0 0,.slice none 0 0,.slice none 0 0] 44);rw [AjU]at hb2;have hE:=((Aa.refl w).alloc (.cells #[.slice U n cu] 33)).alloc (.cells #[.slice none 0 0,.slice none 0 0,.slice none 0 0] 44);have Zb:=Am hv hE;have dE:=AjK (And.intro hl hlen);have j7:=AjK Ct;have j9:=AjK lK;clear hl hlen hv Ct lK;go_enter Tryz.func76,Tryz.ntmps76
 go_upto_region 2 with fail
 generalize (w.alloc (.cells #[.slice U n cu] 33)).alloc (.cells #[.slice none 0 0,.slice none 0 0,.slice none 0 0] 44)=W1 at *;obtain⟨bU,mP⟩:=AjJ w.heap.size;rw [←mP]at hb1 hb2 ⊢;have Aji:w.heap.size<=bU:=(by omega);clear mP;have hx1:=hx.trans hE
 go_loopw [0,5] (fun vv a wr=>∃(l:List Hf) (b:Bool),a=.bool b/\Q l/\Dn n l/\l.length<=2000/\wr.ownsRow w0.heap.size 145 5 vv l.length (AO l)/\Aa W1 wr) (fun vv a _=>match a with | .bool true=>lenV vv+1|_=>0)
 case atStart=>exact⟨l,true,rfl,j7.out,dE.out.1,dE.out.2,Zb,Aa.refl _⟩
 case round=>
  obtain⟨l,b,rfl,Ke,hl,hlen,hv,Ae⟩:=hrel;have HL:=AjK hl;have dR:=AjK Ke;clear hl Ke;obtain⟨vA,vc,rfl,-,-,-⟩:=Ad.of_own' (by omega) hv
  cases b
  ·have AX:=AjM wr (.cells #[.slice none 0 0,.slice none 0 0,.slice none 0 0] 44);have E2:=(Aa.refl wr).alloc (.cells #[.slice none 0 0,.slice none 0 0,.slice none 0 0] 44);have hv2:=Am hv E2;have Bu:=Ae.trans E2
   go_upto_region 13 with fail
   generalize wr.alloc (.cells #[.slice none 0 0,.slice none 0 0,.slice none 0 0] 44)=W2 at *;obtain⟨bM,mK⟩:=AjJ wr.heap.size;rw [←mK]at AX ⊢;have Aip:W1.heap.size<=bM:=(by have:=Ae.size;omega);clear mK hv E2 Ae;have I3:=AjK hlen
   go_loopw [9] (fun iv w3=>∃(j:Nat) (l3:List Hf),iv=.int .i64 (j:Nat)/\j<=l.length/\P1 GW l j l3/\Dn n l3/\l3.length=l.length/\w3.ownsRow w0.heap.size 145 5 (.slice vA l.length vc) l.length (AO l3)/\Al (fun q=>(Value.slice vA l.length vc).ownBlock=some q) W2 w3) (fun iv _=>l.length-(intOf iv).toNat)
   case atStart=>exact⟨0,l,rfl,by omega,⟨List.Perm.refl _,by simp⟩,HL.out,rfl,hv2,Al.refl _ _⟩
   case round=>
    obtain⟨j,l3,rfl,hj,rU,hl3,pZ,hv3,Cq⟩:=hrel;have Pg:=AjK rU;clear rU;have H3:=AjK (And.intro hl3 pZ);clear hl3 pZ;by_cases Ay:j<l.length
    ·have hj0:(0:Int)<=(j:Int):=(by omega);have FI:(j:Int)<(l.length:Int):=by omega
     go_upto_region 16 with fail
     go_loopw [10] (fun kv w4=>∃(k:Nat) (l4:List Hf),kv=.int .i64 (k:Nat)/\k<=j/\KG GW l j k l4/\Dn n l4/\l4.length=l.length/\w4.ownsRow w0.heap.size 145 5 (.slice vA l.length vc) l.length (AO l4)/\Al (fun q=>(Value.slice vA l.length vc).ownBlock=some q) W2 w4) (fun kv _=>(intOf kv).toNat)
     case atStart=>exact⟨j,l3,rfl,by omega,Pg.out.start (by rw [H3.out.2];exact Ay),H3.out.1,H3.out.2,hv3,Cq⟩
     case round=>
      obtain⟨k,l4,rfl,hk,rS,hl4,qA,hv4,Dv⟩:=hrel;have VA:=AjK rS;clear rS;have H4:=AjK (And.intro hl4 qA);clear hl4 qA;by_cases hk0:k=0
      ·subst hk0
       go_upto_region 16 with fail
       refine Bh (by kernel_rfl) (by kernel_rfl) ?_
       repeat (go_big_quiet_step (fail))
       refine wpQuiet_nil ?_;rintro W5 ⟨q,hq⟩;have An:Aa wr W5:=hq▸q.h;clear hq q;have DW:=Am hv4 An;have Td:=Dv.ext An;go_wp2;go_roundw
       case rel=>exact⟨j+1,l4,by go_num,Ay,VA.out.stop uA (fun q e=>by omega),H4.out.1,H4.out.2,DW,Td⟩
       case measure=>simp [intOf];omega
      ·obtain⟨q,hq⟩:∃q,k=q+1:=⟨k-1,by omega⟩;have hkw:IntKind.wrap .i64 ((k:Int)-1)=(q:Int):=(by rw [AjT _ (by omega)];omega);obtain⟨g,rfl⟩:=ZV hv4 (by omega);have hk4:k<l4.length:=(by rw [H4.out.2];omega);have Oo:q<l4.length:=(by omega);obtain⟨x0,x1,x2,x3,x4⟩:=NT l4 k hk4;obtain⟨y0,y1,y2,y3,y4⟩:=NT l4 q Oo;have GV:=H4.out.1 _ (AjO hk4);have IZ:=H4.out.1 _ (AjO Oo);obtain⟨x,hx⟩:=AjJ (l4[k]);obtain⟨y,hy⟩:=AjJ (l4[q]);rw [←hx]at x0 x1 x2 x3 x4 GV;rw [←hy]at y0 y1 y2 y3 y4 IZ;have c0:=(hv4.cellAt (k*5) (by omega)).trans x0;have c1:=(hv4.cellAt (k*5+1) (by omega)).trans x1;have c2:=(hv4.cellAt (k*5+2) (by omega)).trans x2;have c3:=(hv4.cellAt (k*5+3) (by omega)).trans x3;have c4:=(hv4.cellAt (k*5+4) (by omega)).trans x4;have d0:=(hv4.cellAt (q*5) (by omega)).trans y0;have d1:=(hv4.cellAt (q*5+1) (by omega)).trans y1;have d2:=(hv4.cellAt (q*5+2) (by omega)).trans y2;have d3:=(hv4.cellAt (q*5+3) (by omega)).trans y3;have d4:=(hv4.cellAt (q*5+4) (by omega)).trans y4;have El:(0:Int)<(k:Int):=(by omega);have hkn:0<k:=(by omega);have Yt:decide (0<k)=true:=decide_eq_true hkn;have hk2:(k:Int)<(l.length:Int):=(by omega);have D2:(0:Int)<=(q:Int):=(by omega);have Cc:(q:Int)<(l.length:Int):=(by omega);have BB:Aa w0 wr:=Dv.toExt (hx1.trans Bu) (fun q e=>(hv4.lt q e).1);have ls:=fun (z:Ac wr)=>AdN x y GV.1.sz GV.2.1.sz IZ.1.sz IZ.2.1.sz z.w ((hw.ext BB).ext z.h);obtain⟨lb,Lx⟩:=AjJ (Ij x y);have dF:=AjK Lx;rw [←Lx]at ls;unfold Fl at ls;have HQ:=AjK (And.intro hq (And.intro hx hy));clear hq hx hy x0 x1 x2 x3 x4 y0 y1 y2 y3 y4 Lx;have e0:∀z:Ac wr,z.w.cell? ⟨g,k*5,none⟩=some (S (R x.a.x)):=Ac.cell c0;have e1:∀z:Ac wr,z.w.cell? ⟨g,k*5+1,none⟩=some (S (R x.a.y)):=Ac.cell c1;have e2:∀z:Ac wr,z.w.cell? ⟨g,k*5+2,none⟩=some (S (R x.b.x)):=Ac.cell c2;have e3:∀z:Ac wr,z.w.cell? ⟨g,k*5+3,none⟩=some (S (R x.b.y)):=Ac.cell c3;have e4:∀z:Ac wr,z.w.cell? ⟨g,k*5+4,none⟩=some (.int .i64 x.l):=Ac.cell c4;have f0:∀z:Ac wr,z.w.cell? ⟨g,q*5,none⟩=some (S (R y.a.x)):=Ac.cell d0;have f1:∀z:Ac wr,z.w.cell? ⟨g,q*5+1,none⟩=some (S (R y.a.y)):=Ac.cell d1;have f2:∀z:Ac wr,z.w.cell? ⟨g,q*5+2,none⟩=some (S (R y.b.x)):=Ac.cell d2;have f3:∀z:Ac wr,z.w.cell? ⟨g,q*5+3,none⟩=some (S (R y.b.y)):=Ac.cell d3;have f4:∀z:Ac wr,z.w.cell? ⟨g,q*5+4,none⟩=some (.int .i64 y.l):=Ac.cell d4
       go_upto_region 16 with fail
       refine Bh (by kernel_rfl) (by kernel_rfl) ?_
       repeat (go_big_quiet_step (with_reducible refine SH (ls _)))
       refine wpQuiet_nil ?_;rintro W5 ⟨z,hz⟩;have An:Aa wr W5:=hz▸z.h;clear hz z;have DW:=Am hv4 An;have Td:=Dv.ext An
       cases lb
       ·have hst:P1 GW l (j+1) l4:=by refine VA.out.stop uA ?_;intro q' e h1;obtain⟨f1,f2,f3⟩:=HQ.out;obtain rfl:q'=q:=(by omega);subst f1;have e0:=dF.out;rw [f2,f3]at e0;exact e0.symm
        have HST:=AjK hst;clear hst;clear c0 c1 c2 c3 c4 d0 d1 d2 d3 d4 e0 e1 e2 e3 e4 f0 f1 f2 f3 f4 ls;go_wp2;go_roundw
        case rel=>exact⟨j+1,l4,by go_num,Ay,HST.out,H4.out.1,H4.out.2,DW,Td⟩
        case measure=>simp [intOf];omega
       ·replace c0:=An.cellS c0;replace c1:=An.cellS c1;replace c2:=An.cellS c2;replace c3:=An.cellS c3;replace c4:=An.cellS c4;replace d0:=An.cellS d0;replace d1:=An.cellS d1;replace d2:=An.cellS d2;replace d3:=An.cellS d3;replace d4:=An.cellS d4;clear e0 e1 e2 e3 e4 f0 f1 f2 f3 f4 ls hv4 Dv BB An;have p0:=DW.frozenAt (k*5);have p1:=DW.frozenAt (k*5+1);have p2:=DW.frozenAt (k*5+2);have p3:=DW.frozenAt (k*5+3);have p4:=DW.frozenAt (k*5+4);have r0:=DW.frozenAt (q*5);have r1:=DW.frozenAt (q*5+1);have r2:=DW.frozenAt (q*5+2);have r3:=DW.frozenAt (q*5+3);have r4:=DW.frozenAt (q*5+4);have hkq:¬(k=q):=(by have:=HQ.out.1;omega);have hqk:¬(q=k):=by have:=HQ.out.1;omega
        go_upto_region 18 with fail
        go_region
        have o1:=vU (vU DW k y) q x;have b1:=gA (gA Td (g:=g) rfl k y) (g:=g) rfl q x;unfold S at o1 b1;generalize ((((((((((W5.setCell ⟨g,k*5,none⟩ (.string ⟨(R y.a.x).toArray⟩)).setCell ⟨g,k*5+1,none⟩ (.string ⟨(R y.a.y).toArray⟩)).setCell ⟨g,k*5+2,none⟩ (.string ⟨(R y.b.x).toArray⟩)).setCell ⟨g,k*5+3,none⟩ (.string ⟨(R y.b.y).toArray⟩)).setCell ⟨g,k*5+4,none⟩ (.int .i64 y.l)).setCell ⟨g,q*5,none⟩ (.string ⟨(R x.a.x).toArray⟩)).setCell ⟨g,q*5+1,none⟩ (.string ⟨(R x.a.y).toArray⟩)).setCell ⟨g,q*5+2,none⟩ (.string ⟨(R x.b.x).toArray⟩)).setCell ⟨g,q*5+3,none⟩ (.string ⟨(R x.b.y).toArray⟩)).setCell ⟨g,q*5+4,none⟩ (.int .i64 x.l))=W6 at *;have o2:=Am o1 (Aa.refl W6).drew;have b2:=b1.ext (Aa.refl W6).drew;have hmx:x∈l4:=(by rw [HQ.out.2.1];exact AjO _);have qE:y∈l4:=by rw [HQ.out.2.2];exact AjO _
        have hin:Dn n ((l4.set k y).set q x):=by
         intro z hz
         rcases List.mem_or_eq_of_mem_set hz with e|e
         ·exact(H4.out.1.set k qE) z e
         ·rw [e];exact H4.out.1 x hmx
        have Pe:=AjK hin
        have hsw:KG GW l j q ((l4.set k y).set q x):=by have e0:=dF.out;have e1:=HQ.out;obtain⟨e1,e2,e3⟩:=e1;subst e1;rw [e2,e3]at e0 ⊢;exact VA.out.swap (by rw [H4.out.2];omega) (AdG e0.symm)
        have VC:=AjK hsw;clear hsw;have rE:q<=j/\q<k:=(by have:=HQ.out.1;omega);have dQ:=AjK rE;clear hin hmx qE o1 b1 c0 c1 c2 c3 c4 d0 d1 d2 d3 d4 p0 p1 p2 p3 p4 r0 r1 r2 r3 r4 rE;go_wp2;go_roundw
        case rel=>exact⟨q,(l4.set k y).set q x,by go_num,dQ.out.1,VC.out,Pe.out,by rw [List.length_set,List.length_set];exact H4.out.2,o2,b2⟩
        case measure=>have:=dQ.out.2;simp [intOf];omega
    ·have Ek:j=l.length:=(by omega);subst Ek;have NF:=Cq.cells AX (Ap hv2 AX (by decide));have Bd:Aa w0 wr:=Cq.toExt (hx1.trans Bu) (fun q e=>(hv3.lt q e).1);have Acj:(l.length:Int)<=(l.length:Int):=(by omega);have mQ:=Cq.cells ((Bu.block _ (AjL hb1)).trans hb1) (Ap hv2 ((Bu.block _ (AjL hb1)).trans hb1) (by decide));have Ab7:=Cq.cells ((Bu.block _ (AjL hb2)).trans hb2) (Ap hv2 ((Bu.block _ (AjL hb2)).trans hb2) (by decide));have mO:bU+1≠bM:=by have:=AjL hb2;omega
     have JJ:wr.ownsRow 0 9 1 (.slice U n cu) n (units.map S):=by
      refine Bf (Am hU (hE.trans Bu)) Cq (fun q D2 Cc=>?_)
      rcases hv2.2 with⟨h',_⟩|⟨g,cap,cur,h',_,hgb,_⟩
      ·rw [h']at Cc;cases Cc
      ·rw [h']at Cc;simp only [Value.ownBlock,AjR]at Cc;subst Cc;exact Ap (Am hU (hE.trans Bu)) hgb (by decide) D2
     obtain⟨W3,rfl⟩:=MU Bd;have hPT:KD W3 W3 bM (.slice none 0 0) []:=⟨NF,⟨rfl,.inl ⟨rfl,rfl⟩⟩,Al.refl _ _,fun p hp=>by cases hp⟩;have CJ:=AjL NF
     go_upto_region 20 with fail
     go_loopw [79] (fun iv wp=>∃(j:Nat) (P:Value) (pts:List Pt),iv=.int .i64 (j:Nat)/\j<=l.length/\pts.length<=j/\pts=Iu (l3.take j)/\KD W3 wp bM P pts) (fun iv _=>l.length-(intOf iv).toNat)
     case atStart=>exact⟨0,_,[],rfl,by omega,by simp,rfl,hPT⟩
     case round=>
      obtain⟨j,P,pts,rfl,hj,hpl,qZ,hP⟩:=hrel;have dO:=AjK qZ;clear qZ;obtain⟨oP,cP,rfl,YS,-,-⟩:=Ad.of_own' (by omega) hP.own;have DX:=Bf hv3 hP.but (fun q hq e=>by subst e;exact Ap hv3 NF (by decide) hq);by_cases Ay:j<l.length
      ·obtain⟨g,rfl⟩:=ZV DX (by omega);have Lt:j<l3.length:=(by rw [H3.out.2];exact Ay);obtain⟨x0,x1,x2,x3,x4⟩:=NT l3 j Lt;have GV:=H3.out.1 _ (AjO Lt);obtain⟨x,hx⟩:=AjJ (l3[j]);rw [←hx]at x0 x1 x2 x3 x4 GV;have c0:=(DX.cellAt (j*5) (by omega)).trans x0;have c1:=(DX.cellAt (j*5+1) (by omega)).trans x1;have c2:=(DX.cellAt (j*5+2) (by omega)).trans x2;have c3:=(DX.cellAt (j*5+3) (by omega)).trans x3;have c4:=(DX.cellAt (j*5+4) (by omega)).trans x4;have hj0:(0:Int)<=(j:Int):=(by omega);have FI:(j:Int)<(l.length:Int):=(by omega);have Nr:=AjK ((Af6 Lt hx).trans (congrArg (KL · x.a) dO.out.symm));clear hx x0 x1 x2 x3 x4;have As:=AjM wr (.cells #[S (R x.a.x),S (R x.a.y),S (R x.b.x),S (R x.b.y),.int .i64 x.l] 145);have E4:=(Aa.refl wr).alloc (.cells #[S (R x.a.x),S (R x.a.y),S (R x.b.x),S (R x.b.y),.int .i64 x.l] 145);have JG:=hP.ext E4;have YR:=YS.ext E4
       go_upto_region 22 with fail
       unfold S at As JG YR;generalize (wr.alloc (.cells #[.string ⟨(R x.a.x).toArray⟩,.string ⟨(R x.a.y).toArray⟩,.string ⟨(R x.b.x).toArray⟩,.string ⟨(R x.b.y).toArray⟩,.int .i64 x.l] 145))=W4 at *;obtain⟨bx,Qg⟩:=AjJ wr.heap.size;rw [←Qg]at As ⊢;clear Qg c0 c1 c2 c3 c4 E4 DX YS hP;have q0:∀z:Ac W4,z.w.cell? ⟨bM,0,none⟩=some (.slice oP pts.length cP):=Ac.cell (Ab JG.cM rfl);have q1:∀z:Ac W4,z.w.cell? ⟨bx,0,none⟩=some (S (R x.a.x)):=Ac.cell (Ab As rfl);have q2:∀z:Ac W4,z.w.cell? ⟨bx,1,none⟩=some (S (R x.a.y)):=Ac.cell (Ab As rfl);have pn:=Rr
       have AbE:(∃t,pts.length=t+1/\∃y,Ah y x.a=true/\pts[t]?=some y)∨pts.length=0∨(∃t,pts.length=t+1/\∃y,Ah y x.a=false/\pts[t]?=some y):=by
        rcases Nat.eq_zero_or_pos pts.length with h0|h0
        ·exact .inr (.inl h0)
        ·have hlt:pts.length-1<pts.length:=by omega
         cases hb:Ah pts[pts.length-1] x.a
         ·exact .inr (.inr ⟨pts.length-1,by omega,_,hb,AjS hlt⟩)
         ·exact .inl ⟨pts.length-1,by omega,_,hb,AjS hlt⟩
       rcases AbE with⟨t,ht,y,hy,CN⟩|Y5
       ·have V6:=AjK (Nr.out.trans (nz ht hy CN)).symm;obtain⟨MO,QG⟩:=List.getElem?_eq_some_iff.1 CN;obtain⟨bp,op,rfl,y0,y1⟩:=CX YR MO;rw [QG]at y0 y1;have q3:∀z:Ac W4,z.w.cell? ⟨bp,op+t*2,none⟩=some (S (R y.x)):=Ac.cell y0;have q4:∀z:Ac W4,z.w.cell? ⟨bp,op+t*2+1,none⟩=some (S (R y.y)):=Ac.cell y1;obtain⟨pl,Kc⟩:=AjJ pts.length;rw [←Kc]at q0;have hw1:IntKind.wrap .i64 ((pl:Int)-1)=(t:Int):=(by rw [AjT _ (by omega)];omega);have L6:((pl:Int) == 0)=false:=beq_false_of_ne (by omega);have ht0:(0:Int)<=(t:Int):=(by omega);have ht1:(t:Int)<(pl:Int):=(by omega);have HP:=AjK (And.intro Kc hpl);clear ht Kc CN QG MO y0 y1;refine Bh (by kernel_rfl) (by kernel_rfl) ?_
        repeat (go_big_quiet_step (fail))
        refine wpQuiet_nil ?_;rintro W5 ⟨z,hz⟩;have An:Aa W4 W5:=hz▸z.h;clear hz z;have EP:=JG.ext An;clear q0 q1 q2 q3 q4;go_wp2;go_roundw
        case rel=>exact⟨j+1,_,pts,by go_num,Ay,by omega,V6.out,EP⟩
        case measure=>simp [intOf];omega
       ·have V6:=AjK (Nr.out.trans (ny Y5)).symm
        go_cut [99] (fun v wx=>v=.bool true/\Aa W4 wx)
        case first=>
         rcases Y5 with h0|⟨t,ht,y,hy,CN⟩
         ·rw [h0]at q0;refine Bh (by kernel_rfl) (by kernel_rfl) ?_
          repeat (go_big_quiet_step (fail))
          refine wpQuiet_nil ?_;rintro W5 ⟨z,hz⟩;have An:Aa W4 W5:=hz▸z.h;clear hz z q0 q1 q2;go_wp2;go_meet;exact⟨rfl,An⟩
         ·obtain⟨MO,QG⟩:=List.getElem?_eq_some_iff.1 CN;obtain⟨bp,op,rfl,y0,y1⟩:=CX YR MO;rw [QG]at y0 y1;have q3:∀z:Ac W4,z.w.cell? ⟨bp,op+t*2,none⟩=some (S (R y.x)):=Ac.cell y0;have q4:∀z:Ac W4,z.w.cell? ⟨bp,op+t*2+1,none⟩=some (S (R y.y)):=Ac.cell y1;obtain⟨pl,Kc⟩:=AjJ pts.length;rw [←Kc]at q0;have hw1:IntKind.wrap .i64 ((pl:Int)-1)=(t:Int):=(by rw [AjT _ (by omega)];omega);have L6:((pl:Int) == 0)=false:=beq_false_of_ne (by omega);have ht0:(0:Int)<=(t:Int):=(by omega);have ht1:(t:Int)<(pl:Int):=(by omega);clear ht Kc CN QG MO y0 y1;refine Bh (by kernel_rfl) (by kernel_rfl) ?_
          repeat (go_big_quiet_step (fail))
          refine wpQuiet_nil ?_;rintro W5 ⟨z,hz⟩;have An:Aa W4 W5:=hz▸z.h;clear hz z q0 q1 q2 q3 q4;go_wp2;go_meet;exact⟨rfl,An⟩
        case rest=>
         obtain⟨rfl,An⟩:=hcut;obtain⟨W5,rfl⟩:=MU An;have EP:=JG.ext An;have nM:=(An.block _ (AjL As)).trans As;have z0:=Ab (o:=0) nM rfl;have z1:=Ab (o:=1) nM rfl;have z2:W5.cell? ⟨bM,0,none⟩=some (.slice oP pts.length cP):=Ab EP.cM rfl;have hbase:W3.heap.size<=W5.heap.size:=EP.but.size;have Yx:=I3.out;clear q0 q1 q2 Y5 As
         go_wp2_with (at_builtin;go_loud (refine qh rfl _ _ rfl _ W3.heap.size (.slice oP pts.length cP) pts.length pts rfl (Am EP.own ((Aa.refl W5).alloc _)) (by omega) x.a W5.heap.size (AjM W5 _) rfl (by simp;omega) ?_);intro v7 w7 C4 BM;obtain⟨h7,lF⟩:=EP.app CJ GV.1 ((Aa.refl W5).alloc _) BM C4;obtain⟨oP7,cP7,rfl,-,-,-⟩:=Ad.of_own' (by omega) C4;have k0:w7.cell? ⟨bM,0,none⟩=some (.slice oP pts.length cP):=Ab h7 rfl;have k1:=Ao (o:=0) h7)
         have js:=AjK lF;clear lF BM C4 h7 EP JG z0 z1 z2;go_wp2;go_roundw
         case rel=>exact⟨j+1,_,pts ++ [x.a],by go_num,Ay,by rw [List.length_append,List.length_singleton];omega,V6.out,js.out⟩
         case measure=>simp [intOf];omega
      ·have Ek:j=l.length:=(by omega);subst Ek;have hmk:=Z6 n (by omega) (n:Int) rfl wr;have Om:∀(fn:Fn) (first cap:Array Value) (w:World),(Instr.makeFunc fn first cap).run Tryz.prog w=.ok (.func fn first cap) w:=fun _ _ _ _=>rfl;have Lh:=hP.but.cells mQ (C0 mQ NF (by decide));have TD:=hP.but.cells Ab7 mO;have u0:wr.cell? ⟨bU,0,none⟩=some (.slice U n cu):=Ab Lh rfl;have Xo:=Bf JJ hP.but (fun q hq e=>by subst e;exact Ap JJ NF (by decide) hq);have Ea:=(Aa.refl wr).alloc (.cells (madeCells #[.int .i64 0] n) 3);have Eb:=(Aa.refl (wr.alloc (.cells (madeCells #[.int .i64 0] n) 3))).alloc (.cells #[.slice (some ⟨wr.heap.size,0,none⟩) n n] 51);have Bo:=AjM (wr.alloc (.cells (madeCells #[.int .i64 0] n) 3)) (.cells #[.slice (some ⟨wr.heap.size,0,none⟩) n n] 51);rw [AjU]at Bo;have Y9:=Am (ZU wr 0 n (Nat.zero_le _) (by omega)) Eb;have Cr:=Ea.trans Eb;have rX:((wr.alloc (.cells (madeCells #[.int .i64 0] n) 3)).alloc (.cells #[.slice (some ⟨wr.heap.size,0,none⟩) n n] 51)).heap.size=wr.heap.size+2:=by simp
       go_upto_region 27 with fail
       have EP:=hP.ext Cr;have PX:=Am Xo Cr;have NM:=(Cr.block _ (AjL Lh)).trans Lh;have DW:=Am (Bf hv3 hP.but (fun q hq e=>by subst e;exact Ap hv3 NF (by decide) hq)) Cr;have rZ:∀k,(Value.slice U n cu).ownBlock=some k→k<wr.heap.size:=fun k hk=>(Xo.lt k hk).2;have mN:=(Cr.block _ (AjL TD)).trans TD;have AbB:w0.heap.size<=wr.heap.size:=AjX Bd.size hP.but.size;clear hmk Ea Eb Cr hP Xo Lh u0;generalize (wr.alloc (.cells (madeCells #[.int .i64 0] n) 3)).alloc (.cells #[.slice (some ⟨wr.heap.size,0,none⟩) n n] 51)=W5 at *;obtain⟨AH,BP⟩:=AjJ wr.heap.size;rw [←BP]at Bo Y9 rX AbB ⊢;have Aiz:AH<W5.heap.size:=by omega
       have My:Ef W5 W5 n (AH+1) AH bM bU U cu units (.slice oP pts.length cP) (.slice none 0 0) (.slice none 0 0) (zn (List.replicate n 0)) [] []:=by
        refine⟨⟨Bo,Y9,EP.cM,⟨rfl,.inl ⟨rfl,rfl⟩⟩,NM,PX,fun k hk=>?_,by simp [zn],A8,hc1,hc2,?_,?_,?_⟩,⟨rfl,.inl ⟨rfl,rfl⟩⟩,Al.refl _ _⟩
        ·have:=rZ k hk;omega
        ·intro z hz;simp [zn]at hz;obtain⟨-,rfl⟩:=hz;simp
        ·exact AjX (Nat.add_le_add_left List.countP_le_length _) (by simp [zn])
        ·intro s hs;cases hs
       have Aio:bM<W5.heap.size:=AjL EP.cM;have lI:=EP.sheet;have NL:=FV EP.own Bd.size;have Bw:Aa w0 W5:=EP.but.toExt Bd (fun q e=>by subst e;have:=hx1.size;omega);have Tx:=FV DW (Nat.zero_le _);have Yx:=I3.out;have dP:=AjK (And.intro lI (And.intro hpl (show pts=Iu l3 by rw [dO.out,AjV (by rw [H3.out.2];exact AjN _)])));clear Bo Y9 EP PX NM DW rZ rX BP lI hpl YS DX
       go_upto_region 28 with fail
       go_loopw [114] (fun iv we=>∃(j:Nat) (E F:Value) (nums:List Int) (faces:List Bs) (eds:List Au),iv=.int .i64 (j:Nat)/\j<=l.length/\eds.length<=j/\(nums,faces,eds)=(l3.take j).foldl (J4 units pts l3) (zn (List.replicate n 0),[],[])/\Ef W5 we n (AH+1) AH bM bU U cu units (.slice oP pts.length cP) E F nums faces eds) (fun iv _=>l.length-(intOf iv).toNat)
       case atStart=>exact⟨0,_,_,_,[],[],rfl,by omega,by simp,rfl,My⟩
       case round=>
        obtain⟨j,E,F,nums,faces,eds,rfl,hj,hel,oW,hS⟩:=hrel;have Pb:=AjK oW;clear oW;by_cases Ay:j<l.length
        ·obtain⟨g,rfl⟩:=ZV Tx (by omega);have Lt:j<l3.length:=(by rw [H3.out.2];exact Ay);obtain⟨x0,x1,x2,x3,x4⟩:=NT l3 j Lt;have GV:=H3.out.1 _ (AjO Lt);obtain⟨x,hx⟩:=AjJ (l3[j]);rw [←hx]at x0 x1 x2 x3 x4 GV;obtain⟨cn,Bo⟩:=Ip hS.nam.num
         have DX:=Bf Tx hS.but (by
          rintro q hq (e|e)
          ·subst e;obtain⟨iF,NU⟩:=Ip My.nam.num;exact Ap Tx NU (by decide) hq
          ·subst e;exact Ap Tx My.nam.cM (by decide) hq)
         have JH:=Bf NL hS.but (by
          rintro q hq (e|e)
          ·subst e;obtain⟨iF,NU⟩:=Ip My.nam.num;exact Ap NL NU (by decide) hq
          ·subst e;exact Ap NL My.nam.cM (by decide) hq)
         have lU:∀{w':World},Al (fun q=>q=AH∨q=bM) W5 w'→Aa w0 w':=fun h=>h.toExt Bw (by
          have h0:=hx1.size
          rintro q (e|e)<;>omega)
         have BV:Aa w0 wr:=lU hS.but;have c0:=(DX.cellAt (j*5) (by omega)).trans x0;have c1:=(DX.cellAt (j*5+1) (by omega)).trans x1;have c2:=(DX.cellAt (j*5+2) (by omega)).trans x2;have c3:=(DX.cellAt (j*5+3) (by omega)).trans x3;have c4:=(DX.cellAt (j*5+4) (by omega)).trans x4;have hj0:(0:Int)<=(j:Int):=(by omega);have FI:(j:Int)<(l.length:Int):=(by omega);have HX:=AjK hx;clear hx x0 x1 x2 x3 x4;have As:=AjM wr (.cells #[S (R x.a.x),S (R x.a.y),S (R x.b.x),S (R x.b.y),.int .i64 x.l] 145);have E6:=(Aa.refl wr).alloc (.cells #[S (R x.a.x),S (R x.a.y),S (R x.b.x),S (R x.b.y),.int .i64 x.l] 145);have Xi:=hS.extn E6;have Xe:=Am JH E6;have Zc:=Am DX E6;have Bp:=BV.trans E6
         go_upto_region 30 with fail
         unfold S at As Xi Xe Zc Bp;generalize (wr.alloc (.cells #[.string ⟨(R x.a.x).toArray⟩,.string ⟨(R x.a.y).toArray⟩,.string ⟨(R x.b.x).toArray⟩,.string ⟨(R x.b.y).toArray⟩,.int .i64 x.l] 145))=W6 at *;obtain⟨bh,Dj⟩:=AjJ wr.heap.size;rw [←Dj]at As ⊢;clear Dj c0 c1 c2 c3 c4 E6 DX JH hS BV Bo;have lc:=Zw x.a x.b GV.1.sz GV.2.1.sz W6 (hw.ext Bp);obtain⟨lz,Q3⟩:=AjJ (AS x.a x.b);rw [←Q3]at lc;have RJ:=AjK Q3;unfold Ag at lc;have z0:=Ab (o:=0) As rfl;have z1:=Ab (o:=1) As rfl;have z2:=Ab (o:=2) As rfl;have z3:=Ab (o:=3) As rfl;(go_wp2_with fail);(with_reducible refine lc.mono ?_);rintro e W7 ⟨rfl,AQ⟩;have JI:=Xi.extn AQ;by_cases AiN:0<lz
         ·clear z0 z1 z2 z3 lc;go_wp2;go_roundw
          case rel=>exact⟨j+1,E,F,nums,faces,eds,by go_num,Ay,by omega,zh Lt HX.out (by rw [←RJ.out];omega) Pb.out,JI⟩
          case measure=>simp [intOf];omega
         ·have lG:=Am Xe AQ;have sO:=Am Zc AQ;have BU:=Bp.trans AQ;have DO:=(AQ.block _ (AjL As)).trans As;have nc:=uX JI.nam (by omega) JI.but.size x.l GV.2.2.2.1 GV.2.2.2.2;have y4:=Ab (o:=4) DO rfl;clear z0 z1 z2 z3 lc Xi Xe Zc Bp As AQ;(go_wp2_with fail);(with_reducible refine nc.mono ?_);rintro e W8 ⟨zl,F8,nums8,faces8,rfl,hn8,FG,hnf8⟩;have jm:=AjK hnf8;clear hnf8;have Ts:=JI.name hn8 FG;have Mz:Aa w0 W8:=lU Ts.but;obtain⟨cn7,NV⟩:=Ip JI.nam.num
          have Ic:∀{B:Nat} {e:TypeId} {s m:Nat} {v:Value} {xs:List Value},W7.ownsRow B e s v m xs→e≠3→e≠44→e≠9→W8.ownsRow B e s v m xs:=by
           intro B e s m v xs hv h1 h2 h3;refine Bf hv FG ?_;rintro k hk (q|q|q)
           ·subst q;exact Ap hv NV h1 hk
           ·subst q;exact Ap hv JI.nam.cM h2 hk
           ·rcases hv.2 with⟨h',_⟩|⟨g,cap,cur,h',_,hgb,_⟩
            ·rw [h']at hk;cases hk
            ·rw [h']at hk;simp only [Value.ownBlock,AjR]at hk;subst hk;exact Ap JI.nam.fac hgb (fun e0=>h3 e0.symm) q
          have TJ:=FG.cells DO (by
           rintro(q|q|q)
           ·subst q;exact C0 DO NV (by decide) rfl
           ·subst q;exact C0 DO JI.nam.cM (by decide) rfl
           ·exact Ap JI.nam.fac DO (by decide) q)
          have lH:=Ic lG (by decide) (by decide) (by decide);have sP:=Ic sO (by decide) (by decide) (by decide);clear Ic FG hn8 nc y4 lG sO DO;obtain⟨oE,cE,rfl,-,-,-⟩:=Ad.of_own' (by omega) Ts.own;obtain⟨oF,cF,rfl,-,-,-⟩:=Ad.of_own' (by omega) Ts.nam.fac;obtain⟨oP',cP',oH,rF,Mw,NK⟩:=Ad.of_own' (by omega) lH;simp only [Value.slice.injEq,true_and]at oH;obtain⟨rfl,rfl⟩:=oH;obtain⟨oV,cV,oJ,hrV,hV1,hV2⟩:=Ad.of_own' (by omega) sP;simp only [Value.slice.injEq,true_and]at oJ;obtain⟨rfl,rfl⟩:=oJ;have i1:=fun (w':World) (h:Aa W8 w')=>uI pts x.a oP cP (.slice oE eds.length cE) (.slice oF faces8.length cF) w' (rF.ext h) Mw NK;have i2:=fun (w':World) (h:Aa W8 w')=>uI pts x.b oP cP (.slice oE eds.length cE) (.slice oF faces8.length cF) w' (rF.ext h) Mw NK;have bk:=fun (w':World) (h:Aa W8 w')=>Su l3 x (some ⟨g,0,none⟩) vc w' (hrV.ext h) (by rw [H3.out.2];exact hV1) hV2;rw [H3.out.2]at bk;have hbr:=H3.out.1.back x;generalize hr1:Dl pts x.a=r1 at *;generalize hr2:Dl pts x.b=r2 at *;generalize hr3:BO l3 x=r3 at *;have HR:=AjK (And.intro hr1 (And.intro hr2 hr3));clear hr1 hr2 hr3;have AbT:eds.length<200000:=(by omega);have Y6:n<=100000:=(by omega);clear NV lH sP
          go_upto_region 32 with fail
          refine Agc (c:=⟨W5,W8,_,_,n,AH+1,AH,bM,bU,bh,cu,U,units,.slice oP pts.length cP,.slice oE eds.length cE,.slice oF faces8.length cF,nums8,faces8,eds,x,r1,r2,r3,zl,.slice (some ⟨g,0,none⟩) l.length vc⟩) ⟨Ts,TJ,Y6,AbT,i1,i2,bk,hbr.1,hbr.2,rfl,rfl,rfl,rfl,rfl,by simp,rfl,by kernel_rfl,by kernel_rfl⟩ ?_;intro a w9 zr E9 F9 Ae4 Mo hfr Le qJ;have RH:=AjK (zg Lt HX.out (by rw [←RJ.out];omega) Pb.out jm.out qJ HR.out);clear qJ;have hSf:Ef W5 w9 n (AH+1) AH bM bU U cu units (.slice oP pts.length cP) E9 F9 Ae4 Mo (eds ++ [⟨r1,r2,zl,zr⟩]):=Le;obtain⟨vs,rfl⟩:=hfr.lit32 (by simp);simp only [List.take_succ_cons,List.take_zero,List.drop_succ_cons,List.drop_zero,List.cons_append,List.nil_append];go_wp2;go_roundw
          case rel=>exact⟨j+1,_,_,_,_,eds ++ [⟨r1,r2,zl,zr⟩],by go_num,Ay,by rw [List.length_append,List.length_singleton];omega,RH.out,hSf⟩
          case measure=>simp [intOf];omega
        ·have Ek:j=l.length:=(by omega);subst Ek;have AiL:(l.length:Int)<=(l.length:Int):=(by omega);obtain⟨cn,Bo⟩:=Ip hS.nam.num;obtain⟨iF,NU⟩:=Ip My.nam.num;obtain⟨oE,cE,rfl,-,-,-⟩:=Ad.of_own' (by omega) hS.own;obtain⟨oF,cF,rfl,-,-,-⟩:=Ad.of_own' (by omega) hS.nam.fac
         have JH:=Bf NL hS.but (by
          rintro q hq (e|e)
          ·subst e;exact Ap NL NU (by decide) hq
          ·subst e;exact Ap NL My.nam.cM (by decide) hq)
         have Dy:=hS.but.cells mN (by
          rintro(e|e)
          ·exact C0 mN NU (by decide) e
          ·exact mO e)
         have BV:Aa w0 wr:=hS.but.toExt Bw (by
          have h0:=hx1.size
          rintro q (e|e)<;>omega)
         have m0:wr.cell? ⟨bM,0,none⟩=some (.slice oP pts.length cP):=Ab hS.nam.cM rfl;have m1:wr.cell? ⟨bM,1,none⟩=some (.slice oE eds.length cE):=Ab hS.nam.cM rfl;have m2:wr.cell? ⟨bM,2,none⟩=some (.slice oF faces.length cF):=Ab hS.nam.cM rfl;have r0:wr.cell? ⟨bU+1,0,none⟩=some (.slice none 0 0):=Ab Dy rfl;have r1:wr.cell? ⟨bU+1,1,none⟩=some (.slice none 0 0):=Ab Dy rfl;have r2:wr.cell? ⟨bU+1,2,none⟩=some (.slice none 0 0):=Ab Dy rfl;have r3:=Ao (o:=0) Dy;have r4:=Ao (o:=1) Dy;have r5:=Ao (o:=2) Dy;have AZ:=GB (.slice oP pts.length cP) (.slice oE eds.length cE) (.slice oF faces.length cF) Dy;have bb:=(((Al.refl (fun q=>q=bU+1) wr).setCell (p:=⟨bU+1,0,none⟩) (.inl rfl) (.slice oP pts.length cP)).setCell (p:=⟨bU+1,1,none⟩) (.inl rfl) (.slice oE eds.length cE)).setCell (p:=⟨bU+1,2,none⟩) (.inl rfl) (.slice oF faces.length cF);have f1:=Bf JH bb (fun q hq e=>by subst e;exact Ap JH Dy (by decide) hq);have f2:=Bf hS.own bb (fun q hq e=>by subst e;exact Ap hS.own Dy (by decide) hq);have f3:=Bf hS.nam.fac bb (fun q hq e=>by subst e;exact Ap hS.nam.fac Dy (by decide) hq);have GM:=bb.toExt BV (fun q e=>by subst e;have:=hx.size;omega);obtain⟨A1,c1,e1,g1,g2,g3⟩:=Ad.of_own' (by omega) f1;obtain⟨A2,c2,e2,g4,g5,g6⟩:=Ad.of_own' (by omega) f2;obtain⟨A3,c3,e3,g7,g8,g9⟩:=Ad.of_own' (by omega) f3;simp only [Value.slice.injEq,true_and]at e1 e2 e3;obtain⟨rfl,rfl⟩:=e1;obtain⟨rfl,rfl⟩:=e2;obtain⟨rfl,rfl⟩:=e3;have hfn:faces.length<=n:=by have:=hS.nam.cnt;omega
         have AU:MapAt (((wr.setCell ⟨bU+1,0,none⟩ (.slice oP pts.length cP)).setCell ⟨bU+1,1,none⟩ (.slice oE eds.length cE)).setCell ⟨bU+1,2,none⟩ (.slice oF faces.length cF)) n units oP oE oF cP cE cF ⟨pts,eds,faces.length⟩ faces:=
          ⟨⟨g2,g3,g5,g6,g8,g9⟩,g1,g4,g7,rfl,hfn,dP.out.1,hS.nam.txt⟩
         have t1:=Ab (o:=0) AZ rfl;have t2:=Ab (o:=1) AZ rfl;have t3:=Ab (o:=2) AZ rfl;have hfr:LY w0.heap.size oP oE oF:=⟨by first|exact O3 f1|exact O3 (FV f1 Bw.size),by first|exact O3 f2|exact O3 (FV f2 Bw.size),by first|exact O3 f3|exact O3 (FV f3 Bw.size)⟩;have Ja:l3.take l.length=l3:=AjV (by rw [H3.out.2];exact AjN _)
         have qW:VH Q units ⟨pts,eds,faces.length⟩ faces:=by
          have h1:=Pb.out;have h2:=Pg.out;have h3:=dP.out.2.2;rw [Ja]at h1;refine⟨l,l3,nums,dR.out,h2.1,?_,h3,?_⟩
          ·have h4:=h2.2
           rwa [Ja]at h4
          ·rw [A8,←h3];exact h1
         have Bb:=AjK (And.intro AU (And.intro GM (And.intro hfr qW)));clear qW Ja;clear AU GM hfr f1 f2 f3 g1 g4 g7 bb AZ Dy hS JH;go_wp2;refine bodyPost_ret (v:=.agg #[.slice oP pts.length cP,.slice oE eds.length cE,.slice oF faces.length cF]) (by simp [results,Tryz.results76,go_sem,t1,t2,t3]) rfl ?_;exact⟨oP,oE,oF,cP,cE,cF,⟨pts,eds,faces.length⟩,faces,rfl,Bb.out.1,Bb.out.2.1,Bb.out.2.2.1,Bb.out.2.2.2⟩
  ·go_upto_region 5 with fail
   go_loopw [0,5,6] (fun vv a i wr=>∃(l1:List Hf) (b:Bool) (j:Nat),a=.bool b/\i=.int .i64 (j:Nat)/\j<=2001/\Q l1/\Dn n l1/\l1.length<=2000/\wr.ownsRow w0.heap.size 145 5 vv l1.length (AO l1)/\Aa W1 wr/\(b=false→l1.length=l.length)/\(b=true→l1.length<l.length)) (fun vv a i _=>match a with | .bool true=>0|_=>lenV vv+1-(intOf i).toNat)
   case atStart=>exact⟨l,false,0,rfl,rfl,by omega,dR.out,HL.out,hlen,hv,Ae,fun _=>rfl,fun h=>by cases h⟩
   case round=>
    obtain⟨l1,b,j,rfl,rfl,hj,D2,GQ,Ui,QI,IV,TV,YX⟩:=hrel;have LZ:=AjK GQ;have Jt:=AjK D2;clear GQ D2;obtain⟨dc,dm,rfl,rH,nQ,nR⟩:=Ad.of_own' (by omega) QI
    cases b
    ·have Hm:=AjK (TV rfl);clear TV YX;by_cases Ay:j<l1.length
     ·have hj0:(0:Int)<=(j:Int):=(by omega);have FI:(j:Int)<(l1.length:Int):=(by omega);have Zg:=hx1.trans IV;have nd:=Aew l1 LZ.out.ok (by omega) j Ay dc dm wr (hw.ext Zg) rH nQ nR;(go_wp2_with fail);(with_reducible refine nd.mono ?_);rintro e w5 ⟨k,rfl,An,hk⟩;by_cases hk0:k<0
      ·have hHK:=hk0;have DW:=Am QI An;go_wp2;go_roundw
       case rel=>exact⟨l1,false,j+1,rfl,by go_num,by omega,Jt.out,LZ.out,Ui,DW,IV.trans An,fun _=>Hm.out,fun h=>by cases h⟩
       case measure=>simp [lenV,intOf];omega
      ·obtain⟨kk,Gr,rfl,Cj⟩:=hk.resolve_left hk0;have nV:=Cj.two
       have Ul:Ah l1[j].a l1[kk].b=false:=by rw [Bool.eq_false_iff];exact fun e=>Cj.nb (BN.1 e).symm
       have Cc:=j9.out _ _ _ (AjO Ay) (AjO Gr) Jt.out Cj;clear Cj;have jc:=Ad3 l1 (by omega) j kk Ay Gr dc dm w5 (rH.ext An) nQ nR;have hJ:=Ad2 LZ.out (AjO Ay) (AjO Gr) Ul;have hJl:=Ad1 LZ.out (x:=l1[j]) (y:=l1[kk]) (AjO Ay) nV;generalize Jd l1 l1[j] l1[kk]=l2 at *;have HJ:=AjK hJ;have j8:=AjK Cc;clear hk nV Ul hJ Cc;(go_wp2_with fail);(with_reducible refine jc.mono ?_);rintro e w6 ⟨v6,rfl,hv6,AD⟩;have QJ:=FV hv6 (AjX (hx1.trans (IV.trans An)).size (AjN _));have hlv:=AdL QJ;have Bp:=IV.trans (An.trans AD);go_wp2;go_roundw
       case rel=>exact⟨l2,true,j+1,rfl,by go_num,by omega,j8.out,HJ.out,by have:=Hm.out;omega,QJ,Bp,(fun h=>by cases h),fun _=>by have:=Hm.out;omega⟩
       case measure=>simp [lenV,intOf];omega
     ·have FI:¬((j:Int)<(l1.length:Int)):=(by omega);go_wp2;go_roundw
      case rel=>exact⟨l1,false,rfl,Jt.out,LZ.out,Ui,QI,IV⟩
      case measure=>simp [lenV]
    ·have hlt:=YX rfl;clear TV YX;by_cases Ay:j<l1.length
     ·have FI:(j:Int)<(l1.length:Int):=(by omega);go_wp2;go_roundw
      case rel=>exact⟨l1,true,rfl,Jt.out,LZ.out,Ui,QI,IV⟩
      case measure=>simp [lenV];omega
     ·have FI:¬((j:Int)<(l1.length:Int)):=(by omega);go_wp2;go_roundw
      case rel=>exact⟨l1,true,rfl,Jt.out,LZ.out,Ui,QI,IV⟩
      case measure=>simp [lenV];omega
end Go.Proofs.YtnfedbopbcegjaaGreatDoor
namespace Go.Proofs.YtnfedbopbcegjaaGreatDoor
section
open Go.RowKit Kl
theorem Aep(n:Nat)(hn:n<=200000)(c:Int)(hc:c=(n:Int))(W:World) :
  (Instr.makeSlice 33 (.int .i64 c) (.int .i64 c)).run Tryz.prog W=.ok (.slice (some ⟨W.heap.size,0,none⟩) n n) (W.alloc (.cells (madeCells #[S []] n) 9)):=by
 subst hc;obtain⟨i0,hi,hz0,hz1,hz2⟩:=info_parts Tryz.infoStr;have h:=run_make (P:=Tryz.prog) W 33 9 i0 (S []) Tryz.underlying33 hi hz0 .i64 .i64 n n (by omega) (by omega) (by rw [hz2];omega) (by omega);rw [hz1,Nat.mul_one]at h;simp only [Int.toNat_natCast]at h;exact h
theorem Afd(W:World)(base n:Nat)(hb:base<=W.heap.size)(hn:n<=200000) :
  (W.alloc (.cells (madeCells #[S []] n) 9)).ownsRow base 9 1 (.slice (some ⟨W.heap.size,0,none⟩) n n) n ((List.replicate n []).map S):=by
 have h:=World.ownsRow_lit (w:=W) (base:=base) (e:=9) (size:=1) (madeCells #[S []] n) n hb (by unfold maxLen;omega) (by rw [size_madeCells];omega);rw [toList_madeCells_one]at h
 simpa using h
def Jp(us:List Bs)(k:Nat):List Bs:=(List.range us.length).map fun i=>if i<k then us.getD i [] else []
theorem Ahs(us:List Bs):Jp us 0=List.replicate us.length []:=by
 unfold Jp;apply List.ext_getElem
 ·simp
 ·intro i h1 h2;simp
theorem Ahr{us:List Bs}{k:Nat}(h:k<us.length):(Jp us k).set k us[k]=Jp us (k+1):=by
 unfold Jp;apply List.ext_getElem
 ·simp
 ·intro i h1 h2;by_cases e:k=i
  ·subst e;simp [List.getD_eq_getElem?_getD,AjS h]
  ·rw [List.getElem_set_ne e];have:(i<k+1)↔i<k:=(by omega);simp [this]
theorem Ahq(us:List Bs):Jp us us.length=us:=by
 unfold Jp;apply List.ext_getElem
 ·simp
 ·intro i h1 h2;simp only [List.length_map,List.length_range]at h1;simp [h1,List.getD_eq_getElem?_getD]
theorem Ahj{w:World}{bR o:Nat}{t:TypeId}{v:Value}(hb:w.heap[bR]?=some (.cells #[.slice none 0 0,.slice none 0 0,.slice none 0 0] t))(h:w.cell? ⟨bR,o,none⟩=some v):v=.slice none 0 0:=by
 unfold World.cell? at h;simp only [hb]at h
 match o,h with
 | 0,h=>simpa using h.symm
 | 1,h=>simpa using h.symm
 | 2,h=>simpa using h.symm
 | o+3,h=>simp at h
theorem Ad.far{w w':World}{A:Option Addr}{cs:List Value}{bR:Nat}{t:TypeId}(h:Ad w A cs)(hb:w.heap[bR]?=some (.cells #[.slice none 0 0,.slice none 0 0,.slice none 0 0] t))
  (hne:∀x∈cs,x≠.slice none 0 0) (Qn:∀q,q≠bR→w'.heap[q]?=w.heap[q]?):Ad w' A cs:=
 ⟨fun h0=>by
  obtain⟨b,o,e,hc⟩:=h.ad h0;refine⟨b,o,e,fun j hj=>?_⟩;have XT:=hc j hj
  have BH:b≠bR:=by rintro rfl;exact hne _ (AjO hj) (Ahj hb XT)
  unfold World.cell? at XT ⊢;simp only [Qn b BH]
  exact XT⟩
theorem MapAt.far{w w':World}{n:Nat}{units:List Bs}{A B F:Option Addr}{c d g:Nat}{m:MapZ}{faces:List Bs}{bR:Nat}{t:TypeId}(h:MapAt w n units A B F c d g m faces)
  (hb:w.heap[bR]?=some (.cells #[.slice none 0 0,.slice none 0 0,.slice none 0 0] t)) (Qn:∀q,q≠bR→w'.heap[q]?=w.heap[q]?):MapAt w' n units A B F c d g m faces:=by
 refine⟨h.cap,h.pts.far hb ?_ Qn,h.eds.far hb ?_ Qn,h.fac.far hb ?_ Qn,h.nf,h.le,h.sheet,h.txt⟩
 ·intro x hx;obtain⟨y,-,hx⟩:=List.mem_flatMap.1 hx;simp only [List.mem_cons,AjY,or_false]at hx
  rcases hx with rfl|rfl<;>exact fun e=>by simp [S]at e
 ·intro x hx;obtain⟨y,-,hx⟩:=List.mem_flatMap.1 hx;simp only [List.mem_cons,AjY,or_false]at hx
  rcases hx with rfl|rfl|rfl|rfl<;>exact fun e=>by simp at e
 ·intro x hx;obtain⟨y,-,rfl⟩:=List.mem_map.1 hx;exact fun e=>by simp [S]at e
theorem uT{w0 w:World}{n:Nat}{units:List Bs}{A B F:Option Addr}{c d g:Nat}{m:MapZ}{faces:List Bs}{bR:Nat}{t:TypeId}(h:MapAt w n units A B F c d g m faces)(hx:Aa w0 w)
  (hb:w.heap[bR]?=some (.cells #[.slice none 0 0,.slice none 0 0,.slice none 0 0] t)) (h0:w0.heap.size<=bR) (x y z:Value) :
  MapAt (((w.setCell ⟨bR,0,none⟩ x).setCell ⟨bR,1,none⟩ y).setCell ⟨bR,2,none⟩ z) n units A B F c d g m faces/\Aa w0 (((w.setCell ⟨bR,0,none⟩ x).setCell ⟨bR,1,none⟩ y).setCell ⟨bR,2,none⟩ z)
   /\(((w.setCell ⟨bR,0,none⟩ x).setCell ⟨bR,1,none⟩ y).setCell ⟨bR,2,none⟩ z).heap[bR]?=some (.cells #[x,y,z] t):=by
 refine⟨h.far hb fun q hq=>?_,((hx.setCell (p:=⟨bR,0,none⟩) h0 x).setCell (p:=⟨bR,1,none⟩) h0 y).setCell (p:=⟨bR,2,none⟩) h0 z,GB x y z hb⟩;rw [B7 (by exact hq),B7 (by exact hq),B7 (by exact hq)]
end
section
open Go.RowKit Kl Go.Shelf
theorem Bn.base{B B':Nat}{W:World}{r b1 b2:Nat}{L:List (Sg×Int)}{E:List (Pt×Value×Nat)}{R:List (Pt×List Pt)}(h:Bn B W r b1 b2 L E R)(e:B=B'):Bn B' W r b1 b2 L E R:=e▸h
theorem PG{l:List Au}{j:Nat}(hj:j<(AA l).length):∃z,(AA l)[j]=.int .i64 z:=by
 have:=AjO hj;unfold AA at this;rw [List.mem_flatMap]at this;obtain⟨p,_,h⟩:=this;simp only [List.mem_cons,AjY,or_false]at h
 rcases h with h|h|h|h<;>exact⟨_,h⟩
theorem Hb{w w':World}{A:Option Addr}{l:List Value}{b:Nat}{a0 a1 a2:Value}{t:TypeId}(h:Ad w A l)(hb:Al (fun q=>q=b) w w')(hm:w.heap[b]?=some (.cells #[a0,a1,a2] t))(hne:∀(j:Nat) (hj:j<l.length),l[j]≠a0/\l[j]≠a1/\l[j]≠a2):Ad w' A l:=by
 refine⟨fun h0=>?_⟩;obtain⟨g,o,e,hc⟩:=h.ad h0;refine⟨g,o,e,fun j hj=>?_⟩;have h1:=hc j hj;refine(World.cell?_of_block (a:=⟨g,o+j,none⟩) (hb.block g (World.block_lt_of_cell? w _ h1) (fun e'=>?_))).trans h1;subst e';have h2:=tu hm h1;obtain⟨n1,n2,n3⟩:=hne j hj
 match hn:o+j with
 | 0=>rw [hn]at h2;exact n1 (by simpa using h2.symm)
 | 1=>rw [hn]at h2;exact n2 (by simpa using h2.symm)
 | 2=>rw [hn]at h2;exact n3 (by simpa using h2.symm)
 | n+3=>rw [hn]at h2;simp at h2
def fh(w:World)(m:MapZ)(faces:List Bs)(e:Ending)(w':World):Prop:=
 ∃A Bk F c d g,e=.returned (.tuple #[AE A Bk F m c d g,.int .i64 0])/\Cf m c d g/\Ad w' A (flat (Aq m.pts))/\Ad w' Bk (AA m.eds)/\Ad w' F (faces.map S)/\m.nf=faces.length/\Aa w w'
end
end Go.Proofs.YtnfedbopbcegjaaGreatDoor
namespace Kl
section
variable {α : Type} (le : α → α → Bool)
def LF:Nat→List α→List α→List α
 | 0,xs,ys=>xs++ys
 | _+1,[],ys=>ys
 | _+1,x::xs,[]=>x::xs
 | n+1,x::xs,y::ys=>if le x y then x::LF n xs (y::ys)else y::LF n (x::xs) ys
theorem Z5:∀(n:Nat) (xs ys:List α),xs.length+ys.length<=n→LF le n xs ys=List.merge xs ys le
 | 0,[],[],_=>by simp [LF]
 | 0,_::_,_,h=>by simp at h
 | 0,[],_::_,h=>by simp at h
 | n+1,[],ys,_=>by simp [LF]
 | n+1,x::xs,[],_=>by simp [LF]
 | n+1,x::xs,y::ys,h=>by simp only [List.length_cons]at h;rw [LF,List.cons_merge_cons,Z5 n xs (y::ys) (by simp;omega),Z5 n (x::xs) ys (by simp;omega)]
def FU:Nat→List α→List α
 | 0,l=>l
 | _+1,[]=>[]
 | _+1,[a]=>[a]
 | n+1,a::b::l=>LF le (l.length+2) (FU n ((a::b::l).take ((l.length+3) / 2))) (FU n ((a::b::l).drop ((l.length+3) / 2)))
theorem QV:∀(n:Nat) (l:List α),l.length<=n→FU le n l=l.mergeSort le
 | 0,[],_=>by simp [FU]
 | 0,_::_,h=>by simp at h
 | n+1,[],_=>by simp [FU]
 | n+1,[a],_=>by simp [FU]
 | n+1,a::b::l,h=>by
  simp only [List.length_cons]at h;have h1:((a::b::l).take ((l.length+3)/2)).length<=n:=(by simp only [List.length_take,List.length_cons];omega);have h2:((a::b::l).drop ((l.length+3)/2)).length<=n:=(by simp only [List.length_drop,List.length_cons];omega);have h3:((a::b::l).take ((l.length+3)/2)).length+((a::b::l).drop ((l.length+3)/2)).length<=l.length+2:=(by simp only [List.length_take,List.length_drop,List.length_cons];omega);rw [FU,QV n _ h1,QV n _ h2,Z5 _ _ _ _ (by rw [List.length_mergeSort,List.length_mergeSort];exact h3)];rw [List.mergeSort];simp only [List.MergeSort.Internal.splitInTwo_fst,List.MergeSort.Internal.splitInTwo_snd]
  rfl
end
end Kl
namespace Go.Proofs.YtnfedbopbcegjaaGreatDoor
open Go.RowKit Kl
def Zy(x y:Pt):Bool:=!decide (AS y x<0)
def U7(x y:Sg):Bool:=!decide (ES y x<0)
def Zx(p x y:Pt):Bool:=!decide (CU p y x<0)
theorem AgQ(l:List Pt):Gw l=FU Zy l.length l:=(QV Zy _ l (AjN _)).symm
theorem zL(l:List Sg):BD l=FU U7 l.length l:=(QV U7 _ l (AjN _)).symm
theorem AgP(p:Pt)(l:List Pt):Ec p l=FU (Zx p) l.length l:=(QV (Zx p) _ l (AjN _)).symm
def S9(W:List Sg)(R0:List (Pt×List Pt)):List (List Sg):=((FU U7 W.length W).foldl (Fc W.length R0) ([],[])).2
theorem xu(W:List Sg)(R0:List (Pt×List Pt)):IF W R0=S9 W R0:=by unfold IF S9;rw [zL]
def LS(p:Pt):Bool:=decide (p.x.num.natAbs<10^1)&&(decide (p.x.den<10^1)&&(decide (p.y.num.natAbs<10^1)&&decide (p.y.den<10^1)))
theorem OM{p:Pt}(h:LS p=true):A0 1 p:=by
 unfold LS at h;simp only [Bool.and_eq_true,decide_eq_true_eq]at h;exact⟨⟨h.1,h.2.1⟩,⟨h.2.2.1,h.2.2.2⟩⟩
def SV(p:Pt):Bool:=decide ((p.x*2).den=1)&&(decide ((p.x*2).num.natAbs<=9)&&(decide ((p.y*2).den=1)&&decide ((p.y*2).num.natAbs<=9)))
theorem lY{q:Rat}(h1:(q*2).den=1)(h2:(q*2).num.natAbs<=9):K8 q:=by
 refine⟨(q*2).num,h2,?_⟩
 have:((q*2).num:Rat)=q*2:=by
  refine Rat.ext ?_ ?_
  ·rw [Rat.num_intCast]
  ·rw [Rat.den_intCast,h1]
 rw [this];grind
theorem jY{p:Pt}(h:SV p=true):Da p:=by
 unfold SV at h;simp only [Bool.and_eq_true,decide_eq_true_eq]at h;exact⟨lY h.1 h.2.1,lY h.2.2.1 h.2.2.2⟩
instance sgDec:DecidableEq Sg:=fun s t=>decidable_of_iff (AK s t=true) Hg
def UU(pts:List Pt)(eds:List Au):List (Pt×List Pt):=(Cw pts eds).map (fun e=>(e.1,FU (Zx e.1) e.2.length e.2))
theorem Agm(pts:List Pt)(eds:List Au):UU pts eds=(Cw pts eds).map (fun e=>(e.1,Ec e.1 e.2)):=by
 unfold UU;refine List.map_congr_left fun e _=>?_;rw [AgP]
def vJ(e:Pt×List Pt):Bool:=match e.2 with
 | [p,q]=>decide (AV (Ar p e.1 q)≠0)
 | _=>true
set_option maxRecDepth 100000
set_option maxRecDepth 100000
def Mk(m:MapZ):Bool:=!KT m&&(decide (CS [] m.pts=0)&&(decide (Dd m.pts.length m.nf [] m.eds=0)&&(decide (DF m.pts [] m.eds=0)&&(!PK (Cw m.pts m.eds) m.pts&&KN (AN m.pts m.eds) m.nf (S9 ((AN m.pts m.eds).map (·.1)) (UU m.pts m.eds)) (LR ((AN m.pts m.eds).map (·.1)) (S9 ((AN m.pts m.eds).map (·.1)) (UU m.pts m.eds)))))))
theorem vt{m:MapZ}(h:Mk m=true):GF m=0:=by
 unfold Mk at h;simp only [Bool.and_eq_true,decide_eq_true_eq,Bool.not_eq_true']at h;obtain⟨h1,h2,h3,h4,h5,h6⟩:=h
 have e:KN (AN m.pts m.eds) m.nf (MV m) (O0 m)=true:=by unfold O0 MV ZE ZD;rw [←Agm,xu];exact h6
 unfold GF Wd;rw [if_neg (by rw [h1];simp),if_neg (by omega),if_neg (by omega),if_neg (by omega),if_neg (by rw [h5];simp),if_pos e]
def ID(m:MapZ):List Pt:=FU Zy ((Cw m.pts m.eds).map (·.1)).length ((Cw m.pts m.eds).map (·.1))
def gC(m:MapZ):List Sg:=FU U7 ((AN m.pts m.eds).map (·.1)).length ((AN m.pts m.eds).map (·.1))
def Dc(m:MapZ)(fa:List Bs):G0:=IC fa (Ce (ID m)) (AN m.pts m.eds) (gC m)
def P7(m:MapZ)(fa:List Bs):MapZ:=⟨ID m,(Dc m fa).ed,(Dc m fa).fa.length⟩
def J1(m:MapZ):Bool:=
 Mk m&&(m.pts.all SV&&(decide (m.eds.length<=1000)&&((Cw m.pts m.eds).all (fun e=>LS e.1&&(e.2.all LS&&(decide (e.2.length<100000)&&vJ e)))&&(decide ((Cw m.pts m.eds).length<=400)&&(decide ((Cw m.pts m.eds).map (·.1)).Nodup &&
 ((AN m.pts m.eds).all (fun e=>LS e.1.a&&(LS e.1.b&&decide (-1<=e.2/\e.2<(m.nf:Int))))&&(AN m.pts m.eds).all (fun e=>(AN m.pts m.eds).any (fun e'=>AK e'.1 (Bc e.1)))))))))
theorem GI{w:World}{b bm:Nat}(hne:bm≠b)(x y z:Value)(o:Nat):(((w.setCell ⟨b,0,none⟩ x).setCell ⟨b,1,none⟩ y).setCell ⟨b,2,none⟩ z).cell? ⟨bm,o,none⟩=w.cell? ⟨bm,o,none⟩:=by
 refine World.cell?_of_block ?_;show (((w.setCell ⟨b,0,none⟩ x).setCell ⟨b,1,none⟩ y).setCell ⟨b,2,none⟩ z).heap[bm]?=w.heap[bm]?;rw [B7 (by exact hne),B7 (by exact hne),B7 (by exact hne)]
theorem S0{m:MapZ}(h:J1 m=true):GF m=0/\∀p∈m.pts,Da p:=by
 unfold J1 at h;simp only [Bool.and_eq_true,List.all_eq_true]at h;exact⟨vt h.1,fun p hp=>jY (h.2.1 p hp)⟩
theorem BS.but{w w':World}{A:Option Addr}{t t':TypeId}{b:Nat}{cs:Array Value}{r:Nat×Nat}(h:BS w A t)(hb:Al (fun q=>q=b) w w')(hm:w.heap[b]?=some (.cells cs t' r))(hne:t≠t'):BS w' A t:=fun x e=>by
 obtain⟨c,q,hx⟩:=h x e;exact⟨c,q,(hb.block _ (AjL hx) (C0 hx hm hne)).trans hx⟩
def fj(w:World)(m:MapZ)(faces:List Bs)(e:Ending)(w':World):Prop:=
 ∃A B F c d g,e=.returned (.tuple #[AE A B F m c d g,.int .i64 0])/\fh w m faces e w'/\Cf m c d g/\Ad w' A (flat (Aq m.pts))/\Ad w' B (AA m.eds)/\Ad w' F (faces.map S)/\m.nf=faces.length/\Aa w w'/\BS w' A 28/\BS w' B 119/\BS w' F 9
def KH(w:World)(A B F:Option Addr):Prop:=BS w A 28/\BS w B 119/\BS w F 9
theorem KH.but{w w':World}{A B F:Option Addr}{b:Nat}{cs:Array Value}{r:Nat×Nat}(h:KH w A B F)(hb:Al (fun q=>q=b) w w')(hm:w.heap[b]?=some (.cells cs 44 r)):KH w' A B F:=
 ⟨h.1.but hb hm (by decide),h.2.1.but hb hm (by decide),h.2.2.but hb hm (by decide)⟩
def OT(w:World)(m:MapZ)(faces:List Bs)(e:Ending)(w':World):Prop:=
 ∃A B F c d g,e=.returned (.tuple #[AE A B F m c d g,.int .i64 0])/\Cf m c d g/\Ad w' A (flat (Aq m.pts))/\Ad w' B (AA m.eds)/\Ad w' F (faces.map S)/\m.nf=faces.length/\Aa w w'/\KH w' A B F
theorem Afk(m:MapZ)(fa:List Bs)(Cb:m.nf=fa.length)(hb:J1 m=true)(A B F:Option Addr)(c d g:Nat)(A7:Cf m c d g)(w:World)(hw:Ak w)(hA:Ad w A (flat (Aq m.pts)))(hB:Ad w B (AA m.eds))(hF:Ad w F (fa.map S))(DV:∀x,F=some x→x.block<w.heap.size)(h8:m.nf<=100000) :
  Calls Tryz.prog 41 #[AE A B F m c d g] w (fj w (P7 m fa) (Dc m fa).fa):=by
 obtain⟨hck,hgr⟩:=S0 hb;unfold J1 at hb;simp only [Bool.and_eq_true,List.all_eq_true,decide_eq_true_eq]at hb;obtain⟨h0,-,h2,h3,h4,h5,h6,h7⟩:=hb;unfold Mk at h0;simp only [Bool.and_eq_true,decide_eq_true_eq]at h0;have Gm:=SC h0.2.1 h0.2.2.1;have pc:=fun W (hx:Aa w W)=>Rh m hgr A B F c d g A7 W (hw.ext hx) (hA.ext hx) (hB.ext hx);rw [hck]at pc;have oc:=fun W (hx:Aa w W)=>UI m A B F c d g A7 Gm (by omega) W (hA.ext hx) (hB.ext hx)
 have cn:=fun (W W':World) (h1:Aa w W) (hx:Aa W W') (r b1 b2:Nat) (E:List (Pt×Value×Nat)) (hn:Bn W.heap.size W' r b1 b2 (AN m.pts m.eds) E (Cw m.pts m.eds))=>uf (hw.ext h1) hx hn
  (fun e k=>⟨OM (h3 e k).1,fun p hp=>OM ((h3 e k).2.1 p hp)⟩) (by omega) (fun e k=>(h3 e k).2.2.1) h5 (fun e k p q Uu=>by
   have:=(h3 e k).2.2.2;unfold vJ at this;rw [Uu]at this
   exact of_decide_eq_true this)
  (fun e k=>⟨OM (h6 e k).1,OM (h6 e k).2.1⟩) (by rw [vG];omega) (fun e k=>by
   have:=h7 e k;rw [List.any_eq_true]at this;obtain⟨x,hx,hs⟩:=this
   exact⟨x,hx,Hg.1 hs⟩) F g fa ((hF.ext h1).ext hx) (fun x e=>AjW (DV x e) (h1.trans hx).size) (by rw [←Cb];exact h8) (fun x k=>by have:=(h6 x k).2.2;omega) (pts:=ID m) (by rw [AgQ];rfl) (ws:=gC m) (by rw [zL];rfl) (st:=Dc m fa) rfl
 rw [←Cb]at cn;have h1:=AjM w (.cells #[.slice A m.pts.length c,.slice B m.eds.length d,.slice F m.nf g] 44);have h2':=AjM (w.alloc (.cells #[.slice A m.pts.length c,.slice B m.eds.length d,.slice F m.nf g] 44)) (.cells #[.slice none 0 0,.slice none 0 0,.slice none 0 0] 44);rw [AjU]at h2';have e2:=(Aa.refl (w.alloc (.cells #[.slice A m.pts.length c,.slice B m.eds.length d,.slice F m.nf g] 44))).alloc (.cells #[.slice none 0 0,.slice none 0 0,.slice none 0 0] 44);have hM:=(e2.block _ (AjL h1)).trans h1;have hE:=((Aa.refl w).alloc (.cells #[.slice A m.pts.length c,.slice B m.eds.length d,.slice F m.nf g] 44)).trans e2;unfold AE at pc oc ⊢;have HN:=AjK Cb;clear h0 h2 h3 h4 h5 h6 h7 Gm hck hgr DV hF hA hB A7 Cb h1 e2;go_enter Tryz.func41,Tryz.ntmps41
 go_upto_region 1 with fail
 generalize (w.alloc (.cells #[.slice A m.pts.length c,.slice B m.eds.length d,.slice F m.nf g] 44)).alloc (.cells #[.slice none 0 0,.slice none 0 0,.slice none 0 0] 44)=V at *;obtain⟨bm,AX⟩:=AjJ w.heap.size;have C2:w.heap.size<=bm+1:=(by omega);rw [←AX]at hM h2' ⊢;clear AX;have k1:=Ab (o:=0) hM rfl;have k2:=Ab (o:=1) hM rfl;have k3:=Ab (o:=2) hM rfl;(go_wp2_with fail);(with_reducible refine(pc V hE).mono ?_);rintro e w1 ⟨rfl,hx1⟩;have X1:=hE.trans hx1;have Bi:=(hx1.block _ (AjL hM)).trans hM;have hR1:=(hx1.block _ (AjL h2')).trans h2';clear k1 k2 k3 hM h2' pc;have k1:w1.cell? ⟨bm,0,none⟩=some (.slice A m.pts.length c):=Ab Bi rfl;have k2:w1.cell? ⟨bm,1,none⟩=some (.slice B m.eds.length d):=Ab Bi rfl;have k3:w1.cell? ⟨bm,2,none⟩=some (.slice F m.nf g):=Ab Bi rfl;have X:Aa w1 w1:=Aa.refl w1;have SO:=fun (w':World) (h:Aa w1 w')=>(⟨h.cellS k1,h.cellS k2,h.cellS k3⟩:_/\_/\_)
 go_upto_region 4 with fail
 go_region_held3 (fun w'=>w'.cell? ⟨bm,0,none⟩=some (.slice A m.pts.length c)/\w'.cell? ⟨bm,1,none⟩=some (.slice B m.eds.length d)/\w'.cell? ⟨bm,2,none⟩=some (.slice F m.nf g))
  (first|exact SS|with_reducible exact SO _ X.drew|with_reducible exact SO _ X)
  (first
   | ((with_reducible refine(cn w1.drew w2 (X1.trans (Aa.refl w1).drew) xo r b1 b2 E CW).mono ?_);rintro e w3 ⟨A3,B3,F3,c3,d3,g3,rfl,-,y1,y2,y3,y4,y5,xc,u1,u2,u3⟩;replace X:Aa w1 w3:=X.trans xc;have AW:=(X.block _ (AjL hR1)).trans hR1;have g0:=Ab (o:=0) AW rfl;have g1:=Ab (o:=1) AW rfl;have g2:=Ab (o:=2) AW rfl;have PN:=Ao (o:=0) AW;have g4:=Ao (o:=1) AW;have g5:=Ao (o:=2) AW;have SS:=(⟨(GI (show bm≠bm+1 by omega) (.slice A3 (ID m).length c3) (.slice B3 (Dc m fa).ed.length d3) (.slice F3 (Dc m fa).fa.length g3) 0).trans (X.cellS k1),(GI (show bm≠bm+1 by omega) (.slice A3 (ID m).length c3) (.slice B3 (Dc m fa).ed.length d3) (.slice F3 (Dc m fa).fa.length g3) 1).trans (X.cellS k2),(GI (show bm≠bm+1 by omega) (.slice A3 (ID m).length c3) (.slice B3 (Dc m fa).ed.length d3) (.slice F3 (Dc m fa).fa.length g3) 2).trans (X.cellS k3)⟩:_/\_/\_);unfold AE)
   | ((with_reducible refine(oc _ (X1.trans X.drew)).mono ?_);rintro e w2 ⟨r,b1,b2,E,rfl,xo,CW⟩;replace X:Aa w1 w2:=X.drew.trans xo))
 have bb:=(((Al.refl (fun q=>q=bm+1) w3).setCell (p:=⟨bm+1,0,none⟩) (.inl rfl) (.slice A3 (ID m).length c3)).setCell (p:=⟨bm+1,1,none⟩) (.inl rfl) (.slice B3 (Dc m fa).ed.length d3)).setCell (p:=⟨bm+1,2,none⟩) (.inl rfl) (.slice F3 (Dc m fa).fa.length g3);have fA:=Hb y2 bb AW (fun j hj=>by obtain⟨s,h⟩:=PM hj;rw [h];simp);have fB:=Hb y3 bb AW (fun j hj=>by obtain⟨s,h⟩:=PG hj;rw [h];simp);have fF:=Hb y4 bb AW (fun j hj=>by rw [List.getElem_map];simp);have v1:=u1.but bb AW (by decide);have v2:=u2.but bb AW (by decide);have v3:=u3.but bb AW (by decide);have AZ:=GB (.slice A3 (ID m).length c3) (.slice B3 (Dc m fa).ed.length d3) (.slice F3 (Dc m fa).fa.length g3) AW;have t1:=Ab (o:=0) AZ rfl;have t2:=Ab (o:=1) AZ rfl;have t3:=Ab (o:=2) AZ rfl;have GM:=(((X1.trans X).setCell (p:=⟨bm+1,0,none⟩) C2 (.slice A3 (ID m).length c3)).setCell (p:=⟨bm+1,1,none⟩) C2 (.slice B3 (Dc m fa).ed.length d3)).setCell (p:=⟨bm+1,2,none⟩) C2 (.slice F3 (Dc m fa).fa.length g3);have Bb:=AjK (And.intro y1 (And.intro fA (And.intro fB (And.intro fF (And.intro y5 (And.intro GM (And.intro v1 (And.intro v2 v3))))))));clear fA fB fF GM v1 v2 v3 u1 u2 u3 bb y1 y2 y3 y4 y5 SS SO;go_wp2;refine bodyPost_ret (v:=.tuple #[.agg #[.slice A3 (ID m).length c3,.slice B3 (Dc m fa).ed.length d3,.slice F3 (Dc m fa).fa.length g3],.int .i64 0]) (by simp [results,Tryz.results41,go_sem,t1,t2,t3]) rfl ?_;exact⟨A3,B3,F3,c3,d3,g3,rfl,⟨A3,B3,F3,c3,d3,g3,rfl,Bb.out.1,Bb.out.2.1,Bb.out.2.2.1,Bb.out.2.2.2.1,rfl,Bb.out.2.2.2.2.2.1⟩,Bb.out.1,Bb.out.2.1,Bb.out.2.2.1,Bb.out.2.2.2.1,rfl,Bb.out.2.2.2.2.2⟩
theorem wO(m:MapZ)(fa:List Bs)(Cb:m.nf=fa.length)(hb:J1 m=true)(A B F:Option Addr)(c d g:Nat)(A7:Cf m c d g)(w:World)(hw:Ak w)(hA:Ad w A (flat (Aq m.pts)))(hB:Ad w B (AA m.eds))(hF:Ad w F (fa.map S))(DV:∀x,F=some x→x.block<w.heap.size)(h8:m.nf<=100000) :
  Calls Tryz.prog 41 #[AE A B F m c d g] w (OT w (P7 m fa) (Dc m fa).fa):=
 (Afk m fa Cb hb A B F c d g A7 w hw hA hB hF DV h8).mono fun _ _ h=>by obtain⟨A,B,F,c,d,g,h1,-,h2,h3,h4,h5,h6,h7,h8,h9,h10⟩:=h;exact⟨A,B,F,c,d,g,h1,h2,h3,h4,h5,h6,h7,h8,h9,h10⟩
end Go.Proofs.YtnfedbopbcegjaaGreatDoor
