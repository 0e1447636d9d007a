/- I34: ShQCX ShQC ShQGA. -/
import Derived.Test.YtnddllipjippnaaGreatDoorI30
import Derived.Test.YtnddllipjippnaaGreatDoorI31
import Derived.Test.YtnddllipjippnaaGreatDoorI29
set_option maxRecDepth 100000
set_option maxHeartbeats 16000000
namespace Go.Proofs.YtnddllipjippnaaGreatDoor
open Go.RowKit Kl
theorem Ano{l:List Hf}{j:Nat}{x:Hf}(hj:j<l.length)(hx:x=l[j]):IE (l.take (j+1))=G8 (IE (l.take j)) x.a:=by
 rw [As3 hj,Ann,hx]
theorem AeQ{ps:List Pt}{t:Nat}{y p:Pt}(ht:ps.length=t+1)(hy:Aq y p=true)(Jp:ps[t]?=some y):G8 ps p=ps:=by
 have e:ps.getLast?=some y:=(by rw [List.getLast?_eq_getElem?,ht];exact Jp);unfold G8;rw [e];exact if_pos hy
theorem AeP{ps:List Pt}{p:Pt}(h:ps.length=0∨∃t,ps.length=t+1/\∃y,Aq y p=false/\ps[t]?=some y):G8 ps p=ps ++ [p]:=by
 unfold G8
 rcases h with h|⟨t,ht,y,hy,Jp⟩
 ·rw [List.length_eq_zero_iff.1 h];rfl
 ·have e:ps.getLast?=some y:=(by rw [List.getLast?_eq_getElem?,ht];exact Jp);rw [e];exact if_neg (by rw [hy];exact Bool.false_ne_true)
def Hg(units:List Bs)(P:List Pt)(L:List Hf)(st:List Int×List Bs×List EdZ)(x:Hf):List Int×List Bs×List EdZ:=
 if 0<AY x.a x.b then st
 else ((EH units (EH units st.1 st.2.1 x.l).2.1 (EH units st.1 st.2.1 x.l).2.2 (C4 L x)).2.1,(EH units (EH units st.1 st.2.1 x.l).2.1 (EH units st.1 st.2.1 x.l).2.2 (C4 L x)).2.2,
  st.2.2 ++ [⟨CW P x.a,CW P x.b,(EH units st.1 st.2.1 x.l).1,(EH units (EH units st.1 st.2.1 x.l).2.1 (EH units st.1 st.2.1 x.l).2.2 (C4 L x)).1⟩])
theorem AgX{units:List Bs}{P:List Pt}{L l:List Hf}{j:Nat}{x:Hf}{s0 st:List Int×List Bs×List EdZ}(hj:j<l.length)(hx:x=l[j])(h0:0<AY x.a x.b)(hst:st=(l.take j).foldl (Hg units P L) s0):st=(l.take (j+1)).foldl (Hg units P L) s0:=by
 rw [As3 hj,List.foldl_append,←hst,←hx];exact(if_pos h0).symm
theorem AgW{units:List Bs}{P:List Pt}{L l:List Hf}{j:Nat}{x:Hf}{s0:List Int×List Bs×List EdZ}{n1 n2 n3:List Int}{f1 f2 f3:List Bs}{eds:List EdZ}{zl zr r1 r2 r3:Int}(hj:j<l.length)(hx:x=l[j])(h0:¬0<AY x.a x.b)(hst:(n1,f1,eds)=(l.take j).foldl (Hg units P L) s0)
  (h1:(zl,n2,f2)=EH units n1 f1 x.l) (h2:(zr,n3,f3)=EH units n2 f2 r3) (hr:CW P x.a=r1/\CW P x.b=r2/\C4 L x=r3):(n3,f3,eds ++ [⟨r1,r2,zl,zr⟩])=(l.take (j+1)).foldl (Hg units P L) s0:=by
 rw [As3 hj,List.foldl_append,←hst,←hx];obtain⟨rfl,rfl,rfl⟩:=hr;show _=Hg units P L (n1,f1,eds) x;unfold Hg;rw [if_neg h0];simp only [←h1,←h2]
def bY(Q:List Hf→Prop)(units:List Bs)(m:MapZ)(faces:List Bs):Prop:=
 ∃l0 l3 nums,Q l0/\l3.Perm l0/\l3.Pairwise Kh/\m.pts=IE l3/\(nums,faces,m.eds)=l3.foldl (Hg units (IE l3) l3) (zn (List.replicate units.length 0),[],[])
def Ae9(Q:List Hf→Prop)(w0:World)(n:Nat)(units:List Bs)(e:Ending)(w':World):Prop:=
 ∃A B F c d g m faces,e=.returned (AH A B F m c d g)/\MapAt w' n units A B F c d g m faces/\Ab w0 w'/\OA w0.heap.size A B F/\bY Q units m faces
theorem Am9(Q:List Hf→Prop)(dw:∀l x y,x∈l→y∈l→Q l→WN l x y→Q (Jt l x y)){w0 w:World}(hw:Aj w0)(hx:Ab w0 w){n:Nat}(hn:n<=1000)(l:List Hf)(hl:Ej n l)(Bd:Q l)(hlen:l.length<=2000)(v:Value)(hv:w.ownsRow w0.heap.size 156 5 v l.length (Bn l))
  (units:List Bs) (AG:units.length=n) (U:Option Addr) (cu:Nat) (hU:w.ownsRow 0 9 1 (.slice U n cu) n (units.map S)) (hc1:n<=cu) (hc2:cu<=9223372036854775807) :
  Calls Tryz.prog 96 #[v,.slice U n cu] w (Ae9 Q w0 n units):=by
 obtain⟨vA,vc,rfl,-,-,-⟩:=Ad.of_own' (by omega) hv;have hb1:=(Below.heap_alloc (w.alloc (.cells #[.slice U n cu] 33)) (.cells #[.slice none 0 0,.slice none 0 0,.slice none 0 0] 35) w.heap.size (by simp)).trans (Asz w (.cells #[.slice U n cu] 33));have hb2:=Asz (w.alloc (.cells #[.slice U n cu] 33)) (.cells #[.slice none 0 0,.slice none 0 0,.slice none 0 0] 35);rw [As7]at hb2;have hE:=((Ab.refl w).alloc (.cells #[.slice U n cu] 33)).alloc (.cells #[.slice none 0 0,.slice none 0 0,.slice none 0 0] 35);have Vi:=An hv hE;have GY:=Asx (And.intro hl hlen);have HQ0:=Asx Bd;have HQJ:=Asx dw;clear hl hlen hv Bd dw;go_enter Tryz.func96,Tryz.ntmps96
 go_upto_region 2 with fail
 generalize (w.alloc (.cells #[.slice U n cu] 33)).alloc (.cells #[.slice none 0 0,.slice none 0 0,.slice none 0 0] 35)=W1 at *;obtain⟨bU,ij⟩:=Asw w.heap.size;rw [←ij]at hb1 hb2 ⊢;have Ar8:w.heap.size<=bU:=(by omega);clear ij;have hx1:=hx.trans hE
 go_loopw [0,5] (fun vv a wr=>∃(l:List Hf) (b:Bool),a=.bool b/\Q l/\Ej n l/\l.length<=2000/\wr.ownsRow w0.heap.size 156 5 vv l.length (Bn l)/\Ab W1 wr) (fun vv a _=>match a with | .bool true=>lenV vv+1|_=>0)
 case atStart=>exact⟨l,true,rfl,HQ0.out,GY.out.1,GY.out.2,Vi,Ab.refl _⟩
 case round=>
  obtain⟨l,b,rfl,Gx,hl,hlen,hv,Ae⟩:=hrel;have HL:=Asx hl;have sX:=Asx Gx;clear hl Gx;obtain⟨vA,vc,rfl,-,-,-⟩:=Ad.of_own' (by omega) hv
  cases b
  ·have AB:=Asz wr (.cells #[.slice none 0 0,.slice none 0 0,.slice none 0 0] 35);have E2:=(Ab.refl wr).alloc (.cells #[.slice none 0 0,.slice none 0 0,.slice none 0 0] 35);have hv2:=An hv E2;have BR:=Ae.trans E2
   go_upto_region 13 with fail
   generalize wr.alloc (.cells #[.slice none 0 0,.slice none 0 0,.slice none 0 0] 35)=W2 at *;obtain⟨bM,Uv⟩:=Asw wr.heap.size;rw [←Uv]at AB ⊢;have Aqt:W1.heap.size<=bM:=(by have:=Ae.size;omega);clear Uv hv E2 Ae;have Ik:=Asx hlen
   go_loopw [9] (fun iv w3=>∃(j:Nat) (l3:List Hf),iv=.int .i64 (j:Nat)/\j<=l.length/\Tq Kh l j l3/\Ej n l3/\l3.length=l.length/\w3.ownsRow w0.heap.size 156 5 (.slice vA l.length vc) l.length (Bn l3)/\Ak (fun q=>(Value.slice vA l.length vc).ownBlock=some q) W2 w3) (fun iv _=>l.length-(intOf iv).toNat)
   case atStart=>exact⟨0,l,rfl,by omega,⟨List.Perm.refl _,by simp⟩,HL.out,rfl,hv2,Ak.refl _ _⟩
   case round=>
    obtain⟨j,l3,rfl,hj,ud,hl3,pj,hv3,Cy⟩:=hrel;have Tb:=Asx ud;clear ud;have H3:=Asx (And.intro hl3 pj);clear hl3 pj;by_cases Ay:j<l.length
    ·have hj0:(0:Int)<=(j:Int):=(by omega);have FS:(j:Int)<(l.length:Int):=by omega
     go_upto_region 16 with fail
     go_loopw [10] (fun kv w4=>∃(k:Nat) (l4:List Hf),kv=.int .i64 (k:Nat)/\k<=j/\Nn Kh l j k l4/\Ej n l4/\l4.length=l.length/\w4.ownsRow w0.heap.size 156 5 (.slice vA l.length vc) l.length (Bn l4)/\Ak (fun q=>(Value.slice vA l.length vc).ownBlock=some q) W2 w4) (fun kv _=>(intOf kv).toNat)
     case atStart=>exact⟨j,l3,rfl,by omega,Tb.out.start (by rw [H3.out.2];exact Ay),H3.out.1,H3.out.2,hv3,Cy⟩
     case round=>
      obtain⟨k,l4,rfl,hk,tz,hl4,po,hv4,LS⟩:=hrel;have bJ:=Asx tz;clear tz;have H4:=Asx (And.intro hl4 po);clear hl4 po;by_cases hk0:k=0
      ·subst hk0
       go_upto_region 16 with fail
       refine Bh (by kernel_rfl) (by kernel_rfl) ?_
       repeat (go_big_quiet_step (fail))
       refine wpQuiet_nil ?_;rintro W5 ⟨q,hq⟩;have As:Ab wr W5:=hq▸q.h;clear hq q;have EZ:=An hv4 As;have XE:=LS.ext As;go_wp2;go_roundw
       case rel=>exact⟨j+1,l4,by go_num,Ay,bJ.out.stop yo (fun q e=>by omega),H4.out.1,H4.out.2,EZ,XE⟩
       case measure=>simp [intOf];omega
      ·obtain⟨q,hq⟩:∃q,k=q+1:=⟨k-1,by omega⟩;have NV:IntKind.wrap .i64 ((k:Int)-1)=(q:Int):=(by rw [As6 _ (by omega)];omega);obtain⟨g,rfl⟩:=pD hv4 (by omega);have hk4:k<l4.length:=(by rw [H4.out.2];omega);have Oc:q<l4.length:=(by omega);obtain⟨x0,x1,x2,x3,x4⟩:=Ra l4 k hk4;obtain⟨y0,y1,y2,y3,y4⟩:=Ra l4 q Oc;have Jo:=H4.out.1 _ (As1 hk4);have RA:=H4.out.1 _ (As1 Oc);obtain⟨x,hx⟩:=Asw (l4[k]);obtain⟨y,hy⟩:=Asw (l4[q]);rw [←hx]at x0 x1 x2 x3 x4 Jo;rw [←hy]at y0 y1 y2 y3 y4 RA;have c0:=(hv4.cellAt (k*5) (by omega)).trans x0;have c1:=(hv4.cellAt (k*5+1) (by omega)).trans x1;have c2:=(hv4.cellAt (k*5+2) (by omega)).trans x2;have c3:=(hv4.cellAt (k*5+3) (by omega)).trans x3;have c4:=(hv4.cellAt (k*5+4) (by omega)).trans x4;have d0:=(hv4.cellAt (q*5) (by omega)).trans y0;have d1:=(hv4.cellAt (q*5+1) (by omega)).trans y1;have d2:=(hv4.cellAt (q*5+2) (by omega)).trans y2;have d3:=(hv4.cellAt (q*5+3) (by omega)).trans y3;have d4:=(hv4.cellAt (q*5+4) (by omega)).trans y4;have D3:(0:Int)<(k:Int):=(by omega);have hkn:0<k:=(by omega);have kQ:decide (0<k)=true:=decide_eq_true hkn;have hk2:(k:Int)<(l.length:Int):=(by omega);have Bl:(0:Int)<=(q:Int):=(by omega);have Bp:(q:Int)<(l.length:Int):=(by omega);have CJ:Ab w0 wr:=LS.toExt (hx1.trans BR) (fun q e=>(hv4.lt q e).1);have ls:=fun (z:Ac wr)=>Alr x y Jo.1.sz Jo.2.1.sz RA.1.sz RA.2.1.sz z.w ((hw.ext CJ).ext z.h);obtain⟨lb,NW⟩:=Asw (Ol x y);have sJ:=Asx NW;rw [←NW]at ls;unfold GL at ls;have HQ:=Asx (And.intro hq (And.intro hx hy));clear hq hx hy x0 x1 x2 x3 x4 y0 y1 y2 y3 y4 NW;have e0:∀z:Ac wr,z.w.cell? ⟨g,k*5,none⟩=some (S (R x.a.x)):=Ac.cell c0;have e1:∀z:Ac wr,z.w.cell? ⟨g,k*5+1,none⟩=some (S (R x.a.y)):=Ac.cell c1;have e2:∀z:Ac wr,z.w.cell? ⟨g,k*5+2,none⟩=some (S (R x.b.x)):=Ac.cell c2;have e3:∀z:Ac wr,z.w.cell? ⟨g,k*5+3,none⟩=some (S (R x.b.y)):=Ac.cell c3;have e4:∀z:Ac wr,z.w.cell? ⟨g,k*5+4,none⟩=some (.int .i64 x.l):=Ac.cell c4;have f0:∀z:Ac wr,z.w.cell? ⟨g,q*5,none⟩=some (S (R y.a.x)):=Ac.cell d0;have f1:∀z:Ac wr,z.w.cell? ⟨g,q*5+1,none⟩=some (S (R y.a.y)):=Ac.cell d1;have f2:∀z:Ac wr,z.w.cell? ⟨g,q*5+2,none⟩=some (S (R y.b.x)):=Ac.cell d2;have f3:∀z:Ac wr,z.w.cell? ⟨g,q*5+3,none⟩=some (S (R y.b.y)):=Ac.cell d3;have f4:∀z:Ac wr,z.w.cell? ⟨g,q*5+4,none⟩=some (.int .i64 y.l):=Ac.cell d4
       go_upto_region 16 with fail
       refine Bh (by kernel_rfl) (by kernel_rfl) ?_
       repeat (go_big_quiet_step (with_reducible refine TL (ls _)))
       refine wpQuiet_nil ?_;rintro W5 ⟨z,hz⟩;have As:Ab wr W5:=hz▸z.h;clear hz z;have EZ:=An hv4 As;have XE:=LS.ext As
       cases lb
       ·have hst:Tq Kh l (j+1) l4:=by refine bJ.out.stop yo ?_;intro q' e h1;obtain⟨f1,f2,f3⟩:=HQ.out;obtain rfl:q'=q:=(by omega);subst f1;have e0:=sJ.out;rw [f2,f3]at e0;exact e0.symm
        have HST:=Asx hst;clear hst;clear c0 c1 c2 c3 c4 d0 d1 d2 d3 d4 e0 e1 e2 e3 e4 f0 f1 f2 f3 f4 ls;go_wp2;go_roundw
        case rel=>exact⟨j+1,l4,by go_num,Ay,HST.out,H4.out.1,H4.out.2,EZ,XE⟩
        case measure=>simp [intOf];omega
       ·replace c0:=As.cellS c0;replace c1:=As.cellS c1;replace c2:=As.cellS c2;replace c3:=As.cellS c3;replace c4:=As.cellS c4;replace d0:=As.cellS d0;replace d1:=As.cellS d1;replace d2:=As.cellS d2;replace d3:=As.cellS d3;replace d4:=As.cellS d4;clear e0 e1 e2 e3 e4 f0 f1 f2 f3 f4 ls hv4 LS CJ As;have p0:=EZ.frozenAt (k*5);have p1:=EZ.frozenAt (k*5+1);have p2:=EZ.frozenAt (k*5+2);have p3:=EZ.frozenAt (k*5+3);have p4:=EZ.frozenAt (k*5+4);have r0:=EZ.frozenAt (q*5);have r1:=EZ.frozenAt (q*5+1);have r2:=EZ.frozenAt (q*5+2);have r3:=EZ.frozenAt (q*5+3);have r4:=EZ.frozenAt (q*5+4);have hkq:¬(k=q):=(by have:=HQ.out.1;omega);have hqk:¬(q=k):=by have:=HQ.out.1;omega
        go_upto_region 18 with fail
        go_region
        have o1:=AaF (AaF EZ k y) q x;have b1:=vR (vR XE (g:=g) rfl k y) (g:=g) rfl q x;unfold S at o1 b1;generalize ((((((((((W5.setCell ⟨g,k*5,none⟩ (.string ⟨(R y.a.x).toArray⟩)).setCell ⟨g,k*5+1,none⟩ (.string ⟨(R y.a.y).toArray⟩)).setCell ⟨g,k*5+2,none⟩ (.string ⟨(R y.b.x).toArray⟩)).setCell ⟨g,k*5+3,none⟩ (.string ⟨(R y.b.y).toArray⟩)).setCell ⟨g,k*5+4,none⟩ (.int .i64 y.l)).setCell ⟨g,q*5,none⟩ (.string ⟨(R x.a.x).toArray⟩)).setCell ⟨g,q*5+1,none⟩ (.string ⟨(R x.a.y).toArray⟩)).setCell ⟨g,q*5+2,none⟩ (.string ⟨(R x.b.x).toArray⟩)).setCell ⟨g,q*5+3,none⟩ (.string ⟨(R x.b.y).toArray⟩)).setCell ⟨g,q*5+4,none⟩ (.int .i64 x.l))=W6 at *;have o2:=An o1 (Ab.refl W6).drew;have b2:=b1.ext (Ab.refl W6).drew;have hmx:x∈l4:=(by rw [HQ.out.2.1];exact As1 _);have pz:y∈l4:=by rw [HQ.out.2.2];exact As1 _
        have hin:Ej n ((l4.set k y).set q x):=by
         intro z hz
         rcases List.mem_or_eq_of_mem_set hz with e|e
         ·exact(H4.out.1.set k pz) z e
         ·rw [e];exact H4.out.1 x hmx
        have SI:=Asx hin
        have hsw:Nn Kh l j q ((l4.set k y).set q x):=by have e0:=sJ.out;have e1:=HQ.out;obtain⟨e1,e2,e3⟩:=e1;subst e1;rw [e2,e3]at e0 ⊢;exact bJ.out.swap (by rw [H4.out.2];omega) (Alk e0.symm)
        have bL:=Asx hsw;clear hsw;have ry:q<=j/\q<k:=(by have:=HQ.out.1;omega);have sW:=Asx ry;clear hin hmx pz o1 b1 c0 c1 c2 c3 c4 d0 d1 d2 d3 d4 p0 p1 p2 p3 p4 r0 r1 r2 r3 r4 ry;go_wp2;go_roundw
        case rel=>exact⟨q,(l4.set k y).set q x,by go_num,sW.out.1,bL.out,SI.out,by rw [List.length_set,List.length_set];exact H4.out.2,o2,b2⟩
        case measure=>have:=sW.out.2;simp [intOf];omega
    ·have D2:j=l.length:=(by omega);subst D2;have QJ:=Cy.cells AB (Av hv2 AB (by decide));have BL:Ab w0 wr:=Cy.toExt (hx1.trans BR) (fun q e=>(hv3.lt q e).1);have Ajv:(l.length:Int)<=(l.length:Int):=(by omega);have ik:=Cy.cells ((BR.block _ (Asy hb1)).trans hb1) (Av hv2 ((BR.block _ (Asy hb1)).trans hb1) (by decide));have AiH:=Cy.cells ((BR.block _ (Asy hb2)).trans hb2) (Av hv2 ((BR.block _ (Asy hb2)).trans hb2) (by decide));have ii:bU+1≠bM:=by have:=Asy hb2;omega
     have Mc:wr.ownsRow 0 9 1 (.slice U n cu) n (units.map S):=by
      refine AS (An hU (hE.trans BR)) Cy (fun q Bl Bp=>?_)
      rcases hv2.2 with⟨h',_⟩|⟨g,cap,cur,h',_,hgb,_⟩
      ·rw [h']at Bp;cases Bp
      ·rw [h']at Bp;simp only [Value.ownBlock,As4]at Bp;subst Bp;exact Av (An hU (hE.trans BR)) hgb (by decide) Bl
     obtain⟨W3,rfl⟩:=Li BL;have hPT:Nk W3 W3 bM (.slice none 0 0) []:=⟨QJ,⟨rfl,.inl ⟨rfl,rfl⟩⟩,Ak.refl _ _,fun p hp=>by cases hp⟩;have CG:=Asy QJ
     go_upto_region 20 with fail
     go_loopw [79] (fun iv wp=>∃(j:Nat) (P:Value) (pts:List Pt),iv=.int .i64 (j:Nat)/\j<=l.length/\pts.length<=j/\pts=IE (l3.take j)/\Nk W3 wp bM P pts) (fun iv _=>l.length-(intOf iv).toNat)
     case atStart=>exact⟨0,_,[],rfl,by omega,by simp,rfl,hPT⟩
     case round=>
      obtain⟨j,P,pts,rfl,hj,hpl,rf,hP⟩:=hrel;have sV:=Asx rf;clear rf;obtain⟨oP,cP,rfl,lW,-,-⟩:=Ad.of_own' (by omega) hP.own;have Fa:=AS hv3 hP.but (fun q hq e=>by subst e;exact Av hv3 QJ (by decide) hq);by_cases Ay:j<l.length
      ·obtain⟨g,rfl⟩:=pD Fa (by omega);have NU:j<l3.length:=(by rw [H3.out.2];exact Ay);obtain⟨x0,x1,x2,x3,x4⟩:=Ra l3 j NU;have Jo:=H3.out.1 _ (As1 NU);obtain⟨x,hx⟩:=Asw (l3[j]);rw [←hx]at x0 x1 x2 x3 x4 Jo;have c0:=(Fa.cellAt (j*5) (by omega)).trans x0;have c1:=(Fa.cellAt (j*5+1) (by omega)).trans x1;have c2:=(Fa.cellAt (j*5+2) (by omega)).trans x2;have c3:=(Fa.cellAt (j*5+3) (by omega)).trans x3;have c4:=(Fa.cellAt (j*5+4) (by omega)).trans x4;have hj0:(0:Int)<=(j:Int):=(by omega);have FS:(j:Int)<(l.length:Int):=(by omega);have G4:=Asx ((Ano NU hx).trans (congrArg (G8 · x.a) sV.out.symm));clear hx x0 x1 x2 x3 x4;have Ax:=Asz wr (.cells #[S (R x.a.x),S (R x.a.y),S (R x.b.x),S (R x.b.y),.int .i64 x.l] 156);have E4:=(Ab.refl wr).alloc (.cells #[S (R x.a.x),S (R x.a.y),S (R x.b.x),S (R x.b.y),.int .i64 x.l] 156);have LZ:=hP.ext E4;have lV:=lW.ext E4
       go_upto_region 22 with fail
       unfold S at Ax LZ lV;generalize (wr.alloc (.cells #[.string ⟨(R x.a.x).toArray⟩,.string ⟨(R x.a.y).toArray⟩,.string ⟨(R x.b.x).toArray⟩,.string ⟨(R x.b.y).toArray⟩,.int .i64 x.l] 156))=W4 at *;obtain⟨bx,JQ⟩:=Asw wr.heap.size;rw [←JQ]at Ax ⊢;clear JQ c0 c1 c2 c3 c4 E4 Fa lW hP;have q0:∀z:Ac W4,z.w.cell? ⟨bM,0,none⟩=some (.slice oP pts.length cP):=Ac.cell (Aa LZ.cM rfl);have q1:∀z:Ac W4,z.w.cell? ⟨bx,0,none⟩=some (S (R x.a.x)):=Ac.cell (Aa Ax rfl);have q2:∀z:Ac W4,z.w.cell? ⟨bx,1,none⟩=some (S (R x.a.y)):=Ac.cell (Aa Ax rfl);have pn:=Sq
       have U4:(∃t,pts.length=t+1/\∃y,Aq y x.a=true/\pts[t]?=some y)∨pts.length=0∨(∃t,pts.length=t+1/\∃y,Aq y x.a=false/\pts[t]?=some y):=by
        rcases Nat.eq_zero_or_pos pts.length with h0|h0
        ·exact .inr (.inl h0)
        ·have hlt:pts.length-1<pts.length:=by omega
         cases hb:Aq pts[pts.length-1] x.a
         ·exact .inr (.inr ⟨pts.length-1,by omega,_,hb,As5 hlt⟩)
         ·exact .inl ⟨pts.length-1,by omega,_,hb,As5 hlt⟩
       rcases U4 with⟨t,ht,y,hy,Jp⟩|kY
       ·have SU:=Asx (G4.out.trans (AeQ ht hy Jp)).symm;obtain⟨PD,Vh⟩:=List.getElem?_eq_some_iff.1 Jp;obtain⟨bp,op,rfl,y0,y1⟩:=BN lV PD;rw [Vh]at y0 y1;have q3:∀z:Ac W4,z.w.cell? ⟨bp,op+t*2,none⟩=some (S (R y.x)):=Ac.cell y0;have q4:∀z:Ac W4,z.w.cell? ⟨bp,op+t*2+1,none⟩=some (S (R y.y)):=Ac.cell y1;obtain⟨pl,Jn⟩:=Asw pts.length;rw [←Jn]at q0;have hw1:IntKind.wrap .i64 ((pl:Int)-1)=(t:Int):=(by rw [As6 _ (by omega)];omega);have Oa:((pl:Int) == 0)=false:=beq_false_of_ne (by omega);have ht0:(0:Int)<=(t:Int):=(by omega);have ht1:(t:Int)<(pl:Int):=(by omega);have HP:=Asx (And.intro Jn hpl);clear ht Jn Jp Vh PD y0 y1;refine Bh (by kernel_rfl) (by kernel_rfl) ?_
        repeat (go_big_quiet_step (fail))
        refine wpQuiet_nil ?_;rintro W5 ⟨z,hz⟩;have As:Ab W4 W5:=hz▸z.h;clear hz z;have Gt:=LZ.ext As;clear q0 q1 q2 q3 q4;go_wp2;go_roundw
        case rel=>exact⟨j+1,_,pts,by go_num,Ay,by omega,SU.out,Gt⟩
        case measure=>simp [intOf];omega
       ·have SU:=Asx (G4.out.trans (AeP kY)).symm
        go_cut [99] (fun v wx=>v=.bool true/\Ab W4 wx)
        case first=>
         rcases kY with h0|⟨t,ht,y,hy,Jp⟩
         ·rw [h0]at q0;refine Bh (by kernel_rfl) (by kernel_rfl) ?_
          repeat (go_big_quiet_step (fail))
          refine wpQuiet_nil ?_;rintro W5 ⟨z,hz⟩;have As:Ab W4 W5:=hz▸z.h;clear hz z q0 q1 q2;go_wp2;go_meet;exact⟨rfl,As⟩
         ·obtain⟨PD,Vh⟩:=List.getElem?_eq_some_iff.1 Jp;obtain⟨bp,op,rfl,y0,y1⟩:=BN lV PD;rw [Vh]at y0 y1;have q3:∀z:Ac W4,z.w.cell? ⟨bp,op+t*2,none⟩=some (S (R y.x)):=Ac.cell y0;have q4:∀z:Ac W4,z.w.cell? ⟨bp,op+t*2+1,none⟩=some (S (R y.y)):=Ac.cell y1;obtain⟨pl,Jn⟩:=Asw pts.length;rw [←Jn]at q0;have hw1:IntKind.wrap .i64 ((pl:Int)-1)=(t:Int):=(by rw [As6 _ (by omega)];omega);have Oa:((pl:Int) == 0)=false:=beq_false_of_ne (by omega);have ht0:(0:Int)<=(t:Int):=(by omega);have ht1:(t:Int)<(pl:Int):=(by omega);clear ht Jn Jp Vh PD y0 y1;refine Bh (by kernel_rfl) (by kernel_rfl) ?_
          repeat (go_big_quiet_step (fail))
          refine wpQuiet_nil ?_;rintro W5 ⟨z,hz⟩;have As:Ab W4 W5:=hz▸z.h;clear hz z q0 q1 q2 q3 q4;go_wp2;go_meet;exact⟨rfl,As⟩
        case rest=>
         obtain⟨rfl,As⟩:=hcut;obtain⟨W5,rfl⟩:=Li As;have Gt:=LZ.ext As;have jw:=(As.block _ (Asy Ax)).trans Ax;have z0:=Aa (o:=0) jw rfl;have z1:=Aa (o:=1) jw rfl;have z2:W5.cell? ⟨bM,0,none⟩=some (.slice oP pts.length cP):=Aa Gt.cM rfl;have hbase:W3.heap.size<=W5.heap.size:=Gt.but.size;have UM:=Ik.out;clear q0 q1 q2 kY Ax
         go_wp2_with (at_builtin;go_loud (refine Afk rfl _ _ rfl _ W3.heap.size (.slice oP pts.length cP) pts.length pts rfl (An Gt.own ((Ab.refl W5).alloc _)) (by omega) x.a W5.heap.size (Asz W5 _) rfl (by simp;omega) ?_);intro v7 w7 CU DJ;obtain⟨h7,Uj⟩:=Gt.app CG Jo.1 ((Ab.refl W5).alloc _) DJ CU;obtain⟨oP7,cP7,rfl,-,-,-⟩:=Ad.of_own' (by omega) CU;have k0:w7.cell? ⟨bM,0,none⟩=some (.slice oP pts.length cP):=Aa h7 rfl;have k1:=Ah (o:=0) h7)
         have C9:=Asx Uj;clear Uj DJ CU h7 Gt LZ z0 z1 z2;go_wp2;go_roundw
         case rel=>exact⟨j+1,_,pts ++ [x.a],by go_num,Ay,by rw [List.length_append,List.length_singleton];omega,SU.out,C9.out⟩
         case measure=>simp [intOf];omega
      ·have D2:j=l.length:=(by omega);subst D2;have hmk:=nS n (by omega) (n:Int) rfl wr;have Rt:∀(fn:Fn) (first cap:Array Value) (w:World),(Instr.makeFunc fn first cap).run Tryz.prog w=.ok (.func fn first cap) w:=fun _ _ _ _=>rfl;have NE:=hP.but.cells ik (BF ik QJ (by decide));have Yc:=hP.but.cells AiH ii;have u0:wr.cell? ⟨bU,0,none⟩=some (.slice U n cu):=Aa NE rfl;have iI:=AS Mc hP.but (fun q hq e=>by subst e;exact Av Mc QJ (by decide) hq);have Ea:=(Ab.refl wr).alloc (.cells (madeCells #[.int .i64 0] n) 3);have Eb:=(Ab.refl (wr.alloc (.cells (madeCells #[.int .i64 0] n) 3))).alloc (.cells #[.slice (some ⟨wr.heap.size,0,none⟩) n n] 76);have BB:=Asz (wr.alloc (.cells (madeCells #[.int .i64 0] n) 3)) (.cells #[.slice (some ⟨wr.heap.size,0,none⟩) n n] 76);rw [As7]at BB;have lG:=An (Z4 wr 0 n (Nat.zero_le _) (by omega)) Eb;have GG:=Ea.trans Eb;have ug:((wr.alloc (.cells (madeCells #[.int .i64 0] n) 3)).alloc (.cells #[.slice (some ⟨wr.heap.size,0,none⟩) n n] 76)).heap.size=wr.heap.size+2:=by simp
       go_upto_region 27 with fail
       have Gt:=hP.ext GG;have Ul:=An iI GG;have QQ:=(GG.block _ (Asy NE)).trans NE;have EZ:=An (AS hv3 hP.but (fun q hq e=>by subst e;exact Av hv3 QJ (by decide) hq)) GG;have ut:∀k,(Value.slice U n cu).ownBlock=some k→k<wr.heap.size:=fun k hk=>(iI.lt k hk).2;have ig:=(GG.block _ (Asy Yc)).trans Yc;have AiM:w0.heap.size<=wr.heap.size:=AsA BL.size hP.but.size;clear hmk Ea Eb GG hP iI NE u0;generalize (wr.alloc (.cells (madeCells #[.int .i64 0] n) 3)).alloc (.cells #[.slice (some ⟨wr.heap.size,0,none⟩) n n] 76)=W5 at *;obtain⟨Bc,Cv⟩:=Asw wr.heap.size;rw [←Cv]at BB lG ug AiM ⊢;have AqF:Bc<W5.heap.size:=by omega
       have Pf:Fi W5 W5 n (Bc+1) Bc bM bU U cu units (.slice oP pts.length cP) (.slice none 0 0) (.slice none 0 0) (zn (List.replicate n 0)) [] []:=by
        refine⟨⟨BB,lG,Gt.cM,⟨rfl,.inl ⟨rfl,rfl⟩⟩,QQ,Ul,fun k hk=>?_,by simp [zn],AG,hc1,hc2,?_,?_,?_⟩,⟨rfl,.inl ⟨rfl,rfl⟩⟩,Ak.refl _ _⟩
        ·have:=ut k hk;omega
        ·intro z hz;simp [zn]at hz;obtain⟨-,rfl⟩:=hz;simp
        ·exact AsA (Nat.add_le_add_left List.countP_le_length _) (by simp [zn])
        ·intro s hs;cases hs
       have Aqs:bM<W5.heap.size:=Asy Gt.cM;have dn:=Gt.sheet;have QO:=Ef Gt.own BL.size;have ER:Ab w0 W5:=Gt.but.toExt BL (fun q e=>by subst e;have:=hx1.size;omega);have KV:=Ef EZ (Nat.zero_le _);have UM:=Ik.out;have SX:=Asx (And.intro dn (And.intro hpl (show pts=IE l3 by rw [sV.out,As8 (by rw [H3.out.2];exact As0 _)])));clear BB lG Gt Ul QQ EZ ut ug Cv dn hpl lW Fa
       go_upto_region 28 with fail
       go_loopw [114] (fun iv we=>∃(j:Nat) (E F:Value) (nums:List Int) (faces:List Bs) (eds:List EdZ),iv=.int .i64 (j:Nat)/\j<=l.length/\eds.length<=j/\(nums,faces,eds)=(l3.take j).foldl (Hg units pts l3) (zn (List.replicate n 0),[],[])/\Fi W5 we n (Bc+1) Bc bM bU U cu units (.slice oP pts.length cP) E F nums faces eds) (fun iv _=>l.length-(intOf iv).toNat)
       case atStart=>exact⟨0,_,_,_,[],[],rfl,by omega,by simp,rfl,Pf⟩
       case round=>
        obtain⟨j,E,F,nums,faces,eds,rfl,hj,hel,l9,hS⟩:=hrel;have IK:=Asx l9;clear l9;by_cases Ay:j<l.length
        ·obtain⟨g,rfl⟩:=pD KV (by omega);have NU:j<l3.length:=(by rw [H3.out.2];exact Ay);obtain⟨x0,x1,x2,x3,x4⟩:=Ra l3 j NU;have Jo:=H3.out.1 _ (As1 NU);obtain⟨x,hx⟩:=Asw (l3[j]);rw [←hx]at x0 x1 x2 x3 x4 Jo;obtain⟨cn,BB⟩:=Ic hS.nam.num
         have Fa:=AS KV hS.but (by
          rintro q hq (e|e)
          ·subst e;obtain⟨wZ,Rb⟩:=Ic Pf.nam.num;exact Av KV Rb (by decide) hq
          ·subst e;exact Av KV Pf.nam.cM (by decide) hq)
         have Ma:=AS QO hS.but (by
          rintro q hq (e|e)
          ·subst e;obtain⟨wZ,Rb⟩:=Ic Pf.nam.num;exact Av QO Rb (by decide) hq
          ·subst e;exact Av QO Pf.nam.cM (by decide) hq)
         have fl:∀{w':World},Ak (fun q=>q=Bc∨q=bM) W5 w'→Ab w0 w':=fun h=>h.toExt ER (by
          have h0:=hx1.size
          rintro q (e|e)<;>omega)
         have BG:Ab w0 wr:=fl hS.but;have c0:=(Fa.cellAt (j*5) (by omega)).trans x0;have c1:=(Fa.cellAt (j*5+1) (by omega)).trans x1;have c2:=(Fa.cellAt (j*5+2) (by omega)).trans x2;have c3:=(Fa.cellAt (j*5+3) (by omega)).trans x3;have c4:=(Fa.cellAt (j*5+4) (by omega)).trans x4;have hj0:(0:Int)<=(j:Int):=(by omega);have FS:(j:Int)<(l.length:Int):=(by omega);have HX:=Asx hx;clear hx x0 x1 x2 x3 x4;have Ax:=Asz wr (.cells #[S (R x.a.x),S (R x.a.y),S (R x.b.x),S (R x.b.y),.int .i64 x.l] 156);have E6:=(Ab.refl wr).alloc (.cells #[S (R x.a.x),S (R x.a.y),S (R x.b.x),S (R x.b.y),.int .i64 x.l] 156);have iC:=hS.extn E6;have gR:=An Ma E6;have mP:=An Fa E6;have BY:=BG.trans E6
         go_upto_region 30 with fail
         unfold S at Ax iC gR mP BY;generalize (wr.alloc (.cells #[.string ⟨(R x.a.x).toArray⟩,.string ⟨(R x.a.y).toArray⟩,.string ⟨(R x.b.x).toArray⟩,.string ⟨(R x.b.y).toArray⟩,.int .i64 x.l] 156))=W6 at *;obtain⟨bh,Do⟩:=Asw wr.heap.size;rw [←Do]at Ax ⊢;clear Do c0 c1 c2 c3 c4 E6 Fa Ma hS BG BB;have lc:=nM x.a x.b Jo.1.sz Jo.2.1.sz W6 (hw.ext BY);obtain⟨lz,UP⟩:=Asw (AY x.a x.b);rw [←UP]at lc;have Wv:=Asx UP;unfold Af at lc;have z0:=Aa (o:=0) Ax rfl;have z1:=Aa (o:=1) Ax rfl;have z2:=Aa (o:=2) Ax rfl;have z3:=Aa (o:=3) Ax rfl;(go_wp2_with fail);(with_reducible refine lc.mono ?_);rintro e W7 ⟨rfl,Az⟩;have Mb:=iC.extn Az;by_cases Arp:0<lz
         ·clear z0 z1 z2 z3 lc;go_wp2;go_roundw
          case rel=>exact⟨j+1,E,F,nums,faces,eds,by go_num,Ay,by omega,AgX NU HX.out (by rw [←Wv.out];omega) IK.out,Mb⟩
          case measure=>simp [intOf];omega
         ·have dl:=An gR Az;have vk:=An mP Az;have Cl:=BY.trans Az;have ES:=(Az.block _ (Asy Ax)).trans Ax;have nc:=Aao Mb.nam (by omega) Mb.but.size x.l Jo.2.2.2.1 Jo.2.2.2.2;have y4:=Aa (o:=4) ES rfl;clear z0 z1 z2 z3 lc iC gR mP BY Ax Az;(go_wp2_with fail);(with_reducible refine nc.mono ?_);rintro e W8 ⟨zl,F8,nums8,faces8,rfl,hn8,Cz,hnf8⟩;have AdI:=Asx hnf8;clear hnf8;have XS:=Mb.name hn8 Cz;have JM:Ab w0 W8:=fl XS.but;obtain⟨cn7,Rc⟩:=Ic Mb.nam.num
          have Mw:∀{B:Nat} {e:TypeId} {s m:Nat} {v:Value} {xs:List Value},W7.ownsRow B e s v m xs→e≠3→e≠35→e≠9→W8.ownsRow B e s v m xs:=by
           intro B e s m v xs hv h1 h2 h3;refine AS hv Cz ?_;rintro k hk (q|q|q)
           ·subst q;exact Av hv Rc h1 hk
           ·subst q;exact Av hv Mb.nam.cM h2 hk
           ·rcases hv.2 with⟨h',_⟩|⟨g,cap,cur,h',_,hgb,_⟩
            ·rw [h']at hk;cases hk
            ·rw [h']at hk;simp only [Value.ownBlock,As4]at hk;subst hk;exact Av Mb.nam.fac hgb (fun e0=>h3 e0.symm) q
          have Yi:=Cz.cells ES (by
           rintro(q|q|q)
           ·subst q;exact BF ES Rc (by decide) rfl
           ·subst q;exact BF ES Mb.nam.cM (by decide) rfl
           ·exact Av Mb.nam.fac ES (by decide) q)
          have dm:=Mw dl (by decide) (by decide) (by decide);have vn:=Mw vk (by decide) (by decide) (by decide);clear Mw Cz hn8 nc y4 dl vk ES;obtain⟨oE,cE,rfl,-,-,-⟩:=Ad.of_own' (by omega) XS.own;obtain⟨oF,cF,rfl,-,-,-⟩:=Ad.of_own' (by omega) XS.nam.fac;obtain⟨oP',cP',lw,rz,Pe,QN⟩:=Ad.of_own' (by omega) dm;simp only [Value.slice.injEq,true_and]at lw;obtain⟨rfl,rfl⟩:=lw;obtain⟨oV,cV,ly,hrV,hV1,hV2⟩:=Ad.of_own' (by omega) vn;simp only [Value.slice.injEq,true_and]at ly;obtain⟨rfl,rfl⟩:=ly;have i1:=fun (w':World) (h:Ab W8 w')=>zb pts x.a oP cP (.slice oE eds.length cE) (.slice oF faces8.length cF) w' (rz.ext h) Pe QN;have i2:=fun (w':World) (h:Ab W8 w')=>zb pts x.b oP cP (.slice oE eds.length cE) (.slice oF faces8.length cF) w' (rz.ext h) Pe QN;have bk:=fun (w':World) (h:Ab W8 w')=>Xe l3 x (some ⟨g,0,none⟩) vc w' (hrV.ext h) (by rw [H3.out.2];exact hV1) hV2;rw [H3.out.2]at bk;have hbr:=H3.out.1.back x;generalize hr1:CW pts x.a=r1 at *;generalize hr2:CW pts x.b=r2 at *;generalize hr3:C4 l3 x=r3 at *;have HR:=Asx (And.intro hr1 (And.intro hr2 hr3));clear hr1 hr2 hr3;have Aja:eds.length<200000:=(by omega);have kZ:n<=100000:=(by omega);clear Rc dm vn
          go_upto_region 32 with fail
          refine AnP (c:=⟨W5,W8,_,_,n,Bc+1,Bc,bM,bU,bh,cu,U,units,.slice oP pts.length cP,.slice oE eds.length cE,.slice oF faces8.length cF,nums8,faces8,eds,x,r1,r2,r3,zl,.slice (some ⟨g,0,none⟩) l.length vc⟩) ⟨XS,Yi,kZ,Aja,i1,i2,bk,hbr.1,hbr.2,rfl,rfl,rfl,rfl,rfl,by simp,rfl,by kernel_rfl,by kernel_rfl⟩ ?_;intro a w9 zr E9 F9 Amc OR hfr Gr ql;have Wu:=Asx (AgW NU HX.out (by rw [←Wv.out];omega) IK.out AdI.out ql HR.out);clear ql;have hSf:Fi W5 w9 n (Bc+1) Bc bM bU U cu units (.slice oP pts.length cP) E9 F9 Amc OR (eds ++ [⟨r1,r2,zl,zr⟩]):=Gr;obtain⟨vs,rfl⟩:=hfr.lit32 (by simp);simp only [List.take_succ_cons,List.take_zero,List.drop_succ_cons,List.drop_zero,List.cons_append,List.nil_append];go_wp2;go_roundw
          case rel=>exact⟨j+1,_,_,_,_,eds ++ [⟨r1,r2,zl,zr⟩],by go_num,Ay,by rw [List.length_append,List.length_singleton];omega,Wu.out,hSf⟩
          case measure=>simp [intOf];omega
        ·have D2:j=l.length:=(by omega);subst D2;have Arj:(l.length:Int)<=(l.length:Int):=(by omega);obtain⟨cn,BB⟩:=Ic hS.nam.num;obtain⟨wZ,Rb⟩:=Ic Pf.nam.num;obtain⟨oE,cE,rfl,-,-,-⟩:=Ad.of_own' (by omega) hS.own;obtain⟨oF,cF,rfl,-,-,-⟩:=Ad.of_own' (by omega) hS.nam.fac
         have Ma:=AS QO hS.but (by
          rintro q hq (e|e)
          ·subst e;exact Av QO Rb (by decide) hq
          ·subst e;exact Av QO Pf.nam.cM (by decide) hq)
         have DX:=hS.but.cells ig (by
          rintro(e|e)
          ·exact BF ig Rb (by decide) e
          ·exact ii e)
         have BG:Ab w0 wr:=hS.but.toExt ER (by
          have h0:=hx1.size
          rintro q (e|e)<;>omega)
         have m0:wr.cell? ⟨bM,0,none⟩=some (.slice oP pts.length cP):=Aa hS.nam.cM rfl;have m1:wr.cell? ⟨bM,1,none⟩=some (.slice oE eds.length cE):=Aa hS.nam.cM rfl;have m2:wr.cell? ⟨bM,2,none⟩=some (.slice oF faces.length cF):=Aa hS.nam.cM rfl;have r0:wr.cell? ⟨bU+1,0,none⟩=some (.slice none 0 0):=Aa DX rfl;have r1:wr.cell? ⟨bU+1,1,none⟩=some (.slice none 0 0):=Aa DX rfl;have r2:wr.cell? ⟨bU+1,2,none⟩=some (.slice none 0 0):=Aa DX rfl;have r3:=Ah (o:=0) DX;have r4:=Ah (o:=1) DX;have r5:=Ah (o:=2) DX;have AA:=Dd (.slice oP pts.length cP) (.slice oE eds.length cE) (.slice oF faces.length cF) DX;have bb:=(((Ak.refl (fun q=>q=bU+1) wr).setCell (p:=⟨bU+1,0,none⟩) (.inl rfl) (.slice oP pts.length cP)).setCell (p:=⟨bU+1,1,none⟩) (.inl rfl) (.slice oE eds.length cE)).setCell (p:=⟨bU+1,2,none⟩) (.inl rfl) (.slice oF faces.length cF);have f1:=AS Ma bb (fun q hq e=>by subst e;exact Av Ma DX (by decide) hq);have f2:=AS hS.own bb (fun q hq e=>by subst e;exact Av hS.own DX (by decide) hq);have f3:=AS hS.nam.fac bb (fun q hq e=>by subst e;exact Av hS.nam.fac DX (by decide) hq);have Hu:=bb.toExt BG (fun q e=>by subst e;have:=hx.size;omega);obtain⟨A1,c1,e1,g1,g2,g3⟩:=Ad.of_own' (by omega) f1;obtain⟨A2,c2,e2,g4,g5,g6⟩:=Ad.of_own' (by omega) f2;obtain⟨A3,c3,e3,g7,g8,g9⟩:=Ad.of_own' (by omega) f3;simp only [Value.slice.injEq,true_and]at e1 e2 e3;obtain⟨rfl,rfl⟩:=e1;obtain⟨rfl,rfl⟩:=e2;obtain⟨rfl,rfl⟩:=e3;have hfn:faces.length<=n:=by have:=hS.nam.cnt;omega
         have AQ:MapAt (((wr.setCell ⟨bU+1,0,none⟩ (.slice oP pts.length cP)).setCell ⟨bU+1,1,none⟩ (.slice oE eds.length cE)).setCell ⟨bU+1,2,none⟩ (.slice oF faces.length cF)) n units oP oE oF cP cE cF ⟨pts,eds,faces.length⟩ faces:=
          ⟨⟨g2,g3,g5,g6,g8,g9⟩,g1,g4,g7,rfl,hfn,SX.out.1,hS.nam.txt⟩
         have t1:=Aa (o:=0) AA rfl;have t2:=Aa (o:=1) AA rfl;have t3:=Aa (o:=2) AA rfl;have hfr:OA w0.heap.size oP oE oF:=⟨by first|exact RZ f1|exact RZ (Ef f1 ER.size),by first|exact RZ f2|exact RZ (Ef f2 ER.size),by first|exact RZ f3|exact RZ (Ef f3 ER.size)⟩;have EY:l3.take l.length=l3:=As8 (by rw [H3.out.2];exact As0 _)
         have q9:bY Q units ⟨pts,eds,faces.length⟩ faces:=by
          have h1:=IK.out;have h2:=Tb.out;have h3:=SX.out.2.2;rw [EY]at h1;refine⟨l,l3,nums,sX.out,h2.1,?_,h3,?_⟩
          ·have h4:=h2.2
           rwa [EY]at h4
          ·rw [AG,←h3];exact h1
         have Bf:=Asx (And.intro AQ (And.intro Hu (And.intro hfr q9)));clear q9 EY;clear AQ Hu hfr f1 f2 f3 g1 g4 g7 bb AA DX hS Ma;go_wp2;refine bodyPost_ret (v:=.agg #[.slice oP pts.length cP,.slice oE eds.length cE,.slice oF faces.length cF]) (by simp [results,Tryz.results96,go_sem,t1,t2,t3]) rfl ?_;exact⟨oP,oE,oF,cP,cE,cF,⟨pts,eds,faces.length⟩,faces,rfl,Bf.out.1,Bf.out.2.1,Bf.out.2.2.1,Bf.out.2.2.2⟩
  ·go_upto_region 5 with fail
   go_loopw [0,5,6] (fun vv a i wr=>∃(l1:List Hf) (b:Bool) (j:Nat),a=.bool b/\i=.int .i64 (j:Nat)/\j<=2001/\Q l1/\Ej n l1/\l1.length<=2000/\wr.ownsRow w0.heap.size 156 5 vv l1.length (Bn l1)/\Ab W1 wr/\(b=false→l1.length=l.length)/\(b=true→l1.length<l.length)) (fun vv a i _=>match a with | .bool true=>0|_=>lenV vv+1-(intOf i).toNat)
   case atStart=>exact⟨l,false,0,rfl,rfl,by omega,sX.out,HL.out,hlen,hv,Ae,fun _=>rfl,fun h=>by cases h⟩
   case round=>
    obtain⟨l1,b,j,rfl,rfl,hj,Bl,GM,YD,Vj,La,Yw,mG⟩:=hrel;have OD:=Asx GM;have SY:=Asx Bl;clear GM Bl;obtain⟨vA1,vc1,rfl,r7,jz,j7⟩:=Ad.of_own' (by omega) Vj
    cases b
    ·have J2:=Asx (Yw rfl);clear Yw mG;by_cases Ay:j<l1.length
     ·have hj0:(0:Int)<=(j:Int):=(by omega);have FS:(j:Int)<(l1.length:Int):=(by omega);have mW:=hx1.trans La;have nd:=AlS l1 OD.out.ok (by omega) j Ay vA1 vc1 wr (hw.ext mW) r7 jz j7;(go_wp2_with fail);(with_reducible refine nd.mono ?_);rintro e w5 ⟨k,rfl,As,hk⟩;by_cases hk0:k<0
      ·have hHK:=hk0;have EZ:=An Vj As;go_wp2;go_roundw
       case rel=>exact⟨l1,false,j+1,rfl,by go_num,by omega,SY.out,OD.out,YD,EZ,La.trans As,fun _=>J2.out,fun h=>by cases h⟩
       case measure=>simp [lenV,intOf];omega
      ·obtain⟨kk,C6,rfl,DZ⟩:=hk.resolve_left hk0;have kj:=DZ.two
       have YG:Aq l1[j].a l1[kk].b=false:=by rw [Bool.eq_false_iff];exact fun e=>DZ.nb (Ca.1 e).symm
       have Bp:=HQJ.out _ _ _ (As1 Ay) (As1 C6) SY.out DZ;clear DZ;have jc:=AkU l1 (by omega) j kk Ay C6 vA1 vc1 w5 (r7.ext As) jz j7;have hJ:=AkS OD.out (As1 Ay) (As1 C6) YG;have hJl:=AkR OD.out (x:=l1[j]) (y:=l1[kk]) (As1 Ay) kj;generalize Jt l1 l1[j] l1[kk]=l2 at *;have HJ:=Asx hJ;have HQ2:=Asx Bp;clear hk kj YG hJ Bp;(go_wp2_with fail);(with_reducible refine jc.mono ?_);rintro e w6 ⟨v6,rfl,hv6,AX⟩;have Vk:=Ef hv6 (AsA (hx1.trans (La.trans As)).size (As0 _));have hlv:=Alp Vk;have BY:=La.trans (As.trans AX);go_wp2;go_roundw
       case rel=>exact⟨l2,true,j+1,rfl,by go_num,by omega,HQ2.out,HJ.out,by have:=J2.out;omega,Vk,BY,(fun h=>by cases h),fun _=>by have:=J2.out;omega⟩
       case measure=>simp [lenV,intOf];omega
     ·have FS:¬((j:Int)<(l1.length:Int)):=(by omega);go_wp2;go_roundw
      case rel=>exact⟨l1,false,rfl,SY.out,OD.out,YD,Vj,La⟩
      case measure=>simp [lenV]
    ·have hlt:=mG rfl;clear Yw mG;by_cases Ay:j<l1.length
     ·have FS:(j:Int)<(l1.length:Int):=(by omega);go_wp2;go_roundw
      case rel=>exact⟨l1,true,rfl,SY.out,OD.out,YD,Vj,La⟩
      case measure=>simp [lenV];omega
     ·have FS:¬((j:Int)<(l1.length:Int)):=(by omega);go_wp2;go_roundw
      case rel=>exact⟨l1,true,rfl,SY.out,OD.out,YD,Vj,La⟩
      case measure=>simp [lenV];omega
end Go.Proofs.YtnddllipjippnaaGreatDoor
namespace Go.Proofs.YtnddllipjippnaaGreatDoor
section
open Go.RowKit Kl
theorem Aam(n:Nat)(hn:n<=200000)(c:Int)(hc:c=(n:Int))(W:World) :
  (Instr.makeSlice 33 (.int .i64 c) (.int .i64 c)).run Tryz.prog W=.ok (.slice (some ⟨W.heap.size,0,none⟩) n n) (W.alloc (.cells (madeCells #[S []] n) 9)):=by
 subst hc;obtain⟨i0,hi,hz0,hz1,hz2⟩:=info_parts Tryz.infoStr;have h:=run_make (P:=Tryz.prog) W 33 9 i0 (S []) Tryz.underlying33 hi hz0 .i64 .i64 n n (by omega) (by omega) (by rw [hz2];omega) (by omega);rw [hz1,Nat.mul_one]at h;simp only [Int.toNat_natCast]at h;exact h
theorem AaK(W:World)(base n:Nat)(hb:base<=W.heap.size)(hn:n<=200000) :
  (W.alloc (.cells (madeCells #[S []] n) 9)).ownsRow base 9 1 (.slice (some ⟨W.heap.size,0,none⟩) n n) n ((List.replicate n []).map S):=by
 have h:=World.ownsRow_lit (w:=W) (base:=base) (e:=9) (size:=1) (madeCells #[S []] n) n hb (by unfold maxLen;omega) (by rw [size_madeCells];omega);rw [toList_madeCells_one]at h
 simpa using h
def Lz(us:List Bs)(k:Nat):List Bs:=(List.range us.length).map fun i=>if i<k then us.getD i [] else []
theorem Aps(us:List Bs):Lz us 0=List.replicate us.length []:=by
 unfold Lz;apply List.ext_getElem
 ·simp
 ·intro i h1 h2;simp
theorem Apr{us:List Bs}{k:Nat}(h:k<us.length):(Lz us k).set k us[k]=Lz us (k+1):=by
 unfold Lz;apply List.ext_getElem
 ·simp
 ·intro i h1 h2;by_cases e:k=i
  ·subst e;simp [List.getD_eq_getElem?_getD,As5 h]
  ·rw [List.getElem_set_ne e];have:(i<k+1)↔i<k:=(by omega);simp [this]
theorem Apq(us:List Bs):Lz us us.length=us:=by
 unfold Lz;apply List.ext_getElem
 ·simp
 ·intro i h1 h2;simp only [List.length_map,List.length_range]at h1;simp [h1,List.getD_eq_getElem?_getD]
theorem Apj{w:World}{bR o:Nat}{t:TypeId}{v:Value}(hb:w.heap[bR]?=some (.cells #[.slice none 0 0,.slice none 0 0,.slice none 0 0] t))(h:w.cell? ⟨bR,o,none⟩=some v):v=.slice none 0 0:=by
 unfold World.cell? at h;simp only [hb]at h
 match o,h with
 | 0,h=>simpa using h.symm
 | 1,h=>simpa using h.symm
 | 2,h=>simpa using h.symm
 | o+3,h=>simp at h
theorem Ad.far{w w':World}{A:Option Addr}{cs:List Value}{bR:Nat}{t:TypeId}(h:Ad w A cs)(hb:w.heap[bR]?=some (.cells #[.slice none 0 0,.slice none 0 0,.slice none 0 0] t))
  (hne:∀x∈cs,x≠.slice none 0 0) (U9:∀q,q≠bR→w'.heap[q]?=w.heap[q]?):Ad w' A cs:=
 ⟨fun h0=>by
  obtain⟨b,o,e,hc⟩:=h.ad h0;refine⟨b,o,e,fun j hj=>?_⟩;have Mh:=hc j hj
  have AZ:b≠bR:=by rintro rfl;exact hne _ (As1 hj) (Apj hb Mh)
  unfold World.cell? at Mh ⊢;simp only [U9 b AZ]
  exact Mh⟩
theorem MapAt.far{w w':World}{n:Nat}{units:List Bs}{A B F:Option Addr}{c d g:Nat}{m:MapZ}{faces:List Bs}{bR:Nat}{t:TypeId}(h:MapAt w n units A B F c d g m faces)
  (hb:w.heap[bR]?=some (.cells #[.slice none 0 0,.slice none 0 0,.slice none 0 0] t)) (U9:∀q,q≠bR→w'.heap[q]?=w.heap[q]?):MapAt w' n units A B F c d g m faces:=by
 refine⟨h.cap,h.pts.far hb ?_ U9,h.eds.far hb ?_ U9,h.fac.far hb ?_ U9,h.nf,h.le,h.sheet,h.txt⟩
 ·intro x hx;obtain⟨y,-,hx⟩:=List.mem_flatMap.1 hx;simp only [List.mem_cons,AsB,or_false]at hx
  rcases hx with rfl|rfl<;>exact fun e=>by simp [S]at e
 ·intro x hx;obtain⟨y,-,hx⟩:=List.mem_flatMap.1 hx;simp only [List.mem_cons,AsB,or_false]at hx
  rcases hx with rfl|rfl|rfl|rfl<;>exact fun e=>by simp at e
 ·intro x hx;obtain⟨y,-,rfl⟩:=List.mem_map.1 hx;exact fun e=>by simp [S]at e
theorem Aae{w0 w:World}{n:Nat}{units:List Bs}{A B F:Option Addr}{c d g:Nat}{m:MapZ}{faces:List Bs}{bR:Nat}{t:TypeId}(h:MapAt w n units A B F c d g m faces)(hx:Ab w0 w)
  (hb:w.heap[bR]?=some (.cells #[.slice none 0 0,.slice none 0 0,.slice none 0 0] t)) (h0:w0.heap.size<=bR) (x y z:Value) :
  MapAt (((w.setCell ⟨bR,0,none⟩ x).setCell ⟨bR,1,none⟩ y).setCell ⟨bR,2,none⟩ z) n units A B F c d g m faces/\Ab w0 (((w.setCell ⟨bR,0,none⟩ x).setCell ⟨bR,1,none⟩ y).setCell ⟨bR,2,none⟩ z)
   /\(((w.setCell ⟨bR,0,none⟩ x).setCell ⟨bR,1,none⟩ y).setCell ⟨bR,2,none⟩ z).heap[bR]?=some (.cells #[x,y,z] t):=by
 refine⟨h.far hb fun q hq=>?_,((hx.setCell (p:=⟨bR,0,none⟩) h0 x).setCell (p:=⟨bR,1,none⟩) h0 y).setCell (p:=⟨bR,2,none⟩) h0 z,Dd x y z hb⟩;rw [Bu (by exact hq),Bu (by exact hq),Bu (by exact hq)]
end
end Go.Proofs.YtnddllipjippnaaGreatDoor
