/- Y30: LGD LG7 LGM LGC LGF BB. -/
import Derived.Test.YtjalkoacphhgdaaGreatDoorY28
import Derived.Test.YtjalkoacphhgdaaGreatDoorY29
import Derived.Sort.MapsRangeIn
set_option maxRecDepth 100000
set_option maxHeartbeats 16000000
namespace Go.Proofs.YtjalkoacphhgdaaGreatDoor
open Go.RowKit Kl
theorem Afo(l:Bs)(hl:l.length<1000000)(w:World) :
  Calls Tryz.prog 132 #[S l] w (Br (nameB l) w):=by
 obtain⟨r,hr0⟩:=Am8 (nameB l);rw [←hr0];have HR:=Am9 hr0;clear hr0;go_enter Tryz.func132,Tryz.ntmps132
 go_upto_region 2 with fail
 go_loopw [8] (fun kv wr=>∃(k:Nat),kv=.int .i64 (k:Nat)/\k<=l.length/\(∀i (h:i<l.length),i<k→FT i l[i]=true)/\Aa w wr) (fun kv _=>l.length-(intOf kv).toNat)
 case atStart=>exact⟨0,rfl,by omega,by intro i _ h;omega,Aa.refl _⟩
 case round=>
  obtain⟨k,rfl,hk,FD,Ac⟩:=hrel;have LD:=Am9 FD;clear FD;by_cases hkn:k<l.length
  ·have hk0:(0:Int)<=(k:Int):=(by omega);have Cb:(k:Int)<(l.length:Int):=(by omega);have v1:IntKind.wrap .i64 ((k:Int)+1)=(k:Int)+1:=AmI _ (by omega);obtain⟨b,hb⟩:=Am8 (l[k]);have hq:∀h:k<(⟨l.toArray⟩:ByteArray).size,((⟨l.toArray⟩:ByteArray)[k]'h)=b:=fun h=>(by rw [hb];rfl);have HB:=Am9 hb;clear hb
   go_upto_region 5 with fail
   go_cut [5] (fun v wx=>v=.bool (Gw b)/\wx=wr)
   case first=>
    by_cases a1:97<=b.toNat<;>by_cases a2:b.toNat<=122<;>by_cases a3:65<=b.toNat<;>by_cases a4:b.toNat<=90
    all_goals
     have hv:Gw b=((decide (97<=b.toNat)&&decide (b.toNat<=122))||(decide (65<=b.toNat)&&decide (b.toNat<=90))):=rfl;simp only [a1,a2,a3,a4,decide_true,decide_false,Bool.and_true,Bool.and_false,Bool.or_true,Bool.or_false]at hv;have HV:=Am9 hv;clear hv;go_wp2
     all_goals go_meet
     all_goals exact⟨by rw [HV.out];try (first|rfl|(congr 1;rw [Bool.eq_iff_iff];simp;omega)),rfl⟩
   case rest=>
    obtain⟨rfl,rfl⟩:=hcut;obtain⟨lt,hlt⟩:=Am8 (Gw b);rw [←hlt];have kC:=Am9 hlt;have Eu:FT k b=(lt||(decide (k≠0)&&GE b)):=(by rw [hlt];rfl);have G7:=Am9 Eu;clear hlt Eu hq
    have good:FT k b=true→∀i (h:i<l.length),i<k+1→FT i l[i]=true:=by
     intro hg i hi hik;by_cases e:i=k
     ·subst e;rw [←HB.out];exact hg
     ·exact LD.out i hi (by omega)
    have bad:FT k b=false→r=false:=fun h=>(by rw [HR.out];exact aj hkn (by rw [←HB.out];exact h));have HG:=Am9 good;have Ou:=Am9 bad;clear good bad
    cases lt
    ·by_cases IK:k=0
     ·subst IK;have hr:r=false:=Ou.out (by rw [G7.out];rfl);have DJ:=Am9 hr;clear hr;go_wp2;go_ret;exact⟨Dm (by rw [DJ.out]),Ac⟩
     ·have t0:((k:Int) == 0)=false:=beq_false_of_ne (by omega);by_cases a1:b.toNat<48
      ·have hr:b.toNat≠95→r=false:=fun h=>Ou.out (by rw [G7.out];unfold GE;simp;omega);have qV:((b.toNat:Int) != 95)=true:=(by rw [bne_iff_ne];omega);have DJ:=Am9 (hr (by omega));clear hr IK;go_wp2;go_ret;exact⟨Dm (by rw [DJ.out]),Ac⟩
      ·by_cases a2:57<b.toNat
       ·by_cases a3:b.toNat=95
        ·have qV:((b.toNat:Int) != 95)=false:=(by rw [bne_eq_false_iff_eq];omega);have hg2:=Am9 (HG.out (by rw [G7.out];unfold GE;simp [IK,a3]));clear IK;go_wp2;go_roundw
         case rel=>exact⟨k+1,by go_num,hkn,hg2.out,Ac⟩
         case measure=>simp [intOf];omega
        ·have qV:((b.toNat:Int) != 95)=true:=(by rw [bne_iff_ne];omega);have hr:r=false:=Ou.out (by rw [G7.out];unfold GE;simp;omega);have DJ:=Am9 hr;clear hr IK;go_wp2;go_ret;exact⟨Dm (by rw [DJ.out]),Ac⟩
       ·have hg2:=Am9 (HG.out (by rw [G7.out];unfold GE;simp;omega));clear IK;go_wp2;go_roundw
        case rel=>exact⟨k+1,by go_num,hkn,hg2.out,Ac⟩
        case measure=>simp [intOf];omega
    ·have hg2:=Am9 (HG.out (by rw [G7.out];simp));go_wp2;go_roundw
     case rel=>exact⟨k+1,by go_num,hkn,hg2.out,Ac⟩
     case measure=>simp [intOf];omega
  ·have Bw:k=l.length:=(by omega);subst Bw;by_cases h0:l = []
   ·subst h0;have DJ:=Am9 (show r=false by rw [HR.out];rfl);go_wp2;go_ret;exact⟨Dm (by rw [DJ.out]),Ac⟩
   ·have h1:(1:Int)<=(l.length:Int):=(by have:0<l.length:=List.length_pos_iff.2 h0;omega);by_cases Ro:l.length<=32
    ·have h2:(l.length:Int)<=32:=(by omega);have DJ:=Am9 (show r=true by rw [HR.out];exact ak h0 Ro (fun i hi=>LD.out i hi hi));clear h0;go_wp2;go_ret;exact⟨Dm (by rw [DJ.out]),Ac⟩
    ·have h2:¬(l.length:Int)<=32:=by omega
     have DJ:=Am9 (show r=false by
      rw [HR.out]
      cases l with
      | nil=>rfl
      | cons b l=>show (decide (l.length < 32) && _)=false;rw [decide_eq_false (by simp only [List.length_cons]at Ro;omega)];rfl)
     clear h0;go_wp2;go_ret;exact⟨Dm (by rw [DJ.out]),Ac⟩
theorem Afp(l:Bs)(hl:l.length<1000000)(w:World) :
  Calls Tryz.prog 66 #[S l] w (Br (nameB l) w):=by
 have nm:=Afo l hl w;generalize nameB l=b at *;go_enter Tryz.func66,Tryz.ntmps66;(go_wp2_with fail);(with_reducible refine nm.mono ?_);rintro e w1 ⟨rfl,hx⟩;go_wp2;go_ret;exact⟨rfl,hx⟩
theorem gi{w:World}{B:Nat}{e:TypeId}{s n:Nat}{v:Value}{xs:List Value}(hs:0<s)(h:w.ownsRow B e s v n xs):∃A c,v=.slice A n c:=by
 obtain⟨A,c,e,_⟩:=Ae.of_own' hs h;exact⟨A,c,e⟩
theorem Ab3(l:List En)(e:En):Bg (l ++ [e])=Bg l ++ [S e.u,S e.s,.int .i64 e.p,S e.t]:=by unfold Bg;simp
theorem Aj7(l:List Bs)(d:Bs):(l ++ [d]).map S=l.map S ++ [S d]:=by simp
theorem Tryz.infoEn:(Tryz.prog.info? 40).map (fun i=>(i.zero,i.size,i.bytes))=some (some (.agg #[S [],S [],.int .i64 0,S []]),4,56):=by kernel_rfl
theorem Tryz.infoSt:(Tryz.prog.info? 9).map (fun i=>(i.zero,i.size,i.bytes))=some (some (S []),1,16):=by kernel_rfl
section
variable {ops : Array Oper} {rest : List Oper} {o : Oper} {a : Act} {K : Act → World → Prop} {Q : Exit → Act → World → Prop} {E : Prop}
theorem Aku(s x:Operand)(ho:o.op=.call {callee:=.builtin .append,args:=#[s,x],argTypes:=#[26,26]})
  (wN:World) (base:Nat) (v:Value) (n:Nat) (l:List En) (hs:a.eval s=v) (hown:wN.ownsRow base 40 4 v n (Bg l)) (hn:n<200000) (d:En)
  (g:Nat) (hb:wN.heap[g]?=some (.cells #[S d.u,S d.s,.int .i64 d.p,S d.t] 40)) (hx:a.eval x=.slice (some ⟨g,0,none⟩) 1 1) (hbase:base<=wN.heap.size)
  (h:∀v' w',w'.ownsRow base 40 4 v' (n+1) (Bg (l ++ [d]))→(∀w0,Aa w0 wN→w0.heap.size<=base→Aa w0 w')→wN.grownBy w' v.ownBlock→K (a.put o.dst v') w') :
  o.wp Tryz.prog a wN K Q:=by
 obtain⟨i0,hi,hz0,hz1,hz2⟩:=info_parts Tryz.infoEn;refine Ts s x 26 ho 40 i0 _ 4 56 Tryz.underlying26 hi hz0 hz1 hz2 rfl (by omega) (by omega) wN base v n _ hs hown hn g _ hb rfl ?_ hx hbase ?_
 ·intro u hu;simp only [List.mem_cons,AmN,or_false]at hu
  rcases hu with rfl|rfl|rfl|rfl<;>rfl
 ·intro v' w' h1 h2 h3;exact h v' w' (by rw [Ab3];exact h1) h2 h3
theorem yb(hgd:o.guard=none)(s x:Operand)(ho:o.op=.call {callee:=.builtin .append,args:=#[s,x],argTypes:=#[26,26]})
  (wN:World) (base:Nat) (v:Value) (n:Nat) (l:List En) (hs:a.eval s=v) (hown:wN.ownsRow base 40 4 v n (Bg l)) (hn:n<200000) (d:En)
  (g:Nat) (hb:wN.heap[g]?=some (.cells #[S d.u,S d.s,.int .i64 d.p,S d.t] 40)) (hx:a.eval x=.slice (some ⟨g,0,none⟩) 1 1) (hbase:base<=wN.heap.size)
  (h:∀v' w',w'.ownsRow base 40 4 v' (n+1) (Bg (l ++ [d]))→(∀w0,Aa w0 wN→w0.heap.size<=base→Aa w0 w')→wpList Tryz.prog ops Q rest (a.put o.dst v') w') :
  wpList Tryz.prog ops Q (o::rest) a wN:=
 wpList_plain hgd fun _ hK=>Aku s x ho wN base v n l hs hown hn d g hb hx hbase fun v' w' h1 h2 _=>hK _ _ (h v' w' h1 h2)
theorem Akx(s x:Operand)(ho:o.op=.call {callee:=.builtin .append,args:=#[s,x],argTypes:=#[23,23]})
  (wN:World) (base:Nat) (v:Value) (n:Nat) (l:List Bs) (hs:a.eval s=v) (hown:wN.ownsRow base 9 1 v n (l.map S)) (hn:n<200000) (d:Bs)
  (g:Nat) (hb:wN.heap[g]?=some (.cells #[S d] 9)) (hx:a.eval x=.slice (some ⟨g,0,none⟩) 1 1) (hbase:base<=wN.heap.size)
  (h:∀v' w',w'.ownsRow base 9 1 v' (n+1) ((l ++ [d]).map S)→(∀w0,Aa w0 wN→w0.heap.size<=base→Aa w0 w')→wN.grownBy w' v.ownBlock→K (a.put o.dst v') w') :
  o.wp Tryz.prog a wN K Q:=by
 obtain⟨i0,hi,hz0,hz1,hz2⟩:=info_parts Tryz.infoSt;refine Ts s x 23 ho 9 i0 _ 1 16 Tryz.underlying23 hi hz0 hz1 hz2 rfl (by omega) (by omega) wN base v n _ hs hown hn g _ hb rfl ?_ hx hbase ?_
 ·intro u hu;simp only [List.mem_cons,AmN,or_false]at hu
  rcases hu with rfl<;>rfl
 ·intro v' w' h1 h2 h3;exact h v' w' (by rw [Aj7];exact h1) h2 h3
theorem lT(hgd:o.guard=none)(s x:Operand)(ho:o.op=.call {callee:=.builtin .append,args:=#[s,x],argTypes:=#[23,23]})
  (wN:World) (base:Nat) (v:Value) (n:Nat) (l:List Bs) (hs:a.eval s=v) (hown:wN.ownsRow base 9 1 v n (l.map S)) (hn:n<200000) (d:Bs)
  (g:Nat) (hb:wN.heap[g]?=some (.cells #[S d] 9)) (hx:a.eval x=.slice (some ⟨g,0,none⟩) 1 1) (hbase:base<=wN.heap.size)
  (h:∀v' w',w'.ownsRow base 9 1 v' (n+1) ((l ++ [d]).map S)→(∀w0,Aa w0 wN→w0.heap.size<=base→Aa w0 w')→wpList Tryz.prog ops Q rest (a.put o.dst v') w') :
  wpList Tryz.prog ops Q (o::rest) a wN:=
 wpList_plain hgd fun _ hK=>Akx s x ho wN base v n l hs hown hn d g hb hx hbase fun v' w' h1 h2 _=>hK _ _ (h v' w' h1 h2)
end
theorem Af2(l:List La)(i:Nat):C9 (l.take i)=(C9 l).take (i*3):=by
 induction l generalizing i with
 | nil=>simp [C9]
 | cons e l ih=>
  cases i with
  | zero=>simp [C9]
  | succ i=>have e0:∀l,C9 (e::l)=S e.u::S e.mn::S e.mx::C9 l:=fun _=>rfl;rw [List.take_succ_cons,e0,e0,ih];have e1:(i+1)*3=i*3+1+1+1:=(by omega);rw [e1];simp
theorem yt(x:La)(u:Bs)(b:Nat)(w:World)(hb:w.cell? ⟨b,0,none⟩=some (S u)) :
  Calls Tryz.prog 142 #[Lf x,.pointer (some ⟨b,0,none⟩)] w (Br (x.u == u) w):=by
 have hx:=(Aa.refl w).alloc (.cells #[S x.u,S x.mn,S x.mx] 31);have j1:=hx.cellS hb;unfold Lf;clear hb;go_enter Tryz.func142,Tryz.ntmps142;go_wp2;go_ret;exact⟨rfl,hx⟩
theorem Ab5:∀args w,(callFunc 142 args).run Tryz.prog w=.ok (.enter 142 args) w:=enters_of Tryz.func142 (by kernel_rfl) rfl
theorem AaD(c:List La)(u:Bs)(A:Option Addr)(cc:Nat)(w:World)(hr:Ae w A (C9 c))(h1:c.length<=cc)(h2:cc<=9223372036854775807) :
  Calls Tryz.prog 74 #[.slice A c.length cc,S u] w (Az (BD c u) w):=by
 have hb:=AmB w (.cells #[S u] 9);have hE:=(Aa.refl w).alloc (.cells #[S u] 9)
 have ix:=yT (cb:=#[.pointer (some ⟨w.heap.size,0,none⟩)]) Ab5 (fun e=>e.u == u) c A cc (w.alloc (.cells #[S u] 9)) (hr.ext hE) h1 h2
  (fun e _ W hx=>yt e u _ W (Ab (o:=0) ((hx.block _ (AmA hb)).trans hb) rfl))
 unfold BD;clear hr hb;go_enter Tryz.func74,Tryz.ntmps74;(go_wp2_with fail);(with_reducible refine ix.mono ?_);rintro e w1 ⟨rfl,hx⟩;go_wp2;go_ret;exact⟨rfl,hE.trans hx⟩
open Classical in
noncomputable def Lg(x:La):Int:=if ¬BJ x.mn then 2 else if x.mx≠[]/\¬BJ x.mx then 2 else 0
open Classical in
theorem Af7(x:La)(h1:x.mn.length<100000)(h2:x.mx.length<100000)(w:World)(hw:An w):Calls Tryz.prog 73 #[Lf x] w (Az (Lg x) w):=by
 have hb:=AmB w (.cells #[S x.u,S x.mn,S x.mx] 31);have hE:=(Aa.refl w).alloc (.cells #[S x.u,S x.mn,S x.mx] 31);have c1:=gC x.mn h1 (w.alloc (.cells #[S x.u,S x.mn,S x.mx] 31)) (hw.ext hE);have c2:=gC x.mx h2;unfold Lf;obtain⟨r,hr0⟩:=Am8 (Lg x);rw [←hr0];have HR:=Am9 hr0;clear hr0;go_enter Tryz.func73,Tryz.ntmps73
 go_upto_region 1 with fail
 generalize w.alloc (.cells #[S x.u,S x.mn,S x.mx] 31)=V at *;obtain⟨b,AZ⟩:=Am8 w.heap.size;rw [←AZ]at hb ⊢;clear AZ;have k1:=Ab (o:=1) hb rfl;by_cases o1:BJ x.mn
 ·rw [decide_eq_true o1,Kp]at c1;(go_wp2_with fail);(with_reducible refine c1.mono ?_);rintro e w1 ⟨rfl,hx1⟩;have X1:=hE.trans hx1;have hb1:=(hx1.block _ (AmA hb)).trans hb;have k2:=Ab (o:=2) hb1 rfl;have O1:=Am9 (show ¬¬BJ x.mn from fun h=>h o1);clear k1 hb hx1 o1;by_cases e0:x.mx = []
  ·have HH:=Am9 (show r=0 by rw [HR.out];unfold Lg;rw [if_neg O1.out,if_neg (by rintro⟨h,_⟩;exact h e0)]);have t1:(x.mx == [])=true:=(by rw [e0];rfl);rw [e0]at k2;clear e0 t1;go_wp2;go_ret;exact⟨AN HH.out,X1⟩
  ·have t1:(x.mx == [])=false:=beq_false_of_ne e0
   have t2:x.mx.isEmpty=false:=by cases hm:x.mx with|nil=>exact absurd hm e0|cons a b=>rfl
   have c3:=c2 w1 (hw.ext X1);have E0:=Am9 e0;by_cases o2:BJ x.mx
   ·rw [decide_eq_true o2,Kp]at c3;have HH:=Am9 (show r=0 by rw [HR.out];unfold Lg;rw [if_neg O1.out,if_neg (by rintro⟨_,h⟩;exact h o2)]);clear o2;(go_wp2_with fail);(with_reducible refine c3.mono ?_);rintro e w2 ⟨rfl,hx2⟩;go_wp2;go_ret;exact⟨AN HH.out,X1.trans hx2⟩
   ·rw [decide_eq_false o2,Nu]at c3;have HH:=Am9 (show r=2 by rw [HR.out];unfold Lg;rw [if_neg O1.out,if_pos ⟨e0,o2⟩]);clear o2;(go_wp2_with fail);(with_reducible refine c3.mono ?_);rintro e w2 ⟨rfl,hx2⟩;go_wp2;go_ret;exact⟨AN HH.out,X1.trans hx2⟩
 ·rw [decide_eq_false o1,Nu]at c1;have HH:=Am9 (show r=2 by rw [HR.out];unfold Lg;rw [if_pos o1]);clear o1;(go_wp2_with fail);(with_reducible refine c1.mono ?_);rintro e w1 ⟨rfl,hx1⟩;go_wp2;go_ret;exact⟨AN HH.out,hE.trans hx1⟩
theorem ml{l:Bs}(h:BJ l):Sz 200 (rv l):=by
 obtain⟨_,h1,h2⟩:=gY h;exact⟨Li h1,Li h2⟩
def AfK(x:La):Prop:=x.u.length<1000000/\x.mn.length<100000/\x.mx.length<100000
theorem Y6(l:List La)(A:Option Addr)(c:Nat)(w:World)(hw:An w)(hr:Ae w A (C9 l))(hc:l.length<=c)(hcm:c<=9223372036854775807)(hl:∀e∈l,AfK e) :
  Calls Tryz.prog 32 #[.slice A l.length c] w (Az (LV l) w):=by
 have HL:=Am9 hl;have EE:=Am9 hr;obtain⟨r,hr0⟩:=Am8 (LV l);rw [←hr0];have HR:=Am9 hr0;obtain⟨n,hn⟩:=Am8 l.length;rw [←hn]at hc ⊢;have HN:=Am9 hn;clear hl hr hr0 hn;by_cases h0:n=0
 ·have HH:=Am9 (show r=13 by rw [HR.out];unfold LV;rw [if_pos (by rw [←HN.out];exact h0)]);subst h0;go_enter Tryz.func32,Tryz.ntmps32;go_wp2;go_ret;exact⟨AN HH.out,Aa.refl _⟩
 have t0:((n:Int) == 0)=false:=beq_false_of_ne (by omega);by_cases YW:60<n
 ·have HH:=Am9 (show r=4 by rw [HR.out];unfold LV;rw [if_neg (by rw [←HN.out];exact h0),if_pos (by rw [←HN.out];exact YW)]);have t2:(60:Int)<(n:Int):=(by omega);go_enter Tryz.func32,Tryz.ntmps32;go_wp2;go_ret;exact⟨AN HH.out,Aa.refl _⟩
 have HC:=Am9 (show r=Kr [] l by rw [HR.out];unfold LV;rw [if_neg (by rw [←HN.out];exact h0),if_neg (by rw [←HN.out];exact YW)]);have t2:¬(60:Int)<(n:Int):=(by omega);clear h0 HR;go_enter Tryz.func32,Tryz.ntmps32
 go_upto_region 6 with fail
 go_loopw [16] (fun kv wr=>∃(k:Nat),kv=.int .i64 (k:Nat)/\k<=n/\r=Kr (l.take k) (l.drop k)/\Aa w wr) (fun kv _=>n-(intOf kv).toNat)
 case atStart=>exact⟨0,rfl,by omega,by rw [List.take_zero,List.drop_zero];exact HC.out,Aa.refl _⟩
 case round=>
  obtain⟨k,rfl,hk,hck,Ac⟩:=hrel;have LF:=Am9 hck;clear hck;by_cases hkn:k<n
  ·have Co:k<l.length:=(by rw [←HN.out];exact hkn);obtain⟨b,o,rfl,hg1,hg2,hg3⟩:=gI (EE.out.ext Ac) Co;have hst:=AaE Co rfl;rw [←LF.out]at hst;obtain⟨m1,m2,m3⟩:=HL.out l[k] (AmD Co);obtain⟨x,hx⟩:=Am8 (l[k]);rw [←hx]at hg1 hg2 hg3 hst m1 m2 m3;have HST:=Am9 hst;have Dx:(l.take k).length=k:=(by rw [List.length_take];omega);have hk0:(0:Int)<=(k:Int):=(by omega);have Cb:(k:Int)<(n:Int):=(by omega);have hk2:(k:Int)<=(c:Int):=(by omega);have v1:IntKind.wrap .i64 ((k:Int)+1)=(k:Int)+1:=AmI _ (by omega);have hxb:=AmB wr (.cells #[S x.u,S x.mn,S x.mx] 31);have hx1:=(Aa.refl wr).alloc (.cells #[S x.u,S x.mn,S x.mx] 31);have hE:=Ac.trans hx1;have la:=fun W (hw:An W)=>Af7 x m2 m3 W hw;unfold Lf at la;have at_:=fun W (hx:Aa w W)=>AaD (l.take k) x.u (some ⟨b,o,none⟩) c W (by rw [Af2];exact(EE.out.ext hx).take _) (by omega) hcm;rw [Dx]at at_;have nm:=dP x.u m1;clear hx hst Dx Ac
   go_upto_region 8 with fail
   generalize wr.alloc (.cells #[S x.u,S x.mn,S x.mx] 31)=V at *;obtain⟨bx,Aw⟩:=Am8 wr.heap.size;rw [←Aw]at hxb ⊢;clear Aw hg1 hg2 hg3 hx1;have k1:=Ab (o:=0) hxb rfl;have k2:=Ab (o:=1) hxb rfl;have k3:=Ab (o:=2) hxb rfl;have dW:=la V (hw.ext hE);obtain⟨z,hz⟩:=Am8 (Lg x);rw [←hz]at dW;have HZ:=Am9 hz;clear la hz;(go_wp2_with fail);(with_reducible refine dW.mono ?_);rintro e w1 ⟨rfl,hx1⟩;have hb1:=(hx1.block _ (AmA hxb)).trans hxb;have X1:=hE.trans hx1;clear dW k1 k2 k3 hxb hx1;by_cases hz0:z=0
   ·subst hz0
    obtain⟨o1,o2⟩:BJ x.mn/\(x.mx = []∨BJ x.mx):=by
     have h3:=HZ.out;unfold Lg at h3
     split at h3
     ·cases h3
     ·rename_i h4
      refine⟨Classical.not_not.1 h4,?_⟩
      split at h3
      ·cases h3
      ·rename_i h5
       by_cases h6:x.mx = []
       ·exact .inl h6
       ·exact .inr (Classical.not_not.1 fun h=>h5 ⟨h6,h⟩)
    obtain⟨e1,-,-⟩:=gY o1;have s1:=ml o1;obtain⟨p,hp⟩:=Am8 (rv x.mn);rw [←hp]at e1 s1;have sg:∀W,Calls Tryz.prog 75 #[S x.mn] W (Az (AD p) W):=by intro W;rw [e1];exact Qe p W
    have hcs:colS (l.take k) x=if nameB x.u=false then 8 else if 0<=BD (l.take k) x.u then 9 else if p<0 then 3 else if x.mx≠[]/\rv x.mx<p then 6 else 0:=by unfold colS;rw [if_neg (fun h=>h o1),if_neg (by rintro⟨h,h'⟩;rcases o2 with e|e;exact h e;exact h' e),←hp]
    have FZ:=Am9 hcs;have Oy:=Am9 o2;have G5:=Am9 e1;clear hcs o1 o2 e1 hp;have k4:=Ab (o:=0) hb1 rfl;have JK:=nm w1;clear nm
    cases a1:nameB x.u
    ·have HH:=Am9 (show r=8 by
      have h2:colS (l.take k) x=8:=by rw [FZ.out,if_pos a1]
      rw [HST.out,if_neg (by rw [h2];omega),h2])
     rw [a1]at JK;clear a1;(go_wp2_with fail);(with_reducible refine JK.mono ?_);rintro e w2 ⟨rfl,hx2⟩;go_wp2;go_ret;exact⟨AN HH.out,X1.trans hx2⟩
    have A1:=Am9 (show ¬(nameB x.u=false)by rw [a1];simp);rw [a1]at JK;clear a1;(go_wp2_with fail);(with_reducible refine JK.mono ?_);rintro e w2 ⟨rfl,hx2⟩;have hb2:=(hx2.block _ (AmA hb1)).trans hb1;have X2:=X1.trans hx2;have Gb:=Am9 X2;clear JK k4 hb1 hx2;have f1:∀q:Af w2,q.w.cell? ⟨bx,0,none⟩=some (S x.u):=Af.cell (Ab hb2 rfl);have Nr:=fun q:Af w2=>at_ q.w (Gb.out.trans q.h);obtain⟨y,hy⟩:=Am8 (BD (l.take k) x.u);rw [←hy]at Nr;have HY:=Am9 hy;clear hy at_ X2
    go_upto_region 13 with fail
    refine Fe (by kernel_rfl) (by kernel_rfl) ?_
    repeat (go_big_quiet_step (with_reducible refine DU (Nr _)))
    refine wpQuiet_nil ?_;rintro _ ⟨q,rfl⟩;have X3:=Gb.out.trans q.h;have hb3:=(q.h.block _ (AmA hb2)).trans hb2;have CW:=Am9 X3;clear f1 Nr;by_cases a2:0<=y
    ·have HH:=Am9 (show r=9 by
      have h2:colS (l.take k) x=9:=by rw [FZ.out,if_neg A1.out,if_pos (by rw [←HY.out];exact a2)]
      rw [HST.out,if_neg (by rw [h2];omega),h2])
     go_wp2;go_ret;exact⟨AN HH.out,CW.out⟩
    have xk:=Int.not_le.1 a2;have A2:=Am9 (show BD (l.take k) x.u<0 by rw [←HY.out];exact xk);have k4:=Ab (o:=1) hb3 rfl;have WJ:=sg q.w;have hw3:=hw.ext X3;generalize q.w=w3 at *;clear sg a2;have Tq:AD p<0↔p<0:=(by unfold AD;grind);obtain⟨s,hs⟩:=Am8 (AD p);rw [←hs]at WJ Tq;clear hs;by_cases a3:s<0
    ·have HH:=Am9 (show r=3 by
      have h2:colS (l.take k) x=3:=by rw [FZ.out,if_neg A1.out,if_neg (Int.not_le.2 A2.out),if_pos (Tq.1 a3)]
      rw [HST.out,if_neg (by rw [h2];omega),h2])
     clear Tq;(go_wp2_with fail);(with_reducible refine WJ.mono ?_);rintro e w4 ⟨rfl,Ai⟩;go_wp2;go_ret;exact⟨AN HH.out,CW.out.trans Ai⟩
    have A3:=Am9 (show ¬(p<0)from fun h=>a3 (Tq.2 h));clear Tq;(go_wp2_with fail);(with_reducible refine WJ.mono ?_);rintro e w4 ⟨rfl,Ai⟩;have hb4:=(Ai.block _ (AmA hb3)).trans hb3;have X4:=CW.out.trans Ai;have hw4:=hw.ext X4;have Gc:=Am9 X4;clear hb3 Ai k4 WJ X4 CW;have k5:=Ab (o:=2) hb4 rfl;have k6:=Ab (o:=1) hb4 rfl;by_cases e0:x.mx = []
    ·have HH:=Am9 (show r=Kr (l.take (k+1)) (l.drop (k+1))by
      have h2:colS (l.take k) x=0:=by rw [FZ.out,if_neg A1.out,if_neg (Int.not_le.2 A2.out),if_neg A3.out,if_neg (by rintro⟨h,_⟩;exact h e0)]
      rw [HST.out,if_pos h2])
     rw [e0]at k5;clear e0;go_wp2;go_roundw
     case rel=>exact⟨k+1,by go_num,hkn,HH.out,Gc.out⟩
     case measure=>simp [intOf];omega
    ·have t1:(x.mx == [])=false:=beq_false_of_ne e0
     have t3:x.mx.isEmpty=false:=by cases hm:x.mx with|nil=>exact absurd hm e0|cons a b=>rfl
     have o3:BJ x.mx:=Oy.out.resolve_left e0;have s2:=ml o3;obtain⟨e2,-,-⟩:=gY o3;obtain⟨p2,KU⟩:=Am8 (rv x.mx);rw [←KU]at e2 s2
     have cp:Calls Tryz.prog 76 #[S x.mx,S x.mn] w4 (Az (AO p2 p) w4):=by rw [e2,G5.out];exact Jc p2 p ⟨s2,s1,by omega,by omega,by omega⟩ w4 hw4
     have QW:AO p2 p<0↔p2<p:=(by unfold AO;grind);have kE:=Am9 KU;have E0:=Am9 e0;obtain⟨s,hs⟩:=Am8 (AO p2 p);rw [←hs]at cp QW;clear hs o3 e2 KU;by_cases a4:s<0
     ·have HH:=Am9 (show r=6 by
       have h2:colS (l.take k) x=6:=by rw [FZ.out,if_neg A1.out,if_neg (Int.not_le.2 A2.out),if_neg A3.out,if_pos ⟨E0.out,by rw [←kE.out];exact QW.1 a4⟩]
       rw [HST.out,if_neg (by rw [h2];omega),h2])
      clear QW;(go_wp2_with fail);(with_reducible refine cp.mono ?_);rintro e w5 ⟨rfl,Ad⟩;go_wp2;go_ret;exact⟨AN HH.out,Gc.out.trans Ad⟩
     ·have HH:=Am9 (show r=Kr (l.take (k+1)) (l.drop (k+1))by
       have h2:colS (l.take k) x=0:=by rw [FZ.out,if_neg A1.out,if_neg (Int.not_le.2 A2.out),if_neg A3.out,if_neg (by rintro⟨_,h⟩;rw [←kE.out]at h;exact a4 (QW.2 h))]
       rw [HST.out,if_pos h2])
      clear QW;(go_wp2_with fail);(with_reducible refine cp.mono ?_);rintro e w5 ⟨rfl,Ad⟩;go_wp2;go_roundw
      case rel=>exact⟨k+1,by go_num,hkn,HH.out,Gc.out.trans Ad⟩
      case measure=>simp [intOf];omega
   ·have HH:=Am9 (show r=z by
     have h2:colS (l.take k) x=z:=by
      have h3:=HZ.out;unfold Lg at h3;unfold colS
      split at h3
      ·rename_i h4;rw [if_pos h4];exact h3.symm
      ·rename_i h4
       rw [if_neg h4]
       split at h3
       ·rename_i h5;rw [if_pos h5];exact h3.symm
       ·exact absurd h3 hz0
     rw [HST.out,if_neg (by rw [h2];exact hz0),h2])
    have t1:(z != 0)=true:=(by rw [bne_iff_ne];exact hz0);clear hz0;go_wp2;go_ret;exact⟨AN HH.out,X1⟩
  ·have Bw:k=n:=(by omega);subst Bw;have HH:=Am9 (show r=0 by rw [LF.out,HN.out,List.drop_length];rfl);go_wp2;go_ret;exact⟨AN HH.out,Ac⟩
theorem AbX(l:List En)(u:Bs)(A:Option Addr)(c:Nat)(w:World)(hr:Ae w A (Bg l))(hc:l.length<=c)(hcm:c<=9223372036854775807)(hl:∀e∈l,If e)(h:BK l≠0) :
  Calls Tryz.prog 14 #[.slice A l.length c,S u] w (Ce (.tuple #[.int .i64 0,.bool false,.int .i64 (BK l)]) w):=by
 have ck:=Nt l A c w hr hc hcm hl;generalize BK l=z at *;have t1:(z != 0)=true:=(by rw [bne_iff_ne];exact h);clear h hr;go_enter Tryz.func14,Tryz.ntmps14;(go_wp2_with fail);(with_reducible refine ck.mono ?_);rintro e w1 ⟨rfl,hx1⟩;go_wp2;refine bodyPost_ret (v:=.tuple #[.int .i64 0,.bool false,.int .i64 z]) (by simp [results,Tryz.results14,go_sem]) rfl ?_;exact⟨rfl,hx1⟩
theorem Af5(x:En)(u:Bs)(b:Nat)(w:World)(hb:w.cell? ⟨b,0,none⟩=some (S u)) :
  Calls Tryz.prog 51 #[Fq x,.pointer (some ⟨b,0,none⟩)] w (Br (x.u == u) w):=by
 have hx:=(Aa.refl w).alloc (.cells #[S x.u,S x.s,.int .i64 x.p,S x.t] 40);have j1:=hx.cellS hb;unfold Fq;clear hb;go_enter Tryz.func51,Tryz.ntmps51;go_wp2;go_ret;exact⟨rfl,hx⟩
theorem AbD:∀args w,(callFunc 51 args).run Tryz.prog w=.ok (.enter 51 args) w:=enters_of Tryz.func51 (by kernel_rfl) rfl
theorem Af6(l:List En)(u:Bs)(A:Option Addr)(c:Nat)(w:World)(hr:Ae w A (Bg l))(hc:l.length<=c)(hcm:c<=9223372036854775807) :
  Calls Tryz.prog 16 #[.slice A l.length c,S u] w (Az (I5 l u) w):=by
 have hb:=AmB w (.cells #[S u] 9);have hE:=(Aa.refl w).alloc (.cells #[S u] 9)
 have ix:=dM (cb:=#[.pointer (some ⟨w.heap.size,0,none⟩)]) AbD (fun e=>e.u == u) l A c (w.alloc (.cells #[S u] 9)) (hr.ext hE) hc hcm
  (fun e _ W hx=>Af5 e u _ W (Ab (o:=0) ((hx.block _ (AmA hb)).trans hb) rfl))
 unfold I5;clear hr hb;go_enter Tryz.func16,Tryz.ntmps16;(go_wp2_with fail);(with_reducible refine ix.mono ?_);rintro e w1 ⟨rfl,hx⟩;go_wp2;go_ret;exact⟨rfl,hE.trans hx⟩
theorem AbJ(l:List Bs)(A B:Option Addr)(c d:Nat)(w:World)(hA:Ae w A (l.map S))(hB:Ae w B (l.map S))(hl:l.length<=100000) :
  Calls Tryz.prog 17 #[.slice A l.length c,.slice B l.length d] w (Br true w):=by
 have oz:=Am9 hA;have Xh:=Am9 hB;obtain⟨n,hn⟩:=Am8 l.length;rw [←hn]at hl ⊢;have HN:=Am9 hn;clear hA hB hn;go_enter Tryz.func17,Tryz.ntmps17
 go_upto_region 4 with fail
 go_loopw [13] (fun i wr=>∃j:Nat,i=.int .i64 (j:Nat)/\j<=n/\Aa w wr) (fun i _=>n-(intOf i).toNat)
 case atStart=>exact⟨0,rfl,Nat.zero_le _,Aa.refl _⟩
 case round=>
  obtain⟨j,rfl,hj,Ac⟩:=hrel;by_cases hlt:j<n
  ·have AW:j<(l.map S).length:=(by rw [List.length_map,←HN.out];exact hlt);obtain⟨b,o,rfl,hc1⟩:=(oz.out.ext Ac).ad (by omega);obtain⟨b',o',rfl,hc2⟩:=(Xh.out.ext Ac).ad (by omega);have g1:=hc1 j AW;have g2:=hc2 j AW;rw [List.getElem_map]at g1 g2;generalize l[j]'(by rw [List.length_map]at AW;exact AW)=s at *;have hj0:(0:Int)<=(j:Int):=(by omega);have KL:(j:Int)<(n:Int):=(by omega);have v1:IntKind.wrap .i64 ((j:Int)+1)=(j:Int)+1:=AmI _ (by omega);clear hc1 hc2 AW
   go_upto_region 6 with fail
   go_quiet (fail)
   go_wp2;go_roundw
   case rel=>exact⟨j+1,by go_num,hlt,Ac.drewN _⟩
   case measure=>simp [intOf];omega
  ·have hle:(n:Int)<=(j:Int):=(by omega);go_wp2;go_ret;exact⟨rfl,Ac⟩
theorem AiL{α β:Type}(E:List (α×β)){seen:List Nat}(Ci:seen.Nodup)(hlt:∀i∈seen,i<E.length)(hlen:seen.length=E.length):(seen.filterMap (fun i=>E[i]?.map (·.1))).Perm (E.map (·.1)):=by
 have hmem:∀i,i<E.length→i∈seen:=by
  intro i hi;refine Classical.byContradiction fun hn=>?_;have h1:(i::seen).Nodup:=List.nodup_cons.2 ⟨hn,Ci⟩
  have h2:(i::seen) ⊆ List.range E.length:=by
   intro j hj
   rcases List.mem_cons.1 hj with rfl|hj
   ·simpa using hi
   ·simpa using hlt j hj
  have:=h1.length_le_of_subset h2;simp at this;omega
 have hp:seen.Perm (List.range E.length):=by
  rw [List.perm_iff_count];intro i;rw [Ci.count,(List.nodup_range).count];by_cases hi:i<E.length
  ·rw [if_pos (hmem i hi),if_pos (by simpa using hi)]
  ·rw [if_neg (fun h=>hi (hlt i h)),if_neg (by simpa using hi)]
 refine(hp.filterMap _).trans ?_;have e1:(List.range E.length).filterMap (fun i=>E[i]?.map (·.1))=((List.range E.length).filterMap (fun i=>E[i]?)).map (·.1):=(by rw [List.map_filterMap]);rw [e1,jd E]
theorem zM(mb:Option Nat)(w:World) :
  Calls Tryz.prog 195 #[.map mb] w fun e w'=>e=.returned (.func (.func 267) #[] #[.pointer (some ⟨w.heap.size,0,none⟩)])/\w'=w.alloc (.cells #[.map mb] 132):=by
 go_enter Tryz.func195,Tryz.ntmps195;go_wp2;go_ret;exact⟨rfl,rfl⟩
theorem Afv(F:Fence)(n:Nat)(h10:F.fn 267)(hro:F.round=none)(hn:1<=n)(l Bm b:Nat)(E:List (Pt×Value×Nat))(hst:∀i (h:i<E.length),E[i].2.2=i)(J:List Pt→World→Prop)
  (hY:∀pre x W,J pre W→pre.length<E.length→YieldAt F (n-1) Tryz.prog l #[Ak x] W fun e W'=>e=.returned (.bool true)/\J (pre ++ [x]) W'/\KeepsWalks W W')
  (W:World) (hJ:AbidesFrom W.heap.size J) (hm:W.cell? ⟨Bm,0,none⟩=some (.map (some b))) (hb:W.heap[b]?=some (.map (Ax Ak E).toArray E.length)) (h0:J [] W) :
  CallsIn F n Tryz.prog 267 #[.func (.yield l) #[] #[],.pointer (some ⟨Bm,0,none⟩)] W fun e W'=>(∃v,e=.returned v)/\∃ss:List Pt,ss.Perm (E.map (·.1))/\J ss W':=by
 have hlt:=AmA hb;obtain⟨hr1,hr2⟩:=C0.range (enc:=Ak) (E:=E) (t:=132) Tryz.underlying132 (W:=W) (b:=b) hb;have hG:=(Aa.refl W).alloc (.mapIter (some b) E.length #[] E.length);have hJ1:=hJ [] W _ none h0 (Gf hG none) (fun r e=>by cases e);have hb1:=(hG.block b hlt).trans hb;refine callsIn_of_wp Tryz.func267 rfl h10 ?_ hro;simp only [Tryz.ntmps267,List.size_toArray,List.length_cons,List.length_nil,Nat.reduceAdd,Nat.reduceSub,Array.replicate_succ,Array.replicate_zero,List.push_toArray,List.append_toArray,List.nil_append,List.cons_append];gi_wp2;generalize W.alloc (.mapIter (some b) E.length #[] E.length)=V at *;obtain⟨r,hr⟩:=Am8 W.heap.size;rw [←hr]at hr2 hlt hJ ⊢;clear hr hr1 hG hb hm h0
 gi_loopw [3] (fun _ wr=>∃seen:List Nat,C0 wr r b E seen/\wr.heap[b]?=some (.map (Ax Ak E).toArray E.length)/\J (seen.filterMap (fun i=>E[i]?.map (·.1))) wr)
  (fun _ wr=>E.length-(wr.iterSeen r).size)
 case atStart=>exact⟨[],hr2,hb1,hJ1⟩
 case round=>
  obtain⟨seen,hI,hbr,hJs⟩:=hrel
  rcases C0.next Ak hI hbr hst (by omega) 0 with⟨hlen,hrun⟩|⟨i,hi,Gq,W1,FC,hG1,hs1,hrun,hen⟩
  ·have hP:=AiL E hI.nd hI.lt hlen;gi_wp2
   go_end0
   exact⟨⟨_,rfl⟩,_,hP,hJs⟩
  ·have KI:=hi
   have hstep:(seen ++ [i]).filterMap (fun i=>E[i]?.map (·.1))=seen.filterMap (fun i=>E[i]?.map (·.1)) ++ [(E[i]).1]:=by rw [List.filterMap_append];simp only [List.filterMap_cons,List.filterMap_nil,AmH KI,Option.map_some]
   have hlen':seen.length<E.length:=by
    have h2:(i::seen) ⊆ List.range E.length:=by
     intro j hj
     rcases List.mem_cons.1 hj with rfl|hj
     ·simpa using KI
     ·simpa using hI.lt j hj
    have:=(List.nodup_cons.2 ⟨Gq,hI.nd⟩).length_le_of_subset h2;simp at this;omega
   have Di:=Ey hI;have hJ2:=hJ _ wr W1 (some r) hJs hG1 (fun r' e=>by cases e;exact⟨AmC _,_,hI.it,rfl⟩);have hb2:=(hG1.block b (AmA hbr) (by simp;omega)).trans hbr;have Gl:=hen W1 rfl rfl;obtain⟨s,hs⟩:=Am8 ((E[i]).1);obtain⟨z,hz⟩:=Am8 ((E[i]).2.1);rw [←hs,←hz]at Gl hrun;rw [←hs]at hstep;have E3:=(Aa.refl W1).alloc (.cells #[S (R s.x),S (R s.y)] 92);have Em:=AmB W1 (.cells #[S (R s.x),S (R s.y)] 92);have Rw:=hJ _ W1 _ none hJ2 (Gf E3 none) (fun r' e=>by cases e);have hpl:(seen.filterMap (fun i=>E[i]?.map (·.1))).length<E.length:=Nat.lt_of_le_of_lt (List.length_filterMap_le _ _) hlen';obtain⟨fn,tmps,assign,body,hy,hR⟩:=hY _ s _ Rw hpl;have Df:=FC.keep (E3.block r (AmA FC.it));have hb4:=(E3.block b (AmA hb2)).trans hb2;have g0:=Ab (o:=0) Em rfl;have g1:=Ab (o:=1) Em rfl;clear hs1 hen hs hz Em E3 Rw hJ2;unfold Ak at Gl hrun hy;unfold S at hy Gl hrun g0 g1 Df hb4 hR;gi_wp2;refine hR.mono ?_;rintro e W3 ⟨rfl,hJ3,hk3⟩;gi_wp2;go_roundw
   case rel=>exact⟨seen ++ [i],⟨hk3.same r _ Df.it rfl,Df.nd,Df.lt⟩,hk3.same b _ hb4 rfl,by rw [hstep];exact hJ3⟩
   case measure=>rw [Di,Ey (W:=W3) (b:=b) (E:=E) (seen:=seen ++ [i]) ⟨hk3.same r _ Df.it rfl,Df.nd,Df.lt⟩,List.length_append,List.length_singleton];omega
theorem Afw(F:Fence)(n:Nat)(h10:F.fn 267)(hro:F.round=none)(hn:1<=n)(Bm b:Nat)(E:List (Pt×Value×Nat))(hst:∀i (h:i<E.length),E[i].2.2=i)(w:World)(hBm:Bm<w.heap.size)
  (hm:w.cell? ⟨Bm,0,none⟩=some (.map (some b))) (hb:w.heap[b]?=some (.map (Ax Ak E).toArray E.length)) :
  SeqGives F n Tryz.prog 267 #[.pointer (some ⟨Bm,0,none⟩)] Ak (fun ss=>ss.Perm (E.map (·.1))) E.length w:=fun l J W hW hJ hY h0=>
 Afv F n h10 hro hn l Bm b E hst J hY W hJ ((hW.cell (p:=⟨Bm,0,none⟩) hBm).trans hm) ((hW.block b (AmA hb)).trans hb) h0
end Go.Proofs.YtjalkoacphhgdaaGreatDoor
