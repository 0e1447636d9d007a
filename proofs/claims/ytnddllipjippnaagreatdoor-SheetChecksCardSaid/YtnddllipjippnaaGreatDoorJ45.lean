/- J45: KH1 KH2 KH3 KI3. -/
import Derived.Test.YtnddllipjippnaaGreatDoorJ44
import Derived.Lib.OwnBridge
set_option maxRecDepth 100000
set_option maxHeartbeats 16000000
namespace Go.Proofs.YtnddllipjippnaaGreatDoor
open Go.RowKit Kl
theorem Akd(w:World)(b o n c:Nat)(hn:0<n)(hc:∀j,j<n*4→(w.cell? ⟨b,o+j,none⟩).isSome=true)(hf:∀j,j<n*4→w.frozen? ⟨b,o+j,none⟩=false) :
  ∃vs:List Value,vs.length=n*4/\∀ty,(Builtin.clear_ #[32] ty #[.slice (some ⟨b,o,none⟩) n c]).run Tryz.prog w=.ok (.tuple #[]) (w.setCells b o vs):=by
 obtain⟨i0,hi,hz0,hz1,hz2⟩:=info_parts Tryz.infoEd;have hv:∀w,(zeroValue 51).run Tryz.prog w=.ok (.agg #[.int .i64 0,.int .i64 0,.int .i64 0,.int .i64 0]) w:=fun w=>(by simp [zeroValue,typeInfo,hi,hz0]);have dR:(Value.agg #[.int .i64 0,.int .i64 0,.int .i64 0,.int .i64 0]).cells=#[.int .i64 0,.int .i64 0,.int .i64 0,.int .i64 0]:=(by kernel_rfl);have hl:(Builtin.zeroCells #[.int .i64 0,.int .i64 0,.int .i64 0,.int .i64 0] n).toList.length=n*4:=(by simp [Builtin.zeroCells]);refine⟨(Builtin.zeroCells #[.int .i64 0,.int .i64 0,.int .i64 0,.int .i64 0] n).toList,hl,fun ty=>?_⟩
 have hst:=run_storeCells_cells (P:=Tryz.prog) b o (Builtin.zeroCells #[.int .i64 0,.int .i64 0,.int .i64 0,.int .i64 0] n).toList 0 w (by rw [hl];simpa using hc) (by rw [hl];simpa using hf) (by
  intro v hv';simp only [Builtin.zeroCells]at hv';simp at hv';obtain⟨j,_,e⟩:=hv';have:j%4=0∨j%4=1∨j%4=2∨j%4=3:=by omega
  rcases this with h|h|h|h<;>(rw [h]at e;simp at e;subst e;rfl))
 simp only [Nat.add_zero]at hst;obtain⟨m,rfl⟩:∃m,n=m+1:=⟨n-1,by omega⟩;simp [Builtin.clear_,run_underlying Tryz.underlying32,hv,dR,hst]
theorem sW:∀(l:List EdZ) (k:Nat) (e:EdZ),((((A9 l).set (k*4) (.int .i64 e.f)).set (k*4+1) (.int .i64 e.t)).set (k*4+2) (.int .i64 e.l)).set (k*4+3) (.int .i64 e.r)=A9 (l.set k e)
 | [],k,e=>by simp [A9]
 | x::l,0,e=>rfl
 | x::l,k+1,e=>by
  have ih:=sW l k e;have e0:∀y,A9 (y::l)=.int .i64 y.f :: .int .i64 y.t :: .int .i64 y.l :: .int .i64 y.r::A9 l:=fun y=>rfl;have e1:∀o,(k+1)*4+o=k*4+o+1+1+1+1:=(by omega);rw [e0,e1 1,e1 2,e1 3,show (k+1)*4=k*4+1+1+1+1 by omega];simp only [List.set_cons_succ,ih]
  rfl
def Gf(f:EdZ→Bool)(l:List EdZ):List EdZ:=l.filter (fun s=>!f s)
theorem kj(f:EdZ→Bool)(l:List EdZ){j:Nat}(h:j<l.length):Gf f (l.take (j+1))=Gf f (l.take j)++if f l[j] then [] else [l[j]]:=by
 unfold Gf;rw [AoA h,List.filter_append]
 congr 1
 cases hE:f l[j]<;>simp [hE]
theorem ki{f:EdZ→Bool}{l:List EdZ}(h:∀q∈l,f q=false):Gf f l=l:=by
 unfold Gf;rw [List.filter_eq_self];intro a ha;rw [h a ha];rfl
def GB(base:Nat)(w w':World):Prop:=∀w0,Ab w0 w→w0.heap.size<=base→Ab w0 w'
theorem GB.ext{base:Nat}{a b c:World}(h:GB base a b)(k:Ab b c):GB base a c:=fun w0 h1 h2=>(h w0 h1 h2).trans k
theorem GB.of{base:Nat}{a b:World}(k:Ab a b):GB base a b:=fun _ h1 _=>h1.trans k
def UP(f:EdZ→Bool)(base:Nat)(l:List EdZ)(w:World)(e:Ending)(w':World):Prop:=
 (∃(A:Option Addr) (c:Nat),e=.returned (.slice A (Gf f l).length c)/\Af w' A (A9 (Gf f l))/\(Gf f l).length<=c/\c<=9223372036854775807)/\GB base w w'
theorem Adc{gf:FuncId}{cb:Array Value}(eg:∀args w,(callFunc gf args).run Tryz.prog w=.ok (.enter gf args) w)(f:EdZ→Bool)(base:Nat)(l:List EdZ)(A:Option Addr)(c:Nat)(w:World)(hown:w.ownsRow base 51 4 (.slice A l.length c) l.length (A9 l))(hl:l.length<=100000)
  (hp:∀e∈l,∀W,GB base w W→Calls Tryz.prog gf (#[I2 e]++cb) W (BF (f e) W)) :
  Calls Tryz.prog 70 #[.slice A l.length c,.func (.func gf) #[] cb] w (UP f base l w):=by
 obtain⟨A',c',e',hr,hc1,hc2⟩:=Af.of_own' (by omega) hown;simp only [Value.slice.injEq,true_and]at e';obtain⟨rfl,rfl⟩:=e';have ie:=jm eg f l A c w hr hc1 hc2 (fun e he W hx=>hp e he W (GB.of hx));obtain⟨n,hn⟩:=Ao3 l.length;have hge:=AgU f l;have TG:=AgV f l
 have dQ:(Dg f l = -1/\Gf f l=l)∨∃i:Nat,Dg f l=(i:Int)/\i<n/\Gf f (l.take (i+1))=l.take i:=by
  unfold Dg
  cases hf:l.findIdx? f with
  | none=>
   rw [List.findIdx?_eq_none_iff]at hf;exact .inl ⟨rfl,ki hf⟩
  | some i=>
   rw [List.findIdx?_eq_some_iff_getElem]at hf;obtain⟨hi,h1,h2⟩:=hf;refine .inr ⟨i,rfl,by omega,?_⟩;rw [kj f l hi,h1];simp only [if_true,List.append_nil];refine ki fun q hq=>?_;rw [List.mem_take_iff_getElem]at hq;obtain⟨k,hk,rfl⟩:=hq;have:=h2 k (by omega)
   simpa using this
 rw [←hn]at ie hown hc1 hl ⊢;have HN:=Ao4 hn;obtain⟨z,hz0⟩:=Ao3 (Dg f l);rw [←hz0]at ie hge TG dQ;have HC:=Ao4 dQ;have HPP:=Ao4 hp;have HR:=Ao4 hr;clear hn hr hz0 dQ hp;go_enter Tryz.func70,Tryz.ntmps70;(go_wp2_with fail);(with_reducible refine ie.mono ?_);rintro e w1 ⟨rfl,hx1⟩;have ho1:=AL hown hx1;by_cases hk:z = -1
 ·subst hk
  have Ce:Gf f l=l:=by
   rcases HC.out with⟨_,h⟩|⟨i,h,_⟩
   ·exact h
   ·omega
  have CC:UP f base l w (.returned (.slice A n c)) w1:=⟨⟨A,c,by rw [Ce,←HN.out],by rw [Ce];exact HR.out.ext hx1,by rw [Ce,←HN.out];exact hc1,hc2⟩,GB.of hx1⟩;have HF:=Ao4 CC;clear CC ho1 hown Ce;go_wp2;go_ret;exact HF.out
 ·obtain⟨i0,rfl,hin,hk0⟩:∃i:Nat,z=(i:Int)/\i<n/\Gf f (l.take (i+1))=l.take i:=by
   rcases HC.out with⟨h,_⟩|h
   ·exact absurd h hk
   ·exact h
  have HK0:=Ao4 hk0;have hkb:((i0:Int) == -1)=false:=beq_false_of_ne hk
  obtain⟨g,rfl,hbg⟩:∃g,A=some ⟨g,0,none⟩/\base<=g:=by
   rcases hown.2 with⟨h',_⟩|⟨g,cap,cur,hv,hb,_⟩
   ·simp only [Value.slice.injEq]at h';omega
   ·cases hv;exact⟨g,rfl,hb⟩
  clear hk hk0 hge TG
  go_upto_region 5 with fail
  go_loopw [5,6] (fun iv jv wr=>∃(i j:Nat) (l2:List EdZ),iv=.int .i64 (i:Nat)/\jv=.int .i64 (j:Nat)/\i<j/\j<=n/\l2.length=n/\l2.take i=Gf f (l.take j)/\l2.drop j=l.drop j/\wr.ownsRow base 51 4 (.slice (some ⟨g,0,none⟩) n c) n (A9 l2)/\GB base w wr) (fun _ jv _=>n-(intOf jv).toNat)
  case atStart=>exact⟨i0,i0+1,l,rfl,by go_num,by omega,by omega,HN.out.symm,HK0.out.symm,rfl,ho1,GB.of hx1⟩
  case round=>
   obtain⟨i,j,l2,rfl,rfl,Bu,hj,hl2,N2,Fa,ho,Xb⟩:=hrel;have HKP:=Ao4 Xb;have Zd:=Ao4 N2;have NS:=Ao4 Fa;have NT:=Ao4 hl2;clear N2 Fa;by_cases hlt:j<n
   ·obtain⟨Lh,Li,Lj,Lk⟩:=PO l2 j (by omega);have d0:=(ho.cellAt (j*4) (by omega)).trans Lh;have d1:=(ho.cellAt (j*4+1) (by omega)).trans Li;have d2:=(ho.cellAt (j*4+2) (by omega)).trans Lj;have d3:=(ho.cellAt (j*4+3) (by omega)).trans Lk;obtain⟨p,hp⟩:=Ao3 (l2[j]);rw [←hp]at d0 d1 d2 d3;clear Lh Li Lj Lk;have hj0:(0:Int)<=(j:Int):=(by omega);have Bc:(j:Int)<(n:Int):=(by omega);have Kh:(0:Int)<=(i:Int):=(by omega);have Nq:(i:Int)<(n:Int):=(by omega);have eQ:j<l.length:=by rw [←HN.out];exact hlt
    have hpl:p=l[j]:=by rw [hp];have h1:(l2.drop j)[0]?=(l.drop j)[0]?:=(by rw [NS.out]);rw [List.getElem?_drop,List.getElem?_drop,Nat.add_zero,AoC (by omega),AoC eQ]at h1;exact Option.some.inj h1
    have FG:=kj f l eQ;have Qw:p∈l:=(by rw [hpl];exact Ao8 eQ);rw [←hpl]at FG;have M5:=Ao4 FG;have HPM:=Ao4 Qw;clear hp hpl FG hl2 Xb Qw;obtain⟨pf,pt,pl,pr⟩:=p
    dsimp only at d0 d1 d2 d3
    go_upto_region 8 with fail
    have ve:=Ao6 wr (.cells #[.int .i64 pf,.int .i64 pt,.int .i64 pl,.int .i64 pr] 51);have Q8:=(Ab.refl wr).alloc (.cells #[.int .i64 pf,.int .i64 pt,.int .i64 pl,.int .i64 pr] 51);clear d0 d1 d2 d3;generalize wr.alloc (.cells #[.int .i64 pf,.int .i64 pt,.int .i64 pl,.int .i64 pr] 51)=VE at *;obtain⟨bw,Dd⟩:=Ao3 wr.heap.size;rw [←Dd]at ve ⊢;have hgb:g≠bw:=(by have:=(ho.lt g rfl).2;omega);have hgb':bw≠g:=fun h=>hgb h.symm;clear Dd;have v0:VE.cell? ⟨bw,0,none⟩=some (.int .i64 pf):=Aa ve rfl;have v1:VE.cell? ⟨bw,1,none⟩=some (.int .i64 pt):=Aa ve rfl;have v2:VE.cell? ⟨bw,2,none⟩=some (.int .i64 pl):=Aa ve rfl;have v3:VE.cell? ⟨bw,3,none⟩=some (.int .i64 pr):=Aa ve rfl;have Xk:=AL ho Q8;have Rz:=Ao4 (HKP.out.ext Q8);have bf:=HPP.out ⟨pf,pt,pl,pr⟩ HPM.out VE Rz.out;unfold I2 at bf
    dsimp only at bf
    clear ho Q8 ve
    cases hL:f ⟨pf,pt,pl,pr⟩
    ·have HE:=Ao4 hL;rw [hL]at bf;clear hL;(go_wp2_with fail);(with_reducible refine bf.mono ?_);rintro e w2 ⟨rfl,hx2⟩;have ho2:=AL Xk hx2;replace v0:=hx2.cellS v0;replace v1:=hx2.cellS v1;replace v2:=hx2.cellS v2;replace v3:=hx2.cellS v3;obtain⟨Lh,Li,Lj,Lk⟩:=PO l2 i (by rw [NT.out];omega);have d0:=(ho2.cellAt (i*4) (by omega)).trans Lh;have d1:=(ho2.cellAt (i*4+1) (by omega)).trans Li;have d2:=(ho2.cellAt (i*4+2) (by omega)).trans Lj;have d3:=(ho2.cellAt (i*4+3) (by omega)).trans Lk;have f0:=ho2.frozenAt (i*4);have f1:=ho2.frozenAt (i*4+1);have f2:=ho2.frozenAt (i*4+2);have f3:=ho2.frozenAt (i*4+3);have hst:=((((ho2.stored (i*4) (.int .i64 pf)).1.stored (i*4+1) (.int .i64 pt)).1).stored (i*4+2) (.int .i64 pl)).1.stored (i*4+3) (.int .i64 pr);have Qy:=sW l2 i ⟨pf,pt,pl,pr⟩
     dsimp only at Qy
     rw [Qy]at hst;have zS:GB base w ((((w2.setCell ⟨g,i*4,none⟩ (.int .i64 pf)).setCell ⟨g,i*4+1,none⟩ (.int .i64 pt)).setCell ⟨g,i*4+2,none⟩ (.int .i64 pl)).setCell ⟨g,i*4+3,none⟩ (.int .i64 pr)):=fun w0 h1 h2=>(((((Rz.out w0 h1 h2).trans hx2).setCell (p:=⟨g,i*4,none⟩) (AoH h2 hbg) _).setCell (p:=⟨g,i*4+1,none⟩) (AoH h2 hbg) _).setCell (p:=⟨g,i*4+2,none⟩) (AoH h2 hbg) _).setCell (p:=⟨g,i*4+3,none⟩) (AoH h2 hbg) _;have HS:=Ao4 (And.intro hst.1 zS);clear hst zS Lh Li Lj Lk Qy ho2 Xk;go_wp2;go_roundw
     case rel=>
      refine⟨i+1,j+1,l2.set i ⟨pf,pt,pl,pr⟩,by go_num,by go_num,by omega,hlt,by rw [List.length_set];exact NT.out,?_,?_,HS.out.1,HS.out.2⟩
      ·rw [M5.out,HE.out,←Zd.out,AoA (by rw [List.length_set];have:=NT.out;omega),List.take_set_of_le (by omega),List.getElem_set_self]
       rfl
      ·have h1:=congrArg (List.drop 1) NS.out;rw [List.drop_drop,List.drop_drop]at h1;rw [←h1,List.drop_set_of_lt (by omega)]
     case measure=>simp [intOf];omega
    ·have HE:=Ao4 hL;rw [hL]at bf;clear hL;(go_wp2_with fail);(with_reducible refine bf.mono ?_);rintro e w2 ⟨rfl,hx2⟩;have Pv:=Ao4 (AL Xk hx2);clear Xk;go_wp2;go_roundw
     case rel=>
      refine⟨i,j+1,l2,rfl,by go_num,by omega,hlt,NT.out,?_,?_,Pv.out,Rz.out.ext hx2⟩
      ·rw [M5.out,HE.out,Zd.out];simp
      ·have h1:=congrArg (List.drop 1) NS.out;rw [List.drop_drop,List.drop_drop]at h1;exact h1
     case measure=>simp [intOf];omega
   ·have hjn:j=n:=(by omega);subst hjn;have hle:(j:Int)<=(j:Int):=(by omega);have Kh:(0:Int)<=(i:Int):=(by omega);have OF:(i:Int)<=(j:Int):=(by omega);have L8:(i:Int)<=(c:Int):=(by omega);obtain⟨vs,IG,hcl⟩:=Akd wr g (i*4) (j-i) (c-i) (by omega) (fun q hq=>by rw [ho.cellAt _ (by omega),AoC (by rw [Su,NT.out];omega)];rfl) (fun q hq=>ho.frozenAt _)
    have CC:UP f base l w (.returned (.slice (some ⟨g,0,none⟩) i c)) (wr.setCells g (i*4) vs):=by
     have e:l2.take i=Gf f l:=by rw [Zd.out,AoF (by rw [←HN.out];exact Ao7 _)]
     have e2:(Gf f l).length=i:=(by rw [←e,List.length_take];omega);refine⟨⟨some ⟨g,0,none⟩,c,by rw [e2],?_,by omega,hc2⟩,fun w0 h1 h2=>aA g (AoH h2 hbg) _ _ _ (Xb w0 h1 h2)⟩;refine⟨fun _=>⟨g,0,rfl,fun q hq=>?_⟩⟩;have hq4:q<i*4:=(by rw [Su,e2]at hq;exact hq);rw [Nat.zero_add,World.cell?_setCells_out _ _ _ _ _ (fun _ _=>.inl (by simp only [];omega)),ho.cellAt q (by omega)];simp only [←e,sX,List.getElem_take];rw [AoC]
    have HF:=Ao4 CC;clear CC ho Xb;go_wp2;go_ret;exact HF.out
section
open Go.Sort
theorem Ade(base:Nat)(l:List Bs)(g cap i j:Nat)(w:World)(hown:w.ownsRow base 9 1 (.slice (some ⟨g,0,none⟩) l.length cap) l.length (l.map S))(Bu:i<=j)(hj:j<=l.length) :
  Calls Tryz.prog 73 #[.slice (some ⟨g,0,none⟩) l.length cap,.int .i64 i,.int .i64 j] w (fun e w'=>e=.returned (.slice (some ⟨g,0,none⟩) (l.length-(j-i)) cap)/\w'.ownsRow base 9 1 (.slice (some ⟨g,0,none⟩) (l.length-(j-i)) cap) (l.length-(j-i)) ((l.take i++l.drop j).map S)/\GB base w w'/\AD (fun q=>q=g) w w'):=by
 have hv:(Value.slice (some ⟨g,0,none⟩) l.length cap)≠.slice none 0 0:=by simp
 rcases hown.2 with⟨h',_⟩|⟨g',cap',cur,hv',hbase,hb,h1,h2,h3,h4⟩
 ·cases h'
 ·simp only [Value.slice.injEq,AoB,Addr.mk.injEq,and_true,true_and]at hv';obtain⟨rfl,rfl⟩:=hv';obtain⟨A1,c1,q1,-,s1,yq⟩:=Af.of_own' (by omega) hown;simp only [Value.slice.injEq,true_and]at q1;obtain⟨rfl,rfl⟩:=q1;obtain⟨g',cap',he,-,hlt,AP,-,-,hH⟩:=Lib.holds_of_ownsRow (enc:=encStr) (zs:=l) hown hv
  cases he;refine(Tryz.slices_Delete_string g 0 cap i j l w hH (by omega) yq Bu hj).mono ?_;rintro e w' ⟨rfl,q,rfl⟩;have hc:=Lib.ownsRow_putRow (enc:=encStr) (q:=q) (k:=l.length-(j-i)) (ys:=l.take i++l.drop j++List.replicate (j-i) []) hown (by simp;omega) (by omega);rw [List.take_left' (by simp;omega)]at hc;exact⟨rfl,hc,fun w0 h h'=>Lib.below_putRow h (by omega),⟨rfl,rfl,rfl,by simp [putRow,mapBlock,Sort.ahead],fun k hk hne=>by simp [putRow,mapBlock,Sort.ahead,Array.getElem?_modify,show g≠k from fun e=>hne e.symm]⟩⟩
end
structure DN(w1 wr:World)(bo bn bh:Nat)(P E Fv:Value)(ks:List Bs)(nm:List (Int×Int))(ps:List Pt)(es:List EdZ):Prop where
 ext:Ab w1 wr
 cO:wr.heap[bo]?=some (.cells #[P,E,Fv] 35)
 pts:wr.ownsRow w1.heap.size 24 2 P ps.length (flat (Aq ps))
 eds:wr.ownsRow w1.heap.size 51 4 E es.length (A9 es)
 fac:wr.ownsRow w1.heap.size 9 1 Fv ks.length (ks.map S)
 cN:wr.heap[bn]?=some (.cells #[.map (some bh)] 130)
 num:CZ wr bh nm
 szo:w1.heap.size<=bo/\w1.heap.size<=bh
section
variable {w1 wr w' : World} {bo bn bh : Nat} {P E Fv P' E' : Value} {ks : List Bs} {nm : List (Int × Int)} {ps ps' : List Pt} {es es' : List EdZ}
theorem DN.grow(h:DN w1 wr bo bn bh P E Fv ks nm ps es)(hx:Ab wr w'):DN w1 w' bo bn bh P E Fv ks nm ps es:=
 ⟨h.ext.trans hx,(hx.block _ (Ao5 h.cO)).trans h.cO,AL h.pts hx,AL h.eds hx,AL h.fac hx,(hx.block _ (Ao5 h.cN)).trans h.cN,(hx.block _ (Ao5 h.num)).trans h.num,h.szo⟩
theorem U1{w:World}{B:Nat}{e:TypeId}{s n:Nat}{v:Value}{xs:List Value}(h:w.ownsRow B e s v n xs){b:Nat}{nm:List (Int×Int)}(hb:CZ w b nm):v.ownBlock≠some b:=by
 intro e0
 rcases h.2 with⟨h',_⟩|⟨g,cap,cur,h',_,hgb,_⟩
 ·rw [h']at e0;cases e0
 ·rw [h']at e0;simp only [Value.ownBlock,AoB]at e0;subst e0;unfold CZ at hb;rw [hgb]at hb
  cases hb
theorem RY{w:World}{j b:Nat}{cs:Array Value}{t:TypeId}{nm:List (Int×Int)}(h:w.heap[j]?=some (.cells cs t))(hb:CZ w b nm):j≠b:=by
 rintro rfl;unfold CZ at hb;rw [h]at hb
 cases hb
theorem DN.name(h:DN w1 wr bo bn bh P E Fv ks nm ps es){Ea:List (Int×Int)}(hg:wr.grownBy w' (some bh))(hI:CZ w' bh Ea):DN w1 w' bo bn bh P E Fv ks Ea ps es:=by
 have hb:=(AD.refl (fun k=>k=bh) wr).grown hg (fun k e=>by cases e;exact .inl rfl)
 exact⟨h.ext.grown hg (fun k hk=>by cases hk;exact h.szo.2),(hb.block _ (Ao5 h.cO) (RY h.cO h.num)).trans h.cO,Cg h.pts hb (fun k hk e=>by subst e;exact U1 h.pts h.num hk),Cg h.eds hb (fun k hk e=>by subst e;exact U1 h.eds h.num hk),Cg h.fac hb (fun k hk e=>by subst e;exact U1 h.fac h.num hk),
  (hb.block _ (Ao5 h.cN) (RY h.cN h.num)).trans h.cN,hI,h.szo⟩
theorem Ach{w:World}{b:Nat}{a0 a1 a2:Value}{t:TypeId}(v:Value)(h:w.heap[b]?=some (.cells #[a0,a1,a2] t)):(w.setCell ⟨b,0,none⟩ v).heap[b]?=some (.cells #[v,a1,a2] t):=by
 simp only [World.setCell,Array.getElem?_modify,h];simp
theorem DN.pt(h:DN w1 wr bo bn bh P E Fv ks nm ps es)(hg:wr.grownBy w' P.ownBlock)(ho:w'.ownsRow w1.heap.size 24 2 P' ps'.length (flat (Aq ps'))) :
  w'.heap[bo]?=some (.cells #[P,E,Fv] 35)/\DN w1 (w'.setCell ⟨bo,0,none⟩ P') bo bn bh P' E Fv ks nm ps' es:=by
 have hM:=GI hg h.pts h.cO (by decide);have hN:=GI hg h.pts h.cN (by decide);have hI:CZ w' bh nm:=(hg.block bh (Ao5 h.num) (fun e=>U1 h.pts h.num e.symm)).trans h.num;have hE:=PQ hg h.pts h.eds (by decide);have hF:=PQ hg h.pts h.fac (by decide);have bb:=(AD.refl (fun q=>q=bo) w').setCell (p:=⟨bo,0,none⟩) (.inl rfl) P';have hX:Ab w1 w':=h.ext.grown hg (fun k hk=>(h.pts.lt k hk).1);refine⟨hM,hX.setCell (p:=⟨bo,0,none⟩) h.szo.1 P',Ach P' hM,Cg ho bb (fun q hq e=>by subst e;exact BQ ho hM (by decide) hq),Cg hE bb (fun q hq e=>by subst e;exact BQ hE hM (by decide) hq),Cg hF bb (fun q hq e=>by subst e;exact BQ hF hM (by decide) hq),?_,?_,h.szo⟩
 ·rw [Cj (by exact CU hN hM (by decide))];exact hN
 ·unfold CZ;rw [Cj (by exact fun e=>RY hM hI e.symm)];exact hI
theorem DN.ed(h:DN w1 wr bo bn bh P E Fv ks nm ps es)(hg:wr.grownBy w' E.ownBlock)(ho:w'.ownsRow w1.heap.size 51 4 E' es'.length (A9 es')) :
  w'.heap[bo]?=some (.cells #[P,E,Fv] 35)/\DN w1 (w'.setCell ⟨bo,1,none⟩ E') bo bn bh P E' Fv ks nm ps es':=by
 have hM:=GI hg h.eds h.cO (by decide);have hN:=GI hg h.eds h.cN (by decide);have hI:CZ w' bh nm:=(hg.block bh (Ao5 h.num) (fun e=>U1 h.eds h.num e.symm)).trans h.num;have hE:=PQ hg h.eds h.pts (by decide);have hF:=PQ hg h.eds h.fac (by decide);have bb:=(AD.refl (fun q=>q=bo) w').setCell (p:=⟨bo,1,none⟩) (.inl rfl) E';have hX:Ab w1 w':=h.ext.grown hg (fun k hk=>(h.eds.lt k hk).1);refine⟨hM,hX.setCell (p:=⟨bo,1,none⟩) h.szo.1 E',qH E' hM,Cg hE bb (fun q hq e=>by subst e;exact BQ hE hM (by decide) hq),Cg ho bb (fun q hq e=>by subst e;exact BQ ho hM (by decide) hq),Cg hF bb (fun q hq e=>by subst e;exact BQ hF hM (by decide) hq),?_,?_,h.szo⟩
 ·rw [Cj (by exact CU hN hM (by decide))];exact hN
 ·unfold CZ;rw [Cj (by exact fun e=>RY hM hI e.symm)];exact hI
end
def Vn(w w':World):Prop:=∀(j:Nat) (cs:Array Value),w.heap[j]?=some (.cells cs 51)→w'.heap[j]?=some (.cells cs 51)
def RH(w1 w:World)(bo bn bh:Nat)(E Fv:Value)(ks:List Bs)(es:List EdZ)(z:Int)(Ea:List (Int×Int))(ps':List Pt)(e:Ending)(w':World):Prop:=
 ∃P',e=.returned (.int .i64 z)/\DN w1 w' bo bn bh P' E Fv ks Ea ps' es/\Vn w w'
theorem Ahs{w1 W1 V w7:World}{bo:Nat}{P E Fv:Value}{ps:List Pt}(hx:Ab W1 V)(hp:W1.ownsRow w1.heap.size 24 2 P ps.length (flat (Aq ps)))(hg:V.grownBy w7 P.ownBlock)(hM:w7.heap[bo]?=some (.cells #[P,E,Fv] 35))(P':Value):Vn W1 (w7.setCell ⟨bo,0,none⟩ P'):=fun j cs hj=>by
 have h1:=GI hg (AL hp hx) ((hx.block _ (Ao5 hj)).trans hj) (by decide);rw [Cj (by exact CU h1 hM (by decide))];exact h1
def Eb(mp:List Pt)(k:Int)(nm:List (Int×Int))(ps:List Pt):Int×List (Int×Int)×List Pt:=match Cm k nm with
 | some z=>(z,nm,ps)
 | none=>((ps.length:Int),nm ++ [(k,(ps.length:Int))],ps ++ [mp.getD k.toNat ⟨0,0⟩])
theorem Ahj{w1 w:World}{bo bn bh bm:Nat}{P E Fv:Value}{ks:List Bs}{nm:List (Int×Int)}{ps:List Pt}{es:List EdZ}(h:DN w1 w bo bn bh P E Fv ks nm ps es)(f z:Int)(hf:Cm f nm=some z) :
  Calls Tryz.prog 74 #[.int .i64 f,.pointer (some ⟨bn,0,none⟩),.pointer (some ⟨bo,0,none⟩),.pointer (some ⟨bm,0,none⟩)] w (RH w1 w bo bn bh E Fv ks es z nm ps):=by
 have k0:=Aa (o:=0) h.cN rfl;have lk:=U9 f nm h.num;have Ku:=Yr f nm h.num;rw [hf]at lk Ku;simp only [Option.getD_some,Option.isSome_some]at lk Ku;go_enter Tryz.func74,Tryz.ntmps74;go_wp2;go_ret;exact⟨P,rfl,h,fun _ _ h=>h⟩
theorem Ahi{w1 w:World}{bo bn bh bm:Nat}{P E Fv:Value}{ks:List Bs}{nm:List (Int×Int)}{ps:List Pt}{es:List EdZ}(h:DN w1 w bo bn bh P E Fv ks nm ps es){A:Option Addr}{c:Nat}{V1 V2:Value}(mp:List Pt)(TJ:w1.heap[bm]?=some (.cells #[.slice A mp.length c,V1,V2] 35))(hA:Af w1 A (flat (Aq mp)))
  (k:Nat) (hk:k<mp.length) (hf:Cm (k:Int) nm=none) (hpl:ps.length<=100000) :
  Calls Tryz.prog 74 #[.int .i64 (k:Nat),.pointer (some ⟨bn,0,none⟩),.pointer (some ⟨bo,0,none⟩),.pointer (some ⟨bm,0,none⟩)] w (RH w1 w bo bn bh E Fv ks es (ps.length:Nat) (nm ++ [((k:Int),(ps.length:Int))]) (ps ++ [mp[k]])):=by
 have k0:=Aa (o:=0) h.cN rfl;have lk:=U9 (k:Int) nm h.num;rw [hf]at lk;simp only [Option.getD_none,Option.isSome_none]at lk;obtain⟨W1,hput,EW,hg1,hs1⟩:=h.num.put (k:Int) (ps.length:Int) hf;have HS:=Ao4 (h.name hg1 EW);have HK:=Ao4 (show Vn w W1 from fun j cs hj=>(hg1.block j (Ao5 hj) (fun e=>RY hj h.num (by cases e;rfl))).trans hj);obtain⟨ub,uo,rfl,hu1,hu2⟩:=Co (hA.ext HS.out.ext) hk;obtain⟨p,hp⟩:=Ao3 (mp[k]);rw [←hp]at hu1 hu2 ⊢;obtain⟨oP,cP,rfl,-,-,-⟩:=Af.of_own' (by omega) h.pts;have k1:w.cell? ⟨bo,0,none⟩=some (.slice oP ps.length cP):=Aa h.cO rfl;have k2:W1.cell? ⟨bo,0,none⟩=some (.slice oP ps.length cP):=Aa HS.out.cO rfl;have k3:W1.cell? ⟨bm,0,none⟩=some (.slice (some ⟨ub,uo,none⟩) mp.length c):=Aa ((HS.out.ext.block _ (Ao5 TJ)).trans TJ) rfl;have hm0:(0:Int)<=(k:Int):=(by omega);have hm1:(k:Int)<(mp.length:Int):=(by omega);have My:=Ao4 hf;have eD:ps.length<200000:=(by omega);have hsz:=HS.out.ext.size;clear hf EW hg1 hs1 h hA TJ hp;go_enter Tryz.func74,Tryz.ntmps74
 go_upto_region 4 with fail
 have k4:(W1.alloc (.cells #[S (R p.x),S (R p.y)] 24)).cell? ⟨bo,0,none⟩=some (.slice oP ps.length cP):=Aa (HS.out.grow ((Ab.refl W1).alloc _)).cO rfl
 go_region_law (refine Alk rfl _ _ rfl _ w1.heap.size (.slice oP ps.length cP) ps.length ps rfl (AL HS.out.pts (by first|exact(Ab.refl W1).alloc _|exact((Ab.refl W1).alloc _).drew)) eD p W1.heap.size (Ao6 W1 _) rfl (by simp;omega) ?_;intro v7 w7 Ih Tx Kg;obtain⟨LW,KY,rfl,-,-,-⟩:=Af.of_own' (by omega) Ih;obtain⟨DV,vW⟩:=(HS.out.grow (by first|exact(Ab.refl W1).alloc _|exact((Ab.refl W1).alloc _).drew)).pt Kg (ps':=ps ++ [p]) (by rw [List.length_append];exact Ih);have SH:Vn W1 (w7.setCell ⟨bo,0,none⟩ (.slice LW (ps.length+1) KY)):=Ahs (by first|exact(Ab.refl W1).alloc _|exact((Ab.refl W1).alloc _).drew) HS.out.pts Kg DV _;have e1:w7.cell? ⟨bo,0,none⟩=some (.slice oP ps.length cP):=Aa DV rfl;have e2:=Aj (o:=0) DV)
 all_goals (
  have N9:=vW;have v1:=Aa (o:=0) N9.cN rfl;have Uo:=Yr (k:Int) (nm ++ [((k:Int),(ps.length:Int))]) N9.num
  rw [show Cm (k:Int) (nm ++ [((k:Int),(ps.length:Int))])=some (ps.length:Int)by
   have OD:=My.out;unfold Cm at OD ⊢;rw [List.find?_append]
   cases hq:nm.find? (fun e=>(k:Int) == e.1)with
   | some e=>rw [hq]at OD;cases OD
   | none=>simp]at Uo
  simp only [Option.getD_some]at Uo;clear DV e1 e2 Kg Ih Tx vW;generalize (w7.setCell ⟨bo,0,none⟩ (.slice LW (ps.length+1) KY))=W8 at *;have YT:=Ao4 N9;have yz:=Ao4 SH;clear N9 SH;go_wp2;go_ret
  exact⟨_,rfl,YT.out,fun j cs hj=>yz.out j cs (HK.out j cs hj)⟩)
theorem Air(mp:List Pt)(k:Int)(nm:List (Int×Int))(ps:List Pt):(Eb mp k nm ps).2.2.length<=ps.length+1:=by
 unfold Eb
 cases Cm k nm with
 | some z=>simp
 | none=>simp
theorem jy{w1 w:World}{bo bn bh bm:Nat}{P E Fv:Value}{ks:List Bs}{nm:List (Int×Int)}{ps:List Pt}{es:List EdZ}(h:DN w1 w bo bn bh P E Fv ks nm ps es){A:Option Addr}{c:Nat}{V1 V2:Value}(mp:List Pt)(TJ:w1.heap[bm]?=some (.cells #[.slice A mp.length c,V1,V2] 35))(hA:Af w1 A (flat (Aq mp)))
  (k:Int) (hk0:0<=k) (hk:k<(mp.length:Int)) (hpl:ps.length<=100000) :
  Calls Tryz.prog 74 #[.int .i64 k,.pointer (some ⟨bn,0,none⟩),.pointer (some ⟨bo,0,none⟩),.pointer (some ⟨bm,0,none⟩)] w (RH w1 w bo bn bh E Fv ks es (Eb mp k nm ps).1 (Eb mp k nm ps).2.1 (Eb mp k nm ps).2.2):=by
 obtain⟨j,rfl⟩:∃j:Nat,k=(j:Int):=⟨k.toNat,by omega⟩;unfold Eb
 cases hf:Cm (j:Int) nm with
 | some z=>exact Ahj h _ z hf
 | none=>
  have h1:=Ahi h mp TJ hA j (by omega) hf hpl
  have e:mp.getD (j:Int).toNat ⟨0,0⟩=mp[j]:=by rw [Int.toNat_natCast,List.getD_eq_getElem?_getD,AoC (by omega)];rfl
  simp only [e];exact h1
section
variable {ops : Array Oper} {o : Oper} {a : Act} {K : Act → World → Prop} {Q : Exit → Act → World → Prop}
theorem Alj{E:Prop}(hgd:o.guard=none)(s x:Operand)(ho:o.op=.call {callee:=.builtin .append,args:=#[s,x],argTypes:=#[32,32]})
  (wN:World) (base:Nat) (v:Value) (n:Nat) (l:List EdZ) (hs:a.eval s=v) (hown:wN.ownsRow base 51 4 v n (A9 l)) (hn:n<200000) (d:EdZ)
  (g:Nat) (hb:wN.heap[g]?=some (.cells #[.int .i64 d.f,.int .i64 d.t,.int .i64 d.l,.int .i64 d.r] 51)) (hx:a.eval x=.slice (some ⟨g,0,none⟩) 1 1) (hbase:base<=wN.heap.size)
  (h:∀v' w',w'.ownsRow base 51 4 v' (n+1) (A9 (l ++ [d]))→wN.grownBy w' v.ownBlock→K (a.put o.dst v') w') :
  if Region.wanted o (yielded ops a.tmps)=true then Oper.wp Tryz.prog o a wN K Q else E:=by
 have hw:Region.wanted o (yielded ops a.tmps)=true:=(by simp [Region.wanted,hgd]);rw [if_pos hw];exact xk s x ho wN base v n l hs hown hn d g hb hx hbase h
end
def So(a b:Int)(e:EdZ):Bool:=(e.l == a&&e.r == b)||(e.l == b&&e.r == a)
def KD(a b f:Int):Int:=if (if f=b then a else f)>b then (if f=b then a else f)-1 else (if f=b then a else f)
theorem Ahh(e:EdZ)(a b:Int){w:World}{ba bb:Nat}(Av:w.heap[ba]?=some (.cells #[.int .i64 a] 3))(Br:w.heap[bb]?=some (.cells #[.int .i64 b] 3)) :
  Calls Tryz.prog 71 #[I2 e,.pointer (some ⟨ba,0,none⟩),.pointer (some ⟨bb,0,none⟩)] w (BF (So a b e) w):=by
 obtain⟨ef,et,el,er⟩:=e;have hq:=Ao6 w (.cells #[.int .i64 ef,.int .i64 et,.int .i64 el,.int .i64 er] 51);have hE:=(Ab.refl w).alloc (.cells #[.int .i64 ef,.int .i64 et,.int .i64 el,.int .i64 er] 51);replace Av:=(hE.block _ (Ao5 Av)).trans Av;replace Br:=(hE.block _ (Ao5 Br)).trans Br;have Ts:So a b ⟨ef,et,el,er⟩=((el == a&&er == b)||(el == b&&er == a)):=rfl;rw [Ts];obtain⟨r,hr⟩:=Ao3 (((el == a&&er == b)||(el == b&&er == a)));rw [←hr];have HR:=Ao4 hr;clear hr;unfold I2;go_enter Tryz.func71,Tryz.ntmps71
 go_upto_region 1 with fail
 generalize w.alloc (.cells #[.int .i64 ef,.int .i64 et,.int .i64 el,.int .i64 er] 51)=V at *;obtain⟨bq,D5⟩:=Ao3 w.heap.size;rw [←D5]at hq ⊢;clear D5 Ts;have k1:V.cell? ⟨bq,2,none⟩=some (.int .i64 el):=Aa hq rfl;have k2:V.cell? ⟨bq,3,none⟩=some (.int .i64 er):=Aa hq rfl;have k3:V.cell? ⟨ba,0,none⟩=some (.int .i64 a):=Aa Av rfl;have k4:V.cell? ⟨bb,0,none⟩=some (.int .i64 b):=Aa Br rfl;have HE:=Ao4 hE;clear hE hq Av Br
 cases b1:(el == a)<;>cases b2:(er == b)<;>cases b3:(el == b)<;>cases b4:(er == a)<;>(go_wp2;go_ret;exact⟨by rw [HR.out,b1,b2,b3,b4];rfl,HE.out⟩)
theorem jx(f a b:Int)(hf:-1<=f/\f<=100000)(ha:-1<=a/\a<=100000){w:World}{ba bb:Nat}(Av:w.heap[ba]?=some (.cells #[.int .i64 a] 3))(Br:w.heap[bb]?=some (.cells #[.int .i64 b] 3)) :
  Calls Tryz.prog 72 #[.int .i64 f,.pointer (some ⟨bb,0,none⟩),.pointer (some ⟨ba,0,none⟩)] w (AI (KD a b f) w):=by
 have k3:w.cell? ⟨ba,0,none⟩=some (.int .i64 a):=Aa Av rfl;have k4:w.cell? ⟨bb,0,none⟩=some (.int .i64 b):=Aa Br rfl;have i1:IntKind.wrap .i64 (f-1)=f-1:=AoD _ (by omega);have i2:IntKind.wrap .i64 (a-1)=a-1:=AoD _ (by omega);unfold KD;clear Av Br;by_cases h1:f=b
 ·have b1:(f == b)=true:=(by rw [h1];simp);rw [if_pos h1];clear h1;by_cases h2:a>b
  ·rw [if_pos h2];go_enter Tryz.func72,Tryz.ntmps72;go_wp2;go_ret;exact⟨rfl,Ab.refl _⟩
  ·rw [if_neg h2];go_enter Tryz.func72,Tryz.ntmps72;go_wp2;go_ret;exact⟨rfl,Ab.refl _⟩
 ·have b1:(f == b)=false:=beq_false_of_ne h1;rw [if_neg h1];clear h1;by_cases h2:f>b
  ·rw [if_pos h2];go_enter Tryz.func72,Tryz.ntmps72;go_wp2;go_ret;exact⟨rfl,Ab.refl _⟩
  ·rw [if_neg h2];go_enter Tryz.func72,Tryz.ntmps72;go_wp2;go_ret;exact⟨rfl,Ab.refl _⟩
theorem C7.set3{B:Nat}{w:World}{A Bk F:Option Addr}{c d g:Nat}{m:MapZ}{fa:List Bs}(h:C7 B w A Bk F c d g m fa){bo:Nat}{cs:Array Value}(hb:w.heap[bo]?=some (.cells cs 35))(x y z:Value):C7 B (((w.setCell ⟨bo,0,none⟩ x).setCell ⟨bo,1,none⟩ y).setCell ⟨bo,2,none⟩ z) A Bk F c d g m fa:=
 ⟨Eu h.pts hb (by decide) _ _ _,Eu h.eds hb (by decide) _ _ _,Eu h.fac hb (by decide) _ _ _,h.nf⟩
def nZ(B:Nat)(w0 W:World)(m':MapZ)(fa':List Bs)(e:Ending)(w':World):Prop:=
 ∃A' B' F' c' d' g',e=.returned (.tuple #[AO A' B' F' m' c' d' g',.int .i64 0])/\C7 B w' A' B' F' c' d' g' m' fa'/\Ab w0 w'/\∀(j:Nat) (cs:Array Value),W.heap[j]?=some (.cells cs 35)→w'.heap[j]?=some (.cells cs 35)
theorem AbF(m m':MapZ)(fa fa':List Bs)(Cr:m.nf=fa.length)(hgr:∀p∈m.pts,Db p)(hck:Fx m=0)(hpl:m.pts.length<=1000)(hel:m.eds.length<=1000)(D6:fa.length<=1000)(Tq:Hx m'=true)(LI:m'.nf=fa'.length)(Qn:fa'.length<=1000)(a b:Pt)(u:Bs)(w:World)(hw:Am w)
  (hsc:∀W,Ab w W→Calls Tryz.prog 9 #[Ga 2 a b u] W (AI 0 W))
  (L6:∀(V W:World) (A B F:Option Addr) (c d g:Nat),Ab w V→Ab V W→C7 V.heap.size W A B F c d g m fa→Calls Tryz.prog 38 #[AO A B F m c d g,Ga 2 a b u] W (nZ V.heap.size V W m' fa'))
  (A B F:Option Addr) (c d g:Nat) (AP:CY m c d g) (hA:Af w A (flat (Aq m.pts))) (hB:Af w B (A9 m.eds)) (hF:Af w F (fa.map S)) :
  Calls Tryz.prog 10 #[AO A B F m c d g,Ga 2 a b u] w (fun e w'=>Mr w (Og m' fa') (Dm m' fa').fa e w'):=by
 obtain⟨hM,hE,hR,hX⟩:=Pg w (.cells #[.slice A m.pts.length c,.slice B m.eds.length d,.slice F m.nf g] 35) (.cells #[.int .i64 2,S (R a.x),S (R a.y),S (R b.x),S (R b.y),S [],S [],S u] 26) (.cells #[.slice none 0 0,.slice none 0 0,.slice none 0 0] 35);have pc:=fun W (hx:Ab w W)=>Pa m hgr A B F c d g AP W (hw.ext hx) (hA.ext hx) (hB.ext hx);rw [hck]at pc;have cp:=fun W (hx:Ab w W)=>rQ m fa Cr hpl hel D6 A B F c d g W (hA.ext hx) (hB.ext hx) (hF.ext hx);have HM:=Ao4 (And.intro Tq (And.intro LI (And.intro Qn Cr)));clear Tq LI Qn Cr AP hA hB hF hgr hck;unfold AO at pc cp ⊢;unfold Ga at hsc L6 ⊢;unfold AO at L6;go_enter Tryz.func10,Tryz.ntmps10
 go_upto_region 1 with fail
 generalize ((w.alloc (.cells #[.slice A m.pts.length c,.slice B m.eds.length d,.slice F m.nf g] 35)).alloc (.cells #[.int .i64 2,S (R a.x),S (R a.y),S (R b.x),S (R b.y),S [],S [],S u] 26)).alloc (.cells #[.slice none 0 0,.slice none 0 0,.slice none 0 0] 35)=V at *;obtain⟨bm,AW⟩:=Ao3 w.heap.size;have WC:=AW;rw [←AW]at hM hE hR ⊢;have k0:V.cell? ⟨bm,0,none⟩=some (.slice A m.pts.length c):=Aa hM rfl;have k1:V.cell? ⟨bm,1,none⟩=some (.slice B m.eds.length d):=Aa hM rfl;have k2:V.cell? ⟨bm,2,none⟩=some (.slice F m.nf g):=Aa hM rfl;have YF:=Ao4 AW;clear AW WC;have p1:=pc V hX;(go_wp2_with fail);(with_reducible refine p1.mono ?_);rintro e w1 ⟨rfl,hx1⟩;have O4:=hX.trans hx1;have x0:w1.cell? ⟨bm+1,0,none⟩=some (.int .i64 2):=Aa ((hx1.block _ (Ao5 hE)).trans hE) rfl;have x1:w1.cell? ⟨bm+1,1,none⟩=some (S (R a.x)):=Aa ((hx1.block _ (Ao5 hE)).trans hE) rfl;have x2:w1.cell? ⟨bm+1,2,none⟩=some (S (R a.y)):=Aa ((hx1.block _ (Ao5 hE)).trans hE) rfl;have x3:w1.cell? ⟨bm+1,3,none⟩=some (S (R b.x)):=Aa ((hx1.block _ (Ao5 hE)).trans hE) rfl;have x4:w1.cell? ⟨bm+1,4,none⟩=some (S (R b.y)):=Aa ((hx1.block _ (Ao5 hE)).trans hE) rfl;have x5:w1.cell? ⟨bm+1,5,none⟩=some (S []):=Aa ((hx1.block _ (Ao5 hE)).trans hE) rfl;have x6:w1.cell? ⟨bm+1,6,none⟩=some (S []):=Aa ((hx1.block _ (Ao5 hE)).trans hE) rfl;have x7:w1.cell? ⟨bm+1,7,none⟩=some (S u):=Aa ((hx1.block _ (Ao5 hE)).trans hE) rfl;have s1:=hsc w1 O4;clear p1 pc k0 k1 k2;(go_wp2_with fail);(with_reducible refine s1.mono ?_);rintro e w2 ⟨rfl,hx2⟩;have CW:=O4.trans hx2;have hV2:=hx1.trans hx2;replace x0:=hx2.cellS x0;clear s1 hsc x1 x2 x3 x4 x5 x6 x7;have al:∀O,(w2.alloc O).cell? ⟨bm+1,0,none⟩=some (.int .i64 2):=fun O=>((Ab.refl w2).alloc O).cellS x0
 go_upto_region 8 with fail
 clear al;have hx3:=fun O=>(Ab.refl w2).alloc O;generalize hW3:w2.alloc _=W3;have C0:Ab w2 W3:=hW3▸hx3 _;have CV:=((hV2.trans C0).block _ (Ao5 hM)).trans hM;have BV:=((hV2.trans C0).block _ (Ao5 hE)).trans hE;have AK:=((hV2.trans C0).block _ (Ao5 hR)).trans hR;have hW:=CW.trans C0;clear hW3 hx3 C0 x0 hM hE hR;have k0:W3.cell? ⟨bm,0,none⟩=some (.slice A m.pts.length c):=Aa CV rfl;have k1:W3.cell? ⟨bm,1,none⟩=some (.slice B m.eds.length d):=Aa CV rfl;have k2:W3.cell? ⟨bm,2,none⟩=some (.slice F m.nf g):=Aa CV rfl;have y0:W3.cell? ⟨bm+1,0,none⟩=some (.int .i64 2):=Aa BV rfl;have y1:W3.cell? ⟨bm+1,1,none⟩=some (S (R a.x)):=Aa BV rfl;have y2:W3.cell? ⟨bm+1,2,none⟩=some (S (R a.y)):=Aa BV rfl;have y3:W3.cell? ⟨bm+1,3,none⟩=some (S (R b.x)):=Aa BV rfl;have y4:W3.cell? ⟨bm+1,4,none⟩=some (S (R b.y)):=Aa BV rfl;have y5:W3.cell? ⟨bm+1,5,none⟩=some (S []):=Aa BV rfl;have y6:W3.cell? ⟨bm+1,6,none⟩=some (S []):=Aa BV rfl;have y7:W3.cell? ⟨bm+1,7,none⟩=some (S u):=Aa BV rfl;have SO:=fun (w':World) (h:Ab W3 w')=>(⟨h.cellS k0,h.cellS k1,h.cellS k2,h.cellS y0,h.cellS y1,h.cellS y2,h.cellS y3,h.cellS y4,h.cellS y5,h.cellS y6,h.cellS y7⟩:_/\_/\_/\_/\_/\_/\_/\_/\_/\_/\_);have X:=Ab.refl W3;have hO:=Ao6 W3 (.cells #[.slice none 0 0,.slice none 0 0,.slice none 0 0] 35)
 go_cut [9,10] (fun v9 v10 wx=>∃bo A' B' F' c' d' g',v9=.pointer (some ⟨bo,0,none⟩)/\v10=.int .i64 0/\wx.heap[bo]?=some (.cells #[.slice A' m'.pts.length c',.slice B' m'.eds.length d',.slice F' m'.nf g'] 35)/\C7 w.heap.size wx A' B' F' c' d' g' m' fa'/\Ab W3 wx)
 case first=>
  go_region_held3 (fun w'=>w'.cell? ⟨bm,0,none⟩=some (.slice A m.pts.length c)/\w'.cell? ⟨bm,1,none⟩=some (.slice B m.eds.length d)/\w'.cell? ⟨bm,2,none⟩=some (.slice F m.nf g)/\w'.cell? ⟨bm+1,0,none⟩=some (.int .i64 2)/\w'.cell? ⟨bm+1,1,none⟩=some (S (R a.x))/\w'.cell? ⟨bm+1,2,none⟩=some (S (R a.y))/\w'.cell? ⟨bm+1,3,none⟩=some (S (R b.x))/\w'.cell? ⟨bm+1,4,none⟩=some (S (R b.y))/\w'.cell? ⟨bm+1,5,none⟩=some (S [])/\w'.cell? ⟨bm+1,6,none⟩=some (S [])/\w'.cell? ⟨bm+1,7,none⟩=some (S u))
   (first|exact SS|with_reducible exact SO _ X|with_reducible exact SO _ X.drew|with_reducible exact SO _ (X.alloc _)|with_reducible exact SO _ (X.alloc _).drew)
   (first
    | ((with_reducible refine(L6 V4 w4 A4 B4 F4 c4 d4 g4 EE x4 o4).mono ?_);rintro e w5 ⟨A5,B5,F5,c5,d5,g6,rfl,o5,x5,Jw⟩;replace X:Ab W3 w5:=C5.trans x5;unfold AO;first | (have Cc:=Jw _ _ O3;have g0:=Aa (o:=0) Cc rfl;have g1:=Aa (o:=1) Cc rfl;have g2:=Aa (o:=2) Cc rfl;have I4:=Aj (o:=0) Cc;have g4:=Aj (o:=1) Cc;have g5:=Aj (o:=2) Cc;have SS:=SO _ (CL X (Ao7 _) (.slice A5 m'.pts.length c5) (.slice B5 m'.eds.length d5) (.slice F5 m'.nf g6))) | skip)
    | ((with_reducible refine(L6 V4 _ A4 B4 F4 c4 d4 g4 EE (x4.alloc (.cells #[.slice none 0 0,.slice none 0 0,.slice none 0 0] 35)) (o4.ext ((Ab.refl w4).alloc (.cells #[.slice none 0 0,.slice none 0 0,.slice none 0 0] 35)))).mono ?_);rintro e w5 ⟨A5,B5,F5,c5,d5,g6,rfl,o5,x5,Jw⟩;have X0:=X;replace X:Ab W3 w5:=C5.trans x5;unfold AO;have Cc:=Jw _ _ (Ao6 w4 (.cells #[.slice none 0 0,.slice none 0 0,.slice none 0 0] 35));have g0:=Aa (o:=0) Cc rfl;have g1:=Aa (o:=1) Cc rfl;have g2:=Aa (o:=2) Cc rfl;have I4:=Aj (o:=0) Cc;have g4:=Aj (o:=1) Cc;have g5:=Aj (o:=2) Cc;have SS:=SO _ (CL X X0.size (.slice A5 m'.pts.length c5) (.slice B5 m'.eds.length d5) (.slice F5 m'.nf g6)))
    | ((with_reducible refine(cp _ (hW.trans X.drew)).mono ?_);rintro e w4 ⟨A4,B4,F4,c4,d4,g4,rfl,o4,x4⟩;obtain⟨V4,Jl⟩:=Ao3 W3.drew;rw [←Jl]at o4 x4;have C5:Ab W3 V4:=Jl▸X.drew;have EE:=hW.trans C5;replace X:Ab W3 w4:=C5.trans x4;unfold AO)
    | ((with_reducible refine(cp _ (hW.trans (X.alloc (.cells #[.slice none 0 0,.slice none 0 0,.slice none 0 0] 35)).drew)).mono ?_);rintro e w4 ⟨A4,B4,F4,c4,d4,g4,rfl,o4,x4⟩;have O3:=(x4.block _ (Ao5 hO)).trans hO;obtain⟨V4,Jl⟩:=Ao3 ((W3.alloc (.cells #[.slice none 0 0,.slice none 0 0,.slice none 0 0] 35)).drew);rw [←Jl]at o4 x4;have C5:Ab W3 V4:=Jl▸(X.alloc _).drew;have EE:=hW.trans C5;replace X:Ab W3 w4:=C5.trans x4;unfold AO))
  all_goals go_wp2
  all_goals go_meet
  all_goals
   first
    | exact⟨W3.heap.size,A5,B5,F5,c5,d5,g6,rfl,rfl,DT _ _ _ Cc,(o5.low EE.size).set3 Cc _ _ _,CL X (Ao7 _) _ _ _⟩
    | exact⟨w4.heap.size,A5,B5,F5,c5,d5,g6,rfl,rfl,DT _ _ _ Cc,(o5.low EE.size).set3 Cc _ _ _,CL X X0.size _ _ _⟩
    | exact⟨w5.heap.size,A5,B5,F5,c5,d5,g6,rfl,rfl,Ao6 w5 _,(o5.low EE.size).ext ((Ab.refl w5).alloc _),X.alloc _⟩
 case rest=>obtain⟨bo,A5,B5,F5,c5,d5,g5,rfl,rfl,D4,o5,Ae⟩:=hcut;have hb5:=(Ae.block _ (Ao5 AK)).trans AK;obtain⟨hc5,r1,r2,r3,r4⟩:=o5.rd;have cn:=pw m' fa' HM.out.2.1 HM.out.1 A5 B5 F5 c5 d5 g5 hc5 wc (hw.ext (hW.trans Ae)) r1 r2 r3 r4 (by have h1:=HM.out.2.1;have h2:=HM.out.2.2.1;omega);have Jm:=hW.trans Ae;clear SO X hO k0 k1 k2 y0 y1 y2 y3 y4 y5 y6 y7 o5 r1 r2 r3 r4 hc5 CV BV AK;unfold AO at cn;have j0:wc.cell? ⟨bo,0,none⟩=some (.slice A5 m'.pts.length c5):=Aa D4 rfl;have j1:wc.cell? ⟨bo,1,none⟩=some (.slice B5 m'.eds.length d5):=Aa D4 rfl;have j2:wc.cell? ⟨bo,2,none⟩=some (.slice F5 m'.nf g5):=Aa D4 rfl;obtain⟨mm,hmm⟩:=Ao3 (Og m' fa');obtain⟨ff,Js⟩:=Ao3 ((Dm m' fa').fa);rw [←hmm,←Js]at cn;have R2:=Ao4 (And.intro hmm Js);clear hmm Js;(go_wp2_with fail);(with_reducible refine cn.mono ?_);rintro e w6 ⟨A6,B6,F6,c6,d6,g6,rfl,AP,r1,r2,r3,hnf6,AG⟩;have Bj:=(AG.block _ (Ao5 hb5)).trans hb5;have JY:=Jm.trans AG;have g0:=Aa (o:=0) Bj rfl;have g1:=Aa (o:=1) Bj rfl;have g2:=Aa (o:=2) Bj rfl;have g3:=Aj (o:=0) Bj;have g4:=Aj (o:=1) Bj;have g5':=Aj (o:=2) Bj;have Bd:=DT (.slice A6 mm.pts.length c6) (.slice B6 mm.eds.length d6) (.slice F6 mm.nf g6) Bj;have t1:=Aa (o:=0) Bd rfl;have t2:=Aa (o:=1) Bd rfl;have t3:=Aa (o:=2) Bd rfl;have EZ:=(((AD.refl (fun q=>q=bm+1+1) w6).setCell (p:=⟨bm+1+1,0,none⟩) (.inl rfl) (.slice A6 mm.pts.length c6)).setCell (p:=⟨bm+1+1,1,none⟩) (.inl rfl) (.slice B6 mm.eds.length d6)).setCell (p:=⟨bm+1+1,2,none⟩) (.inl rfl) (.slice F6 mm.nf g6);have z1:=Fl r1 EZ Bj (fun j hj=>by obtain⟨s,h⟩:=On hj;rw [h];simp);have z2:=Fl r2 EZ Bj (fun j hj=>by obtain⟨s,h⟩:=Ol hj;rw [h];simp);have z3:=Fl r3 EZ Bj (fun j hj=>by rw [List.getElem_map];simp);have HF:=Ao4 (And.intro AP (And.intro z1 (And.intro z2 (And.intro z3 (And.intro hnf6 (CL JY (show w.heap.size<=bm+1+1 by rw [←YF.out];omega) (.slice A6 mm.pts.length c6) (.slice B6 mm.eds.length d6) (.slice F6 mm.nf g6)))))));clear z1 z2 z3 EZ Bd JY Bj AP r1 r2 r3 hnf6 cn D4 Ae Jm AG;unfold AO;go_wp2;refine bodyPost_ret (v:=.tuple #[.agg #[.slice A6 mm.pts.length c6,.slice B6 mm.eds.length d6,.slice F6 mm.nf g6],.int .i64 0]) (by simp [results,Tryz.results10,go_sem,t1,t2,t3]) rfl ?_;rw [←R2.out.1,←R2.out.2];exact⟨A6,B6,F6,c6,d6,g6,rfl,HF.out.1,HF.out.2.1,HF.out.2.2.1,HF.out.2.2.2.1,HF.out.2.2.2.2.1,HF.out.2.2.2.2.2⟩
end Go.Proofs.YtnddllipjippnaaGreatDoor
