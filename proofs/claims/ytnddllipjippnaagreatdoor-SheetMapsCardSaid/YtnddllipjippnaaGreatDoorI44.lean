/- I44: ShKH1 ShKH2 ShKH3 ShKI3. -/
import Derived.Test.YtnddllipjippnaaGreatDoorI43
import Derived.Lib.OwnBridge
set_option maxRecDepth 100000
set_option maxHeartbeats 16000000
namespace Go.Proofs.YtnddllipjippnaaGreatDoor
open Go.RowKit Kl
theorem Ab9(w:World)(b o n c:Nat)(hn:0<n)(hc:∀j,j<n*4→(w.cell? ⟨b,o+j,none⟩).isSome=true)(hf:∀j,j<n*4→w.frozen? ⟨b,o+j,none⟩=false) :
  ∃vs:List Value,vs.length=n*4/\∀ty,(Builtin.clear_ #[32] ty #[.slice (some ⟨b,o,none⟩) n c]).run Tryz.prog w=.ok (.tuple #[]) (w.setCells b o vs):=by
 obtain⟨i0,hi,hz0,hz1,hz2⟩:=info_parts Tryz.infoEd;have hv:∀w,(zeroValue 51).run Tryz.prog w=.ok (.agg #[.int .i64 0,.int .i64 0,.int .i64 0,.int .i64 0]) w:=fun w=>(by simp [zeroValue,typeInfo,hi,hz0]);have Bn:(Value.agg #[.int .i64 0,.int .i64 0,.int .i64 0,.int .i64 0]).cells=#[.int .i64 0,.int .i64 0,.int .i64 0,.int .i64 0]:=(by kernel_rfl);have hl:(Builtin.zeroCells #[.int .i64 0,.int .i64 0,.int .i64 0,.int .i64 0] n).toList.length=n*4:=(by simp [Builtin.zeroCells]);refine⟨(Builtin.zeroCells #[.int .i64 0,.int .i64 0,.int .i64 0,.int .i64 0] n).toList,hl,fun ty=>?_⟩
 have hst:=run_storeCells_cells (P:=Tryz.prog) b o (Builtin.zeroCells #[.int .i64 0,.int .i64 0,.int .i64 0,.int .i64 0] n).toList 0 w (by rw [hl];simpa using hc) (by rw [hl];simpa using hf) (by
  intro v hv';simp only [Builtin.zeroCells]at hv';simp at hv';obtain⟨j,_,e⟩:=hv';have:j%4=0∨j%4=1∨j%4=2∨j%4=3:=by omega
  rcases this with h|h|h|h<;>(rw [h]at e;simp at e;subst e;rfl))
 simp only [Nat.add_zero]at hst;obtain⟨m,rfl⟩:∃m,n=m+1:=⟨n-1,by omega⟩;simp [Builtin.clear_,run_underlying Tryz.underlying32,hv,Bn,hst]
theorem yJ:∀(l:List EdZ) (k:Nat) (e:EdZ),((((Ar l).set (k*4) (.int .i64 e.f)).set (k*4+1) (.int .i64 e.t)).set (k*4+2) (.int .i64 e.l)).set (k*4+3) (.int .i64 e.r)=Ar (l.set k e)
 | [],k,e=>by simp [Ar]
 | x::l,0,e=>rfl
 | x::l,k+1,e=>by
  have ih:=yJ l k e;have e0:∀y,Ar (y::l)=.int .i64 y.f :: .int .i64 y.t :: .int .i64 y.l :: .int .i64 y.r::Ar l:=fun y=>rfl;have e1:∀o,(k+1)*4+o=k*4+o+1+1+1+1:=(by omega);rw [e0,e1 1,e1 2,e1 3,show (k+1)*4=k*4+1+1+1+1 by omega];simp only [List.set_cons_succ,ih]
  rfl
def Gy(f:EdZ→Bool)(l:List EdZ):List EdZ:=l.filter (fun s=>!f s)
theorem yu(f:EdZ→Bool)(l:List EdZ){j:Nat}(h:j<l.length):Gy f (l.take (j+1))=Gy f (l.take j)++if f l[j] then [] else [l[j]]:=by
 unfold Gy;rw [As3 h,List.filter_append]
 congr 1
 cases hE:f l[j]<;>simp [hE]
theorem yq{f:EdZ→Bool}{l:List EdZ}(h:∀q∈l,f q=false):Gy f l=l:=by
 unfold Gy;rw [List.filter_eq_self];intro a ha;rw [h a ha];rfl
def Ha(base:Nat)(w w':World):Prop:=∀w0,Ab w0 w→w0.heap.size<=base→Ab w0 w'
theorem Ha.ext{base:Nat}{a b c:World}(h:Ha base a b)(k:Ab b c):Ha base a c:=fun w0 h1 h2=>(h w0 h1 h2).trans k
theorem Ha.of{base:Nat}{a b:World}(k:Ab a b):Ha base a b:=fun _ h1 _=>h1.trans k
def Wh(f:EdZ→Bool)(base:Nat)(l:List EdZ)(w:World)(e:Ending)(w':World):Prop:=
 (∃(A:Option Addr) (c:Nat),e=.returned (.slice A (Gy f l).length c)/\Ad w' A (Ar (Gy f l))/\(Gy f l).length<=c/\c<=9223372036854775807)/\Ha base w w'
theorem AgH{gf:FuncId}{cb:Array Value}(eg:∀args w,(callFunc gf args).run Tryz.prog w=.ok (.enter gf args) w)(f:EdZ→Bool)(base:Nat)(l:List EdZ)(A:Option Addr)(c:Nat)(w:World)(hown:w.ownsRow base 51 4 (.slice A l.length c) l.length (Ar l))(hl:l.length<=100000)
  (hp:∀e∈l,∀W,Ha base w W→Calls Tryz.prog gf (#[IZ e]++cb) W (BP (f e) W)) :
  Calls Tryz.prog 70 #[.slice A l.length c,.func (.func gf) #[] cb] w (Wh f base l w):=by
 obtain⟨A',c',e',hr,hc1,hc2⟩:=Ad.of_own' (by omega) hown;simp only [Value.slice.injEq,true_and]at e';obtain⟨rfl,rfl⟩:=e';have ie:=xj eg f l A c w hr hc1 hc2 (fun e he W hx=>hp e he W (Ha.of hx));obtain⟨n,hn⟩:=Asw l.length;have hge:=Ak6 f l;have UO:=Ak7 f l
 have U4:(Ds f l = -1/\Gy f l=l)∨∃i:Nat,Ds f l=(i:Int)/\i<n/\Gy f (l.take (i+1))=l.take i:=by
  unfold Ds
  cases hf:l.findIdx? f with
  | none=>
   rw [List.findIdx?_eq_none_iff]at hf;exact .inl ⟨rfl,yq hf⟩
  | some i=>
   rw [List.findIdx?_eq_some_iff_getElem]at hf;obtain⟨hi,h1,h2⟩:=hf;refine .inr ⟨i,rfl,by omega,?_⟩;rw [yu f l hi,h1];simp only [if_true,List.append_nil];refine yq fun q hq=>?_;rw [List.mem_take_iff_getElem]at hq;obtain⟨k,hk,rfl⟩:=hq;have:=h2 k (by omega)
   simpa using this
 rw [←hn]at ie hown hc1 hl ⊢;have HN:=Asx hn;obtain⟨z,hz0⟩:=Asw (Ds f l);rw [←hz0]at ie hge UO U4;have HC:=Asx U4;have HPP:=Asx hp;have HR:=Asx hr;clear hn hr hz0 U4 hp;go_enter Tryz.func70,Tryz.ntmps70;(go_wp2_with fail);(with_reducible refine ie.mono ?_);rintro e w1 ⟨rfl,hx1⟩;have ho1:=An hown hx1;by_cases hk:z = -1
 ·subst hk
  have C6:Gy f l=l:=by
   rcases HC.out with⟨_,h⟩|⟨i,h,_⟩
   ·exact h
   ·omega
  have AQ:Wh f base l w (.returned (.slice A n c)) w1:=⟨⟨A,c,by rw [C6,←HN.out],by rw [C6];exact HR.out.ext hx1,by rw [C6,←HN.out];exact hc1,hc2⟩,Ha.of hx1⟩;have HF:=Asx AQ;clear AQ ho1 hown C6;go_wp2;go_ret;exact HF.out
 ·obtain⟨i0,rfl,hin,hk0⟩:∃i:Nat,z=(i:Int)/\i<n/\Gy f (l.take (i+1))=l.take i:=by
   rcases HC.out with⟨h,_⟩|h
   ·exact absurd h hk
   ·exact h
  have HK0:=Asx hk0;have hkb:((i0:Int) == -1)=false:=beq_false_of_ne hk
  obtain⟨g,rfl,hbg⟩:∃g,A=some ⟨g,0,none⟩/\base<=g:=by
   rcases hown.2 with⟨h',_⟩|⟨g,cap,cur,hv,hb,_⟩
   ·simp only [Value.slice.injEq]at h';omega
   ·cases hv;exact⟨g,rfl,hb⟩
  clear hk hk0 hge UO
  go_upto_region 5 with fail
  go_loopw [5,6] (fun iv jv wr=>∃(i j:Nat) (l2:List EdZ),iv=.int .i64 (i:Nat)/\jv=.int .i64 (j:Nat)/\i<j/\j<=n/\l2.length=n/\l2.take i=Gy f (l.take j)/\l2.drop j=l.drop j/\wr.ownsRow base 51 4 (.slice (some ⟨g,0,none⟩) n c) n (Ar l2)/\Ha base w wr) (fun _ jv _=>n-(intOf jv).toNat)
  case atStart=>exact⟨i0,i0+1,l,rfl,by go_num,by omega,by omega,HN.out.symm,HK0.out.symm,rfl,ho1,Ha.of hx1⟩
  case round=>
   obtain⟨i,j,l2,rfl,rfl,Bj,hj,hl2,Oi,Hv,ho,Y8⟩:=hrel;have HKP:=Asx Y8;have bN:=Asx Oi;have aH:=Asx Hv;have OE:=Asx hl2;clear Oi Hv;by_cases hlt:j<n
   ·obtain⟨Hi,Iy,Hj,Hk⟩:=Nw l2 j (by omega);have d0:=(ho.cellAt (j*4) (by omega)).trans Hi;have d1:=(ho.cellAt (j*4+1) (by omega)).trans Iy;have d2:=(ho.cellAt (j*4+2) (by omega)).trans Hj;have d3:=(ho.cellAt (j*4+3) (by omega)).trans Hk;obtain⟨p,hp⟩:=Asw (l2[j]);rw [←hp]at d0 d1 d2 d3;clear Hi Iy Hj Hk;have hj0:(0:Int)<=(j:Int):=(by omega);have Ay:(j:Int)<(n:Int):=(by omega);have EW:(0:Int)<=(i:Int):=(by omega);have Lc:(i:Int)<(n:Int):=(by omega);have kN:j<l.length:=by rw [←HN.out];exact hlt
    have hpl:p=l[j]:=by rw [hp];have h1:(l2.drop j)[0]?=(l.drop j)[0]?:=(by rw [aH.out]);rw [List.getElem?_drop,List.getElem?_drop,Nat.add_zero,As5 (by omega),As5 kN]at h1;exact Option.some.inj h1
    have EE:=yu f l kN;have rh:p∈l:=(by rw [hpl];exact As1 kN);rw [←hpl]at EE;have Nf:=Asx EE;have HPM:=Asx rh;clear hp hpl EE hl2 Y8 rh;obtain⟨pf,pt,pl,pr⟩:=p
    dsimp only at d0 d1 d2 d3
    go_upto_region 8 with fail
    have ve:=Asz wr (.cells #[.int .i64 pf,.int .i64 pt,.int .i64 pl,.int .i64 pr] 51);have RF:=(Ab.refl wr).alloc (.cells #[.int .i64 pf,.int .i64 pt,.int .i64 pl,.int .i64 pr] 51);clear d0 d1 d2 d3;generalize wr.alloc (.cells #[.int .i64 pf,.int .i64 pt,.int .i64 pl,.int .i64 pr] 51)=VE at *;obtain⟨bw,Cp⟩:=Asw wr.heap.size;rw [←Cp]at ve ⊢;have hgb:g≠bw:=(by have:=(ho.lt g rfl).2;omega);have hgb':bw≠g:=fun h=>hgb h.symm;clear Cp;have v0:VE.cell? ⟨bw,0,none⟩=some (.int .i64 pf):=Aa ve rfl;have v1:VE.cell? ⟨bw,1,none⟩=some (.int .i64 pt):=Aa ve rfl;have v2:VE.cell? ⟨bw,2,none⟩=some (.int .i64 pl):=Aa ve rfl;have v3:VE.cell? ⟨bw,3,none⟩=some (.int .i64 pr):=Aa ve rfl;have YI:=An ho RF;have SL:=Asx (HKP.out.ext RF);have bf:=HPP.out ⟨pf,pt,pl,pr⟩ HPM.out VE SL.out;unfold IZ at bf
    dsimp only at bf
    clear ho RF ve
    cases hL:f ⟨pf,pt,pl,pr⟩
    ·have HE:=Asx hL;rw [hL]at bf;clear hL;(go_wp2_with fail);(with_reducible refine bf.mono ?_);rintro e w2 ⟨rfl,hx2⟩;have ho2:=An YI hx2;replace v0:=hx2.cellS v0;replace v1:=hx2.cellS v1;replace v2:=hx2.cellS v2;replace v3:=hx2.cellS v3;obtain⟨Hi,Iy,Hj,Hk⟩:=Nw l2 i (by rw [OE.out];omega);have d0:=(ho2.cellAt (i*4) (by omega)).trans Hi;have d1:=(ho2.cellAt (i*4+1) (by omega)).trans Iy;have d2:=(ho2.cellAt (i*4+2) (by omega)).trans Hj;have d3:=(ho2.cellAt (i*4+3) (by omega)).trans Hk;have f0:=ho2.frozenAt (i*4);have f1:=ho2.frozenAt (i*4+1);have f2:=ho2.frozenAt (i*4+2);have f3:=ho2.frozenAt (i*4+3);have hst:=((((ho2.stored (i*4) (.int .i64 pf)).1.stored (i*4+1) (.int .i64 pt)).1).stored (i*4+2) (.int .i64 pl)).1.stored (i*4+3) (.int .i64 pr);have R2:=yJ l2 i ⟨pf,pt,pl,pr⟩
     dsimp only at R2
     rw [R2]at hst;have ow:Ha base w ((((w2.setCell ⟨g,i*4,none⟩ (.int .i64 pf)).setCell ⟨g,i*4+1,none⟩ (.int .i64 pt)).setCell ⟨g,i*4+2,none⟩ (.int .i64 pl)).setCell ⟨g,i*4+3,none⟩ (.int .i64 pr)):=fun w0 h1 h2=>(((((SL.out w0 h1 h2).trans hx2).setCell (p:=⟨g,i*4,none⟩) (AsA h2 hbg) _).setCell (p:=⟨g,i*4+1,none⟩) (AsA h2 hbg) _).setCell (p:=⟨g,i*4+2,none⟩) (AsA h2 hbg) _).setCell (p:=⟨g,i*4+3,none⟩) (AsA h2 hbg) _;have HS:=Asx (And.intro hst.1 ow);clear hst ow Hi Iy Hj Hk R2 ho2 YI;go_wp2;go_roundw
     case rel=>
      refine⟨i+1,j+1,l2.set i ⟨pf,pt,pl,pr⟩,by go_num,by go_num,by omega,hlt,by rw [List.length_set];exact OE.out,?_,?_,HS.out.1,HS.out.2⟩
      ·rw [Nf.out,HE.out,←bN.out,As3 (by rw [List.length_set];have:=OE.out;omega),List.take_set_of_le (by omega),List.getElem_set_self]
       rfl
      ·have h1:=congrArg (List.drop 1) aH.out;rw [List.drop_drop,List.drop_drop]at h1;rw [←h1,List.drop_set_of_lt (by omega)]
     case measure=>simp [intOf];omega
    ·have HE:=Asx hL;rw [hL]at bf;clear hL;(go_wp2_with fail);(with_reducible refine bf.mono ?_);rintro e w2 ⟨rfl,hx2⟩;have Ww:=Asx (An YI hx2);clear YI;go_wp2;go_roundw
     case rel=>
      refine⟨i,j+1,l2,rfl,by go_num,by omega,hlt,OE.out,?_,?_,Ww.out,SL.out.ext hx2⟩
      ·rw [Nf.out,HE.out,bN.out];simp
      ·have h1:=congrArg (List.drop 1) aH.out;rw [List.drop_drop,List.drop_drop]at h1;exact h1
     case measure=>simp [intOf];omega
   ·have hjn:j=n:=(by omega);subst hjn;have hle:(j:Int)<=(j:Int):=(by omega);have EW:(0:Int)<=(i:Int):=(by omega);have Ji:(i:Int)<=(j:Int):=(by omega);have Ro:(i:Int)<=(c:Int):=(by omega);obtain⟨vs,hvl,hcl⟩:=Ab9 wr g (i*4) (j-i) (c-i) (by omega) (fun q hq=>by rw [ho.cellAt _ (by omega),As5 (by rw [Ny,OE.out];omega)];rfl) (fun q hq=>ho.frozenAt _)
    have AQ:Wh f base l w (.returned (.slice (some ⟨g,0,none⟩) i c)) (wr.setCells g (i*4) vs):=by
     have e:l2.take i=Gy f l:=by rw [bN.out,As8 (by rw [←HN.out];exact As0 _)]
     have e2:(Gy f l).length=i:=(by rw [←e,List.length_take];omega);refine⟨⟨some ⟨g,0,none⟩,c,by rw [e2],?_,by omega,hc2⟩,fun w0 h1 h2=>eO g (AsA h2 hbg) _ _ _ (Y8 w0 h1 h2)⟩;refine⟨fun _=>⟨g,0,rfl,fun q hq=>?_⟩⟩;have Oc:q<i*4:=(by rw [Ny,e2]at hq;exact hq);rw [Nat.zero_add,World.cell?_setCells_out _ _ _ _ _ (fun _ _=>.inl (by simp only [];omega)),ho.cellAt q (by omega)];simp only [←e,eK,List.getElem_take];rw [As5]
    have HF:=Asx AQ;clear AQ ho Y8;go_wp2;go_ret;exact HF.out
section
open Go.Sort
theorem AgI(base:Nat)(l:List Bs)(g cap i j:Nat)(w:World)(hown:w.ownsRow base 9 1 (.slice (some ⟨g,0,none⟩) l.length cap) l.length (l.map S))(Bj:i<=j)(hj:j<=l.length) :
  Calls Tryz.prog 73 #[.slice (some ⟨g,0,none⟩) l.length cap,.int .i64 i,.int .i64 j] w (fun e w'=>e=.returned (.slice (some ⟨g,0,none⟩) (l.length-(j-i)) cap)/\w'.ownsRow base 9 1 (.slice (some ⟨g,0,none⟩) (l.length-(j-i)) cap) (l.length-(j-i)) ((l.take i++l.drop j).map S)/\Ha base w w'/\Ak (fun q=>q=g) w w'):=by
 have hv:(Value.slice (some ⟨g,0,none⟩) l.length cap)≠.slice none 0 0:=by simp
 rcases hown.2 with⟨h',_⟩|⟨g',cap',cur,hv',hbase,hb,h1,h2,h3,h4⟩
 ·cases h'
 ·simp only [Value.slice.injEq,As4,Addr.mk.injEq,and_true,true_and]at hv';obtain⟨rfl,rfl⟩:=hv';obtain⟨A1,c1,q1,-,s1,HCM⟩:=Ad.of_own' (by omega) hown;simp only [Value.slice.injEq,true_and]at q1;obtain⟨rfl,rfl⟩:=q1;obtain⟨g',cap',he,-,hlt,AW,-,-,hH⟩:=Lib.holds_of_ownsRow (enc:=encStr) (zs:=l) hown hv
  cases he;refine(Tryz.slices_Delete_string g 0 cap i j l w hH (by omega) HCM Bj hj).mono ?_;rintro e w' ⟨rfl,q,rfl⟩;have hc:=Lib.ownsRow_putRow (enc:=encStr) (q:=q) (k:=l.length-(j-i)) (ys:=l.take i++l.drop j++List.replicate (j-i) []) hown (by simp;omega) (by omega);rw [List.take_left' (by simp;omega)]at hc;exact⟨rfl,hc,fun w0 h h'=>Lib.below_putRow h (by omega),⟨rfl,rfl,rfl,by simp [putRow,mapBlock,Sort.ahead],fun k hk hne=>by simp [putRow,mapBlock,Sort.ahead,Array.getElem?_modify,show g≠k from fun e=>hne e.symm]⟩⟩
end
structure Ek(w1 wr:World)(bo bn bh:Nat)(P E Fv:Value)(ks:List Bs)(nm:List (Int×Int))(ps:List Pt)(es:List EdZ):Prop where
 ext:Ab w1 wr
 cO:wr.heap[bo]?=some (.cells #[P,E,Fv] 35)
 pts:wr.ownsRow w1.heap.size 24 2 P ps.length (flat (Ag ps))
 eds:wr.ownsRow w1.heap.size 51 4 E es.length (Ar es)
 fac:wr.ownsRow w1.heap.size 9 1 Fv ks.length (ks.map S)
 cN:wr.heap[bn]?=some (.cells #[.map (some bh)] 130)
 num:Dj wr bh nm
 szo:w1.heap.size<=bo/\w1.heap.size<=bh
section
variable {w1 wr w' : World} {bo bn bh : Nat} {P E Fv P' E' : Value} {ks : List Bs} {nm : List (Int × Int)} {ps ps' : List Pt} {es es' : List EdZ}
theorem Ek.grow(h:Ek w1 wr bo bn bh P E Fv ks nm ps es)(hx:Ab wr w'):Ek w1 w' bo bn bh P E Fv ks nm ps es:=
 ⟨h.ext.trans hx,(hx.block _ (Asy h.cO)).trans h.cO,An h.pts hx,An h.eds hx,An h.fac hx,(hx.block _ (Asy h.cN)).trans h.cN,(hx.block _ (Asy h.num)).trans h.num,h.szo⟩
theorem VG{w:World}{B:Nat}{e:TypeId}{s n:Nat}{v:Value}{xs:List Value}(h:w.ownsRow B e s v n xs){b:Nat}{nm:List (Int×Int)}(hb:Dj w b nm):v.ownBlock≠some b:=by
 intro e0
 rcases h.2 with⟨h',_⟩|⟨g,cap,cur,h',_,hgb,_⟩
 ·rw [h']at e0;cases e0
 ·rw [h']at e0;simp only [Value.ownBlock,As4]at e0;subst e0;unfold Dj at hb;rw [hgb]at hb
  cases hb
theorem Tx{w:World}{j b:Nat}{cs:Array Value}{t:TypeId}{nm:List (Int×Int)}(h:w.heap[j]?=some (.cells cs t))(hb:Dj w b nm):j≠b:=by
 rintro rfl;unfold Dj at hb;rw [h]at hb
 cases hb
theorem Ek.name(h:Ek w1 wr bo bn bh P E Fv ks nm ps es){Er:List (Int×Int)}(hg:wr.grownBy w' (some bh))(hI:Dj w' bh Er):Ek w1 w' bo bn bh P E Fv ks Er ps es:=by
 have hb:=(Ak.refl (fun k=>k=bh) wr).grown hg (fun k e=>by cases e;exact .inl rfl)
 exact⟨h.ext.grown hg (fun k hk=>by cases hk;exact h.szo.2),(hb.block _ (Asy h.cO) (Tx h.cO h.num)).trans h.cO,AS h.pts hb (fun k hk e=>by subst e;exact VG h.pts h.num hk),AS h.eds hb (fun k hk e=>by subst e;exact VG h.eds h.num hk),AS h.fac hb (fun k hk e=>by subst e;exact VG h.fac h.num hk),
  (hb.block _ (Asy h.cN) (Tx h.cN h.num)).trans h.cN,hI,h.szo⟩
theorem AfJ{w:World}{b:Nat}{a0 a1 a2:Value}{t:TypeId}(v:Value)(h:w.heap[b]?=some (.cells #[a0,a1,a2] t)):(w.setCell ⟨b,0,none⟩ v).heap[b]?=some (.cells #[v,a1,a2] t):=by
 simp only [World.setCell,Array.getElem?_modify,h];simp
theorem Ek.pt(h:Ek w1 wr bo bn bh P E Fv ks nm ps es)(hg:wr.grownBy w' P.ownBlock)(ho:w'.ownsRow w1.heap.size 24 2 P' ps'.length (flat (Ag ps'))) :
  w'.heap[bo]?=some (.cells #[P,E,Fv] 35)/\Ek w1 (w'.setCell ⟨bo,0,none⟩ P') bo bn bh P' E Fv ks nm ps' es:=by
 have hM:=Hl hg h.pts h.cO (by decide);have hN:=Hl hg h.pts h.cN (by decide);have hI:Dj w' bh nm:=(hg.block bh (Asy h.num) (fun e=>VG h.pts h.num e.symm)).trans h.num;have hE:=QB hg h.pts h.eds (by decide);have hF:=QB hg h.pts h.fac (by decide);have bb:=(Ak.refl (fun q=>q=bo) w').setCell (p:=⟨bo,0,none⟩) (.inl rfl) P';have hX:Ab w1 w':=h.ext.grown hg (fun k hk=>(h.pts.lt k hk).1);refine⟨hM,hX.setCell (p:=⟨bo,0,none⟩) h.szo.1 P',AfJ P' hM,AS ho bb (fun q hq e=>by subst e;exact Av ho hM (by decide) hq),AS hE bb (fun q hq e=>by subst e;exact Av hE hM (by decide) hq),AS hF bb (fun q hq e=>by subst e;exact Av hF hM (by decide) hq),?_,?_,h.szo⟩
 ·rw [Bu (by exact BF hN hM (by decide))];exact hN
 ·unfold Dj;rw [Bu (by exact fun e=>Tx hM hI e.symm)];exact hI
theorem Ek.ed(h:Ek w1 wr bo bn bh P E Fv ks nm ps es)(hg:wr.grownBy w' E.ownBlock)(ho:w'.ownsRow w1.heap.size 51 4 E' es'.length (Ar es')) :
  w'.heap[bo]?=some (.cells #[P,E,Fv] 35)/\Ek w1 (w'.setCell ⟨bo,1,none⟩ E') bo bn bh P E' Fv ks nm ps es':=by
 have hM:=Hl hg h.eds h.cO (by decide);have hN:=Hl hg h.eds h.cN (by decide);have hI:Dj w' bh nm:=(hg.block bh (Asy h.num) (fun e=>VG h.eds h.num e.symm)).trans h.num;have hE:=QB hg h.eds h.pts (by decide);have hF:=QB hg h.eds h.fac (by decide);have bb:=(Ak.refl (fun q=>q=bo) w').setCell (p:=⟨bo,1,none⟩) (.inl rfl) E';have hX:Ab w1 w':=h.ext.grown hg (fun k hk=>(h.eds.lt k hk).1);refine⟨hM,hX.setCell (p:=⟨bo,1,none⟩) h.szo.1 E',vI E' hM,AS hE bb (fun q hq e=>by subst e;exact Av hE hM (by decide) hq),AS ho bb (fun q hq e=>by subst e;exact Av ho hM (by decide) hq),AS hF bb (fun q hq e=>by subst e;exact Av hF hM (by decide) hq),?_,?_,h.szo⟩
 ·rw [Bu (by exact BF hN hM (by decide))];exact hN
 ·unfold Dj;rw [Bu (by exact fun e=>Tx hM hI e.symm)];exact hI
end
def WM(w w':World):Prop:=∀(j:Nat) (cs:Array Value),w.heap[j]?=some (.cells cs 51)→w'.heap[j]?=some (.cells cs 51)
def Tg(w1 w:World)(bo bn bh:Nat)(E Fv:Value)(ks:List Bs)(es:List EdZ)(z:Int)(Er:List (Int×Int))(ps':List Pt)(e:Ending)(w':World):Prop:=
 ∃P',e=.returned (.int .i64 z)/\Ek w1 w' bo bn bh P' E Fv ks Er ps' es/\WM w w'
theorem Alb{w1 W1 V w7:World}{bo:Nat}{P E Fv:Value}{ps:List Pt}(hx:Ab W1 V)(hp:W1.ownsRow w1.heap.size 24 2 P ps.length (flat (Ag ps)))(hg:V.grownBy w7 P.ownBlock)(hM:w7.heap[bo]?=some (.cells #[P,E,Fv] 35))(P':Value):WM W1 (w7.setCell ⟨bo,0,none⟩ P'):=fun j cs hj=>by
 have h1:=Hl hg (An hp hx) ((hx.block _ (Asy hj)).trans hj) (by decide);rw [Bu (by exact BF h1 hM (by decide))];exact h1
def Es(mp:List Pt)(k:Int)(nm:List (Int×Int))(ps:List Pt):Int×List (Int×Int)×List Pt:=match Ct k nm with
 | some z=>(z,nm,ps)
 | none=>((ps.length:Int),nm ++ [(k,(ps.length:Int))],ps ++ [mp.getD k.toNat ⟨0,0⟩])
theorem AkP{w1 w:World}{bo bn bh bm:Nat}{P E Fv:Value}{ks:List Bs}{nm:List (Int×Int)}{ps:List Pt}{es:List EdZ}(h:Ek w1 w bo bn bh P E Fv ks nm ps es)(f z:Int)(hf:Ct f nm=some z) :
  Calls Tryz.prog 74 #[.int .i64 f,.pointer (some ⟨bn,0,none⟩),.pointer (some ⟨bo,0,none⟩),.pointer (some ⟨bm,0,none⟩)] w (Tg w1 w bo bn bh E Fv ks es z nm ps):=by
 have k0:=Aa (o:=0) h.cN rfl;have lk:=VQ f nm h.num;have Lh:=ZH f nm h.num;rw [hf]at lk Lh;simp only [Option.getD_some,Option.isSome_some]at lk Lh;go_enter Tryz.func74,Tryz.ntmps74;go_wp2;go_ret;exact⟨P,rfl,h,fun _ _ h=>h⟩
theorem AkO{w1 w:World}{bo bn bh bm:Nat}{P E Fv:Value}{ks:List Bs}{nm:List (Int×Int)}{ps:List Pt}{es:List EdZ}(h:Ek w1 w bo bn bh P E Fv ks nm ps es){A:Option Addr}{c:Nat}{V1 V2:Value}(mp:List Pt)(UQ:w1.heap[bm]?=some (.cells #[.slice A mp.length c,V1,V2] 35))(hA:Ad w1 A (flat (Ag mp)))
  (k:Nat) (hk:k<mp.length) (hf:Ct (k:Int) nm=none) (hpl:ps.length<=100000) :
  Calls Tryz.prog 74 #[.int .i64 (k:Nat),.pointer (some ⟨bn,0,none⟩),.pointer (some ⟨bo,0,none⟩),.pointer (some ⟨bm,0,none⟩)] w (Tg w1 w bo bn bh E Fv ks es (ps.length:Nat) (nm ++ [((k:Int),(ps.length:Int))]) (ps ++ [mp[k]])):=by
 have k0:=Aa (o:=0) h.cN rfl;have lk:=VQ (k:Int) nm h.num;rw [hf]at lk;simp only [Option.getD_none,Option.isSome_none]at lk;obtain⟨W1,hput,Fw,hg1,hs1⟩:=h.num.put (k:Int) (ps.length:Int) hf;have HS:=Asx (h.name hg1 Fw);have HK:=Asx (show WM w W1 from fun j cs hj=>(hg1.block j (Asy hj) (fun e=>Tx hj h.num (by cases e;rfl))).trans hj);obtain⟨ub,uo,rfl,hu1,hu2⟩:=BN (hA.ext HS.out.ext) hk;obtain⟨p,hp⟩:=Asw (mp[k]);rw [←hp]at hu1 hu2 ⊢;obtain⟨oP,cP,rfl,-,-,-⟩:=Ad.of_own' (by omega) h.pts;have k1:w.cell? ⟨bo,0,none⟩=some (.slice oP ps.length cP):=Aa h.cO rfl;have k2:W1.cell? ⟨bo,0,none⟩=some (.slice oP ps.length cP):=Aa HS.out.cO rfl;have k3:W1.cell? ⟨bm,0,none⟩=some (.slice (some ⟨ub,uo,none⟩) mp.length c):=Aa ((HS.out.ext.block _ (Asy UQ)).trans UQ) rfl;have hm0:(0:Int)<=(k:Int):=(by omega);have hm1:(k:Int)<(mp.length:Int):=(by omega);have IK:=Asx hf;have UA:ps.length<200000:=(by omega);have hsz:=HS.out.ext.size;clear hf Fw hg1 hs1 h hA UQ hp;go_enter Tryz.func74,Tryz.ntmps74
 go_upto_region 4 with fail
 have k4:(W1.alloc (.cells #[S (R p.x),S (R p.y)] 24)).cell? ⟨bo,0,none⟩=some (.slice oP ps.length cP):=Aa (HS.out.grow ((Ab.refl W1).alloc _)).cO rfl
 go_region_law (refine Ape rfl _ _ rfl _ w1.heap.size (.slice oP ps.length cP) ps.length ps rfl (An HS.out.pts (by first|exact(Ab.refl W1).alloc _|exact((Ab.refl W1).alloc _).drew)) UA p W1.heap.size (Asz W1 _) rfl (by simp;omega) ?_;intro v7 w7 CU GK DJ;obtain⟨GR,GA,rfl,-,-,-⟩:=Ad.of_own' (by omega) CU;obtain⟨CH,Uj⟩:=(HS.out.grow (by first|exact(Ab.refl W1).alloc _|exact((Ab.refl W1).alloc _).drew)).pt DJ (ps':=ps ++ [p]) (by rw [List.length_append];exact CU);have TY:WM W1 (w7.setCell ⟨bo,0,none⟩ (.slice GR (ps.length+1) GA)):=Alb (by first|exact(Ab.refl W1).alloc _|exact((Ab.refl W1).alloc _).drew) HS.out.pts DJ CH _;have e1:w7.cell? ⟨bo,0,none⟩=some (.slice oP ps.length cP):=Aa CH rfl;have e2:=Ah (o:=0) CH)
 all_goals (
  have N9:=Uj;have v1:=Aa (o:=0) N9.cN rfl;have Vw:=ZH (k:Int) (nm ++ [((k:Int),(ps.length:Int))]) N9.num
  rw [show Ct (k:Int) (nm ++ [((k:Int),(ps.length:Int))])=some (ps.length:Int)by
   have Pp:=IK.out;unfold Ct at Pp ⊢;rw [List.find?_append]
   cases hq:nm.find? (fun e=>(k:Int) == e.1)with
   | some e=>rw [hq]at Pp;cases Pp
   | none=>simp]at Vw
  simp only [Option.getD_some]at Vw;clear CH e1 e2 DJ CU GK Uj;generalize (w7.setCell ⟨bo,0,none⟩ (.slice GR (ps.length+1) GA))=W8 at *;have SR:=Asx N9;have HE9:=Asx TY;clear N9 TY;go_wp2;go_ret
  exact⟨_,rfl,SR.out,fun j cs hj=>HE9.out j cs (HK.out j cs hj)⟩)
theorem Amb(mp:List Pt)(k:Int)(nm:List (Int×Int))(ps:List Pt):(Es mp k nm ps).2.2.length<=ps.length+1:=by
 unfold Es
 cases Ct k nm with
 | some z=>simp
 | none=>simp
theorem ya{w1 w:World}{bo bn bh bm:Nat}{P E Fv:Value}{ks:List Bs}{nm:List (Int×Int)}{ps:List Pt}{es:List EdZ}(h:Ek w1 w bo bn bh P E Fv ks nm ps es){A:Option Addr}{c:Nat}{V1 V2:Value}(mp:List Pt)(UQ:w1.heap[bm]?=some (.cells #[.slice A mp.length c,V1,V2] 35))(hA:Ad w1 A (flat (Ag mp)))
  (k:Int) (hk0:0<=k) (hk:k<(mp.length:Int)) (hpl:ps.length<=100000) :
  Calls Tryz.prog 74 #[.int .i64 k,.pointer (some ⟨bn,0,none⟩),.pointer (some ⟨bo,0,none⟩),.pointer (some ⟨bm,0,none⟩)] w (Tg w1 w bo bn bh E Fv ks es (Es mp k nm ps).1 (Es mp k nm ps).2.1 (Es mp k nm ps).2.2):=by
 obtain⟨j,rfl⟩:∃j:Nat,k=(j:Int):=⟨k.toNat,by omega⟩;unfold Es
 cases hf:Ct (j:Int) nm with
 | some z=>exact AkP h _ z hf
 | none=>
  have h1:=AkO h mp UQ hA j (by omega) hf hpl
  have e:mp.getD (j:Int).toNat ⟨0,0⟩=mp[j]:=by rw [Int.toNat_natCast,List.getD_eq_getElem?_getD,As5 (by omega)];rfl
  simp only [e];exact h1
section
variable {ops : Array Oper} {o : Oper} {a : Act} {K : Act → World → Prop} {Q : Exit → Act → World → Prop}
theorem Apd{E:Prop}(hgd:o.guard=none)(s x:Operand)(ho:o.op=.call {callee:=.builtin .append,args:=#[s,x],argTypes:=#[32,32]})
  (wN:World) (base:Nat) (v:Value) (n:Nat) (l:List EdZ) (hs:a.eval s=v) (hown:wN.ownsRow base 51 4 v n (Ar l)) (hn:n<200000) (d:EdZ)
  (g:Nat) (hb:wN.heap[g]?=some (.cells #[.int .i64 d.f,.int .i64 d.t,.int .i64 d.l,.int .i64 d.r] 51)) (hx:a.eval x=.slice (some ⟨g,0,none⟩) 1 1) (hbase:base<=wN.heap.size)
  (h:∀v' w',w'.ownsRow base 51 4 v' (n+1) (Ar (l ++ [d]))→wN.grownBy w' v.ownBlock→K (a.put o.dst v') w') :
  if Region.wanted o (yielded ops a.tmps)=true then Oper.wp Tryz.prog o a wN K Q else E:=by
 have hw:Region.wanted o (yielded ops a.tmps)=true:=(by simp [Region.wanted,hgd]);rw [if_pos hw];exact rB s x ho wN base v n l hs hown hn d g hb hx hbase h
end
def TE(a b:Int)(e:EdZ):Bool:=(e.l == a&&e.r == b)||(e.l == b&&e.r == a)
def Lt(a b f:Int):Int:=if (if f=b then a else f)>b then (if f=b then a else f)-1 else (if f=b then a else f)
theorem AkN(e:EdZ)(a b:Int){w:World}{ba bb:Nat}(Au:w.heap[ba]?=some (.cells #[.int .i64 a] 3))(AZ:w.heap[bb]?=some (.cells #[.int .i64 b] 3)) :
  Calls Tryz.prog 71 #[IZ e,.pointer (some ⟨ba,0,none⟩),.pointer (some ⟨bb,0,none⟩)] w (BP (TE a b e) w):=by
 obtain⟨ef,et,el,er⟩:=e;have hq:=Asz w (.cells #[.int .i64 ef,.int .i64 et,.int .i64 el,.int .i64 er] 51);have hE:=(Ab.refl w).alloc (.cells #[.int .i64 ef,.int .i64 et,.int .i64 el,.int .i64 er] 51);replace Au:=(hE.block _ (Asy Au)).trans Au;replace AZ:=(hE.block _ (Asy AZ)).trans AZ;have Mh:TE a b ⟨ef,et,el,er⟩=((el == a&&er == b)||(el == b&&er == a)):=rfl;rw [Mh];obtain⟨r,hr⟩:=Asw (((el == a&&er == b)||(el == b&&er == a)));rw [←hr];have HR:=Asx hr;clear hr;unfold IZ;go_enter Tryz.func71,Tryz.ntmps71
 go_upto_region 1 with fail
 generalize w.alloc (.cells #[.int .i64 ef,.int .i64 et,.int .i64 el,.int .i64 er] 51)=V at *;obtain⟨bq,BH⟩:=Asw w.heap.size;rw [←BH]at hq ⊢;clear BH Mh;have k1:V.cell? ⟨bq,2,none⟩=some (.int .i64 el):=Aa hq rfl;have k2:V.cell? ⟨bq,3,none⟩=some (.int .i64 er):=Aa hq rfl;have k3:V.cell? ⟨ba,0,none⟩=some (.int .i64 a):=Aa Au rfl;have k4:V.cell? ⟨bb,0,none⟩=some (.int .i64 b):=Aa AZ rfl;have HE:=Asx hE;clear hE hq Au AZ
 cases b1:(el == a)<;>cases b2:(er == b)<;>cases b3:(el == b)<;>cases b4:(er == a)<;>(go_wp2;go_ret;exact⟨by rw [HR.out,b1,b2,b3,b4];rfl,HE.out⟩)
theorem xz(f a b:Int)(hf:-1<=f/\f<=100000)(ha:-1<=a/\a<=100000){w:World}{ba bb:Nat}(Au:w.heap[ba]?=some (.cells #[.int .i64 a] 3))(AZ:w.heap[bb]?=some (.cells #[.int .i64 b] 3)) :
  Calls Tryz.prog 72 #[.int .i64 f,.pointer (some ⟨bb,0,none⟩),.pointer (some ⟨ba,0,none⟩)] w (AI (Lt a b f) w):=by
 have k3:w.cell? ⟨ba,0,none⟩=some (.int .i64 a):=Aa Au rfl;have k4:w.cell? ⟨bb,0,none⟩=some (.int .i64 b):=Aa AZ rfl;have i1:IntKind.wrap .i64 (f-1)=f-1:=As6 _ (by omega);have i2:IntKind.wrap .i64 (a-1)=a-1:=As6 _ (by omega);unfold Lt;clear Au AZ;by_cases h1:f=b
 ·have b1:(f == b)=true:=(by rw [h1];simp);rw [if_pos h1];clear h1;by_cases h2:a>b
  ·rw [if_pos h2];go_enter Tryz.func72,Tryz.ntmps72;go_wp2;go_ret;exact⟨rfl,Ab.refl _⟩
  ·rw [if_neg h2];go_enter Tryz.func72,Tryz.ntmps72;go_wp2;go_ret;exact⟨rfl,Ab.refl _⟩
 ·have b1:(f == b)=false:=beq_false_of_ne h1;rw [if_neg h1];clear h1;by_cases h2:f>b
  ·rw [if_pos h2];go_enter Tryz.func72,Tryz.ntmps72;go_wp2;go_ret;exact⟨rfl,Ab.refl _⟩
  ·rw [if_neg h2];go_enter Tryz.func72,Tryz.ntmps72;go_wp2;go_ret;exact⟨rfl,Ab.refl _⟩
theorem Cx.set3{B:Nat}{w:World}{A Bk F:Option Addr}{c d g:Nat}{m:MapZ}{fa:List Bs}(h:Cx B w A Bk F c d g m fa){bo:Nat}{cs:Array Value}(hb:w.heap[bo]?=some (.cells cs 35))(x y z:Value):Cx B (((w.setCell ⟨bo,0,none⟩ x).setCell ⟨bo,1,none⟩ y).setCell ⟨bo,2,none⟩ z) A Bk F c d g m fa:=
 ⟨DN h.pts hb (by decide) _ _ _,DN h.eds hb (by decide) _ _ _,DN h.fac hb (by decide) _ _ _,h.nf⟩
def tM(B:Nat)(w0 W:World)(m':MapZ)(fa':List Bs)(e:Ending)(w':World):Prop:=
 ∃A' B' F' c' d' g',e=.returned (.tuple #[AH A' B' F' m' c' d' g',.int .i64 0])/\Cx B w' A' B' F' c' d' g' m' fa'/\Ab w0 w'/\∀(j:Nat) (cs:Array Value),W.heap[j]?=some (.cells cs 35)→w'.heap[j]?=some (.cells cs 35)
theorem Afr(m m':MapZ)(fa fa':List Bs)(BS:m.nf=fa.length)(hgr:∀p∈m.pts,Ce p)(hck:Fq m=0)(hpl:m.pts.length<=1000)(hel:m.eds.length<=1000)(C5:fa.length<=1000)(U3:Iu m'=true)(Mt:m'.nf=fa'.length)(Rj:fa'.length<=1000)(a b:Pt)(u:Bs)(w:World)(hw:Aj w)
  (hsc:∀W,Ab w W→Calls Tryz.prog 9 #[Gl 2 a b u] W (AI 0 W))
  (Mm:∀(V W:World) (A B F:Option Addr) (c d g:Nat),Ab w V→Ab V W→Cx V.heap.size W A B F c d g m fa→Calls Tryz.prog 38 #[AH A B F m c d g,Gl 2 a b u] W (tM V.heap.size V W m' fa'))
  (A B F:Option Addr) (c d g:Nat) (AW:Db m c d g) (hA:Ad w A (flat (Ag m.pts))) (hB:Ad w B (Ar m.eds)) (hF:Ad w F (fa.map S)) :
  Calls Tryz.prog 10 #[AH A B F m c d g,Gl 2 a b u] w (fun e w'=>MS w (OL m' fa') (Dx m' fa').fa e w'):=by
 obtain⟨hM,hE,hR,hX⟩:=PZ w (.cells #[.slice A m.pts.length c,.slice B m.eds.length d,.slice F m.nf g] 35) (.cells #[.int .i64 2,S (R a.x),S (R a.y),S (R b.x),S (R b.y),S [],S [],S u] 26) (.cells #[.slice none 0 0,.slice none 0 0,.slice none 0 0] 35);have pc:=fun W (hx:Ab w W)=>PR m hgr A B F c d g AW W (hw.ext hx) (hA.ext hx) (hB.ext hx);rw [hck]at pc;have cp:=fun W (hx:Ab w W)=>xF m fa BS hpl hel C5 A B F c d g W (hA.ext hx) (hB.ext hx) (hF.ext hx);have HM:=Asx (And.intro U3 (And.intro Mt (And.intro Rj BS)));clear U3 Mt Rj BS AW hA hB hF hgr hck;unfold AH at pc cp ⊢;unfold Gl at hsc Mm ⊢;unfold AH at Mm;go_enter Tryz.func10,Tryz.ntmps10
 go_upto_region 1 with fail
 generalize ((w.alloc (.cells #[.slice A m.pts.length c,.slice B m.eds.length d,.slice F m.nf g] 35)).alloc (.cells #[.int .i64 2,S (R a.x),S (R a.y),S (R b.x),S (R b.y),S [],S [],S u] 26)).alloc (.cells #[.slice none 0 0,.slice none 0 0,.slice none 0 0] 35)=V at *;obtain⟨bm,AB⟩:=Asw w.heap.size;have Yh:=AB;rw [←AB]at hM hE hR ⊢;have k0:V.cell? ⟨bm,0,none⟩=some (.slice A m.pts.length c):=Aa hM rfl;have k1:V.cell? ⟨bm,1,none⟩=some (.slice B m.eds.length d):=Aa hM rfl;have k2:V.cell? ⟨bm,2,none⟩=some (.slice F m.nf g):=Aa hM rfl;have aE:=Asx AB;clear AB Yh;have p1:=pc V hX;(go_wp2_with fail);(with_reducible refine p1.mono ?_);rintro e w1 ⟨rfl,hx1⟩;have Dz:=hX.trans hx1;have x0:w1.cell? ⟨bm+1,0,none⟩=some (.int .i64 2):=Aa ((hx1.block _ (Asy hE)).trans hE) rfl;have x1:w1.cell? ⟨bm+1,1,none⟩=some (S (R a.x)):=Aa ((hx1.block _ (Asy hE)).trans hE) rfl;have x2:w1.cell? ⟨bm+1,2,none⟩=some (S (R a.y)):=Aa ((hx1.block _ (Asy hE)).trans hE) rfl;have x3:w1.cell? ⟨bm+1,3,none⟩=some (S (R b.x)):=Aa ((hx1.block _ (Asy hE)).trans hE) rfl;have x4:w1.cell? ⟨bm+1,4,none⟩=some (S (R b.y)):=Aa ((hx1.block _ (Asy hE)).trans hE) rfl;have x5:w1.cell? ⟨bm+1,5,none⟩=some (S []):=Aa ((hx1.block _ (Asy hE)).trans hE) rfl;have x6:w1.cell? ⟨bm+1,6,none⟩=some (S []):=Aa ((hx1.block _ (Asy hE)).trans hE) rfl;have x7:w1.cell? ⟨bm+1,7,none⟩=some (S u):=Aa ((hx1.block _ (Asy hE)).trans hE) rfl;have s1:=hsc w1 Dz;clear p1 pc k0 k1 k2;(go_wp2_with fail);(with_reducible refine s1.mono ?_);rintro e w2 ⟨rfl,hx2⟩;have BR:=Dz.trans hx2;have hV2:=hx1.trans hx2;replace x0:=hx2.cellS x0;clear s1 hsc x1 x2 x3 x4 x5 x6 x7;have al:∀O,(w2.alloc O).cell? ⟨bm+1,0,none⟩=some (.int .i64 2):=fun O=>((Ab.refl w2).alloc O).cellS x0
 go_upto_region 8 with fail
 clear al;have hx3:=fun O=>(Ab.refl w2).alloc O;generalize hW3:w2.alloc _=W3;have BL:Ab w2 W3:=hW3▸hx3 _;have CG:=((hV2.trans BL).block _ (Asy hM)).trans hM;have Ck:=((hV2.trans BL).block _ (Asy hE)).trans hE;have AE:=((hV2.trans BL).block _ (Asy hR)).trans hR;have hW:=BR.trans BL;clear hW3 hx3 BL x0 hM hE hR;have k0:W3.cell? ⟨bm,0,none⟩=some (.slice A m.pts.length c):=Aa CG rfl;have k1:W3.cell? ⟨bm,1,none⟩=some (.slice B m.eds.length d):=Aa CG rfl;have k2:W3.cell? ⟨bm,2,none⟩=some (.slice F m.nf g):=Aa CG rfl;have y0:W3.cell? ⟨bm+1,0,none⟩=some (.int .i64 2):=Aa Ck rfl;have y1:W3.cell? ⟨bm+1,1,none⟩=some (S (R a.x)):=Aa Ck rfl;have y2:W3.cell? ⟨bm+1,2,none⟩=some (S (R a.y)):=Aa Ck rfl;have y3:W3.cell? ⟨bm+1,3,none⟩=some (S (R b.x)):=Aa Ck rfl;have y4:W3.cell? ⟨bm+1,4,none⟩=some (S (R b.y)):=Aa Ck rfl;have y5:W3.cell? ⟨bm+1,5,none⟩=some (S []):=Aa Ck rfl;have y6:W3.cell? ⟨bm+1,6,none⟩=some (S []):=Aa Ck rfl;have y7:W3.cell? ⟨bm+1,7,none⟩=some (S u):=Aa Ck rfl;have SO:=fun (w':World) (h:Ab W3 w')=>(⟨h.cellS k0,h.cellS k1,h.cellS k2,h.cellS y0,h.cellS y1,h.cellS y2,h.cellS y3,h.cellS y4,h.cellS y5,h.cellS y6,h.cellS y7⟩:_/\_/\_/\_/\_/\_/\_/\_/\_/\_/\_);have X:=Ab.refl W3;have hO:=Asz W3 (.cells #[.slice none 0 0,.slice none 0 0,.slice none 0 0] 35)
 go_cut [9,10] (fun v9 v10 wx=>∃bo A' B' F' c' d' g',v9=.pointer (some ⟨bo,0,none⟩)/\v10=.int .i64 0/\wx.heap[bo]?=some (.cells #[.slice A' m'.pts.length c',.slice B' m'.eds.length d',.slice F' m'.nf g'] 35)/\Cx w.heap.size wx A' B' F' c' d' g' m' fa'/\Ab W3 wx)
 case first=>
  go_region_held3 (fun w'=>w'.cell? ⟨bm,0,none⟩=some (.slice A m.pts.length c)/\w'.cell? ⟨bm,1,none⟩=some (.slice B m.eds.length d)/\w'.cell? ⟨bm,2,none⟩=some (.slice F m.nf g)/\w'.cell? ⟨bm+1,0,none⟩=some (.int .i64 2)/\w'.cell? ⟨bm+1,1,none⟩=some (S (R a.x))/\w'.cell? ⟨bm+1,2,none⟩=some (S (R a.y))/\w'.cell? ⟨bm+1,3,none⟩=some (S (R b.x))/\w'.cell? ⟨bm+1,4,none⟩=some (S (R b.y))/\w'.cell? ⟨bm+1,5,none⟩=some (S [])/\w'.cell? ⟨bm+1,6,none⟩=some (S [])/\w'.cell? ⟨bm+1,7,none⟩=some (S u))
   (first|exact SS|with_reducible exact SO _ X|with_reducible exact SO _ X.drew|with_reducible exact SO _ (X.alloc _)|with_reducible exact SO _ (X.alloc _).drew)
   (first
    | ((with_reducible refine(Mm V4 w4 A4 B4 F4 c4 d4 g4 EP x4 o4).mono ?_);rintro e w5 ⟨A5,B5,F5,c5,d5,g6,rfl,o5,x5,JZ⟩;replace X:Ab W3 w5:=CL.trans x5;unfold AH;first | (have Cg:=JZ _ _ Pd;have g0:=Aa (o:=0) Cg rfl;have g1:=Aa (o:=1) Cg rfl;have g2:=Aa (o:=2) Cg rfl;have Jb:=Ah (o:=0) Cg;have g4:=Ah (o:=1) Cg;have g5:=Ah (o:=2) Cg;have SS:=SO _ (CQ X (As0 _) (.slice A5 m'.pts.length c5) (.slice B5 m'.eds.length d5) (.slice F5 m'.nf g6))) | skip)
    | ((with_reducible refine(Mm V4 _ A4 B4 F4 c4 d4 g4 EP (x4.alloc (.cells #[.slice none 0 0,.slice none 0 0,.slice none 0 0] 35)) (o4.ext ((Ab.refl w4).alloc (.cells #[.slice none 0 0,.slice none 0 0,.slice none 0 0] 35)))).mono ?_);rintro e w5 ⟨A5,B5,F5,c5,d5,g6,rfl,o5,x5,JZ⟩;have X0:=X;replace X:Ab W3 w5:=CL.trans x5;unfold AH;have Cg:=JZ _ _ (Asz w4 (.cells #[.slice none 0 0,.slice none 0 0,.slice none 0 0] 35));have g0:=Aa (o:=0) Cg rfl;have g1:=Aa (o:=1) Cg rfl;have g2:=Aa (o:=2) Cg rfl;have Jb:=Ah (o:=0) Cg;have g4:=Ah (o:=1) Cg;have g5:=Ah (o:=2) Cg;have SS:=SO _ (CQ X X0.size (.slice A5 m'.pts.length c5) (.slice B5 m'.eds.length d5) (.slice F5 m'.nf g6)))
    | ((with_reducible refine(cp _ (hW.trans X.drew)).mono ?_);rintro e w4 ⟨A4,B4,F4,c4,d4,g4,rfl,o4,x4⟩;obtain⟨V4,Hr⟩:=Asw W3.drew;rw [←Hr]at o4 x4;have CL:Ab W3 V4:=Hr▸X.drew;have EP:=hW.trans CL;replace X:Ab W3 w4:=CL.trans x4;unfold AH)
    | ((with_reducible refine(cp _ (hW.trans (X.alloc (.cells #[.slice none 0 0,.slice none 0 0,.slice none 0 0] 35)).drew)).mono ?_);rintro e w4 ⟨A4,B4,F4,c4,d4,g4,rfl,o4,x4⟩;have Pd:=(x4.block _ (Asy hO)).trans hO;obtain⟨V4,Hr⟩:=Asw ((W3.alloc (.cells #[.slice none 0 0,.slice none 0 0,.slice none 0 0] 35)).drew);rw [←Hr]at o4 x4;have CL:Ab W3 V4:=Hr▸(X.alloc _).drew;have EP:=hW.trans CL;replace X:Ab W3 w4:=CL.trans x4;unfold AH))
  all_goals go_wp2
  all_goals go_meet
  all_goals
   first
    | exact⟨W3.heap.size,A5,B5,F5,c5,d5,g6,rfl,rfl,Dd _ _ _ Cg,(o5.low EP.size).set3 Cg _ _ _,CQ X (As0 _) _ _ _⟩
    | exact⟨w4.heap.size,A5,B5,F5,c5,d5,g6,rfl,rfl,Dd _ _ _ Cg,(o5.low EP.size).set3 Cg _ _ _,CQ X X0.size _ _ _⟩
    | exact⟨w5.heap.size,A5,B5,F5,c5,d5,g6,rfl,rfl,Asz w5 _,(o5.low EP.size).ext ((Ab.refl w5).alloc _),X.alloc _⟩
 case rest=>obtain⟨bo,A5,B5,F5,c5,d5,g5,rfl,rfl,DI,o5,As⟩:=hcut;have hb5:=(As.block _ (Asy AE)).trans AE;obtain⟨hc5,r1,r2,r3,r4⟩:=o5.rd;have cn:=AaV m' fa' HM.out.2.1 HM.out.1 A5 B5 F5 c5 d5 g5 hc5 wc (hw.ext (hW.trans As)) r1 r2 r3 r4 (by have h1:=HM.out.2.1;have h2:=HM.out.2.2.1;omega);have Ht:=hW.trans As;clear SO X hO k0 k1 k2 y0 y1 y2 y3 y4 y5 y6 y7 o5 r1 r2 r3 r4 hc5 CG Ck AE;unfold AH at cn;have j0:wc.cell? ⟨bo,0,none⟩=some (.slice A5 m'.pts.length c5):=Aa DI rfl;have j1:wc.cell? ⟨bo,1,none⟩=some (.slice B5 m'.eds.length d5):=Aa DI rfl;have j2:wc.cell? ⟨bo,2,none⟩=some (.slice F5 m'.nf g5):=Aa DI rfl;obtain⟨mm,hmm⟩:=Asw (OL m' fa');obtain⟨ff,JS⟩:=Asw ((Dx m' fa').fa);rw [←hmm,←JS]at cn;have SN:=Asx (And.intro hmm JS);clear hmm JS;(go_wp2_with fail);(with_reducible refine cn.mono ?_);rintro e w6 ⟨A6,B6,F6,c6,d6,g6,rfl,AW,r1,r2,r3,hnf6,AX⟩;have By:=(AX.block _ (Asy hb5)).trans hb5;have LV:=Ht.trans AX;have g0:=Aa (o:=0) By rfl;have g1:=Aa (o:=1) By rfl;have g2:=Aa (o:=2) By rfl;have g3:=Ah (o:=0) By;have g4:=Ah (o:=1) By;have g5':=Ah (o:=2) By;have AA:=Dd (.slice A6 mm.pts.length c6) (.slice B6 mm.eds.length d6) (.slice F6 mm.nf g6) By;have t1:=Aa (o:=0) AA rfl;have t2:=Aa (o:=1) AA rfl;have t3:=Aa (o:=2) AA rfl;have Co:=(((Ak.refl (fun q=>q=bm+1+1) w6).setCell (p:=⟨bm+1+1,0,none⟩) (.inl rfl) (.slice A6 mm.pts.length c6)).setCell (p:=⟨bm+1+1,1,none⟩) (.inl rfl) (.slice B6 mm.eds.length d6)).setCell (p:=⟨bm+1+1,2,none⟩) (.inl rfl) (.slice F6 mm.nf g6);have z1:=FI r1 Co By (fun j hj=>by obtain⟨s,h⟩:=OS hj;rw [h];simp);have z2:=FI r2 Co By (fun j hj=>by obtain⟨s,h⟩:=Nx hj;rw [h];simp);have z3:=FI r3 Co By (fun j hj=>by rw [List.getElem_map];simp);have HF:=Asx (And.intro AW (And.intro z1 (And.intro z2 (And.intro z3 (And.intro hnf6 (CQ LV (show w.heap.size<=bm+1+1 by rw [←aE.out];omega) (.slice A6 mm.pts.length c6) (.slice B6 mm.eds.length d6) (.slice F6 mm.nf g6)))))));clear z1 z2 z3 Co AA LV By AW r1 r2 r3 hnf6 cn DI As Ht AX;unfold AH;go_wp2;refine bodyPost_ret (v:=.tuple #[.agg #[.slice A6 mm.pts.length c6,.slice B6 mm.eds.length d6,.slice F6 mm.nf g6],.int .i64 0]) (by simp [results,Tryz.results10,go_sem,t1,t2,t3]) rfl ?_;rw [←SN.out.1,←SN.out.2];exact⟨A6,B6,F6,c6,d6,g6,rfl,HF.out.1,HF.out.2.1,HF.out.2.2.1,HF.out.2.2.2.1,HF.out.2.2.2.2.1,HF.out.2.2.2.2.2⟩
end Go.Proofs.YtnddllipjippnaaGreatDoor
