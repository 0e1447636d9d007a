/- K39: ShKH1 ShKH2 ShKH3 ShKI3 ShSL2. -/
import Derived.Test.YtgnejnampofhoaaGreatDoorK38
import Derived.Lib.OwnBridge
set_option maxRecDepth 100000
set_option maxHeartbeats 16000000
namespace Go.Proofs.YtgnejnampofhoaaGreatDoor
open Go.RowKit Kl
theorem AfE(w:World)(b o n c:Nat)(hn:0<n)(hc:∀j,j<n*4→(w.cell? ⟨b,o+j,none⟩).isSome=true)(hf:∀j,j<n*4→w.frozen? ⟨b,o+j,none⟩=false) :
  ∃vs:List Value,vs.length=n*4/\∀ty,(Builtin.clear_ #[32] ty #[.slice (some ⟨b,o,none⟩) n c]).run Tryz.prog w=.ok (.tuple #[]) (w.setCells b o vs):=by
 obtain⟨i0,hi,hz0,hz1,hz2⟩:=info_parts Tryz.infoEd;have hv:∀w,(zeroValue 118).run Tryz.prog w=.ok (.agg #[.int .i64 0,.int .i64 0,.int .i64 0,.int .i64 0]) w:=fun w=>(by simp [zeroValue,typeInfo,hi,hz0]);have LX:(Value.agg #[.int .i64 0,.int .i64 0,.int .i64 0,.int .i64 0]).cells=#[.int .i64 0,.int .i64 0,.int .i64 0,.int .i64 0]:=(by kernel_rfl);have hl:(Builtin.zeroCells #[.int .i64 0,.int .i64 0,.int .i64 0,.int .i64 0] n).toList.length=n*4:=(by simp [Builtin.zeroCells]);refine⟨(Builtin.zeroCells #[.int .i64 0,.int .i64 0,.int .i64 0,.int .i64 0] n).toList,hl,fun ty=>?_⟩
 have hst:=run_storeCells_cells (P:=Tryz.prog) b o (Builtin.zeroCells #[.int .i64 0,.int .i64 0,.int .i64 0,.int .i64 0] n).toList 0 w (by rw [hl];simpa using hc) (by rw [hl];simpa using hf) (by
  intro v hv';simp only [Builtin.zeroCells]at hv';simp at hv';obtain⟨j,_,e⟩:=hv';have:j%4=0∨j%4=1∨j%4=2∨j%4=3:=by omega
  rcases this with h|h|h|h<;>(rw [h]at e;simp at e;subst e;rfl))
 simp only [Nat.add_zero]at hst;obtain⟨m,rfl⟩:∃m,n=m+1:=⟨n-1,by omega⟩;simp [Builtin.clear_,run_underlying Tryz.underlying32,hv,LX,hst]
theorem lK:∀(l:List EdZ) (k:Nat) (e:EdZ),((((Au l).set (k*4) (.int .i64 e.f)).set (k*4+1) (.int .i64 e.t)).set (k*4+2) (.int .i64 e.l)).set (k*4+3) (.int .i64 e.r)=Au (l.set k e)
 | [],k,e=>by simp [Au]
 | x::l,0,e=>rfl
 | x::l,k+1,e=>by
  have ih:=lK l k e;have e0:∀y,Au (y::l)=.int .i64 y.f :: .int .i64 y.t :: .int .i64 y.l :: .int .i64 y.r::Au l:=fun y=>rfl;have e1:∀o,(k+1)*4+o=k*4+o+1+1+1+1:=(by omega);rw [e0,e1 1,e1 2,e1 3,show (k+1)*4=k*4+1+1+1+1 by omega];simp only [List.set_cons_succ,ih]
  rfl
def Fp(f:EdZ→Bool)(l:List EdZ):List EdZ:=l.filter (fun s=>!f s)
theorem uV(f:EdZ→Bool)(l:List EdZ){j:Nat}(h:j<l.length):Fp f (l.take (j+1))=Fp f (l.take j)++if f l[j] then [] else [l[j]]:=by
 unfold Fp;rw [Aj2 h,List.filter_append]
 congr 1
 cases hE:f l[j]<;>simp [hE]
theorem uU{f:EdZ→Bool}{l:List EdZ}(h:∀q∈l,f q=false):Fp f l=l:=by
 unfold Fp;rw [List.filter_eq_self];intro a ha;rw [h a ha];rfl
def FX(base:Nat)(w w':World):Prop:=∀w0,Ac w0 w→w0.heap.size<=base→Ac w0 w'
theorem FX.ext{base:Nat}{a b c:World}(h:FX base a b)(k:Ac b c):FX base a c:=fun w0 h1 h2=>(h w0 h1 h2).trans k
theorem FX.of{base:Nat}{a b:World}(k:Ac a b):FX base a b:=fun _ h1 _=>h1.trans k
def SA(f:EdZ→Bool)(base:Nat)(l:List EdZ)(w:World)(e:Ending)(w':World):Prop:=
 (∃(A:Option Addr) (c:Nat),e=.returned (.slice A (Fp f l).length c)/\Ae w' A (Au (Fp f l))/\(Fp f l).length<=c/\c<=9223372036854775807)/\FX base w w'
theorem wq{gf:FuncId}{cb:Array Value}(eg:∀args w,(callFunc gf args).run Tryz.prog w=.ok (.enter gf args) w)(f:EdZ→Bool)(base:Nat)(l:List EdZ)(A:Option Addr)(c:Nat)(w:World)(hown:w.ownsRow base 118 4 (.slice A l.length c) l.length (Au l))(hl:l.length<=100000)
  (hp:∀e∈l,∀W,FX base w W→Calls Tryz.prog gf (#[Hq e]++cb) W (By (f e) W)) :
  Calls Tryz.prog 168 #[.slice A l.length c,.func (.func gf) #[] cb] w (SA f base l w):=by
 obtain⟨A',c',e',hr,hc1,hc2⟩:=Ae.of_own' (by omega) hown;simp only [Value.slice.injEq,true_and]at e';obtain⟨rfl,rfl⟩:=e';have ie:=uD eg f l A c w hr hc1 hc2 (fun e he W hx=>hp e he W (FX.of hx));obtain⟨n,hn⟩:=Ajv l.length;have hge:=Ac8 f l;have Rs:=Ac9 f l
 have YI:(CU f l = -1/\Fp f l=l)∨∃i:Nat,CU f l=(i:Int)/\i<n/\Fp f (l.take (i+1))=l.take i:=by
  unfold CU
  cases hf:l.findIdx? f with
  | none=>
   rw [List.findIdx?_eq_none_iff]at hf;exact .inl ⟨rfl,uU hf⟩
  | some i=>
   rw [List.findIdx?_eq_some_iff_getElem]at hf;obtain⟨hi,h1,h2⟩:=hf;refine .inr ⟨i,rfl,by omega,?_⟩;rw [uV f l hi,h1];simp only [if_true,List.append_nil];refine uU fun q hq=>?_;rw [List.mem_take_iff_getElem]at hq;obtain⟨k,hk,rfl⟩:=hq;have:=h2 k (by omega)
   simpa using this
 rw [←hn]at ie hown hc1 hl ⊢;have HN:=Ajw hn;obtain⟨z,hz0⟩:=Ajv (CU f l);rw [←hz0]at ie hge Rs YI;have HC:=Ajw YI;have jy:=Ajw hp;have HR:=Ajw hr;clear hn hr hz0 YI hp;go_enter Tryz.func168,Tryz.ntmps168;(go_wp2_with fail);(with_reducible refine ie.mono ?_);rintro e w1 ⟨rfl,hx1⟩;have ho1:=A9 hown hx1;by_cases hk:z = -1
 ·subst hk
  have CB:Fp f l=l:=by
   rcases HC.out with⟨_,h⟩|⟨i,h,_⟩
   ·exact h
   ·omega
  have Cg:SA f base l w (.returned (.slice A n c)) w1:=⟨⟨A,c,by rw [CB,←HN.out],by rw [CB];exact HR.out.ext hx1,by rw [CB,←HN.out];exact hc1,hc2⟩,FX.of hx1⟩;have HF:=Ajw Cg;clear Cg ho1 hown CB;go_wp2;go_ret;exact HF.out
 ·obtain⟨i0,rfl,hin,hk0⟩:∃i:Nat,z=(i:Int)/\i<n/\Fp f (l.take (i+1))=l.take i:=by
   rcases HC.out with⟨h,_⟩|h
   ·exact absurd h hk
   ·exact h
  have jb:=Ajw hk0;have hkb:((i0:Int) == -1)=false:=beq_false_of_ne hk
  obtain⟨g,rfl,hbg⟩:∃g,A=some ⟨g,0,none⟩/\base<=g:=by
   rcases hown.2 with⟨h',_⟩|⟨g,cap,cur,hv,hb,_⟩
   ·simp only [Value.slice.injEq]at h';omega
   ·cases hv;exact⟨g,rfl,hb⟩
  clear hk hk0 hge Rs
  go_upto_region 5 with fail
  go_loopw [5,6] (fun iv jv wr=>∃(i j:Nat) (l2:List EdZ),iv=.int .i64 (i:Nat)/\jv=.int .i64 (j:Nat)/\i<j/\j<=n/\l2.length=n/\l2.take i=Fp f (l.take j)/\l2.drop j=l.drop j/\wr.ownsRow base 118 4 (.slice (some ⟨g,0,none⟩) n c) n (Au l2)/\FX base w wr) (fun _ jv _=>n-(intOf jv).toNat)
  case atStart=>exact⟨i0,i0+1,l,rfl,by go_num,by omega,by omega,HN.out.symm,jb.out.symm,rfl,ho1,FX.of hx1⟩
  case round=>
   obtain⟨i,j,l2,rfl,rfl,Bl,hj,hl2,Mq,Gp,ho,Nw⟩:=hrel;have je:=Ajw Nw;have Wl:=Ajw Mq;have VK:=Ajw Gp;have MG:=Ajw hl2;clear Mq Gp;by_cases hlt:j<n
   ·obtain⟨JX,JY,JZ,Ka⟩:=On l2 j (by omega);have d0:=(ho.cellAt (j*4) (by omega)).trans JX;have d1:=(ho.cellAt (j*4+1) (by omega)).trans JY;have d2:=(ho.cellAt (j*4+2) (by omega)).trans JZ;have d3:=(ho.cellAt (j*4+3) (by omega)).trans Ka;obtain⟨p,hp⟩:=Ajv (l2[j]);rw [←hp]at d0 d1 d2 d3;clear JX JY JZ Ka;have hj0:(0:Int)<=(j:Int):=(by omega);have AP:(j:Int)<(n:Int):=(by omega);have Jp:(0:Int)<=(i:Int):=(by omega);have Me:(i:Int)<(n:Int):=(by omega);have Ze:j<l.length:=by rw [←HN.out];exact hlt
    have hpl:p=l[j]:=by rw [hp];have h1:(l2.drop j)[0]?=(l.drop j)[0]?:=(by rw [VK.out]);rw [List.getElem?_drop,List.getElem?_drop,Nat.add_zero,Aj4 (by omega),Aj4 Ze]at h1;exact Option.some.inj h1
    have Fo:=uV f l Ze;have sO:p∈l:=(by rw [hpl];exact Aj0 Ze);rw [←hpl]at Fo;have Lq:=Ajw Fo;have jw:=Ajw sO;clear hp hpl Fo hl2 Nw sO;obtain⟨pf,pt,pl,pr⟩:=p
    dsimp only at d0 d1 d2 d3
    go_upto_region 8 with fail
    have ve:=Ajy wr (.cells #[.int .i64 pf,.int .i64 pt,.int .i64 pl,.int .i64 pr] 118);have OS:=(Ac.refl wr).alloc (.cells #[.int .i64 pf,.int .i64 pt,.int .i64 pl,.int .i64 pr] 118);clear d0 d1 d2 d3;generalize wr.alloc (.cells #[.int .i64 pf,.int .i64 pt,.int .i64 pl,.int .i64 pr] 118)=VE at *;obtain⟨bw,CM⟩:=Ajv wr.heap.size;rw [←CM]at ve ⊢;have hgb:g≠bw:=(by have:=(ho.lt g rfl).2;omega);have hgb':bw≠g:=fun h=>hgb h.symm;clear CM;have v0:VE.cell? ⟨bw,0,none⟩=some (.int .i64 pf):=Aa ve rfl;have v1:VE.cell? ⟨bw,1,none⟩=some (.int .i64 pt):=Aa ve rfl;have v2:VE.cell? ⟨bw,2,none⟩=some (.int .i64 pl):=Aa ve rfl;have v3:VE.cell? ⟨bw,3,none⟩=some (.int .i64 pr):=Aa ve rfl;have U3:=A9 ho OS;have PM:=Ajw (je.out.ext OS);have bf:=jy.out ⟨pf,pt,pl,pr⟩ jw.out VE PM.out;unfold Hq at bf
    dsimp only at bf
    clear ho OS ve
    cases hL:f ⟨pf,pt,pl,pr⟩
    ·have HE:=Ajw hL;rw [hL]at bf;clear hL;(go_wp2_with fail);(with_reducible refine bf.mono ?_);rintro e w2 ⟨rfl,hx2⟩;have ho2:=A9 U3 hx2;replace v0:=hx2.cellS v0;replace v1:=hx2.cellS v1;replace v2:=hx2.cellS v2;replace v3:=hx2.cellS v3;obtain⟨JX,JY,JZ,Ka⟩:=On l2 i (by rw [MG.out];omega);have d0:=(ho2.cellAt (i*4) (by omega)).trans JX;have d1:=(ho2.cellAt (i*4+1) (by omega)).trans JY;have d2:=(ho2.cellAt (i*4+2) (by omega)).trans JZ;have d3:=(ho2.cellAt (i*4+3) (by omega)).trans Ka;have f0:=ho2.frozenAt (i*4);have f1:=ho2.frozenAt (i*4+1);have f2:=ho2.frozenAt (i*4+2);have f3:=ho2.frozenAt (i*4+3);have hst:=((((ho2.stored (i*4) (.int .i64 pf)).1.stored (i*4+1) (.int .i64 pt)).1).stored (i*4+2) (.int .i64 pl)).1.stored (i*4+3) (.int .i64 pr);have ON:=lK l2 i ⟨pf,pt,pl,pr⟩
     dsimp only at ON
     rw [ON]at hst;have rK:FX base w ((((w2.setCell ⟨g,i*4,none⟩ (.int .i64 pf)).setCell ⟨g,i*4+1,none⟩ (.int .i64 pt)).setCell ⟨g,i*4+2,none⟩ (.int .i64 pl)).setCell ⟨g,i*4+3,none⟩ (.int .i64 pr)):=fun w0 h1 h2=>(((((PM.out w0 h1 h2).trans hx2).setCell (p:=⟨g,i*4,none⟩) (Aj9 h2 hbg) _).setCell (p:=⟨g,i*4+1,none⟩) (Aj9 h2 hbg) _).setCell (p:=⟨g,i*4+2,none⟩) (Aj9 h2 hbg) _).setCell (p:=⟨g,i*4+3,none⟩) (Aj9 h2 hbg) _;have HS:=Ajw (And.intro hst.1 rK);clear hst rK JX JY JZ Ka ON ho2 U3;go_wp2;go_roundw
     case rel=>
      refine⟨i+1,j+1,l2.set i ⟨pf,pt,pl,pr⟩,by go_num,by go_num,by omega,hlt,by rw [List.length_set];exact MG.out,?_,?_,HS.out.1,HS.out.2⟩
      ·rw [Lq.out,HE.out,←Wl.out,Aj2 (by rw [List.length_set];have:=MG.out;omega),List.take_set_of_le (by omega),List.getElem_set_self]
       rfl
      ·have h1:=congrArg (List.drop 1) VK.out;rw [List.drop_drop,List.drop_drop]at h1;rw [←h1,List.drop_set_of_lt (by omega)]
     case measure=>simp [intOf];omega
    ·have HE:=Ajw hL;rw [hL]at bf;clear hL;(go_wp2_with fail);(with_reducible refine bf.mono ?_);rintro e w2 ⟨rfl,hx2⟩;have SL:=Ajw (A9 U3 hx2);clear U3;go_wp2;go_roundw
     case rel=>
      refine⟨i,j+1,l2,rfl,by go_num,by omega,hlt,MG.out,?_,?_,SL.out,PM.out.ext hx2⟩
      ·rw [Lq.out,HE.out,Wl.out];simp
      ·have h1:=congrArg (List.drop 1) VK.out;rw [List.drop_drop,List.drop_drop]at h1;exact h1
     case measure=>simp [intOf];omega
   ·have hjn:j=n:=(by omega);subst hjn;have hle:(j:Int)<=(j:Int):=(by omega);have Jp:(0:Int)<=(i:Int):=(by omega);have Nu:(i:Int)<=(j:Int):=(by omega);have OE:(i:Int)<=(c:Int):=(by omega);obtain⟨vs,hvl,hcl⟩:=AfE wr g (i*4) (j-i) (c-i) (by omega) (fun q hq=>by rw [ho.cellAt _ (by omega),Aj4 (by rw [Qr,MG.out];omega)];rfl) (fun q hq=>ho.frozenAt _)
    have Cg:SA f base l w (.returned (.slice (some ⟨g,0,none⟩) i c)) (wr.setCells g (i*4) vs):=by
     have e:l2.take i=Fp f l:=by rw [Wl.out,Aj7 (by rw [←HN.out];exact Ajz _)]
     have e2:(Fp f l).length=i:=(by rw [←e,List.length_take];omega);refine⟨⟨some ⟨g,0,none⟩,c,by rw [e2],?_,by omega,hc2⟩,fun w0 h1 h2=>Xw g (Aj9 h2 hbg) _ _ _ (Nw w0 h1 h2)⟩;refine⟨fun _=>⟨g,0,rfl,fun q hq=>?_⟩⟩;have hq4:q<i*4:=(by rw [Qr,e2]at hq;exact hq);rw [Nat.zero_add,World.cell?_setCells_out _ _ _ _ _ (fun _ _=>.inl (by simp only [];omega)),ho.cellAt q (by omega)];simp only [←e,lL,List.getElem_take];rw [Aj4]
    have HF:=Ajw Cg;clear Cg ho Nw;go_wp2;go_ret;exact HF.out
section
open Go.Sort
theorem wu(base:Nat)(l:List Bs)(g cap i j:Nat)(w:World)(hown:w.ownsRow base 9 1 (.slice (some ⟨g,0,none⟩) l.length cap) l.length (l.map S))(Bl:i<=j)(hj:j<=l.length) :
  Calls Tryz.prog 171 #[.slice (some ⟨g,0,none⟩) l.length cap,.int .i64 i,.int .i64 j] w (fun e w'=>e=.returned (.slice (some ⟨g,0,none⟩) (l.length-(j-i)) cap)/\w'.ownsRow base 9 1 (.slice (some ⟨g,0,none⟩) (l.length-(j-i)) cap) (l.length-(j-i)) ((l.take i++l.drop j).map S)/\FX base w w'/\Ax (fun q=>q=g) w w'):=by
 have hv:(Value.slice (some ⟨g,0,none⟩) l.length cap)≠.slice none 0 0:=by simp
 rcases hown.2 with⟨h',_⟩|⟨g',cap',cur,hv',hbase,hb,h1,h2,h3,h4⟩
 ·cases h'
 ·simp only [Value.slice.injEq,Aj3,Addr.mk.injEq,and_true,true_and]at hv';obtain⟨rfl,rfl⟩:=hv';obtain⟨A1,c1,q1,-,s1,fy⟩:=Ae.of_own' (by omega) hown;simp only [Value.slice.injEq,true_and]at q1;obtain⟨rfl,rfl⟩:=q1;obtain⟨g',cap',he,-,hlt,An,-,-,hH⟩:=Lib.holds_of_ownsRow (enc:=encStr) (zs:=l) hown hv
  cases he;refine(Tryz.slices_Delete_string g 0 cap i j l w hH (by omega) fy Bl hj).mono ?_;rintro e w' ⟨rfl,q,rfl⟩;have hc:=Lib.ownsRow_putRow (enc:=encStr) (q:=q) (k:=l.length-(j-i)) (ys:=l.take i++l.drop j++List.replicate (j-i) []) hown (by simp;omega) (by omega);rw [List.take_left' (by simp;omega)]at hc;exact⟨rfl,hc,fun w0 h h'=>Lib.below_putRow h (by omega),⟨rfl,rfl,rfl,by simp [putRow,mapBlock,Sort.ahead],fun k hk hne=>by simp [putRow,mapBlock,Sort.ahead,Array.getElem?_modify,show g≠k from fun e=>hne e.symm]⟩⟩
end
structure D3(w1 wr:World)(bo bn bh:Nat)(P E Fv:Value)(ks:List Bs)(nm:List (Int×Int))(ps:List Pt)(es:List EdZ):Prop where
 ext:Ac w1 wr
 cO:wr.heap[bo]?=some (.cells #[P,E,Fv] 35)
 pts:wr.ownsRow w1.heap.size 27 2 P ps.length (flat (Ai ps))
 eds:wr.ownsRow w1.heap.size 118 4 E es.length (Au es)
 fac:wr.ownsRow w1.heap.size 9 1 Fv ks.length (ks.map S)
 cN:wr.heap[bn]?=some (.cells #[.map (some bh)] 237)
 num:CE wr bh nm
 szo:w1.heap.size<=bo/\w1.heap.size<=bh
section
variable {w1 wr w' : World} {bo bn bh : Nat} {P E Fv P' E' : Value} {ks : List Bs} {nm : List (Int × Int)} {ps ps' : List Pt} {es es' : List EdZ}
theorem D3.grow(h:D3 w1 wr bo bn bh P E Fv ks nm ps es)(hx:Ac wr w'):D3 w1 w' bo bn bh P E Fv ks nm ps es:=
 ⟨h.ext.trans hx,(hx.block _ (Ajx h.cO)).trans h.cO,A9 h.pts hx,A9 h.eds hx,A9 h.fac hx,(hx.block _ (Ajx h.cN)).trans h.cN,(hx.block _ (Ajx h.num)).trans h.num,h.szo⟩
theorem Se{w:World}{B:Nat}{e:TypeId}{s n:Nat}{v:Value}{xs:List Value}(h:w.ownsRow B e s v n xs){b:Nat}{nm:List (Int×Int)}(hb:CE w b nm):v.ownBlock≠some b:=by
 intro e0
 rcases h.2 with⟨h',_⟩|⟨g,cap,cur,h',_,hgb,_⟩
 ·rw [h']at e0;cases e0
 ·rw [h']at e0;simp only [Value.ownBlock,Aj3]at e0;subst e0;unfold CE at hb;rw [hgb]at hb
  cases hb
theorem Qg{w:World}{j b:Nat}{cs:Array Value}{t:TypeId}{nm:List (Int×Int)}(h:w.heap[j]?=some (.cells cs t))(hb:CE w b nm):j≠b:=by
 rintro rfl;unfold CE at hb;rw [h]at hb
 cases hb
theorem D3.name(h:D3 w1 wr bo bn bh P E Fv ks nm ps es){D7:List (Int×Int)}(hg:wr.grownBy w' (some bh))(hI:CE w' bh D7):D3 w1 w' bo bn bh P E Fv ks D7 ps es:=by
 have hb:=(Ax.refl (fun k=>k=bh) wr).grown hg (fun k e=>by cases e;exact .inl rfl)
 exact⟨h.ext.grown hg (fun k hk=>by cases hk;exact h.szo.2),(hb.block _ (Ajx h.cO) (Qg h.cO h.num)).trans h.cO,Bw h.pts hb (fun k hk e=>by subst e;exact Se h.pts h.num hk),Bw h.eds hb (fun k hk e=>by subst e;exact Se h.eds h.num hk),Bw h.fac hb (fun k hk e=>by subst e;exact Se h.fac h.num hk),
  (hb.block _ (Ajx h.cN) (Qg h.cN h.num)).trans h.cN,hI,h.szo⟩
theorem ri{w:World}{b:Nat}{a0 a1 a2:Value}{t:TypeId}(v:Value)(h:w.heap[b]?=some (.cells #[a0,a1,a2] t)):(w.setCell ⟨b,0,none⟩ v).heap[b]?=some (.cells #[v,a1,a2] t):=by
 simp only [World.setCell,Array.getElem?_modify,h];simp
theorem D3.pt(h:D3 w1 wr bo bn bh P E Fv ks nm ps es)(hg:wr.grownBy w' P.ownBlock)(ho:w'.ownsRow w1.heap.size 27 2 P' ps'.length (flat (Ai ps'))) :
  w'.heap[bo]?=some (.cells #[P,E,Fv] 35)/\D3 w1 (w'.setCell ⟨bo,0,none⟩ P') bo bn bh P' E Fv ks nm ps' es:=by
 have hM:=En hg h.pts h.cO (by decide);have hN:=En hg h.pts h.cN (by decide);have hI:CE w' bh nm:=(hg.block bh (Ajx h.num) (fun e=>Se h.pts h.num e.symm)).trans h.num;have hE:=Kb hg h.pts h.eds (by decide);have hF:=Kb hg h.pts h.fac (by decide);have bb:=(Ax.refl (fun q=>q=bo) w').setCell (p:=⟨bo,0,none⟩) (.inl rfl) P';have hX:Ac w1 w':=h.ext.grown hg (fun k hk=>(h.pts.lt k hk).1);refine⟨hM,hX.setCell (p:=⟨bo,0,none⟩) h.szo.1 P',ri P' hM,Bw ho bb (fun q hq e=>by subst e;exact Bo ho hM (by decide) hq),Bw hE bb (fun q hq e=>by subst e;exact Bo hE hM (by decide) hq),Bw hF bb (fun q hq e=>by subst e;exact Bo hF hM (by decide) hq),?_,?_,h.szo⟩
 ·rw [B7 (by exact Ct hN hM (by decide))];exact hN
 ·unfold CE;rw [B7 (by exact fun e=>Qg hM hI e.symm)];exact hI
theorem D3.ed(h:D3 w1 wr bo bn bh P E Fv ks nm ps es)(hg:wr.grownBy w' E.ownBlock)(ho:w'.ownsRow w1.heap.size 118 4 E' es'.length (Au es')) :
  w'.heap[bo]?=some (.cells #[P,E,Fv] 35)/\D3 w1 (w'.setCell ⟨bo,1,none⟩ E') bo bn bh P E' Fv ks nm ps es':=by
 have hM:=En hg h.eds h.cO (by decide);have hN:=En hg h.eds h.cN (by decide);have hI:CE w' bh nm:=(hg.block bh (Ajx h.num) (fun e=>Se h.eds h.num e.symm)).trans h.num;have hE:=Kb hg h.eds h.pts (by decide);have hF:=Kb hg h.eds h.fac (by decide);have bb:=(Ax.refl (fun q=>q=bo) w').setCell (p:=⟨bo,1,none⟩) (.inl rfl) E';have hX:Ac w1 w':=h.ext.grown hg (fun k hk=>(h.eds.lt k hk).1);refine⟨hM,hX.setCell (p:=⟨bo,1,none⟩) h.szo.1 E',iZ E' hM,Bw hE bb (fun q hq e=>by subst e;exact Bo hE hM (by decide) hq),Bw ho bb (fun q hq e=>by subst e;exact Bo ho hM (by decide) hq),Bw hF bb (fun q hq e=>by subst e;exact Bo hF hM (by decide) hq),?_,?_,h.szo⟩
 ·rw [B7 (by exact Ct hN hM (by decide))];exact hN
 ·unfold CE;rw [B7 (by exact fun e=>Qg hM hI e.symm)];exact hI
end
def Te(w w':World):Prop:=∀(j:Nat) (cs:Array Value),w.heap[j]?=some (.cells cs 118)→w'.heap[j]?=some (.cells cs 118)
def PU(w1 w:World)(bo bn bh:Nat)(E Fv:Value)(ks:List Bs)(es:List EdZ)(z:Int)(D7:List (Int×Int))(ps':List Pt)(e:Ending)(w':World):Prop:=
 ∃P',e=.returned (.int .i64 z)/\D3 w1 w' bo bn bh P' E Fv ks D7 ps' es/\Te w w'
theorem AcV{w1 W1 V w7:World}{bo:Nat}{P E Fv:Value}{ps:List Pt}(hx:Ac W1 V)(hp:W1.ownsRow w1.heap.size 27 2 P ps.length (flat (Ai ps)))(hg:V.grownBy w7 P.ownBlock)(hM:w7.heap[bo]?=some (.cells #[P,E,Fv] 35))(P':Value):Te W1 (w7.setCell ⟨bo,0,none⟩ P'):=fun j cs hj=>by
 have h1:=En hg (A9 hp hx) ((hx.block _ (Ajx hj)).trans hj) (by decide);rw [B7 (by exact Ct h1 hM (by decide))];exact h1
def D8(mp:List Pt)(k:Int)(nm:List (Int×Int))(ps:List Pt):Int×List (Int×Int)×List Pt:=match BU k nm with
 | some z=>(z,nm,ps)
 | none=>((ps.length:Int),nm ++ [(k,(ps.length:Int))],ps ++ [mp.getD k.toNat ⟨0,0⟩])
theorem AcN{w1 w:World}{bo bn bh bm:Nat}{P E Fv:Value}{ks:List Bs}{nm:List (Int×Int)}{ps:List Pt}{es:List EdZ}(h:D3 w1 w bo bn bh P E Fv ks nm ps es)(f z:Int)(hf:BU f nm=some z) :
  Calls Tryz.prog 172 #[.int .i64 f,.pointer (some ⟨bn,0,none⟩),.pointer (some ⟨bo,0,none⟩),.pointer (some ⟨bm,0,none⟩)] w (PU w1 w bo bn bh E Fv ks es z nm ps):=by
 have k0:=Aa (o:=0) h.cN rfl;have lk:=Sq f nm h.num;have Jv:=Vr f nm h.num;rw [hf]at lk Jv;simp only [Option.getD_some,Option.isSome_some]at lk Jv;go_enter Tryz.func172,Tryz.ntmps172;go_wp2;go_ret;exact⟨P,rfl,h,fun _ _ h=>h⟩
theorem AcM{w1 w:World}{bo bn bh bm:Nat}{P E Fv:Value}{ks:List Bs}{nm:List (Int×Int)}{ps:List Pt}{es:List EdZ}(h:D3 w1 w bo bn bh P E Fv ks nm ps es){A:Option Addr}{c:Nat}{V1 V2:Value}(mp:List Pt)(Rt:w1.heap[bm]?=some (.cells #[.slice A mp.length c,V1,V2] 35))(hA:Ae w1 A (flat (Ai mp)))
  (k:Nat) (hk:k<mp.length) (hf:BU (k:Int) nm=none) (hpl:ps.length<=100000) :
  Calls Tryz.prog 172 #[.int .i64 (k:Nat),.pointer (some ⟨bn,0,none⟩),.pointer (some ⟨bo,0,none⟩),.pointer (some ⟨bm,0,none⟩)] w (PU w1 w bo bn bh E Fv ks es (ps.length:Nat) (nm ++ [((k:Int),(ps.length:Int))]) (ps ++ [mp[k]])):=by
 have k0:=Aa (o:=0) h.cN rfl;have lk:=Sq (k:Int) nm h.num;rw [hf]at lk;simp only [Option.getD_none,Option.isSome_none]at lk;obtain⟨W1,hput,Eo,hg1,hs1⟩:=h.num.put (k:Int) (ps.length:Int) hf;have HS:=Ajw (h.name hg1 Eo);have HK:=Ajw (show Te w W1 from fun j cs hj=>(hg1.block j (Ajx hj) (fun e=>Qg hj h.num (by cases e;rfl))).trans hj);obtain⟨ub,uo,rfl,hu1,hu2⟩:=BW (hA.ext HS.out.ext) hk;obtain⟨p,hp⟩:=Ajv (mp[k]);rw [←hp]at hu1 hu2 ⊢;obtain⟨oP,cP,rfl,-,-,-⟩:=Ae.of_own' (by omega) h.pts;have k1:w.cell? ⟨bo,0,none⟩=some (.slice oP ps.length cP):=Aa h.cO rfl;have k2:W1.cell? ⟨bo,0,none⟩=some (.slice oP ps.length cP):=Aa HS.out.cO rfl;have k3:W1.cell? ⟨bm,0,none⟩=some (.slice (some ⟨ub,uo,none⟩) mp.length c):=Aa ((HS.out.ext.block _ (Ajx Rt)).trans Rt) rfl;have hm0:(0:Int)<=(k:Int):=(by omega);have hm1:(k:Int)<(mp.length:Int):=(by omega);have Lm:=Ajw hf;have YU:ps.length<200000:=(by omega);have hsz:=HS.out.ext.size;clear hf Eo hg1 hs1 h hA Rt hp;go_enter Tryz.func172,Tryz.ntmps172
 go_upto_region 4 with fail
 have k4:(W1.alloc (.cells #[S (R p.x),S (R p.y)] 27)).cell? ⟨bo,0,none⟩=some (.slice oP ps.length cP):=Aa (HS.out.grow ((Ac.refl W1).alloc _)).cO rfl
 go_region_law (refine AgE rfl _ _ rfl _ w1.heap.size (.slice oP ps.length cP) ps.length ps rfl (A9 HS.out.pts (by first|exact(Ac.refl W1).alloc _|exact((Ac.refl W1).alloc _).drew)) YU p W1.heap.size (Ajy W1 _) rfl (by simp;omega) ?_;intro v7 w7 GX Rf Jo;obtain⟨KL,JM,rfl,-,-,-⟩:=Ae.of_own' (by omega) GX;obtain⟨CL,nZ⟩:=(HS.out.grow (by first|exact(Ac.refl W1).alloc _|exact((Ac.refl W1).alloc _).drew)).pt Jo (ps':=ps ++ [p]) (by rw [List.length_append];exact GX);have Q7:Te W1 (w7.setCell ⟨bo,0,none⟩ (.slice KL (ps.length+1) JM)):=AcV (by first|exact(Ac.refl W1).alloc _|exact((Ac.refl W1).alloc _).drew) HS.out.pts Jo CL _;have e1:w7.cell? ⟨bo,0,none⟩=some (.slice oP ps.length cP):=Aa CL rfl;have e2:=Aj (o:=0) CL)
 all_goals (
  have N9:=nZ;have v1:=Aa (o:=0) N9.cN rfl;have RR:=Vr (k:Int) (nm ++ [((k:Int),(ps.length:Int))]) N9.num
  rw [show BU (k:Int) (nm ++ [((k:Int),(ps.length:Int))])=some (ps.length:Int)by
   have Nr:=Lm.out;unfold BU at Nr ⊢;rw [List.find?_append]
   cases hq:nm.find? (fun e=>(k:Int) == e.1)with
   | some e=>rw [hq]at Nr;cases Nr
   | none=>simp]at RR
  simp only [Option.getD_some]at RR;clear CL e1 e2 Jo GX Rf nZ;generalize (w7.setCell ⟨bo,0,none⟩ (.slice KL (ps.length+1) JM))=W8 at *;have VX:=Ajw N9;have gq:=Ajw Q7;clear N9 Q7;go_wp2;go_ret
  exact⟨_,rfl,VX.out,fun j cs hj=>gq.out j cs (HK.out j cs hj)⟩)
theorem AdU(mp:List Pt)(k:Int)(nm:List (Int×Int))(ps:List Pt):(D8 mp k nm ps).2.2.length<=ps.length+1:=by
 unfold D8
 cases BU k nm with
 | some z=>simp
 | none=>simp
theorem uM{w1 w:World}{bo bn bh bm:Nat}{P E Fv:Value}{ks:List Bs}{nm:List (Int×Int)}{ps:List Pt}{es:List EdZ}(h:D3 w1 w bo bn bh P E Fv ks nm ps es){A:Option Addr}{c:Nat}{V1 V2:Value}(mp:List Pt)(Rt:w1.heap[bm]?=some (.cells #[.slice A mp.length c,V1,V2] 35))(hA:Ae w1 A (flat (Ai mp)))
  (k:Int) (hk0:0<=k) (hk:k<(mp.length:Int)) (hpl:ps.length<=100000) :
  Calls Tryz.prog 172 #[.int .i64 k,.pointer (some ⟨bn,0,none⟩),.pointer (some ⟨bo,0,none⟩),.pointer (some ⟨bm,0,none⟩)] w (PU w1 w bo bn bh E Fv ks es (D8 mp k nm ps).1 (D8 mp k nm ps).2.1 (D8 mp k nm ps).2.2):=by
 obtain⟨j,rfl⟩:∃j:Nat,k=(j:Int):=⟨k.toNat,by omega⟩;unfold D8
 cases hf:BU (j:Int) nm with
 | some z=>exact AcN h _ z hf
 | none=>
  have h1:=AcM h mp Rt hA j (by omega) hf hpl
  have e:mp.getD (j:Int).toNat ⟨0,0⟩=mp[j]:=by rw [Int.toNat_natCast,List.getD_eq_getElem?_getD,Aj4 (by omega)];rfl
  simp only [e];exact h1
section
variable {ops : Array Oper} {o : Oper} {a : Act} {K : Act → World → Prop} {Q : Exit → Act → World → Prop}
theorem AgD{E:Prop}(hgd:o.guard=none)(s x:Operand)(ho:o.op=.call {callee:=.builtin .append,args:=#[s,x],argTypes:=#[32,32]})
  (wN:World) (base:Nat) (v:Value) (n:Nat) (l:List EdZ) (hs:a.eval s=v) (hown:wN.ownsRow base 118 4 v n (Au l)) (hn:n<200000) (d:EdZ)
  (g:Nat) (hb:wN.heap[g]?=some (.cells #[.int .i64 d.f,.int .i64 d.t,.int .i64 d.l,.int .i64 d.r] 118)) (hx:a.eval x=.slice (some ⟨g,0,none⟩) 1 1) (hbase:base<=wN.heap.size)
  (h:∀v' w',w'.ownsRow base 118 4 v' (n+1) (Au (l ++ [d]))→wN.grownBy w' v.ownBlock→K (a.put o.dst v') w') :
  if Region.wanted o (yielded ops a.tmps)=true then Oper.wp Tryz.prog o a wN K Q else E:=by
 have hw:Region.wanted o (yielded ops a.tmps)=true:=(by simp [Region.wanted,hgd]);rw [if_pos hw];exact dx s x ho wN base v n l hs hown hn d g hb hx hbase h
end
def Qo(a b:Int)(e:EdZ):Bool:=(e.l == a&&e.r == b)||(e.l == b&&e.r == a)
def J8(a b f:Int):Int:=if (if f=b then a else f)>b then (if f=b then a else f)-1 else (if f=b then a else f)
theorem AcL(e:EdZ)(a b:Int){w:World}{ba bb:Nat}(Av:w.heap[ba]?=some (.cells #[.int .i64 a] 3))(Bf:w.heap[bb]?=some (.cells #[.int .i64 b] 3)) :
  Calls Tryz.prog 169 #[Hq e,.pointer (some ⟨ba,0,none⟩),.pointer (some ⟨bb,0,none⟩)] w (By (Qo a b e) w):=by
 obtain⟨ef,et,el,er⟩:=e;have hq:=Ajy w (.cells #[.int .i64 ef,.int .i64 et,.int .i64 el,.int .i64 er] 118);have hE:=(Ac.refl w).alloc (.cells #[.int .i64 ef,.int .i64 et,.int .i64 el,.int .i64 er] 118);replace Av:=(hE.block _ (Ajx Av)).trans Av;replace Bf:=(hE.block _ (Ajx Bf)).trans Bf;have Rb:Qo a b ⟨ef,et,el,er⟩=((el == a&&er == b)||(el == b&&er == a)):=rfl;rw [Rb];obtain⟨r,hr⟩:=Ajv (((el == a&&er == b)||(el == b&&er == a)));rw [←hr];have HR:=Ajw hr;clear hr;unfold Hq;go_enter Tryz.func169,Tryz.ntmps169
 go_upto_region 1 with fail
 generalize w.alloc (.cells #[.int .i64 ef,.int .i64 et,.int .i64 el,.int .i64 er] 118)=V at *;obtain⟨bq,C7⟩:=Ajv w.heap.size;rw [←C7]at hq ⊢;clear C7 Rb;have k1:V.cell? ⟨bq,2,none⟩=some (.int .i64 el):=Aa hq rfl;have k2:V.cell? ⟨bq,3,none⟩=some (.int .i64 er):=Aa hq rfl;have k3:V.cell? ⟨ba,0,none⟩=some (.int .i64 a):=Aa Av rfl;have k4:V.cell? ⟨bb,0,none⟩=some (.int .i64 b):=Aa Bf rfl;have HE:=Ajw hE;clear hE hq Av Bf
 cases b1:(el == a)<;>cases b2:(er == b)<;>cases b3:(el == b)<;>cases b4:(er == a)<;>(go_wp2;go_ret;exact⟨by rw [HR.out,b1,b2,b3,b4];rfl,HE.out⟩)
theorem uL(f a b:Int)(hf:-1<=f/\f<=100000)(ha:-1<=a/\a<=100000){w:World}{ba bb:Nat}(Av:w.heap[ba]?=some (.cells #[.int .i64 a] 3))(Bf:w.heap[bb]?=some (.cells #[.int .i64 b] 3)) :
  Calls Tryz.prog 170 #[.int .i64 f,.pointer (some ⟨bb,0,none⟩),.pointer (some ⟨ba,0,none⟩)] w (AK (J8 a b f) w):=by
 have k3:w.cell? ⟨ba,0,none⟩=some (.int .i64 a):=Aa Av rfl;have k4:w.cell? ⟨bb,0,none⟩=some (.int .i64 b):=Aa Bf rfl;have i1:IntKind.wrap .i64 (f-1)=f-1:=Aj5 _ (by omega);have i2:IntKind.wrap .i64 (a-1)=a-1:=Aj5 _ (by omega);unfold J8;clear Av Bf;by_cases h1:f=b
 ·have b1:(f == b)=true:=(by rw [h1];simp);rw [if_pos h1];clear h1;by_cases h2:a>b
  ·rw [if_pos h2];go_enter Tryz.func170,Tryz.ntmps170;go_wp2;go_ret;exact⟨rfl,Ac.refl _⟩
  ·rw [if_neg h2];go_enter Tryz.func170,Tryz.ntmps170;go_wp2;go_ret;exact⟨rfl,Ac.refl _⟩
 ·have b1:(f == b)=false:=beq_false_of_ne h1;rw [if_neg h1];clear h1;by_cases h2:f>b
  ·rw [if_pos h2];go_enter Tryz.func170,Tryz.ntmps170;go_wp2;go_ret;exact⟨rfl,Ac.refl _⟩
  ·rw [if_neg h2];go_enter Tryz.func170,Tryz.ntmps170;go_wp2;go_ret;exact⟨rfl,Ac.refl _⟩
theorem BY.set3{B:Nat}{w:World}{A Bk F:Option Addr}{c d g:Nat}{m:MapZ}{fa:List Bs}(h:BY B w A Bk F c d g m fa){bo:Nat}{cs:Array Value}(hb:w.heap[bo]?=some (.cells cs 35))(x y z:Value):BY B (((w.setCell ⟨bo,0,none⟩ x).setCell ⟨bo,1,none⟩ y).setCell ⟨bo,2,none⟩ z) A Bk F c d g m fa:=
 ⟨Ds h.pts hb (by decide) _ _ _,Ds h.eds hb (by decide) _ _ _,Ds h.fac hb (by decide) _ _ _,h.nf⟩
def SZ(B:Nat)(w0 W:World)(m':MapZ)(fa':List Bs)(e:Ending)(w':World):Prop:=
 ∃A' B' F' c' d' g',e=.returned (.tuple #[As A' B' F' m' c' d' g',.int .i64 0])/\BY B w' A' B' F' c' d' g' m' fa'/\Ac w0 w'/\∀(j:Nat) (cs:Array Value),W.heap[j]?=some (.cells cs 35)→w'.heap[j]?=some (.cells cs 35)
theorem pq(m m':MapZ)(fa fa':List Bs)(Bn:m.nf=fa.length)(hgr:∀p∈m.pts,Cz p)(hck:El m=0)(hpl:m.pts.length<=1000)(hel:m.eds.length<=1000)(CN:fa.length<=1000)(LW:EZ m'=true)(Ib:m'.nf=fa'.length)(Kr:fa'.length<=1000)(a b:Pt)(u:Bs)(w:World)(hw:Ao w)
  (hsc:∀W,Ac w W→Calls Tryz.prog 91 #[Fc 2 a b u] W (AK 0 W))
  (Gs:∀(V W:World) (A B F:Option Addr) (c d g:Nat),Ac w V→Ac V W→BY V.heap.size W A B F c d g m fa→Calls Tryz.prog 93 #[As A B F m c d g,Fc 2 a b u] W (SZ V.heap.size V W m' fa'))
  (A B F:Option Addr) (c d g:Nat) (An:Bj m c d g) (hA:Ae w A (flat (Ai m.pts))) (hB:Ae w B (Au m.eds)) (hF:Ae w F (fa.map S)) :
  Calls Tryz.prog 44 #[As A B F m c d g,Fc 2 a b u] w (fun e w'=>JF w (Iu m' fa') (Cv m' fa').fa e w'):=by
 obtain⟨hM,hE,hR,hX⟩:=M8 w (.cells #[.slice A m.pts.length c,.slice B m.eds.length d,.slice F m.nf g] 35) (.cells #[.int .i64 2,S (R a.x),S (R a.y),S (R b.x),S (R b.y),S [],S [],S u] 29) (.cells #[.slice none 0 0,.slice none 0 0,.slice none 0 0] 35);have pc:=fun W (hx:Ac w W)=>M4 m hgr A B F c d g An W (hw.ext hx) (hA.ext hx) (hB.ext hx);rw [hck]at pc;have cp:=fun W (hx:Ac w W)=>Xh m fa Bn hpl hel CN A B F c d g W (hA.ext hx) (hB.ext hx) (hF.ext hx);have HM:=Ajw (And.intro LW (And.intro Ib (And.intro Kr Bn)));clear LW Ib Kr Bn An hA hB hF hgr hck;unfold As at pc cp ⊢;unfold Fc at hsc Gs ⊢;unfold As at Gs;go_enter Tryz.func44,Tryz.ntmps44
 go_upto_region 1 with fail
 generalize ((w.alloc (.cells #[.slice A m.pts.length c,.slice B m.eds.length d,.slice F m.nf g] 35)).alloc (.cells #[.int .i64 2,S (R a.x),S (R a.y),S (R b.x),S (R b.y),S [],S [],S u] 29)).alloc (.cells #[.slice none 0 0,.slice none 0 0,.slice none 0 0] 35)=V at *;obtain⟨bm,AD⟩:=Ajv w.heap.size;have O7:=AD;rw [←AD]at hM hE hR ⊢;have k0:V.cell? ⟨bm,0,none⟩=some (.slice A m.pts.length c):=Aa hM rfl;have k1:V.cell? ⟨bm,1,none⟩=some (.slice B m.eds.length d):=Aa hM rfl;have k2:V.cell? ⟨bm,2,none⟩=some (.slice F m.nf g):=Aa hM rfl;have PI:=Ajw AD;clear AD O7;have p1:=pc V hX;(go_wp2_with fail);(with_reducible refine p1.mono ?_);rintro e w1 ⟨rfl,hx1⟩;have Gn:=hX.trans hx1;have x0:w1.cell? ⟨bm+1,0,none⟩=some (.int .i64 2):=Aa ((hx1.block _ (Ajx hE)).trans hE) rfl;have x1:w1.cell? ⟨bm+1,1,none⟩=some (S (R a.x)):=Aa ((hx1.block _ (Ajx hE)).trans hE) rfl;have x2:w1.cell? ⟨bm+1,2,none⟩=some (S (R a.y)):=Aa ((hx1.block _ (Ajx hE)).trans hE) rfl;have x3:w1.cell? ⟨bm+1,3,none⟩=some (S (R b.x)):=Aa ((hx1.block _ (Ajx hE)).trans hE) rfl;have x4:w1.cell? ⟨bm+1,4,none⟩=some (S (R b.y)):=Aa ((hx1.block _ (Ajx hE)).trans hE) rfl;have x5:w1.cell? ⟨bm+1,5,none⟩=some (S []):=Aa ((hx1.block _ (Ajx hE)).trans hE) rfl;have x6:w1.cell? ⟨bm+1,6,none⟩=some (S []):=Aa ((hx1.block _ (Ajx hE)).trans hE) rfl;have x7:w1.cell? ⟨bm+1,7,none⟩=some (S u):=Aa ((hx1.block _ (Ajx hE)).trans hE) rfl;have s1:=hsc w1 Gn;clear p1 pc k0 k1 k2;(go_wp2_with fail);(with_reducible refine s1.mono ?_);rintro e w2 ⟨rfl,hx2⟩;have Ce:=Gn.trans hx2;have hV2:=hx1.trans hx2;replace x0:=hx2.cellS x0;clear s1 hsc x1 x2 x3 x4 x5 x6 x7;have al:∀O,(w2.alloc O).cell? ⟨bm+1,0,none⟩=some (.int .i64 2):=fun O=>((Ac.refl w2).alloc O).cellS x0
 go_upto_region 8 with fail
 clear al;have hx3:=fun O=>(Ac.refl w2).alloc O;generalize hW3:w2.alloc _=W3;have BL:Ac w2 W3:=hW3▸hx3 _;have Cd:=((hV2.trans BL).block _ (Ajx hM)).trans hM;have Bh:=((hV2.trans BL).block _ (Ajx hE)).trans hE;have AA:=((hV2.trans BL).block _ (Ajx hR)).trans hR;have hW:=Ce.trans BL;clear hW3 hx3 BL x0 hM hE hR;have k0:W3.cell? ⟨bm,0,none⟩=some (.slice A m.pts.length c):=Aa Cd rfl;have k1:W3.cell? ⟨bm,1,none⟩=some (.slice B m.eds.length d):=Aa Cd rfl;have k2:W3.cell? ⟨bm,2,none⟩=some (.slice F m.nf g):=Aa Cd rfl;have y0:W3.cell? ⟨bm+1,0,none⟩=some (.int .i64 2):=Aa Bh rfl;have y1:W3.cell? ⟨bm+1,1,none⟩=some (S (R a.x)):=Aa Bh rfl;have y2:W3.cell? ⟨bm+1,2,none⟩=some (S (R a.y)):=Aa Bh rfl;have y3:W3.cell? ⟨bm+1,3,none⟩=some (S (R b.x)):=Aa Bh rfl;have y4:W3.cell? ⟨bm+1,4,none⟩=some (S (R b.y)):=Aa Bh rfl;have y5:W3.cell? ⟨bm+1,5,none⟩=some (S []):=Aa Bh rfl;have y6:W3.cell? ⟨bm+1,6,none⟩=some (S []):=Aa Bh rfl;have y7:W3.cell? ⟨bm+1,7,none⟩=some (S u):=Aa Bh rfl;have SO:=fun (w':World) (h:Ac W3 w')=>(⟨h.cellS k0,h.cellS k1,h.cellS k2,h.cellS y0,h.cellS y1,h.cellS y2,h.cellS y3,h.cellS y4,h.cellS y5,h.cellS y6,h.cellS y7⟩:_/\_/\_/\_/\_/\_/\_/\_/\_/\_/\_);have X:=Ac.refl W3;have hO:=Ajy W3 (.cells #[.slice none 0 0,.slice none 0 0,.slice none 0 0] 35)
 go_cut [9,10] (fun v9 v10 wx=>∃bo A' B' F' c' d' g',v9=.pointer (some ⟨bo,0,none⟩)/\v10=.int .i64 0/\wx.heap[bo]?=some (.cells #[.slice A' m'.pts.length c',.slice B' m'.eds.length d',.slice F' m'.nf g'] 35)/\BY w.heap.size wx A' B' F' c' d' g' m' fa'/\Ac W3 wx)
 case first=>
  go_region_held3 (fun w'=>w'.cell? ⟨bm,0,none⟩=some (.slice A m.pts.length c)/\w'.cell? ⟨bm,1,none⟩=some (.slice B m.eds.length d)/\w'.cell? ⟨bm,2,none⟩=some (.slice F m.nf g)/\w'.cell? ⟨bm+1,0,none⟩=some (.int .i64 2)/\w'.cell? ⟨bm+1,1,none⟩=some (S (R a.x))/\w'.cell? ⟨bm+1,2,none⟩=some (S (R a.y))/\w'.cell? ⟨bm+1,3,none⟩=some (S (R b.x))/\w'.cell? ⟨bm+1,4,none⟩=some (S (R b.y))/\w'.cell? ⟨bm+1,5,none⟩=some (S [])/\w'.cell? ⟨bm+1,6,none⟩=some (S [])/\w'.cell? ⟨bm+1,7,none⟩=some (S u))
   (first|exact SS|with_reducible exact SO _ X|with_reducible exact SO _ X.drew|with_reducible exact SO _ (X.alloc _)|with_reducible exact SO _ (X.alloc _).drew)
   (first
    | ((with_reducible refine(Gs V4 w4 A4 B4 F4 c4 d4 g4 C6 x4 o4).mono ?_);rintro e w5 ⟨A5,B5,F5,c5,d5,g6,rfl,o5,x5,FQ⟩;replace X:Ac W3 w5:=BJ.trans x5;unfold As;first | (have AZ:=FQ _ _ Ki;have g0:=Aa (o:=0) AZ rfl;have g1:=Aa (o:=1) AZ rfl;have g2:=Aa (o:=2) AZ rfl;have Gd:=Aj (o:=0) AZ;have g4:=Aj (o:=1) AZ;have g5:=Aj (o:=2) AZ;have SS:=SO _ (BI X (Ajz _) (.slice A5 m'.pts.length c5) (.slice B5 m'.eds.length d5) (.slice F5 m'.nf g6))) | skip)
    | ((with_reducible refine(Gs V4 _ A4 B4 F4 c4 d4 g4 C6 (x4.alloc (.cells #[.slice none 0 0,.slice none 0 0,.slice none 0 0] 35)) (o4.ext ((Ac.refl w4).alloc (.cells #[.slice none 0 0,.slice none 0 0,.slice none 0 0] 35)))).mono ?_);rintro e w5 ⟨A5,B5,F5,c5,d5,g6,rfl,o5,x5,FQ⟩;have X0:=X;replace X:Ac W3 w5:=BJ.trans x5;unfold As;have AZ:=FQ _ _ (Ajy w4 (.cells #[.slice none 0 0,.slice none 0 0,.slice none 0 0] 35));have g0:=Aa (o:=0) AZ rfl;have g1:=Aa (o:=1) AZ rfl;have g2:=Aa (o:=2) AZ rfl;have Gd:=Aj (o:=0) AZ;have g4:=Aj (o:=1) AZ;have g5:=Aj (o:=2) AZ;have SS:=SO _ (BI X X0.size (.slice A5 m'.pts.length c5) (.slice B5 m'.eds.length d5) (.slice F5 m'.nf g6)))
    | ((with_reducible refine(cp _ (hW.trans X.drew)).mono ?_);rintro e w4 ⟨A4,B4,F4,c4,d4,g4,rfl,o4,x4⟩;obtain⟨V4,EE⟩:=Ajv W3.drew;rw [←EE]at o4 x4;have BJ:Ac W3 V4:=EE▸X.drew;have C6:=hW.trans BJ;replace X:Ac W3 w4:=BJ.trans x4;unfold As)
    | ((with_reducible refine(cp _ (hW.trans (X.alloc (.cells #[.slice none 0 0,.slice none 0 0,.slice none 0 0] 35)).drew)).mono ?_);rintro e w4 ⟨A4,B4,F4,c4,d4,g4,rfl,o4,x4⟩;have Ki:=(x4.block _ (Ajx hO)).trans hO;obtain⟨V4,EE⟩:=Ajv ((W3.alloc (.cells #[.slice none 0 0,.slice none 0 0,.slice none 0 0] 35)).drew);rw [←EE]at o4 x4;have BJ:Ac W3 V4:=EE▸(X.alloc _).drew;have C6:=hW.trans BJ;replace X:Ac W3 w4:=BJ.trans x4;unfold As))
  all_goals go_wp2
  all_goals go_meet
  all_goals
   first
    | exact⟨W3.heap.size,A5,B5,F5,c5,d5,g6,rfl,rfl,Ck _ _ _ AZ,(o5.low C6.size).set3 AZ _ _ _,BI X (Ajz _) _ _ _⟩
    | exact⟨w4.heap.size,A5,B5,F5,c5,d5,g6,rfl,rfl,Ck _ _ _ AZ,(o5.low C6.size).set3 AZ _ _ _,BI X X0.size _ _ _⟩
    | exact⟨w5.heap.size,A5,B5,F5,c5,d5,g6,rfl,rfl,Ajy w5 _,(o5.low C6.size).ext ((Ac.refl w5).alloc _),X.alloc _⟩
 case rest=>obtain⟨bo,A5,B5,F5,c5,d5,g5,rfl,rfl,Cw,o5,AE⟩:=hcut;have hb5:=(AE.block _ (Ajx AA)).trans AA;obtain⟨hc5,r1,r2,r3,r4⟩:=o5.rd;have cn:=xJ m' fa' HM.out.2.1 HM.out.1 A5 B5 F5 c5 d5 g5 hc5 wc (hw.ext (hW.trans AE)) r1 r2 r3 r4 (by have h1:=HM.out.2.1;have h2:=HM.out.2.2.1;omega);have Gm:=hW.trans AE;clear SO X hO k0 k1 k2 y0 y1 y2 y3 y4 y5 y6 y7 o5 r1 r2 r3 r4 hc5 Cd Bh AA;unfold As at cn;have j0:wc.cell? ⟨bo,0,none⟩=some (.slice A5 m'.pts.length c5):=Aa Cw rfl;have j1:wc.cell? ⟨bo,1,none⟩=some (.slice B5 m'.eds.length d5):=Aa Cw rfl;have j2:wc.cell? ⟨bo,2,none⟩=some (.slice F5 m'.nf g5):=Aa Cw rfl;obtain⟨mm,hmm⟩:=Ajv (Iu m' fa');obtain⟨ff,FO⟩:=Ajv ((Cv m' fa').fa);rw [←hmm,←FO]at cn;have Lo:=Ajw (And.intro hmm FO);clear hmm FO;(go_wp2_with fail);(with_reducible refine cn.mono ?_);rintro e w6 ⟨A6,B6,F6,c6,d6,g6,rfl,An,r1,r2,r3,hnf6,AU⟩;have AW:=(AU.block _ (Ajx hb5)).trans hb5;have Iz:=Gm.trans AU;have g0:=Aa (o:=0) AW rfl;have g1:=Aa (o:=1) AW rfl;have g2:=Aa (o:=2) AW rfl;have g3:=Aj (o:=0) AW;have g4:=Aj (o:=1) AW;have mK:=Aj (o:=2) AW;have A7:=Ck (.slice A6 mm.pts.length c6) (.slice B6 mm.eds.length d6) (.slice F6 mm.nf g6) AW;have t1:=Aa (o:=0) A7 rfl;have t2:=Aa (o:=1) A7 rfl;have t3:=Aa (o:=2) A7 rfl;have Bg:=(((Ax.refl (fun q=>q=bm+1+1) w6).setCell (p:=⟨bm+1+1,0,none⟩) (.inl rfl) (.slice A6 mm.pts.length c6)).setCell (p:=⟨bm+1+1,1,none⟩) (.inl rfl) (.slice B6 mm.eds.length d6)).setCell (p:=⟨bm+1+1,2,none⟩) (.inl rfl) (.slice F6 mm.nf g6);have z1:=BV r1 Bg AW (fun j hj=>by obtain⟨s,h⟩:=Ht hj;rw [h];simp);have z2:=BV r2 Bg AW (fun j hj=>by obtain⟨s,h⟩:=Hp hj;rw [h];simp);have z3:=BV r3 Bg AW (fun j hj=>by rw [List.getElem_map];simp);have HF:=Ajw (And.intro An (And.intro z1 (And.intro z2 (And.intro z3 (And.intro hnf6 (BI Iz (show w.heap.size<=bm+1+1 by rw [←PI.out];omega) (.slice A6 mm.pts.length c6) (.slice B6 mm.eds.length d6) (.slice F6 mm.nf g6)))))));clear z1 z2 z3 Bg A7 Iz AW An r1 r2 r3 hnf6 cn Cw AE Gm AU;unfold As;go_wp2;refine bodyPost_ret (v:=.tuple #[.agg #[.slice A6 mm.pts.length c6,.slice B6 mm.eds.length d6,.slice F6 mm.nf g6],.int .i64 0]) (by simp [results,Tryz.results44,go_sem,t1,t2,t3]) rfl ?_;rw [←Lo.out.1,←Lo.out.2];exact⟨A6,B6,F6,c6,d6,g6,rfl,HF.out.1,HF.out.2.1,HF.out.2.2.1,HF.out.2.2.2.1,HF.out.2.2.2.2.1,HF.out.2.2.2.2.2⟩
theorem pp(m m':MapZ)(fa fa':List Bs)(Bn:m.nf=fa.length)(hgr:∀p∈m.pts,Cz p)(hck:El m=0)(hpl:m.pts.length<=1000)(hel:m.eds.length<=1000)(CN:fa.length<=1000)(LW:EZ m'=true)(Ib:m'.nf=fa'.length)(Kr:fa'.length<=1000)(a1 a2:Bs)(u:Bs)(w:World)(hw:Ao w)
  (hsc:∀W,Ac w W→Calls Tryz.prog 91 #[FB 1 (a1,a2) ([],[]) ([],[]) u] W (AK 0 W))
  (Gs:∀(V W:World) (A B F:Option Addr) (c d g:Nat),Ac w V→Ac V W→BY V.heap.size W A B F c d g m fa→Calls Tryz.prog 92 #[As A B F m c d g,FB 1 (a1,a2) ([],[]) ([],[]) u] W (SZ V.heap.size V W m' fa'))
  (A B F:Option Addr) (c d g:Nat) (An:Bj m c d g) (hA:Ae w A (flat (Ai m.pts))) (hB:Ae w B (Au m.eds)) (hF:Ae w F (fa.map S)) :
  Calls Tryz.prog 44 #[As A B F m c d g,FB 1 (a1,a2) ([],[]) ([],[]) u] w (fun e w'=>MA w (Iu m' fa') (Cv m' fa').fa e w'):=by
 obtain⟨hM,hE,hR,hX⟩:=M8 w (.cells #[.slice A m.pts.length c,.slice B m.eds.length d,.slice F m.nf g] 35) (.cells #[.int .i64 1,S a1,S a2,S [],S [],S [],S [],S u] 29) (.cells #[.slice none 0 0,.slice none 0 0,.slice none 0 0] 35);have pc:=fun W (hx:Ac w W)=>M4 m hgr A B F c d g An W (hw.ext hx) (hA.ext hx) (hB.ext hx);rw [hck]at pc;have cp:=fun W (hx:Ac w W)=>Xh m fa Bn hpl hel CN A B F c d g W (hA.ext hx) (hB.ext hx) (hF.ext hx);have HM:=Ajw (And.intro LW (And.intro Ib (And.intro Kr Bn)));clear LW Ib Kr Bn An hA hB hF hgr hck;unfold As at pc cp ⊢;unfold FB at hsc Gs ⊢;unfold As at Gs;go_enter Tryz.func44,Tryz.ntmps44
 go_upto_region 1 with fail
 generalize ((w.alloc (.cells #[.slice A m.pts.length c,.slice B m.eds.length d,.slice F m.nf g] 35)).alloc (.cells #[.int .i64 1,S a1,S a2,S [],S [],S [],S [],S u] 29)).alloc (.cells #[.slice none 0 0,.slice none 0 0,.slice none 0 0] 35)=V at *;obtain⟨bm,AD⟩:=Ajv w.heap.size;have O7:=AD;rw [←AD]at hM hE hR ⊢;have k0:V.cell? ⟨bm,0,none⟩=some (.slice A m.pts.length c):=Aa hM rfl;have k1:V.cell? ⟨bm,1,none⟩=some (.slice B m.eds.length d):=Aa hM rfl;have k2:V.cell? ⟨bm,2,none⟩=some (.slice F m.nf g):=Aa hM rfl;have PI:=Ajw AD;clear AD O7;have p1:=pc V hX;(go_wp2_with fail);(with_reducible refine p1.mono ?_);rintro e w1 ⟨rfl,hx1⟩;have Gn:=hX.trans hx1;have x0:w1.cell? ⟨bm+1,0,none⟩=some (.int .i64 1):=Aa ((hx1.block _ (Ajx hE)).trans hE) rfl;have x1:w1.cell? ⟨bm+1,1,none⟩=some (S a1):=Aa ((hx1.block _ (Ajx hE)).trans hE) rfl;have x2:w1.cell? ⟨bm+1,2,none⟩=some (S a2):=Aa ((hx1.block _ (Ajx hE)).trans hE) rfl;have x3:w1.cell? ⟨bm+1,3,none⟩=some (S []):=Aa ((hx1.block _ (Ajx hE)).trans hE) rfl;have x4:w1.cell? ⟨bm+1,4,none⟩=some (S []):=Aa ((hx1.block _ (Ajx hE)).trans hE) rfl;have x5:w1.cell? ⟨bm+1,5,none⟩=some (S []):=Aa ((hx1.block _ (Ajx hE)).trans hE) rfl;have x6:w1.cell? ⟨bm+1,6,none⟩=some (S []):=Aa ((hx1.block _ (Ajx hE)).trans hE) rfl;have x7:w1.cell? ⟨bm+1,7,none⟩=some (S u):=Aa ((hx1.block _ (Ajx hE)).trans hE) rfl;have s1:=hsc w1 Gn;clear p1 pc k0 k1 k2;(go_wp2_with fail);(with_reducible refine s1.mono ?_);rintro e w2 ⟨rfl,hx2⟩;have Ce:=Gn.trans hx2;have hV2:=hx1.trans hx2;replace x0:=hx2.cellS x0;clear s1 hsc x1 x2 x3 x4 x5 x6 x7;have al:∀O,(w2.alloc O).cell? ⟨bm+1,0,none⟩=some (.int .i64 1):=fun O=>((Ac.refl w2).alloc O).cellS x0
 go_upto_region 8 with fail
 clear al;have hx3:=fun O=>(Ac.refl w2).alloc O;generalize hW3:w2.alloc _=W3;have BL:Ac w2 W3:=hW3▸hx3 _;have Cd:=((hV2.trans BL).block _ (Ajx hM)).trans hM;have Bh:=((hV2.trans BL).block _ (Ajx hE)).trans hE;have AA:=((hV2.trans BL).block _ (Ajx hR)).trans hR;have hW:=Ce.trans BL;clear hW3 hx3 BL x0 hM hE hR;have k0:W3.cell? ⟨bm,0,none⟩=some (.slice A m.pts.length c):=Aa Cd rfl;have k1:W3.cell? ⟨bm,1,none⟩=some (.slice B m.eds.length d):=Aa Cd rfl;have k2:W3.cell? ⟨bm,2,none⟩=some (.slice F m.nf g):=Aa Cd rfl;have y0:W3.cell? ⟨bm+1,0,none⟩=some (.int .i64 1):=Aa Bh rfl;have y1:W3.cell? ⟨bm+1,1,none⟩=some (S a1):=Aa Bh rfl;have y2:W3.cell? ⟨bm+1,2,none⟩=some (S a2):=Aa Bh rfl;have y3:W3.cell? ⟨bm+1,3,none⟩=some (S []):=Aa Bh rfl;have y4:W3.cell? ⟨bm+1,4,none⟩=some (S []):=Aa Bh rfl;have y5:W3.cell? ⟨bm+1,5,none⟩=some (S []):=Aa Bh rfl;have y6:W3.cell? ⟨bm+1,6,none⟩=some (S []):=Aa Bh rfl;have y7:W3.cell? ⟨bm+1,7,none⟩=some (S u):=Aa Bh rfl;have SO:=fun (w':World) (h:Ac W3 w')=>(⟨h.cellS k0,h.cellS k1,h.cellS k2,h.cellS y0,h.cellS y1,h.cellS y2,h.cellS y3,h.cellS y4,h.cellS y5,h.cellS y6,h.cellS y7⟩:_/\_/\_/\_/\_/\_/\_/\_/\_/\_/\_);have X:=Ac.refl W3;have hO:=Ajy W3 (.cells #[.slice none 0 0,.slice none 0 0,.slice none 0 0] 35)
 go_cut [9,10] (fun v9 v10 wx=>∃bo A' B' F' c' d' g',v9=.pointer (some ⟨bo,0,none⟩)/\v10=.int .i64 0/\wx.heap[bo]?=some (.cells #[.slice A' m'.pts.length c',.slice B' m'.eds.length d',.slice F' m'.nf g'] 35)/\BY w.heap.size wx A' B' F' c' d' g' m' fa'/\Ac W3 wx)
 case first=>
  go_region_held3 (fun w'=>w'.cell? ⟨bm,0,none⟩=some (.slice A m.pts.length c)/\w'.cell? ⟨bm,1,none⟩=some (.slice B m.eds.length d)/\w'.cell? ⟨bm,2,none⟩=some (.slice F m.nf g)/\w'.cell? ⟨bm+1,0,none⟩=some (.int .i64 1)/\w'.cell? ⟨bm+1,1,none⟩=some (S a1)/\w'.cell? ⟨bm+1,2,none⟩=some (S a2)/\w'.cell? ⟨bm+1,3,none⟩=some (S [])/\w'.cell? ⟨bm+1,4,none⟩=some (S [])/\w'.cell? ⟨bm+1,5,none⟩=some (S [])/\w'.cell? ⟨bm+1,6,none⟩=some (S [])/\w'.cell? ⟨bm+1,7,none⟩=some (S u))
   (first|exact SS|with_reducible exact SO _ X|with_reducible exact SO _ X.drew|with_reducible exact SO _ (X.alloc _)|with_reducible exact SO _ (X.alloc _).drew)
   (first
    | ((with_reducible refine(Gs V4 w4 A4 B4 F4 c4 d4 g4 C6 x4 o4).mono ?_);rintro e w5 ⟨A5,B5,F5,c5,d5,g6,rfl,o5,x5,FQ⟩;replace X:Ac W3 w5:=BJ.trans x5;unfold As;first | (have AZ:=FQ _ _ Ki;have g0:=Aa (o:=0) AZ rfl;have g1:=Aa (o:=1) AZ rfl;have g2:=Aa (o:=2) AZ rfl;have Gd:=Aj (o:=0) AZ;have g4:=Aj (o:=1) AZ;have g5:=Aj (o:=2) AZ;have SS:=SO _ (BI X (Ajz _) (.slice A5 m'.pts.length c5) (.slice B5 m'.eds.length d5) (.slice F5 m'.nf g6))) | skip)
    | ((with_reducible refine(Gs V4 _ A4 B4 F4 c4 d4 g4 C6 (x4.alloc (.cells #[.slice none 0 0,.slice none 0 0,.slice none 0 0] 35)) (o4.ext ((Ac.refl w4).alloc (.cells #[.slice none 0 0,.slice none 0 0,.slice none 0 0] 35)))).mono ?_);rintro e w5 ⟨A5,B5,F5,c5,d5,g6,rfl,o5,x5,FQ⟩;have X0:=X;replace X:Ac W3 w5:=BJ.trans x5;unfold As;have AZ:=FQ _ _ (Ajy w4 (.cells #[.slice none 0 0,.slice none 0 0,.slice none 0 0] 35));have g0:=Aa (o:=0) AZ rfl;have g1:=Aa (o:=1) AZ rfl;have g2:=Aa (o:=2) AZ rfl;have Gd:=Aj (o:=0) AZ;have g4:=Aj (o:=1) AZ;have g5:=Aj (o:=2) AZ;have SS:=SO _ (BI X X0.size (.slice A5 m'.pts.length c5) (.slice B5 m'.eds.length d5) (.slice F5 m'.nf g6)))
    | ((with_reducible refine(cp _ (hW.trans X.drew)).mono ?_);rintro e w4 ⟨A4,B4,F4,c4,d4,g4,rfl,o4,x4⟩;obtain⟨V4,EE⟩:=Ajv W3.drew;rw [←EE]at o4 x4;have BJ:Ac W3 V4:=EE▸X.drew;have C6:=hW.trans BJ;replace X:Ac W3 w4:=BJ.trans x4;unfold As)
    | ((with_reducible refine(cp _ (hW.trans (X.alloc (.cells #[.slice none 0 0,.slice none 0 0,.slice none 0 0] 35)).drew)).mono ?_);rintro e w4 ⟨A4,B4,F4,c4,d4,g4,rfl,o4,x4⟩;have Ki:=(x4.block _ (Ajx hO)).trans hO;obtain⟨V4,EE⟩:=Ajv ((W3.alloc (.cells #[.slice none 0 0,.slice none 0 0,.slice none 0 0] 35)).drew);rw [←EE]at o4 x4;have BJ:Ac W3 V4:=EE▸(X.alloc _).drew;have C6:=hW.trans BJ;replace X:Ac W3 w4:=BJ.trans x4;unfold As))
  all_goals go_wp2
  all_goals go_meet
  all_goals
   first
    | exact⟨W3.heap.size,A5,B5,F5,c5,d5,g6,rfl,rfl,Ck _ _ _ AZ,(o5.low C6.size).set3 AZ _ _ _,BI X (Ajz _) _ _ _⟩
    | exact⟨w4.heap.size,A5,B5,F5,c5,d5,g6,rfl,rfl,Ck _ _ _ AZ,(o5.low C6.size).set3 AZ _ _ _,BI X X0.size _ _ _⟩
    | exact⟨w5.heap.size,A5,B5,F5,c5,d5,g6,rfl,rfl,Ajy w5 _,(o5.low C6.size).ext ((Ac.refl w5).alloc _),X.alloc _⟩
 case rest=>obtain⟨bo,A5,B5,F5,c5,d5,g5,rfl,rfl,Cw,o5,AE⟩:=hcut;have hb5:=(AE.block _ (Ajx AA)).trans AA;obtain⟨hc5,r1,r2,r3,r4⟩:=o5.rd;have cn:=xH m' fa' HM.out.2.1 HM.out.1 A5 B5 F5 c5 d5 g5 hc5 wc (hw.ext (hW.trans AE)) r1 r2 r3 r4 (by have h1:=HM.out.2.1;have h2:=HM.out.2.2.1;omega);have Gm:=hW.trans AE;clear SO X hO k0 k1 k2 y0 y1 y2 y3 y4 y5 y6 y7 o5 r1 r2 r3 r4 hc5 Cd Bh AA;unfold As at cn;have j0:wc.cell? ⟨bo,0,none⟩=some (.slice A5 m'.pts.length c5):=Aa Cw rfl;have j1:wc.cell? ⟨bo,1,none⟩=some (.slice B5 m'.eds.length d5):=Aa Cw rfl;have j2:wc.cell? ⟨bo,2,none⟩=some (.slice F5 m'.nf g5):=Aa Cw rfl;obtain⟨mm,hmm⟩:=Ajv (Iu m' fa');obtain⟨ff,FO⟩:=Ajv ((Cv m' fa').fa);rw [←hmm,←FO]at cn;have Lo:=Ajw (And.intro hmm FO);clear hmm FO;(go_wp2_with fail);(with_reducible refine cn.mono ?_);rintro e w6 ⟨A6,B6,F6,c6,d6,g6,rfl,An,r1,r2,r3,hnf6,AU,ty6⟩;have AW:=(AU.block _ (Ajx hb5)).trans hb5;have Iz:=Gm.trans AU;have g0:=Aa (o:=0) AW rfl;have g1:=Aa (o:=1) AW rfl;have g2:=Aa (o:=2) AW rfl;have g3:=Aj (o:=0) AW;have g4:=Aj (o:=1) AW;have mK:=Aj (o:=2) AW;have A7:=Ck (.slice A6 mm.pts.length c6) (.slice B6 mm.eds.length d6) (.slice F6 mm.nf g6) AW;have t1:=Aa (o:=0) A7 rfl;have t2:=Aa (o:=1) A7 rfl;have t3:=Aa (o:=2) A7 rfl;have Bg:=(((Ax.refl (fun q=>q=bm+1+1) w6).setCell (p:=⟨bm+1+1,0,none⟩) (.inl rfl) (.slice A6 mm.pts.length c6)).setCell (p:=⟨bm+1+1,1,none⟩) (.inl rfl) (.slice B6 mm.eds.length d6)).setCell (p:=⟨bm+1+1,2,none⟩) (.inl rfl) (.slice F6 mm.nf g6);have z1:=BV r1 Bg AW (fun j hj=>by obtain⟨s,h⟩:=Ht hj;rw [h];simp);have z2:=BV r2 Bg AW (fun j hj=>by obtain⟨s,h⟩:=Hp hj;rw [h];simp);have z3:=BV r3 Bg AW (fun j hj=>by rw [List.getElem_map];simp);have HF:=Ajw (And.intro An (And.intro z1 (And.intro z2 (And.intro z3 (And.intro hnf6 (And.intro (BI Iz (show w.heap.size<=bm+1+1 by rw [←PI.out];omega) (.slice A6 mm.pts.length c6) (.slice B6 mm.eds.length d6) (.slice F6 mm.nf g6)) (ty6.but Bg AW)))))));clear z1 z2 z3 Bg A7 Iz AW An r1 r2 r3 hnf6 ty6 cn Cw AE Gm AU;unfold As;go_wp2;refine bodyPost_ret (v:=.tuple #[.agg #[.slice A6 mm.pts.length c6,.slice B6 mm.eds.length d6,.slice F6 mm.nf g6],.int .i64 0]) (by simp [results,Tryz.results44,go_sem,t1,t2,t3]) rfl ?_;rw [←Lo.out.1,←Lo.out.2];exact⟨A6,B6,F6,c6,d6,g6,rfl,HF.out.1,HF.out.2.1,HF.out.2.2.1,HF.out.2.2.2.1,HF.out.2.2.2.2.1,HF.out.2.2.2.2.2⟩
end Go.Proofs.YtgnejnampofhoaaGreatDoor
