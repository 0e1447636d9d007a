/- W49. -/
import Derived.Test.YtnfedbopbcegjaaGreatDoorW46
import Derived.Test.YtnfedbopbcegjaaGreatDoorW47
import Derived.Maps.StringElems
import Derived.Test.YtnfedbopbcegjaaGreatDoorW48
set_option maxRecDepth 100000
set_option maxHeartbeats 16000000
namespace Go.Proofs.YtnfedbopbcegjaaGreatDoor
open Go.RowKit Kl Go.Maps Go.Sort Go.Shelf
theorem AbQ{base ba bm:Nat}{xs:List UInt8}{es:List (Int×Nat×UInt8)}{n:Nat}{f:Bs→Option Int}{w:World}(h:BR base ba bm xs es n f w)(l:Bs)(hl:l.length<=100000)(v:Int)(hv:f l=some v) :
  Calls Tryz.prog 14 #[Ch ba,S l] w (Cp (.tuple #[.int .i64 v,.int .i64 0]) w):=by
 have hd:=XX h l hl v hv;clear h hv;go_enter Tryz.func14,Tryz.ntmps14;(go_wp2_with fail);(with_reducible refine hd.mono ?_);rintro e w1 ⟨rfl,hx1⟩;go_wp2;go_ret2;exact⟨rfl,hx1⟩
theorem Agj{w:World}{base g cap:Nat}{x y:Int}(h:w.ownsRow base 3 1 (.slice (some ⟨g,0,none⟩) 2 cap) 2 (zs [x,y])) :
  ((w.setCell ⟨g,0,none⟩ (.int .i64 y)).setCell ⟨g,1,none⟩ (.int .i64 x)).drew.ownsRow base 3 1 (.slice (some ⟨g,0,none⟩) 2 cap) 2 (zs [y,x])
   /\w.grownBy ((w.setCell ⟨g,0,none⟩ (.int .i64 y)).setCell ⟨g,1,none⟩ (.int .i64 x)).drew (some g):=by
 have h1:=((h.stored 0 (.int .i64 y)).1.stored 1 (.int .i64 x)).1;refine⟨Am h1 (Aa.refl _).drew,⟨rfl,rfl,rfl,by simp,fun k hk hne=>?_⟩⟩;have pT:k≠g:=fun e=>hne (by rw [e]);exact(Below.heap_setCell _ _ _ k pT).trans (Below.heap_setCell _ _ _ k pT)
theorem Agi(x y:Int)(g cap base:Nat)(w:World)(h:w.ownsRow base 3 1 (.slice (some ⟨g,0,none⟩) 2 cap) 2 (zs [x,y])) :
  Calls Tryz.prog 54 #[.slice (some ⟨g,0,none⟩) 2 cap] w fun e w'=>
   e=.returned (.tuple #[])/\w'.ownsRow base 3 1 (.slice (some ⟨g,0,none⟩) 2 cap) 2 (zs [y,x])/\w.grownBy w' (some g):=by
 have f0:=h.cellAt 0 (by omega);have f1:=h.cellAt 1 (by omega);simp only [zs,List.map_cons,List.map_nil,List.getElem?_cons_zero,List.getElem?_cons_succ]at f0 f1;have z0:=h.frozenAt 0;have z1:=h.frozenAt 1;have H:=AjK h;clear h;go_enter Tryz.func54,Tryz.ntmps54;go_wp2
 go_loopw [2,3] (fun i j wr=>(i=.int .i64 0/\j=.int .i64 1/\wr=w)∨(i=.int .i64 1/\j=.int .i64 0/\wr.ownsRow base 3 1 (.slice (some ⟨g,0,none⟩) 2 cap) 2 (zs [y,x])/\w.grownBy wr (some g))) (fun i _ _=>1-(intOf i).toNat)
 case atStart=>exact .inl ⟨rfl,rfl,rfl⟩
 case round=>
  rcases hrel with⟨rfl,rfl,rfl⟩|⟨rfl,rfl,ho,hg⟩
  ·go_upto_region 3 with fail
   have HR:=AjK (Agj H.out)
   go_region
   go_wp2;go_roundw
   case rel=>exact .inr ⟨rfl,rfl,HR.out.1,HR.out.2⟩
   case measure=>simp [intOf]
  ·go_wp2
   go_end0
   exact⟨rfl,ho,hg⟩
theorem Agh(g cap:Nat)(w:World) :
  Calls Tryz.prog 54 #[.slice (some ⟨g,0,none⟩) 1 cap] w fun e w'=>e=.returned (.tuple #[])/\w'=w:=by
 go_enter Tryz.func54,Tryz.ntmps54;go_wp2
 go_loopw [2,3] (fun i j wr=>i=.int .i64 0/\j=.int .i64 0/\wr=w) (fun _ _ _=>0)
 case atStart=>exact⟨rfl,rfl,rfl⟩
 case round=>
  obtain⟨rfl,rfl,rfl⟩:=hrel;go_wp2
  go_end0
  exact⟨rfl,rfl⟩
def KY(p j:Nat):List Int:=(List.range j).map fun (i:Nat)=>(p:Int)-(i:Int)
theorem jA(p j:Nat):(KY p j).length=j:=by simp [KY]
theorem yj(p j:Nat):KY p (j+1)=KY p j ++ [(p:Int)-(j:Int)]:=by simp [KY,List.range_succ]
theorem wM{base ba bm:Nat}{xs:List UInt8}{es:List (Int×Nat×UInt8)}{n:Nat}{f:Bs→Option Int}{w:World}(h:BR base ba bm xs es n f w)(hb:∀(i:Nat) (e:Int×Nat×UInt8),es[i]?=some e→e.1=(i:Int)-1)(hl:es.length=2)(p:Nat)(hp:p<2) :
  Calls Tryz.prog 30 #[Ch ba,.int .i64 (p:Nat)] w (fun e w'=>∃g c,e=.returned (.slice (some ⟨g,0,none⟩) (p+1) c)/\Ad w' (some ⟨g,0,none⟩) (zs (if p=0 then [0] else [0,1]))/\p+1<=c/\c<=9223372036854775807/\Aa w w'):=by
 have HQ:=AjK h;have HB:=AjK hb;clear h hb;go_enter Tryz.func30,Tryz.ntmps30;go_wp2
 go_loopw [5,6] (fun o v wr=>∃j:Nat,j<=p+1/\v=.int .i64 ((p:Int)-(j:Int))/\Aa w wr/\wr.ownsRow w.heap.size 3 1 o (KY p j).length (zs (KY p j))) (fun _ v _=>((intOf v)+1).toNat)
 case atStart=>exact⟨0,by omega,by simp,Aa.refl _,World.ownsRow_nil _ _ _ _⟩
 case round=>
  obtain⟨j,hj,rfl,hx,hown⟩:=hrel;obtain⟨oA,oc,rfl,-,-,-⟩:=Ad.of_own' (by omega) hown;by_cases hlt:j<p+1
  ·have h0:(0:Int)<=(p:Int)-(j:Int):=(by omega);have h2:(p:Int)-(j:Int)<(es.length:Int):=(by omega);have e1:=(Aa.refl wr).alloc (.cells #[.int .i64 ((p:Int)-(j:Int))] 3);have B8:=hx.trans e1;have ho1:=Am hown e1;have HL:=AjK (yj p j);obtain⟨dl,H5⟩:=AjJ (KY p j);have TN:dl.length=j:=(by rw [H5,jA]);rw [←H5]at ho1 HL ⊢;clear hown hx e1 H5
   go_wp2_with (at_builtin;go_loud (refine qg rfl _ _ rfl _ w.heap.size (.slice oA dl.length oc) dl rfl ho1 (by omega) ((p:Int)-(j:Int)) wr.heap.size (AjM wr _) rfl B8.size ?_);intro v5 w5 Ib Lq;have Bw:Aa w w5:=B8.grown Lq (fun k hk=>(ho1.lt k hk).1);obtain⟨mv,ev,D,Ms,Es,-,-,hA,-,hE,-⟩:=HQ.out.ext Bw;obtain⟨be,ce,l0,rfl,⟨L,z,nt,rfl,-,-,-,-⟩,hcell⟩:=hE.get (AjS (show p-j<es.length by omega));have c0:=hcell 0 _ rfl;rw [HB.out (p-j) _ (AjS (show p-j<es.length by omega)),Nat.add_zero]at c0;have k1:w5.cell? ⟨ba,1,none⟩=some (.slice (some ⟨be,0,none⟩) es.length ce):=Ab hA rfl;have hpj:((p:Int)-(j:Int)).toNat=p-j:=by omega)
   go_roundw
   case rel=>exact⟨j+1,by omega,by go_num,Bw,by rw [HL.out,List.length_append];exact Ib⟩
   case measure=>simp [intOf];omega
  ·obtain rfl:j=p+1:=(by omega);have MI:¬(0:Int)<=(p:Int)-((p+1:Nat):Int):=(by omega);rw [jA]at hown ⊢
   obtain⟨g,hg,rfl⟩:∃g,w.heap.size<=g/\oA=some ⟨g,0,none⟩:=by
    rcases hown.2 with⟨_,h'⟩|⟨g,cap,cur,h',hb,-⟩
    ·omega
    ·simp only [Value.slice.injEq]at h';exact⟨g,hb,h'.1⟩
   obtain rfl|rfl:p=0∨p=1:=by omega
   ·have rv:=Agh g oc wr;obtain⟨A',c',e',hr,h1,h2⟩:=Ad.of_own' (by omega) hown;simp only [Value.slice.injEq]at e';obtain⟨rfl,-,rfl⟩:=e';clear hown;(go_wp2_with fail);(with_reducible refine rv.mono ?_);rintro e w5 ⟨rfl,rfl⟩;go_wp2;go_ret;exact⟨g,oc,rfl,hr,h1,h2,hx⟩
   ·have rv:=Agi 1 0 g oc w.heap.size wr hown;clear hown;(go_wp2_with fail);(with_reducible refine rv.mono ?_);rintro e w5 ⟨rfl,ho5,Lq⟩;obtain⟨A',c',e',hr,h1,h2⟩:=Ad.of_own' (by omega) ho5;simp only [Value.slice.injEq]at e';obtain⟨rfl,-,rfl⟩:=e';have Bw:Aa w w5:=hx.grown Lq (fun k hk=>by obtain rfl:=Option.some.inj hk;exact hg);clear ho5 Lq;go_wp2;go_ret;exact⟨g,oc,rfl,hr,h1,h2,Bw⟩
def II:List (Int×Nat×UInt8):=[((-1:Int),0,97),((0:Int),1,99)]
theorem jJ:∀(i:Nat) (e:Int×Nat×UInt8),II[i]?=some e→e.1=(i:Int)-1:=by
 intro i e h
 match i,h with
 | 0,h=>obtain rfl:=Option.some.inj h;rfl
 | 1,h=>obtain rfl:=Option.some.inj h;rfl
 | n+2,h=>simp [II]at h
section
variable {base ba bm : Nat} {xs : List UInt8} {n : Nat} {f : Bs → Option Int} {w : World}
theorem wK(h:BR base ba bm xs II n f w):Calls Tryz.prog 30 #[Ch ba,.int .i64 0] w (fun e w'=>∃g c,e=.returned (.slice (some ⟨g,0,none⟩) 1 c)/\Ad w' (some ⟨g,0,none⟩) (zs [0])/\1<=c/\c<=9223372036854775807/\Aa w w'):=wM h jJ rfl 0 (by decide)
theorem wL(h:BR base ba bm xs II n f w):Calls Tryz.prog 30 #[Ch ba,.int .i64 1] w (fun e w'=>∃g c,e=.returned (.slice (some ⟨g,0,none⟩) 2 c)/\Ad w' (some ⟨g,0,none⟩) (zs [0,1])/\2<=c/\c<=9223372036854775807/\Aa w w'):=wM h jJ rfl 1 (by decide)
theorem wq(h:BR base ba bm xs II n f w)(Jc:xs.length=2):Calls Tryz.prog 15 #[Ch ba,.int .i64 1,.int .i64 0] w (Cp (.tuple #[.int .i64 0,.int .i64 0]) w):=by
 have e1:=(Aa.refl w).alloc (.cells #[.int .i64 1,.int .i64 0] 3);have hl:=AjM w (.cells #[.int .i64 1,.int .i64 0] 3);have ck:=S3 (h.ext e1) [1,0] (some ⟨w.heap.size,0,none⟩) 2 (Ad.blk hl) (by decide) (by decide) (by intro e he;rw [Jc];simp at he;omega);simp only [List.length_cons,List.length_nil,Nat.zero_add,Nat.reduceAdd]at ck;have HP:=AjK (fun W (hx:Aa w W)=>And.intro (wK (h.ext hx)) (wL (h.ext hx)));clear h hl;go_enter Tryz.func15,Tryz.ntmps15;(go_wp2_with fail);(with_reducible refine ck.mono ?_);rintro e w1 ⟨rfl,hx1⟩;have p0:=(HP.out w1 (e1.trans hx1)).1;(go_wp2_with fail);(with_reducible refine p0.mono ?_);rintro e w2 ⟨g0,c0,rfl,r0,s0,t0,hx2⟩;have p1:=(HP.out w2 ((e1.trans hx1).trans hx2)).2;clear p0;(go_wp2_with fail);(with_reducible refine p1.mono ?_);rintro e w3 ⟨g1,c1,rfl,r1,s1,t1,hx3⟩;have Bd:=((e1.trans hx1).trans hx2).trans hx3;have r0:=r0.ext hx3;clear p1 hx1 hx2 hx3 ck e1 HP;obtain⟨b,o,e,hc⟩:=r1.ad (by decide);simp only [AjR,Addr.mk.injEq]at e;obtain⟨rfl,rfl,-⟩:=e;have m0:w3.cell? ⟨g1,0,none⟩=some (.int .i64 0):=hc 0 (by decide);have m1:w3.cell? ⟨g1,1,none⟩=some (.int .i64 1):=hc 1 (by decide);clear hc r1
 go_upto_region 7 with fail
 go_loopw [10,28] (fun v i wr=>v=.int .i64 0/\(∃j:Nat,j<=2/\i=.int .i64 (j:Nat))/\Aa w3 wr) (fun _ i _=>2-(intOf i).toNat)
 case atStart=>exact⟨rfl,⟨0,by omega,rfl⟩,Aa.refl _⟩
 case round=>
  obtain⟨rfl,⟨j,hj,rfl⟩,hx⟩:=hrel;have q0:=hx.cellS m0;have q1:=hx.cellS m1;obtain rfl|rfl|rfl:j=0∨j=1∨j=2:=by omega
  ·have ct:=iK [0] 0 (some ⟨g0,0,none⟩) c0 wr (r0.ext hx) s0 t0;rw [show List.any [(0:Int)] (fun y=>0 == y)=true by decide]at ct;simp only [List.length_cons,List.length_nil,Nat.zero_add]at ct;(go_wp2_with fail);(with_reducible refine ct.mono ?_);rintro e w4 ⟨rfl,Aj⟩;go_wp2;go_roundw
   case rel=>exact⟨rfl,⟨1,by omega,rfl⟩,hx.trans Aj⟩
   case measure=>simp [intOf]
  ·have ct:=iK [0] 1 (some ⟨g0,0,none⟩) c0 wr (r0.ext hx) s0 t0;rw [show List.any [(0:Int)] (fun y=>1 == y)=false by decide]at ct;simp only [List.length_cons,List.length_nil,Nat.zero_add]at ct;(go_wp2_with fail);(with_reducible refine ct.mono ?_);rintro e w4 ⟨rfl,Aj⟩;go_wp2;go_roundw
   case rel=>exact⟨rfl,⟨2,by omega,rfl⟩,hx.trans Aj⟩
   case measure=>simp [intOf]
  ·go_wp2;go_ret2;exact⟨rfl,Bd.trans hx⟩
theorem AgD(h:BR base ba bm xs II n f w)(Jc:xs.length=2):Calls Tryz.prog 16 #[Ch ba,.int .i64 0,.int .i64 1] w (fun e w'=>∃L c,e=.returned (.tuple #[.slice L 1 c,.int .i64 0])/\Aa w w'):=by
 have e1:=(Aa.refl w).alloc (.cells #[.int .i64 0,.int .i64 1] 3);have hl:=AjM w (.cells #[.int .i64 0,.int .i64 1] 3);have ck:=S3 (h.ext e1) [0,1] (some ⟨w.heap.size,0,none⟩) 2 (Ad.blk hl) (by decide) (by decide) (by intro e he;rw [Jc];simp at he;omega);simp only [List.length_cons,List.length_nil,Nat.zero_add,Nat.reduceAdd]at ck;have HP:=AjK (fun W (hx:Aa w W)=>And.intro (wK (h.ext hx)) (wL (h.ext hx)));have HQ:=AjK h;clear h hl;go_enter Tryz.func16,Tryz.ntmps16;(go_wp2_with fail);(with_reducible refine ck.mono ?_);rintro e w1 ⟨rfl,hx1⟩;have p1:=(HP.out w1 (e1.trans hx1)).2;(go_wp2_with fail);(with_reducible refine p1.mono ?_);rintro e w3 ⟨g1,c1,rfl,r1,s1,t1,hx3⟩;have Bd:=(e1.trans hx1).trans hx3;have ix:=tO [0,1] 0 (some ⟨g1,0,none⟩) c1 w3 r1 s1 t1;rw [show ER (fun y=>(0:Int) == y) [0,1]=0 by decide]at ix;simp only [List.length_cons,List.length_nil,Nat.zero_add,Nat.reduceAdd]at ix;clear p1 hx1 hx3 ck e1 HP;(go_wp2_with fail);(with_reducible refine ix.mono ?_);rintro e w4 ⟨rfl,Aj⟩;have BB:=Bd.trans Aj;obtain⟨b,o,e,hc⟩:=(r1.ext Aj).ad (by decide);simp only [AjR,Addr.mk.injEq]at e;obtain⟨rfl,rfl,-⟩:=e;have m1:w4.cell? ⟨g1,1,none⟩=some (.int .i64 1):=hc 1 (by decide);have s2:(2:Int)<=(c1:Int):=(by omega);clear hc r1 ix Bd Aj s1
 go_upto_region 10 with fail
 go_loopw [11,35] (fun v i wr=>Aa w4 wr/\((v=.slice none 0 0/\i=.int .i64 0)∨(i=.int .i64 1/\∃L c,v=.slice L 1 c))) (fun _ i _=>1-(intOf i).toNat)
 case atStart=>exact⟨Aa.refl _,.inl ⟨rfl,rfl⟩⟩
 case round=>
  obtain⟨hx,hr⟩:=hrel
  rcases hr with⟨rfl,rfl⟩|⟨rfl,L,c,rfl⟩
  ·have q1:=hx.cellS m1;obtain⟨mv,ev,D,Ms,Es,-,-,hA,-,hE,-⟩:=HQ.out.ext (BB.trans hx);obtain⟨be,ce,l0,rfl,⟨L,z,nt,rfl,hz1,hz2,hL,-⟩,hcell⟩:=hE.get (show II[1]?=some ((0:Int),1,(99:UInt8))from rfl);have c1:=hcell 1 _ rfl;have k1:wr.cell? ⟨ba,1,none⟩=some (.slice (some ⟨be,0,none⟩) II.length ce):=Ab hA rfl;obtain⟨bl,ol,rfl,kT⟩:=hL.ad (by decide)
   have hn:∀j u,(Fv (CC (R (1/2)) [99]) 1)[j]?=some u→wr.cell? ((⟨bl,ol,none⟩:Addr).add j)=some u:=fun j u hu=>by obtain⟨hj,FS⟩:=List.getElem?_eq_some_iff.1 hu;rw [Addr.add_lit,←FS];exact kT j hj
   obtain⟨i0,hi,hz0,hy1,hy2⟩:=info_parts Tryz.infoX8;have HN:=AjK hn;have HX:=AjK hx;clear hA hE hcell hL kT hn hx;rw [show II.length=2 from rfl]at k1
   go_wp2_with (at_builtin;go_loud (refine wpList_append_own _ rfl _ _ 36 rfl w4.heap.size 35 i0 (.agg #[.int .i64 0,S [],S [],S [],S [],S [],S [],S []]) 8 120 Tryz.underlying36 hi hz0 hy1 hy2 rfl (by omega) (.slice none 0 0) 0 [] rfl (World.ownsRow_nil _ _ _ _) ⟨bl,ol,none⟩ 1 z (Fv (CC (R (1/2)) [99]) 1) rfl rfl HN.out (by decide) (by unfold maxLen;omega) (by omega) HX.out.size ?_);intro v9 w9 Br AM hnil9)
   obtain⟨L9,c9,rfl,-,-,-⟩:=Ad.of_own' (by omega) Br;go_roundw
   case rel=>exact⟨HX.out.grown AM (fun k hk=>by cases hk),.inr ⟨rfl,L9,c9,rfl⟩⟩
   case measure=>simp [intOf]
  ·go_wp2;go_ret2;exact⟨L,c,rfl,BB.trans hx⟩
end
theorem fg(w:World):(zeroValue 26).run Tryz.prog w=.ok (S []) w:=by kernel_rfl
abbrev RX(w:World)(bm n:Nat)(D:DataW Unit):Prop:=w.ownsMap Tryz.prog 9 (plainElem Tryz.prog 26) bm n D
theorem az{D:DataW Unit}{f:Bs→Option Bs}(hf:CZ J5 D f)(l:Bs){v:Value}{ps:List MemPlace}(hv:plainElem (H:=Unit) Tryz.prog 26 v=some (D.atKey (.string l) (.lit (.string [])),ps)):v=S ((f l).getD []):=by
 obtain⟨s,rfl,hz,-⟩:=plainElem_string_inv Tryz.underlying26 hv;have hz':=congrArg Prod.fst hz
 have e:s.data.toList=(f l).getD []:=by
  cases hq:f l with
  | some u=>
   have:=(hf.2 l).2 u hq (.lit (.string []));simp only at hz';rw [this]at hz';unfold J5 at hz';simp only [DataW.lit.injEq,Lit.string.injEq]at hz';exact hz'.symm
  | none=>have hn:Maps.has D (.string l)=false:=(by rw [(hf.2 l).1,hq];rfl);have:=atKey_of_not_has hn (.lit (.string []));simp only at hz';rw [this]at hz';simp only [DataW.lit.injEq,Lit.string.injEq]at hz';exact hz'.symm
 rw [←e]
theorem Rv{w:World}{bm n:Nat}{D:DataW Unit}{f:Bs→Option Bs}(h:RX w bm n D)(hf:CZ J5 D f)(l:Bs)(hl:l.length<=maxLen) :
  (Instr.lookup 94 (.map (some bm)) (S l) true).run Tryz.prog w=.ok (.tuple #[S ((f l).getD []),.bool (f l).isSome]) w/\(Instr.lookup 94 (.map (some bm)) (S l) false).run Tryz.prog w=.ok (S ((f l).getD [])) w:=by
 have hz:=plainElem_string (H:=Unit) (P:=Tryz.prog) (s:=⟨([]:Bs).toArray⟩) Tryz.underlying26 (by decide);obtain⟨v,ps,hr,hv⟩:=h.look_ok (string_keyed Tryz.underlying9) Tryz.underlying94 (fg w) hz (Oy hl);obtain⟨v',ps',hr',hv'⟩:=h.lookup (string_keyed Tryz.underlying9) Tryz.underlying94 (fg w) hz (Oy hl);rw [hr,hr',(hf.2 l).1,az hf l hv,az hf l hv'];exact⟨rfl,rfl⟩
theorem aZ{w:World}{bm n:Nat}{D:DataW Unit}{f:Bs→Option Bs}(h:RX w bm n D)(hf:CZ J5 D f)(hn:n<=100)(l x:Bs)(hl:l.length<=maxLen)(hx:x.length<=maxLen) :
  ∃w' D',(Instr.mapUpdate 94 (.map (some bm)) (S l) (S x)).run Tryz.prog w=.ok () w'/\RX w' bm (n+1) D'/\CZ J5 D' (fun y=>if y=l then some x else f y)/\Maps.size D'=(if (f l).isSome then Maps.size D else Maps.size D+1)/\w.grownBy w' (some bm):=by
 obtain⟨w',hr,hown,ht⟩:=h.store (string_keyed Tryz.underlying9) Tryz.underlying94 (by unfold maxLen;omega) (Oy hl) (plainElem_string (H:=Unit) (P:=Tryz.prog) (s:=⟨x.toArray⟩) Tryz.underlying26 (by show x.toArray.size<=maxLen;simpa using hx));exact⟨w',_,hr,hown,hf.put l x,hf.size_put l _,ht.grown⟩
def Cx:Nat→List (Bs×Rat)
 | 0=>[]
 | 1=>[([97],-2)]
 | 2=>[([97],-2),([98],-2)]
 | 3=>[([97],-2),([98],-2),([99],2)]
 | _=>[([97],-2),([98],0),([99],2)]
def D6(T:List (Bs×Rat))(l:Bs):Option Bs:=match T with
 | []=>none
 | (k,v)::T=>if l=k then some (R v)else D6 T l
def Gc(w:World)(bq t:Nat):Prop:=∃n D,RX w bq n D/\n<=2*t/\CZ J5 D (D6 (Cx t))/\Maps.size D=(Cx t).length
theorem CZ.congr{D:DataW Unit}{f g:Bs→Option Bs}(h:CZ J5 D f)(e:∀l,f l=g l):CZ J5 D g:=by
 obtain rfl:f=g:=funext e;exact h
theorem zQ(t:Nat)(ht:t<4):∃(u:Bs) (p:Option Rat) (v:Rat),[[97],[98],[99],[98]][t]?=some u/\D6 (Cx t) u=p.map R/\v=p.getD 0+(if t<2 then -2 else 2)/\Sz 1 (p.getD 0)/\(∀l,(if l=u then some (R v)else D6 (Cx t) l)=D6 (Cx (t+1)) l)/\(Cx (t+1)).length=(if p.isSome then (Cx t).length else (Cx t).length+1)/\(R v).length<=1000/\(t<2→p=none):=by
 obtain rfl|rfl|rfl|rfl:t=0∨t=1∨t=2∨t=3:=by omega
 ·exact⟨[97],none,-2,rfl,rfl,by decide +kernel,⟨by decide +kernel,by decide +kernel⟩,fun l=>rfl,rfl,by decide +kernel,fun _=>rfl⟩
 ·exact⟨[98],none,-2,rfl,rfl,by decide +kernel,⟨by decide +kernel,by decide +kernel⟩,fun l=>by simp only [Cx,D6];split<;>split<;>simp_all,rfl,by decide +kernel,fun _=>rfl⟩
 ·exact⟨[99],none,2,rfl,rfl,by decide +kernel,⟨by decide +kernel,by decide +kernel⟩,fun l=>by simp only [Cx,D6];split<;>split<;>(try split)<;>simp_all,rfl,by decide +kernel,fun _=>rfl⟩
 ·exact⟨[98],some (-2),0,rfl,rfl,by decide +kernel,⟨by decide +kernel,by decide +kernel⟩,fun l=>by simp only [Cx,D6];split<;>split<;>(try split)<;>simp_all,rfl,by decide +kernel,fun h=>by omega⟩
theorem Gc.new{w:World}{bq t:Nat}(h:Gc w bq t)(ht:t<4){u:Bs}{v:Rat}(Cd:u.length<=10)(Ov:(R v).length<=1000)(hpre:D6 (Cx t) u=none)(hst:∀l,(if l=u then some (R v)else D6 (Cx t) l)=D6 (Cx (t+1)) l)(Em:(Cx (t+1)).length=(Cx t).length+1) :
  (Instr.lookup 94 (.map (some bq)) (S u) true).run Tryz.prog w=.ok (.tuple #[S [],.bool false]) w/\
  ∃w1,(Instr.mapUpdate 94 (.map (some bq)) (S u) (S [48])).run Tryz.prog w=.ok () w1/\w.grownBy w1 (some bq)/\
   ∀w2,Aa w1 w2→(Instr.lookup 94 (.map (some bq)) (S u) false).run Tryz.prog w2=.ok (S [48]) w2/\∃w3,(Instr.mapUpdate 94 (.map (some bq)) (S u) (S (R v))).run Tryz.prog w2=.ok () w3/\w2.grownBy w3 (some bq)/\Gc w3 bq (t+1):=by
 obtain⟨n,D,ho,hn,hf,hs⟩:=h;have LC:u.length<=maxLen:=(by unfold maxLen;omega);have l1:=(Rv ho hf u LC).1;rw [hpre]at l1;obtain⟨w1,D1,hr1,ho1,IW,hs1,hg1⟩:=aZ ho hf (by omega) u [48] LC (by decide);refine⟨l1,w1,hr1,hg1,fun w2 hx=>?_⟩;have ho2:=ho1.kept (DJ hx none) (by simp);have l2:=(Rv ho2 IW u LC).2;simp only [if_true,Option.getD_some]at l2;obtain⟨w3,D3,hr3,FN,hf3,hs3,hg3⟩:=aZ ho2 IW (by omega) u (R v) LC (by unfold maxLen;omega);refine⟨l2,w3,hr3,hg3,n+1+1,D3,FN,by omega,hf3.congr (fun l=>?_),?_⟩
 ·rw [←hst l];by_cases e:l=u
  ·simp [e]
  ·simp [e]
 ·rw [hs3,hs1,hpre,Em,hs];simp
theorem Gc.old{w:World}{bq t:Nat}(h:Gc w bq t)(ht:t<4){u:Bs}{q v:Rat}(Cd:u.length<=10)(Ov:(R v).length<=1000)(hpre:D6 (Cx t) u=some (R q))(hst:∀l,(if l=u then some (R v)else D6 (Cx t) l)=D6 (Cx (t+1)) l)(Em:(Cx (t+1)).length=(Cx t).length) :
  (Instr.lookup 94 (.map (some bq)) (S u) true).run Tryz.prog w=.ok (.tuple #[S (R q),.bool true]) w/\
   ∀w2,Aa w w2→(Instr.lookup 94 (.map (some bq)) (S u) false).run Tryz.prog w2=.ok (S (R q)) w2/\∃w3,(Instr.mapUpdate 94 (.map (some bq)) (S u) (S (R v))).run Tryz.prog w2=.ok () w3/\w2.grownBy w3 (some bq)/\Gc w3 bq (t+1):=by
 obtain⟨n,D,ho,hn,hf,hs⟩:=h;have LC:u.length<=maxLen:=(by unfold maxLen;omega);have l1:=(Rv ho hf u LC).1;rw [hpre]at l1;refine⟨l1,fun w2 hx=>?_⟩;have ho2:=ho.kept (DJ hx none) (by simp);have l2:=(Rv ho2 hf u LC).2;rw [hpre]at l2;obtain⟨w3,D3,hr3,FN,hf3,hs3,hg3⟩:=aZ ho2 hf (by omega) u (R v) LC (by unfold maxLen;omega);refine⟨l2,w3,hr3,hg3,n+1,D3,FN,by omega,hf3.congr hst,?_⟩;rw [hs3,hpre,Em,hs]
 rfl
theorem Gc.ext{w w':World}{bq t:Nat}(h:Gc w bq t)(hx:Aa w w'):Gc w' bq t:=by
 obtain⟨n,D,ho,hn,hf,hs⟩:=h;exact⟨n,D,ho.kept (DJ hx none) (by simp),hn,hf,hs⟩
theorem Tryz.infoGn:(Tryz.prog.info? 66).map (fun i=>(i.zero,i.size,i.bytes))=some (some (.agg #[S [],S []]),2,32):=by kernel_rfl
section
variable {ops : Array Oper} {rest : List Oper} {o : Oper} {a : Act} {Q : Exit → Act → World → Prop}
theorem eZ(hgd:o.guard=none)(s x:Operand)(ho:o.op=.call {callee:=.builtin .append,args:=#[s,x],argTypes:=#[59,59]})
  (wN:World) (base:Nat) (v:Value) (n:Nat) (l:List Value) (hs:a.eval s=v) (hown:wN.ownsRow base 66 2 v n l) (hn:n<200000) (c0 c1:Value) (o0:c0.oneCell'=true) (o1:c1.oneCell'=true)
  (g:Nat) (hb:wN.heap[g]?=some (.cells #[c0,c1] 66)) (hx:a.eval x=.slice (some ⟨g,0,none⟩) 1 1) (hbase:base<=wN.heap.size)
  (h:∀v' w',w'.ownsRow base 66 2 v' (n+1) (l ++ [c0,c1])→(∀w0,Aa w0 wN→w0.heap.size<=base→Aa w0 w')→wN.grownBy w' v.ownBlock→wpList Tryz.prog ops Q rest (a.put o.dst v') w') :
  wpList Tryz.prog ops Q (o::rest) a wN:=by
 obtain⟨i0,hi,hz0,hz1,hz2⟩:=info_parts Tryz.infoGn;exact wpList_plain hgd fun _ hK=>Ng s x 59 ho 66 i0 _ 2 32 1 Tryz.underlying59 hi hz0 hz1 hz2 rfl (by omega) (by omega) (by omega) wN base v n _ hs hown hn g _ hb (by simp) (by simp [o0,o1]) hx hbase fun v' w' h1 h2 h3=>hK _ _ (h v' w' h1 h2 h3)
end
def gN:Nat→Nat
 | 0=>0
 | 1=>1
 | 2=>1
 | _=>2
def gL:Nat→List Value
 | 0=>[]
 | 1=>[S [97],S (R (-2))]
 | 2=>[S [97],S (R (-2))]
 | _=>[S [97],S (R (-2)),S [99],S (R 2)]
open Classical in
theorem AaH{base ba bm n:Nat}{es:List (Int×Nat×UInt8)}{f:Bs→Option Int}{w:World}(hw:Ak w)(h:BR base ba bm [97,99] es n f w) :
  Calls Tryz.prog 17 #[Ch ba,.int .i64 0,.int .i64 1] w (fun e w'=>∃G c,e=.returned (.tuple #[.slice G 2 c,.int .i64 0])/\Ad w' G [S [97],S (R (-2)),S [99],S (R 2)]/\Aa w w'):=by
 have e1:=(Aa.refl w).alloc (.cells #[.int .i64 0,.int .i64 1] 3);have hl:=AjM w (.cells #[.int .i64 0,.int .i64 1] 3);have ck:=S3 (h.ext e1) [0,1] (some ⟨w.heap.size,0,none⟩) 2 (Ad.blk hl) (by decide) (by decide) (by intro e he;simp at he;simp;omega);simp only [List.length_cons,List.length_nil,Nat.zero_add,Nat.reduceAdd]at ck;have HQ:=AjK h;have hmm:=@run_makeMap Tryz.prog;clear h hl;go_enter Tryz.func17,Tryz.ntmps17;(go_wp2_with fail);(with_reducible refine ck.mono ?_);rintro e w1 ⟨rfl,hx1⟩;have q0:Gc (w1.alloc (.map #[] 0)) w1.heap.size 0:=⟨0,.map [],World.ownsMap_made _ _ _ _,by omega,(CZ.empty J5).congr (fun l=>rfl),rfl⟩;have hX:=(e1.trans hx1).alloc (.map #[] 0);have Bv:=(e1.trans hx1).size;clear ck e1 hx1
 go_upto_region 6 with fail
 generalize w1.alloc (.map #[] 0)=V at *;obtain⟨bq,hq⟩:=AjJ w1.heap.size;rw [←hq]at q0 Bv ⊢;clear hq hmm
 go_loopw [35] (fun i wr=>∃k:Nat,i=.int .i64 (k:Nat)/\k<=2/\Gc wr bq (2*k)/\Aa w wr) (fun i _=>2-(intOf i).toNat)
 case atStart=>exact⟨0,rfl,by omega,q0,hX⟩
 case round=>
  obtain⟨k,rfl,hk,Mx,Ae⟩:=hrel;clear q0 hX;obtain rfl|rfl|rfl:k=0∨k=1∨k=2:=by omega
  ·obtain⟨mv,ev,D,Ms,Es,-,-,hA,hM,-⟩:=HQ.out.ext Ae;obtain⟨b0,cm,l0,rfl,⟨A,B,F,c,d,g,rfl,A7,r1,r2,r3,-⟩,hcell⟩:=hM.get (show ([97,99]:List UInt8)[0]?=some 97 from rfl);have c0:=hcell 0 _ rfl;have c1:=hcell 1 _ rfl;have c2:=hcell 2 _ rfl;simp only [Nat.zero_mul,Nat.add_zero,Nat.zero_add]at c0 c1 c2;have k0:wr.cell? ⟨ba,0,none⟩=some (.slice (some ⟨b0,0,none⟩) 2 cm):=Ab hA rfl;have ar:=bY 97 (by decide) A B F c d g wr (hw.ext Ae) A7 r1 r2 r3;unfold AE at ar;have ix:∀W,(Instr.index 95 (.agg #[.int .i64 0,.int .i64 1]) (.int .i64 0)).run Tryz.prog W=.ok (.int .i64 0) W:=fun W=>(by kernel_rfl);clear hA hM hcell A7 r1 r2 r3;(go_wp2_with fail);(with_reducible refine ar.mono ?_);rintro e w3 ⟨ua,qa,uc,qc,rfl,ru,rq,hx3⟩;obtain⟨bu,ou,rfl,Qk⟩:=ru.ad (by simp);obtain⟨VT,ZH,rfl,GO⟩:=rq.ad (by simp);have Xf:=Mx.ext hx3;have BW:=Ae.trans hx3;obtain⟨nq,Dq,Kb,-⟩:=Xf;obtain⟨em,nm,MG⟩:=O4 Kb;have Mj:∀{W:World} {a:Addr} {v:Value},w3.cell? a=some v→Al (fun q=>q=bq) w3 W→W.cell? a=some v:=fun {W a v} h1 hb=>(World.cell?_of_block (hb.block a.block (World.block_lt_of_cell? w3 _ h1) (fun e=>by obtain⟨ab,ao,ai⟩:=a;simp only at e;subst e;unfold World.cell? at h1;rw [MG]at h1;cases h1))).trans h1;have HC:=AjK (And.intro Qk GO);have Pf:=AjK (And.intro (Mx.ext hx3) BW);clear ar ix c0 c1 c2 k0 ru rq Qk GO Kb BW hx3 Mx Ae
   go_upto_region 12 with fail
   go_loopw [56] (fun i2 wr2=>∃j:Nat,i2=.int .i64 (j:Nat)/\j<=2/\Gc wr2 bq (0+j)/\Aa w wr2/\Al (fun q=>q=bq) w3 wr2) (fun i2 _=>2-(intOf i2).toNat)
   case atStart=>exact⟨0,rfl,by omega,Pf.out.1,Pf.out.2,Al.refl _ _⟩
   case round=>
    obtain⟨j,rfl,hj,hQ,Ae,Cm⟩:=hrel;by_cases hlt:j<2
    ·obtain⟨u,p,v,hu,hpre,hv,hz,hst,Em,Ov,Ut⟩:=zQ (0+j) (by omega)
     have hu2:[[97],[98]][j]?=some u:=by rcases(show j=0∨j=1 by omega)with e|e<;>subst e<;>exact hu
     have h0:w3.cell? ⟨bu,ou+j,none⟩=some (S u):=by have h1:=HC.out.1 j (by simp;omega);have h2:([[97],[98]].map S)[j]?=some (S u):=(by rw [List.getElem?_map,hu2];rfl);rw [AjS (by simp;omega)]at h2;rw [Option.some.inj h2]at h1;exact h1
     have h1:w3.cell? ⟨VT,ZH+j,none⟩=some (S (R 2)):=by
      have h1:=HC.out.2 j (by simp;omega)
      have h2:([R 2,R 2].map S)[j]?=some (S (R 2)):=by rcases(show j=0∨j=1 by omega)with e|e<;>subst e<;>rfl
      rw [AjS (by simp;omega)]at h2;rw [Option.some.inj h2]at h1;exact h1
     have x0:=Mj h0 Cm;have Vi:=Mj h1 Cm
     have Cd:u.length<=10:=by rcases(show j=0∨j=1 by omega)with e|e<;>subst e<;>(obtain rfl:=Option.some.inj hu2;decide)
     have hj0:(0:Int)<=(j:Int):=(by omega);have Gp:(j:Int)<2:=(by omega);rw [if_pos (by omega)]at hv;have Jz:=fun W h=>LP (p.getD 0) (-2) (a:=1) (b:=1) ⟨hz,⟨by decide +kernel,by decide +kernel⟩,by decide,by decide,by decide⟩ W h;rw [←hv]at Jz;clear h0 hu hu2 hv hj hz
     cases p with
     | some q=>exact absurd (Ut (by omega)) (by simp)
     | none=>
      have ad:∀W,Ak W→Calls Tryz.prog 35 #[S [48],S (R (-2))] W (BK (R v) W):=fun W h=>by have:=Jz W h;rw [Option.getD_none,Fa]at this;exact this
      clear Jz;obtain⟨l1,w4,m1,hg4,Cj⟩:=hQ.new (by omega) Cd Ov hpre hst (by simpa using Em);have DK:=Ae.grown hg4 (fun q hq=>by obtain rfl:=Option.some.inj hq;exact Bv);have Dv:=Cm.grown hg4 (fun q hq=>by obtain rfl:=Option.some.inj hq;exact .inl rfl);have x1:=Mj h1 Dv;clear Vi Cm;have ng:=xM 2 (k:=1) (by decide) (by decide) ⟨by decide +kernel,by decide +kernel⟩ w4;(go_wp2_with fail);(with_reducible refine ng.mono ?_);rintro e w5 ⟨rfl,An⟩;clear ng;obtain⟨l2,-⟩:=Cj w5 An;have Cr:=DK.trans An;have KJ:=ad w5 (hw.ext Cr);(go_wp2_with fail);(with_reducible refine KJ.mono ?_);rintro e w6 ⟨rfl,AD⟩;obtain⟨-,w7,m7,BM,Lg⟩:=Cj w6 ((An).trans AD);have HF:=AjK (And.intro Lg (And.intro ((Cr.trans AD).grown BM (fun q hq=>by obtain rfl:=Option.some.inj hq;exact Bv)) ((Dv.ext ((An).trans AD)).grown BM (fun q hq=>by obtain rfl:=Option.some.inj hq;exact .inl rfl))));clear Cj Cr DK Dv Lg BM AD KJ l2 l1 ad;go_wp2;go_roundw
      case rel=>exact⟨j+1,by go_num,by omega,HF.out.1,HF.out.2.1,HF.out.2.2⟩
      case measure=>simp [intOf];omega
    ·obtain rfl:j=2:=(by omega);go_wp2;go_roundw
     case rel=>exact⟨1,rfl,by omega,hQ,Ae⟩
     case measure=>simp [intOf]
  ·obtain⟨mv,ev,D,Ms,Es,-,-,hA,hM,-⟩:=HQ.out.ext Ae;obtain⟨b0,cm,l0,rfl,⟨A,B,F,c,d,g,rfl,A7,r1,r2,r3,-⟩,hcell⟩:=hM.get (show ([97,99]:List UInt8)[1]?=some 99 from rfl);have c0:=hcell 0 _ rfl;have c1:=hcell 1 _ rfl;have c2:=hcell 2 _ rfl;simp only [Nat.one_mul,Nat.add_zero,Nat.reduceAdd]at c0 c1 c2;have k0:wr.cell? ⟨ba,0,none⟩=some (.slice (some ⟨b0,0,none⟩) 2 cm):=Ab hA rfl;have ar:=bY 99 (by decide) A B F c d g wr (hw.ext Ae) A7 r1 r2 r3;unfold AE at ar;have ix:∀W,(Instr.index 95 (.agg #[.int .i64 0,.int .i64 1]) (.int .i64 1)).run Tryz.prog W=.ok (.int .i64 1) W:=fun W=>(by kernel_rfl);clear hA hM hcell A7 r1 r2 r3;(go_wp2_with fail);(with_reducible refine ar.mono ?_);rintro e w3 ⟨ua,qa,uc,qc,rfl,ru,rq,hx3⟩;obtain⟨bu,ou,rfl,Qk⟩:=ru.ad (by simp);obtain⟨VT,ZH,rfl,GO⟩:=rq.ad (by simp);have Xf:=Mx.ext hx3;have BW:=Ae.trans hx3;obtain⟨nq,Dq,Kb,-⟩:=Xf;obtain⟨em,nm,MG⟩:=O4 Kb;have Mj:∀{W:World} {a:Addr} {v:Value},w3.cell? a=some v→Al (fun q=>q=bq) w3 W→W.cell? a=some v:=fun {W a v} h1 hb=>(World.cell?_of_block (hb.block a.block (World.block_lt_of_cell? w3 _ h1) (fun e=>by obtain⟨ab,ao,ai⟩:=a;simp only at e;subst e;unfold World.cell? at h1;rw [MG]at h1;cases h1))).trans h1;have HC:=AjK (And.intro Qk GO);have Pf:=AjK (And.intro (Mx.ext hx3) BW);clear ar ix c0 c1 c2 k0 ru rq Qk GO Kb BW hx3 Mx Ae
   go_upto_region 12 with fail
   go_loopw [56] (fun i2 wr2=>∃j:Nat,i2=.int .i64 (j:Nat)/\j<=2/\Gc wr2 bq (2+j)/\Aa w wr2/\Al (fun q=>q=bq) w3 wr2) (fun i2 _=>2-(intOf i2).toNat)
   case atStart=>exact⟨0,rfl,by omega,Pf.out.1,Pf.out.2,Al.refl _ _⟩
   case round=>
    obtain⟨j,rfl,hj,hQ,Ae,Cm⟩:=hrel;by_cases hlt:j<2
    ·obtain⟨u,p,v,hu,hpre,hv,hz,hst,Em,Ov,Ut⟩:=zQ (2+j) (by omega)
     have hu2:[[99],[98]][j]?=some u:=by rcases(show j=0∨j=1 by omega)with e|e<;>subst e<;>exact hu
     have h0:w3.cell? ⟨bu,ou+j,none⟩=some (S u):=by have h1:=HC.out.1 j (by simp;omega);have h2:([[99],[98]].map S)[j]?=some (S u):=(by rw [List.getElem?_map,hu2];rfl);rw [AjS (by simp;omega)]at h2;rw [Option.some.inj h2]at h1;exact h1
     have h1:w3.cell? ⟨VT,ZH+j,none⟩=some (S (R 2)):=by
      have h1:=HC.out.2 j (by simp;omega)
      have h2:([R 2,R 2].map S)[j]?=some (S (R 2)):=by rcases(show j=0∨j=1 by omega)with e|e<;>subst e<;>rfl
      rw [AjS (by simp;omega)]at h2;rw [Option.some.inj h2]at h1;exact h1
     have x0:=Mj h0 Cm;have Vi:=Mj h1 Cm
     have Cd:u.length<=10:=by rcases(show j=0∨j=1 by omega)with e|e<;>subst e<;>(obtain rfl:=Option.some.inj hu2;decide)
     have hj0:(0:Int)<=(j:Int):=(by omega);have Gp:(j:Int)<2:=(by omega);rw [if_neg (by omega)]at hv;have Jz:=fun W h=>LP (p.getD 0) (2) (a:=1) (b:=1) ⟨hz,⟨by decide +kernel,by decide +kernel⟩,by decide,by decide,by decide⟩ W h;rw [←hv]at Jz;clear h0 hu hu2 hv hj hz Ut
     cases p with
     | some q=>
      have ad:∀W,Ak W→Calls Tryz.prog 35 #[S (R q),S (R (2))] W (BK (R v) W):=Jz;clear Jz;obtain⟨l1,Cj⟩:=hQ.old (by omega) Cd Ov hpre hst (by simpa using Em);have DK:=Ae;have Dv:=Cm;have x1:=Vi;obtain⟨l2,-⟩:=Cj wr (Aa.refl wr);have Cr:=DK.trans (Aa.refl wr);have KJ:=ad wr (hw.ext Cr);(go_wp2_with fail);(with_reducible refine KJ.mono ?_);rintro e w6 ⟨rfl,AD⟩;obtain⟨-,w7,m7,BM,Lg⟩:=Cj w6 (((Aa.refl wr)).trans AD);have HF:=AjK (And.intro Lg (And.intro ((Cr.trans AD).grown BM (fun q hq=>by obtain rfl:=Option.some.inj hq;exact Bv)) ((Dv.ext (((Aa.refl wr)).trans AD)).grown BM (fun q hq=>by obtain rfl:=Option.some.inj hq;exact .inl rfl))));clear Cj Cr DK Dv Lg BM AD KJ l2 l1 ad;go_wp2;go_roundw
      case rel=>exact⟨j+1,by go_num,by omega,HF.out.1,HF.out.2.1,HF.out.2.2⟩
      case measure=>simp [intOf];omega
     | none=>
      have ad:∀W,Ak W→Calls Tryz.prog 35 #[S [48],S (R (2))] W (BK (R v) W):=fun W h=>by have:=Jz W h;rw [Option.getD_none,Fa]at this;exact this
      clear Jz;obtain⟨l1,w4,m1,hg4,Cj⟩:=hQ.new (by omega) Cd Ov hpre hst (by simpa using Em);have DK:=Ae.grown hg4 (fun q hq=>by obtain rfl:=Option.some.inj hq;exact Bv);have Dv:=Cm.grown hg4 (fun q hq=>by obtain rfl:=Option.some.inj hq;exact .inl rfl);have x1:=Mj h1 Dv;clear Vi Cm;obtain⟨l2,-⟩:=Cj w4 (Aa.refl w4);have Cr:=DK.trans (Aa.refl w4);have KJ:=ad w4 (hw.ext Cr);(go_wp2_with fail);(with_reducible refine KJ.mono ?_);rintro e w6 ⟨rfl,AD⟩;obtain⟨-,w7,m7,BM,Lg⟩:=Cj w6 (((Aa.refl w4)).trans AD);have HF:=AjK (And.intro Lg (And.intro ((Cr.trans AD).grown BM (fun q hq=>by obtain rfl:=Option.some.inj hq;exact Bv)) ((Dv.ext (((Aa.refl w4)).trans AD)).grown BM (fun q hq=>by obtain rfl:=Option.some.inj hq;exact .inl rfl))));clear Cj Cr DK Dv Lg BM AD KJ l2 l1 ad;go_wp2;go_roundw
      case rel=>exact⟨j+1,by go_num,by omega,HF.out.1,HF.out.2.1,HF.out.2.2⟩
      case measure=>simp [intOf];omega
    ·obtain rfl:j=2:=(by omega);go_wp2;go_roundw
     case rel=>exact⟨2,rfl,by omega,hQ,Ae⟩
     case measure=>simp [intOf]
  ·obtain⟨nq,Dq,Kb,hnq,oY,EC⟩:=Mx;have hsm:Maps.size Dq=3:=EC;have kc:Calls Tryz.prog 36 #[.map (some bq)] wr _:=(callsIn_wide (n:=5)).1 (Tryz.maps_Keys_36 (some bq) wr);have sc:=(callsIn_wide (n:=5)).1 (Tryz.slices_Sorted_keys_27_36 bq nq Dq _ wr Kb (by rw [hsm];decide) (by rw [hsm];decide));(go_wp2_with fail);(with_reducible refine kc.mono ?_);rintro e w4 ⟨rfl,rfl⟩;(go_wp2_with fail);(with_reducible refine sc.mono ?_);rintro e w5 ⟨v,ss,rfl,hS,hrow,hnil,hb⟩;obtain⟨v',L,e',hrow,hL,An,hl0⟩:=Pp.of Kb oY hsm hS hrow hb
   injection e' with e'
   subst e'
   obtain rfl:L = [[97],[98],[99]]:=(hl0 [[97],[98],[99]] (by decide) (fun x=>by
    simp only [D6,Cx,List.mem_cons,AjY,or_false];by_cases e1:x = [97]
    ·simp [e1]
    ·by_cases e2:x = [98]
     ·simp [e2]
     ·by_cases e3:x = [99]
      ·simp [e3]
      ·simp [e1,e2,e3])).trans (List.mergeSort_of_pairwise (by decide))
   obtain⟨lA,lc,rfl,Q0,-,-⟩:=Ad.of_own' (by omega) hrow;obtain⟨bl,ol,rfl,hcl⟩:=Q0.ad (by decide);have Bw:=Ae.trans An;have tl:∀W,Aa w5 W→∀l:Bs,l.length<=maxLen→_:=fun W hx l hl=>(Rv (Kb.kept (DJ (An.trans hx) none) (by simp)) oY l hl).2;clear kc sc hrow hnil hb hS hl0 hL Q0 Ae EC hsm
   go_upto_region 25 with fail
   go_loopw [20,92] (fun o i wr=>∃j:Nat,i=.int .i64 (j:Nat)/\j<=3/\Aa w5 wr/\wr.ownsRow w5.heap.size 66 2 o (gN j) (gL j)) (fun _ i _=>3-(intOf i).toNat)
   case atStart=>exact⟨0,rfl,by omega,Aa.refl _,World.ownsRow_nil _ _ _ _⟩
   case round=>
   obtain⟨j,rfl,hj,Ae,hown⟩:=hrel;obtain⟨oA,oc,rfl,qV,-,-⟩:=Ad.of_own' (by omega) hown;obtain rfl|rfl|rfl|rfl:j=0∨j=1∨j=2∨j=3:=by omega
   ·have g0:wr.cell? ⟨bl,ol+0,none⟩=some (S [97]):=Ae.cellS (hcl 0 (by simp));have l1:=tl wr Ae [97] (by decide);rw [show D6 (Cx 4) [97]=some (R (-2))from rfl,Option.getD_some]at l1;simp only [Nat.add_zero]at g0;have r0:(R (-2) == [48])=false:=(by decide +kernel);have ck:=US (R (-2)) (by decide +kernel) wr (hw.ext (Bw.trans Ae));rw [decide_eq_true (UM (q:=-2) (by decide +kernel) (by decide +kernel)),Gg]at ck;(go_wp2_with fail);(with_reducible refine ck.mono ?_);rintro e w6 ⟨rfl,AD⟩;have l2:=tl w6 (Ae.trans AD) [97] (by decide);rw [show D6 (Cx 4) [97]=some (R (-2))from rfl,Option.getD_some]at l2;clear ck l1
    go_wp2_with (at_builtin;go_loud (refine eZ rfl _ _ rfl _ w5.heap.size (.slice oA 0 oc) 0 ([]) rfl (Am (Am hown AD) ((Aa.refl w6).alloc _)) (by omega) (S [97]) (S (R (-2))) rfl rfl w6.heap.size (AjM w6 _) rfl ((Ae.trans AD).trans ((Aa.refl w6).alloc _)).size ?_);intro v7 w7 C4 Fj BM)
    go_roundw
    case rel=>exact⟨1,rfl,by omega,Fj w5 ((Ae.trans AD).trans ((Aa.refl w6).alloc _)) (AjN _),C4⟩
    case measure=>simp [intOf]
   ·have g0:wr.cell? ⟨bl,ol+1,none⟩=some (S [98]):=Ae.cellS (hcl 1 (by simp));have l1:=tl wr Ae [98] (by decide);rw [show D6 (Cx 4) [98]=some (R (0))from rfl,Option.getD_some]at l1;rw [Fa]at l1;go_wp2;go_roundw
    case rel=>exact⟨2,rfl,by omega,Ae,hown⟩
    case measure=>simp [intOf]
   ·have g0:wr.cell? ⟨bl,ol+2,none⟩=some (S [99]):=Ae.cellS (hcl 2 (by simp));have l1:=tl wr Ae [99] (by decide);rw [show D6 (Cx 4) [99]=some (R (2))from rfl,Option.getD_some]at l1;have r0:(R (2) == [48])=false:=(by decide +kernel);have ck:=US (R (2)) (by decide +kernel) wr (hw.ext (Bw.trans Ae));rw [decide_eq_true (UM (q:=2) (by decide +kernel) (by decide +kernel)),Gg]at ck;(go_wp2_with fail);(with_reducible refine ck.mono ?_);rintro e w6 ⟨rfl,AD⟩;have l2:=tl w6 (Ae.trans AD) [99] (by decide);rw [show D6 (Cx 4) [99]=some (R (2))from rfl,Option.getD_some]at l2;clear ck l1
    go_wp2_with (at_builtin;go_loud (refine eZ rfl _ _ rfl _ w5.heap.size (.slice oA 1 oc) 1 ([S [97],S (R (-2))]) rfl (Am (Am hown AD) ((Aa.refl w6).alloc _)) (by omega) (S [99]) (S (R (2))) rfl rfl w6.heap.size (AjM w6 _) rfl ((Ae.trans AD).trans ((Aa.refl w6).alloc _)).size ?_);intro v7 w7 C4 Fj BM)
    go_roundw
    case rel=>exact⟨3,rfl,by omega,Fj w5 ((Ae.trans AD).trans ((Aa.refl w6).alloc _)) (AjN _),C4⟩
    case measure=>simp [intOf]
   ·have HR:=AjK (And.intro qV (Bw.trans Ae));clear hown qV Ae Bw;go_wp2;go_ret2;exact⟨oA,oc,rfl,HR.out.1,HR.out.2⟩
theorem AaF(W:World):(binOp .eql 66 (.agg #[S [97],S [45,50]]) (.agg #[S [97],S [45,50]])).run Tryz.prog W=.ok (.bool true) W:=by kernel_rfl
theorem AaG(W:World):(binOp .eql 66 (.agg #[S [99],S [50]]) (.agg #[S [99],S [50]])).run Tryz.prog W=.ok (.bool true) W:=by kernel_rfl
theorem AdE(w:World)(hw:Ak w):Calls Tryz.prog 5 #[] w (BE true w):=by
 have fc:=jR w hw;go_enter Tryz.func5,Tryz.ntmps5;(go_wp2_with fail);(with_reducible refine fc.mono ?_);rintro e w1 ⟨base,ba,bm,f,hb,rfl,hx1,hA,f1,f2,-⟩;have gc:=AaH (hw.ext hx1) hA;clear fc;(go_wp2_with fail);(with_reducible refine gc.mono ?_);rintro e w2 ⟨G,c,rfl,hG,hx2⟩;have hd:=AbQ (hA.ext hx2) J3 (by decide) 0 f2;unfold J3 at hd;clear gc;(go_wp2_with fail);(with_reducible refine hd.mono ?_);rintro e w3 ⟨rfl,hx3⟩;have cm:=wq ((hA.ext hx2).ext hx3) rfl;clear hd;(go_wp2_with fail);(with_reducible refine cm.mono ?_);rintro e w4 ⟨rfl,Aj⟩;have sn:=AgD (((hA.ext hx2).ext hx3).ext Aj) rfl;clear cm;(go_wp2_with fail);(with_reducible refine sn.mono ?_);rintro e w5 ⟨L,c5,rfl,An⟩;have cn:=Wk ((((hA.ext hx2).ext hx3).ext Aj).ext An);simp only [List.length_cons,List.length_nil,Nat.zero_add,Nat.reduceAdd]at cn;clear sn;(go_wp2_with fail);(with_reducible refine cn.mono ?_);rintro e w6 ⟨rfl,AD⟩;obtain⟨bG,oG,rfl,hc⟩:=(hG.ext (((hx3.trans Aj).trans An).trans AD)).ad (by decide);have m0:w6.cell? ⟨bG,oG,none⟩=some (S [97]):=hc 0 (by decide)
 have m1:w6.cell? ⟨bG,oG+1,none⟩=some (S [45,50]):=by have:=hc 1 (by decide);rw [show R (-2) = [45,50] by decide +kernel]at this;exact this
 have m2:w6.cell? ⟨bG,oG+2,none⟩=some (S [99]):=hc 2 (by decide)
 have m3:w6.cell? ⟨bG,oG+2+1,none⟩=some (S [50]):=by have:=hc 3 (by decide);rw [show R 2 = [50] by decide +kernel]at this;exact this
 have m3':w6.cell? ⟨bG,oG+3,none⟩=some (S [50]):=m3;have q1:=AaF;have q2:=AaG;have hX:=((((hx1.trans hx2).trans hx3).trans Aj).trans An).trans AD;clear hc hG cn hA hx1 hx2 hx3 Aj An AD;go_wp2;go_ret;exact⟨by simp,hX⟩
end Go.Proofs.YtnfedbopbcegjaaGreatDoor
