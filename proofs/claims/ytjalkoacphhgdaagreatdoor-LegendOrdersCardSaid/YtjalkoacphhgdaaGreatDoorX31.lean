/- X31: LGT. -/
import Derived.Test.YtjalkoacphhgdaaGreatDoorX30
set_option maxRecDepth 100000
set_option maxHeartbeats 8000000
namespace Go.Proofs.YtjalkoacphhgdaaGreatDoor
open Go.RowKit Kl
def pX(l:List Bs)(z:Int)(w:World)(e:Ending)(w':World):Prop:=∃A c,e=.returned (.tuple #[.slice A l.length c,.int .i64 z])/\Ad w' A (l.map S)/\l.length<=c/\c<=9223372036854775807/\Aa w w'
theorem QE:IC 1 = [112,108,97,105,110]/\IC 2 = [100,111,116,115]/\IC 3 = [100,97,115,104,101,115]/\IC 4 = [98,114,105,99,107,115]/\IC 5 = [99,114,111,115,115,101,115]:=by decide +kernel
def PY(x:En):Bs:=x.s ++ [32]++x.u ++ [32]++IC x.p
theorem Alb(p:Int):(IC p).length<=7:=by
 have h:=QE;by_cases h1:p=1
 ·rw [h1,h.1];decide
 by_cases h2:p=2
 ·rw [h2,h.2.1];decide
 by_cases h3:p=3
 ·rw [h3,h.2.2.1];decide
 by_cases h4:p=4
 ·rw [h4,h.2.2.2.1];decide
 have h5:IC p=IC 5:=(by unfold IC;simp [h1,h2,h3,h4]);rw [h5,h.2.2.2.2];decide
theorem rR{a:ByteArray}{b:Bs}(t:TypeId)(h:a=⟨b.toArray⟩):some (Obj.cells #[.string a] t)=some (Obj.cells #[S b] t):=by rw [h]
theorem AnL(l:List En)(A:Option Addr)(c:Nat)(w:World)(hr:Ad w A (AQ l))(hc:l.length<=c)(hcm:c<=9223372036854775807)(hl:∀e∈l,LK e)(h:DV l=0) :
  Calls Tryz.prog 15 #[.slice A l.length c] w (pX (l.map FP) 0 w):=by
 have ck:=sH l A c w hr hc hcm hl;rw [h]at ck;have HP:=AqH (Ad0 h);have HL:=AqH hl;have Ev:=AqH hr;have Ahv:=sO h;obtain⟨n,hn⟩:=AqG l.length;rw [←hn]at ck hc Ahv ⊢;have HN:=AqH hn;clear h hr hn hl;go_enter Tryz.func15,Tryz.ntmps15;(go_wp2_with fail);(with_reducible refine ck.mono ?_);rintro e w1 ⟨rfl,hx⟩
 go_upto_region 6 with fail
 go_loopw [5,16] (fun ov kv wr=>∃(k:Nat),kv=.int .i64 (k:Nat)/\k<=n/\wr.ownsRow w.heap.size 9 1 ov k (((l.take k).map FP).map S)/\Aa w wr) (fun _ kv _=>n-(intOf kv).toNat)
 case atStart=>exact⟨0,rfl,by omega,⟨rfl,.inl ⟨rfl,rfl⟩⟩,hx⟩
 case round=>
  obtain⟨k,rfl,hk,hown,Ac⟩:=hrel;by_cases hkn:k<n
  ·have Cz:k<l.length:=(by rw [←HN.out];exact hkn);obtain⟨b,o,rfl,hg1,hg2,hg3,hg4⟩:=LV (Ev.out.ext Ac) Cz;obtain⟨DG,gG⟩:=HP.out l[k] (AqL Cz);obtain⟨m1,m2,m3⟩:=HL.out l[k] (AqL Cz);obtain⟨x,hx0⟩:=AqG (l[k]);rw [←hx0]at hg1 hg2 hg3 hg4 DG gG m1 m2 m3;have HX:=AqH hx0;have hk0:(0:Int)<=(k:Int):=(by omega);have BH:(k:Int)<(n:Int):=(by omega);have v1:IntKind.wrap .i64 ((k:Int)+1)=(k:Int)+1:=AqQ _ (by omega);have hxb:=AqJ wr (.cells #[S x.u,S x.s,.int .i64 x.p,S x.t] 40);have hx1:=(Aa.refl wr).alloc (.cells #[S x.u,S x.s,.int .i64 x.p,S x.t] 40);have hE:=Ac.trans hx1;have hown1:=AC hown hx1;obtain⟨oP,oc,rfl⟩:=Uc (by omega) hown;clear hx0 hown Ac
   go_upto_region 8 with fail
   generalize wr.alloc (.cells #[S x.u,S x.s,.int .i64 x.p,S x.t] 40)=V at *;obtain⟨bx,AA⟩:=AqG wr.heap.size;rw [←AA]at hxb ⊢;clear AA hg1 hg2 hg3 hg4 hx1;have hbl:=AqI hxb;have f1:=Ab (o:=0) hxb rfl;have f2:=Ab (o:=1) hxb rfl;have f3:=Ab (o:=2) hxb rfl;have f4:=Ab (o:=3) hxb rfl;have hown2:=hown1;have HE:=AqH hE;have Rs:=AqH hown1;have hbase:=hE.size;clear hown1 hown2 hE
   go_cut [8] (fun v wx=>v=S (PY x)/\wx.heap[bx]?=some (.cells #[S x.u,S x.s,.int .i64 x.p,S x.t] 40)/\Aa V wx)
   case first=>
    have e1:x.p=1∨x.p=2∨x.p=3∨x.p=4∨x.p=5:=(by omega);obtain⟨pb,Jn⟩:=AqG (IC x.p);obtain⟨q,hq⟩:=AqG x.p;have pH:=AqH hxb;rw [←hq]at f3 e1 Jn;have HPB:=AqH (show PY x=x.s ++ [32]++x.u ++ [32]++pb by rw [Jn,hq];rfl);have HQ:=AqH Jn;clear Jn hq DG gG hxb
    rcases e1 with rfl|rfl|rfl|rfl|rfl
    all_goals
     go_region
     go_wp2;go_meet;refine⟨?_,?_,?_⟩
     ·rw [HPB.out,HQ.out]
      first|rw [QE.1]|rw [QE.2.1]|rw [QE.2.2.1]|rw [QE.2.2.2.1]|rw [QE.2.2.2.2]
      exact congrArg Value.string (by apply ByteArray.ext;simp)
     ·exact(((Aa.refl V).alloc _).drew.block _ (AqI pH.out)).trans pH.out
     ·exact((Aa.refl V).alloc _).drew
   case rest=>
    obtain⟨rfl,jw,hx2⟩:=hcut;have k4:=Ab (o:=3) jw rfl
    have hh:(PY x).length<3000000:=by have:=Alb x.p;simp only [PY,List.length_append,List.length_cons,List.length_nil];omega
    have fK:∀t:Bs,t=x.t→FP x=PY x++(if t = [] then [] else [58,32]++t):=(by rintro t rfl;rfl);obtain⟨hd,aw⟩:=AqG (PY x);rw [←aw]at hh fK ⊢;have oN:=AqH fK;have hown2:=AC Rs.out hx2;have hb2:=AqU hbase hx2.size;have CH:=HE.out.trans hx2;clear fK aw f1 f2 f3 f4 hxb jw DG gG;by_cases ht:x.t = []
    ·have HB:=AqH (show FP x=hd by rw [oN.out _ rfl,if_pos ht,List.append_nil]);rw [ht]at k4;clear ht;have E3:=(Aa.refl wc).alloc (.cells #[S hd] 9)
     go_wp2_with (at_builtin;go_loud (refine qT rfl _ _ rfl _ w.heap.size (.slice oP k oc) k ((l.take k).map FP) rfl (AC hown2 E3) (by omega) (FP x) wc.heap.size ((AqJ _ _).trans (rR _ (by rw [HB.out]))) rfl (AqU hb2 E3.size) ?_);intro v9 w9 BQ hext9)
     have hnew:=hext9 w (CH.trans E3) (AqK _);rw [HX.out,←List.map_singleton (f:=FP),←List.map_append,←AqN Cz]at BQ;have BN:=AqH (And.intro BQ hnew);clear BQ hnew hext9 k4;go_wp2;go_roundw
     case rel=>exact⟨k+1,by go_num,hkn,BN.out.1,BN.out.2⟩
     case measure=>simp [intOf];omega
    ·have HB:=AqH (show FP x=hd++([58,32]++x.t)by rw [oN.out _ rfl,if_neg ht]);have t1:(x.t == [])=false:=beq_false_of_ne ht
     have t2:x.t.isEmpty=false:=by cases hm:x.t with|nil=>exact absurd hm ht|cons a b=>rfl
     have E3:=(Aa.refl wc).alloc (.cells #[S (FP x)] 9)
     go_wp2_with (at_builtin;go_loud (refine qT rfl _ _ rfl _ w.heap.size (.slice oP k oc) k ((l.take k).map FP) rfl (AC hown2 ((Aa.refl wc).alloc _)) (by omega) (FP x) wc.heap.size ((AqJ _ _).trans (rR _ (by rw [HB.out];apply ByteArray.ext;simp))) rfl (AqU hb2 ((Aa.refl wc).alloc _).size) ?_);intro v9 w9 BQ hext9)
     have hnew:=hext9 w (CH.trans ((Aa.refl wc).alloc _)) (AqK _);rw [HX.out,←List.map_singleton (f:=FP),←List.map_append,←AqN Cz]at BQ;have BN:=AqH (And.intro BQ hnew);clear BQ hnew hext9 k4 E3;go_wp2;go_roundw
     case rel=>exact⟨k+1,by go_num,hkn,BN.out.1,BN.out.2⟩
     case measure=>simp [intOf];omega
  ·have Bt:k=n:=(by omega);subst Bt;have hall:l.take k=l:=(by rw [HN.out,List.take_length]);obtain⟨A9,c9,rfl,r9,s9,t9⟩:=Ad.of_own' (by omega) hown;rw [hall]at r9;have Gi:(l.map FP).length=k:=(by rw [List.length_map,HN.out]);have AS:pX (l.map FP) 0 w (.returned (.tuple #[.slice A9 k c9,.int .i64 0])) wr:=⟨A9,c9,by rw [Gi],r9,by rw [Gi];exact s9,t9,Ac⟩;have HF:=AqH AS;clear AS r9 hown hall Gi;go_wp2;go_ret2;exact HF.out
end Go.Proofs.YtjalkoacphhgdaaGreatDoor
