/- Y31: LGT. -/
import Derived.Test.YtjalkoacphhgdaaGreatDoorY30
set_option maxRecDepth 100000
set_option maxHeartbeats 8000000
namespace Go.Proofs.YtjalkoacphhgdaaGreatDoor
open Go.RowKit Kl
def lB(l:List Bs)(z:Int)(w:World)(e:Ending)(w':World):Prop:=∃A c,e=.returned (.tuple #[.slice A l.length c,.int .i64 z])/\Ae w' A (l.map S)/\l.length<=c/\c<=9223372036854775807/\Aa w w'
theorem AjG(l:List En)(A:Option Addr)(c:Nat)(w:World)(hr:Ae w A (Bg l))(hc:l.length<=c)(hcm:c<=9223372036854775807)(hl:∀e∈l,If e)(h:BK l≠0) :
  Calls Tryz.prog 15 #[.slice A l.length c] w (Ce (.tuple #[.slice none 0 0,.int .i64 (BK l)]) w):=by
 have ck:=Nt l A c w hr hc hcm hl;generalize BK l=z at *;have t1:(z != 0)=true:=(by rw [bne_iff_ne];exact h);clear h hr;go_enter Tryz.func15,Tryz.ntmps15;(go_wp2_with fail);(with_reducible refine ck.mono ?_);rintro e w1 ⟨rfl,hx⟩;go_wp2;go_ret2;exact⟨rfl,hx⟩
theorem PU:Ii 1 = [112,108,97,105,110]/\Ii 2 = [100,111,116,115]/\Ii 3 = [100,97,115,104,101,115]/\Ii 4 = [98,114,105,99,107,115]/\Ii 5 = [99,114,111,115,115,101,115]:=by decide +kernel
def Pl(x:En):Bs:=x.s ++ [32]++x.u ++ [32]++Ii x.p
theorem Aht(p:Int):(Ii p).length<=7:=by
 have h:=PU;by_cases h1:p=1
 ·rw [h1,h.1];decide
 by_cases h2:p=2
 ·rw [h2,h.2.1];decide
 by_cases h3:p=3
 ·rw [h3,h.2.2.1];decide
 by_cases h4:p=4
 ·rw [h4,h.2.2.2.1];decide
 have h5:Ii p=Ii 5:=(by unfold Ii;simp [h1,h2,h3,h4]);rw [h5,h.2.2.2.2];decide
theorem mQ{a:ByteArray}{b:Bs}(t:TypeId)(h:a=⟨b.toArray⟩):some (Obj.cells #[.string a] t)=some (Obj.cells #[S b] t):=by rw [h]
theorem AjH(l:List En)(A:Option Addr)(c:Nat)(w:World)(hr:Ae w A (Bg l))(hc:l.length<=c)(hcm:c<=9223372036854775807)(hl:∀e∈l,If e)(h:BK l=0) :
  Calls Tryz.prog 15 #[.slice A l.length c] w (lB (l.map Fv) 0 w):=by
 have ck:=Nt l A c w hr hc hcm hl;rw [h]at ck;have HP:=Am9 (Aa0 h);have HL:=Am9 hl;have EE:=Am9 hr;have AdT:=nH h;obtain⟨n,hn⟩:=Am8 l.length;rw [←hn]at ck hc AdT ⊢;have HN:=Am9 hn;clear h hr hn hl;go_enter Tryz.func15,Tryz.ntmps15;(go_wp2_with fail);(with_reducible refine ck.mono ?_);rintro e w1 ⟨rfl,hx⟩
 go_upto_region 6 with fail
 go_loopw [5,16] (fun ov kv wr=>∃(k:Nat),kv=.int .i64 (k:Nat)/\k<=n/\wr.ownsRow w.heap.size 9 1 ov k (((l.take k).map Fv).map S)/\Aa w wr) (fun _ kv _=>n-(intOf kv).toNat)
 case atStart=>exact⟨0,rfl,by omega,⟨rfl,.inl ⟨rfl,rfl⟩⟩,hx⟩
 case round=>
  obtain⟨k,rfl,hk,hown,Ac⟩:=hrel;by_cases hkn:k<n
  ·have Co:k<l.length:=(by rw [←HN.out];exact hkn);obtain⟨b,o,rfl,hg1,hg2,hg3,hg4⟩:=Qf (EE.out.ext Ac) Co;obtain⟨Dv,bS⟩:=HP.out l[k] (AmD Co);obtain⟨m1,m2,m3⟩:=HL.out l[k] (AmD Co);obtain⟨x,hx0⟩:=Am8 (l[k]);rw [←hx0]at hg1 hg2 hg3 hg4 Dv bS m1 m2 m3;have HX:=Am9 hx0;have hk0:(0:Int)<=(k:Int):=(by omega);have Cb:(k:Int)<(n:Int):=(by omega);have v1:IntKind.wrap .i64 ((k:Int)+1)=(k:Int)+1:=AmI _ (by omega);have hxb:=AmB wr (.cells #[S x.u,S x.s,.int .i64 x.p,S x.t] 40);have hx1:=(Aa.refl wr).alloc (.cells #[S x.u,S x.s,.int .i64 x.p,S x.t] 40);have hE:=Ac.trans hx1;have hown1:=AI hown hx1;obtain⟨oP,oc,rfl⟩:=gi (by omega) hown;clear hx0 hown Ac
   go_upto_region 8 with fail
   generalize wr.alloc (.cells #[S x.u,S x.s,.int .i64 x.p,S x.t] 40)=V at *;obtain⟨bx,Aw⟩:=Am8 wr.heap.size;rw [←Aw]at hxb ⊢;clear Aw hg1 hg2 hg3 hg4 hx1;have hbl:=AmA hxb;have f1:=Ab (o:=0) hxb rfl;have f2:=Ab (o:=1) hxb rfl;have f3:=Ab (o:=2) hxb rfl;have f4:=Ab (o:=3) hxb rfl;have hown2:=hown1;have HE:=Am9 hE;have Xz:=Am9 hown1;have hbase:=hE.size;clear hown1 hown2 hE
   go_cut [8] (fun v wx=>v=S (Pl x)/\wx.heap[bx]?=some (.cells #[S x.u,S x.s,.int .i64 x.p,S x.t] 40)/\Aa V wx)
   case first=>
    have e1:x.p=1∨x.p=2∨x.p=3∨x.p=4∨x.p=5:=(by omega);obtain⟨pb,IR⟩:=Am8 (Ii x.p);obtain⟨q,hq⟩:=Am8 x.p;have kO:=Am9 hxb;rw [←hq]at f3 e1 IR;have rz:=Am9 (show Pl x=x.s ++ [32]++x.u ++ [32]++pb by rw [IR,hq];rfl);have HQ:=Am9 IR;clear IR hq Dv bS hxb
    rcases e1 with rfl|rfl|rfl|rfl|rfl
    all_goals
     go_region
     go_wp2;go_meet;refine⟨?_,?_,?_⟩
     ·rw [rz.out,HQ.out]
      first|rw [PU.1]|rw [PU.2.1]|rw [PU.2.2.1]|rw [PU.2.2.2.1]|rw [PU.2.2.2.2]
      exact congrArg Value.string (by apply ByteArray.ext;simp)
     ·exact(((Aa.refl V).alloc _).drew.block _ (AmA kO.out)).trans kO.out
     ·exact((Aa.refl V).alloc _).drew
   case rest=>
    obtain⟨rfl,yG,hx2⟩:=hcut;have k4:=Ab (o:=3) yG rfl
    have hh:(Pl x).length<3000000:=by have:=Aht x.p;simp only [Pl,List.length_append,List.length_cons,List.length_nil];omega
    have bC:∀t:Bs,t=x.t→Fv x=Pl x++(if t = [] then [] else [58,32]++t):=(by rintro t rfl;rfl);obtain⟨hd,vE⟩:=Am8 (Pl x);rw [←vE]at hh bC ⊢;have kA:=Am9 bC;have hown2:=AI Xz.out hx2;have hb2:=AmM hbase hx2.size;have C3:=HE.out.trans hx2;clear bC vE f1 f2 f3 f4 hxb yG Dv bS;by_cases ht:x.t = []
    ·have HB:=Am9 (show Fv x=hd by rw [kA.out _ rfl,if_pos ht,List.append_nil]);rw [ht]at k4;clear ht;have E3:=(Aa.refl wc).alloc (.cells #[S hd] 9)
     go_wp2_with (at_builtin;go_loud (refine lT rfl _ _ rfl _ w.heap.size (.slice oP k oc) k ((l.take k).map Fv) rfl (AI hown2 E3) (by omega) (Fv x) wc.heap.size ((AmB _ _).trans (mQ _ (by rw [HB.out]))) rfl (AmM hb2 E3.size) ?_);intro v9 w9 hown9 hext9)
     have hnew:=hext9 w (C3.trans E3) (AmC _);rw [HX.out,←List.map_singleton (f:=Fv),←List.map_append,←AmF Co]at hown9;have CC:=Am9 (And.intro hown9 hnew);clear hown9 hnew hext9 k4;go_wp2;go_roundw
     case rel=>exact⟨k+1,by go_num,hkn,CC.out.1,CC.out.2⟩
     case measure=>simp [intOf];omega
    ·have HB:=Am9 (show Fv x=hd++([58,32]++x.t)by rw [kA.out _ rfl,if_neg ht]);have t1:(x.t == [])=false:=beq_false_of_ne ht
     have t2:x.t.isEmpty=false:=by cases hm:x.t with|nil=>exact absurd hm ht|cons a b=>rfl
     have E3:=(Aa.refl wc).alloc (.cells #[S (Fv x)] 9)
     go_wp2_with (at_builtin;go_loud (refine lT rfl _ _ rfl _ w.heap.size (.slice oP k oc) k ((l.take k).map Fv) rfl (AI hown2 ((Aa.refl wc).alloc _)) (by omega) (Fv x) wc.heap.size ((AmB _ _).trans (mQ _ (by rw [HB.out];apply ByteArray.ext;simp))) rfl (AmM hb2 ((Aa.refl wc).alloc _).size) ?_);intro v9 w9 hown9 hext9)
     have hnew:=hext9 w (C3.trans ((Aa.refl wc).alloc _)) (AmC _);rw [HX.out,←List.map_singleton (f:=Fv),←List.map_append,←AmF Co]at hown9;have CC:=Am9 (And.intro hown9 hnew);clear hown9 hnew hext9 k4 E3;go_wp2;go_roundw
     case rel=>exact⟨k+1,by go_num,hkn,CC.out.1,CC.out.2⟩
     case measure=>simp [intOf];omega
  ·have Bw:k=n:=(by omega);subst Bw;have hall:l.take k=l:=(by rw [HN.out,List.take_length]);obtain⟨A9,c9,rfl,r9,s9,t9⟩:=Ae.of_own' (by omega) hown;rw [hall]at r9;have H8:(l.map Fv).length=k:=(by rw [List.length_map,HN.out]);have AY:lB (l.map Fv) 0 w (.returned (.tuple #[.slice A9 k c9,.int .i64 0])) wr:=⟨A9,c9,by rw [H8],r9,by rw [H8];exact s9,t9,Ac⟩;have HF:=Am9 AY;clear AY r9 hown hall H8;go_wp2;go_ret2;exact HF.out
end Go.Proofs.YtjalkoacphhgdaaGreatDoor
