/- V27: LGT. -/
import Derived.Test.YtbejphgbbpplbaaGreatDoorV26
set_option maxRecDepth 100000
set_option maxHeartbeats 8000000
namespace Go.Proofs.YtbejphgbbpplbaaGreatDoor
open Go.RowKit Kl
def lR(l:List Bs)(z:Int)(w:World)(e:Ending)(w':World):Prop:=∃A c,e=.returned (.tuple #[.slice A l.length c,.int .i64 z])/\Ae w' A (l.map S)/\l.length<=c/\c<=9223372036854775807/\Aa w w'
theorem PW:Ij 1 = [112,108,97,105,110]/\Ij 2 = [100,111,116,115]/\Ij 3 = [100,97,115,104,101,115]/\Ij 4 = [98,114,105,99,107,115]/\Ij 5 = [99,114,111,115,115,101,115]:=by decide +kernel
def Pl(x:En):Bs:=x.s ++ [32]++x.u ++ [32]++Ij x.p
theorem AhK(p:Int):(Ij p).length<=7:=by
 have h:=PW;by_cases h1:p=1
 ·rw [h1,h.1];decide
 by_cases h2:p=2
 ·rw [h2,h.2.1];decide
 by_cases h3:p=3
 ·rw [h3,h.2.2.1];decide
 by_cases h4:p=4
 ·rw [h4,h.2.2.2.1];decide
 have h5:Ij p=Ij 5:=(by unfold Ij;simp [h1,h2,h3,h4]);rw [h5,h.2.2.2.2];decide
theorem Y0{a:ByteArray}{b:Bs}(t:TypeId)(h:a=⟨b.toArray⟩):some (Obj.cells #[.string a] t)=some (Obj.cells #[S b] t):=by rw [h]
theorem Aka(l:List En)(A:Option Addr)(c:Nat)(w:World)(hr:Ae w A (Bz l))(hc:l.length<=c)(hcm:c<=9223372036854775807)(hl:∀e∈l,PL e)(h:EN l=0) :
  Calls Tryz.prog 37 #[.slice A l.length c] w (lR (l.map Fy) 0 w):=by
 have ck:=YB l A c w hr hc hcm hl;rw [h]at ck;have HP:=AmU (AaT h);have HL:=AmU hl;have Gg:=AmU hr;have Aeu:=nV h;obtain⟨n,hn⟩:=AmT l.length;rw [←hn]at ck hc Aeu ⊢;have HN:=AmU hn;clear h hr hn hl;go_enter Tryz.func37,Tryz.ntmps37;(go_wp2_with fail);(with_reducible refine ck.mono ?_);rintro e w1 ⟨rfl,hx⟩
 go_upto_region 6 with fail
 go_loopw [5,16] (fun ov kv wr=>∃(k:Nat),kv=.int .i64 (k:Nat)/\k<=n/\wr.ownsRow w.heap.size 9 1 ov k (((l.take k).map Fy).map S)/\Aa w wr) (fun _ kv _=>n-(intOf kv).toNat)
 case atStart=>exact⟨0,rfl,by omega,⟨rfl,.inl ⟨rfl,rfl⟩⟩,hx⟩
 case round=>
  obtain⟨k,rfl,hk,hown,Ac⟩:=hrel;by_cases hkn:k<n
  ·have CN:k<l.length:=(by rw [←HN.out];exact hkn);obtain⟨b,o,rfl,hg1,hg2,hg3,hg4⟩:=Tp (Gg.out.ext Ac) CN;obtain⟨Dx,cL⟩:=HP.out l[k] (AmY CN);obtain⟨m1,m2,m3⟩:=HL.out l[k] (AmY CN);obtain⟨x,hx0⟩:=AmT (l[k]);rw [←hx0]at hg1 hg2 hg3 hg4 Dx cL m1 m2 m3;have HX:=AmU hx0;have hk0:(0:Int)<=(k:Int):=(by omega);have Ci:(k:Int)<(n:Int):=(by omega);have v1:IntKind.wrap .i64 ((k:Int)+1)=(k:Int)+1:=Ane _ (by omega);have hxb:=AmW wr (.cells #[S x.u,S x.s,.int .i64 x.p,S x.t] 40);have hx1:=(Aa.refl wr).alloc (.cells #[S x.u,S x.s,.int .i64 x.p,S x.t] 40);have hE:=Ac.trans hx1;have hown1:=AH hown hx1;obtain⟨oP,oc,rfl⟩:=fZ (by omega) hown;clear hx0 hown Ac
   go_upto_region 8 with fail
   generalize wr.alloc (.cells #[S x.u,S x.s,.int .i64 x.p,S x.t] 40)=V at *;obtain⟨bx,Ay⟩:=AmT wr.heap.size;rw [←Ay]at hxb ⊢;clear Ay hg1 hg2 hg3 hg4 hx1;have hbl:=AmV hxb;have f1:=Ab (o:=0) hxb rfl;have f2:=Ab (o:=1) hxb rfl;have f3:=Ab (o:=2) hxb rfl;have f4:=Ab (o:=3) hxb rfl;have hown2:=hown1;have HE:=AmU hE;have XF:=AmU hown1;have hbase:=hE.size;clear hown1 hown2 hE
   go_cut [8] (fun v wx=>v=S (Pl x)/\wx.heap[bx]?=some (.cells #[S x.u,S x.s,.int .i64 x.p,S x.t] 40)/\Aa V wx)
   case first=>
    have e1:x.p=1∨x.p=2∨x.p=3∨x.p=4∨x.p=5:=(by omega);obtain⟨pb,IR⟩:=AmT (Ij x.p);obtain⟨q,hq⟩:=AmT x.p;have lD:=AmU hxb;rw [←hq]at f3 e1 IR;have vn:=AmU (show Pl x=x.s ++ [32]++x.u ++ [32]++pb by rw [IR,hq];rfl);have HQ:=AmU IR;clear IR hq Dx cL hxb
    rcases e1 with rfl|rfl|rfl|rfl|rfl
    all_goals
     go_region
     go_wp2;go_meet;refine⟨?_,?_,?_⟩
     ·rw [vn.out,HQ.out]
      first|rw [PW.1]|rw [PW.2.1]|rw [PW.2.2.1]|rw [PW.2.2.2.1]|rw [PW.2.2.2.2]
      exact congrArg Value.string (by apply ByteArray.ext;simp)
     ·exact(((Aa.refl V).alloc _).drew.block _ (AmV lD.out)).trans lD.out
     ·exact((Aa.refl V).alloc _).drew
   case rest=>
    obtain⟨rfl,zE,hx2⟩:=hcut;have k4:=Ab (o:=3) zE rfl
    have hh:(Pl x).length<3000000:=by have:=AhK x.p;simp only [Pl,List.length_append,List.length_cons,List.length_nil];omega
    have bO:∀t:Bs,t=x.t→Fy x=Pl x++(if t = [] then [] else [58,32]++t):=(by rintro t rfl;rfl);obtain⟨hd,wF⟩:=AmT (Pl x);rw [←wF]at hh bO ⊢;have kR:=AmU bO;have hown2:=AH XF.out hx2;have hb2:=Ani hbase hx2.size;have C7:=HE.out.trans hx2;clear bO wF f1 f2 f3 f4 hxb zE Dx cL;by_cases ht:x.t = []
    ·have HB:=AmU (show Fy x=hd by rw [kR.out _ rfl,if_pos ht,List.append_nil]);rw [ht]at k4;clear ht;have E3:=(Aa.refl wc).alloc (.cells #[S hd] 9)
     go_wp2_with (at_builtin;go_loud (refine Yq rfl _ _ rfl _ w.heap.size (.slice oP k oc) k ((l.take k).map Fy) rfl (AH hown2 E3) (by omega) (Fy x) wc.heap.size ((AmW _ _).trans (Y0 _ (by rw [HB.out]))) rfl (Ani hb2 E3.size) ?_);intro v9 w9 hown9 hext9)
     have hnew:=hext9 w (C7.trans E3) (AmX _);rw [HX.out,←List.map_singleton (f:=Fy),←List.map_append,←Ana CN]at hown9;have Cu:=AmU (And.intro hown9 hnew);clear hown9 hnew hext9 k4;go_wp2;go_roundw
     case rel=>exact⟨k+1,by go_num,hkn,Cu.out.1,Cu.out.2⟩
     case measure=>simp [intOf];omega
    ·have HB:=AmU (show Fy x=hd++([58,32]++x.t)by rw [kR.out _ rfl,if_neg ht]);have t1:(x.t == [])=false:=beq_false_of_ne ht
     have t2:x.t.isEmpty=false:=by cases hm:x.t with|nil=>exact absurd hm ht|cons a b=>rfl
     have E3:=(Aa.refl wc).alloc (.cells #[S (Fy x)] 9)
     go_wp2_with (at_builtin;go_loud (refine Yq rfl _ _ rfl _ w.heap.size (.slice oP k oc) k ((l.take k).map Fy) rfl (AH hown2 ((Aa.refl wc).alloc _)) (by omega) (Fy x) wc.heap.size ((AmW _ _).trans (Y0 _ (by rw [HB.out];apply ByteArray.ext;simp))) rfl (Ani hb2 ((Aa.refl wc).alloc _).size) ?_);intro v9 w9 hown9 hext9)
     have hnew:=hext9 w (C7.trans ((Aa.refl wc).alloc _)) (AmX _);rw [HX.out,←List.map_singleton (f:=Fy),←List.map_append,←Ana CN]at hown9;have Cu:=AmU (And.intro hown9 hnew);clear hown9 hnew hext9 k4 E3;go_wp2;go_roundw
     case rel=>exact⟨k+1,by go_num,hkn,Cu.out.1,Cu.out.2⟩
     case measure=>simp [intOf];omega
  ·have B6:k=n:=(by omega);subst B6;have hall:l.take k=l:=(by rw [HN.out,List.take_length]);obtain⟨A9,c9,rfl,r9,s9,t9⟩:=Ae.of_own' (by omega) hown;rw [hall]at r9;have Ib:(l.map Fy).length=k:=(by rw [List.length_map,HN.out]);have AX:lR (l.map Fy) 0 w (.returned (.tuple #[.slice A9 k c9,.int .i64 0])) wr:=⟨A9,c9,by rw [Ib],r9,by rw [Ib];exact s9,t9,Ac⟩;have HF:=AmU AX;clear AX r9 hown hall Ib;go_wp2;go_ret2;exact HF.out
end Go.Proofs.YtbejphgbbpplbaaGreatDoor
