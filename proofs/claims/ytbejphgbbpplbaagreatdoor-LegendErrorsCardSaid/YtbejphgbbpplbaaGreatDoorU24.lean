/- U24: ShLGT. -/
import Derived.Test.YtbejphgbbpplbaaGreatDoorU21
set_option maxRecDepth 100000
set_option maxHeartbeats 8000000
namespace Go.Proofs.YtbejphgbbpplbaaGreatDoor
open Go.RowKit Kl
def rP(l:List Bs)(z:Int)(w:World)(e:Ending)(w':World):Prop:=∃A c,e=.returned (.tuple #[.slice A l.length c,.int .i64 z])/\Ae w' A (l.map S)/\l.length<=c/\c<=9223372036854775807/\Aa w w'
theorem Rs:IM 1 = [112,108,97,105,110]/\IM 2 = [100,111,116,115]/\IM 3 = [100,97,115,104,101,115]/\IM 4 = [98,114,105,99,107,115]/\IM 5 = [99,114,111,115,115,101,115]:=by decide +kernel
def QD(x:En):Bs:=x.s ++ [32]++x.u ++ [32]++IM x.p
theorem Ame(p:Int):(IM p).length<=7:=by
 have h:=Rs;by_cases h1:p=1
 ·rw [h1,h.1];decide
 by_cases h2:p=2
 ·rw [h2,h.2.1];decide
 by_cases h3:p=3
 ·rw [h3,h.2.2.1];decide
 by_cases h4:p=4
 ·rw [h4,h.2.2.2.1];decide
 have h5:IM p=IM 5:=(by unfold IM;simp [h1,h2,h3,h4]);rw [h5,h.2.2.2.2];decide
theorem tJ{a:ByteArray}{b:Bs}(t:TypeId)(h:a=⟨b.toArray⟩):some (Obj.cells #[.string a] t)=some (Obj.cells #[S b] t):=by rw [h]
theorem AoJ(l:List En)(A:Option Addr)(c:Nat)(w:World)(hr:Ae w A (AN l))(hc:l.length<=c)(hcm:c<=9223372036854775807)(hl:∀e∈l,Ih e)(h:Dh l=0) :
  Calls Tryz.prog 37 #[.slice A l.length c] w (rP (l.map Gb) 0 w):=by
 have ck:=Qb l A c w hr hc hcm hl;rw [h]at ck;have HP:=ArW (AeH h);have HL:=ArW hl;have G7:=ArW hr;have Ai4:=uI h;obtain⟨n,hn⟩:=ArV l.length;rw [←hn]at ck hc Ai4 ⊢;have HN:=ArW hn;clear h hr hn hl;go_enter Tryz.func37,Tryz.ntmps37;(go_wp2_with fail);(with_reducible refine ck.mono ?_);rintro e w1 ⟨rfl,hx⟩
 go_upto_region 6 with fail
 go_loopw [5,16] (fun ov kv wr=>∃(k:Nat),kv=.int .i64 (k:Nat)/\k<=n/\wr.ownsRow w.heap.size 9 1 ov k (((l.take k).map Gb).map S)/\Aa w wr) (fun _ kv _=>n-(intOf kv).toNat)
 case atStart=>exact⟨0,rfl,by omega,⟨rfl,.inl ⟨rfl,rfl⟩⟩,hx⟩
 case round=>
  obtain⟨k,rfl,hk,hown,Ad⟩:=hrel;by_cases hkn:k<n
  ·have C0:k<l.length:=(by rw [←HN.out];exact hkn);obtain⟨b,o,rfl,hg1,hg2,hg3,hg4⟩:=Rz (G7.out.ext Ad) C0;obtain⟨ED,jO⟩:=HP.out l[k] (Asa C0);obtain⟨m1,m2,m3⟩:=HL.out l[k] (Asa C0);obtain⟨x,hx0⟩:=ArV (l[k]);rw [←hx0]at hg1 hg2 hg3 hg4 ED jO m1 m2 m3;have HX:=ArW hx0;have hk0:(0:Int)<=(k:Int):=(by omega);have BX:(k:Int)<(n:Int):=(by omega);have v1:IntKind.wrap .i64 ((k:Int)+1)=(k:Int)+1:=Asg _ (by omega);have hxb:=ArY wr (.cells #[S x.u,S x.s,.int .i64 x.p,S x.t] 40);have hx1:=(Aa.refl wr).alloc (.cells #[S x.u,S x.s,.int .i64 x.p,S x.t] 40);have hE:=Ad.trans hx1;have hown1:=Ao hown hx1;obtain⟨oP,oc,rfl⟩:=UE (by omega) hown;clear hx0 hown Ad
   go_upto_region 8 with fail
   generalize wr.alloc (.cells #[S x.u,S x.s,.int .i64 x.p,S x.t] 40)=V at *;obtain⟨bx,Ap⟩:=ArV wr.heap.size;rw [←Ap]at hxb ⊢;clear Ap hg1 hg2 hg3 hg4 hx1;have hbl:=ArX hxb;have f1:=Ab (o:=0) hxb rfl;have f2:=Ab (o:=1) hxb rfl;have f3:=Ab (o:=2) hxb rfl;have f4:=Ab (o:=3) hxb rfl;have hown2:=hown1;have HE:=ArW hE;have Sm:=ArW hown1;have hbase:=hE.size;clear hown1 hown2 hE
   go_cut [8] (fun v wx=>v=S (QD x)/\wx.heap[bx]?=some (.cells #[S x.u,S x.s,.int .i64 x.p,S x.t] 40)/\Aa V wx)
   case first=>
    have e1:x.p=1∨x.p=2∨x.p=3∨x.p=4∨x.p=5:=(by omega);obtain⟨pb,Ic⟩:=ArV (IM x.p);obtain⟨q,hq⟩:=ArV x.p;have qT:=ArW hxb;rw [←hq]at f3 e1 Ic;have HPB:=ArW (show QD x=x.s ++ [32]++x.u ++ [32]++pb by rw [Ic,hq];rfl);have HQ:=ArW Ic;clear Ic hq ED jO hxb
    rcases e1 with rfl|rfl|rfl|rfl|rfl
    all_goals
     go_region
     go_wp2;go_meet;refine⟨?_,?_,?_⟩
     ·rw [HPB.out,HQ.out]
      first|rw [Rs.1]|rw [Rs.2.1]|rw [Rs.2.2.1]|rw [Rs.2.2.2.1]|rw [Rs.2.2.2.2]
      exact congrArg Value.string (by apply ByteArray.ext;simp)
     ·exact(((Aa.refl V).alloc _).drew.block _ (ArX qT.out)).trans qT.out
     ·exact((Aa.refl V).alloc _).drew
   case rest=>
    obtain⟨rfl,pw,hx2⟩:=hcut;have k4:=Ab (o:=3) pw rfl
    have hh:(QD x).length<3000000:=by have:=Ame x.p;simp only [QD,List.length_append,List.length_cons,List.length_nil];omega
    have iZ:∀t:Bs,t=x.t→Gb x=QD x++(if t = [] then [] else [58,32]++t):=(by rintro t rfl;rfl);obtain⟨hd,iq⟩:=ArV (QD x);rw [←iq]at hh iZ ⊢;have qF:=ArW iZ;have hown2:=Ao Sm.out hx2;have hb2:=Asl hbase hx2.size;have BN:=HE.out.trans hx2;clear iZ iq f1 f2 f3 f4 hxb pw ED jO;by_cases ht:x.t = []
    ·have HB:=ArW (show Gb x=hd by rw [qF.out _ rfl,if_pos ht,List.append_nil]);rw [ht]at k4;clear ht;have E3:=(Aa.refl wc).alloc (.cells #[S hd] 9)
     go_wp2_with (at_builtin;go_loud (refine aF rfl _ _ rfl _ w.heap.size (.slice oP k oc) k ((l.take k).map Gb) rfl (Ao hown2 E3) (by omega) (Gb x) wc.heap.size ((ArY _ _).trans (tJ _ (by rw [HB.out]))) rfl (Asl hb2 E3.size) ?_);intro v9 w9 Bc Bu)
     have hnew:=Bu w (BN.trans E3) (ArZ _);rw [HX.out,←List.map_singleton (f:=Gb),←List.map_append,←Asd C0]at Bc;have AP:=ArW (And.intro Bc hnew);clear Bc hnew Bu k4;go_wp2;go_roundw
     case rel=>exact⟨k+1,by go_num,hkn,AP.out.1,AP.out.2⟩
     case measure=>simp [intOf];omega
    ·have HB:=ArW (show Gb x=hd++([58,32]++x.t)by rw [qF.out _ rfl,if_neg ht]);have t1:(x.t == [])=false:=beq_false_of_ne ht
     have t2:x.t.isEmpty=false:=by cases hm:x.t with|nil=>exact absurd hm ht|cons a b=>rfl
     have E3:=(Aa.refl wc).alloc (.cells #[S (Gb x)] 9)
     go_wp2_with (at_builtin;go_loud (refine aF rfl _ _ rfl _ w.heap.size (.slice oP k oc) k ((l.take k).map Gb) rfl (Ao hown2 ((Aa.refl wc).alloc _)) (by omega) (Gb x) wc.heap.size ((ArY _ _).trans (tJ _ (by rw [HB.out];apply ByteArray.ext;simp))) rfl (Asl hb2 ((Aa.refl wc).alloc _).size) ?_);intro v9 w9 Bc Bu)
     have hnew:=Bu w (BN.trans ((Aa.refl wc).alloc _)) (ArZ _);rw [HX.out,←List.map_singleton (f:=Gb),←List.map_append,←Asd C0]at Bc;have AP:=ArW (And.intro Bc hnew);clear Bc hnew Bu k4 E3;go_wp2;go_roundw
     case rel=>exact⟨k+1,by go_num,hkn,AP.out.1,AP.out.2⟩
     case measure=>simp [intOf];omega
  ·have Bf:k=n:=(by omega);subst Bf;have hall:l.take k=l:=(by rw [HN.out,List.take_length]);obtain⟨A9,c9,rfl,r9,s9,t9⟩:=Ae.of_own' (by omega) hown;rw [hall]at r9;have ID:(l.map Gb).length=k:=(by rw [List.length_map,HN.out]);have Ay:rP (l.map Gb) 0 w (.returned (.tuple #[.slice A9 k c9,.int .i64 0])) wr:=⟨A9,c9,by rw [ID],r9,by rw [ID];exact s9,t9,Ad⟩;have HF:=ArW Ay;clear Ay r9 hown hall ID;go_wp2;go_ret2;exact HF.out
end Go.Proofs.YtbejphgbbpplbaaGreatDoor
