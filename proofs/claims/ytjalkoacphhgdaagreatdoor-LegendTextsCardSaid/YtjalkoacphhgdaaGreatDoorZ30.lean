/- Z30: LGT. -/
import Derived.Test.YtjalkoacphhgdaaGreatDoorZ29
set_option maxRecDepth 100000
set_option maxHeartbeats 8000000
namespace Go.Proofs.YtjalkoacphhgdaaGreatDoor
open Go.RowKit Kl
def lW(l:List Bs)(z:Int)(w:World)(e:Ending)(w':World):Prop:=∃A c,e=.returned (.tuple #[.slice A l.length c,.int .i64 z])/\Ae w' A (l.map S)/\l.length<=c/\c<=9223372036854775807/\Aa w w'
theorem IW:GT 1 = [112,108,97,105,110]/\GT 2 = [100,111,116,115]/\GT 3 = [100,97,115,104,101,115]/\GT 4 = [98,114,105,99,107,115]/\GT 5 = [99,114,111,115,115,101,115]:=by decide +kernel
def H6(x:En):Bs:=x.s ++ [32]++x.u ++ [32]++GT x.p
theorem jk(p:Int):(GT p).length<=7:=by
 have h:=IW;by_cases h1:p=1
 ·rw [h1,h.1];decide
 by_cases h2:p=2
 ·rw [h2,h.2.1];decide
 by_cases h3:p=3
 ·rw [h3,h.2.2.1];decide
 by_cases h4:p=4
 ·rw [h4,h.2.2.2.1];decide
 have h5:GT p=GT 5:=(by unfold GT;simp [h1,h2,h3,h4]);rw [h5,h.2.2.2.2];decide
theorem Uq{a:ByteArray}{b:Bs}(t:TypeId)(h:a=⟨b.toArray⟩):some (Obj.cells #[.string a] t)=some (Obj.cells #[S b] t):=by rw [h]
theorem ou(l:List En)(A:Option Addr)(c:Nat)(w:World)(hr:Ae w A (B5 l))(hc:l.length<=c)(hcm:c<=9223372036854775807)(hl:∀e∈l,MD e)(h:DN l=0) :
  Calls Tryz.prog 15 #[.slice A l.length c] w (lW (l.map Ci) 0 w):=by
 have ck:=YJ l A c w hr hc hcm hl;rw [h]at ck;have HP:=Anl (oH h);have HL:=Anl hl;have Fb:=Anl hr;have xB:=oG h;obtain⟨n,hn⟩:=Ank l.length;rw [←hn]at ck hc xB ⊢;have HN:=Anl hn;clear h hr hn hl;go_enter Tryz.func15,Tryz.ntmps15;(go_wp2_with fail);(with_reducible refine ck.mono ?_);rintro e w1 ⟨rfl,hx⟩
 go_upto_region 6 with fail
 go_loopw [5,16] (fun ov kv wr=>∃(k:Nat),kv=.int .i64 (k:Nat)/\k<=n/\wr.ownsRow w.heap.size 9 1 ov k (((l.take k).map Ci).map S)/\Aa w wr) (fun _ kv _=>n-(intOf kv).toNat)
 case atStart=>exact⟨0,rfl,by omega,⟨rfl,.inl ⟨rfl,rfl⟩⟩,hx⟩
 case round=>
  obtain⟨k,rfl,hk,hown,Ac⟩:=hrel;by_cases hkn:k<n
  ·have BL:k<l.length:=(by rw [←HN.out];exact hkn);obtain⟨b,o,rfl,hg1,hg2,hg3,hg4⟩:=Qb (Fb.out.ext Ac) BL;obtain⟨C5,NM⟩:=HP.out l[k] (Anp BL);obtain⟨m1,m2,m3⟩:=HL.out l[k] (Anp BL);obtain⟨x,hx0⟩:=Ank (l[k]);rw [←hx0]at hg1 hg2 hg3 hg4 C5 NM m1 m2 m3;have HX:=Anl hx0;have hk0:(0:Int)<=(k:Int):=(by omega);have Ca:(k:Int)<(n:Int):=(by omega);have v1:IntKind.wrap .i64 ((k:Int)+1)=(k:Int)+1:=Anu _ (by omega);have hxb:=Ann wr (.cells #[S x.u,S x.s,.int .i64 x.p,S x.t] 40);have hx1:=(Aa.refl wr).alloc (.cells #[S x.u,S x.s,.int .i64 x.p,S x.t] 40);have hE:=Ac.trans hx1;have hown1:=Az hown hx1;obtain⟨oP,oc,rfl⟩:=WQ (by omega) hown;clear hx0 hown Ac
   go_upto_region 8 with fail
   generalize wr.alloc (.cells #[S x.u,S x.s,.int .i64 x.p,S x.t] 40)=V at *;obtain⟨bx,Aw⟩:=Ank wr.heap.size;rw [←Aw]at hxb ⊢;clear Aw hg1 hg2 hg3 hg4 hx1;have hbl:=Anm hxb;have f1:=Ab (o:=0) hxb rfl;have f2:=Ab (o:=1) hxb rfl;have f3:=Ab (o:=2) hxb rfl;have f4:=Ab (o:=3) hxb rfl;have hown2:=hown1;have HE:=Anl hE;have MZ:=Anl hown1;have hbase:=hE.size;clear hown1 hown2 hE
   go_cut [8] (fun v wx=>v=S (H6 x)/\wx.heap[bx]?=some (.cells #[S x.u,S x.s,.int .i64 x.p,S x.t] 40)/\Aa V wx)
   case first=>
    have e1:x.p=1∨x.p=2∨x.p=3∨x.p=4∨x.p=5:=(by omega);obtain⟨pb,Fl⟩:=Ank (GT x.p);obtain⟨q,hq⟩:=Ank x.p;have Nb:=Anl hxb;rw [←hq]at f3 e1 Fl;have XP:=Anl (show H6 x=x.s ++ [32]++x.u ++ [32]++pb by rw [Fl,hq];rfl);have HQ:=Anl Fl;clear Fl hq C5 NM hxb
    rcases e1 with rfl|rfl|rfl|rfl|rfl
    all_goals
     go_region
     go_wp2;go_meet;refine⟨?_,?_,?_⟩
     ·rw [XP.out,HQ.out]
      first|rw [IW.1]|rw [IW.2.1]|rw [IW.2.2.1]|rw [IW.2.2.2.1]|rw [IW.2.2.2.2]
      exact congrArg Value.string (by apply ByteArray.ext;simp)
     ·exact(((Aa.refl V).alloc _).drew.block _ (Anm Nb.out)).trans Nb.out
     ·exact((Aa.refl V).alloc _).drew
   case rest=>
    obtain⟨rfl,SG,hx2⟩:=hcut;have k4:=Ab (o:=3) SG rfl
    have hh:(H6 x).length<3000000:=by have:=jk x.p;simp only [H6,List.length_append,List.length_cons,List.length_nil];omega
    have NK:∀t:Bs,t=x.t→Ci x=H6 x++(if t = [] then [] else [58,32]++t):=(by rintro t rfl;rfl);obtain⟨hd,Sb⟩:=Ank (H6 x);rw [←Sb]at hh NK ⊢;have Qw:=Anl NK;have hown2:=Az MZ.out hx2;have hb2:=Anz hbase hx2.size;have Ck:=HE.out.trans hx2;clear NK Sb f1 f2 f3 f4 hxb SG C5 NM;by_cases ht:x.t = []
    ·have HB:=Anl (show Ci x=hd by rw [Qw.out _ rfl,if_pos ht,List.append_nil]);rw [ht]at k4;clear ht;have E3:=(Aa.refl wc).alloc (.cells #[S hd] 9)
     go_wp2_with (at_builtin;go_loud (refine Ui rfl _ _ rfl _ w.heap.size (.slice oP k oc) k ((l.take k).map Ci) rfl (Az hown2 E3) (by omega) (Ci x) wc.heap.size ((Ann _ _).trans (Uq _ (by rw [HB.out]))) rfl (Anz hb2 E3.size) ?_);intro v9 w9 hown9 hext9)
     have hnew:=hext9 w (Ck.trans E3) (Ano _);rw [HX.out,←List.map_singleton (f:=Ci),←List.map_append,←Anr BL]at hown9;have BI:=Anl (And.intro hown9 hnew);clear hown9 hnew hext9 k4;go_wp2;go_roundw
     case rel=>exact⟨k+1,by go_num,hkn,BI.out.1,BI.out.2⟩
     case measure=>simp [intOf];omega
    ·have HB:=Anl (show Ci x=hd++([58,32]++x.t)by rw [Qw.out _ rfl,if_neg ht]);have t1:(x.t == [])=false:=beq_false_of_ne ht
     have t2:x.t.isEmpty=false:=by cases hm:x.t with|nil=>exact absurd hm ht|cons a b=>rfl
     have E3:=(Aa.refl wc).alloc (.cells #[S (Ci x)] 9)
     go_wp2_with (at_builtin;go_loud (refine Ui rfl _ _ rfl _ w.heap.size (.slice oP k oc) k ((l.take k).map Ci) rfl (Az hown2 ((Aa.refl wc).alloc _)) (by omega) (Ci x) wc.heap.size ((Ann _ _).trans (Uq _ (by rw [HB.out];apply ByteArray.ext;simp))) rfl (Anz hb2 ((Aa.refl wc).alloc _).size) ?_);intro v9 w9 hown9 hext9)
     have hnew:=hext9 w (Ck.trans ((Aa.refl wc).alloc _)) (Ano _);rw [HX.out,←List.map_singleton (f:=Ci),←List.map_append,←Anr BL]at hown9;have BI:=Anl (And.intro hown9 hnew);clear hown9 hnew hext9 k4 E3;go_wp2;go_roundw
     case rel=>exact⟨k+1,by go_num,hkn,BI.out.1,BI.out.2⟩
     case measure=>simp [intOf];omega
  ·have Bu:k=n:=(by omega);subst Bu;have hall:l.take k=l:=(by rw [HN.out,List.take_length]);obtain⟨A9,c9,rfl,r9,s9,t9⟩:=Ae.of_own' (by omega) hown;rw [hall]at r9;have DW:(l.map Ci).length=k:=(by rw [List.length_map,HN.out]);have AS:lW (l.map Ci) 0 w (.returned (.tuple #[.slice A9 k c9,.int .i64 0])) wr:=⟨A9,c9,by rw [DW],r9,by rw [DW];exact s9,t9,Ac⟩;have HF:=Anl AS;clear AS r9 hown hall DW;go_wp2;go_ret2;exact HF.out
end Go.Proofs.YtjalkoacphhgdaaGreatDoor
