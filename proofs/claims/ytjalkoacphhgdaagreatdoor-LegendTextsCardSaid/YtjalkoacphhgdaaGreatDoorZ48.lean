/- Z48: LGA. -/
import Derived.Test.YtjalkoacphhgdaaGreatDoorZ47
import Derived.Test.YtjalkoacphhgdaaGreatDoorZ42
set_option maxRecDepth 100000
set_option maxHeartbeats 16000000
namespace Go.Proofs.YtjalkoacphhgdaaGreatDoor
open Go.RowKit Kl
theorem Ac4(z:Int):Rk z=.tuple #[.int .i64 (max z 0),.bool (decide (0<=z)),.int .i64 0]:=by
 unfold Rk;by_cases h:0<=z
 ·rw [if_pos h,Int.max_eq_left h,decide_eq_true h]
 ·rw [if_neg h,Int.max_eq_right (by omega),decide_eq_false h]
theorem AgW{u:Bs}(h:nameB u=true):u.length<=32:=by
 cases u with
 | nil=>simp
 | cons b l=>have h2:(decide (l.length<32)&&(GR b&&l.all (fun c=>GR c||Kq c)))=true:=h;simp only [Bool.and_eq_true,decide_eq_true_eq]at h2;simp only [List.length_cons];omega
theorem Agp{e:En}(h:Jj e):MD e:=by
 have h1:=AgW h.nm;have h2:=h.one;have h3:=h.ln;exact⟨by omega,by omega,by omega⟩
theorem AgK(d:List Dr):∀e∈IT d,Jj e:=(eV (d.take 8) [] (by simp) List.Pairwise.nil).1
theorem Aku(d:List Dr)(A:Option Addr)(c:Nat)(un:Bs)(w:World)(hw:An w)(hr:Ae w A (G9 d))(hc:d.length<=c)(hcm:c<=9223372036854775807) :
  Calls Tryz.prog 4 #[.slice A d.length c,S un] w (B7 true w):=by
 have kn:=bj w hw;by_cases h40:40<un.length
 ·have t1:(40:Int)<(un.length:Int):=(by omega);have kn2:=fun W (hx:Aa w W)=>bj W (hw.ext hx);clear hr;go_enter Tryz.func4,Tryz.ntmps4;(go_wp2_with fail);(with_reducible refine kn.mono ?_);rintro e w1 ⟨rfl,hx1⟩;(go_wp2_with fail);(with_reducible refine(kn2 w1 hx1).mono ?_);rintro e w2 ⟨rfl,hx2⟩;go_wp2;go_ret;exact⟨rfl,hx1.trans hx2⟩
 have t1:¬(40:Int)<(un.length:Int):=(by omega);have Aje:=@lm Tryz.prog;have Fy:=Anl hr;obtain⟨hck,wP⟩:=AgL d;have GN:=AgK d;have mk:=fun W (hx:Aa w W)=>AgE d A c W (hr.ext hx) hc hcm;obtain⟨l,hl⟩:=Ank (IT d);rw [←hl]at hck wP GN mk;have HL:=Anl (fun e (he:e∈l)=>Agp (GN e he));have HP:=Anl (oH hck);have LC:=Anl hck;clear hr hl hck GN;go_enter Tryz.func4,Tryz.ntmps4;(go_wp2_with fail);(with_reducible refine kn.mono ?_);rintro e w1 ⟨rfl,hx1⟩;(go_wp2_with fail);(with_reducible refine(mk w1 hx1).mono ?_);rintro e w2 ⟨A2,c2,rfl,r2,hc2,hc2',hx2⟩;have X2:=hx1.trans hx2;have fo:=find_ok l un A2 c2 w2 r2 hc2 hc2' HL.out LC.out;rw [Ac4]at fo;have Iu:=Anl r2;clear mk kn hx1 hx2 r2;(go_wp2_with fail);(with_reducible refine fo.mono ?_);rintro e w3 ⟨rfl,hx3⟩;have tx:=ou l A2 c2 w3 (Iu.out.ext hx3) hc2 hc2' HL.out LC.out;clear fo;(go_wp2_with fail);(with_reducible refine tx.mono ?_);rintro e w4 ⟨A4,c4,rfl,r4,hc4,hc4',Ai⟩;have Ub:=hx3.trans Ai;have lf:=Agf l un A2 c2 w4 (Iu.out.ext Ub) hc2 hc2';have Oz:=Anl r4;clear tx r4 hx3 Ai;(go_wp2_with fail);(with_reducible refine lf.mono ?_);rintro e wB ⟨rfl,Ad⟩;have XB:=(X2.trans Ub).trans Ad;have Nb:=Anl XB;have Fb:=Anl ((Iu.out.ext Ub).ext Ad);have LG:=Anl (Oz.out.ext Ad);have hx:=Aa.refl wB;obtain⟨n,hn⟩:=Ank l.length;rw [←hn]at hc2 wP ⊢;have xB:n<=20:=(by omega);have HN:=Anl hn;rw [List.length_map,←hn]at hc4;obtain⟨z,hz⟩:=Ank (GA l un);rw [←hz]at lf ⊢;clear lf hz X2 Ub Ad XB hn
 go_upto_region 9 with fail
 go_loopw [12,43] (fun ov kv wr=>∃(k:Nat),kv=.int .i64 (k:Nat)/\k<=n/\wr.ownsRow wB.heap.size 9 1 ov k (((l.take k).map Ci).map S)/\Aa wB wr) (fun _ kv _=>n-(intOf kv).toNat)
 case atStart=>exact⟨0,rfl,by omega,⟨rfl,.inl ⟨rfl,rfl⟩⟩,Aa.refl _⟩
 case round=>
  obtain⟨k,rfl,hk,hown,Ac⟩:=hrel;by_cases hkn:k<n
  ·have BL:k<l.length:=(by rw [←HN.out];exact hkn);obtain⟨b,o,rfl,hg1,hg2,hg3,hg4⟩:=Qb (Fb.out.ext Ac) BL;obtain⟨C5,NM⟩:=HP.out l[k] (Anp BL);obtain⟨m1,m2,m3⟩:=HL.out l[k] (Anp BL);obtain⟨x,hx0⟩:=Ank (l[k]);rw [←hx0]at hg1 hg2 hg3 hg4 C5 NM m1 m2 m3;have HX:=Anl hx0;have hk0:(0:Int)<=(k:Int):=(by omega);have Ca:(k:Int)<(n:Int):=(by omega);have v1:IntKind.wrap .i64 ((k:Int)+1)=(k:Int)+1:=Anu _ (by omega);have hxb:=Ann wr (.cells #[S x.u,S x.s,.int .i64 x.p,S x.t] 40);have hx1:=(Aa.refl wr).alloc (.cells #[S x.u,S x.s,.int .i64 x.p,S x.t] 40);have hE:=Ac.trans hx1;have hown1:=Az hown hx1;obtain⟨oP,oc,rfl⟩:=WQ (by omega) hown;clear hx0 hown Ac
   go_upto_region 11 with fail
   generalize wr.alloc (.cells #[S x.u,S x.s,.int .i64 x.p,S x.t] 40)=V at *;obtain⟨bx,Aw⟩:=Ank wr.heap.size;rw [←Aw]at hxb ⊢;clear Aw hg1 hg2 hg3 hg4 hx1;have hbl:=Anm hxb;have f1:=Ab (o:=0) hxb rfl;have f2:=Ab (o:=1) hxb rfl;have f3:=Ab (o:=2) hxb rfl;have f4:=Ab (o:=3) hxb rfl;have hown2:=hown1;have HE:=Anl hE;have MZ:=Anl hown1;have hbase:=hE.size;clear hown1 hown2 hE
   go_cut [15] (fun v wx=>v=S (H6 x)/\wx.heap[bx]?=some (.cells #[S x.u,S x.s,.int .i64 x.p,S x.t] 40)/\Aa V wx)
   case first=>
    have e1:x.p=1∨x.p=2∨x.p=3∨x.p=4∨x.p=5:=(by omega);obtain⟨pb,Fl⟩:=Ank (GT x.p);obtain⟨q,hq⟩:=Ank x.p;have Nb:=Anl hxb;rw [←hq]at f3 e1 Fl;have XP:=Anl (show H6 x=x.s ++ [32]++x.u ++ [32]++pb by rw [Fl,hq];rfl);have HQ:=Anl Fl;clear Fl hq C5 NM hxb
    rcases e1 with rfl|rfl|rfl|rfl|rfl
    all_goals
     go_region
     go_wp2;go_meet;refine⟨?_,?_,?_⟩
     ·rw [XP.out,HQ.out]
      first|rw [IW.1]|rw [IW.2.1]|rw [IW.2.2.1]|rw [IW.2.2.2.1]|rw [IW.2.2.2.2]
      exact congrArg Value.string (by apply ByteArray.ext;simp)
     ·exact(((Aa.refl V).alloc _).drew.block _ (Anm Nb.out)).trans Nb.out
     ·exact((Aa.refl V).alloc _).drew
   case rest=>
    obtain⟨rfl,SG,hx2⟩:=hcut;have k4:=Ab (o:=3) SG rfl
    have hh:(H6 x).length<3000000:=by have:=jk x.p;simp only [H6,List.length_append,List.length_cons,List.length_nil];omega
    have NK:∀t:Bs,t=x.t→Ci x=H6 x++(if t = [] then [] else [58,32]++t):=(by rintro t rfl;rfl);obtain⟨hd,Sb⟩:=Ank (H6 x);rw [←Sb]at hh NK ⊢;have Qw:=Anl NK;have hown2:=Az MZ.out hx2;have hb2:=Anz hbase hx2.size;have Ck:=HE.out.trans hx2;clear NK Sb f1 f2 f3 f4 hxb SG C5 NM;by_cases ht:x.t = []
    ·have HB:=Anl (show Ci x=hd by rw [Qw.out _ rfl,if_pos ht,List.append_nil]);rw [ht]at k4;clear ht;have E3:=(Aa.refl wc).alloc (.cells #[S hd] 9)
     go_wp2_with (at_builtin;go_loud (refine Ui rfl _ _ rfl _ wB.heap.size (.slice oP k oc) k ((l.take k).map Ci) rfl (Az hown2 E3) (by omega) (Ci x) wc.heap.size ((Ann _ _).trans (Uq _ (by rw [HB.out]))) rfl (Anz hb2 E3.size) ?_);intro v9 w9 hown9 hext9)
     have hnew:=hext9 wB (Ck.trans E3) (Ano _);rw [HX.out,←List.map_singleton (f:=Ci),←List.map_append,←Anr BL]at hown9;have BI:=Anl (And.intro hown9 hnew);clear hown9 hnew hext9 k4;go_wp2;go_roundw
     case rel=>exact⟨k+1,by go_num,hkn,BI.out.1,BI.out.2⟩
     case measure=>simp [intOf];omega
    ·have HB:=Anl (show Ci x=hd++([58,32]++x.t)by rw [Qw.out _ rfl,if_neg ht]);have t1:(x.t == [])=false:=beq_false_of_ne ht
     have t2:x.t.isEmpty=false:=by cases hm:x.t with|nil=>exact absurd hm ht|cons a b=>rfl
     have E3:=(Aa.refl wc).alloc (.cells #[S (Ci x)] 9)
     go_wp2_with (at_builtin;go_loud (refine Ui rfl _ _ rfl _ wB.heap.size (.slice oP k oc) k ((l.take k).map Ci) rfl (Az hown2 ((Aa.refl wc).alloc _)) (by omega) (Ci x) wc.heap.size ((Ann _ _).trans (Uq _ (by rw [HB.out];apply ByteArray.ext;simp))) rfl (Anz hb2 ((Aa.refl wc).alloc _).size) ?_);intro v9 w9 hown9 hext9)
     have hnew:=hext9 wB (Ck.trans ((Aa.refl wc).alloc _)) (Ano _);rw [HX.out,←List.map_singleton (f:=Ci),←List.map_append,←Anr BL]at hown9;have BI:=Anl (And.intro hown9 hnew);clear hown9 hnew hext9 k4 E3;go_wp2;go_roundw
     case rel=>exact⟨k+1,by go_num,hkn,BI.out.1,BI.out.2⟩
     case measure=>simp [intOf];omega
  ·have Bu:k=n:=(by omega);subst Bu;have hall:l.take k=l:=(by rw [HN.out,List.take_length]);obtain⟨A9,c9,rfl,r9,s9,t9⟩:=Ae.of_own' (by omega) hown;rw [hall]at r9;have DW:(l.map Ci).length=k:=(by rw [List.length_map,HN.out]);have eq:=qJ (l.map Ci) A4 A9 c4 c9 wr (LG.out.ext Ac) r9 (by rw [DW];omega);rw [DW]at eq;have HF:=Anl (Nb.out.trans Ac);clear r9 hown hall DW;(go_wp2_with fail);(with_reducible refine eq.mono ?_);rintro e w9 ⟨rfl,BM⟩;go_wp2;go_ret;exact⟨rfl,HF.out.trans BM⟩
end Go.Proofs.YtjalkoacphhgdaaGreatDoor
