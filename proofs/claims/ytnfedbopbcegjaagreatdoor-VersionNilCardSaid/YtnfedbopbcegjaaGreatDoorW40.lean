/- W40. -/
import Derived.Test.YtnfedbopbcegjaaGreatDoorW37
set_option maxRecDepth 100000
set_option maxHeartbeats 4000000
namespace Go.Proofs.YtnfedbopbcegjaaGreatDoor
open Go.RowKit Kl Go.Sort Go.Shelf
theorem jU(l:List Pt):(flat (Aq l)).length=l.length*2:=by
 rw [flat_length];unfold Aq;rw [List.length_map]
theorem vz(l:List Pt)(A:Option Addr)(cc:Nat)(w:World)(hr:Ad w A (flat (Aq l)))(hlen:l.length<=100000) :
  Calls Tryz.prog 51 #[.slice A l.length cc] w (fun e w'=>∃v,e=.returned v/\w'.ownsRow w.heap.size 28 2 v l.length (flat (Aq l))/\Aa w w'):=by
 cases A with
 | none=>
  have h0:l = []:=by
   refine Classical.byContradiction fun h=>?_;obtain⟨b,o,e,_⟩:=hr.ad (by rw [jU];have:=List.length_pos_iff.2 h;omega)
   cases e
  subst h0;have hq:=fun W=>Lib.run_eql_slice_nil (P:=Tryz.prog) W 41 28 none 0 cc 0 0 Tryz.underlying41;clear hr;go_enter Tryz.func51,Tryz.ntmps51;go_wp2;go_ret;exact⟨_,rfl,⟨rfl,.inl ⟨rfl,rfl⟩⟩,Aa.refl _⟩
 | some a=>
  have hrow:=World.ownsRow_lit (base:=w.heap.size) (e:=28) (size:=2) w #[] 0 (AjN _) (by unfold maxLen;omega) rfl;have hE:=(Aa.refl w).alloc (.cells #[] 28)
  have hnews:∀j u,(flat (Aq l))[j]?=some u→(w.alloc (.cells #[] 28)).cell? (a.add j)=some u:=by
   intro j u hu;obtain⟨hj,FS⟩:=List.getElem?_eq_some_iff.1 hu;obtain⟨b,o,e,hc⟩:=(hr.ext hE).ad (by omega)
   cases e;rw [Addr.add_lit,←FS];exact hc j hj
  have h1c:∀u∈flat (Aq l),u.oneCell'=true:=by intro u hu;obtain⟨j,hj,rfl⟩:=List.getElem_of_mem hu;obtain⟨s,hs⟩:=PM hj;rw [hs];rfl
  obtain⟨i0,hi,hz0,hz1,hz2⟩:=info_parts Tryz.infoPt;have hq:=fun W=>Lib.run_eql_slice_nil (P:=Tryz.prog) W 41 28 (some a) l.length cc 0 0 Tryz.underlying41;clear hr;have HW:=AjK hrow;have HE:=AjK hE;have HN:=AjK hnews;clear hrow hE hnews;go_enter Tryz.func51,Tryz.ntmps51
  go_wp2_with (at_builtin;go_loud (refine wpList_append_own _ rfl _ _ 41 rfl w.heap.size 28 i0 (.agg #[S [],S []]) 2 32 Tryz.underlying41 hi hz0 hz1 hz2 rfl (by omega) (.slice (some ⟨w.heap.size,0,none⟩) 0 0) 0 [] rfl HW.out a l.length cc (flat (Aq l)) rfl (jU l) HN.out h1c (by unfold maxLen;omega) (by omega) HE.out.size ?_);intro v9 w9 Br AM hnil9)
  go_ret;rw [Nat.zero_add,List.nil_append]at Br;exact⟨_,rfl,Br,HE.out.grown AM fun k hk=>by simp only [Value.ownBlock,AjR]at hk;omega⟩
theorem vw(l:List Au)(A:Option Addr)(cc:Nat)(w:World)(hr:Ad w A (AA l))(hlen:l.length<=100000) :
  Calls Tryz.prog 52 #[.slice A l.length cc] w (fun e w'=>∃v,e=.returned v/\w'.ownsRow w.heap.size 119 4 v l.length (AA l)/\Aa w w'):=by
 cases A with
 | none=>
  have h0:l = []:=by
   refine Classical.byContradiction fun h=>?_;obtain⟨b,o,e,_⟩:=hr.ad (by rw [Wx];have:=List.length_pos_iff.2 h;omega)
   cases e
  subst h0;have hq:=fun W=>Lib.run_eql_slice_nil (P:=Tryz.prog) W 42 119 none 0 cc 0 0 Tryz.underlying42;clear hr;go_enter Tryz.func52,Tryz.ntmps52;go_wp2;go_ret;exact⟨_,rfl,⟨rfl,.inl ⟨rfl,rfl⟩⟩,Aa.refl _⟩
 | some a=>
  have hrow:=World.ownsRow_lit (base:=w.heap.size) (e:=119) (size:=4) w #[] 0 (AjN _) (by unfold maxLen;omega) rfl;have hE:=(Aa.refl w).alloc (.cells #[] 119)
  have hnews:∀j u,(AA l)[j]?=some u→(w.alloc (.cells #[] 119)).cell? (a.add j)=some u:=by
   intro j u hu;obtain⟨hj,FS⟩:=List.getElem?_eq_some_iff.1 hu;obtain⟨b,o,e,hc⟩:=(hr.ext hE).ad (by omega)
   cases e;rw [Addr.add_lit,←FS];exact hc j hj
  have h1c:∀u∈AA l,u.oneCell'=true:=by intro u hu;obtain⟨j,hj,rfl⟩:=List.getElem_of_mem hu;obtain⟨s,hs⟩:=PG hj;rw [hs];rfl
  obtain⟨i0,hi,hz0,hz1,hz2⟩:=info_parts Tryz.infoEd;have hq:=fun W=>Lib.run_eql_slice_nil (P:=Tryz.prog) W 42 119 (some a) l.length cc 0 0 Tryz.underlying42;clear hr;have HW:=AjK hrow;have HE:=AjK hE;have HN:=AjK hnews;clear hrow hE hnews;go_enter Tryz.func52,Tryz.ntmps52
  go_wp2_with (at_builtin;go_loud (refine wpList_append_own _ rfl _ _ 42 rfl w.heap.size 119 i0 (.agg #[.int .i64 0,.int .i64 0,.int .i64 0,.int .i64 0]) 4 32 Tryz.underlying42 hi hz0 hz1 hz2 rfl (by omega) (.slice (some ⟨w.heap.size,0,none⟩) 0 0) 0 [] rfl HW.out a l.length cc (AA l) rfl (Wx l) HN.out h1c (by unfold maxLen;omega) (by omega) HE.out.size ?_);intro v9 w9 Br AM hnil9)
  go_ret;rw [Nat.zero_add,List.nil_append]at Br;exact⟨_,rfl,Br,HE.out.grown AM fun k hk=>by simp only [Value.ownBlock,AjR]at hk;omega⟩
theorem wd(l:List Bs)(A:Option Addr)(cc:Nat)(w:World)(hr:Ad w A (l.map S))(hlen:l.length<=100000) :
  Calls Tryz.prog 53 #[.slice A l.length cc] w (fun e w'=>∃v,e=.returned v/\w'.ownsRow w.heap.size 9 1 v l.length (l.map S)/\Aa w w'):=by
 cases A with
 | none=>
  have h0:l = []:=by
   refine Classical.byContradiction fun h=>?_;obtain⟨b,o,e,_⟩:=hr.ad (by rw [List.length_map];have:=List.length_pos_iff.2 h;omega)
   cases e
  subst h0;have hq:=fun W=>Lib.run_eql_slice_nil (P:=Tryz.prog) W 33 9 none 0 cc 0 0 Tryz.underlying33;clear hr;go_enter Tryz.func53,Tryz.ntmps53;go_wp2;go_ret;exact⟨_,rfl,⟨rfl,.inl ⟨rfl,rfl⟩⟩,Aa.refl _⟩
 | some a=>
  have hrow:=World.ownsRow_lit (base:=w.heap.size) (e:=9) (size:=1) w #[] 0 (AjN _) (by unfold maxLen;omega) rfl;have hE:=(Aa.refl w).alloc (.cells #[] 9)
  have hnews:∀j u,(l.map S)[j]?=some u→(w.alloc (.cells #[] 9)).cell? (a.add j)=some u:=by
   intro j u hu;obtain⟨hj,FS⟩:=List.getElem?_eq_some_iff.1 hu;obtain⟨b,o,e,hc⟩:=(hr.ext hE).ad (by omega)
   cases e;rw [Addr.add_lit,←FS];exact hc j hj
  have h1c:∀u∈l.map S,u.oneCell'=true:=by
   intro u hu;obtain⟨s,-,rfl⟩:=List.mem_map.1 hu
   rfl
  obtain⟨i0,hi,hz0,hz1,hz2⟩:=info_parts Tryz.infoStr;have hq:=fun W=>Lib.run_eql_slice_nil (P:=Tryz.prog) W 33 9 (some a) l.length cc 0 0 Tryz.underlying33;clear hr;have HW:=AjK hrow;have HE:=AjK hE;have HN:=AjK hnews;clear hrow hE hnews;go_enter Tryz.func53,Tryz.ntmps53
  go_wp2_with (at_builtin;go_loud (refine wpList_append_own _ rfl _ _ 33 rfl w.heap.size 9 i0 (S []) 1 16 Tryz.underlying33 hi hz0 hz1 hz2 rfl (by omega) (.slice (some ⟨w.heap.size,0,none⟩) 0 0) 0 [] rfl HW.out a l.length cc (l.map S) rfl (by simp) HN.out h1c (by unfold maxLen;omega) (by omega) HE.out.size ?_);intro v9 w9 Br AM hnil9)
  go_ret;rw [Nat.zero_add,List.nil_append]at Br;exact⟨_,rfl,Br,HE.out.grown AM fun k hk=>by simp only [Value.ownBlock,AjR]at hk;omega⟩
end Go.Proofs.YtnfedbopbcegjaaGreatDoor
