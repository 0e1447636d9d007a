/- W47. -/
import Derived.Test.YtnfedbopbcegjaaGreatDoorW45
import Derived.Test.YtnfedbopbcegjaaGreatDoorW06
set_option maxHeartbeats 1000000
namespace Go.Proofs.YtnfedbopbcegjaaGreatDoor
open Go.RowKit Kl Go.Maps Go.Sort Go.Shelf
theorem AdD{β:Type}{enc:β→DataW Unit}{w:World}{Q:Value→Option (DataW Unit×List MemPlace)}{bm n:Nat}{D:DataW Unit}{f:Bs→Option β}(hown:w.ownsMap Tryz.prog 9 Q bm n D)(hf:CZ enc D f){ss:List Bs}(hp:ss.Perm (strKeys D)) :
  ss.length=Maps.size D/\∀l0:List Bs,l0.Nodup→(∀x,x∈l0↔(f x).isSome=true)→ss.mergeSort leB=l0.mergeSort leB:=by
 obtain⟨es,rfl,hpw,-⟩:=hown.entries (string_keyed Tryz.underlying9);obtain⟨es',e,hk⟩:=hown.keysOf
 injection e with e
 subst e;refine⟨by rw [hp.length_eq];simp [strKeys,Maps.size],fun l0 hn hm=>?_⟩
 have h0:l0.Perm (strKeys (.map es)):=perm_strKeys hpw (fun p hp=>by
  obtain⟨v,hv⟩:=hk p hp;obtain⟨x,-,e,-⟩:=Maps.keyOf_str Tryz.underlying9 hv
  exact⟨x,e⟩) hn (fun x=>by rw [hm x,(hf.2 x).1])
 exact mergeSort_of_perm (hp.trans h0.symm)
def Pp{β:Type}(f:Bs→Option β)(n:Nat)(w:World)(e:Ending)(w':World):Prop:=
 ∃v L,e=.returned v/\w'.ownsRow w.heap.size 9 1 v n (L.map S)/\L.length=n/\Aa w w'/\∀l0:List Bs,l0.Nodup→(∀x,x∈l0↔(f x).isSome=true)→L=l0.mergeSort leB
theorem Pp.of{β:Type}{enc:β→DataW Unit}{w w':World}{Q:Value→Option (DataW Unit×List MemPlace)}{bm k n:Nat}{D:DataW Unit}{f:Bs→Option β}(hown:w.ownsMap Tryz.prog 9 Q bm k D)(hf:CZ enc D f)(hn:Maps.size D=n){v:Value}{ss:List Bs}{o:Obj}(hp:ss.Perm (strKeys D))
  (hrow:w'.ownsRow (w.alloc o).heap.size 9 1 v ss.length ((ss.mergeSort (fun x y=>decide (x<=y))).map encStr)) (hb:Below (w.alloc o).heap.size (w.alloc o) w'):Pp f n w (.returned v) w':=by
 obtain⟨h1,h2⟩:=AdD hown hf hp;rw [h1,hn]at hrow;refine⟨v,ss.mergeSort leB,rfl,FV hrow (by simp),by rw [List.length_mergeSort,h1,hn],((Aa.refl w).alloc o).trans hb,h2⟩
theorem tz{base ba bm:Nat}{xs:List UInt8}{es:List (Int×Nat×UInt8)}{n:Nat}{f:Bs→Option Int}{w:World}(h:BR base ba bm xs es n f w)(hn:n<=1000) :
  Calls Tryz.prog 10 #[Ch ba] w (Pp f n w):=by
 obtain⟨mv,ev,D,Ms,Es,-,-,hA,-,-,hD,hf,hsz⟩:=h;have k2:w.cell? ⟨ba,2,none⟩=some (.map (some bm)):=Ab hA rfl;clear hA;refine(callsIn_wide (n:=6)).1 ?_;have hfK:Fence.wide.fn 28:=trivial;have hfS:Fence.wide.fn 27:=trivial;refine callsIn_of_wp Tryz.func10 rfl trivial ?_ rfl;simp only [Tryz.ntmps10,List.size_toArray,List.length_cons,List.length_nil,Nat.reduceAdd,Nat.reduceSub,Array.replicate_succ,Array.replicate_zero,List.push_toArray,List.append_toArray,List.nil_append,List.cons_append]
 gi_wp2_with (first
  | (gi_at_call 28;refine(Tryz.maps_Keys_28 _ _).mono ?_;rintro e w' ⟨rfl,rfl⟩)
  | (gi_at_call 27;refine(Tryz.slices_Sorted_keys_27_28 bm n D _ w hD (by unfold maxLen;omega) (by omega)).mono ?_;rintro e w' ⟨v,ss,rfl,hS,hrow,hnil,hb⟩))
 go_ret;exact Pp.of hD hf hsz hS hrow hb
end Go.Proofs.YtnfedbopbcegjaaGreatDoor
