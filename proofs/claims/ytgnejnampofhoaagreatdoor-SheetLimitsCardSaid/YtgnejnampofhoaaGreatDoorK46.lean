/- K46: ShSL6. -/
import Derived.Test.YtgnejnampofhoaaGreatDoorK45
set_option maxRecDepth 100000
set_option maxHeartbeats 4000000
namespace Go.Proofs.YtgnejnampofhoaaGreatDoor
open Go.RowKit Kl
theorem Af4(A:Option Addr)(c m:Nat)(hm:1<=m)(Mi:m<=1000)(w:World)(hr:Ae w A (AS BA 1)) :
  Calls Tryz.prog 8 #[.slice A 1 c,.int .i64 (m:Nat)] w (fun e w'=>∃A',e=.returned (.slice A' m m)/\Ae w' A' (AS BA m)/\BP w' A' 29/\Ac w w'):=by
 obtain⟨ba,oa,rfl,LX⟩:=hr.ad (by rw [Ii _ rfl];omega);have bm:=Tryz.bits_Mul 1 m (by omega) (by omega) w;rw [Nat.one_mul,Nat.div_eq_of_lt (by omega),Nat.mod_eq_of_lt (by omega)]at bm;have jB:Calls Tryz.prog 46 #[.int .u64 1,.int .u64 (m:Nat)] w fun e w'=>e=.returned (.tuple #[.int .u64 0,.int .u64 (m:Nat)])/\w'=w:=bm;have UD:IntKind.u64.wrap (m:Int)=m:=(by rw [IntKind.wrap_u64];omega);have hwi:IntKind.i64.wrap (m:Int)=m:=Aj5 _ (by omega);have mk:=Ad8 m (by omega) m rfl w;have hV:=Ajy w (.cells (madeCells #[.int .i64 0,S [],S [],S [],S [],S [],S [],S []] (m*8)) 29);have hE:=(Ac.refl w).alloc (.cells (madeCells #[.int .i64 0,S [],S [],S [],S [],S [],S [],S []] (m*8)) 29);obtain⟨b,hb⟩:=Ajv w.heap.size
 have Nz:∀i v,(AS BA 1)[i]?=some v→(w.alloc (.cells (madeCells #[.int .i64 0,S [],S [],S [],S [],S [],S [],S []] (m*8)) 29)).cell? ((⟨ba,oa,none⟩:Addr).add i)=some v:=by intro i v h;obtain⟨hi,e⟩:=List.getElem?_eq_some_iff.1 h;rw [←e,Addr.add_lit];exact hE.cellS (LX i hi)
 rw [←hb]at mk hV;rw [Ad5]at mk hV hE Nz;have hm0:(0:Int)<=(m:Int):=(by omega);have hm3:(m:Int)<=9223372036854775807:=(by omega);have LY:=kK (j:=0) (k:=1) (by omega) hV ⟨ba,oa,none⟩ m m 1 c (by rw [show Nat.min 1 m=min 1 m from rfl];omega) Nz;rw [Nat.zero_mul,Nat.zero_add]at LY;have hgb:w.heap.size<=b:=Nat.le_of_eq hb.symm;clear LX hr bm Nz hb;go_enter Tryz.func8,Tryz.ntmps8;(go_wp2_with fail);(with_reducible refine jB.mono ?_);rintro e w1 ⟨rfl,rfl⟩;have BK:=lW hE hgb (Dt 1 m).toArray;have hR:=setRow_heap _ b _ (Dt 1 m).toArray _ _ hV;go_wp2
 go_loopw [8] (fun s wr=>∃j:Nat,s=.int .i64 (j:Nat)/\1<=j/\j<=m/\wr.heap[b]?=some (.cells (Dt j m).toArray 29 (0,0))/\Ac w1 wr) (fun s _=>m-(intOf s).toNat)
 case atStart=>exact⟨1,rfl,Ajz _,hm,hR,BK⟩
 case round=>
  clear hV hE LY BK hR mk jB UD hwi;obtain⟨j,rfl,Ku,hj,hW,hE⟩:=hrel;have hj0:(0:Int)<=(j:Int):=(by omega);have Js:(j:Int)<=(m:Int):=(by omega);by_cases hlt:j<m
  ·have AP:(j:Int)<(m:Int):=(by omega);obtain⟨k,hk⟩:=Ajv (min j (m-j));have Dn:1<=k:=(by omega);have Mh:j+k<=m:=by omega
   have U9:∀i v,(AS BA k)[i]?=some v→wr.drew.cell? ((⟨b,0,none⟩:Addr).add i)=some v:=by intro i v h;obtain⟨hi,e⟩:=List.getElem?_eq_some_iff.1 h;rw [Ii _ rfl]at hi;rw [Addr.add_lit,Nat.zero_add];refine Aa (W:=wr.drew) hW ?_;rw [show (Dt j m).toArray[i]?=(Dt j m)[i]? from List.getElem?_toArray,Af1 (by omega),cJ _ rfl j i (by omega),←cJ _ rfl k i hi];exact h
   have LY:=kK (W:=wr.drew) (j:=j) (k:=k) Mh hW ⟨b,0,none⟩ (m-j) (m-j) j m (by rw [show Nat.min j (m-j)=min j (m-j)from rfl];omega) U9;have hR:=setRow_heap wr.drew b _ (Dt (j+k) m).toArray _ _ hW;have BK:=lW hE.drew hgb (Dt (j+k) m).toArray;clear U9 hW hk;go_wp2
   go_region
   all_goals go_wp2
   all_goals go_roundw
   all_goals first
    | exact⟨j+k,by go_num,by omega,Mh,hR,BK⟩
    | (simp [intOf];omega)
  ·obtain rfl:j=m:=(by omega);clear hlt;go_wp2;go_ret;refine⟨some ⟨b,0,none⟩,by rfl,?_,fun x e=>(by obtain rfl:=Option.some.inj e;exact⟨_,_,hW⟩),hE⟩;rw [Af0]at hW;refine⟨fun _=>⟨b,0,rfl,fun i hi=>?_⟩⟩;refine Aa hW ?_;rw [Nat.zero_add,show (AS BA j).toArray[i]?=(AS BA j)[i]? from List.getElem?_toArray,Aj4 hi]
end Go.Proofs.YtgnejnampofhoaaGreatDoor
