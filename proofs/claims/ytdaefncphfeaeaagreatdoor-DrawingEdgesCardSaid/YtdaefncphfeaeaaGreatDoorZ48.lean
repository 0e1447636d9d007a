/- Z48: T7. -/
import Derived.Test.YtdaefncphfeaeaaGreatDoorZ04
import Derived.Test.YtdaefncphfeaeaaGreatDoorZ46
import Derived.Lib.OwnBridge
set_option maxRecDepth 100000
set_option maxHeartbeats 8000000
namespace Go.Proofs.YtdaefncphfeaeaaGreatDoor
open Go.RowKit Kl Go.Sort
theorem AbC(l:List Bs)(j:Nat)(hj:j<l.length):((l.map fun x=>(⟨x.toArray⟩:ByteArray)).getD j ByteArray.empty)=⟨l[j].toArray⟩:=by
 simp [List.getD_eq_getElem?_getD,Asl hj]
def Aci(l:List Bs)(w:World)(e:Ending)(w':World):Prop:=∃v,e=.returned v/\w'.ownsRow w.heap.size 9 1 v l.length (l.map S)/\Aa w w'
theorem uN(l:List Bs)(A:Option Addr)(c:Nat)(w:World)(hr:Am w A (l.map S))(hl:l.length<=100000) :
  Calls Tryz.prog 15 #[.slice A l.length c] w (Aci l w):=by
 by_cases h0:l = []
 ·subst h0
  cases A with
  | none=>
   refine(Tryz.slices_Clone_string_nil 0 c w).mono ?_;rintro e w' ⟨rfl,rfl⟩;exact⟨_,rfl,⟨rfl,.inl ⟨rfl,rfl⟩⟩,Aa.refl _⟩
  | some a=>refine(Tryz.slices_Clone_string_zero a c w).mono ?_;rintro e w' ⟨v,rfl,h,-,hb⟩;exact⟨v,rfl,h,hb⟩
 ·have Fu:0<l.length:=by cases l with|nil=>exact absurd rfl h0|cons a b=>simp
  obtain⟨b,o,rfl,hc⟩:=hr.ad (by simpa using Fu);refine(Tryz.slices_Clone_string b o l.length c (l.map fun x=>(⟨x.toArray⟩:ByteArray)) w (by simp) (by omega) (fun j hj=>?_)).mono ?_
  ·have hj':j<l.length:=(by simpa using hj);rw [AbC l j hj'];have:=hc j (by simpa using hj');rw [List.getElem_map]at this;exact this
  ·rintro e w' ⟨v,rfl,h,-,hb⟩;refine⟨v,rfl,?_,hb⟩
   have e1:((l.map fun x=>(⟨x.toArray⟩:ByteArray)).take l.length).map Value.string=l.map S:=by rw [Aso (by simp),List.map_map];rfl
   rw [e1]at h;exact h
def Ge(base:Nat)(w w':World):Prop:=∀w0,Aa w0 w→w0.heap.size<=base→Aa w0 w'
theorem Ge.trans{base:Nat}{a b c:World}(h:Ge base a b)(k:Ge base b c):Ge base a c:=fun w0 h1 h2=>k w0 (h w0 h1 h2) h2
theorem Ge.ext{base:Nat}{a b c:World}(h:Ge base a b)(k:Aa b c):Ge base a c:=fun w0 h1 h2=>(h w0 h1 h2).trans k
theorem Ge.of{base:Nat}{a b:World}(k:Aa a b):Ge base a b:=fun _ h1 _=>h1.trans k
theorem Aod(base:Nat)(l:List Bs)(v:Value)(w:World)(hown:w.ownsRow base 9 1 v l.length (l.map S))(hl:l.length<=100000) :
  Calls Tryz.prog 30 #[v] w (fun e w'=>e=.returned (.tuple #[])/\(∃l':List Bs,l'.length=l.length/\w'.ownsRow base 9 1 v l.length (l'.map S))/\Ge base w w'):=by
 rcases hown.2 with⟨rfl,h0⟩|⟨g,cap,cur,rfl,hbase,hb,h1,h2,h3,h4⟩
 ·have hl0:l.length=0:=h0;refine(Tryz.slices_Sort_string_none none 0 w).mono ?_;rintro e w' ⟨rfl,rfl⟩;exact⟨rfl,⟨l,rfl,hown⟩,fun _ h _=>h⟩
 ·have hv:(Value.slice (some ⟨g,0,none⟩) l.length cap)≠.slice none 0 0:=(by simp);obtain⟨g',cap',he,-,hlt,-,-,-,hH⟩:=Lib.holds_of_ownsRow (enc:=encStr) (zs:=l) hown hv
  cases he;refine(Tryz.slices_Sort_string g 0 cap l w hH hlt (by omega)).mono ?_;rintro e w' ⟨rfl,n,os,rfl⟩;have hl2:(l.mergeSort fun x y=>decide (x<=y)).length=l.length:=List.length_mergeSort l;refine⟨rfl,⟨l.mergeSort fun x y=>decide (x<=y),hl2,ownsRow_sorted (n:=n) (os:=os) hl2 hbase hb h1 h2 h3⟩,fun w0 h h'=>?_⟩;exact h.grown (grownBy_sorted _) (fun j hj=>by cases hj;omega)
theorem Afx(base:Nat)(l:List Bs)(v:Value)(w:World)(hown:w.ownsRow base 9 1 v l.length (l.map S))(hl:l.length<=100000) :
  Calls Tryz.prog 31 #[v] w (fun e w'=>(∃(l':List Bs) (A:Option Addr) (c:Nat),e=.returned (.slice A l'.length c)/\l'.length<=l.length/\w'.ownsRow base 9 1 (.slice A l'.length c) l'.length (l'.map S))/\Ge base w w'):=by
 rcases hown.2 with⟨rfl,h0⟩|⟨g,cap,cur,rfl,hbase,hb,h1,h2,h3,h4⟩
 ·refine(Tryz.slices_Compact_string_empty none 0 w).mono ?_;rintro e w' ⟨rfl,rfl⟩;exact⟨⟨[],none,0,rfl,by simp,⟨rfl,.inl ⟨rfl,rfl⟩⟩⟩,fun _ h _=>h⟩
 ·have hv:(Value.slice (some ⟨g,0,none⟩) l.length cap)≠.slice none 0 0:=(by simp);obtain⟨g',cap',he,-,hlt,BF,-,-,hH⟩:=Lib.holds_of_ownsRow (enc:=encStr) (zs:=l) hown hv
  cases he;refine(Tryz.slices_Compact_string g 0 cap l w hH (by omega) BF).mono ?_;rintro e w' ⟨rfl,q,rfl⟩;have hle:=Lib.compact_length_le l;have hc:=Lib.ownsRow_putRow (enc:=encStr) (q:=q) (k:=(Lib.compact l).length) (ys:=Lib.compact l++List.replicate (l.length-(Lib.compact l).length) []) hown (by simp;omega) hle;rw [List.take_left]at hc;exact⟨⟨Lib.compact l,_,_,rfl,hle,hc⟩,fun w0 h h'=>Lib.below_putRow h (by omega)⟩
theorem Akm(l:List Bs)(x:Bs)(A:Option Addr)(c:Nat)(w:World)(hr:Am w A (l.map S))(hl:l.length<=100000) :
  Calls Tryz.prog 35 #[.slice A l.length c,S x] w (fun e w'=>(∃k:Int,e=.returned (.int .i64 k))/\Aa w w'):=by
 by_cases h0:l = []
 ·subst h0;refine(Tryz.slices_Index_string_empty A c ⟨x.toArray⟩ w).mono ?_;rintro e w' ⟨rfl,rfl⟩;exact⟨⟨_,rfl⟩,Aa.refl _⟩
 ·have Fu:0<l.length:=by cases l with|nil=>exact absurd rfl h0|cons a b=>simp
  obtain⟨b,o,rfl,hc⟩:=hr.ad (by simpa using Fu);refine(Tryz.slices_Index_string b o l.length c (l.map fun x=>(⟨x.toArray⟩:ByteArray)) ⟨x.toArray⟩ w (by simp) (by omega) (fun j hj=>?_)).mono ?_
  ·have hj':j<l.length:=(by simpa using hj);rw [AbC l j hj'];have:=hc j (by simpa using hj');rw [List.getElem_map]at this;exact this
  ·rintro e w' ⟨rfl,rfl⟩;exact⟨⟨_,rfl⟩,Aa.refl _⟩
theorem vR(s:Bs)(w:World):Calls Tryz.prog 29 #[S s] w (Dq (s == []) w):=by
 go_enter Tryz.func29,Tryz.ntmps29;go_wp2;go_ret;exact⟨by cases s<;>rfl,Aa.refl _⟩
def AdO(n:Nat)(w:World)(e:Ending)(w':World):Prop:=∃k:Int,e=.returned (.int .i64 k)/\-1<=k/\k<(n:Int)/\Aa w w'
theorem Akk(l:List Bs)(A:Option Addr)(c:Nat)(w:World)(hr:Am w A (l.map S))(hl:l.length<=100000) :
  Calls Tryz.prog 87 #[.slice A l.length c,.func (.func 29) #[] #[]] w (AdO l.length w):=by
 go_enter Tryz.func87,Tryz.ntmps87;go_wp2
 go_loopw [8] (fun i wr=>∃j:Nat,i=.int .i64 (j:Nat)/\j<=l.length/\Aa w wr) (fun i _=>l.length-(intOf i).toNat)
 case atStart=>exact⟨0,rfl,by omega,Aa.refl _⟩
 case round=>
  obtain⟨j,rfl,hj,Ac⟩:=hrel;by_cases hlt:j<l.length
  ·obtain⟨b,o,rfl,hc⟩:=(hr.ext Ac).ad (by simp;omega);have hg:=hc j (by simpa using hlt);rw [List.getElem_map]at hg;obtain⟨p,hp⟩:=AcG (l[j]);rw [←hp]at hg;have bf:=vR p wr;have hj0:(0:Int)<=(j:Int):=(by omega);have AG:(j:Int)<(l.length:Int):=(by omega);clear hp hc
   cases hL:(p == [])
   ·rw [hL]at bf;clear hL;(go_wp2_with fail);(with_reducible refine bf.mono ?_);rintro e w2 ⟨rfl,hx2⟩;go_wp2;go_roundw
    case rel=>exact⟨j+1,by go_num,hlt,Ac.trans hx2⟩
    case measure=>simp [intOf];omega
   ·rw [hL]at bf;clear hL;(go_wp2_with fail);(with_reducible refine bf.mono ?_);rintro e w2 ⟨rfl,hx2⟩;go_wp2;go_ret;exact⟨j,rfl,by omega,by omega,Ac.trans hx2⟩
  ·have hle:(l.length:Int)<=(j:Int):=(by omega);go_wp2;go_ret;exact⟨-1,rfl,by omega,by omega,Ac⟩
theorem yy{base n:Nat}{v:Value}{g:Nat}(hv:v.ownBlock=some g):∀(m o:Nat) (l:List Bs) (w:World),w.ownsRow base 9 1 v n (l.map S)→(∃c,v=.slice (some ⟨g,0,none⟩) n c)→
  ∃l':List Bs,l'.length=l.length/\(w.setCells g o (List.replicate m (S []))).ownsRow base 9 1 v n (l'.map S)
 | 0,_,l,_,h,_=>⟨l,rfl,h⟩
 | m+1,o,l,w,h,hs=>by obtain⟨c,rfl⟩:=hs;have h2:=(h.stored o (S [])).1;rw [←List.map_set]at h2;obtain⟨l',h3,h4⟩:=yy hv m (o+1) (l.set o []) _ h2 ⟨c,rfl⟩;exact⟨l',by rw [h3,List.length_set],h4⟩
theorem AlL{w:World}{base n g cap:Nat}{l:List Bs}(h:w.ownsRow base 9 1 (.slice (some ⟨g,0,none⟩) n cap) n (l.map S)){i:Nat}(hi:i<=n) :
  w.ownsRow base 9 1 (.slice (some ⟨g,0,none⟩) i cap) i ((l.take i).map S):=by
 have hl:=h.1;rw [List.length_map,Nat.mul_one]at hl;refine⟨by simp;omega,.inr ?_⟩
 rcases h.2 with⟨h0,_⟩|⟨g',cap',cur,e,hb,hg,h1,h2,h3,h4⟩
 ·cases h0
 ·cases e;refine⟨g,cap,cur,rfl,hb,hg,by omega,h2,h3,?_⟩;have e2:=congrArg (List.take (i*1)) h4;rw [List.take_take]at e2;rw [Nat.min_eq_left (by omega)]at e2;rw [e2,Nat.mul_one,List.map_take]
theorem vZ{w0:World}(b:Nat)(hb:w0.heap.size<=b):∀(vs:List Value) (o:Nat) (w:World),Aa w0 w→Aa w0 (w.setCells b o vs)
 | [],_,_,h=>h
 | v::r,o,_,h=>vZ b hb r (o+1) _ (h.setCell (p:=⟨b,o,none⟩) hb v)
def aR(base n:Nat)(w:World)(e:Ending)(w':World):Prop:=
 (∃(l':List Bs) (A:Option Addr) (c:Nat),e=.returned (.slice A l'.length c)/\l'.length<=n/\w'.ownsRow base 9 1 (.slice A l'.length c) l'.length (l'.map S))/\Ge base w w'
theorem AfD(base:Nat)(l:List Bs)(v:Value)(w:World)(hown:w.ownsRow base 9 1 v l.length (l.map S))(hl:l.length<=100000) :
  Calls Tryz.prog 28 #[v,.func (.func 29) #[] #[]] w (aR base l.length w):=by
 obtain⟨A,c,rfl,hr,hc1,hc2⟩:=Am.of_own' (by omega) hown;have ie:=Akk l A c w hr hl;obtain⟨n,hn⟩:=AcG l.length;rw [←hn]at ie hown hc1 hl ⊢;have HN:=Asb hn;clear hn hr;go_enter Tryz.func28,Tryz.ntmps28;(go_wp2_with fail);(with_reducible refine ie.mono ?_);rintro e w1 ⟨k,rfl,hk0,Bv,hx1⟩;have ho1:=Ap hown hx1;by_cases hk:k = -1
 ·subst hk;have AP:aR base n w (.returned (.slice A n c)) w1:=⟨⟨l,A,c,by rw [←HN.out],by rw [←HN.out];exact Asf _,by rw [←HN.out];exact ho1⟩,Ge.of hx1⟩;have HF:=Asb AP;clear AP ho1 hown;go_wp2;go_ret;exact HF.out
 ·obtain⟨i0,rfl⟩:∃i:Nat,k=(i:Int):=⟨k.toNat,by omega⟩;have hin:i0<n:=(by omega);have hkb:((i0:Int) == -1)=false:=beq_false_of_ne hk
  obtain⟨g,rfl,hbg⟩:∃g,A=some ⟨g,0,none⟩/\base<=g:=by
   rcases hown.2 with⟨_,h'⟩|⟨g,cap,cur,hv,hb,_⟩
   ·omega
   ·cases hv;exact⟨g,rfl,hb⟩
  have hz:∀w,(zeroValue 9).run Tryz.prog w=.ok (S []) w:=fun w=>by obtain⟨i0,hi,hz0,hz1,hz2⟩:=info_parts Tryz.infoStr;simp [zeroValue,typeInfo,hi,hz0]
  clear hk hk0
  go_upto_region 5 with fail
  go_loopw [5,6] (fun iv jv wr=>∃(i j:Nat) (l2:List Bs),iv=.int .i64 (i:Nat)/\jv=.int .i64 (j:Nat)/\i<j/\j<=n/\l2.length=n/\wr.ownsRow base 9 1 (.slice (some ⟨g,0,none⟩) n c) n (l2.map S)/\Ge base w wr) (fun _ jv _=>n-(intOf jv).toNat)
  case atStart=>exact⟨i0,i0+1,l,rfl,by go_num,by omega,by omega,HN.out.symm,ho1,Ge.of hx1⟩
  case round=>
   obtain⟨i,j,l2,rfl,rfl,BM,hj,hl2,ho,jh⟩:=hrel;have bJ:=Asb jh;clear jh;by_cases hlt:j<n
   ·have hg:=ho.cellAt j (by omega);rw [List.getElem?_map,Asl (by omega),Option.map_some]at hg;obtain⟨p,hp⟩:=AcG (l2[j]);rw [←hp]at hg;have bf:=vR p wr;have hj0:(0:Int)<=(j:Int):=(by omega);have AG:(j:Int)<(n:Int):=(by omega);have KR:(0:Int)<=(i:Int):=(by omega);have CB:(i:Int)<(n:Int):=(by omega);clear hp
    cases hL:(p == [])
    ·rw [hL]at bf;clear hL;(go_wp2_with fail);(with_reducible refine bf.mono ?_);rintro e w2 ⟨rfl,hx2⟩;have ho2:=Ap ho hx2;have hgi:=ho2.cellAt i (by omega);rw [List.getElem?_map,Asl (by omega),Option.map_some]at hgi;have Gs:=ho2.frozenAt i;have hst:=ho2.stored i (S p);rw [←List.map_set]at hst;have ji:Ge base w (w2.setCell ⟨g,i,none⟩ (S p)):=fun w0 h1 h2=>((bJ.out w0 h1 h2).trans hx2).setCell (p:=⟨g,i,none⟩) (Asq h2 hbg) _;have HS:=Asb (And.intro hst.1 ji);clear hst ji hg;go_wp2;go_roundw
     case rel=>exact⟨i+1,j+1,l2.set i p,by go_num,by go_num,by omega,hlt,by rw [List.length_set];exact hl2,HS.out.1,HS.out.2⟩
     case measure=>simp [intOf];omega
    ·rw [hL]at bf;clear hL;(go_wp2_with fail);(with_reducible refine bf.mono ?_);rintro e w2 ⟨rfl,hx2⟩;have ho2:=Ap ho hx2;go_wp2;go_roundw
     case rel=>exact⟨i,j+1,l2,rfl,by go_num,by omega,hlt,hl2,ho2,bJ.out.ext hx2⟩
     case measure=>simp [intOf];omega
   ·have hjn:j=n:=(by omega);subst hjn;have hle:(j:Int)<=(j:Int):=(by omega);have KR:(0:Int)<=(i:Int):=(by omega);have Pg:(i:Int)<=(j:Int):=(by omega);have Ma:(i:Int)<=(c:Int):=(by omega);have hcl:=fun ty=>Lib.run_clear_slice (P:=Tryz.prog) wr 41 9 ty (S []) Tryz.underlying41 hz rfl rfl g i (j-i) (c-i) (by omega) (fun q hq=>by rw [ho.cellAt (i+q) (by omega),Asl (by simp;omega)];rfl) (fun q hq=>ho.frozenAt (i+q));obtain⟨l3,hl3,Dl⟩:=yy (base:=base) (n:=j) (v:=.slice (some ⟨g,0,none⟩) j c) (g:=g) rfl (j-i) i l2 wr ho ⟨_,rfl⟩;have mq:=AlL Dl (i:=i) (by omega);have hk3:Ge base w (wr.setCells g i (List.replicate (j-i) (S []))):=fun w0 h1 h2=>vZ g (Asq h2 hbg) _ _ _ (bJ.out w0 h1 h2)
    have AP:aR base j w (.returned (.slice (some ⟨g,0,none⟩) i c)) (wr.setCells g i (List.replicate (j-i) (S []))):=by have e:(l3.take i).length=i:=(by rw [List.length_take];omega);refine⟨⟨l3.take i,some ⟨g,0,none⟩,c,by rw [e],by omega,?_⟩,hk3⟩;rw [e];exact mq
    have HF:=Asb AP;clear AP Dl mq hk3 ho hl3;go_wp2;go_ret;exact HF.out
end Go.Proofs.YtdaefncphfeaeaaGreatDoor
