/- V41: T7 LGU LGS LGK. -/
import Derived.Test.YtbejphgbbpplbaaGreatDoorV05
import Derived.Test.YtbejphgbbpplbaaGreatDoorV39
import Derived.Lib.OwnBridge
import Derived.Shelf.SlSortCmp.NoneTotal
import Derived.Test.YtbejphgbbpplbaaGreatDoorV27
set_option maxRecDepth 100000
set_option maxHeartbeats 16000000
namespace Go.Proofs.YtbejphgbbpplbaaGreatDoor
open Go.RowKit Kl Go.Sort
theorem Akn(l:List Bs)(j:Nat)(hj:j<l.length):((l.map fun x=>(⟨x.toArray⟩:ByteArray)).getD j ByteArray.empty)=⟨l[j].toArray⟩:=by
 simp [List.getD_eq_getElem?_getD,Anc hj]
def ra(l:List Bs)(w:World)(e:Ending)(w':World):Prop:=∃v,e=.returned v/\w'.ownsRow w.heap.size 9 1 v l.length (l.map S)/\Aa w w'
theorem Aba(l:List Bs)(A:Option Addr)(c:Nat)(w:World)(hr:Ae w A (l.map S))(hl:l.length<=100000) :
  Calls Tryz.prog 15 #[.slice A l.length c] w (ra l w):=by
 by_cases h0:l = []
 ·subst h0
  cases A with
  | none=>
   refine(Tryz.slices_Clone_string_nil 0 c w).mono ?_;rintro e w' ⟨rfl,rfl⟩;exact⟨_,rfl,⟨rfl,.inl ⟨rfl,rfl⟩⟩,Aa.refl _⟩
  | some a=>refine(Tryz.slices_Clone_string_zero a c w).mono ?_;rintro e w' ⟨v,rfl,h,-,hb⟩;exact⟨v,rfl,h,hb⟩
 ·have BY:0<l.length:=by cases l with|nil=>exact absurd rfl h0|cons a b=>simp
  obtain⟨b,o,rfl,hc⟩:=hr.ad (by simpa using BY);refine(Tryz.slices_Clone_string b o l.length c (l.map fun x=>(⟨x.toArray⟩:ByteArray)) w (by simp) (by omega) (fun j hj=>?_)).mono ?_
  ·have hj':j<l.length:=(by simpa using hj);rw [Akn l j hj'];have:=hc j (by simpa using hj');rw [List.getElem_map]at this;exact this
  ·rintro e w' ⟨v,rfl,h,-,hb⟩;refine⟨v,rfl,?_,hb⟩
   have e1:((l.map fun x=>(⟨x.toArray⟩:ByteArray)).take l.length).map Value.string=l.map S:=by rw [Ang (by simp),List.map_map];rfl
   rw [e1]at h;exact h
def Ds(base:Nat)(w w':World):Prop:=∀w0,Aa w0 w→w0.heap.size<=base→Aa w0 w'
theorem Ds.trans{base:Nat}{a b c:World}(h:Ds base a b)(k:Ds base b c):Ds base a c:=fun w0 h1 h2=>k w0 (h w0 h1 h2) h2
theorem Ds.ext{base:Nat}{a b c:World}(h:Ds base a b)(k:Aa b c):Ds base a c:=fun w0 h1 h2=>(h w0 h1 h2).trans k
theorem Ds.of{base:Nat}{a b:World}(k:Aa a b):Ds base a b:=fun _ h1 _=>h1.trans k
theorem AhF{w:World}{base n g cap:Nat}{l:List Bs}(h:w.ownsRow base 9 1 (.slice (some ⟨g,0,none⟩) n cap) n (l.map S)){i:Nat}(hi:i<=n) :
  w.ownsRow base 9 1 (.slice (some ⟨g,0,none⟩) i cap) i ((l.take i).map S):=by
 have hl:=h.1;rw [List.length_map,Nat.mul_one]at hl;refine⟨by simp;omega,.inr ?_⟩
 rcases h.2 with⟨h0,_⟩|⟨g',cap',cur,e,hb,hg,h1,h2,h3,h4⟩
 ·cases h0
 ·cases e;refine⟨g,cap,cur,rfl,hb,hg,by omega,h2,h3,?_⟩;have e2:=congrArg (List.take (i*1)) h4;rw [List.take_take]at e2;rw [Nat.min_eq_left (by omega)]at e2;rw [e2,Nat.mul_one,List.map_take]
theorem qS{w0:World}(b:Nat)(hb:w0.heap.size<=b):∀(vs:List Value) (o:Nat) (w:World),Aa w0 w→Aa w0 (w.setCells b o vs)
 | [],_,_,h=>h
 | v::r,o,_,h=>qS b hb r (o+1) _ (h.setCell (p:=⟨b,o,none⟩) hb v)
theorem Aj0(base:Nat)(l:List Bs)(v:Value)(w:World)(hown:w.ownsRow base 9 1 v l.length (l.map S))(hl:l.length<=100000) :
  Calls Tryz.prog 57 #[v] w (fun e w'=>e=.returned (.tuple #[])/\w'.ownsRow base 9 1 v l.length ((l.mergeSort fun x y=>decide (x<=y)).map S)/\Ds base w w'):=by
 rcases hown.2 with⟨rfl,h0⟩|⟨g,cap,cur,rfl,hbase,hb,h1,h2,h3,h4⟩
 ·have hl0:l.length=0:=h0;have hnil:l = []:=List.eq_nil_of_length_eq_zero hl0;refine(Tryz.slices_Sort_string_none none 0 w).mono ?_;rintro e w' ⟨rfl,rfl⟩;refine⟨rfl,?_,fun _ h _=>h⟩;subst hnil
  simpa using hown
 ·have hv:(Value.slice (some ⟨g,0,none⟩) l.length cap)≠.slice none 0 0:=(by simp);obtain⟨g',cap',he,-,hlt,-,-,-,hH⟩:=Lib.holds_of_ownsRow (enc:=encStr) (zs:=l) hown hv
  cases he;refine(Tryz.slices_Sort_string g 0 cap l w hH hlt (by omega)).mono ?_;rintro e w' ⟨rfl,n,os,rfl⟩;have hl2:(l.mergeSort fun x y=>decide (x<=y)).length=l.length:=List.length_mergeSort l;refine⟨rfl,ownsRow_sorted (n:=n) (os:=os) hl2 hbase hb h1 h2 h3,fun w0 h h'=>?_⟩;exact h.grown (grownBy_sorted _) (fun j hj=>by cases hj;omega)
theorem Abx(base:Nat)(l:List Bs)(v:Value)(w:World)(hown:w.ownsRow base 9 1 v l.length (l.map S))(hl:l.length<=100000) :
  Calls Tryz.prog 58 #[v] w (fun e w'=>(∃(A:Option Addr) (c:Nat),e=.returned (.slice A (Lib.compact l).length c)/\w'.ownsRow base 9 1 (.slice A (Lib.compact l).length c) (Lib.compact l).length ((Lib.compact l).map S))/\Ds base w w'):=by
 rcases hown.2 with⟨rfl,h0⟩|⟨g,cap,cur,rfl,hbase,hb,h1,h2,h3,h4⟩
 ·have hl0:l.length=0:=h0;have hnil:l = []:=List.eq_nil_of_length_eq_zero hl0;subst hnil;refine(Tryz.slices_Compact_string_empty none 0 w).mono ?_;rintro e w' ⟨rfl,rfl⟩;exact⟨⟨none,0,rfl,⟨rfl,.inl ⟨rfl,rfl⟩⟩⟩,fun _ h _=>h⟩
 ·have hv:(Value.slice (some ⟨g,0,none⟩) l.length cap)≠.slice none 0 0:=(by simp);obtain⟨g',cap',he,-,hlt,B8,-,-,hH⟩:=Lib.holds_of_ownsRow (enc:=encStr) (zs:=l) hown hv
  cases he;refine(Tryz.slices_Compact_string g 0 cap l w hH (by omega) B8).mono ?_;rintro e w' ⟨rfl,q,rfl⟩;have hle:=Lib.compact_length_le l;have hc:=Lib.ownsRow_putRow (enc:=encStr) (q:=q) (k:=(Lib.compact l).length) (ys:=Lib.compact l++List.replicate (l.length-(Lib.compact l).length) []) hown (by simp;omega) hle;rw [List.take_left]at hc;exact⟨⟨_,_,rfl,hc⟩,fun w0 h h'=>Lib.below_putRow h (by omega)⟩
def YS(s:Bs):Bool:=s == []
theorem Akp(s:Bs)(w:World):Calls Tryz.prog 95 #[S s] w (BC (YS s) w):=by
 go_enter Tryz.func95,Tryz.ntmps95;go_wp2;go_ret;exact⟨by cases s<;>rfl,Aa.refl _⟩
theorem Acm:∀args w,(callFunc 95 args).run Tryz.prog w=.ok (.enter 95 args) w:=enters_of Tryz.func95 (by kernel_rfl) rfl
theorem ir{base n:Nat}{v:Value}{g:Nat}(hv:v.ownBlock=some g):∀(m o:Nat) (l:List Bs) (w:World),w.ownsRow base 9 1 v n (l.map S)→(∃c,v=.slice (some ⟨g,0,none⟩) n c)→
  ∃l':List Bs,l'.length=l.length/\l'.take o=l.take o/\(w.setCells g o (List.replicate m (S []))).ownsRow base 9 1 v n (l'.map S)
 | 0,_,l,_,h,_=>⟨l,rfl,rfl,h⟩
 | m+1,o,l,w,h,hs=>by obtain⟨c,rfl⟩:=hs;have h2:=(h.stored o (S [])).1;rw [←List.map_set]at h2;obtain⟨l',h3,h5,h4⟩:=ir hv m (o+1) (l.set o []) _ h2 ⟨c,rfl⟩;refine⟨l',by rw [h3,List.length_set],?_,h4⟩;have:=congrArg (List.take o) h5;rw [List.take_take,List.take_take,Nat.min_eq_left (by omega)]at this;rw [this,List.take_set_of_le (by omega)]
def Ez(f:Bs→Bool)(l:List Bs):List Bs:=l.filter (fun s=>!f s)
theorem av(f:Bs→Bool)(l:List Bs){j:Nat}(h:j<l.length):Ez f (l.take (j+1))=Ez f (l.take j)++if f l[j] then [] else [l[j]]:=by
 unfold Ez;rw [Ana h,List.filter_append]
 congr 1
 cases hE:f l[j]<;>simp [hE]
theorem au{f:Bs→Bool}{l:List Bs}(h:∀q∈l,f q=false):Ez f l=l:=by
 unfold Ez;rw [List.filter_eq_self];intro a ha;rw [h a ha];rfl
def Xm(f:Bs→Bool)(base:Nat)(l:List Bs)(w:World)(e:Ending)(w':World):Prop:=
 (∃(A:Option Addr) (c:Nat),e=.returned (.slice A (Ez f l).length c)/\w'.ownsRow base 9 1 (.slice A (Ez f l).length c) (Ez f l).length ((Ez f l).map S))/\Ds base w w'
theorem AbA{gf:FuncId}{cb:Array Value}(eg:∀args w,(callFunc gf args).run Tryz.prog w=.ok (.enter gf args) w)(f:Bs→Bool)(base:Nat)(l:List Bs)(v:Value)(w:World)(hown:w.ownsRow base 9 1 v l.length (l.map S))(hl:l.length<=100000)
  (hp:∀e∈l,∀W,Ds base w W→Calls Tryz.prog gf (#[S e]++cb) W (BC (f e) W)) :
  Calls Tryz.prog 27 #[v,.func (.func gf) #[] cb] w (Xm f base l w):=by
 obtain⟨A,c,rfl,hr,hc1,hc2⟩:=Ae.of_own' (by omega) hown;have ie:=zU eg f l A c w hr hc1 hc2 (fun e he W hx=>hp e he W (Ds.of hx));obtain⟨n,hn⟩:=AmT l.length;have hge:=Af4 f l;have Sr:=Af5 f l
 have aF:(CP f l = -1/\Ez f l=l)∨∃i:Nat,CP f l=(i:Int)/\i<n/\Ez f (l.take (i+1))=l.take i:=by
  unfold CP
  cases hf:l.findIdx? f with
  | none=>
   rw [List.findIdx?_eq_none_iff]at hf;exact .inl ⟨rfl,au hf⟩
  | some i=>
   rw [List.findIdx?_eq_some_iff_getElem]at hf;obtain⟨hi,h1,h2⟩:=hf;refine .inr ⟨i,rfl,by omega,?_⟩;rw [av f l hi,h1];simp only [if_true,List.append_nil];refine au fun q hq=>?_;rw [List.mem_take_iff_getElem]at hq;obtain⟨k,hk,rfl⟩:=hq;have:=h2 k (by omega)
   simpa using this
 rw [←hn]at ie hown hc1 hl ⊢;have HN:=AmU hn;obtain⟨z,hz0⟩:=AmT (CP f l);rw [←hz0]at ie hge Sr aF;have HC:=AmU aF;have vu:=AmU hp;clear hn hr hz0 aF hp;go_enter Tryz.func27,Tryz.ntmps27;(go_wp2_with fail);(with_reducible refine ie.mono ?_);rintro e w1 ⟨rfl,hx1⟩;have ho1:=AH hown hx1;by_cases hk:z = -1
 ·subst hk
  have Cp:Ez f l=l:=by
   rcases HC.out with⟨_,h⟩|⟨i,h,_⟩
   ·exact h
   ·omega
  have AX:Xm f base l w (.returned (.slice A n c)) w1:=⟨⟨A,c,by rw [Cp,←HN.out],by rw [Cp,←HN.out];exact ho1⟩,Ds.of hx1⟩;have HF:=AmU AX;clear AX ho1 hown Cp;go_wp2;go_ret;exact HF.out
 ·obtain⟨i0,rfl,hin,hk0⟩:∃i:Nat,z=(i:Int)/\i<n/\Ez f (l.take (i+1))=l.take i:=by
   rcases HC.out with⟨h,_⟩|h
   ·exact absurd h hk
   ·exact h
  have um:=AmU hk0;have hkb:((i0:Int) == -1)=false:=beq_false_of_ne hk
  obtain⟨g,rfl,hbg⟩:∃g,A=some ⟨g,0,none⟩/\base<=g:=by
   rcases hown.2 with⟨_,h'⟩|⟨g,cap,cur,hv,hb,_⟩
   ·omega
   ·cases hv;exact⟨g,rfl,hb⟩
  have hz:∀w,(zeroValue 9).run Tryz.prog w=.ok (S []) w:=fun w=>by obtain⟨i0,hi,hz0,hz1,hz2⟩:=info_parts Tryz.infoStr;simp [zeroValue,typeInfo,hi,hz0]
  clear hk hk0 hge Sr
  go_upto_region 5 with fail
  go_loopw [5,6] (fun iv jv wr=>∃(i j:Nat) (l2:List Bs),iv=.int .i64 (i:Nat)/\jv=.int .i64 (j:Nat)/\i<j/\j<=n/\l2.length=n/\l2.take i=Ez f (l.take j)/\l2.drop j=l.drop j/\wr.ownsRow base 9 1 (.slice (some ⟨g,0,none⟩) n c) n (l2.map S)/\Ds base w wr) (fun _ jv _=>n-(intOf jv).toNat)
  case atStart=>exact⟨i0,i0+1,l,rfl,by go_num,by omega,by omega,HN.out.symm,um.out.symm,rfl,ho1,Ds.of hx1⟩
  case round=>
   obtain⟨i,j,l2,rfl,rfl,Bf,hj,hl2,M6,Et,ho,V9⟩:=hrel;have Xw:=AmU V9;have XJ:=AmU M6;have MX:=AmU Et;have LG:=AmU hl2;clear M6 Et;by_cases hlt:j<n
   ·have hg:=ho.cellAt j (by omega);rw [List.getElem?_map,Anc (by omega),Option.map_some]at hg;obtain⟨p,hp⟩:=AmT (l2[j]);rw [←hp]at hg;have bf:=vu.out l[j] (AmY (by rw [←HN.out];exact hlt)) wr V9;have hj0:(0:Int)<=(j:Int):=(by omega);have AV:(j:Int)<(n:Int):=(by omega);have NG:(0:Int)<=(i:Int):=(by omega);have Sf:(i:Int)<(n:Int):=(by omega);have wK:j<l.length:=by rw [←HN.out];exact hlt
    have hpl:p=l[j]:=by rw [hp];have h1:(l2.drop j)[0]?=(l.drop j)[0]?:=(by rw [MX.out]);rw [List.getElem?_drop,List.getElem?_drop,Nat.add_zero,Anc (by omega),Anc wK]at h1;exact Option.some.inj h1
    have C9:=av f l wK;rw [←hpl]at C9 bf;have Hi:=AmU C9;clear hp hpl C9 hl2 V9
    cases hL:f p
    ·have HE:=AmU hL;rw [hL]at bf;clear hL;(go_wp2_with fail);(with_reducible refine bf.mono ?_);rintro e w2 ⟨rfl,hx2⟩;have ho2:=AH ho hx2;have hgi:=ho2.cellAt i (by omega);rw [List.getElem?_map,Anc (by have:=LG.out;omega),Option.map_some]at hgi;have Da:=ho2.frozenAt i;have hst:=ho2.stored i (S p);rw [←List.map_set]at hst;have wP:Ds base w (w2.setCell ⟨g,i,none⟩ (S p)):=fun w0 h1 h2=>((Xw.out w0 h1 h2).trans hx2).setCell (p:=⟨g,i,none⟩) (Ani h2 hbg) _;have HS:=AmU (And.intro hst.1 wP);clear hst wP hg;go_wp2;go_roundw
     case rel=>
      refine⟨i+1,j+1,l2.set i p,by go_num,by go_num,by omega,hlt,by rw [List.length_set];exact LG.out,?_,?_,HS.out.1,HS.out.2⟩
      ·rw [Hi.out,HE.out,←XJ.out,Ana (by rw [List.length_set];have:=LG.out;omega),List.take_set_of_le (by omega),List.getElem_set_self]
       rfl
      ·have h1:=congrArg (List.drop 1) MX.out;rw [List.drop_drop,List.drop_drop]at h1;rw [←h1,List.drop_set_of_lt (by omega)]
     case measure=>simp [intOf];omega
    ·have HE:=AmU hL;rw [hL]at bf;clear hL;(go_wp2_with fail);(with_reducible refine bf.mono ?_);rintro e w2 ⟨rfl,hx2⟩;have ho2:=AH ho hx2;go_wp2;go_roundw
     case rel=>
      refine⟨i,j+1,l2,rfl,by go_num,by omega,hlt,LG.out,?_,?_,ho2,Xw.out.ext hx2⟩
      ·rw [Hi.out,HE.out,XJ.out];simp
      ·have h1:=congrArg (List.drop 1) MX.out;rw [List.drop_drop,List.drop_drop]at h1;exact h1
     case measure=>simp [intOf];omega
   ·clear V9;have hjn:j=n:=(by omega);subst hjn;have hle:(j:Int)<=(j:Int):=(by omega);have NG:(0:Int)<=(i:Int):=(by omega);have Pv:(i:Int)<=(j:Int):=(by omega);have KI:(i:Int)<=(c:Int):=(by omega);have hcl:=fun ty=>Lib.run_clear_slice (P:=Tryz.prog) wr 23 9 ty (S []) Tryz.underlying23 hz rfl rfl g i (j-i) (c-i) (by omega) (fun q hq=>by rw [ho.cellAt (i+q) (by omega),Anc (by simp;omega)];rfl) (fun q hq=>ho.frozenAt (i+q));obtain⟨l3,hl3,yV,Dw⟩:=ir (base:=base) (n:=j) (v:=.slice (some ⟨g,0,none⟩) j c) (g:=g) rfl (j-i) i l2 wr ho ⟨_,rfl⟩;have cK:=AhF Dw (i:=i) (by omega);have hk3:Ds base w (wr.setCells g i (List.replicate (j-i) (S []))):=fun w0 h1 h2=>qS g (Ani h2 hbg) _ _ _ (Xw.out w0 h1 h2)
    have AX:Xm f base l w (.returned (.slice (some ⟨g,0,none⟩) i c)) (wr.setCells g i (List.replicate (j-i) (S []))):=by
     have e:l3.take i=Ez f l:=by rw [yV,XJ.out,Ang (by rw [←HN.out];exact AmX _)]
     have e2:(Ez f l).length=i:=(by rw [←e,List.length_take];omega);refine⟨⟨some ⟨g,0,none⟩,c,by rw [e2],?_⟩,hk3⟩;rw [e2,←e];exact cK
    have HF:=AmU AX;clear AX Dw cK hk3 ho hl3 yV;go_wp2;go_ret;exact HF.out
def JI(l:List Bs):List Bs:=Ez YS l
def rh(base:Nat)(l:List Bs)(w:World)(e:Ending)(w':World):Prop:=
 (∃(A:Option Addr) (c:Nat),e=.returned (.slice A (JI l).length c)/\w'.ownsRow base 9 1 (.slice A (JI l).length c) (JI l).length ((JI l).map S))/\Ds base w w'
theorem AbB(base:Nat)(l:List Bs)(v:Value)(w:World)(hown:w.ownsRow base 9 1 v l.length (l.map S))(hl:l.length<=100000) :
  Calls Tryz.prog 27 #[v,.func (.func 95) #[] #[]] w (rh base l w):=
 AbA (cb:=#[]) Acm YS base l v w hown hl (fun e _ W _=>Akp e W)
theorem Akq(F:List Bs):Cz F=Lib.compact ((JI F).mergeSort fun x y=>decide (x<=y)):=by
 unfold Cz JI Ez
 rfl
def lQ(l:List Bs)(w:World)(e:Ending)(w':World):Prop:=∃A c base,w.heap.size<=base/\e=.returned (.slice A l.length c)/\w'.ownsRow base 9 1 (.slice A l.length c) l.length (l.map S)/\Aa w w'
section
open Go.Shelf
theorem AfS{g:Nat}{cb:Array Value}{cf:Bs→Bs→Int}{blk size:Nat}{w:World}
  (h:∀W,w.grownBy W (some blk)→∀x y,Calls Tryz.prog g (#[S x,S y]++cb) W (AA (cf x y) W)):CmpLays1 Tryz.prog g cb encStr cf blk 0 size w:=by
 intro m os dk _ x y;have hg:w.grownBy (sortWorld encStr w blk 0 m dk os) (some blk):=grownBy_sorted dk;refine(Calls.drawn (h _ hg x y) (fun e w' h=>⟨_,h.1⟩)).mono ?_;rintro e w' ⟨⟨he,hx⟩,hd⟩;exact⟨he,hx.grow hd⟩
theorem Abo(c:List La)(A:Option Addr)(cc bc:Nat)(w:World)(hb:w.cell? ⟨bc,0,none⟩=some (.slice A c.length cc))(hr:Ae w A (Cr c))(h1:c.length<=cc)(h2:cc<=9223372036854775807)(a b:Bs) :
  Calls Tryz.prog 44 #[S a,S b,.pointer (some ⟨bc,0,none⟩)] w (AA (DC c a b) w):=by
 have cu:=fun W (hx:Aa w W)=>oR c A cc W (hr.ext hx) h1 h2 a b;have cw:=cu w (Aa.refl w);generalize DC c a b=z at *;clear hr cu;go_enter Tryz.func44,Tryz.ntmps44;(go_wp2_with fail);(with_reducible refine cw.mono ?_);rintro e w1 ⟨rfl,hx⟩;go_wp2;go_ret;exact⟨rfl,hx⟩
theorem Acj:∀args w,(callFunc 44 args).run Tryz.prog w=.ok (.enter 44 args) w:=enters_of Tryz.func44 (by kernel_rfl) rfl
theorem Ah3:OneCell encStr:=fun _=>rfl
theorem Aj1(c:List La)(A:Option Addr)(cc bc:Nat)(w0 w:World)(hb:w0.cell? ⟨bc,0,none⟩=some (.slice A c.length cc))(hr:Ae w0 A (Cr c))(h1:c.length<=cc)(h2:cc<=9223372036854775807)(hx:Aa w0 w)(base:Nat)(h0:w0.heap.size<=base)
  (l:List Bs) (v:Value) (hown:w.ownsRow base 9 1 v l.length (l.map S)) (hl:l.length<=100000) :
  Calls Tryz.prog 18 #[v,.func (.func 44) #[] #[.pointer (some ⟨bc,0,none⟩)]] w (fun e w'=>e=.returned (.tuple #[])/\w'.ownsRow base 9 1 v l.length ((EC c l).map S)/\Ds base w w'):=by
 have hU:(EC c l).length=l.length:=List.length_mergeSort l
 rcases hown.2 with⟨rfl,hz⟩|⟨g,cap,cur,rfl,hbase,IF,k1,k2,k3,k4⟩
 ·have hl0:l.length=0:=hz;have hnil:l = []:=List.eq_nil_of_length_eq_zero hl0;subst hnil;refine(AnyF.slices_SortFunc_none {Tryz.laysSortSt with} none 0 _ w).mono ?_;rintro e w' ⟨rfl,rfl⟩;refine⟨rfl,?_,fun _ h _=>h⟩;have:EC c [] = []:=(by unfold EC;simp);rw [this];exact hown
 ·have hv:(Value.slice (some ⟨g,0,none⟩) l.length cap)≠.slice none 0 0:=(by simp);obtain⟨g',cap',he,-,hlt,-,-,-,hH⟩:=Lib.holds_of_ownsRow (enc:=encStr) (zs:=l) hown hv
  cases he
  have hs:=Any.slices_SortFunc_total Tryz.laysSortSt encStr Ah3 (DC c) (AjT c) 44 #[.pointer (some ⟨bc,0,none⟩)] g 0 cap l.toArray w Acj
   (AfS fun W hg x y=>Abo c A cc bc W ((Nt hx hg (by omega)).cellS hb) (hr.ext (Nt hx hg (by omega))) h1 h2 x y) hH hlt (by simp;omega) (Akh c)
  refine hs.mono ?_;rintro e w' ⟨rfl,n,os,rfl⟩;refine⟨rfl,ownsRow_sorted (n:=n) (os:=os) hU hbase IF k1 k2 k3,fun w1 h h'=>?_⟩;exact h.grown (grownBy_sorted _) (fun j hj=>by cases hj;omega)
end
end Go.Proofs.YtbejphgbbpplbaaGreatDoor
namespace Go.Proofs.YtbejphgbbpplbaaGreatDoor
open Go.RowKit Kl
theorem Akr(m:Cm)(fa:List Bs)(A B F:Option Addr)(c d g:Nat)(w:World)(hF:Ae w F (fa.map S))(hn:m.nf=fa.length)(hl:fa.length<=100000) :
  Calls Tryz.prog 40 #[C2 A B F m c d g] w (lQ (Cz fa) w):=by
 have hb:=AmW w (.cells #[.slice A m.pts.length c,.slice B m.eds.length d,.slice F m.nf g] 36);have hE:=(Aa.refl w).alloc (.cells #[.slice A m.pts.length c,.slice B m.eds.length d,.slice F m.nf g] 36);have cl:=Aba fa F g (w.alloc (.cells #[.slice A m.pts.length c,.slice B m.eds.length d,.slice F m.nf g] 36)) (hF.ext hE) hl;rw [←hn]at cl;have HN:=AmU hn;unfold C2;clear hn hF;go_enter Tryz.func40,Tryz.ntmps40
 go_upto_region 1 with fail
 generalize w.alloc (.cells #[.slice A m.pts.length c,.slice B m.eds.length d,.slice F m.nf g] 36)=V at *;obtain⟨bm,Dk⟩:=AmT w.heap.size;rw [←Dk]at hb ⊢;have k1:=Ab (o:=2) hb rfl;have HBM:=AmU Dk;clear Dk;clear hb;(go_wp2_with fail);(with_reducible refine cl.mono ?_);rintro e w1 ⟨v,rfl,ho1,hx1⟩;have hB:=hE.size;have del:=AbB _ fa v w1 ho1 hl;clear k1;(go_wp2_with fail);(with_reducible refine del.mono ?_);rintro e w2 ⟨⟨A2,c2,rfl,ho2⟩,kp2⟩;have hk:(JI fa).length<=100000:=Ani (List.length_filter_le _ _) hl;have so:=Aj0 _ (JI fa) _ w2 ho2 hk;(go_wp2_with fail);(with_reducible refine so.mono ?_);rintro e w3 ⟨rfl,Dw,kp3⟩;have Dn:((JI fa).mergeSort fun x y=>decide (x<=y)).length=(JI fa).length:=List.length_mergeSort _;rw [←Dn]at Dw;have co:=Abx _ _ _ w3 Dw (by rw [Dn];exact hk);rw [←Akq]at co;rw [Dn]at co;clear Dn;(go_wp2_with fail);(with_reducible refine co.mono ?_);rintro e w4 ⟨⟨A4,c4,rfl,BS⟩,kp4⟩;have AX:lQ (Cz fa) w (.returned (.slice A4 (Cz fa).length c4)) w4:=⟨A4,c4,_,hB,rfl,BS,((kp2.trans kp3).trans kp4) w (hE.trans hx1) hB⟩;have HF:=AmU AX;clear AX ho1 ho2 Dw BS kp2 kp3 kp4;go_wp2;go_ret;exact HF.out
def O7(l:List En)(z:Int)(w:World)(e:Ending)(w':World):Prop:=∃A c,e=.returned (.tuple #[.slice A l.length c,.int .i64 z])/\Ae w' A (Bz l)/\l.length<=c/\c<=9223372036854775807/\Aa w w'
def D3(c:List La)(fa:List Bs)(w:World)(e:Ending)(w':World):Prop:=O7 (if I5 c fa=0 then Cg c (EC c (Cz fa))else []) (I5 c fa) w e w'
theorem O7.no{z:Int}{w w':World}(h:Aa w w'):O7 [] z w (.returned (.tuple #[.slice none 0 0,.int .i64 z])) w':=⟨none,0,rfl,⟨fun h=>by simp [Bz]at h⟩,by simp,by omega,h⟩
theorem pq(W:World)(x y:Obj):((W.alloc x).alloc y).heap[W.heap.size+1]?=some y/\((W.alloc x).alloc y).heap[W.heap.size]?=some x/\Aa W ((W.alloc x).alloc y):=by
 have h1:=AmW (W.alloc x) y;have h2:=(((Aa.refl (W.alloc x)).alloc y).block W.heap.size (by simp)).trans (AmW W x);have e:(W.alloc x).heap.size=W.heap.size+1:=(by simp);rw [e]at h1;exact⟨h1,h2,((Aa.refl W).alloc x).alloc y⟩
theorem AgD{F:List Bs}{u:Bs}(h:u∈Cz F):u∈F:=by
 unfold Cz at h
 have h1:u∈(F.filter (fun s=>s != [])).mergeSort (fun x y=>decide (x<=y)):=by unfold Lib.compact Lib.compactUpTo at h;rw [List.mem_map]at h;obtain⟨j,hj,rfl⟩:=h;rw [List.mem_filter,List.mem_range]at hj;rw [getElem!_pos _ j (by simpa using hj.1)];simp
 rw [List.mem_mergeSort]at h1;exact(List.mem_filter.1 h1).1
theorem nD{w:World}{b:Nat}{a0 a1 a2 a3:Value}{t:TypeId}(v:Value)(h:w.heap[b]?=some (.cells #[a0,a1,a2,a3] t)):(w.setCell ⟨b,3,none⟩ v).heap[b]?=some (.cells #[a0,a1,a2,v] t):=by
 simp only [World.setCell,Array.getElem?_modify,h];simp
theorem qH{a0 a1 a2:Value}{t:TypeId}{a:ByteArray}{b:Bs}(h:a=⟨b.toArray⟩):some (Obj.cells #[a0,a1,a2,.string a] t)=some (Obj.cells #[a0,a1,a2,S b] t):=by rw [h]
theorem AjZ{c:List La}(h:∀y∈c,y.mn.length<100000/\y.mx.length<100000)(u:Bs):(textU c u).length<300000:=by
 unfold textU
 have:∀(l:List La) (t:Bs),(∀y∈l,y.mn.length<100000/\y.mx.length<100000)→t.length<300000→(l.foldl (Gd u) t).length<300000:=by
  intro l
  induction l with
  | nil=>intro t _ ht;exact ht
  | cons y l ih=>
   intro t hl ht;refine ih _ (fun z hz=>hl z (List.mem_cons_of_mem _ hz)) ?_;obtain⟨a,b⟩:=hl y (by simp);unfold Gd SV
   split
   ·split
    ·simp [Ol];omega
    ·simp [Ol];omega
   ·exact ht
 exact this c [] h (by decide)
theorem AjY(c:List La)(u:Bs){j:Nat}(h:j<c.length):(c.take (j+1)).foldl (Gd u) []=Gd u ((c.take j).foldl (Gd u) []) c[j]:=by
 rw [Ana h,List.foldl_append]
 rfl
theorem Abn(u:Bs)(hu:u.length<1000000)(w:World):Calls Tryz.prog 42 #[S u] w (BC (!nameB u) w):=by
 have nm:=eA u hu w;generalize nameB u=b at *;go_enter Tryz.func42,Tryz.ntmps42;(go_wp2_with fail);(with_reducible refine nm.mono ?_);rintro e w1 ⟨rfl,hx⟩;go_wp2;go_ret;exact⟨rfl,hx⟩
theorem Ach:∀args w,(callFunc 42 args).run Tryz.prog w=.ok (.enter 42 args) w:=enters_of Tryz.func42 (by kernel_rfl) rfl
theorem oV(c:List La)(A:Option Addr)(cc:Nat)(m:Cm)(fa:List Bs)(A1 B1 F1:Option Addr)(c1 d1 g1:Nat)(w:World)(hr:Ae w A (Cr c))(h1:c.length<=cc)(h2:cc<=9223372036854775807)(hF:Ae w F1 (fa.map S))(hn:m.nf=fa.length)(hl:fa.length<=1000)
  (hlen:∀u∈fa,u.length<1000000) (hlc:∀y∈c,y.mn.length<100000/\y.mx.length<100000) (Pj:∀W,Aa w W→Calls Tryz.prog 32 #[.slice A c.length cc] W (AA 0 W)) (cO:∀W,Aa w W→Calls Tryz.prog 33 #[C2 A1 B1 F1 m c1 d1 g1] W (AA 0 W)) :
  Calls Tryz.prog 10 #[.slice A c.length cc,C2 A1 B1 F1 m c1 d1 g1] w (D3 c fa w):=by
 have hV:=pq w (.cells #[.slice A c.length cc] 32) (.cells #[.slice A1 m.pts.length c1,.slice B1 m.eds.length d1,.slice F1 m.nf g1] 36);obtain⟨hB,hA,hE⟩:=hV;have un:=fun W (hx:Aa w W)=>Akr m fa A1 B1 F1 c1 d1 g1 W (hF.ext hx) hn (by omega);have HLEN:=AmU hlen;have kP:=AmU hlc;have Hh:=AmU hr;obtain⟨r,hr0⟩:=AmT (I5 c fa);have HR:=AmU hr0;unfold C2 at cO un ⊢;have HNF:=AmU hn;clear hF hlen hlc hr hr0 hn;go_enter Tryz.func10,Tryz.ntmps10
 go_upto_region 1 with fail
 generalize (w.alloc (.cells #[.slice A c.length cc] 32)).alloc (.cells #[.slice A1 m.pts.length c1,.slice B1 m.eds.length d1,.slice F1 m.nf g1] 36)=V at *;obtain⟨bc,RO⟩:=AmT w.heap.size;rw [←RO]at hA hB ⊢;clear RO;have k1:=Ab (o:=0) hA rfl;(go_wp2_with fail);(with_reducible refine(Pj V hE).mono ?_);rintro e w1 ⟨rfl,hx1⟩;have hB1:=(hx1.block _ (AmV hB)).trans hB;have j1:=Ab (o:=0) hB1 rfl;have j2:=Ab (o:=1) hB1 rfl;have j3:=Ab (o:=2) hB1 rfl;have X1:=hE.trans hx1;clear k1 hB Pj;(go_wp2_with fail);(with_reducible refine(cO w1 X1).mono ?_);rintro e w2 ⟨rfl,hx2⟩;have hB2:=(hx2.block _ (AmV hB1)).trans hB1;have X2:=X1.trans hx2;have Yd:=hx1.trans hx2;clear j1 j2 j3 hB1 cO hx1 hx2 X1;have j1:=Ab (o:=0) hB2 rfl;have j2:=Ab (o:=1) hB2 rfl;have j3:=Ab (o:=2) hB2 rfl;(go_wp2_with fail);(with_reducible refine(un w2 X2).mono ?_);rintro e w3 ⟨A3,c3,base,hb3,rfl,Dw,hx3⟩;have Ye:=Yd.trans hx3;have X3:=hE.trans Ye;obtain⟨A3',Y7,e3,hr3,hc3,aE⟩:=Ae.of_own' (by omega) Dw
 cases e3;have HM:=AmU (fun u (hu:u∈Cz fa)=>HLEN.out u (AgD hu));have an:=zf (cb:=#[]) Ach (fun u=>!nameB u) (Cz fa) A3 c3 w3 hr3 hc3 aE (fun u hu W _=>Abn u (HM.out u hu) W);clear j1 j2 j3 hB2 un;have Ph:V.heap.size<=base:=Ani Yd.size hb3;obtain⟨l,hl0⟩:=AmT (Cz fa)
 have hce:r=if l.any (fun u=>!nameB u)=true then 8 else if 20<l.length then 4 else if (Cg c (EC c l)).any (fun x=>decide (80<x.t.length))=true then 16 else 0:=by rw [HR.out,hl0];rfl
 have LD:=AmU hce;have GB:=AmU hl0;rw [←hl0]at Dw hr3 hc3 an ⊢;clear hl0 hce
 cases a1:l.any (fun u=>!nameB u)
 rotate_left
 ·have hr8:r=8:=(by rw [LD.out,if_pos a1]);rw [a1]at an;subst hr8;clear a1;(go_wp2_with fail);(with_reducible refine an.mono ?_);rintro e w4 ⟨rfl,Ai⟩
  have AX:D3 c fa w (.returned (.tuple #[.slice none 0 0,.int .i64 8])) w4:=by unfold D3;rw [←HR.out,if_neg (by omega)];exact O7.no (X3.trans Ai)
  have HF:=AmU AX;clear AX Dw hr3;go_wp2;go_ret2;exact HF.out
 have jY:=AmU (show ¬(l.any (fun u=>!nameB u)=true)by rw [a1];simp);rw [a1]at an;clear a1;(go_wp2_with fail);(with_reducible refine an.mono ?_);rintro e w4 ⟨rfl,Ai⟩;have Yf:=Ye.trans Ai;have X4:=X3.trans Ai;have BS:=AH Dw Ai;clear Dw hr3 Ai an;by_cases Dh:20<l.length
 ·have hr4:r=4:=(by rw [LD.out,if_neg jY.out,if_pos Dh]);have t1:(20:Int)<(l.length:Int):=(by omega);subst hr4
  have AX:D3 c fa w (.returned (.tuple #[.slice none 0 0,.int .i64 4])) w4:=by unfold D3;rw [←HR.out,if_neg (by omega)];exact O7.no X4
  have HF:=AmU AX;clear AX BS;go_wp2;go_ret2;exact HF.out
 have t1:¬(20:Int)<(l.length:Int):=(by omega);have so:=Aj1 c A cc bc V w4 (Ab (o:=0) hA rfl) (Hh.out.ext hE) h1 h2 Yf base Ph l _ BS (by omega);(go_wp2_with fail);(with_reducible refine so.mono ?_);rintro e w5 ⟨rfl,Ck,kp5⟩;have hU:(EC c l).length=l.length:=List.length_mergeSort l;have X5:=kp5 w X4 (Ani hE.size Ph);have Ud:=kp5 V Yf Ph;obtain⟨l2,hl2⟩:=AmT (EC c l);rw [←hl2]at Ck hU;have LG:=AmU hl2
 have hce:r=if (Cg c l2).any (fun x=>decide (80<x.t.length))=true then 16 else 0:=by rw [LD.out,if_neg jY.out,if_neg Dh,←hl2]
 have kC:=AmU hce;obtain⟨n,hn⟩:=AmT l.length;rw [←hn]at Ck hU Dh t1 ⊢;obtain⟨A5,c5,e5,xU,-,-⟩:=Ae.of_own' (by omega) Ck
 cases e5;have O2:=AmU xU;have HN:=AmU hn;have XE:=AmU hU;have HA:=AmU ((Ud.block _ (AmV hA)).trans hA);have lE:=AmU (And.intro hE (And.intro Ud X5));have Kd:=AmU (Hh.out.ext X5);have h5b:=Ud.size;have Aeq:=AmV HA.out;clear hl2 hce hn hU xU Ck kp5 so BS hA X4 Yf X3 Ye X2 Yd hE X5 Ud hx3
 go_upto_region 15 with fail
 clear t1
 go_loopw [9,40] (fun ov kv wr=>∃(k:Nat),kv=.int .i64 (k:Nat)/\k<=n/\wr.ownsRow w5.heap.size 40 4 ov k (Bz (Cg c (l2.take k)))/\(∀e∈Cg c (l2.take k),e.t.length<=80)/\Aa w5 wr) (fun _ kv _=>n-(intOf kv).toNat)
 case atStart=>exact⟨0,rfl,by omega,⟨rfl,.inl ⟨rfl,rfl⟩⟩,by intro e he;simp [Cg]at he,Aa.refl _⟩
 case round=>
  obtain⟨k,rfl,hk,hown,Ie,Ac⟩:=hrel;have Ke:=AmU Ie;clear Ie;by_cases hkn:k<n
  ·have CN:k<l2.length:=(by rw [XE.out];exact hkn);obtain⟨b,o,rfl,hcs⟩:=(O2.out.ext Ac).ad (by rw [List.length_map];omega);have hck:=hcs k (by rw [List.length_map];exact CN);rw [List.getElem_map]at hck;obtain⟨u,hu⟩:=AmT (l2[k]);rw [←hu]at hck;have HU:=AmU hu;have hk0:(0:Int)<=(k:Int):=(by omega);have Ci:(k:Int)<(n:Int):=(by omega);have AlX:(k:Int)<=20:=(by omega);have v1:IntKind.wrap .i64 ((k:Int)+1)=(k:Int)+1:=Ane _ (by omega);have v2:IntKind.wrap .i64 (97+(k:Int))=97+(k:Int):=Ane _ (by omega);have v3:IntKind.wrap .u8 (97+(k:Int))=97+(k:Int):=(by simp [IntKind.wrap,IntKind.bits,IntKind.signed];omega);have v4:IntKind.wrap .i64 (1+(k:Int)%5)=1+(k:Int)%5:=Ane _ (by omega);obtain⟨sy,Ee⟩:=AmT (UInt8.ofNat (97+k):UInt8);have C9:(sy.toNat:Int)=97+(k:Int):=by rw [Ee,UInt8.toNat_ofNat'];omega
   have hcv:(convert 42 9 (.slice (some ⟨wr.heap.size,0,none⟩) 1 1)).run Tryz.prog (wr.alloc (.cells #[.int .u8 (97+(k:Int))] 5))=.ok (S [sy]) (wr.alloc (.cells #[.int .u8 (97+(k:Int))] 5)):=run_convert_bytes_back (P:=Tryz.prog) (wr.alloc (.cells #[.int .u8 (97+(k:Int))] 5)) 42 9 5 ⟨wr.heap.size,0,none⟩ 1 [sy] Tryz.underlying42 Tryz.underlying5 Tryz.underlying9 (by
    intro j hj;have:j=0:=(by simpa using hj);subst this;rw [Addr.add_lit]
    exact(Ab (AmW wr _) rfl).trans (by rw [List.getElem_cons_zero,C9];rfl))
   have hxb:=pq wr (.cells #[.int .u8 (97+(k:Int))] 5) (.cells #[S u,S [sy],.int .i64 (1+(k:Int)%5),S []] 40);have xf:=AmU Ee;clear hu hcs Ee C9
   go_upto_region 18 with fail
   clear hcv v2 v3 v4 hck;have ZL:=(Aa.refl wr).alloc (.cells #[.int .u8 (97+(k:Int))] 5);have Ig:(wr.alloc (.cells #[.int .u8 (97+(k:Int))] 5)).heap.size=wr.heap.size+1:=(by simp);have dP:=(Aa.refl (wr.alloc (.cells #[.int .u8 (97+(k:Int))] 5))).alloc (.cells #[S u,S [sy],.int .i64 (1+(k:Int)%5),S []] 40);have xI:=AH hown ZL;obtain⟨hb1,-,-⟩:=hxb;unfold S at dP hb1;generalize (wr.alloc (.cells #[.int .u8 (97+(k:Int))] 5)).alloc (.cells #[.string ⟨u.toArray⟩,.string ⟨[sy].toArray⟩,.int .i64 (1+(k:Int)%5),.string ⟨([]:Bs).toArray⟩] 40)=V1 at *;generalize wr.alloc (.cells #[.int .u8 (97+(k:Int))] 5)=V0 at *;obtain⟨bx,Ay⟩:=AmT (wr.heap.size+1);rw [←Ay]at hb1 Ig ⊢;have UU:V0.heap.size<=bx:=(by omega);have UH:=Ac.trans ZL;have hA1:=(UH.block _ (AmV HA.out)).trans HA.out;have ka:V1.cell? ⟨bc,0,none⟩=some (.slice A c.length cc):=dP.cellS (Ab (o:=0) hA1 rfl);have XF:=AmU xI;obtain⟨oP,oc,rfl⟩:=fZ (by omega) hown;clear Ay Ig hown xI ZL Ac
   go_upto_region 19 with fail
   clear ka
   go_loopw [57] (fun jv wi=>∃(j:Nat),jv=.int .i64 (j:Nat)/\j<=c.length/\wi.heap[bx]?=some (.cells #[S u,S [sy],.int .i64 (1+(k:Int)%5),S ((c.take j).foldl (Gd u) [])] 40)/\Aa V0 wi) (fun jv _=>c.length-(intOf jv).toNat)
   case atStart=>exact⟨0,rfl,by omega,hb1,dP⟩
   case round=>
    obtain⟨j,rfl,hj,H6,MA⟩:=hrel;obtain⟨tj,dG⟩:=AmT ((c.take j).foldl (Gd u) []);rw [←dG]at H6;have lA:=AmU dG;clear dG;by_cases hjn:j<c.length
    ·have Vx:=hjn;obtain⟨b',o',rfl,hg1,hg2,hg3⟩:=iF (Kd.out.ext (UH.trans MA)) Vx;obtain⟨m2,m3⟩:=kP.out c[j] (AmY Vx);have C9:=AjY c u Vx;rw [←lA.out]at C9;obtain⟨y,hy⟩:=AmT (c[j]);rw [←hy]at hg1 hg2 hg3 m2 m3 C9;have Hi:=AmU C9;have hj0:(0:Int)<=(j:Int):=(by omega);have Ms:(j:Int)<(c.length:Int):=(by omega);have v5:IntKind.wrap .i64 ((j:Int)+1)=(j:Int)+1:=Ane _ (by omega);have hyb:=AmW wr (.cells #[S y.u,S y.mn,S y.mx] 31);have hx2:=(Aa.refl wr).alloc (.cells #[S y.u,S y.mn,S y.mx] 31);have NB:=(hx2.block _ (AmV H6)).trans H6;have dR:=MA.trans hx2;have hne:wr.heap.size≠bx:=(by have:=AmV H6;omega);clear hy C9 H6 MA hx2
     go_upto_region 21 with fail
     generalize wr.alloc (.cells #[S y.u,S y.mn,S y.mx] 31)=W1 at *;obtain⟨by_,uW⟩:=AmT wr.heap.size;rw [←uW]at hyb hne ⊢;clear uW hg1 hg2 hg3;have f1:=Ab (o:=0) hyb rfl;have f2:=Ab (o:=1) hyb rfl;have f3:=Ab (o:=2) hyb rfl;by_cases MB:y.u=u
     ·have t1:(y.u == u)=true:=(by rw [MB];exact beq_self_eq_true u);have p4:=Ab (o:=3) NB rfl;have q4:=AU (o:=3) NB;by_cases hm0:y.mx = []
      ·have M7:Gd u tj y=y.mn++Ol ++ [45]:=(by unfold Gd SV;rw [if_pos MB,if_pos hm0]);rw [hm0]at f3;have XK:=AmU (Hi.out.trans M7);have Xq:=AmU NB;clear MB hm0 M7 NB;go_wp2;go_roundw
       case rel=>refine⟨j+1,by go_num,hjn,(nD _ Xq.out).trans (qH ?_),dR.setCell (p:=⟨bx,3,none⟩) UU _⟩;rw [XK.out];apply ByteArray.ext;simp [Ol]
       case measure=>simp [intOf];omega
      ·have M7:Gd u tj y=y.mn++Ol++y.mx:=(by unfold Gd SV;rw [if_pos MB,if_neg hm0]);have t3:(y.mx == [])=false:=beq_false_of_ne hm0
       have t4:y.mx.isEmpty=false:=by cases hm:y.mx with|nil=>exact absurd hm hm0|cons a b=>rfl
       have XK:=AmU (Hi.out.trans M7);have Xq:=AmU NB;clear MB M7 NB;go_wp2;go_roundw
       case rel=>refine⟨j+1,by go_num,hjn,(nD _ Xq.out).trans (qH ?_),dR.setCell (p:=⟨bx,3,none⟩) UU _⟩;rw [XK.out];apply ByteArray.ext;simp [Ol]
       case measure=>simp [intOf];omega
     ·have t1:(y.u == u)=false:=beq_false_of_ne MB;have M7:Gd u tj y=tj:=if_neg MB;have HH:=AmU (show W1.heap[bx]?=some (.cells #[S u,S [sy],.int .i64 (1+(k:Int)%5),S ((c.take (j+1)).foldl (Gd u) [])] 40)by rw [Hi.out,M7];exact NB);clear MB M7;go_wp2;go_roundw
      case rel=>exact⟨j+1,by go_num,hjn,HH.out,dR⟩
      case measure=>simp [intOf];omega
    ·have JB:j=c.length:=(by omega);subst JB;have VQ:tj=textU c u:=(by rw [lA.out,List.take_length];rfl);have hd:QV c k u=⟨u,[sy],1+(k:Int)%5,tj⟩:=(by unfold QV;rw [←VQ,←xf.out,Int.natCast_emod];rfl);have Ef:tj.length<300000:=(by rw [VQ];exact AjZ kP.out u);have q1:=Ab (o:=0) H6 rfl;have q2:=Ab (o:=1) H6 rfl;have q3:=Ab (o:=2) H6 rfl;have q4:=Ab (o:=3) H6 rfl;have HD:=AmU hd;have HTU:=AmU VQ;clear VQ hd;by_cases Zg:80<tj.length
     ·have t6:(80:Int)<(tj.length:Int):=by omega
      have xT:r=16:=by rw [kC.out,if_pos];rw [List.any_eq_true];have Cp:k<(Cg c l2).length:=(by rw [Nq];exact CN);refine⟨(Cg c l2)[k],AmY Cp,?_⟩;rw [YI c l2 CN Cp,←HU.out,HD.out];exact decide_eq_true Zg
      have AX:D3 c fa w (.returned (.tuple #[.slice none 0 0,.int .i64 16])) wr:=by unfold D3;rw [←HR.out,xT,if_neg (by omega)];exact O7.no ((lE.out.2.2.trans UH).trans MA)
      have HF:=AmU AX;clear AX xT Zg;go_wp2;go_ret2;exact HF.out
     ·have t6:¬(80:Int)<(tj.length:Int):=(by omega);have hX:=UH.trans MA;have hown2:=AH XF.out MA;have AcW:tj.length<=80:=(by omega);clear Zg
      go_wp2_with (at_builtin;go_loud (refine zj rfl _ _ rfl _ w5.heap.size (.slice oP k oc) k (Cg c (l2.take k)) rfl (AH hown2 ((Aa.refl wr).alloc _)) (by omega) ⟨u,[sy],1+(k:Int)%5,tj⟩ wr.heap.size (AmW _ _) rfl (Ani hX.size ((Aa.refl wr).alloc _).size) ?_);intro v9 w9 hown9 hext9)
      have hnew:=hext9 w5 (hX.trans ((Aa.refl wr).alloc _)) (AmX _);have IH:=Abt c l2 CN;rw [←HU.out,HD.out]at IH;rw [←IH]at hown9
      have yO:∀e∈Cg c (l2.take (k+1)),e.t.length<=80:=by
       rw [IH];intro e he
       rcases List.mem_append.1 he with h|h
       ·exact Ke.out e h
       ·rw [List.mem_singleton.1 h];exact AcW
      have Cu:=AmU (And.intro hown9 (And.intro yO hnew));clear hown9 hnew hext9 yO IH q1 q2 q3 q4;go_wp2;go_roundw
      case rel=>exact⟨k+1,by go_num,hkn,Cu.out.1,Cu.out.2.1,Cu.out.2.2⟩
      case measure=>simp [intOf];omega
  ·have B6:k=n:=(by omega);subst B6;have hall:l2.take k=l2:=Ang (by rw [XE.out];exact AmX _);obtain⟨A9,c9,rfl,r9,s9,t9⟩:=Ae.of_own' (by omega) hown;have hs2:=Ke.out;rw [hall]at r9 hs2;have Ib:(Cg c l2).length=k:=by rw [Nq];exact XE.out
   have xR:r=0:=by rw [kC.out,if_neg];rw [List.any_eq_true];rintro⟨x,hx,h⟩;have:=hs2 x hx;have:=of_decide_eq_true h;omega
   have AX:D3 c fa w (.returned (.tuple #[.slice A9 k c9,.int .i64 0])) wr:=by unfold D3;rw [←HR.out,xR,if_pos rfl,←GB.out,←LG.out];exact⟨A9,c9,by rw [Ib],r9,by rw [Ib];exact s9,t9,lE.out.2.2.trans Ac⟩
   have HF:=AmU AX;clear AX r9 hown hall Ib hs2 xR;go_wp2;go_ret2;exact HF.out
end Go.Proofs.YtbejphgbbpplbaaGreatDoor
