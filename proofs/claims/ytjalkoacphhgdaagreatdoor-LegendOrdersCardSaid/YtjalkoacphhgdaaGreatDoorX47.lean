/- X47: T7 LGU LGS LGK. -/
import Derived.Test.YtjalkoacphhgdaaGreatDoorX05
import Derived.Test.YtjalkoacphhgdaaGreatDoorX38
import Derived.Lib.OwnBridge
set_option maxRecDepth 100000
set_option maxHeartbeats 16000000
namespace Go.Proofs.YtjalkoacphhgdaaGreatDoor
open Go.RowKit Kl Go.Sort
theorem AnY(l:List Bs)(j:Nat)(hj:j<l.length):((l.map fun x=>(⟨x.toArray⟩:ByteArray)).getD j ByteArray.empty)=⟨l[j].toArray⟩:=by
 simp [List.getD_eq_getElem?_getD,AqP hj]
def Aau(l:List Bs)(w:World)(e:Ending)(w':World):Prop:=∃v,e=.returned v/\w'.ownsRow w.heap.size 9 1 v l.length (l.map S)/\Aa w w'
theorem Ad9(l:List Bs)(A:Option Addr)(c:Nat)(w:World)(hr:Ad w A (l.map S))(hl:l.length<=100000) :
  Calls Tryz.prog 31 #[.slice A l.length c] w (Aau l w):=by
 by_cases h0:l = []
 ·subst h0
  cases A with
  | none=>
   refine(Tryz.slices_Clone_string_nil 0 c w).mono ?_;rintro e w' ⟨rfl,rfl⟩;exact⟨_,rfl,⟨rfl,.inl ⟨rfl,rfl⟩⟩,Aa.refl _⟩
  | some a=>refine(Tryz.slices_Clone_string_zero a c w).mono ?_;rintro e w' ⟨v,rfl,h,-,hb⟩;exact⟨v,rfl,h,hb⟩
 ·have BW:0<l.length:=by cases l with|nil=>exact absurd rfl h0|cons a b=>simp
  obtain⟨b,o,rfl,hc⟩:=hr.ad (by simpa using BW);refine(Tryz.slices_Clone_string b o l.length c (l.map fun x=>(⟨x.toArray⟩:ByteArray)) w (by simp) (by omega) (fun j hj=>?_)).mono ?_
  ·have hj':j<l.length:=(by simpa using hj);rw [AnY l j hj'];have:=hc j (by simpa using hj');rw [List.getElem_map]at this;exact this
  ·rintro e w' ⟨v,rfl,h,-,hb⟩;refine⟨v,rfl,?_,hb⟩
   have e1:((l.map fun x=>(⟨x.toArray⟩:ByteArray)).take l.length).map Value.string=l.map S:=by rw [AqS (by simp),List.map_map];rfl
   rw [e1]at h;exact h
def Ew(base:Nat)(w w':World):Prop:=∀w0,Aa w0 w→w0.heap.size<=base→Aa w0 w'
theorem Ew.trans{base:Nat}{a b c:World}(h:Ew base a b)(k:Ew base b c):Ew base a c:=fun w0 h1 h2=>k w0 (h w0 h1 h2) h2
theorem Ew.ext{base:Nat}{a b c:World}(h:Ew base a b)(k:Aa b c):Ew base a c:=fun w0 h1 h2=>(h w0 h1 h2).trans k
theorem Ew.of{base:Nat}{a b:World}(k:Aa a b):Ew base a b:=fun _ h1 _=>h1.trans k
theorem AkW{w:World}{base n g cap:Nat}{l:List Bs}(h:w.ownsRow base 9 1 (.slice (some ⟨g,0,none⟩) n cap) n (l.map S)){i:Nat}(hi:i<=n) :
  w.ownsRow base 9 1 (.slice (some ⟨g,0,none⟩) i cap) i ((l.take i).map S):=by
 have hl:=h.1;rw [List.length_map,Nat.mul_one]at hl;refine⟨by simp;omega,.inr ?_⟩
 rcases h.2 with⟨h0,_⟩|⟨g',cap',cur,e,hb,hg,h1,h2,h3,h4⟩
 ·cases h0
 ·cases e;refine⟨g,cap,cur,rfl,hb,hg,by omega,h2,h3,?_⟩;have e2:=congrArg (List.take (i*1)) h4;rw [List.take_take]at e2;rw [Nat.min_eq_left (by omega)]at e2;rw [e2,Nat.mul_one,List.map_take]
theorem vB{w0:World}(b:Nat)(hb:w0.heap.size<=b):∀(vs:List Value) (o:Nat) (w:World),Aa w0 w→Aa w0 (w.setCells b o vs)
 | [],_,_,h=>h
 | v::r,o,_,h=>vB b hb r (o+1) _ (h.setCell (p:=⟨b,o,none⟩) hb v)
theorem Ang(base:Nat)(l:List Bs)(v:Value)(w:World)(hown:w.ownsRow base 9 1 v l.length (l.map S))(hl:l.length<=100000) :
  Calls Tryz.prog 92 #[v] w (fun e w'=>e=.returned (.tuple #[])/\w'.ownsRow base 9 1 v l.length ((l.mergeSort fun x y=>decide (x<=y)).map S)/\Ew base w w'):=by
 rcases hown.2 with⟨rfl,h0⟩|⟨g,cap,cur,rfl,hbase,hb,h1,h2,h3,h4⟩
 ·have hl0:l.length=0:=h0;have hnil:l = []:=List.eq_nil_of_length_eq_zero hl0;refine(Tryz.slices_Sort_string_none none 0 w).mono ?_;rintro e w' ⟨rfl,rfl⟩;refine⟨rfl,?_,fun _ h _=>h⟩;subst hnil
  simpa using hown
 ·have hv:(Value.slice (some ⟨g,0,none⟩) l.length cap)≠.slice none 0 0:=(by simp);obtain⟨g',cap',he,-,hlt,-,-,-,hH⟩:=Lib.holds_of_ownsRow (enc:=encStr) (zs:=l) hown hv
  cases he;refine(Tryz.slices_Sort_string g 0 cap l w hH hlt (by omega)).mono ?_;rintro e w' ⟨rfl,n,os,rfl⟩;have hl2:(l.mergeSort fun x y=>decide (x<=y)).length=l.length:=List.length_mergeSort l;refine⟨rfl,ownsRow_sorted (n:=n) (os:=os) hl2 hbase hb h1 h2 h3,fun w0 h h'=>?_⟩;exact h.grown (grownBy_sorted _) (fun j hj=>by cases hj;omega)
theorem AdQ(base:Nat)(l:List Bs)(v:Value)(w:World)(hown:w.ownsRow base 9 1 v l.length (l.map S))(hl:l.length<=100000) :
  Calls Tryz.prog 93 #[v] w (fun e w'=>(∃(A:Option Addr) (c:Nat),e=.returned (.slice A (Lib.compact l).length c)/\w'.ownsRow base 9 1 (.slice A (Lib.compact l).length c) (Lib.compact l).length ((Lib.compact l).map S))/\Ew base w w'):=by
 rcases hown.2 with⟨rfl,h0⟩|⟨g,cap,cur,rfl,hbase,hb,h1,h2,h3,h4⟩
 ·have hl0:l.length=0:=h0;have hnil:l = []:=List.eq_nil_of_length_eq_zero hl0;subst hnil;refine(Tryz.slices_Compact_string_empty none 0 w).mono ?_;rintro e w' ⟨rfl,rfl⟩;exact⟨⟨none,0,rfl,⟨rfl,.inl ⟨rfl,rfl⟩⟩⟩,fun _ h _=>h⟩
 ·have hv:(Value.slice (some ⟨g,0,none⟩) l.length cap)≠.slice none 0 0:=(by simp);obtain⟨g',cap',he,-,hlt,C4,-,-,hH⟩:=Lib.holds_of_ownsRow (enc:=encStr) (zs:=l) hown hv
  cases he;refine(Tryz.slices_Compact_string g 0 cap l w hH (by omega) C4).mono ?_;rintro e w' ⟨rfl,q,rfl⟩;have hle:=Lib.compact_length_le l;have hc:=Lib.ownsRow_putRow (enc:=encStr) (q:=q) (k:=(Lib.compact l).length) (ys:=Lib.compact l++List.replicate (l.length-(Lib.compact l).length) []) hown (by simp;omega) hle;rw [List.take_left]at hc;exact⟨⟨_,_,rfl,hc⟩,fun w0 h h'=>Lib.below_putRow h (by omega)⟩
def It(s:Bs):Bool:=s == []
theorem Aaa(s:Bs)(w:World):Calls Tryz.prog 91 #[S s] w (Bv (It s) w):=by
 go_enter Tryz.func91,Tryz.ntmps91;go_wp2;go_ret;exact⟨by cases s<;>rfl,Aa.refl _⟩
theorem AeS:∀args w,(callFunc 91 args).run Tryz.prog w=.ok (.enter 91 args) w:=enters_of Tryz.func91 (by kernel_rfl) rfl
theorem ri{base n:Nat}{v:Value}{g:Nat}(hv:v.ownBlock=some g):∀(m o:Nat) (l:List Bs) (w:World),w.ownsRow base 9 1 v n (l.map S)→(∃c,v=.slice (some ⟨g,0,none⟩) n c)→
  ∃l':List Bs,l'.length=l.length/\l'.take o=l.take o/\(w.setCells g o (List.replicate m (S []))).ownsRow base 9 1 v n (l'.map S)
 | 0,_,l,_,h,_=>⟨l,rfl,rfl,h⟩
 | m+1,o,l,w,h,hs=>by obtain⟨c,rfl⟩:=hs;have h2:=(h.stored o (S [])).1;rw [←List.map_set]at h2;obtain⟨l',h3,h5,h4⟩:=ri hv m (o+1) (l.set o []) _ h2 ⟨c,rfl⟩;refine⟨l',by rw [h3,List.length_set],?_,h4⟩;have:=congrArg (List.take o) h5;rw [List.take_take,List.take_take,Nat.min_eq_left (by omega)]at this;rw [this,List.take_set_of_le (by omega)]
def D2(l:List Bs):List Bs:=l.filter (fun s=>!It s)
theorem l8(l:List Bs){j:Nat}(h:j<l.length):D2 (l.take (j+1))=D2 (l.take j)++if It l[j] then [] else [l[j]]:=by
 unfold D2;rw [AqN h,List.filter_append]
 congr 1
 cases hE:It l[j]<;>simp [hE]
theorem l7{l:List Bs}(h:∀q∈l,It q=false):D2 l=l:=by
 unfold D2;rw [List.filter_eq_self];intro a ha;rw [h a ha];rfl
def YA(base:Nat)(l:List Bs)(w:World)(e:Ending)(w':World):Prop:=
 (∃(A:Option Addr) (c:Nat),e=.returned (.slice A (D2 l).length c)/\w'.ownsRow base 9 1 (.slice A (D2 l).length c) (D2 l).length ((D2 l).map S))/\Ew base w w'
theorem Aei(base:Nat)(l:List Bs)(v:Value)(w:World)(hown:w.ownsRow base 9 1 v l.length (l.map S))(hl:l.length<=100000) :
  Calls Tryz.prog 68 #[v,.func (.func 91) #[] #[]] w (YA base l w):=by
 obtain⟨A,c,rfl,hr,hc1,hc2⟩:=Ad.of_own' (by omega) hown;have ie:=kx (cb:=#[]) AeS It l A c w hr hc1 hc2 (fun e _ W _=>Aaa e W);obtain⟨n,hn⟩:=AqG l.length;have hge:=Xn It l;have Ti:=ky It l
 have dY:(C5 It l = -1/\D2 l=l)∨∃i:Nat,C5 It l=(i:Int)/\i<n/\D2 (l.take (i+1))=l.take i:=by
  unfold C5
  cases hf:l.findIdx? It with
  | none=>
   rw [List.findIdx?_eq_none_iff]at hf;exact .inl ⟨rfl,l7 hf⟩
  | some i=>
   rw [List.findIdx?_eq_some_iff_getElem]at hf;obtain⟨hi,h1,h2⟩:=hf;refine .inr ⟨i,rfl,by omega,?_⟩;rw [l8 l hi,h1];simp only [if_true,List.append_nil];refine l7 fun q hq=>?_;rw [List.mem_take_iff_getElem]at hq;obtain⟨k,hk,rfl⟩:=hq;have:=h2 k (by omega)
   simpa using this
 rw [←hn]at ie hown hc1 hl ⊢;have HN:=AqH hn;obtain⟨z,hz0⟩:=AqG (C5 It l);rw [←hz0]at ie hge Ti dY;have HC:=AqH dY;clear hn hr hz0 dY;go_enter Tryz.func68,Tryz.ntmps68;(go_wp2_with fail);(with_reducible refine ie.mono ?_);rintro e w1 ⟨rfl,hx1⟩;have ho1:=AC hown hx1;by_cases hk:z = -1
 ·subst hk
  have Cr:D2 l=l:=by
   rcases HC.out with⟨_,h⟩|⟨i,h,_⟩
   ·exact h
   ·omega
  have AS:YA base l w (.returned (.slice A n c)) w1:=⟨⟨A,c,by rw [Cr,←HN.out],by rw [Cr,←HN.out];exact ho1⟩,Ew.of hx1⟩;have HF:=AqH AS;clear AS ho1 hown Cr;go_wp2;go_ret;exact HF.out
 ·obtain⟨i0,rfl,hin,hk0⟩:∃i:Nat,z=(i:Int)/\i<n/\D2 (l.take (i+1))=l.take i:=by
   rcases HC.out with⟨h,_⟩|h
   ·exact absurd h hk
   ·exact h
  have HK0:=AqH hk0;have hkb:((i0:Int) == -1)=false:=beq_false_of_ne hk
  obtain⟨g,rfl,hbg⟩:∃g,A=some ⟨g,0,none⟩/\base<=g:=by
   rcases hown.2 with⟨_,h'⟩|⟨g,cap,cur,hv,hb,_⟩
   ·omega
   ·cases hv;exact⟨g,rfl,hb⟩
  have hz:∀w,(zeroValue 9).run Tryz.prog w=.ok (S []) w:=fun w=>by obtain⟨i0,hi,hz0,hz1,hz2⟩:=info_parts Tryz.infoStr;simp [zeroValue,typeInfo,hi,hz0]
  clear hk hk0 hge Ti
  go_upto_region 5 with fail
  go_loopw [5,6] (fun iv jv wr=>∃(i j:Nat) (l2:List Bs),iv=.int .i64 (i:Nat)/\jv=.int .i64 (j:Nat)/\i<j/\j<=n/\l2.length=n/\l2.take i=D2 (l.take j)/\l2.drop j=l.drop j/\wr.ownsRow base 9 1 (.slice (some ⟨g,0,none⟩) n c) n (l2.map S)/\Ew base w wr) (fun _ jv _=>n-(intOf jv).toNat)
  case atStart=>exact⟨i0,i0+1,l,rfl,by go_num,by omega,by omega,HN.out.symm,HK0.out.symm,rfl,ho1,Ew.of hx1⟩
  case round=>
   obtain⟨i,j,l2,rfl,rfl,Bc,hj,hl2,GF,BV,ho,eZ⟩:=hrel;have YN:=AqH eZ;have Za:=AqH GF;have NI:=AqH BV;have Mn:=AqH hl2;clear eZ GF BV;by_cases hlt:j<n
   ·have hg:=ho.cellAt j (by omega);rw [List.getElem?_map,AqP (by omega),Option.map_some]at hg;obtain⟨p,hp⟩:=AqG (l2[j]);rw [←hp]at hg;have bf:=Aaa p wr;have hj0:(0:Int)<=(j:Int):=(by omega);have AV:(j:Int)<(n:Int):=(by omega);have Lt:(0:Int)<=(i:Int):=(by omega);have Tb:(i:Int)<(n:Int):=(by omega);have cd:j<l.length:=by rw [←HN.out];exact hlt
    have hpl:p=l[j]:=by rw [hp];have h1:(l2.drop j)[0]?=(l.drop j)[0]?:=(by rw [NI.out]);rw [List.getElem?_drop,List.getElem?_drop,Nat.add_zero,AqP (by omega),AqP cd]at h1;exact Option.some.inj h1
    have CO:=l8 l cd;rw [←hpl]at CO;have Ii:=AqH CO;clear hp hpl CO hl2
    cases hL:It p
    ·have HE:=AqH hL;rw [hL]at bf;clear hL;(go_wp2_with fail);(with_reducible refine bf.mono ?_);rintro e w2 ⟨rfl,hx2⟩;have ho2:=AC ho hx2;have hgi:=ho2.cellAt i (by omega);rw [List.getElem?_map,AqP (by have:=Mn.out;omega),Option.map_some]at hgi;have Dk:=ho2.frozenAt i;have hst:=ho2.stored i (S p);rw [←List.map_set]at hst;have dc:Ew base w (w2.setCell ⟨g,i,none⟩ (S p)):=fun w0 h1 h2=>((YN.out w0 h1 h2).trans hx2).setCell (p:=⟨g,i,none⟩) (AqU h2 hbg) _;have HS:=AqH (And.intro hst.1 dc);clear hst dc hg;go_wp2;go_roundw
     case rel=>
      refine⟨i+1,j+1,l2.set i p,by go_num,by go_num,by omega,hlt,by rw [List.length_set];exact Mn.out,?_,?_,HS.out.1,HS.out.2⟩
      ·rw [Ii.out,HE.out,←Za.out,AqN (by rw [List.length_set];have:=Mn.out;omega),List.take_set_of_le (by omega),List.getElem_set_self]
       rfl
      ·have h1:=congrArg (List.drop 1) NI.out;rw [List.drop_drop,List.drop_drop]at h1;rw [←h1,List.drop_set_of_lt (by omega)]
     case measure=>simp [intOf];omega
    ·have HE:=AqH hL;rw [hL]at bf;clear hL;(go_wp2_with fail);(with_reducible refine bf.mono ?_);rintro e w2 ⟨rfl,hx2⟩;have ho2:=AC ho hx2;go_wp2;go_roundw
     case rel=>
      refine⟨i,j+1,l2,rfl,by go_num,by omega,hlt,Mn.out,?_,?_,ho2,YN.out.ext hx2⟩
      ·rw [Ii.out,HE.out,Za.out];simp
      ·have h1:=congrArg (List.drop 1) NI.out;rw [List.drop_drop,List.drop_drop]at h1;exact h1
     case measure=>simp [intOf];omega
   ·have hjn:j=n:=(by omega);subst hjn;have hle:(j:Int)<=(j:Int):=(by omega);have Lt:(0:Int)<=(i:Int):=(by omega);have Qf:(i:Int)<=(j:Int):=(by omega);have Lu:(i:Int)<=(c:Int):=(by omega);have hcl:=fun ty=>Lib.run_clear_slice (P:=Tryz.prog) wr 23 9 ty (S []) Tryz.underlying23 hz rfl rfl g i (j-i) (c-i) (by omega) (fun q hq=>by rw [ho.cellAt (i+q) (by omega),AqP (by simp;omega)];rfl) (fun q hq=>ho.frozenAt (i+q));obtain⟨l3,hl3,jh,DF⟩:=ri (base:=base) (n:=j) (v:=.slice (some ⟨g,0,none⟩) j c) (g:=g) rfl (j-i) i l2 wr ho ⟨_,rfl⟩;have gC:=AkW DF (i:=i) (by omega);have hk3:Ew base w (wr.setCells g i (List.replicate (j-i) (S []))):=fun w0 h1 h2=>vB g (AqU h2 hbg) _ _ _ (YN.out w0 h1 h2)
    have AS:YA base l w (.returned (.slice (some ⟨g,0,none⟩) i c)) (wr.setCells g i (List.replicate (j-i) (S []))):=by
     have e:l3.take i=D2 l:=by rw [jh,Za.out,AqS (by rw [←HN.out];exact AqK _)]
     have e2:(D2 l).length=i:=(by rw [←e,List.length_take];omega);refine⟨⟨some ⟨g,0,none⟩,c,by rw [e2],?_⟩,hk3⟩;rw [e2,←e];exact gC
    have HF:=AqH AS;clear AS DF gC hk3 ho hl3 jh;go_wp2;go_ret;exact HF.out
theorem AnZ(F:List Bs):F3 F=Lib.compact ((D2 F).mergeSort fun x y=>decide (x<=y)):=by
 unfold F3 D2
 rfl
def pW(l:List Bs)(w:World)(e:Ending)(w':World):Prop:=∃A c base,w.heap.size<=base/\e=.returned (.slice A l.length c)/\w'.ownsRow base 9 1 (.slice A l.length c) l.length (l.map S)/\Aa w w'
section
open Go.Shelf
theorem AiZ{g:Nat}{cb:Array Value}{cf:Bs→Bs→Int}{blk size:Nat}{w:World}
  (h:∀W,w.grownBy W (some blk)→∀x y,Calls Tryz.prog g (#[S x,S y]++cb) W (Ax (cf x y) W)):CmpLays1 Tryz.prog g cb encStr cf blk 0 size w:=by
 intro m os dk _ x y;have hg:w.grownBy (sortWorld encStr w blk 0 m dk os) (some blk):=grownBy_sorted dk;refine(Calls.drawn (h _ hg x y) (fun e w' h=>⟨_,h.1⟩)).mono ?_;rintro e w' ⟨⟨he,hx⟩,hd⟩;exact⟨he,hx.grow hd⟩
theorem AdM(c:List La)(A:Option Addr)(cc bc:Nat)(w:World)(hb:w.cell? ⟨bc,0,none⟩=some (.slice A c.length cc))(hr:Ad w A (Bo c))(h1:c.length<=cc)(h2:cc<=9223372036854775807)(a b:Bs) :
  Calls Tryz.prog 41 #[S a,S b,.pointer (some ⟨bc,0,none⟩)] w (Ax (BB c a b) w):=by
 have cu:=fun W (hx:Aa w W)=>ZW c A cc W (hr.ext hx) h1 h2 a b;have cw:=cu w (Aa.refl w);generalize BB c a b=z at *;clear hr cu;go_enter Tryz.func41,Tryz.ntmps41;(go_wp2_with fail);(with_reducible refine cw.mono ?_);rintro e w1 ⟨rfl,hx⟩;go_wp2;go_ret;exact⟨rfl,hx⟩
theorem AeJ:∀args w,(callFunc 41 args).run Tryz.prog w=.ok (.enter 41 args) w:=enters_of Tryz.func41 (by kernel_rfl) rfl
theorem AkH:OneCell encStr:=fun _=>rfl
theorem Anh(c:List La)(A:Option Addr)(cc bc:Nat)(w0 w:World)(hb:w0.cell? ⟨bc,0,none⟩=some (.slice A c.length cc))(hr:Ad w0 A (Bo c))(h1:c.length<=cc)(h2:cc<=9223372036854775807)(hx:Aa w0 w)(base:Nat)(h0:w0.heap.size<=base)
  (l:List Bs) (v:Value) (hown:w.ownsRow base 9 1 v l.length (l.map S)) (hl:l.length<=100000) :
  Calls Tryz.prog 40 #[v,.func (.func 41) #[] #[.pointer (some ⟨bc,0,none⟩)]] w (fun e w'=>e=.returned (.tuple #[])/\w'.ownsRow base 9 1 v l.length ((J3 c l).map S)/\Ew base w w'):=by
 have hU:(J3 c l).length=l.length:=List.length_mergeSort l
 rcases hown.2 with⟨rfl,hz⟩|⟨g,cap,cur,rfl,hbase,Jd,k1,k2,k3,k4⟩
 ·have hl0:l.length=0:=hz;have hnil:l = []:=List.eq_nil_of_length_eq_zero hl0;subst hnil;refine(AnyF.slices_SortFunc_none {Tryz.laysSortSt with} none 0 _ w).mono ?_;rintro e w' ⟨rfl,rfl⟩;refine⟨rfl,?_,fun _ h _=>h⟩;have:J3 c [] = []:=(by unfold J3;simp);rw [this];exact hown
 ·have hv:(Value.slice (some ⟨g,0,none⟩) l.length cap)≠.slice none 0 0:=(by simp);obtain⟨g',cap',he,-,hlt,-,-,-,hH⟩:=Lib.holds_of_ownsRow (enc:=encStr) (zs:=l) hown hv
  cases he
  have hs:=Any.slices_SortFunc_total Tryz.laysSortSt encStr AkH (BB c) (Yx c) 41 #[.pointer (some ⟨bc,0,none⟩)] g 0 cap l.toArray w AeJ
   (AiZ fun W hg x y=>AdM c A cc bc W ((MB hx hg (by omega)).cellS hb) (hr.ext (MB hx hg (by omega))) h1 h2 x y) hH hlt (by simp;omega) (zb c)
  refine hs.mono ?_;rintro e w' ⟨rfl,n,os,rfl⟩;refine⟨rfl,ownsRow_sorted (n:=n) (os:=os) hU hbase Jd k1 k2 k3,fun w1 h h'=>?_⟩;exact h.grown (grownBy_sorted _) (fun j hj=>by cases hj;omega)
end
end Go.Proofs.YtjalkoacphhgdaaGreatDoor
namespace Go.Proofs.YtjalkoacphhgdaaGreatDoor
open Go.RowKit Kl
theorem Aob(m:Cw)(fa:List Bs)(A B F:Option Addr)(c d g:Nat)(w:World)(hF:Ad w F (fa.map S))(hn:m.nf=fa.length)(hl:fa.length<=100000) :
  Calls Tryz.prog 36 #[DK A B F m c d g] w (pW (F3 fa) w):=by
 have hb:=AqJ w (.cells #[.slice A m.pts.length c,.slice B m.eds.length d,.slice F m.nf g] 36);have hE:=(Aa.refl w).alloc (.cells #[.slice A m.pts.length c,.slice B m.eds.length d,.slice F m.nf g] 36);have cl:=Ad9 fa F g (w.alloc (.cells #[.slice A m.pts.length c,.slice B m.eds.length d,.slice F m.nf g] 36)) (hF.ext hE) hl;rw [←hn]at cl;have HN:=AqH hn;unfold DK;clear hn hF;go_enter Tryz.func36,Tryz.ntmps36
 go_upto_region 1 with fail
 generalize w.alloc (.cells #[.slice A m.pts.length c,.slice B m.eds.length d,.slice F m.nf g] 36)=V at *;obtain⟨bm,Dv⟩:=AqG w.heap.size;rw [←Dv]at hb ⊢;have k1:=Ab (o:=2) hb rfl;have HBM:=AqH Dv;clear Dv;clear hb;(go_wp2_with fail);(with_reducible refine cl.mono ?_);rintro e w1 ⟨v,rfl,ho1,hx1⟩;have hB:=hE.size;have del:=Aei _ fa v w1 ho1 hl;clear k1;(go_wp2_with fail);(with_reducible refine del.mono ?_);rintro e w2 ⟨⟨A2,c2,rfl,ho2⟩,kp2⟩;have hk:(D2 fa).length<=100000:=AqU (List.length_filter_le _ _) hl;have so:=Ang _ (D2 fa) _ w2 ho2 hk;(go_wp2_with fail);(with_reducible refine so.mono ?_);rintro e w3 ⟨rfl,DF,kp3⟩;have Dy:((D2 fa).mergeSort fun x y=>decide (x<=y)).length=(D2 fa).length:=List.length_mergeSort _;rw [←Dy]at DF;have co:=AdQ _ _ _ w3 DF (by rw [Dy];exact hk);rw [←AnZ]at co;rw [Dy]at co;clear Dy;(go_wp2_with fail);(with_reducible refine co.mono ?_);rintro e w4 ⟨⟨A4,c4,rfl,Cd⟩,kp4⟩;have AS:pW (F3 fa) w (.returned (.slice A4 (F3 fa).length c4)) w4:=⟨A4,c4,_,hB,rfl,Cd,((kp2.trans kp3).trans kp4) w (hE.trans hx1) hB⟩;have HF:=AqH AS;clear AS ho1 ho2 DF Cd kp2 kp3 kp4;go_wp2;go_ret;exact HF.out
def Pn(l:List En)(z:Int)(w:World)(e:Ending)(w':World):Prop:=∃A c,e=.returned (.tuple #[.slice A l.length c,.int .i64 z])/\Ad w' A (AQ l)/\l.length<=c/\c<=9223372036854775807/\Aa w w'
def IQ(c:List La)(fa:List Bs)(w:World)(e:Ending)(w':World):Prop:=Pn (if RV c fa=0 then D8 c (J3 c (F3 fa))else []) (RV c fa) w e w'
theorem Pn.no{z:Int}{w w':World}(h:Aa w w'):Pn [] z w (.returned (.tuple #[.slice none 0 0,.int .i64 z])) w':=⟨none,0,rfl,⟨fun h=>by simp [AQ]at h⟩,by simp,by omega,h⟩
theorem zm(W:World)(x y:Obj):((W.alloc x).alloc y).heap[W.heap.size+1]?=some y/\((W.alloc x).alloc y).heap[W.heap.size]?=some x/\Aa W ((W.alloc x).alloc y):=by
 have h1:=AqJ (W.alloc x) y;have h2:=(((Aa.refl (W.alloc x)).alloc y).block W.heap.size (by simp)).trans (AqJ W x);have e:(W.alloc x).heap.size=W.heap.size+1:=(by simp);rw [e]at h1;exact⟨h1,h2,((Aa.refl W).alloc x).alloc y⟩
theorem AjG{F:List Bs}{u:Bs}(h:u∈F3 F):u∈F:=by
 unfold F3 at h
 have h1:u∈(F.filter (fun s=>s != [])).mergeSort (fun x y=>decide (x<=y)):=by unfold Lib.compact Lib.compactUpTo at h;rw [List.mem_map]at h;obtain⟨j,hj,rfl⟩:=h;rw [List.mem_filter,List.mem_range]at hj;rw [getElem!_pos _ j (by simpa using hj.1)];simp
 rw [List.mem_mergeSort]at h1;exact(List.mem_filter.1 h1).1
theorem rP{w:World}{b:Nat}{a0 a1 a2 a3:Value}{t:TypeId}(v:Value)(h:w.heap[b]?=some (.cells #[a0,a1,a2,a3] t)):(w.setCell ⟨b,3,none⟩ v).heap[b]?=some (.cells #[a0,a1,a2,v] t):=by
 simp only [World.setCell,Array.getElem?_modify,h];simp
theorem uQ{a0 a1 a2:Value}{t:TypeId}{a:ByteArray}{b:Bs}(h:a=⟨b.toArray⟩):some (Obj.cells #[a0,a1,a2,.string a] t)=some (Obj.cells #[a0,a1,a2,S b] t):=by rw [h]
theorem AnK{c:List La}(h:∀y∈c,y.mn.length<100000/\y.mx.length<100000)(u:Bs):(textU c u).length<300000:=by
 unfold textU
 have:∀(l:List La) (t:Bs),(∀y∈l,y.mn.length<100000/\y.mx.length<100000)→t.length<300000→(l.foldl (GP u) t).length<300000:=by
  intro l
  induction l with
  | nil=>intro t _ ht;exact ht
  | cons y l ih=>
   intro t hl ht;refine ih _ (fun z hz=>hl z (List.mem_cons_of_mem _ hz)) ?_;obtain⟨a,b⟩:=hl y (by simp);unfold GP XC
   split
   ·split
    ·simp [OU];omega
    ·simp [OU];omega
   ·exact ht
 exact this c [] h (by decide)
theorem AnJ(c:List La)(u:Bs){j:Nat}(h:j<c.length):(c.take (j+1)).foldl (GP u) []=GP u ((c.take j).foldl (GP u) []) c[j]:=by
 rw [AqN h,List.foldl_append]
 rfl
theorem AdL(u:Bs)(hu:u.length<1000000)(w:World):Calls Tryz.prog 38 #[S u] w (Bv (!nameB u) w):=by
 have nm:=jC u hu w;generalize nameB u=b at *;go_enter Tryz.func38,Tryz.ntmps38;(go_wp2_with fail);(with_reducible refine nm.mono ?_);rintro e w1 ⟨rfl,hx⟩;go_wp2;go_ret;exact⟨rfl,hx⟩
theorem AeH:∀args w,(callFunc 38 args).run Tryz.prog w=.ok (.enter 38 args) w:=enters_of Tryz.func38 (by kernel_rfl) rfl
theorem AdT(c:List La)(A:Option Addr)(cc:Nat)(m:Cw)(fa:List Bs)(A1 B1 F1:Option Addr)(c1 d1 g1:Nat)(w:World)(hr:Ad w A (Bo c))(h1:c.length<=cc)(h2:cc<=9223372036854775807)(hF:Ad w F1 (fa.map S))(hn:m.nf=fa.length)(hl:fa.length<=1000)
  (hlen:∀u∈fa,u.length<1000000) (hlc:∀y∈c,y.mn.length<100000/\y.mx.length<100000) (PX:∀W,Aa w W→Calls Tryz.prog 32 #[.slice A c.length cc] W (Ax 0 W)) (gI:∀W,Aa w W→Calls Tryz.prog 33 #[DK A1 B1 F1 m c1 d1 g1] W (Ax 0 W)) :
  Calls Tryz.prog 10 #[.slice A c.length cc,DK A1 B1 F1 m c1 d1 g1] w (IQ c fa w):=by
 have hV:=zm w (.cells #[.slice A c.length cc] 32) (.cells #[.slice A1 m.pts.length c1,.slice B1 m.eds.length d1,.slice F1 m.nf g1] 36);obtain⟨hB,hA,hE⟩:=hV;have un:=fun W (hx:Aa w W)=>Aob m fa A1 B1 F1 c1 d1 g1 W (hF.ext hx) hn (by omega);have HLEN:=AqH hlen;have oL:=AqH hlc;have FA:=AqH hr;obtain⟨r,hr0⟩:=AqG (RV c fa);have HR:=AqH hr0;unfold DK at gI un ⊢;have HNF:=AqH hn;clear hF hlen hlc hr hr0 hn;go_enter Tryz.func10,Tryz.ntmps10
 go_upto_region 1 with fail
 generalize (w.alloc (.cells #[.slice A c.length cc] 32)).alloc (.cells #[.slice A1 m.pts.length c1,.slice B1 m.eds.length d1,.slice F1 m.nf g1] 36)=V at *;obtain⟨bc,SK⟩:=AqG w.heap.size;rw [←SK]at hA hB ⊢;clear SK;have k1:=Ab (o:=0) hA rfl;(go_wp2_with fail);(with_reducible refine(PX V hE).mono ?_);rintro e w1 ⟨rfl,hx1⟩;have hB1:=(hx1.block _ (AqI hB)).trans hB;have j1:=Ab (o:=0) hB1 rfl;have j2:=Ab (o:=1) hB1 rfl;have j3:=Ab (o:=2) hB1 rfl;have X1:=hE.trans hx1;clear k1 hB PX;(go_wp2_with fail);(with_reducible refine(gI w1 X1).mono ?_);rintro e w2 ⟨rfl,hx2⟩;have hB2:=(hx2.block _ (AqI hB1)).trans hB1;have X2:=X1.trans hx2;have Zv:=hx1.trans hx2;clear j1 j2 j3 hB1 gI hx1 hx2 X1;have j1:=Ab (o:=0) hB2 rfl;have j2:=Ab (o:=1) hB2 rfl;have j3:=Ab (o:=2) hB2 rfl;(go_wp2_with fail);(with_reducible refine(un w2 X2).mono ?_);rintro e w3 ⟨A3,c3,base,hb3,rfl,DF,hx3⟩;have Zw:=Zv.trans hx3;have X3:=hE.trans Zw;obtain⟨A3',ZM,e3,hr3,hc3,Ag7⟩:=Ad.of_own' (by omega) DF
 cases e3;have HM:=AqH (fun u (hu:u∈F3 fa)=>HLEN.out u (AjG hu));have an:=Acj (cb:=#[]) AeH (fun u=>!nameB u) (F3 fa) A3 c3 w3 hr3 hc3 Ag7 (fun u hu W _=>AdL u (HM.out u hu) W);clear j1 j2 j3 hB2 un;have PV:V.heap.size<=base:=AqU Zv.size hb3;obtain⟨l,hl0⟩:=AqG (F3 fa)
 have hce:r=if l.any (fun u=>!nameB u)=true then 8 else if 20<l.length then 4 else if (D8 c (J3 c l)).any (fun x=>decide (80<x.t.length))=true then 16 else 0:=by rw [HR.out,hl0];rfl
 have Ml:=AqH hce;have Hb:=AqH hl0;rw [←hl0]at DF hr3 hc3 an ⊢;clear hl0 hce
 cases a1:l.any (fun u=>!nameB u)
 rotate_left
 ·have hr8:r=8:=(by rw [Ml.out,if_pos a1]);rw [a1]at an;subst hr8;clear a1;(go_wp2_with fail);(with_reducible refine an.mono ?_);rintro e w4 ⟨rfl,Ai⟩
  have AS:IQ c fa w (.returned (.tuple #[.slice none 0 0,.int .i64 8])) w4:=by unfold IQ;rw [←HR.out,if_neg (by omega)];exact Pn.no (X3.trans Ai)
  have HF:=AqH AS;clear AS DF hr3;go_wp2;go_ret2;exact HF.out
 have nL:=AqH (show ¬(l.any (fun u=>!nameB u)=true)by rw [a1];simp);rw [a1]at an;clear a1;(go_wp2_with fail);(with_reducible refine an.mono ?_);rintro e w4 ⟨rfl,Ai⟩;have Zx:=Zw.trans Ai;have X4:=X3.trans Ai;have Cd:=AC DF Ai;clear DF hr3 Ai an;by_cases FI:20<l.length
 ·have hr4:r=4:=(by rw [Ml.out,if_neg nL.out,if_pos FI]);have t1:(20:Int)<(l.length:Int):=(by omega);subst hr4
  have AS:IQ c fa w (.returned (.tuple #[.slice none 0 0,.int .i64 4])) w4:=by unfold IQ;rw [←HR.out,if_neg (by omega)];exact Pn.no X4
  have HF:=AqH AS;clear AS Cd;go_wp2;go_ret2;exact HF.out
 have t1:¬(20:Int)<(l.length:Int):=(by omega);have so:=Anh c A cc bc V w4 (Ab (o:=0) hA rfl) (FA.out.ext hE) h1 h2 Zx base PV l _ Cd (by omega);(go_wp2_with fail);(with_reducible refine so.mono ?_);rintro e w5 ⟨rfl,Cm,kp5⟩;have hU:(J3 c l).length=l.length:=List.length_mergeSort l;have X5:=kp5 w X4 (AqU hE.size PV);have UR:=kp5 V Zx PV;obtain⟨l2,hl2⟩:=AqG (J3 c l);rw [←hl2]at Cm hU;have Mn:=AqH hl2
 have hce:r=if (D8 c l2).any (fun x=>decide (80<x.t.length))=true then 16 else 0:=by rw [Ml.out,if_neg nL.out,if_neg FI,←hl2]
 have nS:=AqH hce;obtain⟨n,hn⟩:=AqG l.length;rw [←hn]at Cm hU FI t1 ⊢;obtain⟨A5,c5,e5,gq,-,-⟩:=Ad.of_own' (by omega) Cm
 cases e5;have Ph:=AqH gq;have HN:=AqH hn;have YU:=AqH hU;have HA:=AqH ((UR.block _ (AqI hA)).trans hA);have pI:=AqH (And.intro hE (And.intro UR X5));have KD:=AqH (FA.out.ext X5);have h5b:=UR.size;have Ahr:=AqI HA.out;clear hl2 hce hn hU gq Cm kp5 so Cd hA X4 Zx X3 Zw X2 Zv hE X5 UR hx3
 go_upto_region 15 with fail
 clear t1
 go_loopw [9,40] (fun ov kv wr=>∃(k:Nat),kv=.int .i64 (k:Nat)/\k<=n/\wr.ownsRow w5.heap.size 40 4 ov k (AQ (D8 c (l2.take k)))/\(∀e∈D8 c (l2.take k),e.t.length<=80)/\Aa w5 wr) (fun _ kv _=>n-(intOf kv).toNat)
 case atStart=>exact⟨0,rfl,by omega,⟨rfl,.inl ⟨rfl,rfl⟩⟩,by intro e he;simp [D8]at he,Aa.refl _⟩
 case round=>
  obtain⟨k,rfl,hk,hown,Nn,Ac⟩:=hrel;have KE:=AqH Nn;clear Nn;by_cases hkn:k<n
  ·have Cz:k<l2.length:=(by rw [YU.out];exact hkn);obtain⟨b,o,rfl,hcs⟩:=(Ph.out.ext Ac).ad (by rw [List.length_map];omega);have hck:=hcs k (by rw [List.length_map];exact Cz);rw [List.getElem_map]at hck;obtain⟨u,hu⟩:=AqG (l2[k]);rw [←hu]at hck;have HU:=AqH hu;have hk0:(0:Int)<=(k:Int):=(by omega);have BH:(k:Int)<(n:Int):=(by omega);have ApH:(k:Int)<=20:=(by omega);have v1:IntKind.wrap .i64 ((k:Int)+1)=(k:Int)+1:=AqQ _ (by omega);have v2:IntKind.wrap .i64 (97+(k:Int))=97+(k:Int):=AqQ _ (by omega);have v3:IntKind.wrap .u8 (97+(k:Int))=97+(k:Int):=(by simp [IntKind.wrap,IntKind.bits,IntKind.signed];omega);have v4:IntKind.wrap .i64 (1+(k:Int)%5)=1+(k:Int)%5:=AqQ _ (by omega);obtain⟨sy,Dz⟩:=AqG (UInt8.ofNat (97+k):UInt8);have CO:(sy.toNat:Int)=97+(k:Int):=by rw [Dz,UInt8.toNat_ofNat'];omega
   have hcv:(convert 52 9 (.slice (some ⟨wr.heap.size,0,none⟩) 1 1)).run Tryz.prog (wr.alloc (.cells #[.int .u8 (97+(k:Int))] 5))=.ok (S [sy]) (wr.alloc (.cells #[.int .u8 (97+(k:Int))] 5)):=run_convert_bytes_back (P:=Tryz.prog) (wr.alloc (.cells #[.int .u8 (97+(k:Int))] 5)) 52 9 5 ⟨wr.heap.size,0,none⟩ 1 [sy] Tryz.underlying52 Tryz.underlying5 Tryz.underlying9 (by
    intro j hj;have:j=0:=(by simpa using hj);subst this;rw [Addr.add_lit]
    exact(Ab (AqJ wr _) rfl).trans (by rw [List.getElem_cons_zero,CO];rfl))
   have hxb:=zm wr (.cells #[.int .u8 (97+(k:Int))] 5) (.cells #[S u,S [sy],.int .i64 (1+(k:Int)%5),S []] 40);have HSY:=AqH Dz;clear hu hcs Dz CO
   go_upto_region 18 with fail
   clear hcv v2 v3 v4 hck;have dE:=(Aa.refl wr).alloc (.cells #[.int .u8 (97+(k:Int))] 5);have I9:(wr.alloc (.cells #[.int .u8 (97+(k:Int))] 5)).heap.size=wr.heap.size+1:=(by simp);have iN:=(Aa.refl (wr.alloc (.cells #[.int .u8 (97+(k:Int))] 5))).alloc (.cells #[S u,S [sy],.int .i64 (1+(k:Int)%5),S []] 40);have fh:=AC hown dE;obtain⟨hb1,-,-⟩:=hxb;unfold S at iN hb1;generalize (wr.alloc (.cells #[.int .u8 (97+(k:Int))] 5)).alloc (.cells #[.string ⟨u.toArray⟩,.string ⟨[sy].toArray⟩,.int .i64 (1+(k:Int)%5),.string ⟨([]:Bs).toArray⟩] 40)=V1 at *;generalize wr.alloc (.cells #[.int .u8 (97+(k:Int))] 5)=V0 at *;obtain⟨bx,AA⟩:=AqG (wr.heap.size+1);rw [←AA]at hb1 I9 ⊢;have VV:V0.heap.size<=bx:=(by omega);have MF:=Ac.trans dE;have hA1:=(MF.block _ (AqI HA.out)).trans HA.out;have ka:V1.cell? ⟨bc,0,none⟩=some (.slice A c.length cc):=iN.cellS (Ab (o:=0) hA1 rfl);have Rs:=AqH fh;obtain⟨oP,oc,rfl⟩:=Uc (by omega) hown;clear AA I9 hown fh dE Ac
   go_upto_region 19 with fail
   clear ka
   go_loopw [57] (fun jv wi=>∃(j:Nat),jv=.int .i64 (j:Nat)/\j<=c.length/\wi.heap[bx]?=some (.cells #[S u,S [sy],.int .i64 (1+(k:Int)%5),S ((c.take j).foldl (GP u) [])] 40)/\Aa V0 wi) (fun jv _=>c.length-(intOf jv).toNat)
   case atStart=>exact⟨0,rfl,by omega,hb1,iN⟩
   case round=>
    obtain⟨j,rfl,hj,I1,Nt⟩:=hrel;obtain⟨tj,iD⟩:=AqG ((c.take j).foldl (GP u) []);rw [←iD]at I1;have pC:=AqH iD;clear iD;by_cases hjn:j<c.length
    ·have WE:=hjn;obtain⟨b',o',rfl,hg1,hg2,hg3⟩:=lO (KD.out.ext (MF.trans Nt)) WE;obtain⟨m2,m3⟩:=oL.out c[j] (AqL WE);have CO:=AnJ c u WE;rw [←pC.out]at CO;obtain⟨y,hy⟩:=AqG (c[j]);rw [←hy]at hg1 hg2 hg3 m2 m3 CO;have Ii:=AqH CO;have hj0:(0:Int)<=(j:Int):=(by omega);have Gh:(j:Int)<(c.length:Int):=(by omega);have v5:IntKind.wrap .i64 ((j:Int)+1)=(j:Int)+1:=AqQ _ (by omega);have hyb:=AqJ wr (.cells #[S y.u,S y.mn,S y.mx] 31);have hx2:=(Aa.refl wr).alloc (.cells #[S y.u,S y.mn,S y.mx] 31);have Ot:=(hx2.block _ (AqI I1)).trans I1;have iR:=Nt.trans hx2;have hne:wr.heap.size≠bx:=(by have:=AqI I1;omega);clear hy CO I1 Nt hx2
     go_upto_region 21 with fail
     generalize wr.alloc (.cells #[S y.u,S y.mn,S y.mx] 31)=W1 at *;obtain⟨by_,zE⟩:=AqG wr.heap.size;rw [←zE]at hyb hne ⊢;clear zE hg1 hg2 hg3;have f1:=Ab (o:=0) hyb rfl;have f2:=Ab (o:=1) hyb rfl;have f3:=Ab (o:=2) hyb rfl;by_cases Nu:y.u=u
     ·have t1:(y.u == u)=true:=(by rw [Nu];exact beq_self_eq_true u);have p4:=Ab (o:=3) Ot rfl;have q4:=AK (o:=3) Ot;by_cases hm0:y.mx = []
      ·have Jt:GP u tj y=y.mn++OU ++ [45]:=(by unfold GP XC;rw [if_pos Nu,if_pos hm0]);rw [hm0]at f3;have Zb:=AqH (Ii.out.trans Jt);have YF:=AqH Ot;clear Nu hm0 Jt Ot;go_wp2;go_roundw
       case rel=>refine⟨j+1,by go_num,hjn,(rP _ YF.out).trans (uQ ?_),iR.setCell (p:=⟨bx,3,none⟩) VV _⟩;rw [Zb.out];apply ByteArray.ext;simp [OU]
       case measure=>simp [intOf];omega
      ·have Jt:GP u tj y=y.mn++OU++y.mx:=(by unfold GP XC;rw [if_pos Nu,if_neg hm0]);have t3:(y.mx == [])=false:=beq_false_of_ne hm0
       have t4:y.mx.isEmpty=false:=by cases hm:y.mx with|nil=>exact absurd hm hm0|cons a b=>rfl
       have Zb:=AqH (Ii.out.trans Jt);have YF:=AqH Ot;clear Nu Jt Ot;go_wp2;go_roundw
       case rel=>refine⟨j+1,by go_num,hjn,(rP _ YF.out).trans (uQ ?_),iR.setCell (p:=⟨bx,3,none⟩) VV _⟩;rw [Zb.out];apply ByteArray.ext;simp [OU]
       case measure=>simp [intOf];omega
     ·have t1:(y.u == u)=false:=beq_false_of_ne Nu;have Jt:GP u tj y=tj:=if_neg Nu;have HH:=AqH (show W1.heap[bx]?=some (.cells #[S u,S [sy],.int .i64 (1+(k:Int)%5),S ((c.take (j+1)).foldl (GP u) [])] 40)by rw [Ii.out,Jt];exact Ot);clear Nu Jt;go_wp2;go_roundw
      case rel=>exact⟨j+1,by go_num,hjn,HH.out,iR⟩
      case measure=>simp [intOf];omega
    ·have Kf:j=c.length:=(by omega);subst Kf;have Xe:tj=textU c u:=(by rw [pC.out,List.take_length];rfl);have hd:RU c k u=⟨u,[sy],1+(k:Int)%5,tj⟩:=(by unfold RU;rw [←Xe,←HSY.out,Int.natCast_emod];rfl);have Fq:tj.length<300000:=(by rw [Xe];exact AnK oL.out u);have q1:=Ab (o:=0) I1 rfl;have q2:=Ab (o:=1) I1 rfl;have q3:=Ab (o:=2) I1 rfl;have q4:=Ab (o:=3) I1 rfl;have HD:=AqH hd;have HTU:=AqH Xe;clear Xe hd;by_cases bC:80<tj.length
     ·have t6:(80:Int)<(tj.length:Int):=by omega
      have gm:r=16:=by rw [nS.out,if_pos];rw [List.any_eq_true];have Cr:k<(D8 c l2).length:=(by rw [P6];exact Cz);refine⟨(D8 c l2)[k],AqL Cr,?_⟩;rw [ZV c l2 Cz Cr,←HU.out,HD.out];exact decide_eq_true bC
      have AS:IQ c fa w (.returned (.tuple #[.slice none 0 0,.int .i64 16])) wr:=by unfold IQ;rw [←HR.out,gm,if_neg (by omega)];exact Pn.no ((pI.out.2.2.trans MF).trans Nt)
      have HF:=AqH AS;clear AS gm bC;go_wp2;go_ret2;exact HF.out
     ·have t6:¬(80:Int)<(tj.length:Int):=(by omega);have hX:=MF.trans Nt;have hown2:=AC Rs.out Nt;have AfP:tj.length<=80:=(by omega);clear bC
      go_wp2_with (at_builtin;go_loud (refine qR rfl _ _ rfl _ w5.heap.size (.slice oP k oc) k (D8 c (l2.take k)) rfl (AC hown2 ((Aa.refl wr).alloc _)) (by omega) ⟨u,[sy],1+(k:Int)%5,tj⟩ wr.heap.size (AqJ _ _) rfl (AqU hX.size ((Aa.refl wr).alloc _).size) ?_);intro v9 w9 BQ hext9)
      have hnew:=hext9 w5 (hX.trans ((Aa.refl wr).alloc _)) (AqK _);have Jf:=AdO c l2 Cz;rw [←HU.out,HD.out]at Jf;rw [←Jf]at BQ
      have jb:∀e∈D8 c (l2.take (k+1)),e.t.length<=80:=by
       rw [Jf];intro e he
       rcases List.mem_append.1 he with h|h
       ·exact KE.out e h
       ·rw [List.mem_singleton.1 h];exact AfP
      have BN:=AqH (And.intro BQ (And.intro jb hnew));clear BQ hnew hext9 jb Jf q1 q2 q3 q4;go_wp2;go_roundw
      case rel=>exact⟨k+1,by go_num,hkn,BN.out.1,BN.out.2.1,BN.out.2.2⟩
      case measure=>simp [intOf];omega
  ·have Bt:k=n:=(by omega);subst Bt;have hall:l2.take k=l2:=AqS (by rw [YU.out];exact AqK _);obtain⟨A9,c9,rfl,r9,s9,t9⟩:=Ad.of_own' (by omega) hown;have hs2:=KE.out;rw [hall]at r9 hs2;have Gi:(D8 c l2).length=k:=by rw [P6];exact YU.out
   have gj:r=0:=by rw [nS.out,if_neg];rw [List.any_eq_true];rintro⟨x,hx,h⟩;have:=hs2 x hx;have:=of_decide_eq_true h;omega
   have AS:IQ c fa w (.returned (.tuple #[.slice A9 k c9,.int .i64 0])) wr:=by unfold IQ;rw [←HR.out,gj,if_pos rfl,←Hb.out,←Mn.out];exact⟨A9,c9,by rw [Gi],r9,by rw [Gi];exact s9,t9,pI.out.2.2.trans Ac⟩
   have HF:=AqH AS;clear AS r9 hown hall Gi hs2 gj;go_wp2;go_ret2;exact HF.out
end Go.Proofs.YtjalkoacphhgdaaGreatDoor
