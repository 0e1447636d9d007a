/- Y48: T7 LGU LGS LGK. -/
import Derived.Test.YtjalkoacphhgdaaGreatDoorY05
import Derived.Test.YtjalkoacphhgdaaGreatDoorY40
import Derived.Lib.OwnBridge
import Derived.Test.YtjalkoacphhgdaaGreatDoorY31
set_option maxRecDepth 100000
set_option maxHeartbeats 16000000
namespace Go.Proofs.YtjalkoacphhgdaaGreatDoor
open Go.RowKit Kl Go.Sort
theorem AjV(l:List Bs)(j:Nat)(hj:j<l.length):((l.map fun x=>(⟨x.toArray⟩:ByteArray)).getD j ByteArray.empty)=⟨l[j].toArray⟩:=by
 simp [List.getD_eq_getElem?_getD,AmH hj]
def ow(l:List Bs)(w:World)(e:Ending)(w':World):Prop:=∃v,e=.returned v/\w'.ownsRow w.heap.size 9 1 v l.length (l.map S)/\Aa w w'
theorem Aa6(l:List Bs)(A:Option Addr)(c:Nat)(w:World)(hr:Ae w A (l.map S))(hl:l.length<=100000) :
  Calls Tryz.prog 31 #[.slice A l.length c] w (ow l w):=by
 by_cases h0:l = []
 ·subst h0
  cases A with
  | none=>
   refine(Tryz.slices_Clone_string_nil 0 c w).mono ?_;rintro e w' ⟨rfl,rfl⟩;exact⟨_,rfl,⟨rfl,.inl ⟨rfl,rfl⟩⟩,Aa.refl _⟩
  | some a=>refine(Tryz.slices_Clone_string_zero a c w).mono ?_;rintro e w' ⟨v,rfl,h,-,hb⟩;exact⟨v,rfl,h,hb⟩
 ·have Cc:0<l.length:=by cases l with|nil=>exact absurd rfl h0|cons a b=>simp
  obtain⟨b,o,rfl,hc⟩:=hr.ad (by simpa using Cc);refine(Tryz.slices_Clone_string b o l.length c (l.map fun x=>(⟨x.toArray⟩:ByteArray)) w (by simp) (by omega) (fun j hj=>?_)).mono ?_
  ·have hj':j<l.length:=(by simpa using hj);rw [AjV l j hj'];have:=hc j (by simpa using hj');rw [List.getElem_map]at this;exact this
  ·rintro e w' ⟨v,rfl,h,-,hb⟩;refine⟨v,rfl,?_,hb⟩
   have e1:((l.map fun x=>(⟨x.toArray⟩:ByteArray)).take l.length).map Value.string=l.map S:=by rw [AmK (by simp),List.map_map];rfl
   rw [e1]at h;exact h
def Eg(base:Nat)(w w':World):Prop:=∀w0,Aa w0 w→w0.heap.size<=base→Aa w0 w'
theorem Eg.trans{base:Nat}{a b c:World}(h:Eg base a b)(k:Eg base b c):Eg base a c:=fun w0 h1 h2=>k w0 (h w0 h1 h2) h2
theorem Eg.ext{base:Nat}{a b c:World}(h:Eg base a b)(k:Aa b c):Eg base a c:=fun w0 h1 h2=>(h w0 h1 h2).trans k
theorem Eg.of{base:Nat}{a b:World}(k:Aa a b):Eg base a b:=fun _ h1 _=>h1.trans k
theorem Aho{w:World}{base n g cap:Nat}{l:List Bs}(h:w.ownsRow base 9 1 (.slice (some ⟨g,0,none⟩) n cap) n (l.map S)){i:Nat}(hi:i<=n) :
  w.ownsRow base 9 1 (.slice (some ⟨g,0,none⟩) i cap) i ((l.take i).map S):=by
 have hl:=h.1;rw [List.length_map,Nat.mul_one]at hl;refine⟨by simp;omega,.inr ?_⟩
 rcases h.2 with⟨h0,_⟩|⟨g',cap',cur,e,hb,hg,h1,h2,h3,h4⟩
 ·cases h0
 ·cases e;refine⟨g,cap,cur,rfl,hb,hg,by omega,h2,h3,?_⟩;have e2:=congrArg (List.take (i*1)) h4;rw [List.take_take]at e2;rw [Nat.min_eq_left (by omega)]at e2;rw [e2,Nat.mul_one,List.map_take]
theorem pU{w0:World}(b:Nat)(hb:w0.heap.size<=b):∀(vs:List Value) (o:Nat) (w:World),Aa w0 w→Aa w0 (w.setCells b o vs)
 | [],_,_,h=>h
 | v::r,o,_,h=>pU b hb r (o+1) _ (h.setCell (p:=⟨b,o,none⟩) hb v)
theorem Ajb(base:Nat)(l:List Bs)(v:Value)(w:World)(hown:w.ownsRow base 9 1 v l.length (l.map S))(hl:l.length<=100000) :
  Calls Tryz.prog 92 #[v] w (fun e w'=>e=.returned (.tuple #[])/\w'.ownsRow base 9 1 v l.length ((l.mergeSort fun x y=>decide (x<=y)).map S)/\Eg base w w'):=by
 rcases hown.2 with⟨rfl,h0⟩|⟨g,cap,cur,rfl,hbase,hb,h1,h2,h3,h4⟩
 ·have hl0:l.length=0:=h0;have hnil:l = []:=List.eq_nil_of_length_eq_zero hl0;refine(Tryz.slices_Sort_string_none none 0 w).mono ?_;rintro e w' ⟨rfl,rfl⟩;refine⟨rfl,?_,fun _ h _=>h⟩;subst hnil
  simpa using hown
 ·have hv:(Value.slice (some ⟨g,0,none⟩) l.length cap)≠.slice none 0 0:=(by simp);obtain⟨g',cap',he,-,hlt,-,-,-,hH⟩:=Lib.holds_of_ownsRow (enc:=encStr) (zs:=l) hown hv
  cases he;refine(Tryz.slices_Sort_string g 0 cap l w hH hlt (by omega)).mono ?_;rintro e w' ⟨rfl,n,os,rfl⟩;have hl2:(l.mergeSort fun x y=>decide (x<=y)).length=l.length:=List.length_mergeSort l;refine⟨rfl,ownsRow_sorted (n:=n) (os:=os) hl2 hbase hb h1 h2 h3,fun w0 h h'=>?_⟩;exact h.grown (grownBy_sorted _) (fun j hj=>by cases hj;omega)
theorem AaM(base:Nat)(l:List Bs)(v:Value)(w:World)(hown:w.ownsRow base 9 1 v l.length (l.map S))(hl:l.length<=100000) :
  Calls Tryz.prog 93 #[v] w (fun e w'=>(∃(A:Option Addr) (c:Nat),e=.returned (.slice A (Lib.compact l).length c)/\w'.ownsRow base 9 1 (.slice A (Lib.compact l).length c) (Lib.compact l).length ((Lib.compact l).map S))/\Eg base w w'):=by
 rcases hown.2 with⟨rfl,h0⟩|⟨g,cap,cur,rfl,hbase,hb,h1,h2,h3,h4⟩
 ·have hl0:l.length=0:=h0;have hnil:l = []:=List.eq_nil_of_length_eq_zero hl0;subst hnil;refine(Tryz.slices_Compact_string_empty none 0 w).mono ?_;rintro e w' ⟨rfl,rfl⟩;exact⟨⟨none,0,rfl,⟨rfl,.inl ⟨rfl,rfl⟩⟩⟩,fun _ h _=>h⟩
 ·have hv:(Value.slice (some ⟨g,0,none⟩) l.length cap)≠.slice none 0 0:=(by simp);obtain⟨g',cap',he,-,hlt,Cw,-,-,hH⟩:=Lib.holds_of_ownsRow (enc:=encStr) (zs:=l) hown hv
  cases he;refine(Tryz.slices_Compact_string g 0 cap l w hH (by omega) Cw).mono ?_;rintro e w' ⟨rfl,q,rfl⟩;have hle:=Lib.compact_length_le l;have hc:=Lib.ownsRow_putRow (enc:=encStr) (q:=q) (k:=(Lib.compact l).length) (ys:=Lib.compact l++List.replicate (l.length-(Lib.compact l).length) []) hown (by simp;omega) hle;rw [List.take_left]at hc;exact⟨⟨_,_,rfl,hc⟩,fun w0 h h'=>Lib.below_putRow h (by omega)⟩
def Hp(s:Bs):Bool:=s == []
theorem ng(s:Bs)(w:World):Calls Tryz.prog 91 #[S s] w (Br (Hp s) w):=by
 go_enter Tryz.func91,Tryz.ntmps91;go_wp2;go_ret;exact⟨by cases s<;>rfl,Aa.refl _⟩
theorem AbE:∀args w,(callFunc 91 args).run Tryz.prog w=.ok (.enter 91 args) w:=enters_of Tryz.func91 (by kernel_rfl) rfl
theorem fl{base n:Nat}{v:Value}{g:Nat}(hv:v.ownBlock=some g):∀(m o:Nat) (l:List Bs) (w:World),w.ownsRow base 9 1 v n (l.map S)→(∃c,v=.slice (some ⟨g,0,none⟩) n c)→
  ∃l':List Bs,l'.length=l.length/\l'.take o=l.take o/\(w.setCells g o (List.replicate m (S []))).ownsRow base 9 1 v n (l'.map S)
 | 0,_,l,_,h,_=>⟨l,rfl,rfl,h⟩
 | m+1,o,l,w,h,hs=>by obtain⟨c,rfl⟩:=hs;have h2:=(h.stored o (S [])).1;rw [←List.map_set]at h2;obtain⟨l',h3,h5,h4⟩:=fl hv m (o+1) (l.set o []) _ h2 ⟨c,rfl⟩;refine⟨l',by rw [h3,List.length_set],?_,h4⟩;have:=congrArg (List.take o) h5;rw [List.take_take,List.take_take,Nat.min_eq_left (by omega)]at this;rw [this,List.take_set_of_le (by omega)]
def Dj(l:List Bs):List Bs:=l.filter (fun s=>!Hp s)
theorem zI(l:List Bs){j:Nat}(h:j<l.length):Dj (l.take (j+1))=Dj (l.take j)++if Hp l[j] then [] else [l[j]]:=by
 unfold Dj;rw [AmF h,List.filter_append]
 congr 1
 cases hE:Hp l[j]<;>simp [hE]
theorem zH{l:List Bs}(h:∀q∈l,Hp q=false):Dj l=l:=by
 unfold Dj;rw [List.filter_eq_self];intro a ha;rw [h a ha];rfl
def Xe(base:Nat)(l:List Bs)(w:World)(e:Ending)(w':World):Prop:=
 (∃(A:Option Addr) (c:Nat),e=.returned (.slice A (Dj l).length c)/\w'.ownsRow base 9 1 (.slice A (Dj l).length c) (Dj l).length ((Dj l).map S))/\Eg base w w'
theorem Aba(base:Nat)(l:List Bs)(v:Value)(w:World)(hown:w.ownsRow base 9 1 v l.length (l.map S))(hl:l.length<=100000) :
  Calls Tryz.prog 68 #[v,.func (.func 91) #[] #[]] w (Xe base l w):=by
 obtain⟨A,c,rfl,hr,hc1,hc2⟩:=Ae.of_own' (by omega) hown;have ie:=yU (cb:=#[]) AbE Hp l A c w hr hc1 hc2 (fun e _ W _=>ng e W);obtain⟨n,hn⟩:=Am8 l.length;have hge:=Afe Hp l;have So:=Aff Hp l
 have ZU:(CO Hp l = -1/\Dj l=l)∨∃i:Nat,CO Hp l=(i:Int)/\i<n/\Dj (l.take (i+1))=l.take i:=by
  unfold CO
  cases hf:l.findIdx? Hp with
  | none=>
   rw [List.findIdx?_eq_none_iff]at hf;exact .inl ⟨rfl,zH hf⟩
  | some i=>
   rw [List.findIdx?_eq_some_iff_getElem]at hf;obtain⟨hi,h1,h2⟩:=hf;refine .inr ⟨i,rfl,by omega,?_⟩;rw [zI l hi,h1];simp only [if_true,List.append_nil];refine zH fun q hq=>?_;rw [List.mem_take_iff_getElem]at hq;obtain⟨k,hk,rfl⟩:=hq;have:=h2 k (by omega)
   simpa using this
 rw [←hn]at ie hown hc1 hl ⊢;have HN:=Am9 hn;obtain⟨z,hz0⟩:=Am8 (CO Hp l);rw [←hz0]at ie hge So ZU;have HC:=Am9 ZU;clear hn hr hz0 ZU;go_enter Tryz.func68,Tryz.ntmps68;(go_wp2_with fail);(with_reducible refine ie.mono ?_);rintro e w1 ⟨rfl,hx1⟩;have ho1:=AI hown hx1;by_cases hk:z = -1
 ·subst hk
  have Cm:Dj l=l:=by
   rcases HC.out with⟨_,h⟩|⟨i,h,_⟩
   ·exact h
   ·omega
  have AY:Xe base l w (.returned (.slice A n c)) w1:=⟨⟨A,c,by rw [Cm,←HN.out],by rw [Cm,←HN.out];exact ho1⟩,Eg.of hx1⟩;have HF:=Am9 AY;clear AY ho1 hown Cm;go_wp2;go_ret;exact HF.out
 ·obtain⟨i0,rfl,hin,hk0⟩:∃i:Nat,z=(i:Int)/\i<n/\Dj (l.take (i+1))=l.take i:=by
   rcases HC.out with⟨h,_⟩|h
   ·exact absurd h hk
   ·exact h
  have ra:=Am9 hk0;have hkb:((i0:Int) == -1)=false:=beq_false_of_ne hk
  obtain⟨g,rfl,hbg⟩:∃g,A=some ⟨g,0,none⟩/\base<=g:=by
   rcases hown.2 with⟨_,h'⟩|⟨g,cap,cur,hv,hb,_⟩
   ·omega
   ·cases hv;exact⟨g,rfl,hb⟩
  have hz:∀w,(zeroValue 9).run Tryz.prog w=.ok (S []) w:=fun w=>by obtain⟨i0,hi,hz0,hz1,hz2⟩:=info_parts Tryz.infoStr;simp [zeroValue,typeInfo,hi,hz0]
  clear hk hk0 hge So
  go_upto_region 5 with fail
  go_loopw [5,6] (fun iv jv wr=>∃(i j:Nat) (l2:List Bs),iv=.int .i64 (i:Nat)/\jv=.int .i64 (j:Nat)/\i<j/\j<=n/\l2.length=n/\l2.take i=Dj (l.take j)/\l2.drop j=l.drop j/\wr.ownsRow base 9 1 (.slice (some ⟨g,0,none⟩) n c) n (l2.map S)/\Eg base w wr) (fun _ jv _=>n-(intOf jv).toNat)
  case atStart=>exact⟨i0,i0+1,l,rfl,by go_num,by omega,by omega,HN.out.symm,ra.out.symm,rfl,ho1,Eg.of hx1⟩
  case round=>
   obtain⟨i,j,l2,rfl,rfl,Bh,hj,hl2,M9,Ep,ho,vN⟩:=hrel;have Xo:=Am9 vN;have XD:=Am9 M9;have Nb:=Am9 Ep;have LI:=Am9 hl2;clear vN M9 Ep;by_cases hlt:j<n
   ·have hg:=ho.cellAt j (by omega);rw [List.getElem?_map,AmH (by omega),Option.map_some]at hg;obtain⟨p,hp⟩:=Am8 (l2[j]);rw [←hp]at hg;have bf:=ng p wr;have hj0:(0:Int)<=(j:Int):=(by omega);have AW:(j:Int)<(n:Int):=(by omega);have NJ:(0:Int)<=(i:Int):=(by omega);have Sa:(i:Int)<(n:Int):=(by omega);have vI:j<l.length:=by rw [←HN.out];exact hlt
    have hpl:p=l[j]:=by rw [hp];have h1:(l2.drop j)[0]?=(l.drop j)[0]?:=(by rw [Nb.out]);rw [List.getElem?_drop,List.getElem?_drop,Nat.add_zero,AmH (by omega),AmH vI]at h1;exact Option.some.inj h1
    have C6:=zI l vI;rw [←hpl]at C6;have He:=Am9 C6;clear hp hpl C6 hl2
    cases hL:Hp p
    ·have HE:=Am9 hL;rw [hL]at bf;clear hL;(go_wp2_with fail);(with_reducible refine bf.mono ?_);rintro e w2 ⟨rfl,hx2⟩;have ho2:=AI ho hx2;have hgi:=ho2.cellAt i (by omega);rw [List.getElem?_map,AmH (by have:=LI.out;omega),Option.map_some]at hgi;have CY:=ho2.frozenAt i;have hst:=ho2.stored i (S p);rw [←List.map_set]at hst;have vP:Eg base w (w2.setCell ⟨g,i,none⟩ (S p)):=fun w0 h1 h2=>((Xo.out w0 h1 h2).trans hx2).setCell (p:=⟨g,i,none⟩) (AmM h2 hbg) _;have HS:=Am9 (And.intro hst.1 vP);clear hst vP hg;go_wp2;go_roundw
     case rel=>
      refine⟨i+1,j+1,l2.set i p,by go_num,by go_num,by omega,hlt,by rw [List.length_set];exact LI.out,?_,?_,HS.out.1,HS.out.2⟩
      ·rw [He.out,HE.out,←XD.out,AmF (by rw [List.length_set];have:=LI.out;omega),List.take_set_of_le (by omega),List.getElem_set_self]
       rfl
      ·have h1:=congrArg (List.drop 1) Nb.out;rw [List.drop_drop,List.drop_drop]at h1;rw [←h1,List.drop_set_of_lt (by omega)]
     case measure=>simp [intOf];omega
    ·have HE:=Am9 hL;rw [hL]at bf;clear hL;(go_wp2_with fail);(with_reducible refine bf.mono ?_);rintro e w2 ⟨rfl,hx2⟩;have ho2:=AI ho hx2;go_wp2;go_roundw
     case rel=>
      refine⟨i,j+1,l2,rfl,by go_num,by omega,hlt,LI.out,?_,?_,ho2,Xo.out.ext hx2⟩
      ·rw [He.out,HE.out,XD.out];simp
      ·have h1:=congrArg (List.drop 1) Nb.out;rw [List.drop_drop,List.drop_drop]at h1;exact h1
     case measure=>simp [intOf];omega
   ·have hjn:j=n:=(by omega);subst hjn;have hle:(j:Int)<=(j:Int):=(by omega);have NJ:(0:Int)<=(i:Int):=(by omega);have Pv:(i:Int)<=(j:Int):=(by omega);have KH:(i:Int)<=(c:Int):=(by omega);have hcl:=fun ty=>Lib.run_clear_slice (P:=Tryz.prog) wr 23 9 ty (S []) Tryz.underlying23 hz rfl rfl g i (j-i) (c-i) (by omega) (fun q hq=>by rw [ho.cellAt (i+q) (by omega),AmH (by simp;omega)];rfl) (fun q hq=>ho.frozenAt (i+q));obtain⟨l3,hl3,xX,Du⟩:=fl (base:=base) (n:=j) (v:=.slice (some ⟨g,0,none⟩) j c) (g:=g) rfl (j-i) i l2 wr ho ⟨_,rfl⟩;have bQ:=Aho Du (i:=i) (by omega);have hk3:Eg base w (wr.setCells g i (List.replicate (j-i) (S []))):=fun w0 h1 h2=>pU g (AmM h2 hbg) _ _ _ (Xo.out w0 h1 h2)
    have AY:Xe base l w (.returned (.slice (some ⟨g,0,none⟩) i c)) (wr.setCells g i (List.replicate (j-i) (S []))):=by
     have e:l3.take i=Dj l:=by rw [xX,XD.out,AmK (by rw [←HN.out];exact AmC _)]
     have e2:(Dj l).length=i:=(by rw [←e,List.length_take];omega);refine⟨⟨some ⟨g,0,none⟩,c,by rw [e2],?_⟩,hk3⟩;rw [e2,←e];exact bQ
    have HF:=Am9 AY;clear AY Du bQ hk3 ho hl3 xX;go_wp2;go_ret;exact HF.out
theorem AjW(F:List Bs):Fc F=Lib.compact ((Dj F).mergeSort fun x y=>decide (x<=y)):=by
 unfold Fc Dj
 rfl
def lA(l:List Bs)(w:World)(e:Ending)(w':World):Prop:=∃A c base,w.heap.size<=base/\e=.returned (.slice A l.length c)/\w'.ownsRow base 9 1 (.slice A l.length c) l.length (l.map S)/\Aa w w'
section
open Go.Shelf
theorem Af8{g:Nat}{cb:Array Value}{cf:Bs→Bs→Int}{blk size:Nat}{w:World}
  (h:∀W,w.grownBy W (some blk)→∀x y,Calls Tryz.prog g (#[S x,S y]++cb) W (Az (cf x y) W)):CmpLays1 Tryz.prog g cb encStr cf blk 0 size w:=by
 intro m os dk _ x y;have hg:w.grownBy (sortWorld encStr w blk 0 m dk os) (some blk):=grownBy_sorted dk;refine(Calls.drawn (h _ hg x y) (fun e w' h=>⟨_,h.1⟩)).mono ?_;rintro e w' ⟨⟨he,hx⟩,hd⟩;exact⟨he,hx.grow hd⟩
theorem AaI(c:List La)(A:Option Addr)(cc bc:Nat)(w:World)(hb:w.cell? ⟨bc,0,none⟩=some (.slice A c.length cc))(hr:Ae w A (C9 c))(h1:c.length<=cc)(h2:cc<=9223372036854775807)(a b:Bs) :
  Calls Tryz.prog 41 #[S a,S b,.pointer (some ⟨bc,0,none⟩)] w (Az (DR c a b) w):=by
 have cu:=fun W (hx:Aa w W)=>nQ c A cc W (hr.ext hx) h1 h2 a b;have cw:=cu w (Aa.refl w);generalize DR c a b=z at *;clear hr cu;go_enter Tryz.func41,Tryz.ntmps41;(go_wp2_with fail);(with_reducible refine cw.mono ?_);rintro e w1 ⟨rfl,hx⟩;go_wp2;go_ret;exact⟨rfl,hx⟩
theorem Ab8:∀args w,(callFunc 41 args).run Tryz.prog w=.ok (.enter 41 args) w:=enters_of Tryz.func41 (by kernel_rfl) rfl
theorem Aha:OneCell encStr:=fun _=>rfl
theorem Ajc(c:List La)(A:Option Addr)(cc bc:Nat)(w0 w:World)(hb:w0.cell? ⟨bc,0,none⟩=some (.slice A c.length cc))(hr:Ae w0 A (C9 c))(h1:c.length<=cc)(h2:cc<=9223372036854775807)(hx:Aa w0 w)(base:Nat)(h0:w0.heap.size<=base)
  (l:List Bs) (v:Value) (hown:w.ownsRow base 9 1 v l.length (l.map S)) (hl:l.length<=100000) :
  Calls Tryz.prog 40 #[v,.func (.func 41) #[] #[.pointer (some ⟨bc,0,none⟩)]] w (fun e w'=>e=.returned (.tuple #[])/\w'.ownsRow base 9 1 v l.length ((Jg c l).map S)/\Eg base w w'):=by
 have hU:(Jg c l).length=l.length:=List.length_mergeSort l
 rcases hown.2 with⟨rfl,hz⟩|⟨g,cap,cur,rfl,hbase,ID,k1,k2,k3,k4⟩
 ·have hl0:l.length=0:=hz;have hnil:l = []:=List.eq_nil_of_length_eq_zero hl0;subst hnil;refine(AnyF.slices_SortFunc_none {Tryz.laysSortSt with} none 0 _ w).mono ?_;rintro e w' ⟨rfl,rfl⟩;refine⟨rfl,?_,fun _ h _=>h⟩;have:Jg c [] = []:=(by unfold Jg;simp);rw [this];exact hown
 ·have hv:(Value.slice (some ⟨g,0,none⟩) l.length cap)≠.slice none 0 0:=(by simp);obtain⟨g',cap',he,-,hlt,-,-,-,hH⟩:=Lib.holds_of_ownsRow (enc:=encStr) (zs:=l) hown hv
  cases he
  have hs:=Any.slices_SortFunc_total Tryz.laysSortSt encStr Aha (DR c) (AjA c) 41 #[.pointer (some ⟨bc,0,none⟩)] g 0 cap l.toArray w Ab8
   (Af8 fun W hg x y=>AaI c A cc bc W ((Nx hx hg (by omega)).cellS hb) (hr.ext (Nx hx hg (by omega))) h1 h2 x y) hH hlt (by simp;omega) (AjO c)
  refine hs.mono ?_;rintro e w' ⟨rfl,n,os,rfl⟩;refine⟨rfl,ownsRow_sorted (n:=n) (os:=os) hU hbase ID k1 k2 k3,fun w1 h h'=>?_⟩;exact h.grown (grownBy_sorted _) (fun j hj=>by cases hj;omega)
end
end Go.Proofs.YtjalkoacphhgdaaGreatDoor
namespace Go.Proofs.YtjalkoacphhgdaaGreatDoor
open Go.RowKit Kl
theorem AjY(m:Ck)(fa:List Bs)(A B F:Option Addr)(c d g:Nat)(w:World)(hF:Ae w F (fa.map S))(hn:m.nf=fa.length)(hl:fa.length<=100000) :
  Calls Tryz.prog 36 #[Dk A B F m c d g] w (lA (Fc fa) w):=by
 have hb:=AmB w (.cells #[.slice A m.pts.length c,.slice B m.eds.length d,.slice F m.nf g] 36);have hE:=(Aa.refl w).alloc (.cells #[.slice A m.pts.length c,.slice B m.eds.length d,.slice F m.nf g] 36);have cl:=Aa6 fa F g (w.alloc (.cells #[.slice A m.pts.length c,.slice B m.eds.length d,.slice F m.nf g] 36)) (hF.ext hE) hl;rw [←hn]at cl;have HN:=Am9 hn;unfold Dk;clear hn hF;go_enter Tryz.func36,Tryz.ntmps36
 go_upto_region 1 with fail
 generalize w.alloc (.cells #[.slice A m.pts.length c,.slice B m.eds.length d,.slice F m.nf g] 36)=V at *;obtain⟨bm,C4⟩:=Am8 w.heap.size;rw [←C4]at hb ⊢;have k1:=Ab (o:=2) hb rfl;have HBM:=Am9 C4;clear C4;clear hb;(go_wp2_with fail);(with_reducible refine cl.mono ?_);rintro e w1 ⟨v,rfl,ho1,hx1⟩;have hB:=hE.size;have del:=Aba _ fa v w1 ho1 hl;clear k1;(go_wp2_with fail);(with_reducible refine del.mono ?_);rintro e w2 ⟨⟨A2,c2,rfl,ho2⟩,kp2⟩;have hk:(Dj fa).length<=100000:=AmM (List.length_filter_le _ _) hl;have so:=Ajb _ (Dj fa) _ w2 ho2 hk;(go_wp2_with fail);(with_reducible refine so.mono ?_);rintro e w3 ⟨rfl,Du,kp3⟩;have Di:((Dj fa).mergeSort fun x y=>decide (x<=y)).length=(Dj fa).length:=List.length_mergeSort _;rw [←Di]at Du;have co:=AaM _ _ _ w3 Du (by rw [Di];exact hk);rw [←AjW]at co;rw [Di]at co;clear Di;(go_wp2_with fail);(with_reducible refine co.mono ?_);rintro e w4 ⟨⟨A4,c4,rfl,BW⟩,kp4⟩;have AY:lA (Fc fa) w (.returned (.slice A4 (Fc fa).length c4)) w4:=⟨A4,c4,_,hB,rfl,BW,((kp2.trans kp3).trans kp4) w (hE.trans hx1) hB⟩;have HF:=Am9 AY;clear AY ho1 ho2 Du BW kp2 kp3 kp4;go_wp2;go_ret;exact HF.out
def O5(l:List En)(z:Int)(w:World)(e:Ending)(w':World):Prop:=∃A c,e=.returned (.tuple #[.slice A l.length c,.int .i64 z])/\Ae w' A (Bg l)/\l.length<=c/\c<=9223372036854775807/\Aa w w'
def Iu(c:List La)(fa:List Bs)(w:World)(e:Ending)(w':World):Prop:=O5 (if QU c fa=0 then Ds c (Jg c (Fc fa))else []) (QU c fa) w e w'
theorem O5.no{z:Int}{w w':World}(h:Aa w w'):O5 [] z w (.returned (.tuple #[.slice none 0 0,.int .i64 z])) w':=⟨none,0,rfl,⟨fun h=>by simp [Bg]at h⟩,by simp,by omega,h⟩
theorem iR(W:World)(x y:Obj):((W.alloc x).alloc y).heap[W.heap.size+1]?=some y/\((W.alloc x).alloc y).heap[W.heap.size]?=some x/\Aa W ((W.alloc x).alloc y):=by
 have h1:=AmB (W.alloc x) y;have h2:=(((Aa.refl (W.alloc x)).alloc y).block W.heap.size (by simp)).trans (AmB W x);have e:(W.alloc x).heap.size=W.heap.size+1:=(by simp);rw [e]at h1;exact⟨h1,h2,((Aa.refl W).alloc x).alloc y⟩
theorem Agk{F:List Bs}{u:Bs}(h:u∈Fc F):u∈F:=by
 unfold Fc at h
 have h1:u∈(F.filter (fun s=>s != [])).mergeSort (fun x y=>decide (x<=y)):=by unfold Lib.compact Lib.compactUpTo at h;rw [List.mem_map]at h;obtain⟨j,hj,rfl⟩:=h;rw [List.mem_filter,List.mem_range]at hj;rw [getElem!_pos _ j (by simpa using hj.1)];simp
 rw [List.mem_mergeSort]at h1;exact(List.mem_filter.1 h1).1
theorem mO{w:World}{b:Nat}{a0 a1 a2 a3:Value}{t:TypeId}(v:Value)(h:w.heap[b]?=some (.cells #[a0,a1,a2,a3] t)):(w.setCell ⟨b,3,none⟩ v).heap[b]?=some (.cells #[a0,a1,a2,v] t):=by
 simp only [World.setCell,Array.getElem?_modify,h];simp
theorem pK{a0 a1 a2:Value}{t:TypeId}{a:ByteArray}{b:Bs}(h:a=⟨b.toArray⟩):some (Obj.cells #[a0,a1,a2,.string a] t)=some (Obj.cells #[a0,a1,a2,S b] t):=by rw [h]
theorem AjF{c:List La}(h:∀y∈c,y.mn.length<100000/\y.mx.length<100000)(u:Bs):(textU c u).length<300000:=by
 unfold textU
 have:∀(l:List La) (t:Bs),(∀y∈l,y.mn.length<100000/\y.mx.length<100000)→t.length<300000→(l.foldl (G1 u) t).length<300000:=by
  intro l
  induction l with
  | nil=>intro t _ ht;exact ht
  | cons y l ih=>
   intro t hl ht;refine ih _ (fun z hz=>hl z (List.mem_cons_of_mem _ hz)) ?_;obtain⟨a,b⟩:=hl y (by simp);unfold G1 We
   split
   ·split
    ·simp [Oj];omega
    ·simp [Oj];omega
   ·exact ht
 exact this c [] h (by decide)
theorem AjE(c:List La)(u:Bs){j:Nat}(h:j<c.length):(c.take (j+1)).foldl (G1 u) []=G1 u ((c.take j).foldl (G1 u) []) c[j]:=by
 rw [AmF h,List.foldl_append]
 rfl
theorem AaH(u:Bs)(hu:u.length<1000000)(w:World):Calls Tryz.prog 38 #[S u] w (Br (!nameB u) w):=by
 have nm:=dP u hu w;generalize nameB u=b at *;go_enter Tryz.func38,Tryz.ntmps38;(go_wp2_with fail);(with_reducible refine nm.mono ?_);rintro e w1 ⟨rfl,hx⟩;go_wp2;go_ret;exact⟨rfl,hx⟩
theorem Ab6:∀args w,(callFunc 38 args).run Tryz.prog w=.ok (.enter 38 args) w:=enters_of Tryz.func38 (by kernel_rfl) rfl
theorem AaP(c:List La)(A:Option Addr)(cc:Nat)(m:Ck)(fa:List Bs)(A1 B1 F1:Option Addr)(c1 d1 g1:Nat)(w:World)(hr:Ae w A (C9 c))(h1:c.length<=cc)(h2:cc<=9223372036854775807)(hF:Ae w F1 (fa.map S))(hn:m.nf=fa.length)(hl:fa.length<=1000)
  (hlen:∀u∈fa,u.length<1000000) (hlc:∀y∈c,y.mn.length<100000/\y.mx.length<100000) (Pj:∀W,Aa w W→Calls Tryz.prog 32 #[.slice A c.length cc] W (Az 0 W)) (bT:∀W,Aa w W→Calls Tryz.prog 33 #[Dk A1 B1 F1 m c1 d1 g1] W (Az 0 W)) :
  Calls Tryz.prog 10 #[.slice A c.length cc,Dk A1 B1 F1 m c1 d1 g1] w (Iu c fa w):=by
 have hV:=iR w (.cells #[.slice A c.length cc] 32) (.cells #[.slice A1 m.pts.length c1,.slice B1 m.eds.length d1,.slice F1 m.nf g1] 36);obtain⟨hB,hA,hE⟩:=hV;have un:=fun W (hx:Aa w W)=>AjY m fa A1 B1 F1 c1 d1 g1 W (hF.ext hx) hn (by omega);have HLEN:=Am9 hlen;have jY:=Am9 hlc;have Ga:=Am9 hr;obtain⟨r,hr0⟩:=Am8 (QU c fa);have HR:=Am9 hr0;unfold Dk at bT un ⊢;have HNF:=Am9 hn;clear hF hlen hlc hr hr0 hn;go_enter Tryz.func10,Tryz.ntmps10
 go_upto_region 1 with fail
 generalize (w.alloc (.cells #[.slice A c.length cc] 32)).alloc (.cells #[.slice A1 m.pts.length c1,.slice B1 m.eds.length d1,.slice F1 m.nf g1] 36)=V at *;obtain⟨bc,RI⟩:=Am8 w.heap.size;rw [←RI]at hA hB ⊢;clear RI;have k1:=Ab (o:=0) hA rfl;(go_wp2_with fail);(with_reducible refine(Pj V hE).mono ?_);rintro e w1 ⟨rfl,hx1⟩;have hB1:=(hx1.block _ (AmA hB)).trans hB;have j1:=Ab (o:=0) hB1 rfl;have j2:=Ab (o:=1) hB1 rfl;have j3:=Ab (o:=2) hB1 rfl;have X1:=hE.trans hx1;clear k1 hB Pj;(go_wp2_with fail);(with_reducible refine(bT w1 X1).mono ?_);rintro e w2 ⟨rfl,hx2⟩;have hB2:=(hx2.block _ (AmA hB1)).trans hB1;have X2:=X1.trans hx2;have XV:=hx1.trans hx2;clear j1 j2 j3 hB1 bT hx1 hx2 X1;have j1:=Ab (o:=0) hB2 rfl;have j2:=Ab (o:=1) hB2 rfl;have j3:=Ab (o:=2) hB2 rfl;(go_wp2_with fail);(with_reducible refine(un w2 X2).mono ?_);rintro e w3 ⟨A3,c3,base,hb3,rfl,Du,hx3⟩;have XW:=XV.trans hx3;have X3:=hE.trans XW;obtain⟨A3',Yv,e3,hr3,hc3,Adj⟩:=Ae.of_own' (by omega) Du
 cases e3;have HM:=Am9 (fun u (hu:u∈Fc fa)=>HLEN.out u (Agk hu));have an:=x9 (cb:=#[]) Ab6 (fun u=>!nameB u) (Fc fa) A3 c3 w3 hr3 hc3 Adj (fun u hu W _=>AaH u (HM.out u hu) W);clear j1 j2 j3 hB2 un;have Ph:V.heap.size<=base:=AmM XV.size hb3;obtain⟨l,hl0⟩:=Am8 (Fc fa)
 have hce:r=if l.any (fun u=>!nameB u)=true then 8 else if 20<l.length then 4 else if (Ds c (Jg c l)).any (fun x=>decide (80<x.t.length))=true then 16 else 0:=by rw [HR.out,hl0];rfl
 have LE:=Am9 hce;have G6:=Am9 hl0;rw [←hl0]at Du hr3 hc3 an ⊢;clear hl0 hce
 cases a1:l.any (fun u=>!nameB u)
 rotate_left
 ·have hr8:r=8:=(by rw [LE.out,if_pos a1]);rw [a1]at an;subst hr8;clear a1;(go_wp2_with fail);(with_reducible refine an.mono ?_);rintro e w4 ⟨rfl,Ai⟩
  have AY:Iu c fa w (.returned (.tuple #[.slice none 0 0,.int .i64 8])) w4:=by unfold Iu;rw [←HR.out,if_neg (by omega)];exact O5.no (X3.trans Ai)
  have HF:=Am9 AY;clear AY Du hr3;go_wp2;go_ret2;exact HF.out
 have jG:=Am9 (show ¬(l.any (fun u=>!nameB u)=true)by rw [a1];simp);rw [a1]at an;clear a1;(go_wp2_with fail);(with_reducible refine an.mono ?_);rintro e w4 ⟨rfl,Ai⟩;have XX:=XW.trans Ai;have X4:=X3.trans Ai;have BW:=AI Du Ai;clear Du hr3 Ai an;by_cases D8:20<l.length
 ·have hr4:r=4:=(by rw [LE.out,if_neg jG.out,if_pos D8]);have t1:(20:Int)<(l.length:Int):=(by omega);subst hr4
  have AY:Iu c fa w (.returned (.tuple #[.slice none 0 0,.int .i64 4])) w4:=by unfold Iu;rw [←HR.out,if_neg (by omega)];exact O5.no X4
  have HF:=Am9 AY;clear AY BW;go_wp2;go_ret2;exact HF.out
 have t1:¬(20:Int)<(l.length:Int):=(by omega);have so:=Ajc c A cc bc V w4 (Ab (o:=0) hA rfl) (Ga.out.ext hE) h1 h2 XX base Ph l _ BW (by omega);(go_wp2_with fail);(with_reducible refine so.mono ?_);rintro e w5 ⟨rfl,Cj,kp5⟩;have hU:(Jg c l).length=l.length:=List.length_mergeSort l;have X5:=kp5 w X4 (AmM hE.size Ph);have TY:=kp5 V XX Ph;obtain⟨l2,hl2⟩:=Am8 (Jg c l);rw [←hl2]at Cj hU;have LI:=Am9 hl2
 have hce:r=if (Ds c l2).any (fun x=>decide (80<x.t.length))=true then 16 else 0:=by rw [LE.out,if_neg jG.out,if_neg D8,←hl2]
 have jM:=Am9 hce;obtain⟨n,hn⟩:=Am8 l.length;rw [←hn]at Cj hU D8 t1 ⊢;obtain⟨A5,c5,e5,wT,-,-⟩:=Ae.of_own' (by omega) Cj
 cases e5;have O0:=Am9 wT;have HN:=Am9 hn;have Xx:=Am9 hU;have HA:=Am9 ((TY.block _ (AmA hA)).trans hA);have kP:=Am9 (And.intro hE (And.intro TY X5));have Hd:=Am9 (Ga.out.ext X5);have h5b:=TY.size;have AdP:=AmA HA.out;clear hl2 hce hn hU wT Cj kp5 so BW hA X4 XX X3 XW X2 XV hE X5 TY hx3
 go_upto_region 15 with fail
 clear t1
 go_loopw [9,40] (fun ov kv wr=>∃(k:Nat),kv=.int .i64 (k:Nat)/\k<=n/\wr.ownsRow w5.heap.size 40 4 ov k (Bg (Ds c (l2.take k)))/\(∀e∈Ds c (l2.take k),e.t.length<=80)/\Aa w5 wr) (fun _ kv _=>n-(intOf kv).toNat)
 case atStart=>exact⟨0,rfl,by omega,⟨rfl,.inl ⟨rfl,rfl⟩⟩,by intro e he;simp [Ds]at he,Aa.refl _⟩
 case round=>
  obtain⟨k,rfl,hk,hown,M7,Ac⟩:=hrel;have Kd:=Am9 M7;clear M7;by_cases hkn:k<n
  ·have Co:k<l2.length:=(by rw [Xx.out];exact hkn);obtain⟨b,o,rfl,hcs⟩:=(O0.out.ext Ac).ad (by rw [List.length_map];omega);have hck:=hcs k (by rw [List.length_map];exact Co);rw [List.getElem_map]at hck;obtain⟨u,hu⟩:=Am8 (l2[k]);rw [←hu]at hck;have HU:=Am9 hu;have hk0:(0:Int)<=(k:Int):=(by omega);have Cb:(k:Int)<(n:Int):=(by omega);have AlC:(k:Int)<=20:=(by omega);have v1:IntKind.wrap .i64 ((k:Int)+1)=(k:Int)+1:=AmI _ (by omega);have v2:IntKind.wrap .i64 (97+(k:Int))=97+(k:Int):=AmI _ (by omega);have v3:IntKind.wrap .u8 (97+(k:Int))=97+(k:Int):=(by simp [IntKind.wrap,IntKind.bits,IntKind.signed];omega);have v4:IntKind.wrap .i64 (1+(k:Int)%5)=1+(k:Int)%5:=AmI _ (by omega);obtain⟨sy,Eb⟩:=Am8 (UInt8.ofNat (97+k):UInt8);have C6:(sy.toNat:Int)=97+(k:Int):=by rw [Eb,UInt8.toNat_ofNat'];omega
   have hcv:(convert 52 9 (.slice (some ⟨wr.heap.size,0,none⟩) 1 1)).run Tryz.prog (wr.alloc (.cells #[.int .u8 (97+(k:Int))] 5))=.ok (S [sy]) (wr.alloc (.cells #[.int .u8 (97+(k:Int))] 5)):=run_convert_bytes_back (P:=Tryz.prog) (wr.alloc (.cells #[.int .u8 (97+(k:Int))] 5)) 52 9 5 ⟨wr.heap.size,0,none⟩ 1 [sy] Tryz.underlying52 Tryz.underlying5 Tryz.underlying9 (by
    intro j hj;have:j=0:=(by simpa using hj);subst this;rw [Addr.add_lit]
    exact(Ab (AmB wr _) rfl).trans (by rw [List.getElem_cons_zero,C6];rfl))
   have hxb:=iR wr (.cells #[.int .u8 (97+(k:Int))] 5) (.cells #[S u,S [sy],.int .i64 (1+(k:Int)%5),S []] 40);have uf:=Am9 Eb;clear hu hcs Eb C6
   go_upto_region 18 with fail
   clear hcv v2 v3 v4 hck;have ZB:=(Aa.refl wr).alloc (.cells #[.int .u8 (97+(k:Int))] 5);have Ic:(wr.alloc (.cells #[.int .u8 (97+(k:Int))] 5)).heap.size=wr.heap.size+1:=(by simp);have dD:=(Aa.refl (wr.alloc (.cells #[.int .u8 (97+(k:Int))] 5))).alloc (.cells #[S u,S [sy],.int .i64 (1+(k:Int)%5),S []] 40);have wI:=AI hown ZB;obtain⟨hb1,-,-⟩:=hxb;unfold S at dD hb1;generalize (wr.alloc (.cells #[.int .u8 (97+(k:Int))] 5)).alloc (.cells #[.string ⟨u.toArray⟩,.string ⟨[sy].toArray⟩,.int .i64 (1+(k:Int)%5),.string ⟨([]:Bs).toArray⟩] 40)=V1 at *;generalize wr.alloc (.cells #[.int .u8 (97+(k:Int))] 5)=V0 at *;obtain⟨bx,Aw⟩:=Am8 (wr.heap.size+1);rw [←Aw]at hb1 Ic ⊢;have UP:V0.heap.size<=bx:=(by omega);have UC:=Ac.trans ZB;have hA1:=(UC.block _ (AmA HA.out)).trans HA.out;have ka:V1.cell? ⟨bc,0,none⟩=some (.slice A c.length cc):=dD.cellS (Ab (o:=0) hA1 rfl);have Xz:=Am9 wI;obtain⟨oP,oc,rfl⟩:=gi (by omega) hown;clear Aw Ic hown wI ZB Ac
   go_upto_region 19 with fail
   clear ka
   go_loopw [57] (fun jv wi=>∃(j:Nat),jv=.int .i64 (j:Nat)/\j<=c.length/\wi.heap[bx]?=some (.cells #[S u,S [sy],.int .i64 (1+(k:Int)%5),S ((c.take j).foldl (G1 u) [])] 40)/\Aa V0 wi) (fun jv _=>c.length-(intOf jv).toNat)
   case atStart=>exact⟨0,rfl,by omega,hb1,dD⟩
   case round=>
    obtain⟨j,rfl,hj,Hw,MD⟩:=hrel;obtain⟨tj,cS⟩:=Am8 ((c.take j).foldl (G1 u) []);rw [←cS]at Hw;have kL:=Am9 cS;clear cS;by_cases hjn:j<c.length
    ·have Vp:=hjn;obtain⟨b',o',rfl,hg1,hg2,hg3⟩:=gI (Hd.out.ext (UC.trans MD)) Vp;obtain⟨m2,m3⟩:=jY.out c[j] (AmD Vp);have C6:=AjE c u Vp;rw [←kL.out]at C6;obtain⟨y,hy⟩:=Am8 (c[j]);rw [←hy]at hg1 hg2 hg3 m2 m3 C6;have He:=Am9 C6;have hj0:(0:Int)<=(j:Int):=(by omega);have KL:(j:Int)<(c.length:Int):=(by omega);have v5:IntKind.wrap .i64 ((j:Int)+1)=(j:Int)+1:=AmI _ (by omega);have hyb:=AmB wr (.cells #[S y.u,S y.mn,S y.mx] 31);have hx2:=(Aa.refl wr).alloc (.cells #[S y.u,S y.mn,S y.mx] 31);have NE:=(hx2.block _ (AmA Hw)).trans Hw;have dF:=MD.trans hx2;have hne:wr.heap.size≠bx:=(by have:=AmA Hw;omega);clear hy C6 Hw MD hx2
     go_upto_region 21 with fail
     generalize wr.alloc (.cells #[S y.u,S y.mn,S y.mx] 31)=W1 at *;obtain⟨by_,tZ⟩:=Am8 wr.heap.size;rw [←tZ]at hyb hne ⊢;clear tZ hg1 hg2 hg3;have f1:=Ab (o:=0) hyb rfl;have f2:=Ab (o:=1) hyb rfl;have f3:=Ab (o:=2) hyb rfl;by_cases MF:y.u=u
     ·have t1:(y.u == u)=true:=(by rw [MF];exact beq_self_eq_true u);have p4:=Ab (o:=3) NE rfl;have q4:=AV (o:=3) NE;by_cases hm0:y.mx = []
      ·have MA:G1 u tj y=y.mn++Oj ++ [45]:=(by unfold G1 We;rw [if_pos MF,if_pos hm0]);rw [hm0]at f3;have XE:=Am9 (He.out.trans MA);have Xi:=Am9 NE;clear MF hm0 MA NE;go_wp2;go_roundw
       case rel=>refine⟨j+1,by go_num,hjn,(mO _ Xi.out).trans (pK ?_),dF.setCell (p:=⟨bx,3,none⟩) UP _⟩;rw [XE.out];apply ByteArray.ext;simp [Oj]
       case measure=>simp [intOf];omega
      ·have MA:G1 u tj y=y.mn++Oj++y.mx:=(by unfold G1 We;rw [if_pos MF,if_neg hm0]);have t3:(y.mx == [])=false:=beq_false_of_ne hm0
       have t4:y.mx.isEmpty=false:=by cases hm:y.mx with|nil=>exact absurd hm hm0|cons a b=>rfl
       have XE:=Am9 (He.out.trans MA);have Xi:=Am9 NE;clear MF MA NE;go_wp2;go_roundw
       case rel=>refine⟨j+1,by go_num,hjn,(mO _ Xi.out).trans (pK ?_),dF.setCell (p:=⟨bx,3,none⟩) UP _⟩;rw [XE.out];apply ByteArray.ext;simp [Oj]
       case measure=>simp [intOf];omega
     ·have t1:(y.u == u)=false:=beq_false_of_ne MF;have MA:G1 u tj y=tj:=if_neg MF;have HH:=Am9 (show W1.heap[bx]?=some (.cells #[S u,S [sy],.int .i64 (1+(k:Int)%5),S ((c.take (j+1)).foldl (G1 u) [])] 40)by rw [He.out,MA];exact NE);clear MF MA;go_wp2;go_roundw
      case rel=>exact⟨j+1,by go_num,hjn,HH.out,dF⟩
      case measure=>simp [intOf];omega
    ·have H7:j=c.length:=(by omega);subst H7;have VG:tj=textU c u:=(by rw [kL.out,List.take_length];rfl);have hd:QT c k u=⟨u,[sy],1+(k:Int)%5,tj⟩:=(by unfold QT;rw [←VG,←uf.out,Int.natCast_emod];rfl);have Dx:tj.length<300000:=(by rw [VG];exact AjF jY.out u);have q1:=Ab (o:=0) Hw rfl;have q2:=Ab (o:=1) Hw rfl;have q3:=Ab (o:=2) Hw rfl;have q4:=Ab (o:=3) Hw rfl;have HD:=Am9 hd;have HTU:=Am9 VG;clear VG hd;by_cases YX:80<tj.length
     ·have t6:(80:Int)<(tj.length:Int):=by omega
      have wS:r=16:=by rw [jM.out,if_pos];rw [List.any_eq_true];have Cm:k<(Ds c l2).length:=(by rw [OJ];exact Co);refine⟨(Ds c l2)[k],AmD Cm,?_⟩;rw [Y8 c l2 Co Cm,←HU.out,HD.out];exact decide_eq_true YX
      have AY:Iu c fa w (.returned (.tuple #[.slice none 0 0,.int .i64 16])) wr:=by unfold Iu;rw [←HR.out,wS,if_neg (by omega)];exact O5.no ((kP.out.2.2.trans UC).trans MD)
      have HF:=Am9 AY;clear AY wS YX;go_wp2;go_ret2;exact HF.out
     ·have t6:¬(80:Int)<(tj.length:Int):=(by omega);have hX:=UC.trans MD;have hown2:=AI Xz.out MD;have Ac2:tj.length<=80:=(by omega);clear YX
      go_wp2_with (at_builtin;go_loud (refine yb rfl _ _ rfl _ w5.heap.size (.slice oP k oc) k (Ds c (l2.take k)) rfl (AI hown2 ((Aa.refl wr).alloc _)) (by omega) ⟨u,[sy],1+(k:Int)%5,tj⟩ wr.heap.size (AmB _ _) rfl (AmM hX.size ((Aa.refl wr).alloc _).size) ?_);intro v9 w9 hown9 hext9)
      have hnew:=hext9 w5 (hX.trans ((Aa.refl wr).alloc _)) (AmC _);have IF:=AaK c l2 Co;rw [←HU.out,HD.out]at IF;rw [←IF]at hown9
      have xO:∀e∈Ds c (l2.take (k+1)),e.t.length<=80:=by
       rw [IF];intro e he
       rcases List.mem_append.1 he with h|h
       ·exact Kd.out e h
       ·rw [List.mem_singleton.1 h];exact Ac2
      have CC:=Am9 (And.intro hown9 (And.intro xO hnew));clear hown9 hnew hext9 xO IF q1 q2 q3 q4;go_wp2;go_roundw
      case rel=>exact⟨k+1,by go_num,hkn,CC.out.1,CC.out.2.1,CC.out.2.2⟩
      case measure=>simp [intOf];omega
  ·have Bw:k=n:=(by omega);subst Bw;have hall:l2.take k=l2:=AmK (by rw [Xx.out];exact AmC _);obtain⟨A9,c9,rfl,r9,s9,t9⟩:=Ae.of_own' (by omega) hown;have hs2:=Kd.out;rw [hall]at r9 hs2;have H8:(Ds c l2).length=k:=by rw [OJ];exact Xx.out
   have wR:r=0:=by rw [jM.out,if_neg];rw [List.any_eq_true];rintro⟨x,hx,h⟩;have:=hs2 x hx;have:=of_decide_eq_true h;omega
   have AY:Iu c fa w (.returned (.tuple #[.slice A9 k c9,.int .i64 0])) wr:=by unfold Iu;rw [←HR.out,wR,if_pos rfl,←G6.out,←LI.out];exact⟨A9,c9,by rw [H8],r9,by rw [H8];exact s9,t9,kP.out.2.2.trans Ac⟩
   have HF:=Am9 AY;clear AY r9 hown hall H8 hs2 wR;go_wp2;go_ret2;exact HF.out
end Go.Proofs.YtjalkoacphhgdaaGreatDoor
