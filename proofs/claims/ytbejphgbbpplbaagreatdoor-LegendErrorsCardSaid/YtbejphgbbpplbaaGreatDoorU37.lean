/- U37: ShT7 ShLGU ShLGS ShLGK ShLE1 ShLE3. -/
import Derived.Test.YtbejphgbbpplbaaGreatDoorU04
import Derived.Test.YtbejphgbbpplbaaGreatDoorU31
import Derived.Lib.OwnBridge
import Derived.Shelf.SlSortCmp.NoneTotal
set_option maxRecDepth 100000
set_option maxHeartbeats 16000000
namespace Go.Proofs.YtbejphgbbpplbaaGreatDoor
open Go.RowKit Kl Go.Sort
theorem AoS(l:List Bs)(j:Nat)(hj:j<l.length):((l.map fun x=>(⟨x.toArray⟩:ByteArray)).getD j ByteArray.empty)=⟨l[j].toArray⟩:=by
 simp [List.getD_eq_getElem?_getD,Asf hj]
def AbQ(l:List Bs)(w:World)(e:Ending)(w':World):Prop:=∃v,e=.returned v/\w'.ownsRow w.heap.size 9 1 v l.length (l.map S)/\Aa w w'
theorem uN(l:List Bs)(A:Option Addr)(c:Nat)(w:World)(hr:Ae w A (l.map S))(hl:l.length<=100000) :
  Calls Tryz.prog 15 #[.slice A l.length c] w (AbQ l w):=by
 by_cases h0:l = []
 ·subst h0
  cases A with
  | none=>
   refine(Tryz.slices_Clone_string_nil 0 c w).mono ?_;rintro e w' ⟨rfl,rfl⟩;exact⟨_,rfl,⟨rfl,.inl ⟨rfl,rfl⟩⟩,Aa.refl _⟩
  | some a=>refine(Tryz.slices_Clone_string_zero a c w).mono ?_;rintro e w' ⟨v,rfl,h,-,hb⟩;exact⟨v,rfl,h,hb⟩
 ·have Cp:0<l.length:=by cases l with|nil=>exact absurd rfl h0|cons a b=>simp
  obtain⟨b,o,rfl,hc⟩:=hr.ad (by simpa using Cp);refine(Tryz.slices_Clone_string b o l.length c (l.map fun x=>(⟨x.toArray⟩:ByteArray)) w (by simp) (by omega) (fun j hj=>?_)).mono ?_
  ·have hj':j<l.length:=(by simpa using hj);rw [AoS l j hj'];have:=hc j (by simpa using hj');rw [List.getElem_map]at this;exact this
  ·rintro e w' ⟨v,rfl,h,-,hb⟩;refine⟨v,rfl,?_,hb⟩
   have e1:((l.map fun x=>(⟨x.toArray⟩:ByteArray)).take l.length).map Value.string=l.map S:=by rw [Asi (by simp),List.map_map];rfl
   rw [e1]at h;exact h
def DU(base:Nat)(w w':World):Prop:=∀w0,Aa w0 w→w0.heap.size<=base→Aa w0 w'
theorem DU.trans{base:Nat}{a b c:World}(h:DU base a b)(k:DU base b c):DU base a c:=fun w0 h1 h2=>k w0 (h w0 h1 h2) h2
theorem DU.ext{base:Nat}{a b c:World}(h:DU base a b)(k:Aa b c):DU base a c:=fun w0 h1 h2=>(h w0 h1 h2).trans k
theorem DU.of{base:Nat}{a b:World}(k:Aa a b):DU base a b:=fun _ h1 _=>h1.trans k
theorem Ama{w:World}{base n g cap:Nat}{l:List Bs}(h:w.ownsRow base 9 1 (.slice (some ⟨g,0,none⟩) n cap) n (l.map S)){i:Nat}(hi:i<=n) :
  w.ownsRow base 9 1 (.slice (some ⟨g,0,none⟩) i cap) i ((l.take i).map S):=by
 have hl:=h.1;rw [List.length_map,Nat.mul_one]at hl;refine⟨by simp;omega,.inr ?_⟩
 rcases h.2 with⟨h0,_⟩|⟨g',cap',cur,e,hb,hg,h1,h2,h3,h4⟩
 ·cases h0
 ·cases e;refine⟨g,cap,cur,rfl,hb,hg,by omega,h2,h3,?_⟩;have e2:=congrArg (List.take (i*1)) h4;rw [List.take_take]at e2;rw [Nat.min_eq_left (by omega)]at e2;rw [e2,Nat.mul_one,List.map_take]
theorem wS{w0:World}(b:Nat)(hb:w0.heap.size<=b):∀(vs:List Value) (o:Nat) (w:World),Aa w0 w→Aa w0 (w.setCells b o vs)
 | [],_,_,h=>h
 | v::r,o,_,h=>wS b hb r (o+1) _ (h.setCell (p:=⟨b,o,none⟩) hb v)
theorem Aoc(base:Nat)(l:List Bs)(v:Value)(w:World)(hown:w.ownsRow base 9 1 v l.length (l.map S))(hl:l.length<=100000) :
  Calls Tryz.prog 57 #[v] w (fun e w'=>e=.returned (.tuple #[])/\w'.ownsRow base 9 1 v l.length ((l.mergeSort fun x y=>decide (x<=y)).map S)/\DU base w w'):=by
 rcases hown.2 with⟨rfl,h0⟩|⟨g,cap,cur,rfl,hbase,hb,h1,h2,h3,h4⟩
 ·have hl0:l.length=0:=h0;have hnil:l = []:=List.eq_nil_of_length_eq_zero hl0;refine(Tryz.slices_Sort_string_none none 0 w).mono ?_;rintro e w' ⟨rfl,rfl⟩;refine⟨rfl,?_,fun _ h _=>h⟩;subst hnil
  simpa using hown
 ·have hv:(Value.slice (some ⟨g,0,none⟩) l.length cap)≠.slice none 0 0:=(by simp);obtain⟨g',cap',he,-,hlt,-,-,-,hH⟩:=Lib.holds_of_ownsRow (enc:=encStr) (zs:=l) hown hv
  cases he;refine(Tryz.slices_Sort_string g 0 cap l w hH hlt (by omega)).mono ?_;rintro e w' ⟨rfl,n,os,rfl⟩;have hl2:(l.mergeSort fun x y=>decide (x<=y)).length=l.length:=List.length_mergeSort l;refine⟨rfl,ownsRow_sorted (n:=n) (os:=os) hl2 hbase hb h1 h2 h3,fun w0 h h'=>?_⟩;exact h.grown (grownBy_sorted _) (fun j hj=>by cases hj;omega)
theorem Afe(base:Nat)(l:List Bs)(v:Value)(w:World)(hown:w.ownsRow base 9 1 v l.length (l.map S))(hl:l.length<=100000) :
  Calls Tryz.prog 58 #[v] w (fun e w'=>(∃(A:Option Addr) (c:Nat),e=.returned (.slice A (Lib.compact l).length c)/\w'.ownsRow base 9 1 (.slice A (Lib.compact l).length c) (Lib.compact l).length ((Lib.compact l).map S))/\DU base w w'):=by
 rcases hown.2 with⟨rfl,h0⟩|⟨g,cap,cur,rfl,hbase,hb,h1,h2,h3,h4⟩
 ·have hl0:l.length=0:=h0;have hnil:l = []:=List.eq_nil_of_length_eq_zero hl0;subst hnil;refine(Tryz.slices_Compact_string_empty none 0 w).mono ?_;rintro e w' ⟨rfl,rfl⟩;exact⟨⟨none,0,rfl,⟨rfl,.inl ⟨rfl,rfl⟩⟩⟩,fun _ h _=>h⟩
 ·have hv:(Value.slice (some ⟨g,0,none⟩) l.length cap)≠.slice none 0 0:=(by simp);obtain⟨g',cap',he,-,hlt,DI,-,-,hH⟩:=Lib.holds_of_ownsRow (enc:=encStr) (zs:=l) hown hv
  cases he;refine(Tryz.slices_Compact_string g 0 cap l w hH (by omega) DI).mono ?_;rintro e w' ⟨rfl,q,rfl⟩;have hle:=Lib.compact_length_le l;have hc:=Lib.ownsRow_putRow (enc:=encStr) (q:=q) (k:=(Lib.compact l).length) (ys:=Lib.compact l++List.replicate (l.length-(Lib.compact l).length) []) hown (by simp;omega) hle;rw [List.take_left]at hc;exact⟨⟨_,_,rfl,hc⟩,fun w0 h h'=>Lib.below_putRow h (by omega)⟩
def cJ(s:Bs):Bool:=s == []
theorem AoY(s:Bs)(w:World):Calls Tryz.prog 95 #[S s] w (Bw (cJ s) w):=by
 go_enter Tryz.func95,Tryz.ntmps95;go_wp2;go_ret;exact⟨by cases s<;>rfl,Aa.refl _⟩
theorem Aga:∀args w,(callFunc 95 args).run Tryz.prog w=.ok (.enter 95 args) w:=enters_of Tryz.func95 (by kernel_rfl) rfl
theorem yc{base n:Nat}{v:Value}{g:Nat}(hv:v.ownBlock=some g):∀(m o:Nat) (l:List Bs) (w:World),w.ownsRow base 9 1 v n (l.map S)→(∃c,v=.slice (some ⟨g,0,none⟩) n c)→
  ∃l':List Bs,l'.length=l.length/\l'.take o=l.take o/\(w.setCells g o (List.replicate m (S []))).ownsRow base 9 1 v n (l'.map S)
 | 0,_,l,_,h,_=>⟨l,rfl,rfl,h⟩
 | m+1,o,l,w,h,hs=>by obtain⟨c,rfl⟩:=hs;have h2:=(h.stored o (S [])).1;rw [←List.map_set]at h2;obtain⟨l',h3,h5,h4⟩:=yc hv m (o+1) (l.set o []) _ h2 ⟨c,rfl⟩;refine⟨l',by rw [h3,List.length_set],?_,h4⟩;have:=congrArg (List.take o) h5;rw [List.take_take,List.take_take,Nat.min_eq_left (by omega)]at this;rw [this,List.take_set_of_le (by omega)]
def EH(f:Bs→Bool)(l:List Bs):List Bs:=l.filter (fun s=>!f s)
theorem rk(f:Bs→Bool)(l:List Bs){j:Nat}(h:j<l.length):EH f (l.take (j+1))=EH f (l.take j)++if f l[j] then [] else [l[j]]:=by
 unfold EH;rw [Asd h,List.filter_append]
 congr 1
 cases hE:f l[j]<;>simp [hE]
theorem rj{f:Bs→Bool}{l:List Bs}(h:∀q∈l,f q=false):EH f l=l:=by
 unfold EH;rw [List.filter_eq_self];intro a ha;rw [h a ha];rfl
def Zl(f:Bs→Bool)(base:Nat)(l:List Bs)(w:World)(e:Ending)(w':World):Prop:=
 (∃(A:Option Addr) (c:Nat),e=.returned (.slice A (EH f l).length c)/\w'.ownsRow base 9 1 (.slice A (EH f l).length c) (EH f l).length ((EH f l).map S))/\DU base w w'
theorem vN{gf:FuncId}{cb:Array Value}(eg:∀args w,(callFunc gf args).run Tryz.prog w=.ok (.enter gf args) w)(f:Bs→Bool)(base:Nat)(l:List Bs)(v:Value)(w:World)(hown:w.ownsRow base 9 1 v l.length (l.map S))(hl:l.length<=100000)
  (hp:∀e∈l,∀W,DU base w W→Calls Tryz.prog gf (#[S e]++cb) W (Bw (f e) W)) :
  Calls Tryz.prog 27 #[v,.func (.func gf) #[] cb] w (Zl f base l w):=by
 obtain⟨A,c,rfl,hr,hc1,hc2⟩:=Ae.of_own' (by omega) hown;have ie:=qx eg f l A c w hr hc1 hc2 (fun e he W hx=>hp e he W (DU.of hx));obtain⟨n,hn⟩:=ArV l.length;have hge:=Aj5 f l;have Uc:=Aj6 f l
 have TI:(CC f l = -1/\EH f l=l)∨∃i:Nat,CC f l=(i:Int)/\i<n/\EH f (l.take (i+1))=l.take i:=by
  unfold CC
  cases hf:l.findIdx? f with
  | none=>
   rw [List.findIdx?_eq_none_iff]at hf;exact .inl ⟨rfl,rj hf⟩
  | some i=>
   rw [List.findIdx?_eq_some_iff_getElem]at hf;obtain⟨hi,h1,h2⟩:=hf;refine .inr ⟨i,rfl,by omega,?_⟩;rw [rk f l hi,h1];simp only [if_true,List.append_nil];refine rj fun q hq=>?_;rw [List.mem_take_iff_getElem]at hq;obtain⟨k,hk,rfl⟩:=hq;have:=h2 k (by omega)
   simpa using this
 rw [←hn]at ie hown hc1 hl ⊢;have HN:=ArW hn;obtain⟨z,hz0⟩:=ArV (CC f l);rw [←hz0]at ie hge Uc TI;have HC:=ArW TI;have HPP:=ArW hp;clear hn hr hz0 TI hp;go_enter Tryz.func27,Tryz.ntmps27;(go_wp2_with fail);(with_reducible refine ie.mono ?_);rintro e w1 ⟨rfl,hx1⟩;have ho1:=Ao hown hx1;by_cases hk:z = -1
 ·subst hk
  have CP:EH f l=l:=by
   rcases HC.out with⟨_,h⟩|⟨i,h,_⟩
   ·exact h
   ·omega
  have Ay:Zl f base l w (.returned (.slice A n c)) w1:=⟨⟨A,c,by rw [CP,←HN.out],by rw [CP,←HN.out];exact ho1⟩,DU.of hx1⟩;have HF:=ArW Ay;clear Ay ho1 hown CP;go_wp2;go_ret;exact HF.out
 ·obtain⟨i0,rfl,hin,hk0⟩:∃i:Nat,z=(i:Int)/\i<n/\EH f (l.take (i+1))=l.take i:=by
   rcases HC.out with⟨h,_⟩|h
   ·exact absurd h hk
   ·exact h
  have HK0:=ArW hk0;have hkb:((i0:Int) == -1)=false:=beq_false_of_ne hk
  obtain⟨g,rfl,hbg⟩:∃g,A=some ⟨g,0,none⟩/\base<=g:=by
   rcases hown.2 with⟨_,h'⟩|⟨g,cap,cur,hv,hb,_⟩
   ·omega
   ·cases hv;exact⟨g,rfl,hb⟩
  have hz:∀w,(zeroValue 9).run Tryz.prog w=.ok (S []) w:=fun w=>by obtain⟨i0,hi,hz0,hz1,hz2⟩:=info_parts Tryz.infoStr;simp [zeroValue,typeInfo,hi,hz0]
  clear hk hk0 hge Uc
  go_upto_region 5 with fail
  go_loopw [5,6] (fun iv jv wr=>∃(i j:Nat) (l2:List Bs),iv=.int .i64 (i:Nat)/\jv=.int .i64 (j:Nat)/\i<j/\j<=n/\l2.length=n/\l2.take i=EH f (l.take j)/\l2.drop j=l.drop j/\wr.ownsRow base 9 1 (.slice (some ⟨g,0,none⟩) n c) n (l2.map S)/\DU base w wr) (fun _ jv _=>n-(intOf jv).toNat)
  case atStart=>exact⟨i0,i0+1,l,rfl,by go_num,by omega,by omega,HN.out.symm,HK0.out.symm,rfl,ho1,DU.of hx1⟩
  case round=>
   obtain⟨i,j,l2,rfl,rfl,Bn,hj,hl2,GY,GN,ho,Xr⟩:=hrel;have Zy:=ArW Xr;have ZD:=ArW GY;have Zr:=ArW GN;have EO:=ArW hl2;clear GY GN;by_cases hlt:j<n
   ·have hg:=ho.cellAt j (by omega);rw [List.getElem?_map,Asf (by omega),Option.map_some]at hg;obtain⟨p,hp⟩:=ArV (l2[j]);rw [←hp]at hg;have bf:=HPP.out l[j] (Asa (by rw [←HN.out];exact hlt)) wr Xr;have hj0:(0:Int)<=(j:Int):=(by omega);have A7:(j:Int)<(n:Int):=(by omega);have GR:(0:Int)<=(i:Int):=(by omega);have TR:(i:Int)<(n:Int):=(by omega);have jd:j<l.length:=by rw [←HN.out];exact hlt
    have hpl:p=l[j]:=by rw [hp];have h1:(l2.drop j)[0]?=(l.drop j)[0]?:=(by rw [Zr.out]);rw [List.getElem?_drop,List.getElem?_drop,Nat.add_zero,Asf (by omega),Asf jd]at h1;exact Option.some.inj h1
    have Cf:=rk f l jd;rw [←hpl]at Cf bf;have Gh:=ArW Cf;clear hp hpl Cf hl2 Xr
    cases hL:f p
    ·have HE:=ArW hL;rw [hL]at bf;clear hL;(go_wp2_with fail);(with_reducible refine bf.mono ?_);rintro e w2 ⟨rfl,hx2⟩;have ho2:=Ao ho hx2;have hgi:=ho2.cellAt i (by omega);rw [List.getElem?_map,Asf (by have:=EO.out;omega),Option.map_some]at hgi;have Dz:=ho2.frozenAt i;have hst:=ho2.stored i (S p);rw [←List.map_set]at hst;have ji:DU base w (w2.setCell ⟨g,i,none⟩ (S p)):=fun w0 h1 h2=>((Zy.out w0 h1 h2).trans hx2).setCell (p:=⟨g,i,none⟩) (Asl h2 hbg) _;have HS:=ArW (And.intro hst.1 ji);clear hst ji hg;go_wp2;go_roundw
     case rel=>
      refine⟨i+1,j+1,l2.set i p,by go_num,by go_num,by omega,hlt,by rw [List.length_set];exact EO.out,?_,?_,HS.out.1,HS.out.2⟩
      ·rw [Gh.out,HE.out,←ZD.out,Asd (by rw [List.length_set];have:=EO.out;omega),List.take_set_of_le (by omega),List.getElem_set_self]
       rfl
      ·have h1:=congrArg (List.drop 1) Zr.out;rw [List.drop_drop,List.drop_drop]at h1;rw [←h1,List.drop_set_of_lt (by omega)]
     case measure=>simp [intOf];omega
    ·have HE:=ArW hL;rw [hL]at bf;clear hL;(go_wp2_with fail);(with_reducible refine bf.mono ?_);rintro e w2 ⟨rfl,hx2⟩;have ho2:=Ao ho hx2;go_wp2;go_roundw
     case rel=>
      refine⟨i,j+1,l2,rfl,by go_num,by omega,hlt,EO.out,?_,?_,ho2,Zy.out.ext hx2⟩
      ·rw [Gh.out,HE.out,ZD.out];simp
      ·have h1:=congrArg (List.drop 1) Zr.out;rw [List.drop_drop,List.drop_drop]at h1;exact h1
     case measure=>simp [intOf];omega
   ·clear Xr;have hjn:j=n:=(by omega);subst hjn;have hle:(j:Int)<=(j:Int):=(by omega);have GR:(0:Int)<=(i:Int):=(by omega);have Jw:(i:Int)<=(j:Int):=(by omega);have QH:(i:Int)<=(c:Int):=(by omega);have hcl:=fun ty=>Lib.run_clear_slice (P:=Tryz.prog) wr 23 9 ty (S []) Tryz.underlying23 hz rfl rfl g i (j-i) (c-i) (by omega) (fun q hq=>by rw [ho.cellAt (i+q) (by omega),Asf (by simp;omega)];rfl) (fun q hq=>ho.frozenAt (i+q));obtain⟨l3,hl3,NA,Dc⟩:=yc (base:=base) (n:=j) (v:=.slice (some ⟨g,0,none⟩) j c) (g:=g) rfl (j-i) i l2 wr ho ⟨_,rfl⟩;have jN:=Ama Dc (i:=i) (by omega);have hk3:DU base w (wr.setCells g i (List.replicate (j-i) (S []))):=fun w0 h1 h2=>wS g (Asl h2 hbg) _ _ _ (Zy.out w0 h1 h2)
    have Ay:Zl f base l w (.returned (.slice (some ⟨g,0,none⟩) i c)) (wr.setCells g i (List.replicate (j-i) (S []))):=by
     have e:l3.take i=EH f l:=by rw [NA,ZD.out,Asi (by rw [←HN.out];exact ArZ _)]
     have e2:(EH f l).length=i:=(by rw [←e,List.length_take];omega);refine⟨⟨some ⟨g,0,none⟩,c,by rw [e2],?_⟩,hk3⟩;rw [e2,←e];exact jN
    have HF:=ArW Ay;clear Ay Dc jN hk3 ho hl3 NA;go_wp2;go_ret;exact HF.out
def Ky(l:List Bs):List Bs:=EH cJ l
def AbT(base:Nat)(l:List Bs)(w:World)(e:Ending)(w':World):Prop:=
 (∃(A:Option Addr) (c:Nat),e=.returned (.slice A (Ky l).length c)/\w'.ownsRow base 9 1 (.slice A (Ky l).length c) (Ky l).length ((Ky l).map S))/\DU base w w'
theorem Afx(base:Nat)(l:List Bs)(v:Value)(w:World)(hown:w.ownsRow base 9 1 v l.length (l.map S))(hl:l.length<=100000) :
  Calls Tryz.prog 27 #[v,.func (.func 95) #[] #[]] w (AbT base l w):=
 vN (cb:=#[]) Aga cJ base l v w hown hl (fun e _ W _=>AoY e W)
theorem AoZ(F:List Bs):Cw F=Lib.compact ((Ky F).mergeSort fun x y=>decide (x<=y)):=by
 unfold Cw Ky EH
 rfl
def rO(l:List Bs)(w:World)(e:Ending)(w':World):Prop:=∃A c base,w.heap.size<=base/\e=.returned (.slice A l.length c)/\w'.ownsRow base 9 1 (.slice A l.length c) l.length (l.map S)/\Aa w w'
section
open Go.Shelf
theorem Akb{g:Nat}{cb:Array Value}{cf:Bs→Bs→Int}{blk size:Nat}{w:World}
  (h:∀W,w.grownBy W (some blk)→∀x y,Calls Tryz.prog g (#[S x,S y]++cb) W (Av (cf x y) W)):CmpLays1 Tryz.prog g cb encStr cf blk 0 size w:=by
 intro m os dk _ x y;have hg:w.grownBy (sortWorld encStr w blk 0 m dk os) (some blk):=grownBy_sorted dk;refine(Calls.drawn (h _ hg x y) (fun e w' h=>⟨_,h.1⟩)).mono ?_;rintro e w' ⟨⟨he,hx⟩,hd⟩;exact⟨he,hx.grow hd⟩
theorem Afa(c:List La)(A:Option Addr)(cc bc:Nat)(w:World)(hb:w.cell? ⟨bc,0,none⟩=some (.slice A c.length cc))(hr:Ae w A (Cj c))(h1:c.length<=cc)(h2:cc<=9223372036854775807)(a b:Bs) :
  Calls Tryz.prog 44 #[S a,S b,.pointer (some ⟨bc,0,none⟩)] w (Av (Cz c a b) w):=by
 have cu:=fun W (hx:Aa w W)=>bH c A cc W (hr.ext hx) h1 h2 a b;have cw:=cu w (Aa.refl w);generalize Cz c a b=z at *;clear hr cu;go_enter Tryz.func44,Tryz.ntmps44;(go_wp2_with fail);(with_reducible refine cw.mono ?_);rintro e w1 ⟨rfl,hx⟩;go_wp2;go_ret;exact⟨rfl,hx⟩
theorem AfU:∀args w,(callFunc 44 args).run Tryz.prog w=.ok (.enter 44 args) w:=enters_of Tryz.func44 (by kernel_rfl) rfl
theorem AlK:OneCell encStr:=fun _=>rfl
theorem Aod(c:List La)(A:Option Addr)(cc bc:Nat)(w0 w:World)(hb:w0.cell? ⟨bc,0,none⟩=some (.slice A c.length cc))(hr:Ae w0 A (Cj c))(h1:c.length<=cc)(h2:cc<=9223372036854775807)(hx:Aa w0 w)(base:Nat)(h0:w0.heap.size<=base)
  (l:List Bs) (v:Value) (hown:w.ownsRow base 9 1 v l.length (l.map S)) (hl:l.length<=100000) :
  Calls Tryz.prog 18 #[v,.func (.func 44) #[] #[.pointer (some ⟨bc,0,none⟩)]] w (fun e w'=>e=.returned (.tuple #[])/\w'.ownsRow base 9 1 v l.length ((G3 c l).map S)/\DU base w w'):=by
 have hU:(G3 c l).length=l.length:=List.length_mergeSort l
 rcases hown.2 with⟨rfl,hz⟩|⟨g,cap,cur,rfl,hbase,hbk,k1,k2,k3,k4⟩
 ·have hl0:l.length=0:=hz;have hnil:l = []:=List.eq_nil_of_length_eq_zero hl0;subst hnil;refine(AnyF.slices_SortFunc_none {Tryz.laysSortSt with} none 0 _ w).mono ?_;rintro e w' ⟨rfl,rfl⟩;refine⟨rfl,?_,fun _ h _=>h⟩;have:G3 c [] = []:=(by unfold G3;simp);rw [this];exact hown
 ·have hv:(Value.slice (some ⟨g,0,none⟩) l.length cap)≠.slice none 0 0:=(by simp);obtain⟨g',cap',he,-,hlt,-,-,-,hH⟩:=Lib.holds_of_ownsRow (enc:=encStr) (zs:=l) hown hv
  cases he
  have hs:=Any.slices_SortFunc_total Tryz.laysSortSt encStr AlK (Cz c) (YW c) 44 #[.pointer (some ⟨bc,0,none⟩)] g 0 cap l.toArray w AfU
   (Akb fun W hg x y=>Afa c A cc bc W ((MQ hx hg (by omega)).cellS hb) (hr.ext (MQ hx hg (by omega))) h1 h2 x y) hH hlt (by simp;omega) (Abv c)
  refine hs.mono ?_;rintro e w' ⟨rfl,n,os,rfl⟩;refine⟨rfl,ownsRow_sorted (n:=n) (os:=os) hU hbase hbk k1 k2 k3,fun w1 h h'=>?_⟩;exact h.grown (grownBy_sorted _) (fun j hj=>by cases hj;omega)
end
end Go.Proofs.YtbejphgbbpplbaaGreatDoor
namespace Go.Proofs.YtbejphgbbpplbaaGreatDoor
open Go.RowKit Kl
theorem Ab1(m:Bz)(fa:List Bs)(A B F:Option Addr)(c d g:Nat)(w:World)(hF:Ae w F (fa.map S))(hn:m.nf=fa.length)(hl:fa.length<=100000) :
  Calls Tryz.prog 40 #[Bv A B F m c d g] w (rO (Cw fa) w):=by
 have hb:=ArY w (.cells #[.slice A m.pts.length c,.slice B m.eds.length d,.slice F m.nf g] 36);have hE:=(Aa.refl w).alloc (.cells #[.slice A m.pts.length c,.slice B m.eds.length d,.slice F m.nf g] 36);have cl:=uN fa F g (w.alloc (.cells #[.slice A m.pts.length c,.slice B m.eds.length d,.slice F m.nf g] 36)) (hF.ext hE) hl;rw [←hn]at cl;have HN:=ArW hn;unfold Bv;clear hn hF;go_enter Tryz.func40,Tryz.ntmps40
 go_upto_region 1 with fail
 generalize w.alloc (.cells #[.slice A m.pts.length c,.slice B m.eds.length d,.slice F m.nf g] 36)=V at *;obtain⟨bm,CN⟩:=ArV w.heap.size;rw [←CN]at hb ⊢;have k1:=Ab (o:=2) hb rfl;have HBM:=ArW CN;clear CN;clear hb;(go_wp2_with fail);(with_reducible refine cl.mono ?_);rintro e w1 ⟨v,rfl,ho1,hx1⟩;have hB:=hE.size;have del:=Afx _ fa v w1 ho1 hl;clear k1;(go_wp2_with fail);(with_reducible refine del.mono ?_);rintro e w2 ⟨⟨A2,c2,rfl,ho2⟩,kp2⟩;have hk:(Ky fa).length<=100000:=Asl (List.length_filter_le _ _) hl;have so:=Aoc _ (Ky fa) _ w2 ho2 hk;(go_wp2_with fail);(with_reducible refine so.mono ?_);rintro e w3 ⟨rfl,Dc,kp3⟩;have CB:((Ky fa).mergeSort fun x y=>decide (x<=y)).length=(Ky fa).length:=List.length_mergeSort _;rw [←CB]at Dc;have co:=Afe _ _ _ w3 Dc (by rw [CB];exact hk);rw [←AoZ]at co;rw [CB]at co;clear CB;(go_wp2_with fail);(with_reducible refine co.mono ?_);rintro e w4 ⟨⟨A4,c4,rfl,C2⟩,kp4⟩;have Ay:rO (Cw fa) w (.returned (.slice A4 (Cw fa).length c4)) w4:=⟨A4,c4,_,hB,rfl,C2,((kp2.trans kp3).trans kp4) w (hE.trans hx1) hB⟩;have HF:=ArW Ay;clear Ay ho1 ho2 Dc C2 kp2 kp3 kp4;go_wp2;go_ret;exact HF.out
def PO(l:List En)(z:Int)(w:World)(e:Ending)(w':World):Prop:=∃A c,e=.returned (.tuple #[.slice A l.length c,.int .i64 z])/\Ae w' A (AN l)/\l.length<=c/\c<=9223372036854775807/\Aa w w'
def Im(c:List La)(fa:List Bs)(w:World)(e:Ending)(w':World):Prop:=PO (if MO c fa=0 then D8 c (G3 c (Cw fa))else []) (MO c fa) w e w'
theorem PO.no{z:Int}{w w':World}(h:Aa w w'):PO [] z w (.returned (.tuple #[.slice none 0 0,.int .i64 z])) w':=⟨none,0,rfl,⟨fun h=>by simp [AN]at h⟩,by simp,by omega,h⟩
theorem RI(W:World)(x y:Obj):((W.alloc x).alloc y).heap[W.heap.size+1]?=some y/\((W.alloc x).alloc y).heap[W.heap.size]?=some x/\Aa W ((W.alloc x).alloc y):=by
 have h1:=ArY (W.alloc x) y;have h2:=(((Aa.refl (W.alloc x)).alloc y).block W.heap.size (by simp)).trans (ArY W x);have e:(W.alloc x).heap.size=W.heap.size+1:=(by simp);rw [e]at h1;exact⟨h1,h2,((Aa.refl W).alloc x).alloc y⟩
theorem ve{F:List Bs}{u:Bs}(h:u∈Cw F):u∈F:=by
 unfold Cw at h
 have h1:u∈(F.filter (fun s=>s != [])).mergeSort (fun x y=>decide (x<=y)):=by unfold Lib.compact Lib.compactUpTo at h;rw [List.mem_map]at h;obtain⟨j,hj,rfl⟩:=h;rw [List.mem_filter,List.mem_range]at hj;rw [getElem!_pos _ j (by simpa using hj.1)];simp
 rw [List.mem_mergeSort]at h1;exact(List.mem_filter.1 h1).1
theorem tH{w:World}{b:Nat}{a0 a1 a2 a3:Value}{t:TypeId}(v:Value)(h:w.heap[b]?=some (.cells #[a0,a1,a2,a3] t)):(w.setCell ⟨b,3,none⟩ v).heap[b]?=some (.cells #[a0,a1,a2,v] t):=by
 simp only [World.setCell,Array.getElem?_modify,h];simp
theorem wM{a0 a1 a2:Value}{t:TypeId}{a:ByteArray}{b:Bs}(h:a=⟨b.toArray⟩):some (Obj.cells #[a0,a1,a2,.string a] t)=some (Obj.cells #[a0,a1,a2,S b] t):=by rw [h]
theorem AoI{c:List La}(h:∀y∈c,y.mn.length<100000/\y.mx.length<100000)(u:Bs):(textU c u).length<300000:=by
 unfold textU
 have:∀(l:List La) (t:Bs),(∀y∈l,y.mn.length<100000/\y.mx.length<100000)→t.length<300000→(l.foldl (G4 u) t).length<300000:=by
  intro l
  induction l with
  | nil=>intro t _ ht;exact ht
  | cons y l ih=>
   intro t hl ht;refine ih _ (fun z hz=>hl z (List.mem_cons_of_mem _ hz)) ?_;obtain⟨a,b⟩:=hl y (by simp);unfold G4 Yj
   split
   ·split
    ·simp [P5];omega
    ·simp [P5];omega
   ·exact ht
 exact this c [] h (by decide)
theorem AoH(c:List La)(u:Bs){j:Nat}(h:j<c.length):(c.take (j+1)).foldl (G4 u) []=G4 u ((c.take j).foldl (G4 u) []) c[j]:=by
 rw [Asd h,List.foldl_append]
 rfl
theorem AeZ(u:Bs)(hu:u.length<1000000)(w:World):Calls Tryz.prog 42 #[S u] w (Bw (!nameB u) w):=by
 have nm:=kV u hu w;generalize nameB u=b at *;go_enter Tryz.func42,Tryz.ntmps42;(go_wp2_with fail);(with_reducible refine nm.mono ?_);rintro e w1 ⟨rfl,hx⟩;go_wp2;go_ret;exact⟨rfl,hx⟩
theorem AfS:∀args w,(callFunc 42 args).run Tryz.prog w=.ok (.enter 42 args) w:=enters_of Tryz.func42 (by kernel_rfl) rfl
theorem vB(c:List La)(A:Option Addr)(cc:Nat)(m:Bz)(fa:List Bs)(A1 B1 F1:Option Addr)(c1 d1 g1:Nat)(w:World)(hr:Ae w A (Cj c))(h1:c.length<=cc)(h2:cc<=9223372036854775807)(hF:Ae w F1 (fa.map S))(hn:m.nf=fa.length)(hl:fa.length<=1000)
  (hlen:∀u∈fa,u.length<1000000) (hlc:∀y∈c,y.mn.length<100000/\y.mx.length<100000) (DZ:∀W,Aa w W→Calls Tryz.prog 32 #[.slice A c.length cc] W (Av 0 W)) (C6:∀W,Aa w W→Calls Tryz.prog 33 #[Bv A1 B1 F1 m c1 d1 g1] W (Av 0 W)) :
  Calls Tryz.prog 10 #[.slice A c.length cc,Bv A1 B1 F1 m c1 d1 g1] w (Im c fa w):=by
 have hV:=RI w (.cells #[.slice A c.length cc] 32) (.cells #[.slice A1 m.pts.length c1,.slice B1 m.eds.length d1,.slice F1 m.nf g1] 36);obtain⟨hB,hA,hE⟩:=hV;have un:=fun W (hx:Aa w W)=>Ab1 m fa A1 B1 F1 c1 d1 g1 W (hF.ext hx) hn (by omega);have HLEN:=ArW hlen;have qD:=ArW hlc;have ER:=ArW hr;obtain⟨r,hr0⟩:=ArV (MO c fa);have HR:=ArW hr0;unfold Bv at C6 un ⊢;have Sk:=ArW hn;clear hF hlen hlc hr hr0 hn;go_enter Tryz.func10,Tryz.ntmps10
 go_upto_region 1 with fail
 generalize (w.alloc (.cells #[.slice A c.length cc] 32)).alloc (.cells #[.slice A1 m.pts.length c1,.slice B1 m.eds.length d1,.slice F1 m.nf g1] 36)=V at *;obtain⟨bc,Dx⟩:=ArV w.heap.size;rw [←Dx]at hA hB ⊢;clear Dx;have k1:=Ab (o:=0) hA rfl;(go_wp2_with fail);(with_reducible refine(DZ V hE).mono ?_);rintro e w1 ⟨rfl,hx1⟩;have hB1:=(hx1.block _ (ArX hB)).trans hB;have j1:=Ab (o:=0) hB1 rfl;have j2:=Ab (o:=1) hB1 rfl;have j3:=Ab (o:=2) hB1 rfl;have X1:=hE.trans hx1;clear k1 hB DZ;(go_wp2_with fail);(with_reducible refine(C6 w1 X1).mono ?_);rintro e w2 ⟨rfl,hx2⟩;have hB2:=(hx2.block _ (ArX hB1)).trans hB1;have X2:=X1.trans hx2;have Ld:=hx1.trans hx2;clear j1 j2 j3 hB1 C6 hx1 hx2 X1;have j1:=Ab (o:=0) hB2 rfl;have j2:=Ab (o:=1) hB2 rfl;have j3:=Ab (o:=2) hB2 rfl;(go_wp2_with fail);(with_reducible refine(un w2 X2).mono ?_);rintro e w3 ⟨A3,c3,base,hb3,rfl,Dc,hx3⟩;have PU:=Ld.trans hx3;have X3:=hE.trans PU;obtain⟨A3',aQ,e3,hr3,hc3,AhM⟩:=Ae.of_own' (by omega) Dc
 cases e3;have HM:=ArW (fun u (hu:u∈Cw fa)=>HLEN.out u (ve hu));have an:=AdC (cb:=#[]) AfS (fun u=>!nameB u) (Cw fa) A3 c3 w3 hr3 hc3 AhM (fun u hu W _=>AeZ u (HM.out u hu) W);clear j1 j2 j3 hB2 un;have Lz:V.heap.size<=base:=Asl Ld.size hb3;obtain⟨l,hl0⟩:=ArV (Cw fa)
 have hce:r=if l.any (fun u=>!nameB u)=true then 8 else if 20<l.length then 4 else if (D8 c (G3 c l)).any (fun x=>decide (80<x.t.length))=true then 16 else 0:=by rw [HR.out,hl0];rfl
 have JL:=ArW hce;have FK:=ArW hl0;rw [←hl0]at Dc hr3 hc3 an ⊢;clear hl0 hce
 cases a1:l.any (fun u=>!nameB u)
 rotate_left
 ·have hr8:r=8:=(by rw [JL.out,if_pos a1]);rw [a1]at an;subst hr8;clear a1;(go_wp2_with fail);(with_reducible refine an.mono ?_);rintro e w4 ⟨rfl,Aj⟩
  have Ay:Im c fa w (.returned (.tuple #[.slice none 0 0,.int .i64 8])) w4:=by unfold Im;rw [←HR.out,if_neg (by omega)];exact PO.no (X3.trans Aj)
  have HF:=ArW Ay;clear Ay Dc hr3;go_wp2;go_ret2;exact HF.out
 have pL:=ArW (show ¬(l.any (fun u=>!nameB u)=true)by rw [a1];simp);rw [a1]at an;clear a1;(go_wp2_with fail);(with_reducible refine an.mono ?_);rintro e w4 ⟨rfl,Aj⟩;have ZT:=PU.trans Aj;have X4:=X3.trans Aj;have C2:=Ao Dc Aj;clear Dc hr3 Aj an;by_cases EW:20<l.length
 ·have hr4:r=4:=(by rw [JL.out,if_neg pL.out,if_pos EW]);have t1:(20:Int)<(l.length:Int):=(by omega);subst hr4
  have Ay:Im c fa w (.returned (.tuple #[.slice none 0 0,.int .i64 4])) w4:=by unfold Im;rw [←HR.out,if_neg (by omega)];exact PO.no X4
  have HF:=ArW Ay;clear Ay C2;go_wp2;go_ret2;exact HF.out
 have t1:¬(20:Int)<(l.length:Int):=(by omega);have so:=Aod c A cc bc V w4 (Ab (o:=0) hA rfl) (ER.out.ext hE) h1 h2 ZT base Lz l _ C2 (by omega);(go_wp2_with fail);(with_reducible refine so.mono ?_);rintro e w5 ⟨rfl,ho5,kp5⟩;have hU:(G3 c l).length=l.length:=List.length_mergeSort l;have X5:=kp5 w X4 (Asl hE.size Lz);have V7:=kp5 V ZT Lz;obtain⟨l2,hl2⟩:=ArV (G3 c l);rw [←hl2]at ho5 hU;have EO:=ArW hl2
 have hce:r=if (D8 c l2).any (fun x=>decide (80<x.t.length))=true then 16 else 0:=by rw [JL.out,if_neg pL.out,if_neg EW,←hl2]
 have pQ:=ArW hce;obtain⟨n,hn⟩:=ArV l.length;rw [←hn]at ho5 hU EW t1 ⊢;obtain⟨A5,c5,e5,lx,-,-⟩:=Ae.of_own' (by omega) ho5
 cases e5;have Ir:=ArW lx;have HN:=ArW hn;have ZA:=ArW hU;have HA:=ArW ((V7.block _ (ArX hA)).trans hA);have qU:=ArW (And.intro hE (And.intro V7 X5));have KW:=ArW (ER.out.ext X5);have h5b:=V7.size;have jq:=ArX HA.out;clear hl2 hce hn hU lx ho5 kp5 so C2 hA X4 ZT X3 PU X2 Ld hE X5 V7 hx3
 go_upto_region 15 with fail
 clear t1
 go_loopw [9,40] (fun ov kv wr=>∃(k:Nat),kv=.int .i64 (k:Nat)/\k<=n/\wr.ownsRow w5.heap.size 40 4 ov k (AN (D8 c (l2.take k)))/\(∀e∈D8 c (l2.take k),e.t.length<=80)/\Aa w5 wr) (fun _ kv _=>n-(intOf kv).toNat)
 case atStart=>exact⟨0,rfl,by omega,⟨rfl,.inl ⟨rfl,rfl⟩⟩,by intro e he;simp [D8]at he,Aa.refl _⟩
 case round=>
  obtain⟨k,rfl,hk,hown,LP,Ad⟩:=hrel;have KX:=ArW LP;clear LP;by_cases hkn:k<n
  ·have C0:k<l2.length:=(by rw [ZA.out];exact hkn);obtain⟨b,o,rfl,hcs⟩:=(Ir.out.ext Ad).ad (by rw [List.length_map];omega);have hck:=hcs k (by rw [List.length_map];exact C0);rw [List.getElem_map]at hck;obtain⟨u,hu⟩:=ArV (l2[k]);rw [←hu]at hck;have HU:=ArW hu;have hk0:(0:Int)<=(k:Int):=(by omega);have BX:(k:Int)<(n:Int):=(by omega);have AqM:(k:Int)<=20:=(by omega);have v1:IntKind.wrap .i64 ((k:Int)+1)=(k:Int)+1:=Asg _ (by omega);have v2:IntKind.wrap .i64 (97+(k:Int))=97+(k:Int):=Asg _ (by omega);have v3:IntKind.wrap .u8 (97+(k:Int))=97+(k:Int):=(by simp [IntKind.wrap,IntKind.bits,IntKind.signed];omega);have v4:IntKind.wrap .i64 (1+(k:Int)%5)=1+(k:Int)%5:=Asg _ (by omega);obtain⟨sy,Ig⟩:=ArV (UInt8.ofNat (97+k):UInt8);have Cf:(sy.toNat:Int)=97+(k:Int):=by rw [Ig,UInt8.toNat_ofNat'];omega
   have hcv:(convert 42 9 (.slice (some ⟨wr.heap.size,0,none⟩) 1 1)).run Tryz.prog (wr.alloc (.cells #[.int .u8 (97+(k:Int))] 5))=.ok (S [sy]) (wr.alloc (.cells #[.int .u8 (97+(k:Int))] 5)):=run_convert_bytes_back (P:=Tryz.prog) (wr.alloc (.cells #[.int .u8 (97+(k:Int))] 5)) 42 9 5 ⟨wr.heap.size,0,none⟩ 1 [sy] Tryz.underlying42 Tryz.underlying5 Tryz.underlying9 (by
    intro j hj;have:j=0:=(by simpa using hj);subst this;rw [Addr.add_lit]
    exact(Ab (ArY wr _) rfl).trans (by rw [List.getElem_cons_zero,Cf];rfl))
   have hxb:=RI wr (.cells #[.int .u8 (97+(k:Int))] 5) (.cells #[S u,S [sy],.int .i64 (1+(k:Int)%5),S []] 40);have HSY:=ArW Ig;clear hu hcs Ig Cf
   go_upto_region 18 with fail
   clear hcv v2 v3 v4 hck;have eV:=(Aa.refl wr).alloc (.cells #[.int .u8 (97+(k:Int))] 5);have Uy:(wr.alloc (.cells #[.int .u8 (97+(k:Int))] 5)).heap.size=wr.heap.size+1:=(by simp);have kL:=(Aa.refl (wr.alloc (.cells #[.int .u8 (97+(k:Int))] 5))).alloc (.cells #[S u,S [sy],.int .i64 (1+(k:Int)%5),S []] 40);have kg:=Ao hown eV;obtain⟨hb1,-,-⟩:=hxb;unfold S at kL hb1;generalize (wr.alloc (.cells #[.int .u8 (97+(k:Int))] 5)).alloc (.cells #[.string ⟨u.toArray⟩,.string ⟨[sy].toArray⟩,.int .i64 (1+(k:Int)%5),.string ⟨([]:Bs).toArray⟩] 40)=V1 at *;generalize wr.alloc (.cells #[.int .u8 (97+(k:Int))] 5)=V0 at *;obtain⟨bx,Ap⟩:=ArV (wr.heap.size+1);rw [←Ap]at hb1 Uy ⊢;have WG:V0.heap.size<=bx:=(by omega);have MU:=Ad.trans eV;have hA1:=(MU.block _ (ArX HA.out)).trans HA.out;have ka:V1.cell? ⟨bc,0,none⟩=some (.slice A c.length cc):=kL.cellS (Ab (o:=0) hA1 rfl);have Sm:=ArW kg;obtain⟨oP,oc,rfl⟩:=UE (by omega) hown;clear Ap Uy hown kg eV Ad
   go_upto_region 19 with fail
   clear ka
   go_loopw [57] (fun jv wi=>∃(j:Nat),jv=.int .i64 (j:Nat)/\j<=c.length/\wi.heap[bx]?=some (.cells #[S u,S [sy],.int .i64 (1+(k:Int)%5),S ((c.take j).foldl (G4 u) [])] 40)/\Aa V0 wi) (fun jv _=>c.length-(intOf jv).toNat)
   case atStart=>exact⟨0,rfl,by omega,hb1,kL⟩
   case round=>
    obtain⟨j,rfl,hj,IA,NB⟩:=hrel;obtain⟨tj,jY⟩:=ArV ((c.take j).foldl (G4 u) []);rw [←jY]at IA;have qQ:=ArW jY;clear jY;by_cases hjn:j<c.length
    ·have Xl:=hjn;obtain⟨b',o',rfl,hg1,hg2,hg3⟩:=nC (KW.out.ext (MU.trans NB)) Xl;obtain⟨m2,m3⟩:=qD.out c[j] (Asa Xl);have Cf:=AoH c u Xl;rw [←qQ.out]at Cf;obtain⟨y,hy⟩:=ArV (c[j]);rw [←hy]at hg1 hg2 hg3 m2 m3 Cf;have Gh:=ArW Cf;have hj0:(0:Int)<=(j:Int):=(by omega);have Fy:(j:Int)<(c.length:Int):=(by omega);have v5:IntKind.wrap .i64 ((j:Int)+1)=(j:Int)+1:=Asg _ (by omega);have hyb:=ArY wr (.cells #[S y.u,S y.mn,S y.mx] 31);have hx2:=(Aa.refl wr).alloc (.cells #[S y.u,S y.mn,S y.mx] 31);have OD:=(hx2.block _ (ArX IA)).trans IA;have kO:=NB.trans hx2;have hne:wr.heap.size≠bx:=(by have:=ArX IA;omega);clear hy Cf IA NB hx2
     go_upto_region 21 with fail
     generalize wr.alloc (.cells #[S y.u,S y.mn,S y.mx] 31)=W1 at *;obtain⟨by_,eu⟩:=ArV wr.heap.size;rw [←eu]at hyb hne ⊢;clear eu hg1 hg2 hg3;have f1:=Ab (o:=0) hyb rfl;have f2:=Ab (o:=1) hyb rfl;have f3:=Ab (o:=2) hyb rfl;by_cases ND:y.u=u
     ·have t1:(y.u == u)=true:=(by rw [ND];exact beq_self_eq_true u);have p4:=Ab (o:=3) OD rfl;have q4:=AB (o:=3) OD;by_cases hm0:y.mx = []
      ·have J4:G4 u tj y=y.mn++P5 ++ [45]:=(by unfold G4 Yj;rw [if_pos ND,if_pos hm0]);rw [hm0]at f3;have ZE:=ArW (Gh.out.trans J4);have Zp:=ArW OD;clear ND hm0 J4 OD;go_wp2;go_roundw
       case rel=>refine⟨j+1,by go_num,hjn,(tH _ Zp.out).trans (wM ?_),kO.setCell (p:=⟨bx,3,none⟩) WG _⟩;rw [ZE.out];apply ByteArray.ext;simp [P5]
       case measure=>simp [intOf];omega
      ·have J4:G4 u tj y=y.mn++P5++y.mx:=(by unfold G4 Yj;rw [if_pos ND,if_neg hm0]);have t3:(y.mx == [])=false:=beq_false_of_ne hm0
       have t4:y.mx.isEmpty=false:=by cases hm:y.mx with|nil=>exact absurd hm hm0|cons a b=>rfl
       have ZE:=ArW (Gh.out.trans J4);have Zp:=ArW OD;clear ND J4 OD;go_wp2;go_roundw
       case rel=>refine⟨j+1,by go_num,hjn,(tH _ Zp.out).trans (wM ?_),kO.setCell (p:=⟨bx,3,none⟩) WG _⟩;rw [ZE.out];apply ByteArray.ext;simp [P5]
       case measure=>simp [intOf];omega
     ·have t1:(y.u == u)=false:=beq_false_of_ne ND;have J4:G4 u tj y=tj:=if_neg ND;have HH:=ArW (show W1.heap[bx]?=some (.cells #[S u,S [sy],.int .i64 (1+(k:Int)%5),S ((c.take (j+1)).foldl (G4 u) [])] 40)by rw [Gh.out,J4];exact OD);clear ND J4;go_wp2;go_roundw
      case rel=>exact⟨j+1,by go_num,hjn,HH.out,kO⟩
      case measure=>simp [intOf];omega
    ·have Dl:j=c.length:=(by omega);subst Dl;have XP:tj=textU c u:=(by rw [qQ.out,List.take_length];rfl);have hd:SI c k u=⟨u,[sy],1+(k:Int)%5,tj⟩:=(by unfold SI;rw [←XP,←HSY.out,Int.natCast_emod];rfl);have FZ:tj.length<300000:=(by rw [XP];exact AoI qD.out u);have q1:=Ab (o:=0) IA rfl;have q2:=Ab (o:=1) IA rfl;have q3:=Ab (o:=2) IA rfl;have q4:=Ab (o:=3) IA rfl;have HD:=ArW hd;have HTU:=ArW XP;clear XP hd;by_cases dE:80<tj.length
     ·have t6:(80:Int)<(tj.length:Int):=by omega
      have lw:r=16:=by rw [pQ.out,if_pos];rw [List.any_eq_true];have CP:k<(D8 c l2).length:=(by rw [Ow];exact C0);refine⟨(D8 c l2)[k],Asa CP,?_⟩;rw [VR c l2 C0 CP,←HU.out,HD.out];exact decide_eq_true dE
      have Ay:Im c fa w (.returned (.tuple #[.slice none 0 0,.int .i64 16])) wr:=by unfold Im;rw [←HR.out,lw,if_neg (by omega)];exact PO.no ((qU.out.2.2.trans MU).trans NB)
      have HF:=ArW Ay;clear Ay lw dE;go_wp2;go_ret2;exact HF.out
     ·have t6:¬(80:Int)<(tj.length:Int):=(by omega);have hX:=MU.trans NB;have hown2:=Ao Sm.out NB;have AgX:tj.length<=80:=(by omega);clear dE
      go_wp2_with (at_builtin;go_loud (refine sP rfl _ _ rfl _ w5.heap.size (.slice oP k oc) k (D8 c (l2.take k)) rfl (Ao hown2 ((Aa.refl wr).alloc _)) (by omega) ⟨u,[sy],1+(k:Int)%5,tj⟩ wr.heap.size (ArY _ _) rfl (Asl hX.size ((Aa.refl wr).alloc _).size) ?_);intro v9 w9 Bc Bu)
      have hnew:=Bu w5 (hX.trans ((Aa.refl wr).alloc _)) (ArZ _);have Xa:=Afc c l2 C0;rw [←HU.out,HD.out]at Xa;rw [←Xa]at Bc
      have ng:∀e∈D8 c (l2.take (k+1)),e.t.length<=80:=by
       rw [Xa];intro e he
       rcases List.mem_append.1 he with h|h
       ·exact KX.out e h
       ·rw [List.mem_singleton.1 h];exact AgX
      have AP:=ArW (And.intro Bc (And.intro ng hnew));clear Bc hnew Bu ng Xa q1 q2 q3 q4;go_wp2;go_roundw
      case rel=>exact⟨k+1,by go_num,hkn,AP.out.1,AP.out.2.1,AP.out.2.2⟩
      case measure=>simp [intOf];omega
  ·have Bf:k=n:=(by omega);subst Bf;have hall:l2.take k=l2:=Asi (by rw [ZA.out];exact ArZ _);obtain⟨A9,c9,rfl,r9,s9,t9⟩:=Ae.of_own' (by omega) hown;have hs2:=KX.out;rw [hall]at r9 hs2;have ID:(D8 c l2).length=k:=by rw [Ow];exact ZA.out
   have lm:r=0:=by rw [pQ.out,if_neg];rw [List.any_eq_true];rintro⟨x,hx,h⟩;have:=hs2 x hx;have:=of_decide_eq_true h;omega
   have Ay:Im c fa w (.returned (.tuple #[.slice A9 k c9,.int .i64 0])) wr:=by unfold Im;rw [←HR.out,lm,if_pos rfl,←FK.out,←EO.out];exact⟨A9,c9,by rw [ID],r9,by rw [ID];exact s9,t9,qU.out.2.2.trans Ad⟩
   have HF:=ArW Ay;clear Ay r9 hown hall ID hs2 lm;go_wp2;go_ret2;exact HF.out
theorem Afh(B:Option Addr)(n d:Nat)(z:Int)(hz:z≠0)(m0 m1 m2:Value)(w:World)(DZ:∀W,Aa w W→Calls Tryz.prog 32 #[.slice B n d] W (Av z W)) :
  Calls Tryz.prog 10 #[.slice B n d,.agg #[m0,m1,m2]] w (Cy (.tuple #[.slice none 0 0,.int .i64 z]) w):=by
 obtain⟨hB,hA,hE⟩:=RI w (.cells #[.slice B n d] 32) (.cells #[m0,m1,m2] 36);have co:=DZ _ hE;have t1:(z != 0)=true:=(by rw [bne_iff_ne];exact hz);clear hz DZ;go_enter Tryz.func10,Tryz.ntmps10
 go_upto_region 1 with fail
 generalize (w.alloc (.cells #[.slice B n d] 32)).alloc (.cells #[m0,m1,m2] 36)=V at *;obtain⟨bc,Dx⟩:=ArV w.heap.size;rw [←Dx]at hA hB ⊢;clear Dx;have k1:=Ab (o:=0) hA rfl;(go_wp2_with fail);(with_reducible refine co.mono ?_);rintro e w1 ⟨rfl,hx1⟩;go_wp2;go_ret2;exact⟨rfl,hE.trans hx1⟩
theorem Afi(B:Option Addr)(n d:Nat)(z:Int)(hz:z≠0)(m0 m1 m2:Value)(w:World)(DZ:∀W,Aa w W→Calls Tryz.prog 32 #[.slice B n d] W (Av 0 W))
  (C6:∀W,Aa w W→Calls Tryz.prog 33 #[.agg #[m0,m1,m2]] W (Av z W)) :
  Calls Tryz.prog 10 #[.slice B n d,.agg #[m0,m1,m2]] w (Cy (.tuple #[.slice none 0 0,.int .i64 z]) w):=by
 obtain⟨hB,hA,hE⟩:=RI w (.cells #[.slice B n d] 32) (.cells #[m0,m1,m2] 36);have co:=DZ _ hE;have t1:(z != 0)=true:=(by rw [bne_iff_ne];exact hz);clear hz DZ;go_enter Tryz.func10,Tryz.ntmps10
 go_upto_region 1 with fail
 generalize (w.alloc (.cells #[.slice B n d] 32)).alloc (.cells #[m0,m1,m2] 36)=V at *;obtain⟨bc,Dx⟩:=ArV w.heap.size;rw [←Dx]at hA hB ⊢;clear Dx;have k1:=Ab (o:=0) hA rfl;(go_wp2_with fail);(with_reducible refine co.mono ?_);rintro e w1 ⟨rfl,hx1⟩;have hB1:=(hx1.block _ (ArX hB)).trans hB;have j1:=Ab (o:=0) hB1 rfl;have j2:=Ab (o:=1) hB1 rfl;have j3:=Ab (o:=2) hB1 rfl;have X1:=hE.trans hx1;have pa:=C6 w1 X1;clear k1 hB C6;(go_wp2_with fail);(with_reducible refine pa.mono ?_);rintro e w2 ⟨rfl,hx2⟩;go_wp2;go_ret2;exact⟨rfl,X1.trans hx2⟩
def Yh(l:List En)(fa:List Bs):List Bs:=EH (fun u=>decide (0<=I6 l u)) (Cw fa)
def FG(l:List En)(fa:List Bs):List Int:=(l.zipIdx.filter fun e=>!fa.contains e.1.u).map fun e=>(e.2:Int)
theorem Apc(l:List En)(fa:List Bs){i:Nat}(h:i<l.length):FG (l.take (i+1)) fa=FG (l.take i) fa++if fa.contains l[i].u then [] else [(i:Int)]:=by
 unfold FG;rw [Asd h,List.zipIdx_append,List.filter_append,List.map_append]
 congr 1
 have hl:(l.take i).length=i:=(by rw [List.length_take];omega);simp only [List.zipIdx_cons,List.zipIdx_nil,List.filter_cons,List.filter_nil,hl,Nat.zero_add]
 cases hc:fa.contains l[i].u<;>simp only [Bool.not_true,Bool.not_false,Bool.false_eq_true,if_true,if_false,List.map_cons,List.map_nil]
def LW(l:List Int):List Value:=l.map fun z=>Value.int .i64 z
theorem Tryz.infoIn:(Tryz.prog.info? 3).map (fun i=>(i.zero,i.size,i.bytes))=some (some (.int .i64 0),1,8):=by kernel_rfl
section
variable {ops : Array Oper} {rest : List Oper} {o : Oper} {a : Act} {Q : Exit → Act → World → Prop}
theorem AdE(hgd:o.guard=none)(s x:Operand)(ho:o.op=.call {callee:=.builtin .append,args:=#[s,x],argTypes:=#[69,69]})
  (wN:World) (base:Nat) (v:Value) (l:List Int) (hs:a.eval s=v) (hown:wN.ownsRow base 3 1 v l.length (LW l)) (hn:l.length<200000) (d:Int)
  (g:Nat) (hb:wN.heap[g]?=some (.cells #[.int .i64 d] 3)) (hx:a.eval x=.slice (some ⟨g,0,none⟩) 1 1) (hbase:base<=wN.heap.size)
  (h:∀v' w',w'.ownsRow base 3 1 v' (l.length+1) (LW (l ++ [d]))→(∀w0,Aa w0 wN→w0.heap.size<=base→Aa w0 w')→wpList Tryz.prog ops Q rest (a.put o.dst v') w') :
  wpList Tryz.prog ops Q (o::rest) a wN:=by
 refine wpList_plain hgd fun _ hK=>?_;obtain⟨i0,hi,hz0,hz1,hz2⟩:=info_parts Tryz.infoIn;refine RL s x 69 ho 3 i0 _ 1 8 Tryz.underlying69 hi hz0 hz1 hz2 rfl (by omega) (by omega) wN base v l.length _ hs hown hn g _ hb rfl ?_ hx hbase ?_
 ·intro u hu;simp only [List.mem_cons,Asm,or_false]at hu
  rcases hu with rfl<;>rfl
 ·intro v' w' h1 h2 _;refine hK _ _ (h v' w' ?_ h2);have:LW (l ++ [d])=LW l++#[Value.int .i64 d].toList:=(by simp [LW]);rw [this];exact h1
end
theorem AkJ(l:List En)(A:Option Addr)(c b:Nat)(u:Bs)(w:World)(hb:w.cell? ⟨b,0,none⟩=some (.slice A l.length c))(hr:Ae w A (AN l))(hc:l.length<=c)(hcm:c<=9223372036854775807) :
  Calls Tryz.prog 68 #[S u,.pointer (some ⟨b,0,none⟩)] w (Bw (decide (0<=I6 l u)) w):=by
 have fi:=xA l u A c w hr hc hcm;generalize I6 l u=z at *;clear hr hc;go_enter Tryz.func68,Tryz.ntmps68;(go_wp2_with fail);(with_reducible refine fi.mono ?_);rintro e w1 ⟨rfl,hx⟩;go_wp2;go_ret;exact⟨rfl,hx⟩
theorem AfY:∀args w,(callFunc 68 args).run Tryz.prog w=.ok (.enter 68 args) w:=enters_of Tryz.func68 (by kernel_rfl) rfl
theorem AkK(l:List En)(A:Option Addr)(c:Nat)(z:Int)(hz:z≠0)(m0 m1 m2:Value)(w:World)(hr:Ae w A (AN l))(hc:l.length<=c)(hcm:c<=9223372036854775807)(hl:∀e∈l,Ih e)(h0:Dh l=0)
  (C6:∀W,Aa w W→Calls Tryz.prog 33 #[.agg #[m0,m1,m2]] W (Av z W)) :
  Calls Tryz.prog 25 #[.slice A l.length c,.agg #[m0,m1,m2]] w (Cy (.tuple #[.slice none 0 0,.int .i64 z]) w):=by
 obtain⟨hB,hA,hE⟩:=RI w (.cells #[.slice A l.length c] 26) (.cells #[m0,m1,m2] 36);have ck:=Qb l A c _ (hr.ext hE) hc hcm hl;rw [h0]at ck;have t1:(z != 0)=true:=(by rw [bne_iff_ne];exact hz);clear hz hr h0;go_enter Tryz.func25,Tryz.ntmps25
 go_upto_region 1 with fail
 generalize (w.alloc (.cells #[.slice A l.length c] 26)).alloc (.cells #[m0,m1,m2] 36)=V at *;obtain⟨bc,Dx⟩:=ArV w.heap.size;rw [←Dx]at hA hB ⊢;clear Dx;have k1:=Ab (o:=0) hA rfl;(go_wp2_with fail);(with_reducible refine ck.mono ?_);rintro e w1 ⟨rfl,hx1⟩;have hB1:=(hx1.block _ (ArX hB)).trans hB;have j1:=Ab (o:=0) hB1 rfl;have j2:=Ab (o:=1) hB1 rfl;have j3:=Ab (o:=2) hB1 rfl;have X1:=hE.trans hx1;have pa:=C6 w1 X1;clear k1 hB C6 ck;(go_wp2_with fail);(with_reducible refine pa.mono ?_);rintro e w2 ⟨rfl,hx2⟩;go_wp2;go_ret2;exact⟨rfl,X1.trans hx2⟩
theorem Apd(l:List En)(A:Option Addr)(c:Nat)(z:Int)(hz:z≠0)(m0 m1 m2:Value)(w:World)(hr:Ae w A (AN l))(hc:l.length<=c)(hcm:c<=9223372036854775807)(hl:∀e∈l,Ih e)(h0:Dh l=0)
  (C6:∀W,Aa w W→Calls Tryz.prog 33 #[.agg #[m0,m1,m2]] W (Av z W)) :
  Calls Tryz.prog 26 #[.slice A l.length c,.agg #[m0,m1,m2]] w (Cy (.tuple #[.slice none 0 0,.int .i64 z]) w):=by
 have hB:=ArY w (.cells #[m0,m1,m2] 36);have hE:=(Aa.refl w).alloc (.cells #[m0,m1,m2] 36);have ck:=Qb l A c _ (hr.ext hE) hc hcm hl;rw [h0]at ck;have t1:(z != 0)=true:=(by rw [bne_iff_ne];exact hz);clear hz hr h0;go_enter Tryz.func26,Tryz.ntmps26
 go_upto_region 1 with fail
 generalize w.alloc (.cells #[m0,m1,m2] 36)=V at *;obtain⟨bc,Dx⟩:=ArV w.heap.size;rw [←Dx]at hB ⊢;clear Dx;(go_wp2_with fail);(with_reducible refine ck.mono ?_);rintro e w1 ⟨rfl,hx1⟩;have hB1:=(hx1.block _ (ArX hB)).trans hB;have j1:=Ab (o:=0) hB1 rfl;have j2:=Ab (o:=1) hB1 rfl;have j3:=Ab (o:=2) hB1 rfl;have X1:=hE.trans hx1;have pa:=C6 w1 X1;clear hB C6 ck;(go_wp2_with fail);(with_reducible refine pa.mono ?_);rintro e w2 ⟨rfl,hx2⟩;go_wp2;go_ret2;exact⟨rfl,X1.trans hx2⟩
def rQ(L:List Bs)(w:World)(e:Ending)(w':World):Prop:=∃A c,e=.returned (.tuple #[.slice A L.length c,.int .i64 0])/\Ae w' A (L.map S)/\Aa w w'
theorem AkL(l:List En)(A:Option Addr)(c:Nat)(m:Bz)(fa:List Bs)(A1 B1 F1:Option Addr)(c1 d1 g1:Nat)(w:World)(hr:Ae w A (AN l))(hc:l.length<=c)(hcm:c<=9223372036854775807)(hl:∀e∈l,Ih e)(h0:Dh l=0)
  (hF:Ae w F1 (fa.map S)) (hn:m.nf=fa.length) (DJ:fa.length<=1000) (C6:∀W,Aa w W→Calls Tryz.prog 33 #[Bv A1 B1 F1 m c1 d1 g1] W (Av 0 W)) :
  Calls Tryz.prog 25 #[.slice A l.length c,Bv A1 B1 F1 m c1 d1 g1] w (rQ (Yh l fa) w):=by
 obtain⟨hB,hA,hE⟩:=RI w (.cells #[.slice A l.length c] 26) (.cells #[.slice A1 m.pts.length c1,.slice B1 m.eds.length d1,.slice F1 m.nf g1] 36);have ck:=Qb l A c _ (hr.ext hE) hc hcm hl;rw [h0]at ck;have un:=fun W (hx:Aa w W)=>Ab1 m fa A1 B1 F1 c1 d1 g1 W (hF.ext hx) hn (by omega)
 have ul:(Cw fa).length<=100000:=by refine Asl ?_ (show fa.length<=100000 by omega);unfold Cw;refine Asl (Go.Lib.compact_length_le _) ?_;rw [List.length_mergeSort];exact List.length_filter_le _ _
 unfold Bv at C6 un ⊢;have ER:=ArW (hr.ext hE);clear h0 hr hF hn;go_enter Tryz.func25,Tryz.ntmps25
 go_upto_region 1 with fail
 generalize (w.alloc (.cells #[.slice A l.length c] 26)).alloc (.cells #[.slice A1 m.pts.length c1,.slice B1 m.eds.length d1,.slice F1 m.nf g1] 36)=V at *;obtain⟨bc,Dx⟩:=ArV w.heap.size;rw [←Dx]at hA hB ⊢;clear Dx;have k1:=Ab (o:=0) hA rfl;(go_wp2_with fail);(with_reducible refine ck.mono ?_);rintro e w1 ⟨rfl,hx1⟩;have hB1:=(hx1.block _ (ArX hB)).trans hB;have j1:=Ab (o:=0) hB1 rfl;have j2:=Ab (o:=1) hB1 rfl;have j3:=Ab (o:=2) hB1 rfl;have X1:=hE.trans hx1;have pa:=C6 w1 X1;clear k1 hB C6 ck;(go_wp2_with fail);(with_reducible refine pa.mono ?_);rintro e w2 ⟨rfl,hx2⟩;have hB2:=(hx2.block _ (ArX hB1)).trans hB1;have X2:=X1.trans hx2;have Ld:=hx1.trans hx2;clear j1 j2 j3 hB1 hx1 hx2 X1 pa;have j1:=Ab (o:=0) hB2 rfl;have j2:=Ab (o:=1) hB2 rfl;have j3:=Ab (o:=2) hB2 rfl;(go_wp2_with fail);(with_reducible refine(un w2 X2).mono ?_);rintro e w3 ⟨A3,c3,base,hb3,rfl,Dc,hx3⟩;have PU:=Ld.trans hx3;have Lz:V.heap.size<=base:=Asl Ld.size hb3
 have del:=vN (cb:=#[.pointer (some ⟨bc,0,none⟩)]) AfY (fun u=>decide (0<=I6 l u)) base (Cw fa) (.slice A3 (Cw fa).length c3) w3 Dc ul (fun e _ W hk=>by
  have hx:Aa V W:=hk V PU Lz
  exact AkJ l A c bc e W (Ab (o:=0) ((hx.block _ (ArX hA)).trans hA) rfl) (ER.out.ext hx) hc hcm)
 have HA:=ArW hA;clear j1 j2 j3 hB2 un hA ul;(go_wp2_with fail);(with_reducible refine del.mono ?_);rintro e w4 ⟨⟨A4,c4,rfl,C2⟩,kp4⟩;obtain⟨A4',c4',e4,hr4,hc4,Aq6⟩:=Ae.of_own' (by omega) C2
 cases e4;have Ay:rQ (Yh l fa) w (.returned (.tuple #[.slice A4 (Yh l fa).length c4,.int .i64 0])) w4:=⟨A4,c4,rfl,hr4,kp4 w (hE.trans PU) (Asl hE.size Lz)⟩;unfold Yh at Ay;have HF:=ArW Ay;clear del Ay C2 hr4 kp4;go_wp2;go_ret2;exact HF.out
theorem AjE(l:List Bs)(x:Bs)(A:Option Addr)(c:Nat)(w:World)(hr:Ae w A (l.map S))(hl:l.length<=100000) :
  Calls Tryz.prog 59 #[.slice A l.length c,S x] w (Av (CC (fun s=>s == x) l) w):=by
 obtain⟨r,hr0⟩:=ArV (CC (fun s=>s == x) l);rw [←hr0];have HR:=ArW hr0;clear hr0;go_enter Tryz.func59,Tryz.ntmps59
 go_upto_region 2 with fail
 go_loopw [8] (fun i wr=>∃j:Nat,i=.int .i64 (j:Nat)/\j<=l.length/\(∀q∈l.take j,(q == x)=false)/\Aa w wr) (fun i _=>l.length-(intOf i).toNat)
 case atStart=>exact⟨0,rfl,by omega,by simp,Aa.refl _⟩
 case round=>
  obtain⟨j,rfl,hj,Ah,Ad⟩:=hrel;have HO:=ArW Ah;clear Ah;by_cases hlt:j<l.length
  ·obtain⟨b,o,rfl,hcs⟩:=(hr.ext Ad).ad (by simp;omega);have hg:=hcs j (by simpa using hlt);rw [List.getElem_map]at hg;clear hcs;obtain⟨q,hq⟩:=ArV (l[j]);rw [←hq]at hg;have hj0:(0:Int)<=(j:Int):=(by omega);have A7:(j:Int)<(l.length:Int):=(by omega);have v1:IntKind.wrap .i64 ((j:Int)+1)=(j:Int)+1:=Asg _ (by omega);have HQ:=ArW hq;clear hq
   cases XI:q == x
   ·have e2:(x == q)=false:=by rw [Bool.beq_comm];exact XI
    have HE:=ArW (show ∀y∈l.take (j+1),(y == x)=false from by
     intro y hy;rw [Asd hlt,←HQ.out]at hy
     rcases List.mem_append.1 hy with h|h
     ·exact HO.out y h
     ·simp only [Asn]at h;rw [h];exact XI)
    go_wp2;go_roundw
    case rel=>exact⟨j+1,by go_num,hlt,HE.out,Ad⟩
    case measure=>simp [intOf];omega
   ·have Ct:r=(j:Int):=(by rw [HR.out];exact XS hlt HO.out (by rw [←HQ.out];exact XI));have e2:(x == q)=true:=(by rw [Bool.beq_comm];exact XI);subst Ct;go_wp2;go_ret;exact⟨rfl,Ad⟩
  ·have hle:(l.length:Int)<=(j:Int):=(by omega);have Ct:r = -1:=(by rw [HR.out];exact Rb (by have:=HO.out;rw [Asi (by omega)]at this;exact this));subst Ct;go_wp2;go_ret;exact⟨rfl,Ad⟩
theorem Afk(l:List Bs)(x:Bs)(A:Option Addr)(c:Nat)(w:World)(hr:Ae w A (l.map S))(hl:l.length<=100000) :
  Calls Tryz.prog 17 #[.slice A l.length c,S x] w (Bw (l.contains x) w):=by
 have ix:=AjE l x A c w hr hl
 have ha:decide (0<=CC (fun s=>s == x) l)=l.contains x:=by
  rw [kT,List.contains_eq_any_beq]
  congr 1
  funext s
  exact Bool.beq_comm
 obtain⟨r,hr0⟩:=ArV (l.contains x);rw [←hr0]at ha ⊢;generalize CC (fun s=>s == x) l=n at *;have HA:=ArW ha;clear hr0 ha hr hl;go_enter Tryz.func17,Tryz.ntmps17;(go_wp2_with fail);(with_reducible refine ix.mono ?_);rintro e w2 ⟨rfl,hx2⟩;go_wp2;go_ret;exact⟨by rw [←HA.out];rfl,hx2⟩
def rL(L:List Int)(w:World)(e:Ending)(w':World):Prop:=∃A c,e=.returned (.tuple #[.slice A L.length c,.int .i64 0])/\Ae w' A (LW L)/\Aa w w'
theorem Ape(l:List En)(A:Option Addr)(c:Nat)(m:Bz)(fa:List Bs)(A1 B1 F1:Option Addr)(c1 d1 g1:Nat)(w:World)(hr:Ae w A (AN l))(hc:l.length<=c)(hcm:c<=9223372036854775807)(hl:∀e∈l,Ih e)(h0:Dh l=0)(Ce:l.length<=100000)
  (hF:Ae w F1 (fa.map S)) (hn:m.nf=fa.length) (DJ:fa.length<=100000) (C6:∀W,Aa w W→Calls Tryz.prog 33 #[Bv A1 B1 F1 m c1 d1 g1] W (Av 0 W)) :
  Calls Tryz.prog 26 #[.slice A l.length c,Bv A1 B1 F1 m c1 d1 g1] w (rL (FG l fa) w):=by
 have hB:=ArY w (.cells #[.slice A1 m.pts.length c1,.slice B1 m.eds.length d1,.slice F1 m.nf g1] 36);have hE:=(Aa.refl w).alloc (.cells #[.slice A1 m.pts.length c1,.slice B1 m.eds.length d1,.slice F1 m.nf g1] 36);have ck:=Qb l A c _ (hr.ext hE) hc hcm hl;rw [h0]at ck;have ct:=fun x W (hx:Aa w W)=>Afk fa x F1 g1 W (hF.ext hx) DJ;rw [←hn]at ct;unfold Bv at C6 ⊢;have ER:=ArW (hr.ext hE);obtain⟨n,hnl⟩:=ArV l.length;rw [←hnl]at ck hc Ce ⊢;have HN:=ArW hnl;clear h0 hr hF hn hl hnl;go_enter Tryz.func26,Tryz.ntmps26
 go_upto_region 1 with fail
 generalize w.alloc (.cells #[.slice A1 m.pts.length c1,.slice B1 m.eds.length d1,.slice F1 m.nf g1] 36)=V at *;obtain⟨bc,Dx⟩:=ArV w.heap.size;rw [←Dx]at hB ⊢;clear Dx;(go_wp2_with fail);(with_reducible refine ck.mono ?_);rintro e w1 ⟨rfl,hx1⟩;have hB1:=(hx1.block _ (ArX hB)).trans hB;have j1:=Ab (o:=0) hB1 rfl;have j2:=Ab (o:=1) hB1 rfl;have j3:=Ab (o:=2) hB1 rfl;have X1:=hE.trans hx1;have pa:=C6 w1 X1;clear C6 ck;(go_wp2_with fail);(with_reducible refine pa.mono ?_);rintro e w2 ⟨rfl,hx2⟩;have hB2:=(hx2.block _ (ArX hB1)).trans hB1;have X2:=X1.trans hx2;have Ld:=hx1.trans hx2;have pN:=ArW hB2;have Iq:=ArW (ER.out.ext Ld);have CT:=ArW ct;have Is:=ArW X2;clear j1 j2 j3 hB1 hx1 hx2 X1 pa hB2 hB ct X2 Ld
 go_upto_region 9 with fail
 go_loopw [8,23] (fun ov kv wr=>∃(k:Nat),kv=.int .i64 (k:Nat)/\k<=n/\wr.ownsRow w2.heap.size 3 1 ov (FG (l.take k) fa).length (LW (FG (l.take k) fa))/\(FG (l.take k) fa).length<=k/\Aa w2 wr) (fun _ kv _=>n-(intOf kv).toNat)
 case atStart=>exact⟨0,rfl,by omega,⟨rfl,.inl ⟨rfl,rfl⟩⟩,by simp [FG],Aa.refl _⟩
 case round=>
  obtain⟨k,rfl,hk,hown,CP,Ad⟩:=hrel;by_cases hkn:k<n
  ·have C0:k<l.length:=(by rw [←HN.out];exact hkn);have Cf:=Apc l fa C0;obtain⟨b,o,rfl,hg1,hg2,hg3,hg4⟩:=Rz (Iq.out.ext Ad) C0;obtain⟨x,hx0⟩:=ArV (l[k]);rw [←hx0]at hg1 hg2 hg3 hg4 Cf;obtain⟨L,hL⟩:=ArV (FG (l.take k) fa);rw [←hL]at hown CP Cf;have Gh:=ArW Cf;have hk0:(0:Int)<=(k:Int):=(by omega);have BX:(k:Int)<(n:Int):=(by omega);have v1:IntKind.wrap .i64 ((k:Int)+1)=(k:Int)+1:=Asg _ (by omega);have hxb:=ArY wr (.cells #[S x.u,S x.s,.int .i64 x.p,S x.t] 40);have hx1:=(Aa.refl wr).alloc (.cells #[S x.u,S x.s,.int .i64 x.p,S x.t] 40);have CG:=Ad.trans hx1;have hown1:=Ao hown hx1;obtain⟨oP,oc,rfl⟩:=UE (by omega) hown;clear hx0 hown Ad hL Cf
   go_upto_region 11 with fail
   generalize wr.alloc (.cells #[S x.u,S x.s,.int .i64 x.p,S x.t] 40)=V1 at *;obtain⟨bx,Ap⟩:=ArV wr.heap.size;rw [←Ap]at hxb ⊢;clear Ap hg1 hg2 hg3 hg4 hx1;have f1:=Ab (o:=0) hxb rfl;have f3:=Ab (o:=2) ((CG.block _ (ArX pN.out)).trans pN.out) rfl;have ct:=CT.out x.u V1 (Is.out.trans CG)
   cases Bl:fa.contains x.u
   ·rw [Bl]at ct;have HC:=ArW Bl;clear Bl;(go_wp2_with fail);(with_reducible refine ct.mono ?_);rintro e w4 ⟨rfl,Aj⟩;have IF:=Ao hown1 Aj;have Cl:=CG.trans Aj;have hbase:=Cl.size;clear ct f1 f3 hxb
    go_wp2_with (at_builtin;go_loud (refine AdE rfl _ _ rfl _ w2.heap.size (.slice oP L.length oc) L rfl (Ao IF ((Aa.refl w4).alloc _)) (by omega) (k:Int) w4.heap.size (ArY _ _) rfl (Asl hbase ((Aa.refl w4).alloc _).size) ?_);intro v9 w9 Bc Bu)
    have hnew:=Bu w2 (Cl.trans ((Aa.refl w4).alloc _)) (ArZ _)
    have AP:=ArW (show w9.ownsRow w2.heap.size 3 1 v9 (FG (l.take (k+1)) fa).length (LW (FG (l.take (k+1)) fa))/\(FG (l.take (k+1)) fa).length<=k+1/\Aa w2 w9 from by
     rw [Gh.out,HC.out];simp only [Bool.false_eq_true,if_false,List.length_append,List.length_cons,List.length_nil]
     exact⟨Bc,by omega,hnew⟩)
    clear Bc hnew Bu;go_wp2;go_roundw
    case rel=>exact⟨k+1,by go_num,hkn,AP.out.1,AP.out.2.1,AP.out.2.2⟩
    case measure=>simp [intOf];omega
   ·rw [Bl]at ct;have HC:=ArW Bl;clear Bl;(go_wp2_with fail);(with_reducible refine ct.mono ?_);rintro e w4 ⟨rfl,Aj⟩
    have AP:=ArW (show w4.ownsRow w2.heap.size 3 1 (.slice oP L.length oc) (FG (l.take (k+1)) fa).length (LW (FG (l.take (k+1)) fa))/\(FG (l.take (k+1)) fa).length<=k+1/\Aa w2 w4 from by
     rw [Gh.out,HC.out];simp only [if_true,List.append_nil]
     exact⟨Ao hown1 Aj,by omega,CG.trans Aj⟩)
    clear ct f1 f3 hxb hown1;go_wp2;go_roundw
    case rel=>exact⟨k+1,by go_num,hkn,AP.out.1,AP.out.2.1,AP.out.2.2⟩
    case measure=>simp [intOf];omega
  ·have Bf:k=n:=(by omega);subst Bf;have hall:l.take k=l:=(by rw [HN.out,List.take_length]);rw [hall]at hown;obtain⟨A9,c9,rfl,r9,s9,t9⟩:=Ae.of_own' (by omega) hown;have Ay:rL (FG l fa) w (.returned (.tuple #[.slice A9 (FG l fa).length c9,.int .i64 0])) wr:=⟨A9,c9,rfl,r9,Is.out.trans Ad⟩;have HF:=ArW Ay;clear Ay r9 hown hall;go_wp2;go_ret2;exact HF.out
end Go.Proofs.YtbejphgbbpplbaaGreatDoor
