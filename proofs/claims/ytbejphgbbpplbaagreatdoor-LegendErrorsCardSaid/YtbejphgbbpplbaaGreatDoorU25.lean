/- U25: ShLGO ShLGE ShD7 ShD2 ShM17 ShM21 ShM22 ShN3 ShM23. -/
import Derived.Test.YtbejphgbbpplbaaGreatDoorU24
import Derived.Test.YtbejphgbbpplbaaGreatDoorU22
import Derived.Test.YtbejphgbbpplbaaGreatDoorU03
import Derived.Shelf.SlSortCmp.WholeK
import Derived.Sort.MapsRangeIn
set_option maxRecDepth 100000
set_option maxHeartbeats 8000000
namespace Kl
def desc(c:List La)(l:List En)(i:Nat):Bool:=decide (1<=i)&&decide (0<Cz c (l.getD (i-1) ⟨[],[],0,[]⟩).u (l.getD i ⟨[],[],0,[]⟩).u)
def IL(c:List La)(l:List En):Option Nat:=(List.range l.length).find? (desc c l)
theorem AlR{c:List La}{l:List En}{i:Nat}(hi:i<l.length)(hno:∀j,j<i→desc c l j=false)(h:desc c l i=true):IL c l=some i:=by
 unfold IL;rw [List.find?_range_eq_some];refine⟨h,List.mem_range.2 hi,fun j hj=>?_⟩;rw [hno j hj];rfl
theorem AlQ{c:List La}{l:List En}(hno:∀j,j<l.length→desc c l j=false):IL c l=none:=by
 unfold IL;rw [List.find?_eq_none];intro j hj;rw [hno j (List.mem_range.1 hj)];simp
theorem Afz(c:List La)(l:List En):desc c l 0=false:=rfl
theorem Afy(c:List La){l:List En}{i:Nat}(h1:1<=i)(h:i<l.length):desc c l i=decide (0<Cz c l[i-1].u l[i].u):=by
 unfold desc;rw [decide_eq_true h1,Bool.true_and];simp [List.getD_eq_getElem?_getD,List.getElem?_eq_getElem h,List.getElem?_eq_getElem (show i-1<l.length by omega)]
end Kl
namespace Go.Proofs.YtbejphgbbpplbaaGreatDoor
open Go.RowKit Kl
def ZP(o:Option Nat)(w:World)(e:Ending)(w':World):Prop:=e=.returned (match o with|some i=>.tuple #[.int .i64 (i:Nat),.bool false,.int .i64 0]|none=>.tuple #[.int .i64 0,.bool true,.int .i64 0])/\Aa w w'
theorem xx(l:List En)(A:Option Addr)(c:Nat)(z:Int)(v:Value)(w:World)(hr:Ae w A (AN l))(hc:l.length<=c)(hcm:c<=9223372036854775807)(hl:∀e∈l,Ih e)(DZ:∀W,Aa w W→Calls Tryz.prog 32 #[v] W (Av z W)) :
  Calls Tryz.prog 85 #[.slice A l.length c,v] w (Av (if Dh l=0 then z else Dh l) w):=by
 have ck:=Qb l A c w hr hc hcm hl;generalize Dh l=x at *;by_cases h0:x=0
 ·subst h0;rw [if_pos rfl];have HC:=ArW DZ;clear hr DZ;go_enter Tryz.func85,Tryz.ntmps85;(go_wp2_with fail);(with_reducible refine ck.mono ?_);rintro e w1 ⟨rfl,hx1⟩;have co:=HC.out w1 hx1;(go_wp2_with fail);(with_reducible refine co.mono ?_);rintro e w2 ⟨rfl,hx2⟩;go_wp2;go_ret;exact⟨rfl,hx1.trans hx2⟩
 ·rw [if_neg h0];have t1:(x != 0)=true:=(by rw [bne_iff_ne];exact h0);clear hr h0 DZ;go_enter Tryz.func85,Tryz.ntmps85;(go_wp2_with fail);(with_reducible refine ck.mono ?_);rintro e w1 ⟨rfl,hx1⟩;go_wp2;go_ret;exact⟨rfl,hx1⟩
theorem AlS(l:List En)(A:Option Addr)(c:Nat)(z:Int)(hz:z≠0)(v:Value)(w:World)(op:Calls Tryz.prog 85 #[.slice A l.length c,v] w (Av z w)) :
  Calls Tryz.prog 34 #[.slice A l.length c,v] w (Cy (.tuple #[.int .i64 0,.bool false,.int .i64 z]) w):=by
 have t1:(z != 0)=true:=(by rw [bne_iff_ne];exact hz);clear hz;go_enter Tryz.func34,Tryz.ntmps34;(go_wp2_with fail);(with_reducible refine op.mono ?_);rintro e w1 ⟨rfl,hx1⟩;go_wp2;refine bodyPost_ret (v:=.tuple #[.int .i64 0,.bool false,.int .i64 z]) (by simp [results,Tryz.results34,go_sem]) rfl ?_;exact⟨rfl,hx1⟩
theorem xz(l:List En)(A:Option Addr)(c:Nat)(cl:List La)(B:Option Addr)(d:Nat)(w:World)(hr:Ae w A (AN l))(hl:l.length<=1000)(hB:Ae w B (Cj cl))(hd:cl.length<=d)(Kp:d<=9223372036854775807)
  (op:Calls Tryz.prog 85 #[.slice A l.length c,.slice B cl.length d] w (Av 0 w)) :
  Calls Tryz.prog 34 #[.slice A l.length c,.slice B cl.length d] w (ZP (IL cl l) w):=by
 have ER:=ArW hr;have Zo:=ArW hB;obtain⟨n,hn⟩:=ArV l.length;rw [←hn]at op hl ⊢;have HN:=ArW hn;clear hr hB hn;go_enter Tryz.func34,Tryz.ntmps34;(go_wp2_with fail);(with_reducible refine op.mono ?_);rintro e w1 ⟨rfl,hx1⟩
 go_upto_region 5 with fail
 go_loopw [8] (fun kv wr=>∃(k:Nat),kv=.int .i64 ((k:Int)+1)/\(k<=n)/\(∀j,j<=k→j<n→desc cl l j=false)/\Aa w wr) (fun kv _=>n+1-(intOf kv).toNat)
 case atStart=>refine⟨0,rfl,Nat.zero_le _,fun j h _=>?_,hx1⟩;obtain rfl:j=0:=Nat.le_zero.1 h;exact Afz _ _
 case round=>
  obtain⟨k,rfl,hk,hno,Ad⟩:=hrel;have Sl:=ArW hno;clear hno;by_cases hkn:k+1<n
  ·have C0:k<l.length:=(by rw [←HN.out];omega);have jk:k+1<l.length:=(by rw [←HN.out];exact hkn);obtain⟨b,o,rfl,hg1,-,-,-⟩:=Rz (ER.out.ext Ad) C0;obtain⟨b',o',e1,hg2,-,-,-⟩:=Rz (ER.out.ext Ad) jk
   cases e1;have OG:=Afy cl (show 1<=k+1 by omega) jk;simp only [Nat.add_sub_cancel]at OG;obtain⟨a1,ha1⟩:=ArV (l[k].u);obtain⟨a2,ha2⟩:=ArV (l[k+1].u);rw [←ha1]at hg1 OG;rw [←ha2]at hg2 OG;have cu:=fun q:Ac wr=>bH cl B d q.w ((Zo.out.ext Ad).ext q.h) hd Kp a1 a2;obtain⟨z,hz⟩:=ArV (Cz cl a1 a2);rw [←hz]at cu OG;have pR:=ArW OG;have HEX:=ArW Ad;have f1:∀q:Ac wr,q.w.cell? ⟨b,o+k*4,none⟩=some (S a1):=Ac.cell hg1;have f2:∀q:Ac wr,q.w.cell? ⟨b,o+(k+1)*4,none⟩=some (S a2):=Ac.cell hg2;have hk0:(0:Int)<=(k:Int):=(by omega);have BX:(0:Int)<=(k:Int)+1:=(by omega);have Fe:(k:Int)+1<(n:Int):=(by omega);have hl2:(k:Int)<(n:Int):=(by omega);have hw1:((k:Int)+1)-1=(k:Int):=(by omega);have hw2:((k:Int)+1).toNat=k+1:=(by omega);have hv0:IntKind.i64.wrap (k:Int)=k:=Asg _ (by omega);have QU:IntKind.i64.wrap ((k:Int)+1)=(k:Int)+1:=Asg _ (by omega);have hv2:IntKind.i64.wrap ((k:Int)+1+1)=(k:Int)+1+1:=Asg _ (by omega);clear ha1 ha2 hz OG Ad hg1 hg2
   go_upto_region 7 with fail
   refine Bp (by kernel_rfl) (by kernel_rfl) ?_
   repeat (go_big_quiet_step (with_reducible refine Di (cu _)))
   refine wpQuiet_nil ?_;rintro _ ⟨q,rfl⟩;have HQ:=ArW (HEX.out.trans q.h);clear f1 f2 cu;by_cases hz0:0<z
   ·have ho:IL cl l=some (k+1):=AlR (by rw [←HN.out];exact hkn) (fun j hj=>Sl.out j (by omega) (by omega)) (by rw [pR.out];exact decide_eq_true hz0)
    have Ay:ZP (IL cl l) w (.returned (.tuple #[.int .i64 ((k:Int)+1),.bool false,.int .i64 0])) q.w:=by rw [ho];exact⟨by simp,HQ.out⟩
    have HF:=ArW Ay;clear Ay ho;go_wp2;refine bodyPost_ret (v:=.tuple #[.int .i64 ((k:Int)+1),.bool false,.int .i64 0]) (by simp [results,Tryz.results34,go_sem]) rfl ?_;exact HF.out
   ·have PI:=ArW (show ∀j,j<=k+1→j<n→desc cl l j=false from fun j hj hjn=>by
     by_cases e:j=k+1
     ·subst e;rw [pR.out];exact decide_eq_false hz0
     ·exact Sl.out j (by omega) hjn)
    have hz1:=Int.not_lt.1 hz0;clear hz0;go_wp2;go_roundw
    case rel=>exact⟨k+1,by go_num,by omega,PI.out,HQ.out⟩
    case measure=>simp [intOf];omega
  ·have ho:IL cl l=none:=AlQ fun j hj=>Sl.out j (by have:=HN.out;omega) (by rw [HN.out];exact hj)
   have Ay:ZP (IL cl l) w (.returned (.tuple #[.int .i64 0,.bool true,.int .i64 0])) wr:=by rw [ho];exact⟨rfl,Ad⟩
   have HF:=ArW Ay;have hle:(n:Int)<=(k:Int)+1:=(by omega);clear Ay ho hkn;go_wp2;refine bodyPost_ret (v:=.tuple #[.int .i64 0,.bool true,.int .i64 0]) (by simp [results,Tryz.results34,go_sem]) rfl ?_;exact HF.out
end Go.Proofs.YtbejphgbbpplbaaGreatDoor
namespace Kl
end Kl
namespace Go.Proofs.YtbejphgbbpplbaaGreatDoor
open Go.RowKit Kl
theorem Aoi(l:List En)(A:Option Addr)(c:Nat)(z:Int)(hz:z≠0)(B:Option Addr)(n d:Nat)(w:World)(op:∀W,Aa w W→Calls Tryz.prog 85 #[.slice A l.length c,.slice B n d] W (Av z W)) :
  Calls Tryz.prog 35 #[.slice A l.length c,.slice B n d] w (Cy (.tuple #[.slice none 0 0,.int .i64 z]) w):=by
 have hE:=(Aa.refl w).alloc (.cells #[.slice B n d] 32);have Yz:=op _ hE;have t1:(z != 0)=true:=(by rw [bne_iff_ne];exact hz);clear hz op;go_enter Tryz.func35,Tryz.ntmps35;(go_wp2_with fail);(with_reducible refine Yz.mono ?_);rintro e w1 ⟨rfl,hx1⟩;go_wp2;go_ret2;exact⟨rfl,hE.trans hx1⟩
theorem AjD{B:Nat}{w:World}{r b1 b2:Nat}{L:List (Sg×Int)}{E:List (Pt×Value×Nat)}{R0:List (Pt×List Pt)}(h:B5 B w r b1 b2 L E R0)(bn:Nat)(Cm:w.cell? ⟨bn,0,none⟩=some (.pointer (some ⟨r,0,none⟩)))(l:List Pt)(A:Option Addr)(c:Nat)(hr:Ae w A (flat (Ak l)))(hc:l.length<=c)(hcm:c<=9223372036854775807) :
  Calls Tryz.prog 153 #[.slice A l.length c,.func (.func 83) #[] #[.pointer (some ⟨bn,0,none⟩)]] w fun e w'=>∃n:Int,e=.returned (.int .i64 n)/\(0<=n↔∃p∈l,decide (Ke R0 p<2)=true)/\Aa w w':=by
 have fw:=fun (w1:World) (hx:Aa w w1) (p:Pt)=>Agz (h.ext hx) bn (hx.cellS Cm) p;clear h Cm;go_enter Tryz.func153,Tryz.ntmps153;go_wp2
 go_loopw [8] (fun i wr=>∃j:Nat,i=.int .i64 (j:Nat)/\j<=l.length/\(∀p∈l.take j,decide (Ke R0 p<2)=false)/\Aa w wr) (fun i _=>l.length-(intOf i).toNat)
 case atStart=>exact⟨0,rfl,by omega,by simp,Aa.refl _⟩
 case round=>
  obtain⟨j,rfl,hj,Ah,Ad⟩:=hrel;have HO:=ArW Ah;clear Ah;by_cases hlt:j<l.length
  ·obtain⟨b,o,rfl,hg1,hg2⟩:=Ca (hr.ext Ad) hlt;obtain⟨p,hp⟩:=ArV (l[j]);rw [←hp]at hg1 hg2;have hmem:p∈l:=(by rw [hp];exact Asa hlt);have HX:=ArW hp;clear hp;have hj0:(0:Int)<=(j:Int):=(by omega);have A7:(j:Int)<(l.length:Int):=(by omega);have bf:=fw wr Ad p;unfold Af at bf
   cases hL:decide (Ke R0 p<2)
   ·rw [hL]at bf;have EP:=ArW hL;clear hL fw;(go_wp2_with fail);(with_reducible refine bf.mono ?_);rintro e w2 ⟨rfl,hx2⟩;go_wp2;go_roundw
    case rel=>
     refine⟨j+1,by go_num,hlt,?_,Ad.trans hx2⟩;intro q hq;rw [Asd hlt,←HX.out]at hq
     rcases List.mem_append.1 hq with h|h
     ·exact HO.out q h
     ·simp only [Asn]at h;rw [h];exact EP.out
    case measure=>simp [intOf];omega
   ·rw [hL]at bf;have EP:=ArW hL;clear hL fw;(go_wp2_with fail);(with_reducible refine bf.mono ?_);rintro e w2 ⟨rfl,hx2⟩;go_wp2;go_ret;exact⟨j,rfl,⟨fun _=>⟨_,hmem,EP.out⟩,fun _=>by omega⟩,Ad.trans hx2⟩
  ·have hle:(l.length:Int)<=(j:Int):=(by omega);clear fw;go_wp2;go_ret;refine⟨-1,rfl,⟨fun h=>by omega,?_⟩,Ad⟩;rintro⟨p,hp,h⟩;have:=HO.out p (by rw [Asi (by omega)];exact hp);rw [this]at h;cases h
def Td(R0:List (Pt×List Pt))(l:List Pt):Bool:=l.any (fun p=>decide (Ke R0 p<2))
theorem AdB{B:Nat}{w:World}{r b1 b2:Nat}{L:List (Sg×Int)}{E:List (Pt×Value×Nat)}{R0:List (Pt×List Pt)}(h:B5 B w r b1 b2 L E R0)(bn:Nat)(Cm:w.cell? ⟨bn,0,none⟩=some (.pointer (some ⟨r,0,none⟩)))(l:List Pt)(A:Option Addr)(c:Nat)(hr:Ae w A (flat (Ak l)))(hc:l.length<=c)(hcm:c<=9223372036854775807) :
  Calls Tryz.prog 82 #[.slice A l.length c,.func (.func 83) #[] #[.pointer (some ⟨bn,0,none⟩)]] w (Bw (Td R0 l) w):=by
 have ix:=AjD h bn Cm l A c hr hc hcm;clear h Cm hr;go_enter Tryz.func82,Tryz.ntmps82;(go_wp2_with fail);(with_reducible refine ix.mono ?_);rintro e w2 ⟨n,rfl,hn,hx2⟩
 have hd:Td R0 l=decide (0<=n):=by
  unfold Td;by_cases h0:0<=n
  ·rw [decide_eq_true h0,List.any_eq_true];exact hn.1 h0
  ·rw [decide_eq_false h0,List.any_eq_false];intro x hx hh;exact h0 (hn.2 ⟨x,hx,hh⟩)
 have HD:=ArW hd;clear hd hn;go_wp2;go_ret;exact⟨by rw [HD.out];rfl,hx2⟩
theorem AdQ{p:Pt}{l:List Sg}(hp:DX p)(hl:∀s∈l,G8 s):∀j,j<=l.length→Ja (j*648) (FP p (l.take j)):=by
 intro j
 induction j with
 | zero=>intro _;exact⟨0,by simp,by simp only [List.take_zero,FP,List.foldl_nil,Rat.intCast_zero];grind⟩
 | succ j ih=>intro hj;rw [sX p l (by omega)];have hs:=hl _ (Asa (show j<l.length by omega));exact((ih (by omega)).add (sV hp hs.a hs.b)).mono (by omega)
theorem AdP(l:List Sg)(A:Option Addr)(c:Nat)(hl:∀e∈l,G8 e)(h0:0<l.length)(hn:l.length<=100000)(hc:l.length<=c)(hcm:c<=9223372036854775807)(w:World)(hw:Al w)(hr:Ae w A (Ck l)) :
  Calls Tryz.prog 234 #[.slice A l.length c] w (BK (R (MI l)) w):=by
 have hp:DX l[0].a:=(hl _ (Asa h0)).a;refine AdO l A c (k:=1) (K:=9) (fun e he=>(hl e he).sz (by omega)) (by omega) (by omega) (by omega) (by omega) h0 ?_ ?_ hc hcm (by omega) w hw hr
 ·intro j hj;exact(AdQ hp hl j hj).sz (by have:=hn;omega) (by omega)
 ·intro j hj;have hs:=hl _ (Asa hj);exact(sV hp hs.a hs.b).sz (by omega) (by omega)
section
open Go.Sort Go.Shelf
theorem Aog(blk off cap:Nat)(d:Array Way)(w0 w:World)(hw:Al w0)(hx:Aa w0 w)(h0:w0.heap.size<=blk)(hH:HoldsK GF 4 w blk off d)(hblk:blk<w.heap.size)(hsz:d.size<4611686018427387904) :
  Calls Tryz.prog 182 #[.slice (some ⟨blk,off,none⟩) d.size cap,.func (.func 109) #[] #[]] w fun e w'=>
   e=.returned (.tuple #[])/\∃(d':Array Way) (n:Nat) (os:Array Obj),PermIn 0 d.size d d'/\SortedIn (ltOf Ik) 0 d.size d'/\w'=sortWorldK GF 4 w blk off n d' os:=by
 have eg:∀args w,(callFunc 109 args).run Tryz.prog w=.ok (.enter 109 args) w:=enters_of Tryz.func109 (by kernel_rfl) rfl;exact AnyQ.slices_SortFunc Tryz.laysSortSg 4 Tryz.isAgg155 Tryz.sizeOf155 GF VW AfM Ik AbC 109 #[] blk off cap d w eg (Apq hw hx h0 off d.size) hH hblk hsz
end
section
open Go.Sort
def KI(l:List Way):List Way:=l.mergeSort (fun x y=>!ltOf Ik y x)
theorem Aoo(d d':Array Way)(h1:PermIn 0 d.size d d')(h2:SortedIn (ltOf Ik) 0 d.size d'):d'=(KI d.toList).toArray:=by
 have h:=sorted_unique_holds (lt:=ltOf Ik) AbC Apr d d' h1 h2;rw [KI,←h]
theorem AaW(blk off cap:Nat)(d:Array Way)(w0 w:World)(hw:Al w0)(hx:Aa w0 w)(h0:w0.heap.size<=blk)(hH:HoldsK GF 4 w blk off d)(hblk:blk<w.heap.size)(hsz:d.size<4611686018427387904) :
  Calls Tryz.prog 182 #[.slice (some ⟨blk,off,none⟩) d.size cap,.func (.func 109) #[] #[]] w fun e w'=>e=.returned (.tuple #[])/\∃(n:Nat) (os:Array Obj),w'=sortWorldK GF 4 w blk off n (KI d.toList).toArray os:=
 (Aog blk off cap d w0 w hw hx h0 hH hblk hsz).mono fun _ _ ⟨he,d',n,os,h1,h2,hw⟩=>⟨he,n,os,by rw [←Aoo d d' h1 h2];exact hw⟩
end
theorem lB(mb:Option Nat)(w:World) :
  Calls Tryz.prog 108 #[.map mb] w fun e w'=>e=.returned (.func (.func 183) #[] #[.pointer (some ⟨w.heap.size,0,none⟩)])/\w'=w.alloc (.cells #[.map mb] 131):=by
 go_enter Tryz.func108,Tryz.ntmps108;go_wp2;go_ret;exact⟨rfl,rfl⟩
/-! ### The first way below a place -/
theorem Aba{x:Rat}(h:x≠0):0<x*x:=by
 rcases KD x 0 with k|k|k
 ·have:=Rat.mul_pos (show 0 < -x by grind) (show 0 < -x by grind);grind
 ·exact absurd k h
 ·exact Rat.mul_pos k k
theorem vT{a b:Rat}(h:b≠0):a/b*b=a:=by
 rw [Rat.div_def,Rat.mul_assoc,Rat.mul_comm b⁻¹,Rat.mul_inv_cancel _ h];grind
theorem AaQ(s:Sg)(h:s.a.x<s.b.x):∃m:Rat,s.b.y=s.a.y+m*(s.b.x-s.a.x)/\∀X,BE s X=s.a.y+m*(X-s.a.x):=by
 have hd:s.b.x-s.a.x≠0:=(by grind);refine⟨(s.b.y-s.a.y)/(s.b.x-s.a.x),?_,?_⟩
 ·rw [vT hd];grind
 ·intro X;unfold BE
  congr 1
  rw [Rat.div_def,Rat.div_def]
  grind
theorem Rl{a b z:Pt}{m:Rat}(h:a.x<b.x)(h1:a.x<=z.x)(h2:z.x<=b.x)(hb:b.y=a.y+m*(b.x-a.x))(hz:z.y=a.y+m*(z.x-a.x)):Ft a b z:=by
 have hd:b.x-a.x≠0:=(by grind);have e:=vT (a:=z.x-a.x) hd;refine⟨(z.x-a.x)/(b.x-a.x),?_,?_,?_,?_⟩
 ·refine U9 (a:=b.x-a.x) (by grind) ?_;rw [Rat.mul_comm,e];grind
 ·have:0<=1-(z.x-a.x)/(b.x-a.x):=by
   refine U9 (a:=b.x-a.x) (by grind) ?_;generalize (z.x-a.x)/(b.x-a.x)=q at *
   grind
  grind
 ·rw [e];grind
 ·have:b.y-a.y=m*(b.x-a.x):=(by grind);rw [this];generalize (z.x-a.x)/(b.x-a.x)=q at *;have:q*(m*(b.x-a.x))=m*(q*(b.x-a.x)):=(by grind);rw [this,e];exact hz
def Dt(p:Pt)(s:Sg):Prop:=s.a.x<p.x/\p.x<=s.b.x/\BE s p.x<p.y
def Ht(p:Pt)(s t:Sg):Prop:=BE t p.x<BE s p.x∨(BE s p.x=BE t p.x/\0<Ai s.b s.a t.a)
theorem mU{p q:Pt}(h1:p.x=q.x)(h2:p.y=q.y):p=q:=by cases p;cases q;simp_all
theorem YM{s t:Sg}(h1:s.a=t.a)(h2:s.b=t.b):s=t:=by cases s;cases t;simp_all
theorem YY{p:Pt}{s t:Sg}(hs:Dt p s)(ht:Dt p t)(hX:FO s.a s.b t.a t.b)(hne:s≠t)(hh:BE s p.x=BE t p.x):s.b=t.b/\Ai s.b s.a t.a≠0:=by
 obtain⟨s1,s2,-⟩:=hs;obtain⟨t1,t2,-⟩:=ht;have sx:s.a.x<s.b.x:=(by grind);have tx:t.a.x<t.b.x:=(by grind);obtain⟨ms,sb,sh⟩:=AaQ s sx;obtain⟨mt,tb,th⟩:=AaQ t tx;rw [sh,th]at hh;clear sh th;generalize p.x=X at *;have ty:t.a.y=s.a.y+ms*(X-s.a.x)-mt*(X-t.a.x):=(by grind);have sy:s.a.y=t.a.y+mt*(X-t.a.x)-ms*(X-s.a.x):=by grind
 have An9:ms=mt→s.a.x<t.a.x→False:=by
  intro e h;have ho:Ft s.a s.b t.a:=Rl (m:=ms) sx (by grind) (by grind) sb (by subst e;grind)
  rcases hX.pc ho with k|k
  ·rw [k]at h;grind
  ·rw [k]at t1;grind
 have AnA:ms=mt→t.a.x<s.a.x→False:=by
  intro e h;have ho:Ft t.a t.b s.a:=Rl (m:=mt) tx (by grind) (by grind) tb (by subst e;grind)
  rcases hX.pa ho with k|k
  ·rw [k]at h;grind
  ·rw [k]at s1;grind
 have Aa4:ms=mt→s.a=t.a:=by
  intro e
  have:s.a.x=t.a.x:=by
   rcases KD s.a.x t.a.x with h|h|h
   ·exact(An9 e h).elim
   ·exact h
   ·exact(AnA e h).elim
  refine mU this ?_;subst e;rw [this]at hh;grind
 rcases NU s2 with s3|s3
 ·exfalso
  rcases NU t2 with t3|t3
  ·by_cases e:ms=mt
   ·have ea:=Aa4 e
    have hb:s.b.x=t.b.x:=by
     rcases KD s.b.x t.b.x with h|h|h
     ·have ho:Ft t.a t.b s.b:=Rl (m:=mt) tx (by grind) (by grind) tb (by subst e;rw [sb,ea])
      rcases hX.pb ho with k|k
      ·rw [k]at s3;grind
      ·rw [k]at h;grind
     ·exact h
     ·have ho:Ft s.a s.b t.b:=Rl (m:=ms) sx (by grind) (by grind) sb (by subst e;rw [tb,ea])
      rcases hX.pd ho with k|k
      ·rw [k]at t3;grind
      ·rw [k]at h;grind
    exact hne (YM ea (mU hb (by rw [sb,tb,ea,e,hb])))
   ·have hd:ms-mt≠0:=(by grind);refine hX.px ?_ ?_ ?_ ?_ ?_ ?_
    ·intro k;rw [k]at hh;have:(ms-mt)*(X-t.a.x)=0:=by grind
     rcases Mi this with h|h<;>grind
    ·intro k;rw [k]at s1;grind
    ·intro k;rw [k]at s3;grind
    ·intro k;have:(ms-mt)*(t.b.x-X)=0:=by rw [k]at sb;grind
     rcases Mi this with h|h<;>grind
    ·have e1:Ai s.a s.b t.a=((s.b.x-s.a.x)*(ms-mt))*(X-t.a.x):=(by unfold Ai;rw [sb,ty];grind);have e2:Ai s.a s.b t.b = -(((s.b.x-s.a.x)*(ms-mt))*(t.b.x-X)):=(by unfold Ai;rw [sb,tb,ty];grind);rw [e1,e2]
     have hn:(s.b.x-s.a.x)*(ms-mt)≠0:=fun h=>by rcases Mi h with h|h<;>grind
     generalize (s.b.x-s.a.x)*(ms-mt)=D at *;have:=Rat.mul_pos (Aba hn) (Rat.mul_pos (show 0<X-t.a.x by grind) (show 0<t.b.x-X by grind))
     grind
    ·have e1:Ai t.a t.b s.a=((t.b.x-t.a.x)*(mt-ms))*(X-s.a.x):=(by unfold Ai;rw [tb,sy];grind);have e2:Ai t.a t.b s.b = -(((t.b.x-t.a.x)*(mt-ms))*(s.b.x-X)):=(by unfold Ai;rw [tb,sb,sy];grind);rw [e1,e2]
     have hn:(t.b.x-t.a.x)*(mt-ms)≠0:=fun h=>by rcases Mi h with h|h<;>grind
     generalize (t.b.x-t.a.x)*(mt-ms)=D at *;have:=Rat.mul_pos (Aba hn) (Rat.mul_pos (show 0<X-s.a.x by grind) (show 0<s.b.x-X by grind))
     grind
  ·have ho:Ft s.a s.b t.b:=Rl (m:=ms) sx (by grind) (by grind) sb (by grind)
   rcases hX.pd ho with k|k
   ·rw [k]at t3;grind
   ·rw [k]at t3;grind
 ·rcases NU t2 with t3|t3
  ·exfalso
   have ho:Ft t.a t.b s.b:=Rl (m:=mt) tx (by grind) (by grind) tb (by grind)
   rcases hX.pb ho with k|k
   ·rw [k]at s3;grind
   ·rw [k]at s3;grind
  ·have eb:s.b=t.b:=mU (by grind) (by grind);refine⟨eb,?_⟩;intro h0;have e1:Ai s.b s.a t.a=((X-s.a.x)*(X-t.a.x))*(mt-ms):=(by unfold Ai;grind);rw [e1]at h0
   have e:ms=mt:=by
    rcases Mi h0 with h|h
    ·rcases Mi h with h|h<;>grind
    ·grind
   exact hne (YM (Aa4 e) eb)
def KT(G:List Sg):Prop:=∀s∈G,∀t∈G,s.a.x<s.b.x→t.a.x<t.b.x→s≠t→FO s.a s.b t.a t.b
theorem Aed{G:List Sg}(hG:KT G){p:Pt}{s t:Sg}(hs:s∈G)(ht:t∈G)(cs:Dt p s)(ct:Dt p t)(hne:s≠t):Ht p s t∨Ht p t s:=by
 unfold Ht;have hX:=hG s hs t ht (by unfold Dt at cs;grind) (by unfold Dt at ct;grind) hne
 rcases KD (BE s p.x) (BE t p.x)with h|h|h
 ·exact .inr (.inl h)
 ·obtain⟨e,hn⟩:=YY cs ct hX hne h;have:=aG s.b s.a t.a;rw [e]at this hn ⊢
  rcases KD (Ai t.b s.a t.a) 0 with k|k|k
  ·exact .inr (.inr ⟨h.symm,by grind⟩)
  ·exact absurd k hn
  ·exact .inl (.inr ⟨h,k⟩)
 ·exact .inl (.inl h)
theorem Aec{G:List Sg}(hG:KT G){p:Pt}{s t:Sg}(hs:s∈G)(ht:t∈G)(cs:Dt p s)(ct:Dt p t)(hne:s≠t)(h1:Ht p s t)(h2:Ht p t s):False:=by
 unfold Ht at h1 h2;have hX:=hG s hs t ht (by unfold Dt at cs;grind) (by unfold Dt at ct;grind) hne
 rcases h1 with h1|⟨e1,h1⟩
 ·rcases h2 with h2|⟨e2,h2⟩<;>grind
 ·rcases h2 with h2|⟨e2,h2⟩
  ·grind
  ·obtain⟨e,hn⟩:=YY cs ct hX hne e1;have:=aG s.b s.a t.a;rw [e]at this h1
   grind
theorem Aee{G:List Sg}(hG:KT G){p:Pt}{s t u:Sg}(hs:s∈G)(ht:t∈G)(hu:u∈G)(cs:Dt p s)(ct:Dt p t)(cu:Dt p u)(n1:s≠t)(n2:t≠u)(h1:Ht p s t)(h2:Ht p t u):Ht p s u:=by
 unfold Ht at *
 rcases h1 with h1|⟨e1,h1⟩
 ·left;rcases h2 with h2|⟨e2,h2⟩<;>grind
 ·rcases h2 with h2|⟨e2,h2⟩
  ·left;grind
  ·right
   refine⟨by grind,?_⟩;have X1:=hG s hs t ht (by unfold Dt at cs;grind) (by unfold Dt at ct;grind) n1;have X2:=hG t ht u hu (by unfold Dt at ct;grind) (by unfold Dt at cu;grind) n2;obtain⟨b1,-⟩:=YY cs ct X1 n1 e1;obtain⟨b2,-⟩:=YY ct cu X2 n2 e2;obtain⟨c1,c2,-⟩:=cs;obtain⟨d1,d2,-⟩:=ct;obtain⟨f1,f2,-⟩:=cu;rw [←b1]at h2 b2 d2;rw [←b2]at f2;have:=bJ (ux:=s.a.y-s.b.y) (uy:=s.b.x-s.a.x) (vx:=t.a.y-s.b.y) (vy:=s.b.x-t.a.x) (wx:=u.a.y-s.b.y) (wy:=s.b.x-u.a.x) (.inl (by grind)) (.inl (by grind)) (.inl (by grind)) (by unfold Ai at h1;grind) (by unfold Ai at h2;grind);unfold Ai;grind
def P7(p:Pt)(l:List Sg):Option (Sg×Rat)→Prop
 | none=>∀s∈l,¬Dt p s
 | some (s,h)=>s∈l/\Dt p s/\h=BE s p.x/\∀t∈l,Dt p t→t=s∨Ht p s t
theorem tW(p:Pt)(s:Sg):Dt p s↔¬0<=AH s.a.x p.x/\¬AH s.b.x p.x<0/\¬0<=AH (BE s p.x) p.y:=by
 unfold Dt;have h1:=SE s.a.x p.x;have h2:=SE s.b.x p.x;have h3:=SE (BE s p.x) p.y;constructor
 ·rintro⟨k1,k2,k3⟩;exact⟨by have:=h1.2 k1;omega,fun k=>by have:=h2.1 k;grind,by have:=h3.2 k3;omega⟩
 ·rintro⟨k1,k2,k3⟩;refine⟨h1.1 (by omega),?_,h3.1 (by omega)⟩;have:¬s.b.x<p.x:=fun k=>k2 (h2.2 k)
  grind
theorem Aei{G:List Sg}(hG:KT G){p:Pt}{l:List Sg}{st:Option (Sg×Rat)}{s:Sg}(hl:∀t∈l,t∈G)(hs:s∈G)(h:P7 p l st):P7 p (l ++ [s]) (Iy p st s):=by
 by_cases hc:Dt p s
 ·have hc':=(tW p s).1 hc;unfold Iy;rw [if_neg hc'.1,if_neg hc'.2.1,if_neg hc'.2.2]
  cases st with
  | none=>
   refine⟨by simp,hc,rfl,fun t ht ct=>?_⟩
   rcases List.mem_append.1 ht with ht|ht
   ·exact absurd ct (h t ht)
   ·left;simpa using ht
  | some x=>
   obtain⟨b,hb⟩:=x;obtain⟨m1,m2,m3,m4⟩:=h
   have won:Ht p s b→P7 p (l ++ [s]) (some (s,BE s p.x)):=by
    intro Gs;refine⟨by simp,hc,rfl,fun t ht ct=>?_⟩
    rcases List.mem_append.1 ht with ht|ht
    ·by_cases e:t=s
     ·exact .inl e
     ·right
      rcases m4 t ht ct with e2|e2
      ·rw [e2];exact Gs
      ·by_cases e3:s=b
       ·subst e3;exact e2
       ·by_cases e4:b=t
        ·subst e4;exact Gs
        ·exact Aee hG hs (hl b m1) (hl t ht) hc m2 ct e3 e4 Gs e2
    ·left;simpa using ht
   have lost:¬Ht p s b→P7 p (l ++ [s]) (some (b,hb)):=by
    intro Gs;refine⟨List.mem_append_left _ m1,m2,m3,fun t ht ct=>?_⟩
    rcases List.mem_append.1 ht with ht|ht
    ·exact m4 t ht ct
    ·obtain rfl:t=s:=(by simpa using ht);by_cases e:t=b
     ·exact .inl e
     ·right
      rcases Aed hG hs (hl b m1) hc m2 e with k|k
      ·exact absurd k Gs
      ·exact k
   subst m3;simp only
   split
   ·rename_i e
    have e':=(VQ _ _).1 e
    split
    ·rename_i k
     exact won (.inr ⟨e',(YN _).1 k⟩)
    ·rename_i k
     refine lost ?_;rintro(k2|⟨-,k2⟩)
     ·grind
     ·exact k ((YN _).2 k2)
   ·rename_i e
    have e':BE s p.x≠BE b p.x:=fun k=>e ((VQ _ _).2 k)
    split
    ·rename_i k
     exact won (.inl ((SG _ _).1 k))
    ·rename_i k
     refine lost ?_;rintro(k2|⟨k2,-⟩)
     ·exact k ((SG _ _).2 k2)
     ·exact e' k2
 ·have hst:Iy p st s=st:=by
   rw [tW]at hc;unfold Iy;by_cases k1:0<=AH s.a.x p.x
   ·rw [if_pos k1]
   ·rw [if_neg k1];by_cases k2:AH s.b.x p.x<0
    ·rw [if_pos k2]
    ·rw [if_neg k2];by_cases k3:0<=AH (BE s p.x) p.y
     ·rw [if_pos k3]
     ·exact absurd ⟨k1,k2,k3⟩ hc
  rw [hst]
  cases st with
  | none=>
   intro t ht
   rcases List.mem_append.1 ht with ht|ht
   ·exact h t ht
   ·obtain rfl:t=s:=(by simpa using ht);exact hc
  | some x=>
   obtain⟨m1,m2,m3,m4⟩:=h;refine⟨List.mem_append_left _ m1,m2,m3,fun t ht ct=>?_⟩
   rcases List.mem_append.1 ht with ht|ht
   ·exact m4 t ht ct
   ·obtain rfl:t=s:=(by simpa using ht);exact absurd ct hc
theorem aK{G:List Sg}(hG:KT G)(p:Pt)(l:List Sg)(hl:∀t∈l,t∈G):P7 p l (D7 p l):=by
 have main:∀n,n<=l.length→P7 p (l.take n) (D7 p (l.take n)):=by
  intro n
  induction n with
  | zero=>intro _ s hs;simp at hs
  | succ n ih=>intro hn;rw [Asd (by omega),tD];exact Aei hG (fun t ht=>hl t (List.mem_of_mem_take ht)) (hl _ (Asa _)) (ih (by omega))
 have:=main l.length (ArZ _)
 rwa [List.take_length]at this
theorem Aeh{G:List Sg}(hG:KT G)(p:Pt){l l':List Sg}(hp:l.Perm l')(hl:∀t∈l,t∈G):D7 p l=D7 p l':=by
 have h1:=aK hG p l hl;have h2:=aK hG p l' (fun t ht=>hl t (hp.mem_iff.2 ht))
 cases e1:D7 p l with
 | none=>
  rw [e1]at h1
  cases e2:D7 p l' with
  | none=>rfl
  | some y=>
   rw [e2]at h2;exact absurd h2.2.1 (h1 _ (hp.mem_iff.2 h2.1))
 | some x=>
  rw [e1]at h1
  cases e2:D7 p l' with
  | none=>
   rw [e2]at h2;exact absurd h1.2.1 (h2 _ (hp.mem_iff.1 h1.1))
  | some y=>
   rw [e2]at h2;obtain⟨s,hs⟩:=x;obtain⟨t,ht⟩:=y;obtain⟨a1,a2,a3,a4⟩:=h1;obtain⟨b1,b2,b3,b4⟩:=h2
   have hst:s=t:=by refine Classical.byContradiction fun hne=>?_;have k1:=(a4 t (hp.mem_iff.2 b1) b2).resolve_left (Ne.symm hne);have k2:=(b4 s (hp.mem_iff.1 a1) a2).resolve_left hne;exact Aec hG (hl s a1) (hl t (hp.mem_iff.2 b1)) a2 b2 hne k1 k2
   subst hst;rw [a3,b3]
theorem AjT(F:Fence)(n:Nat)(h10:F.fn 183)(hro:F.round=none)(hn:1<=n)(l Bm b:Nat)(L:List (Sg×Int))(J:List Sg→World→Prop)
  (hY:∀pre x W,J pre W→pre.length<L.length→YieldAt F (n-1) Tryz.prog l #[AA x] W fun e W'=>e=.returned (.bool true)/\J (pre ++ [x]) W'/\KeepsWalks W W')
  (W:World) (hJ:AbidesFrom W.heap.size J) (hm:W.cell? ⟨Bm,0,none⟩=some (.map (some b))) (hb:W.heap[b]?=some (.map (AG AA (stamp L)).toArray L.length)) (h0:J [] W) :
  CallsIn F n Tryz.prog 183 #[.func (.yield l) #[] #[],.pointer (some ⟨Bm,0,none⟩)] W fun e W'=>(∃v,e=.returned v)/\∃ss:List Sg,ss.Perm (L.map (·.1))/\J ss W':=by
 have hlt:=ArX hb;rw [←DL]at hb;obtain⟨hr1,hr2⟩:=CX.range (enc:=AA) (E:=stamp L) (t:=131) Tryz.underlying131 (W:=W) (b:=b) hb;have hG:=(Aa.refl W).alloc (.mapIter (some b) (stamp L).length #[] (stamp L).length);have hJ1:=hJ [] W _ none h0 (GG hG none) (fun r e=>by cases e);have hb1:=(hG.block b hlt).trans hb;refine callsIn_of_wp Tryz.func183 rfl h10 ?_ hro;simp only [Tryz.ntmps183,List.size_toArray,List.length_cons,List.length_nil,Nat.reduceAdd,Nat.reduceSub,Array.replicate_succ,Array.replicate_zero,List.push_toArray,List.append_toArray,List.nil_append,List.cons_append];gi_wp2;generalize W.alloc (.mapIter (some b) (stamp L).length #[] (stamp L).length)=V at *;obtain⟨r,hr⟩:=ArV W.heap.size;rw [←hr]at hr2 hlt hJ ⊢;clear hr hr1 hG hb hm h0
 gi_loopw [3] (fun _ wr=>∃seen:List Nat,CX wr r b (stamp L) seen/\wr.heap[b]?=some (.map (AG AA (stamp L)).toArray (stamp L).length)/\J (seen.filterMap (fun i=>L[i]?.map (·.1))) wr)
  (fun _ wr=>L.length-(wr.iterSeen r).size)
 case atStart=>exact⟨[],hr2,hb1,hJ1⟩
 case round=>
  obtain⟨seen,hI,hbr,hJs⟩:=hrel
  rcases CX.next AA hI hbr (oG L) (by omega) 0 with⟨hlen,hrun⟩|⟨i,hi,Ep,W1,Gp,hG1,hs1,hrun,hen⟩
  ·have hP:=Aa8 L hI.nd hI.lt hlen;gi_wp2
   go_end0
   exact⟨⟨_,rfl⟩,_,hP,hJs⟩
  ·have LC:i<L.length:=(by rw [DL]at hi;exact hi);rw [YU,oI]at hrun hen
   have hstep:(seen ++ [i]).filterMap (fun i=>L[i]?.map (·.1))=seen.filterMap (fun i=>L[i]?.map (·.1)) ++ [(L[i]).1]:=by rw [List.filterMap_append];simp only [List.filterMap_cons,List.filterMap_nil,Asf LC,Option.map_some]
   have hlen':seen.length<L.length:=by
    have h2:(i::seen) ⊆ List.range L.length:=by
     intro j hj
     rcases List.mem_cons.1 hj with rfl|hj
     ·simpa using LC
     ·have:=hI.lt j hj;rw [DL]at this;simpa using this
    have:=(List.nodup_cons.2 ⟨Ep,hI.nd⟩).length_le_of_subset h2;simp at this;omega
   have CB:=Fi hI;have hJ2:=hJ _ wr W1 (some r) hJs hG1 (fun r' e=>by cases e;exact⟨ArZ _,_,hI.it,rfl⟩);have hb2:=(hG1.block b (ArX hbr) (by simp;omega)).trans hbr;have GP:=hen W1 rfl rfl;obtain⟨s,hs⟩:=ArV ((L[i]).1);obtain⟨z,hz⟩:=ArV ((L[i]).2);rw [←hs,←hz]at GP hrun;rw [←hs]at hstep;have E3:=(Aa.refl W1).alloc (.cells #[S (R s.a.x),S (R s.a.y),S (R s.b.x),S (R s.b.y)] 155);have Fa:=ArY W1 (.cells #[S (R s.a.x),S (R s.a.y),S (R s.b.x),S (R s.b.y)] 155);have Tn:=hJ _ W1 _ none hJ2 (GG E3 none) (fun r' e=>by cases e);have hpl:(seen.filterMap (fun i=>L[i]?.map (·.1))).length<L.length:=Nat.lt_of_le_of_lt (List.length_filterMap_le _ _) hlen';obtain⟨fn,tmps,assign,body,hy,hR⟩:=hY _ s _ Tn hpl;have DD:=Gp.keep (E3.block r (ArX Gp.it));have hb4:=(E3.block b (ArX hb2)).trans hb2;have g0:=Ab (o:=0) Fa rfl;have g1:=Ab (o:=1) Fa rfl;have g2:=Ab (o:=2) Fa rfl;have g3:=Ab (o:=3) Fa rfl;clear hs1 hen hs hz Fa E3 Tn hJ2;unfold AA at GP hrun hy;unfold S at hy GP hrun g0 g1 g2 g3 DD hb4 hR;gi_wp2;refine hR.mono ?_;rintro e W3 ⟨rfl,hJ3,hk3⟩;gi_wp2;go_roundw
   case rel=>exact⟨seen ++ [i],⟨hk3.same r _ DD.it rfl,DD.nd,DD.lt⟩,hk3.same b _ hb4 rfl,by rw [hstep];exact hJ3⟩
   case measure=>rw [CB,Fi (W:=W3) (b:=b) (E:=stamp L) (seen:=seen ++ [i]) ⟨hk3.same r _ DD.it rfl,DD.nd,DD.lt⟩,List.length_append,List.length_singleton];omega
theorem AjU(F:Fence)(n:Nat)(h10:F.fn 183)(hro:F.round=none)(hn:1<=n)(Bm b:Nat)(L:List (Sg×Int))(w:World)(hBm:Bm<w.heap.size)
  (hm:w.cell? ⟨Bm,0,none⟩=some (.map (some b))) (hb:w.heap[b]?=some (.map (AG AA (stamp L)).toArray L.length)) :
  SeqGives F n Tryz.prog 183 #[.pointer (some ⟨Bm,0,none⟩)] AA (fun ss=>ss.Perm (L.map (·.1))) L.length w:=fun l J W hW hJ hY h0=>
 AjT F n h10 hro hn l Bm b L J hY W hJ ((hW.cell (p:=⟨Bm,0,none⟩) hBm).trans hm) ((hW.block b (ArX hb)).trans hb) h0
end Go.Proofs.YtbejphgbbpplbaaGreatDoor
