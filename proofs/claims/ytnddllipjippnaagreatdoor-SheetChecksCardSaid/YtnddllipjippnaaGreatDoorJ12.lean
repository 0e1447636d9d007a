/- J12: Back Close Round Stable. -/
import Derived.Test.YtnddllipjippnaaGreatDoorJ10
import Derived.RangeFuncNested
import Derived.RangeFuncBound
import Derived.Shelf.RegionOpen
import Derived.OwnWalkIn
import Derived.LoopNIn
import Derived.LoopIn
import Derived.StillTailTactics
set_option maxRecDepth 100000
set_option maxHeartbeats 4000000
namespace Go.Proofs.YtnddllipjippnaaGreatDoor
open Go.RowKit Kl Go.Shelf
attribute [local go_sem] Oper.semAt_some
def ES(l:List Nat)(j:Nat):Nat×Nat:=(l.length-1-j,Ap l (l.length-1-j))
abbrev Pr:={p:Nat×Nat // p.2<1000000000/\p.1<100000}
theorem Ajp(zs:List Nat)(hl:zs.length<=100000)(hz:∀x∈zs,x<1000000000):∃g:Nat→Pr,∀k,k<zs.length→(g k).1=ES zs k:=
 ⟨fun k=>if h:k<zs.length then ⟨ES zs k,CQ hz (by omega),by simp only [ES];omega⟩else ⟨(0,0),by omega,by omega⟩,fun k hk=>by simp [hk]⟩
def upto{α:Type}(f:Nat→α)(k:Nat):List α:=(List.range k).map f
theorem upto_succ{α:Type}(f:Nat→α)(k:Nat):upto f (k+1)=upto f k ++ [f k]:=by simp [upto,List.range_succ]
theorem upto_length{α:Type}(f:Nat→α)(k:Nat):(upto f k).length=k:=by simp [upto]
structure BS(n₀ Bs:Nat)(W W':World):Prop where
 below:Below n₀ W W'
 box:W'.heap[Bs]?=W.heap[Bs]?
theorem BS.refl(n₀ Bs:Nat)(W:World):BS n₀ Bs W W:=⟨Below.refl _ _,rfl⟩
theorem BS.trans{n₀ Bs:Nat}{A B C:World}(h:BS n₀ Bs A B)(k:BS n₀ Bs B C):BS n₀ Bs A C:=⟨h.below.trans k.below,k.box.trans h.box⟩
theorem BS.put{n₀ Bs:Nat}{w:World}(hn:n₀<=w.heap.size)(hB:Bs<w.heap.size)(W:World)(l:Nat)(o o':Obj)(hl:w.heap.size<=l)(h:W.heap[l]?=some o)(h1:o.isCells=false)(h2:o.isWalk=false):BS n₀ Bs W (W.putObj l o'):=
 ⟨belowK_b hn W l o o' hl h h1 h2,World.putObj_heap_other (by omega)⟩
theorem BS.of_ext{n₀ Bs:Nat}{W W':World}(h:Ab W W')(h1:n₀<=W.heap.size)(h2:Bs<W.heap.size):BS n₀ Bs W W':=⟨Below.mono h h1,h.block Bs h2⟩
theorem AbV{α:Type}(fi fx:α→Nat)(F:Fence)(n:Nat)(hf:F.fn 292)(hro:F.round=none)(hn:1<=n)(l Bs n₀:Nat)(A:Option Addr)(cap:Nat)(zs:List Nat)(g:Nat→α)(hg:∀k,k<zs.length→(fi (g k),fx (g k))=ES zs k)(J Jx:List α→World→Prop)
  (hY:∀pre x W,J pre W→pre.length<zs.length→YieldAt F (n-1) Tryz.prog l #[.int .i64 (fi x:Nat),.int .u64 (fx x:Nat)] W fun e W'=>
   (e=.returned (.bool true)/\J (pre ++ [x]) W'/\BS n₀ Bs W W')∨(e=.returned (.bool false)/\Jx (pre ++ [x]) W'))
  (W:World) (SE:W.cell? ⟨Bs,0,none⟩=some (.slice A zs.length cap)) (hlen:zs.length<=100000)
  (hc:0<zs.length→∃b o,b<n₀/\A=some ⟨b,o,none⟩/\∀j,j<zs.length→W.cell? ⟨b,o+j,none⟩=some (.int .u64 (Ap zs j:Nat))) (h0:J [] W) :
  CallsIn F n Tryz.prog 292 #[.func (.yield l) #[] #[],.pointer (some ⟨Bs,0,none⟩)] W fun e W'=>(∃v,e=.returned v)/\
   ((∃ys,ys=upto g zs.length/\J ys W')∨(∃pre,(∃k,k<=zs.length/\pre=upto g k)/\Jx pre W')):=by
 refine callsIn_of_wp Tryz.func292 rfl hf ?_ hro;simp only [Tryz.ntmps292,List.size_toArray,List.length_cons,List.length_nil,Nat.reduceAdd,Nat.reduceSub,Array.replicate_succ,Array.replicate_zero,List.push_toArray,List.append_toArray,List.nil_append,List.cons_append];gi_wp2
 gi_loopw [3] (fun i wr=>∃(k:Nat) (z:Int),k<=zs.length/\z=zs.length-1-k/\i=.int .i64 z/\J (upto g k) wr/\BS n₀ Bs W wr)
  (fun i _=>(intOf i+1).toNat)
 case atStart=>exact⟨0,_,Nat.zero_le _,by omega,rfl,h0,BS.refl _ _ _⟩
 case round=>
  obtain⟨k,z,hk,hz,rfl,hJs,Fc⟩:=hrel;have HZ:=Ao4 hz;by_cases hlt:k<zs.length
  ·obtain⟨b,o,hb,rfl,hcs⟩:=hc (by omega);have hz0:0<=z:=(by omega);obtain⟨m,rfl⟩:=Int.eq_ofNat_of_zero_le hz0;have hm:m<zs.length:=(by omega);clear hz;have WM:=(Fc.below.cell (p:=⟨b,o+m,none⟩) hb).trans (hcs m hm);have B7:=(World.cell?_of_block (a:=⟨Bs,0,none⟩) Fc.box).trans SE;obtain⟨fn,tmps,assign,body,hy,hR⟩:=hY _ (g k) wr hJs (by rw [upto_length];exact hlt);have Dt:=hg k hlt;rw [show ES zs k=(m,Ap zs m)by have:=HZ.out;unfold ES;rw [show zs.length-1-k=m by omega]]at Dt;rw [(Prod.mk.inj Dt).1,(Prod.mk.inj Dt).2]at hy;clear Dt;clear hcs hc SE;gi_wp2;refine hR.mono ?_;rintro e W3 (⟨rfl,hJ3,hk3⟩|⟨rfl,hJx3⟩)
   ·gi_wp2;go_roundw
    case rel=>exact⟨k+1,_,hlt,by have:=HZ.out;omega,rfl,by rw [upto_succ];exact hJ3,Fc.trans hk3⟩
    case measure=>simp [intOf]
   ·gi_wp2;refine bodyPost_ret (results_none rfl _ _ _) rfl ?_;exact⟨⟨_,rfl⟩,.inr ⟨_,⟨k+1,hlt,by rw [upto_succ]⟩,hJx3⟩⟩
  ·obtain rfl:k=zs.length:=(by omega);have hz0:z<0:=(by omega);clear hz;gi_wp2
   go_end0
   exact⟨⟨_,rfl⟩,.inl ⟨_,rfl,hJs⟩⟩
theorem Z7(F:Fence)(n:Nat)(hf:F.fn 258)(hro:F.round=none)(v:Value)(w:World)(hv:∃A n c,v=.slice A n c) :
  CallsIn F n Tryz.prog 258 #[v] w fun e w'=>e=.returned (.func (.func 292) #[] #[.pointer (some ⟨w.heap.size,0,none⟩)])/\w'=w.alloc (.cells #[v] 270):=by
 obtain⟨A,m,c,rfl⟩:=hv;refine callsIn_of_wp Tryz.func258 rfl hf ?_ hro;simp only [Tryz.ntmps258,List.size_toArray,List.length_cons,List.length_nil,Nat.reduceAdd,Nat.reduceSub,Array.replicate_succ,Array.replicate_zero,List.push_toArray,List.append_toArray,List.nil_append,List.cons_append];gi_wp2;go_ret;exact⟨rfl,rfl⟩
theorem Z8{α:Type}(fi fx:α→Nat)(F:Fence)(n:Nat)(hf:F.fn 292)(hro:F.round=none)(hn:1<=n)(Bs n₀:Nat)(v:Value)(zs:List Nat)(g:Nat→α)(hg:∀k,k<zs.length→(fi (g k),fx (g k))=ES zs k)(w:World)(aU:Bs<w.heap.size)(fK:n₀<=w.heap.size)
  (hc:w.cell? ⟨Bs,0,none⟩=some v) (hv:∃w0,Rd w0 v zs/\w0.heap.size<=n₀/\Ab w0 w) :
  SeqStopsK F n Tryz.prog 292 #[.pointer (some ⟨Bs,0,none⟩)] (fun x:α=>#[Value.int .i64 (fi x:Nat),Value.int .u64 (fx x:Nat)]) (BS n₀ Bs) (fun ys=>ys=upto g zs.length)
   (fun pre=>∃k,k<=zs.length/\pre=upto g k) zs.length w:=fun l J Jx W hW _ _ hY h0=>by
 obtain⟨w0,⟨A,c,rfl,hr⟩,hs,hx⟩:=hv;refine AbV fi fx F n hf hro hn l Bs n₀ A c zs g hg J Jx hY W ((hW.cell (p:=⟨Bs,0,none⟩) aU).trans hc) hr.len ?_ h0;intro hp;obtain⟨b,o,e,hcs⟩:=hr.ad hp;have hb:=World.block_lt_of_cell? w0 _ (hcs 0 hp);have hb':b<w0.heap.size:=hb;refine⟨b,o,by omega,e,fun j hj=>?_⟩;rw [hW.cell (p:=⟨b,o+j,none⟩) (by show b<w.heap.size;omega)];exact hx.cellS (hcs j hj)
end Go.Proofs.YtnddllipjippnaaGreatDoor
namespace Go.Proofs.YtnddllipjippnaaGreatDoor
open Go.RowKit Kl Go.Shelf
attribute [local go_sem] Oper.semAt_some
def ER(m:Bool)(x:Nat):Bs:=if x=0 then [48] else if m then 45::D x else D x
def tx(len:Nat)(p:Nat×Nat):Bs:=if p.1+1<len then pad 9 p.2 else D p.2
theorem Al5(x:Nat)(l:List Nat):upto (ES (x::l)) (l.length+1)=(upto (ES l) l.length).map (fun p=>(p.1+1,p.2)) ++ [(0,x)]:=by
 rw [upto_succ]
 congr 1
 ·unfold upto;rw [List.map_map];refine List.map_congr_left fun j hj=>?_;rw [List.mem_range]at hj;simp only [ES,Function.comp,List.length_cons];have e1:l.length+1-1-j=(l.length-1-j)+1:=(by omega);rw [e1];simp [Ap]
 ·simp [ES,Ap]
theorem vz:∀{l:List Nat},l≠[]→(upto (ES l) l.length).flatMap (tx l.length)=cl 9 l
 | [],h=>absurd rfl h
 | [x],_=>by simp [upto,ES,tx,cl,Ap]
 | x::y::l,_=>by
  have ih:=vz (l:=y::l) (by simp);rw [show (x::y::l).length=(y::l).length+1 from rfl,Al5,List.flatMap_append,List.flatMap_map]
  have e:(fun p:Nat×Nat=>tx ((y::l).length+1) (p.1+1,p.2))=tx (y::l).length:=by funext p;unfold tx;simp
  rw [e,ih];simp [cl,tx]
def Ew(len:Nat)(pre:List Pr):Bs:=pre.flatMap fun p=>tx len p.1
theorem wl(len:Nat)(pre:List Pr)(p:Pr):Ew len (pre ++ [p])=Ew len pre++tx len p.1:=by simp [Ew]
theorem wd{l:List Nat}(hne:l≠[]){g:Nat→Pr}(hg:∀k,k<l.length→(g k).1=ES l k):Ew l.length (upto g l.length)=cl 9 l:=by
 rw [←vz hne];unfold Ew upto;rw [List.flatMap_map,List.flatMap_map,List.flatMap_def,List.flatMap_def]
 congr 1
 exact List.map_congr_left fun k hk=>by rw [hg k (List.mem_range.1 hk)]
theorem Al3(len:Nat)(p:Pr):(tx len p.1).length<=9:=by
 have h:=GA (n:=p.1.2) (k:=9) (by omega) (by have:=p.2.1;omega);unfold tx
 split
 ·rw [kq (by omega) (by have:=p.2.1;omega)];omega
 ·exact h
theorem wh(len:Nat)(pre:List Pr):(Ew len pre).length<=9*pre.length:=by
 induction pre with
 | nil=>simp [Ew]
 | cons p pre ih=>have:=Al3 len p;have e:Ew len (p::pre)=tx len p.1++Ew len pre:=(by simp [Ew]);rw [e,List.length_append,List.length_cons];omega
theorem AcE(m:Bool)(v:Value)(w:World)(hv:Rd w v []):Calls Tryz.prog 209 #[.agg #[.bool m,v]] w (By [48] w):=by
 obtain⟨A,c,rfl,hr⟩:=hv;go_enter Tryz.func209,Tryz.ntmps209;go_wp2;go_ret;exact⟨rfl,(Ab.refl w).alloc _⟩
theorem Ab.trans_below{a b c:World}{B:Nat}(h:Ab a b)(k:Below B b c)(hB:a.heap.size<=B:=by omega):Ab a c:=Below.trans h (Below.mono k hB)
theorem qD{β:Type}{b Bb B:Nat}{f:β→List Value} : OwnFrom B (fun pre W=>FP Bb b (f pre) W):=by
 intro s W W' row h hg hr
 have key:∀p,Lib.BuilderAt 311 5 Bb b p (f s) W→Lib.BuilderAt 311 5 Bb b p (f s) W':=by
  rintro p ⟨hB,v,hb,hown,hne⟩
  have G1:∀k,(∃c t fz,W.heap[k]?=some (.cells c t fz))→some k≠row:=by rintro k ⟨c,t,fz,hk⟩ e;obtain⟨_,_,ho,hc⟩:=hr k e.symm;rw [hk]at ho;obtain rfl:=Option.some.inj ho;simp [Obj.isCells]at hc
  refine⟨hB,v,?_,hown.kept hg ?_,hne⟩
  ·rw [hg.block b (Array.getElem?_eq_some_iff.1 hb).1 (G1 b ⟨_,_,_,hb⟩)];exact hb
  ·cases hv:v.ownBlock with
   | none=>exact .inl rfl
   | some k=>obtain⟨c,fz,hk⟩:=Yb hown k hv;exact .inr (G1 k ⟨_,_,_,hk⟩)
 rcases h with h|h
 ·exact .inl (key _ h)
 ·exact .inr (key _ h)
theorem QD{B b Bb:Nat}{bs:List Value}{W W':World}(hb:FP Bb b bs W)(hs:W.heap.size<=W'.heap.size)(h:Lib.OthersKept 5 (some b) W W'):KeepsFrom B W W':=by
 refine⟨hs,fun k o _ hk ho=>h k o hk ?_ ?_⟩
 ·rintro e;obtain rfl:=Option.some.inj e
  have:∃c t fz,W.heap[k]?=some (.cells c t fz):=by rcases hb with⟨_,_,hb,_⟩|⟨_,_,hb,_⟩<;>exact⟨_,_,_,hb⟩
  obtain⟨c,t,fz,e2⟩:=this;rw [e2]at hk;obtain rfl:=Option.some.inj hk;simp [Obj.isCells]at ho
 ·rintro c fz rfl;simp [Obj.isCells]at ho
theorem Ik{B:Nat}{W W':World}(h:Ab W W'):KeepsFrom B W W':=
 ⟨h.size,fun k _ _ hk _=>(h.block k (Array.getElem?_eq_some_iff.1 hk).1).trans hk⟩
theorem VC{b Bb:Nat}{bs:List Value}{W W':World}(h:FP Bb b bs W)(hx:Ab W W'):FP Bb b bs W':=by
 have key:∀p,Lib.BuilderAt 311 5 Bb b p bs W→Lib.BuilderAt 311 5 Bb b p bs W':=by rintro p ⟨hB,v,hb,hown,hne⟩;exact⟨hB,v,by rw [hx.block b (Array.getElem?_eq_some_iff.1 hb).1];exact hb,AL hown hx,hne⟩
 rcases h with h|h
 ·exact .inl (key _ h)
 ·exact .inr (key _ h)
theorem DU{W W':World}{row:Option Nat}{k:Nat}{x:Array Value}{t:TypeId}{fz:Nat×Nat}(hg:W.grownBy W' row)(h:W.heap[k]?=some (.cells x t fz))(hr:∀r,row=some r→∃o:Obj,W.heap[r]?=some o/\o.isCells=false):W'.heap[k]?=some (.cells x t fz):=by
 rw [hg.block k (Array.getElem?_eq_some_iff.1 h).1 ?_];exact h;intro e;obtain⟨o,ho,hc⟩:=hr k e.symm;rw [h]at ho;obtain rfl:=Option.some.inj ho;simp [Obj.isCells]at hc
theorem byteCells_append(a b:Bs):Lib.byteCells (a++b)=Lib.byteCells a++Lib.byteCells b:=by simp [Lib.byteCells]
theorem PE(a:Bs):(Lib.byteCells a).length=a.length:=by simp [Lib.byteCells]
theorem I0{b k:Nat}{W W':World}{x:Array Value}{t:TypeId}{fz:Nat×Nat}(hk:W.heap[k]?=some (.cells x t fz))(hne:k≠b)(ht:t≠5)(h:Lib.OthersKept 5 (some b) W W'):W'.heap[k]?=some (.cells x t fz):=
 h k _ hk (by simpa using hne) (fun c f e=>by injection e with _ e _;exact ht e)
theorem Yz(l:Bs):Lib.strCells ⟨l.toArray⟩=Lib.byteCells l:=by simp [Lib.strCells,Lib.byteCells]
theorem Y7(k:Nat):(⟨#[48,48,48,48,48,48,48,48,48]⟩:ByteArray).extract k 9=⟨(List.replicate (9-k) 48).toArray⟩:=by
 have e:(⟨#[48,48,48,48,48,48,48,48,48]⟩:ByteArray)=⟨(List.replicate 9 48).toArray⟩:=rfl;rw [e,S1,List.drop_replicate,AoF (by simp)]
theorem qE{Bb b len:Nat}{pre:List Pr}{x:Pr}{W:World}{sg:Bs}(hi:x.1.1+1<len)
  (h:FP Bb b ((Lib.byteCells (sg++Ew len pre)++Lib.strCells ((⟨#[48,48,48,48,48,48,48,48,48]⟩:ByteArray).extract (D x.1.2).length 9))++Lib.strCells ⟨(D x.1.2).toArray⟩) W) :
  FP Bb b (Lib.byteCells (sg++Ew len (pre ++ [x]))) W:=by
 rw [Y7,Yz,Yz,←byteCells_append,←byteCells_append]at h;rw [wl,tx,if_pos hi,pad]
 simpa using h
theorem qF{Bb b len:Nat}{pre:List Pr}{x:Pr}{W:World}{sg:Bs}(hi:¬x.1.1+1<len)
  (h:FP Bb b (Lib.byteCells (sg++Ew len pre)++Lib.strCells ⟨(D x.1.2).toArray⟩) W) :
  FP Bb b (Lib.byteCells (sg++Ew len (pre ++ [x]))) W:=by
 rw [Yz,←byteCells_append]at h;rw [wl,tx,if_neg hi]
 simpa using h
theorem qY(a:Bs)(k:Nat):(Lib.byteCells a++Lib.strCells ((⟨#[48,48,48,48,48,48,48,48,48]⟩:ByteArray).extract k 9)).length<=a.length+9:=by
 rw [Y7,Yz,List.length_append,PE,PE];simp
theorem close_some(m:Bool)(zs:List Nat)(hne:zs≠[])(hlt:∀x∈zs,x<1000000000)(v:Value)(w:World)(hw:Am w)(hv:Rd w v zs) :
  Calls Tryz.prog 209 #[.agg #[.bool m,v]] w (By ((if m then [45] else [])++cl 9 zs) w):=by
 have Bf:=hv;obtain⟨g,hg⟩:=Ajp zs (by obtain⟨_,_,_,h⟩:=hv;exact h.len) hlt;obtain⟨A,c,rfl,hr⟩:=hv;have hl0:0<zs.length:=List.length_pos_iff.2 hne;have GW:=hr.len;have hl2:=hr.cap;have hl3:=hr.max;have hz:(((zs.length:Nat):Int) == 0)=false:=(by rw [beq_eq_false_iff_ne];omega);refine(callsIn_wide (n:=4)).1 ?_;refine callsIn_of_wp_marks Tryz.func209 rfl trivial ?_ rfl;simp only [Tryz.ntmps209,List.size_toArray,List.length_cons,List.length_nil,Nat.reduceAdd,Nat.reduceSub,Array.replicate_succ,Array.replicate_zero,List.push_toArray,List.append_toArray,List.nil_append,List.cons_append]
 have Cx:FP (w.heap.size+1) (w.heap.size+1) [] ((w.alloc (.cells #[.bool m,.slice A zs.length c] 272)).alloc (.cells #[.pointer none,.slice none 0 0] 311)):=
  .inl ⟨Ao7 _,_,by rw [show w.heap.size+1=(w.alloc (.cells #[.bool m,.slice A zs.length c] 272)).heap.size by simp];exact Ao6 _ _,World.ownsRow_nil _ _ _ _,by simp [Value.ownBlock]⟩
 have hx0:=((Ab.refl w).alloc (.cells #[.bool m,.slice A zs.length c] 272)).alloc (.cells #[.pointer none,.slice none 0 0] 311);have OS:=Amc (w.heap.size+1) (w.heap.size+1) [] 45 _ Cx (by simp) (by simp);obtain⟨sg,FD⟩:=Ao3 (if m then [45] else []:Bs);rw [←FD];have Vf:=Ao4 FD;clear FD
 cases m
 ·gi_wp2;clear OS;obtain⟨W1,hW1⟩:=Ao3 ((w.alloc (.cells #[.bool false,.slice A zs.length c] 272)).alloc (.cells #[.pointer none,.slice none 0 0] 311));have gK:w.heap.size+2<=W1.heap.size:=(by rw [hW1];simp);have dP:W1.cell? ⟨w.heap.size,1,none⟩=some (.slice A zs.length c):=(by rw [hW1];simp);rw [←hW1]at Cx hx0 ⊢;obtain rfl:sg = []:=Vf.out;clear hW1 Vf;refine⟨trivial,?_⟩;refine(Z7 Fence.wide 3 trivial rfl _ _ ⟨_,_,_,rfl⟩).mono ?_;rintro e W2 ⟨rfl,rfl⟩;gi_wp2
  refine wpIn_rangeFunc_ownG rfl (by omega) (gf:=292) (lb:=#[.pointer (some ⟨W1.heap.size,0,none⟩)]) rfl trivial (enters_of Tryz.func292 (by kernel_rfl) rfl)
   (Z8 (fun p:Pr=>p.1.1) (fun p:Pr=>p.1.2) Fence.wide 3 trivial rfl (by omega) W1.heap.size w.heap.size _ zs g hg (W1.alloc (.cells #[.slice A zs.length c] 270)) (by simp) (by simp;omega) (by simp) ⟨w,Bf,Ao7 _,hx0.alloc _⟩)
   (fun h k=>h.trans k) (BS.put (by simp;omega) (by simp)) (Below.refl _ _) (fun _=>rfl)
   (fun pre W=>(FP (w.heap.size+1) (w.heap.size+1) (Lib.byteCells ([]++Ew zs.length pre)) W/\W.cell? ⟨w.heap.size,1,none⟩=some (.slice A zs.length c)/\w.heap.size+1<=W.heap.size/\(∃x,W.heap[W1.heap.size]?=some (.cells x 270 (0,0))))/\Below w.heap.size w W)
   (fun _ _ _=>False) ?hI (fun _ _ _ _ _ hs _ _=>hs) ?h0 ?a1 ?assign ?body ?done ?stop
  case a1=>exact fun x=>{tmps:=#[.agg #[.bool false,.slice A zs.length c],.pointer (some ⟨w.heap.size,0,none⟩),.string ⟨#[]⟩,.pointer (some ⟨w.heap.size+1,0,none⟩),.int .i64 (x.1.1:Nat),.int .u64 (x.1.2:Nat),undef,.pointer (some ⟨w.heap.size,1,none⟩),.slice A zs.length c,.int .i64 zs.length,.bool false,.pointer (some ⟨w.heap.size,0,none⟩),.bool false,undef,.pointer (some ⟨w.heap.size,1,none⟩),.slice A zs.length c,.func (.func 292) #[] #[.pointer (some ⟨W1.heap.size,0,none⟩)],.int .i64 (x.1.1:Nat),.int .u64 (x.1.2:Nat),undef,undef,undef,undef,undef,undef,undef,undef,undef,undef,undef,undef,undef,undef,undef],defers:=[]}
  case hI=>refine OwnFrom.and (OwnFrom.and qD ?_) (ownFrom_below (Ao7 _) (by simp;omega));intro s A' B' row hs D7 hr';obtain⟨h1,h2,x,h3⟩:=hs;exact⟨cell_kept h1 D7 (fun r e=>(hr' r e).2),AoH h2 D7.size,x,(DU D7 h3 (fun r e=>(hr' r e).2))⟩
  case h0=>exact⟨⟨by have h0:=VC Cx ((Ab.refl W1).alloc (.cells #[.slice A zs.length c] 270));simpa [Ew,Lib.byteCells]using h0,by rw [World.cell?_alloc_past _ _ _ (by show w.heap.size<W1.heap.size;omega)];exact dP,by simp;omega,_,Ao6 _ _⟩,hx0.alloc _⟩
  case assign=>intro l x W K hK;gi_wp2;exact hK
  case body=>
   rintro l pre x W ⟨⟨hB,hc1,hsz,As⟩,Ck⟩ hlen;have Ah:=x.2.1;have Jr:=GA (n:=x.1.2) (k:=9) (by omega) (by omega);have Ko:=wh zs.length pre;gi_wp2;refine⟨trivial,?_⟩;refine(CallsIn.inRound l (callsIn_wide.2 (uG x.1.2 (by omega) W (hw.ext Ck)))).mono ?_;rintro e W3 ⟨rfl,hx3⟩;have hc3:=hx3.cellS hc1;have CM:=VC hB hx3;have hs3:=hx3.size;obtain⟨xb,As⟩:=As;have Lt:=(hx3.block _ (Array.getElem?_eq_some_iff.1 As).1).trans As;by_cases hi:x.1.1+1<zs.length
   ·have LC:(x.1.1:Int)<(zs.length:Int)-1:=(by omega);gi_wp2;refine⟨trivial,?_⟩;refine(CallsIn.inRound l (callsIn_wide.2 (Rq (w.heap.size+1) (w.heap.size+1) _ _ W3 CM ?cA ?cB))).mono ?_
    case cA=>rw [Y7,JC,PE];simp;omega
    case cB=>omega
    rintro e W4 ⟨rfl,JX,hb4,Du⟩;have Kn:=hb4.size;gi_wp2;refine⟨trivial,?_⟩;refine(CallsIn.inRound l (callsIn_wide.2 (Rq (w.heap.size+1) (w.heap.size+1) _ _ W4 JX ?cC ?cD))).mono ?_
    case cC=>rw [JC];have:=qY (([]:Bs)++Ew zs.length pre) (D x.1.2).length;simp at this ⊢;omega
    case cD=>omega
    rintro e W5 ⟨rfl,Ov,hb5,Dv⟩;have hs5:=hb5.size;gi_wp2;refine⟨(Ik hx3).trans ((QD CM Kn Du).trans (QD JX hs5 Dv)),?_,⟨qE hi Ov,?_,by omega,_,I0 (I0 Lt (by omega) (by decide) Du) (by omega) (by decide) Dv⟩,?_⟩
    ·exact⟨((Below.mono hx3 (by have:=Ck.size;omega)).trans (hb4.mono (by omega))).trans (hb5.mono (by omega)),(I0 (I0 Lt (by omega) (by decide) Du) (by omega) (by decide) Dv).trans As.symm⟩
    ·rw [hb5.cell (p:=⟨w.heap.size,1,none⟩) (show w.heap.size<w.heap.size+1 by omega),hb4.cell (p:=⟨w.heap.size,1,none⟩) (show w.heap.size<w.heap.size+1 by omega)];exact hc3
    ·exact((Ck.trans (Below.mono hx3 (by have:=Ck.size;omega))).trans (hb4.mono (by omega))).trans (hb5.mono (by omega))
   ·have LC:¬(x.1.1:Int)<(zs.length:Int)-1:=(by omega);gi_wp2;refine⟨trivial,?_⟩;refine(CallsIn.inRound l (callsIn_wide.2 (Rq (w.heap.size+1) (w.heap.size+1) _ _ W3 CM ?cE ?cF))).mono ?_
    case cE=>rw [JC,PE];simp;omega
    case cF=>omega
    rintro e W5 ⟨rfl,Ov,hb5,Dv⟩;have hs5:=hb5.size;gi_wp2;refine⟨(Ik hx3).trans (QD CM hs5 Dv),?_,⟨qF hi Ov,?_,by omega,_,I0 Lt (by omega) (by decide) Dv⟩,?_⟩
    ·exact⟨(Below.mono hx3 (by have:=Ck.size;omega)).trans (hb5.mono (by omega)),(I0 Lt (by omega) (by decide) Dv).trans As.symm⟩
    ·rw [hb5.cell (p:=⟨w.heap.size,1,none⟩) (show w.heap.size<w.heap.size+1 by omega)];exact hc3
    ·exact(Ck.trans (Below.mono hx3 (by have:=Ck.size;omega))).trans (hb5.mono (by omega))
  case done=>rintro D ys W hD rfl ⟨⟨hB,hc1,hsz,As⟩,Ck⟩ hK;rw [wd hne hg]at hB;simp only [AoE]at hD;gi_wp2;refine⟨trivial,?_⟩;refine(callsIn_wide.2 (Tryz.Builder_String_any_k _ _ _ _ (Lib.IsBuilderF.of hB) hsz)).mono ?_;rintro e W3 ⟨rfl,_,hb3,Ig⟩;have hK3:=Ig D _ hK (by simp;omega) (by simp);gi_wp2;refine⟨by simp,.inl ⟨_,_,rfl,run_takeDeferred hK3,?_⟩⟩;exact⟨_,results_tmp rfl _ _ _,rfl,(Ck.trans (hb3.mono (by omega))).trans (belowK_b (w:=w) (Ao7 _) W3 D _ _ (by omega) hK3 rfl rfl)⟩
  case stop=>rintro D c pre W _ _ h _;exact h.elim
 ·gi_wp2;refine⟨trivial,?_⟩;refine(callsIn_wide.2 OS).mono ?_;rintro e W1 ⟨rfl,xW,hb1,ho1⟩;have gK:w.heap.size+2<=W1.heap.size:=(by have:=hb1.size;simp at this;omega);have dP:W1.cell? ⟨w.heap.size,1,none⟩=some (.slice A zs.length c):=(by rw [hb1.cell (p:=⟨w.heap.size,1,none⟩) (show w.heap.size<w.heap.size+1 by omega)];simp);have il:Ab w W1:=hx0.trans_below hb1;obtain rfl:sg = [45]:=Vf.out;clear hb1 ho1 Vf Cx hx0 OS;have Cx:=xW;have hx0:=il;clear xW il;gi_wp2;refine⟨trivial,?_⟩;refine(Z7 Fence.wide 3 trivial rfl _ _ ⟨_,_,_,rfl⟩).mono ?_;rintro e W2 ⟨rfl,rfl⟩;gi_wp2
  refine wpIn_rangeFunc_ownG rfl (by omega) (gf:=292) (lb:=#[.pointer (some ⟨W1.heap.size,0,none⟩)]) rfl trivial (enters_of Tryz.func292 (by kernel_rfl) rfl)
   (Z8 (fun p:Pr=>p.1.1) (fun p:Pr=>p.1.2) Fence.wide 3 trivial rfl (by omega) W1.heap.size w.heap.size _ zs g hg (W1.alloc (.cells #[.slice A zs.length c] 270)) (by simp) (by simp;omega) (by simp) ⟨w,Bf,Ao7 _,hx0.alloc _⟩)
   (fun h k=>h.trans k) (BS.put (by simp;omega) (by simp)) (Below.refl _ _) (fun _=>rfl)
   (fun pre W=>(FP (w.heap.size+1) (w.heap.size+1) (Lib.byteCells ([45]++Ew zs.length pre)) W/\W.cell? ⟨w.heap.size,1,none⟩=some (.slice A zs.length c)/\w.heap.size+1<=W.heap.size/\(∃x,W.heap[W1.heap.size]?=some (.cells x 270 (0,0))))/\Below w.heap.size w W)
   (fun _ _ _=>False) ?hI (fun _ _ _ _ _ hs _ _=>hs) ?h0 ?a1 ?assign ?body ?done ?stop
  case a1=>exact fun x=>{tmps:=#[.agg #[.bool true,.slice A zs.length c],.pointer (some ⟨w.heap.size,0,none⟩),.string ⟨#[]⟩,.pointer (some ⟨w.heap.size+1,0,none⟩),.int .i64 (x.1.1:Nat),.int .u64 (x.1.2:Nat),undef,.pointer (some ⟨w.heap.size,1,none⟩),.slice A zs.length c,.int .i64 zs.length,.bool false,.pointer (some ⟨w.heap.size,0,none⟩),.bool true,.nilIface,.pointer (some ⟨w.heap.size,1,none⟩),.slice A zs.length c,.func (.func 292) #[] #[.pointer (some ⟨W1.heap.size,0,none⟩)],.int .i64 (x.1.1:Nat),.int .u64 (x.1.2:Nat),undef,undef,undef,undef,undef,undef,undef,undef,undef,undef,undef,undef,undef,undef,undef],defers:=[]}
  case hI=>refine OwnFrom.and (OwnFrom.and qD ?_) (ownFrom_below (Ao7 _) (by simp;omega));intro s A' B' row hs D7 hr';obtain⟨h1,h2,x,h3⟩:=hs;exact⟨cell_kept h1 D7 (fun r e=>(hr' r e).2),AoH h2 D7.size,x,(DU D7 h3 (fun r e=>(hr' r e).2))⟩
  case h0=>exact⟨⟨by have h0:=VC Cx ((Ab.refl W1).alloc (.cells #[.slice A zs.length c] 270));simpa [Ew,Lib.byteCells]using h0,by rw [World.cell?_alloc_past _ _ _ (by show w.heap.size<W1.heap.size;omega)];exact dP,by simp;omega,_,Ao6 _ _⟩,hx0.alloc _⟩
  case assign=>intro l x W K hK;gi_wp2;exact hK
  case body=>
   rintro l pre x W ⟨⟨hB,hc1,hsz,As⟩,Ck⟩ hlen;have Ah:=x.2.1;have Jr:=GA (n:=x.1.2) (k:=9) (by omega) (by omega);have Ko:=wh zs.length pre;gi_wp2;refine⟨trivial,?_⟩;refine(CallsIn.inRound l (callsIn_wide.2 (uG x.1.2 (by omega) W (hw.ext Ck)))).mono ?_;rintro e W3 ⟨rfl,hx3⟩;have hc3:=hx3.cellS hc1;have CM:=VC hB hx3;have hs3:=hx3.size;obtain⟨xb,As⟩:=As;have Lt:=(hx3.block _ (Array.getElem?_eq_some_iff.1 As).1).trans As;by_cases hi:x.1.1+1<zs.length
   ·have LC:(x.1.1:Int)<(zs.length:Int)-1:=(by omega);gi_wp2;refine⟨trivial,?_⟩;refine(CallsIn.inRound l (callsIn_wide.2 (Rq (w.heap.size+1) (w.heap.size+1) _ _ W3 CM ?cA ?cB))).mono ?_
    case cA=>rw [Y7,JC,PE];simp;omega
    case cB=>omega
    rintro e W4 ⟨rfl,JX,hb4,Du⟩;have Kn:=hb4.size;gi_wp2;refine⟨trivial,?_⟩;refine(CallsIn.inRound l (callsIn_wide.2 (Rq (w.heap.size+1) (w.heap.size+1) _ _ W4 JX ?cC ?cD))).mono ?_
    case cC=>rw [JC];have:=qY (([45]:Bs)++Ew zs.length pre) (D x.1.2).length;simp at this ⊢;omega
    case cD=>omega
    rintro e W5 ⟨rfl,Ov,hb5,Dv⟩;have hs5:=hb5.size;gi_wp2;refine⟨(Ik hx3).trans ((QD CM Kn Du).trans (QD JX hs5 Dv)),?_,⟨qE hi Ov,?_,by omega,_,I0 (I0 Lt (by omega) (by decide) Du) (by omega) (by decide) Dv⟩,?_⟩
    ·exact⟨((Below.mono hx3 (by have:=Ck.size;omega)).trans (hb4.mono (by omega))).trans (hb5.mono (by omega)),(I0 (I0 Lt (by omega) (by decide) Du) (by omega) (by decide) Dv).trans As.symm⟩
    ·rw [hb5.cell (p:=⟨w.heap.size,1,none⟩) (show w.heap.size<w.heap.size+1 by omega),hb4.cell (p:=⟨w.heap.size,1,none⟩) (show w.heap.size<w.heap.size+1 by omega)];exact hc3
    ·exact((Ck.trans (Below.mono hx3 (by have:=Ck.size;omega))).trans (hb4.mono (by omega))).trans (hb5.mono (by omega))
   ·have LC:¬(x.1.1:Int)<(zs.length:Int)-1:=(by omega);gi_wp2;refine⟨trivial,?_⟩;refine(CallsIn.inRound l (callsIn_wide.2 (Rq (w.heap.size+1) (w.heap.size+1) _ _ W3 CM ?cE ?cF))).mono ?_
    case cE=>rw [JC,PE];simp;omega
    case cF=>omega
    rintro e W5 ⟨rfl,Ov,hb5,Dv⟩;have hs5:=hb5.size;gi_wp2;refine⟨(Ik hx3).trans (QD CM hs5 Dv),?_,⟨qF hi Ov,?_,by omega,_,I0 Lt (by omega) (by decide) Dv⟩,?_⟩
    ·exact⟨(Below.mono hx3 (by have:=Ck.size;omega)).trans (hb5.mono (by omega)),(I0 Lt (by omega) (by decide) Dv).trans As.symm⟩
    ·rw [hb5.cell (p:=⟨w.heap.size,1,none⟩) (show w.heap.size<w.heap.size+1 by omega)];exact hc3
    ·exact(Ck.trans (Below.mono hx3 (by have:=Ck.size;omega))).trans (hb5.mono (by omega))
  case done=>rintro D ys W hD rfl ⟨⟨hB,hc1,hsz,As⟩,Ck⟩ hK;rw [wd hne hg]at hB;simp only [AoE]at hD;gi_wp2;refine⟨trivial,?_⟩;refine(callsIn_wide.2 (Tryz.Builder_String_any_k _ _ _ _ (Lib.IsBuilderF.of hB) hsz)).mono ?_;rintro e W3 ⟨rfl,_,hb3,Ig⟩;have hK3:=Ig D _ hK (by simp;omega) (by simp);gi_wp2;refine⟨by simp,.inl ⟨_,_,rfl,run_takeDeferred hK3,?_⟩⟩;exact⟨_,results_tmp rfl _ _ _,rfl,(Ck.trans (hb3.mono (by omega))).trans (belowK_b (w:=w) (Ao7 _) W3 D _ _ (by omega) hK3 rfl rfl)⟩
  case stop=>rintro D c pre W _ _ h _;exact h.elim
theorem Fy(m:Bool)(x:Nat)(v:Value)(w:World)(hw:Am w)(hv:Rd w v (pc 1000000000 x)):Calls Tryz.prog 209 #[.agg #[.bool m,v]] w (By (ER m x) w):=by
 by_cases h:x=0
 ·subst h;rw [IL]at hv;exact AcE m v w hv
 ·have hne:pc 1000000000 x≠[]:=fun e=>h ((QT (by omega)).1 e);have h1:=close_some m (pc 1000000000 x) hne (B8 (by omega) x) v w hw hv;have e9:(10:Nat)^9=1000000000:=(by decide);have h2:=AcB (k:=9) (by omega) (l:=pc 1000000000 x) (by rw [e9];exact B8 (by omega) x) (G8 (by omega) x);rw [e9,Bn (by omega)]at h2;rw [h2]at h1;have e:ER m x=(if m then [45] else [])++D x:=(by unfold ER;rw [if_neg h];cases m<;>rfl);rw [e];exact h1
end Go.Proofs.YtnddllipjippnaaGreatDoor
namespace Go.Proofs.YtnddllipjippnaaGreatDoor
open Go.RowKit Kl Go.Shelf
theorem AlW{l n:Nat}{P:Program}{ops:Array Oper}{Q:Exit→Act→World→Prop}(hd:∀(i:Nat) (o:Oper),ops[i]?=some o→∀c,o.op≠.defer c)(hlo:¬LetsOut Q)
  {i:Nat} {K K':Act→World→Prop} {a:Act} {w:World} (hK:∀a w,K a w→K' a w) (h:wpOp P ops Q i K a w):wpOpIn (Fence.wide.inRound l) n P ops Q i K' a w:=by
 unfold wpOp at h;unfold wpOpIn
 cases ho:ops[i]? with
 | none=>rw [ho]at h;exact hK _ _ h
 | some o=>
  rw [ho]at h;simp only at h ⊢;by_cases hw:Region.wanted o (yielded ops a.tmps)=true
  ·rw [if_pos hw]at h ⊢
   rcases h with h|h
   ·refine⟨fun _ _=>trivial,?_⟩;unfold Oper.wp at h;rw [Oper.semAt_eq _ _ _ (hd i o ho)];generalize (execOp a.eval o).run P w=r at h ⊢
    cases r with
    | ok x w'=>
     cases x<;>simp only [Oper.upon,Oper.uponIn]at h ⊢ <;>
      first
       | exact hK _ _ h
       | exact h.elim
       | exact⟨fun hh=>by simp [Fence.inRound,Fence.wide]at hh,CallsIn.inRound l (callsIn_wide.2 (Calls.mono h (fun e w'' he=>by cases e<;>first | exact hK _ _ he | exact he)))⟩
       | exact⟨fun hh=>by simp [Fence.inRound,Fence.wide]at hh,fun c cs _=>let ⟨v,w',r,s⟩:=h c cs;⟨v,w',hK _ _ r,stepsIn_wide.2 s⟩⟩
    | halt x w'=>cases x<;>simp only [Oper.upon,Oper.uponIn]at h ⊢<;>exact h
   ·exact absurd h.2 hlo
  ·rw [if_neg hw]at h ⊢;exact⟨fun _ _=>trivial,hK _ _ h⟩
theorem xi{l n:Nat}{P:Program}{md:Region.Mode}{ops:Array Oper}{Q:Exit→Act→World→Prop}(hd:∀(i:Nat) (o:Oper),ops[i]?=some o→∀c,o.op≠.defer c)(hlo:¬LetsOut Q) :
  ∀(fuel:Nat) (listed:Array Bool) (a:Act) (w:World),wpAny P md ops Q fuel listed a w→wpAnyIn (Fence.wide.inRound l) n P md ops Q fuel listed a w
 | 0,_,_,_,h=>h
 | fuel+1,_,_,_,h=>⟨h.1,fun i hi=>AlW hd hlo (fun a w=>xi hd hlo fuel _ a w) (h.2 i hi)⟩
def mj(l:List Oper):Bool:=l.all fun o=>match o.op with | .defer _=>false|_=>true
theorem jT{l:List Oper}(h:mj l=true)(i:Nat)(o:Oper)(ho:l.toArray[i]?=some o)(c:Call):o.op≠.defer c:=by
 intro e
 have hm:o∈l:=by rw [List.getElem?_toArray]at ho;exact List.mem_of_getElem? ho
 have:=List.all_eq_true.1 h o hm;rw [e]at this;simp at this
def left(l:Array Bool):Nat:=l.toList.countP (fun b=>!b)
theorem rT:∀{l:List Bool} {i:Nat},l[i]?=some false→(l.set i true).countP (fun b=>!b)+1=l.countP (fun b=>!b)
 | x::l,0,h=>by
  simp only [List.getElem?_cons_zero,AoB]at h;subst h;simp
 | x::l,i+1,h=>by have ih:=rT (l:=l) (i:=i) (by simpa using h);rw [List.set_cons_succ,List.countP_cons,List.countP_cons];omega
theorem jB{l:Array Bool}{i:Nat}(h:l.getD i true=false):left (l.setIfInBounds i true)+1=left l:=by
 unfold left;rw [Array.toList_setIfInBounds];refine rT ?_
 rcases Nat.lt_or_ge i l.size with h'|h'
 ·simp [h']at h ⊢;exact h
 ·simp [Array.getElem?_eq_none h']at h
theorem jD{l:Array Bool}(h:left l=0)(i:Nat)(hi:i<l.size):l.getD i false=true:=by
 unfold left at h;rw [List.countP_eq_zero]at h;have:=h l[i] (by simp);simp [hi]at this ⊢;exact this
theorem eval_put_same{a:Act}{d:Nat}{v:Value}(h:d<a.tmps.size):(a.put (some d) v).eval (.tmp d)=v:=by
 simp [Act.put,Act.eval,h]
def JG(i j:Nat)(W0 W1 W2:World)(listed:Array Bool):World:=if listed.getD i false=true then (if listed.getD j false=true then W2 else W1)else W0
theorem Amd{i j k:Nat}{W0 W1 W2:World}{listed:Array Bool}(h1:k≠i)(h2:k≠j):JG i j W0 W1 W2 (listed.setIfInBounds k true)=JG i j W0 W1 W2 listed:=by
 unfold JG;rw [getD_set_ne false h1,getD_set_ne false h2]
theorem xq{i j:Nat}{W0 W1 W2:World}{listed:Array Bool}(h:listed.getD i false=false):JG i j W0 W1 W2 listed=W0:=by
 unfold JG;rw [if_neg (by rw [h];simp)]
theorem mK{i j:Nat}{W0 W1 W2:World}{listed:Array Bool}(h:listed.getD i false=true)(h2:listed.getD j false=false):JG i j W0 W1 W2 listed=W1:=by
 unfold JG;rw [if_pos h,if_neg (by rw [h2];simp)]
theorem xr{i j:Nat}{W0 W1 W2:World}{listed:Array Bool}(h:listed.getD i false=true)(h2:listed.getD j false=true):JG i j W0 W1 W2 listed=W2:=by
 unfold JG;rw [if_pos h,if_pos h2]
theorem MP{listed:Array Bool}{i:Nat}(h:i<listed.size):(listed.setIfInBounds i true).getD i false=true:=by
 simp [h]
section
variable {F : Fence} {n : Nat} {P : Program} {md : Region.Mode} {ops : Array Oper} {Q : Exit → Act → World → Prop}
structure Cy(md:Region.Mode)(ops:Array Oper)(val:Nat→Value)(a0:Act)(listed:Array Bool)(a:Act):Prop where
 sz:a.tmps.size=a0.tmps.size
 lsz:listed.size=ops.size
 done:∀i o d,ops[i]?=some o→listed.getD i false=true→o.dst=some d→a.eval (.tmp d)=val i
 rest:∀d,(∀(i:Nat) o,ops[i]?=some o→o.dst≠some d)→a.eval (.tmp d)=a0.eval (.tmp d)
 closed:∀j oj,ops[j]?=some oj→listed.getD j false=true→∀e∈oj.after,Region.binds md e=true→listed.getD e.on false=true
theorem Cy.step{s m:Nat}{val:Nat→Value}{a0:Act}{listed:Array Bool}{a:Act}{i:Nat}{o:Oper}(hD:∀(i:Nat) o,ops[i]?=some o→o.dst=if i<m then some (s+i)else none)(hB:s+m<=a0.tmps.size)
  (h:Cy md ops val a0 listed a) (ho:ops[i]?=some o) (hr:i∈Region.ready md ops listed):Cy md ops val a0 (listed.setIfInBounds i true) (a.put o.dst (val i)):=by
 have hi:i<ops.size:=(Array.getElem?_eq_some_iff.1 ho).1;refine⟨?_,by rw [Array.size_setIfInBounds,h.lsz],?_,?_,?_⟩
 ·rw [←h.sz];cases o.dst<;>simp [Act.put]
 ·intro j oj d hj hl hd;have e1:=hD i o ho;have e2:=hD j oj hj;rw [hd]at e2;by_cases Bu:i=j
  ·subst Bu;rw [←e1]at e2;rw [←e2];refine eval_put_same ?_;rw [h.sz];rw [e1]at e2
   split at e2
   ·have e3:@Eq Nat d (s+i):=Option.some.inj e2;omega
   ·cases e2
  ·rw [getD_set_ne false Bu]at hl;rw [Act.eval_put (fun d' C2 e=>?_)]
   ·exact h.done j oj d hj hl hd
   ·rw [e1]at C2;rw [Operand.tmp.injEq]at e;subst e
    split at C2
    ·split at e2
     ·have e3:@Eq Nat (s+i) d:=Option.some.inj C2;have e4:@Eq Nat d (s+j):=Option.some.inj e2;omega
     ·cases e2
    ·cases C2
 ·intro d hd;rw [Act.eval_put (fun d' C2 e=>by rw [Operand.tmp.injEq]at e;subst e;exact hd i o ho C2)];exact h.rest d hd
 ·intro j oj hj hl e he hb;obtain⟨_,oi,hoi,hall⟩:=mem_ready.1 hr;by_cases Bu:i=j
  ·subst Bu;obtain rfl:=Option.some.inj (hj.symm.trans hoi);exact getD_set_true (hall e he hb)
  ·rw [getD_set_ne false Bu]at hl;exact getD_set_true (h.closed j oj hj hl e he hb)
theorem Cy.start{val:Nat→Value}{a0:Act} : Cy md ops val a0 (Array.replicate ops.size false) a0:=
 ⟨rfl,by simp,fun i o d _ hl=>(by rw [getD_replicate_false]at hl;cases hl),fun _ _=>rfl,fun j oj _ hl=>(by rw [getD_replicate_false]at hl;cases hl)⟩
theorem jC(k:Nat):left (Array.replicate k false)<=k:=by
 unfold left;refine AoH List.countP_le_length ?_;simp
theorem AlS{s m:Nat}(val:Nat→Value)(ws:Array Bool→World)(a0:Act)(hD:∀(i:Nat) o,ops[i]?=some o→o.dst=if i<m then some (s+i)else none)(hB:s+m<=a0.tmps.size)
  (hA:∀(i:Nat) o,ops[i]?=some o→∀e∈o.after,e.on<i) (hg:∀(i:Nat) (o:Oper),ops[i]?=some o→o.guard=none)
  (hstep:∀listed a i o,Cy md ops val a0 listed a→i∈Region.ready md ops listed→ops[i]?=some o→∀K:Act→World→Prop,K (a.put o.dst (val i)) (ws (listed.setIfInBounds i true))→Oper.wpIn F n P o a (ws listed) K Q)
  (hend:∀listed a,Cy md ops val a0 listed a→(∀i,i<ops.size→listed.getD i false=true)→Q .normal a (ws listed)) :
  ∀fuel listed a,Cy md ops val a0 listed a→left listed<=fuel→wpAnyIn F n P md ops Q fuel listed a (ws listed):=by
 have hall:∀listed,listed.size=ops.size→Region.ready md ops listed = []→∀i,i<ops.size→listed.getD i false=true:=by
  intro listed hl hr i
  induction i using Nat.strongRecOn with
  | _ i ih=>
   intro hi;by_cases h:listed.getD i false=true
   ·exact h
   ·exfalso
    have:i∈Region.ready md ops listed:=mem_ready.2 ⟨getD_in (by omega) (by simpa using h),ops[i],by simp [hi],fun e he _=>by
     have:=hA i ops[i] (by simp [hi]) e he
     exact ih e.on this (by omega)⟩
    rw [hr]at this
    cases this
 intro fuel
 induction fuel with
 | zero=>
  intro listed a h hl;have h0:=fun (i:Nat) (hi:i<ops.size)=>jD (l:=listed) (by omega) i (by rw [h.lsz];exact hi);refine⟨?_,hend _ _ h h0⟩;rw [List.eq_nil_iff_forall_not_mem];intro i hi;obtain⟨h1,o,ho,_⟩:=mem_ready.1 hi;have h2:=h0 i (Array.getElem?_eq_some_iff.1 ho).1;rw [getD_both h1]at h2
  cases h2
 | succ fuel ih=>intro listed a h hl;refine⟨fun hr=>hend _ _ h (hall _ h.lsz hr),fun i hi=>?_⟩;obtain⟨h1,o,ho,_⟩:=mem_ready.1 hi;unfold wpOpIn;rw [ho];simp only;rw [if_pos (by simp [Region.wanted,hg i o ho])];refine hstep listed a i o h hi ho _ (ih _ _ (h.step hD hB ho hi) ?_);have:=jB h1;omega
def okB(s m:Nat)(ops:Array Oper):Bool:=
 (List.range ops.size).all fun i=>match ops[i]? with
  | some o=>(o.dst == if i < m then some (s+i)else none) && o.guard.isNone && o.after.all (fun e=>decide (e.on < i))
  | none=>true
theorem IJ{s m:Nat}(h:okB s m ops=true)(i:Nat)(o:Oper)(ho:ops[i]?=some o) :
  (o.dst=if i<m then some (s+i)else none)/\o.guard=none/\∀e∈o.after,e.on<i:=by
 have h1:=List.all_eq_true.1 h i (List.mem_range.2 (Array.getElem?_eq_some_iff.1 ho).1);rw [ho]at h1;simp only [Bool.and_eq_true,beq_iff_eq,Option.isNone_iff_eq_none,Array.all_eq_true',decide_eq_true_eq]at h1;exact⟨h1.1.1,h1.1.2,h1.2⟩
theorem Cy.out{s m:Nat}{val:Nat→Value}{a0 a:Act}{listed:Array Bool}(h:Cy md ops val a0 listed a)(hb:okB s m ops=true){d:Nat}(hd:d<s∨s+m<=d){v:Value}(hv:a0.eval (.tmp d)=v):a.eval (.tmp d)=v:=by
 rw [←hv];refine h.rest d fun i o ho e=>?_;have h1:=(IJ hb i o ho).1;rw [e]at h1
 split at h1
 ·have h2:@Eq Nat d (s+i):=Option.some.inj h1;omega
 ·cases h1
theorem Cy.val{s m:Nat}{val:Nat→Value}{a0 a:Act}{listed:Array Bool}(h:Cy md ops val a0 listed a)(hb:okB s m ops=true)(i:Nat){d:Nat}(hd:d=s+i)(hi:i<m)(hl:listed.getD i false=true){v:Value}(hv:val i=v):a.eval (.tmp d)=v:=by
 have hlt:i<ops.size:=by
  rw [←h.lsz]
  rcases Nat.lt_or_ge i listed.size with h'|h'
  ·exact h'
  ·simp [Array.getElem?_eq_none h']at hl
 have ho:ops[i]?=some ops[i]:=(by simp [hlt]);rw [←hv];refine h.done i _ d ho hl ?_;rw [(IJ hb i _ ho).1,if_pos hi,hd]
def waits(o:Oper):List Nat:=(o.after.toList.filter (fun e=>Region.binds .any e)).map (·.on)
theorem KJ{o:Oper}{listed:Array Bool}(h:∀e∈o.after,Region.binds .any e=true→listed.getD e.on false=true)(j:Nat)(hj:(waits o).contains j=true):listed.getD j false=true:=by
 have h1:j∈waits o:=(by simpa using hj);unfold waits at h1;rw [List.mem_map]at h1;obtain⟨e,he,rfl⟩:=h1;rw [List.mem_filter]at he;exact h e (by simpa using he.1) he.2
theorem Cy.waits{val:Nat→Value}{a0 a:Act}{listed:Array Bool}(h:Cy .any ops val a0 listed a){j:Nat}{oj:Oper}(hj:ops[j]?=some oj)(hl:listed.getD j false=true)(i:Nat)(hi:(waits oj).contains i=true):listed.getD i false=true:=
 KJ (h.closed j oj hj hl) i hi
theorem AlT(s m:Nat)(val:Nat→Value)(ws:Array Bool→World){a0:Act}{w:World}(hb:okB s m ops=true)(hB:s+m<=a0.tmps.size)(hw:ws (Array.replicate ops.size false)=w)
  (hstep:∀listed a i o,Cy md ops val a0 listed a→i∈Region.ready md ops listed→ops[i]?=some o→∀K:Act→World→Prop,K (a.put o.dst (val i)) (ws (listed.setIfInBounds i true))→Oper.wpIn F n P o a (ws listed) K Q)
  (hend:∀listed a,Cy md ops val a0 listed a→(∀i,i<ops.size→listed.getD i false=true)→Q .normal a (ws listed)) :
  wpAnyIn F n P md ops Q ops.size (Array.replicate ops.size false) a0 w:=by
 subst hw;exact AlS val ws a0 (fun i o ho=>(IJ hb i o ho).1) hB (fun i o ho=>(IJ hb i o ho).2.2) (fun i o ho=>(IJ hb i o ho).2.1) hstep hend _ _ _ Cy.start (jC _)
end
end Go.Proofs.YtnddllipjippnaaGreatDoor
