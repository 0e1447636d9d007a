/- X48: LO3 LO4 LO5 LO6 LO7 LO8 LO10 LO12. -/
import Derived.Test.YtjalkoacphhgdaaGreatDoorX47
set_option maxRecDepth 100000
set_option maxHeartbeats 4000000
namespace Go.Proofs.YtjalkoacphhgdaaGreatDoor
open Go.RowKit Kl Go.Sort Go.Shelf
def aM(e:En):List Value:=[S e.u,S e.s,.int .i64 e.p,S e.t]
theorem uM(x:En):∀v∈aM x,v.oneCell'=true:=by
 intro v hv;simp only [aM,List.mem_cons,AqV,or_false]at hv
 rcases hv with rfl|rfl|rfl|rfl<;>rfl
instance instInhEn:Inhabited En:=⟨⟨[],[],0,[]⟩⟩
def Hk(c:List La)(x y:En):Int:=BB c x.u y.u
theorem QT(c:List La):SWO (ltOf (Hk c)) where
 irrefl x:=(Yx c).irrefl x.u
 trans x y z:=(Yx c).trans x.u y.u z.u
 ntrans x y z:=(Yx c).ntrans x.u y.u z.u
def Eu(c:List La)(l:List En):List En:=l.mergeSort (fun x y=>!decide (BB c y.u x.u<0))
theorem Us(c:List La)(l:List En):(Eu c l).Perm l:=List.mergeSort_perm _ _
theorem AmZ(c:List La)(l:List En):(Eu c l).length=l.length:=(Us c l).length_eq
theorem yf(c:List La)(l:List En):(Eu c l).Pairwise (fun x y=>ltOf (Hk c) y x=false):=by
 have tr:∀x y z:En,(!decide (BB c y.u x.u<0))=true→(!decide (BB c z.u y.u<0))=true→(!decide (BB c z.u x.u<0))=true:=by intro x y z h1 h2;have:=(QT c).ntrans z y x;unfold ltOf Hk at this;simp only [Bool.not_eq_true',decide_eq_false_iff_not]at *;exact this h2 h1
 have Ut:∀x y:En,((!decide (BB c y.u x.u<0))||(!decide (BB c x.u y.u<0)))=true:=by
  intro x y;have i1:=(QT c).irrefl x;have i2:=(QT c).trans x y x;unfold ltOf Hk at i1 i2;simp only [Bool.or_eq_true,Bool.not_eq_true',decide_eq_false_iff_not,decide_eq_true_iff]at *;by_cases h:BB c y.u x.u<0
  ·exact .inr fun h'=>i1 (i2 h' h)
  ·exact .inl h
 have h:=List.pairwise_mergeSort tr Ut l;refine h.imp ?_;intro a b hab;unfold ltOf Hk
 simpa using hab
def NE(l:List En):Prop:=∀x∈l,∀y∈l,x.u=y.u→x=y
theorem AmY{c:List La}{l m:List En}(ha:NE l)(hp:m.Perm l)(hs:m.Pairwise (fun x y=>ltOf (Hk c) y x=false)):m=Eu c l:=by
 refine List.Perm.eq_of_pairwise (le:=fun x y=>ltOf (Hk c) y x=false) ?_ hs (yf c l) (hp.trans (Us c l).symm);intro a b ha' hb' h1 h2;exact ha a (hp.mem_iff.1 ha') b ((Us c l).mem_iff.1 hb') (zb c a.u b.u h2 h1)
abbrev EnS:={e:En // e.u.length<=1000000}
instance instInhEnS:Inhabited EnS:=⟨⟨⟨[],[],0,[]⟩,by simp⟩⟩
def JW(e:EnS):List Value:=aM e.1
theorem aL(x:EnS):(JW x).length=4:=rfl
theorem Ae8(x:EnS):∀v∈JW x,v.oneCell'=true:=uM x.1
theorem uL(m:List EnS):m.flatMap JW=AQ (m.map (·.1)):=by
 induction m with
 | nil=>rfl
 | cons x m ih=>rw [List.flatMap_cons,ih];rfl
theorem Ae6{l:List En}(h:∀e∈l,e.u.length<=1000000):∃d:Array EnS,d.toList.map (·.1)=l:=
 ⟨(l.attachWith (fun e=>e.u.length<=1000000) h).toArray,by simp⟩
theorem Al3{c:List La}{lt:EnS→EnS→Bool}(G6:∀x y:EnS,lt x y=ltOf (Hk c) x.1 y.1){d:Array EnS}(h:SortedIn lt 0 d.size d):(d.toList.map (·.1)).Pairwise (fun x y=>ltOf (Hk c) y x=false):=by
 rw [List.pairwise_map,List.pairwise_iff_getElem];intro i j hi hj Bc;have:=h i j (by omega) Bc (by simpa using hj);rw [G6]at this;rw [Array.length_toList]at hi hj;rw [getElem!_pos d i hi,getElem!_pos d j hj]at this
 simpa using this
theorem Anc{g:FuncId}{cb:Array Value}(eg:∀args w,(callFunc g args).run Tryz.prog w=.ok (.enter g args) w)(c:List La)(cf:EnS→EnS→Int)(G6:∀x y:EnS,ltOf cf x y=ltOf (Hk c) x.1 y.1){w0 w:World}(hx:Aa w0 w)
  (SR:∀W,Aa w0 W→∀x y:EnS,Calls Tryz.prog g (#[Dq x.1,Dq y.1]++cb) W (Ax (cf x y) W))
  (blk cap:Nat) (h0:w0.heap.size<=blk) (d:Array EnS) (hH:HoldsK JW 4 w blk 0 d) (hblk:blk<w.heap.size) (hsz:d.size<1000000) (ha:NE (d.toList.map (·.1))) :
  Calls Tryz.prog 23 #[.slice (some ⟨blk,0,none⟩) d.size cap,.func (.func g) #[] cb] w fun e w'=>
   e=.returned (.tuple #[])/\∃(d':Array EnS) (n:Nat) (os:Array Obj),d'.size=d.size/\d'.toList.map (·.1)=Eu c (d.toList.map (·.1))/\w'=sortWorldK JW 4 w blk 0 n d' os:=by
 have swo:SWO (ltOf cf):=⟨fun x=>by rw [G6];exact(QT c).irrefl _,fun x y z=>by rw [G6,G6,G6];exact(QT c).trans _ _ _,fun x y z=>by rw [G6,G6,G6];exact(QT c).ntrans _ _ _⟩;have ly:CmpLays Tryz.prog g cb JW 4 cf blk 0 d.size w:=Xt fun W hg x y=>SR W (MB hx hg h0) x y;refine(AnyQ.slices_SortFunc Tryz.laysSortEn 4 Tryz.isAgg40 Tryz.sizeOf40 JW aL Ae8 cf swo g cb blk 0 cap d w eg ly hH hblk (by omega)).mono ?_;rintro e w' ⟨he,d',n,os,h1,h2,hw'⟩;obtain⟨hs,-,hp⟩:=h1;refine⟨he,d',n,os,hs,?_,hw'⟩
 have hp':d'.toList.Perm d.toList:=by have e1:d'.extract 0 d.size=d':=(by rw [←hs];simp);have e2:d.extract 0 d.size=d:=(by simp);rw [e1,e2]at hp;exact hp
 rw [←hs]at h2;exact AmY ha (hp'.map _) (Al3 G6 h2)
theorem yg{g:FuncId}{cb:Array Value}(eg:∀args w,(callFunc g args).run Tryz.prog w=.ok (.enter g args) w)(c:List La)(cf:EnS→EnS→Int)(G6:∀x y:EnS,ltOf cf x y=ltOf (Hk c) x.1 y.1){w0 w:World}(hx:Aa w0 w)
  (SR:∀W,Aa w0 W→∀x y:EnS,Calls Tryz.prog g (#[Dq x.1,Dq y.1]++cb) W (Ax (cf x y) W))
  {B:Nat} (hB:w0.heap.size<=B) (l:List En) (hl:∀e∈l,e.u.length<=1000000) (ha:NE l) (hlen:l.length<1000000) {v:Value} (hv:w.ownsRow B 40 4 v l.length (AQ l)) :
  Calls Tryz.prog 23 #[v,.func (.func g) #[] cb] w fun e w'=>
   e=.returned (.tuple #[])/\w.grownBy w' v.ownBlock/\w'.ownsRow B 40 4 v l.length (AQ (Eu c l)):=by
 obtain⟨d,hd⟩:=Ae6 hl;have CY:d.size=l.length:=(by rw [←hd];simp);by_cases hn:v=.slice none 0 0
 ·subst hn
  have h0:l = []:=by
   rcases hv.2 with⟨_,h0⟩|⟨g,cap,cur,h,_⟩
   ·exact List.eq_nil_of_length_eq_zero h0
   ·cases h
  subst h0;refine(AnyF.slices_SortFunc_none {Tryz.laysSortEn with} none 0 _ w).mono ?_;rintro e w' ⟨rfl,rfl⟩;have e0:Eu c [] = []:=(by unfold Eu;simp);rw [e0];exact⟨rfl,aW _ _,hv⟩
 ·have hv':w.ownsRow B 40 4 v d.size (d.toList.flatMap JW):=by rw [uL,hd,CY];exact hv
  obtain⟨gb,cap,rfl,hgb,Oz,hH,hown⟩:∃g cap,v=.slice (some ⟨g,0,none⟩) d.size cap/\B<=g/\g<w.heap.size/\HoldsK JW 4 w g 0 d/\v.ownBlock=some g:=by
   by_cases BW:0<d.size
   ·exact WV aL (by omega) hv' BW
   ·rcases hv'.2 with⟨h,_⟩|⟨g,cap,cur,h,hb,_⟩
    ·exact absurd h hn
    ·exact⟨g,cap,h,hb,(hv'.lt g (by rw [h];rfl)).2,fun j hj=>by rw [size_flatK]at hj;omega,by rw [h];rfl⟩
  refine(Anc eg c cf G6 hx SR gb cap (by omega) d hH Oz (by omega) (by rw [hd];exact ha)).mono ?_;rintro e w' ⟨he,d',n,os,hs,hm,rfl⟩;refine⟨he,Oa JW 4 w gb 0 n _ os,?_⟩;have ho:=QD aL (by omega) hv' hs n os;rw [uL,hm,hd,CY]at ho;rw [CY];exact ho
theorem AkO(c:List La)(A:Option Addr)(cc bc:Nat)(w:World)(hb:w.cell? ⟨bc,0,none⟩=some (.slice A c.length cc))(hr:Ad w A (Bo c))(h1:c.length<=cc)(h2:cc<=9223372036854775807)(x y:En) :
  Calls Tryz.prog 58 #[Dq x,Dq y,.pointer (some ⟨bc,0,none⟩)] w (Ax (BB c x.u y.u) w):=by
 have Cf:=(Aa.refl w).alloc (.cells #[S x.u,S x.s,.int .i64 x.p,S x.t] 40);have Cq:=Cf.alloc (.cells #[S y.u,S y.s,.int .i64 y.p,S y.t] 40);have j2:=Cq.cellS hb;have cu:=ZW c A cc _ (hr.ext Cq) h1 h2 x.u y.u;generalize BB c x.u y.u=z at *;unfold Dq;clear hr hb;go_enter Tryz.func58,Tryz.ntmps58;(go_wp2_with fail);(with_reducible refine cu.mono ?_);rintro e w1 ⟨rfl,hx⟩;go_wp2;go_ret;exact⟨rfl,Cq.trans hx⟩
theorem AeQ:∀args w,(callFunc 58 args).run Tryz.prog w=.ok (.enter 58 args) w:=enters_of Tryz.func58 (by kernel_rfl) rfl
theorem AkP(c:List La)(A:Option Addr)(cc bc:Nat)(w:World)(hb:w.cell? ⟨bc,0,none⟩=some (.slice A c.length cc))(hr:Ad w A (Bo c))(h1:c.length<=cc)(h2:cc<=9223372036854775807)(x y:En)(hx0:x.u.length<=1000000)(Bj:y.u.length<=1000000) :
  Calls Tryz.prog 24 #[Dq x,Dq y,.pointer (some ⟨bc,0,none⟩)] w (Ax (JU c x.u y.u) w):=by
 have Cf:=(Aa.refl w).alloc (.cells #[S x.u,S x.s,.int .i64 x.p,S x.t] 40);have Cq:=Cf.alloc (.cells #[S y.u,S y.s,.int .i64 y.p,S y.t] 40);have j2:=Cq.cellS hb;have cu:=ml c A cc _ (hr.ext Cq) h1 h2 x.u y.u hx0 Bj;generalize JU c x.u y.u=z at *;unfold Dq;clear hr hb;go_enter Tryz.func24,Tryz.ntmps24;(go_wp2_with fail);(with_reducible refine cu.mono ?_);rintro e w1 ⟨rfl,hx⟩;go_wp2;go_ret;exact⟨rfl,Cq.trans hx⟩
theorem AeR:∀args w,(callFunc 24 args).run Tryz.prog w=.ok (.enter 24 args) w:=enters_of Tryz.func24 (by kernel_rfl) rfl
def cfU(c:List La)(x y:EnS):Int:=BB c x.1.u y.1.u
def rY(c:List La)(x y:EnS):Int:=JU c x.1.u y.1.u
theorem Aj2(c:List La)(x y:EnS):ltOf (rY c) x y=ltOf (Hk c) x.1 y.1:=congrFun (congrFun (ltV c) x.1.u) y.1.u
theorem Ana(c:List La)(A:Option Addr)(cc bc:Nat){w0 w:World}(hx:Aa w0 w)(hb:w0.cell? ⟨bc,0,none⟩=some (.slice A c.length cc))(hr:Ad w0 A (Bo c))(h1:c.length<=cc)(h2:cc<=9223372036854775807)
  {B:Nat} (hB:w0.heap.size<=B) (l:List En) (hl:∀e∈l,e.u.length<=1000000) (ha:NE l) (hlen:l.length<1000000) {v:Value} (hv:w.ownsRow B 40 4 v l.length (AQ l)) :
  Calls Tryz.prog 23 #[v,.func (.func 58) #[] #[.pointer (some ⟨bc,0,none⟩)]] w fun e w'=>e=.returned (.tuple #[])/\w.grownBy w' v.ownBlock/\w'.ownsRow B 40 4 v l.length (AQ (Eu c l)):=
 yg (cb:=#[.pointer (some ⟨bc,0,none⟩)]) AeQ c (cfU c) (fun _ _=>rfl) hx (fun W hW x y=>by exact AkO c A cc bc W (hW.cellS hb) (hr.ext hW) h1 h2 x.1 y.1) hB l hl ha hlen hv
theorem Anb(c:List La)(A:Option Addr)(cc bc:Nat){w0 w:World}(hx:Aa w0 w)(hb:w0.cell? ⟨bc,0,none⟩=some (.slice A c.length cc))(hr:Ad w0 A (Bo c))(h1:c.length<=cc)(h2:cc<=9223372036854775807)
  {B:Nat} (hB:w0.heap.size<=B) (l:List En) (hl:∀e∈l,e.u.length<=1000000) (ha:NE l) (hlen:l.length<1000000) {v:Value} (hv:w.ownsRow B 40 4 v l.length (AQ l)) :
  Calls Tryz.prog 23 #[v,.func (.func 24) #[] #[.pointer (some ⟨bc,0,none⟩)]] w fun e w'=>e=.returned (.tuple #[])/\w.grownBy w' v.ownBlock/\w'.ownsRow B 40 4 v l.length (AQ (Eu c l)):=
 yg (cb:=#[.pointer (some ⟨bc,0,none⟩)]) AeR c (rY c) (Aj2 c) hx (fun W hW x y=>by exact AkP c A cc bc W (hW.cellS hb) (hr.ext hW) h1 h2 x.1 y.1 x.2 y.2) hB l hl ha hlen hv
theorem sT(l:List En)(A:Option Addr)(cc:Nat)(w:World)(hr:Ad w A (AQ l))(hlen:l.length<=100000) :
  Calls Tryz.prog 22 #[.slice A l.length cc] w (fun e w'=>∃v,e=.returned v/\w'.ownsRow w.heap.size 40 4 v l.length (AQ l)/\Aa w w'):=by
 cases A with
 | none=>
  have h0:l = []:=by
   refine Classical.byContradiction fun h=>?_;obtain⟨b,o,e,_⟩:=hr.ad (by rw [aN];have:=List.length_pos_iff.2 h;omega)
   cases e
  subst h0;have hq:=fun W=>Lib.run_eql_slice_nil (P:=Tryz.prog) W 26 40 none 0 cc 0 0 Tryz.underlying26;clear hr;go_enter Tryz.func22,Tryz.ntmps22;go_wp2;go_ret;exact⟨_,rfl,⟨rfl,.inl ⟨rfl,rfl⟩⟩,Aa.refl _⟩
 | some a=>
  have hrow:=World.ownsRow_lit (base:=w.heap.size) (e:=40) (size:=4) w #[] 0 (AqK _) (by unfold maxLen;omega) rfl;have hE:=(Aa.refl w).alloc (.cells #[] 40)
  have hnews:∀j u,(AQ l)[j]?=some u→(w.alloc (.cells #[] 40)).cell? (a.add j)=some u:=by
   intro j u hu;obtain⟨hj,Nq⟩:=List.getElem?_eq_some_iff.1 hu;obtain⟨b,o,e,hc⟩:=(hr.ext hE).ad (by omega)
   cases e;rw [Addr.add_lit,←Nq];exact hc j hj
  have h1c:∀u∈AQ l,u.oneCell'=true:=by intro u hu;unfold AQ at hu;obtain⟨x,-,hx⟩:=List.mem_flatMap.1 hu;exact uM x u hx
  obtain⟨i0,hi,hz0,hz1,hz2⟩:=info_parts Tryz.infoEn;have hq:=fun W=>Lib.run_eql_slice_nil (P:=Tryz.prog) W 26 40 (some a) l.length cc 0 0 Tryz.underlying26;clear hr;have HW:=AqH hrow;have HE:=AqH hE;have HN:=AqH hnews;clear hrow hE hnews;go_enter Tryz.func22,Tryz.ntmps22
  go_wp2_with (at_builtin;go_loud (refine wpList_append_own _ rfl _ _ 26 rfl w.heap.size 40 i0 (.agg #[S [],S [],.int .i64 0,S []]) 4 56 Tryz.underlying26 hi hz0 hz1 hz2 rfl (by omega) (.slice (some ⟨w.heap.size,0,none⟩) 0 0) 0 [] rfl HW.out a l.length cc (AQ l) rfl (aN l) HN.out h1c (by unfold maxLen;omega) (by omega) HE.out.size ?_);intro v9 w9 BQ FM fQ)
  go_ret;rw [Nat.zero_add,List.nil_append]at BQ;exact⟨_,rfl,BQ,HE.out.grown FM fun k hk=>by simp only [Value.ownBlock,AqO]at hk;omega⟩
theorem Afc{w0 w w':World}{B:Nat}{e:TypeId}{s n:Nat}{v:Value}{xs:List Value}(hv:w.ownsRow B e s v n xs)(hx:Aa w0 w)(hB:w0.heap.size<=B)(hg:w.grownBy w' v.ownBlock):Aa w0 w':=
 hx.grown hg fun k hk=>by have:=(hv.lt k hk).1;omega
theorem Anm(l:List En)(A:Option Addr)(cc:Nat)(c:List La)(B:Option Addr)(d:Nat)(w:World)(hr:Ad w A (AQ l))(WY:Ad w B (Bo c))(h1:c.length<=d)(h2:d<=9223372036854775807)
  (hl:∀e∈l,e.u.length<=1000000) (ha:NE l) (hlen:l.length<=100000)
  (op:∀W,Aa w W→Calls Tryz.prog 57 #[.slice A l.length cc,.slice B c.length d] W (Ax 0 W)) :
  Calls Tryz.prog 20 #[.slice A l.length cc,.slice B c.length d] w (fun e w'=>∃v,e=.returned (.tuple #[v,.int .i64 0])/\w'.ownsRow w.heap.size 40 4 v l.length (AQ (Eu c l))/\Aa w w'):=by
 have hE:=(Aa.refl w).alloc (.cells #[.slice B c.length d] 32);have hB:=AqJ w (.cells #[.slice B c.length d] 32);obtain⟨w0,hw0⟩:=AqG (w.alloc (.cells #[.slice B c.length d] 32));have qx:=op _ hE;rw [←hw0]at hE hB qx;have cl:=fun W (hx:Aa w0 W)=>sT l A cc W ((hr.ext hE).ext hx) hlen;have so:=fun (W W1:World) (hx:Aa w0 W1) (hs:w0.heap.size<=W.heap.size) (v:Value) (hv:W1.ownsRow W.heap.size 40 4 v l.length (AQ l))=>Ana c B d w.heap.size hx (Ab (o:=0) hB rfl) (WY.ext hE) h1 h2 hs l hl ha (by omega) hv;have HE:=AqH hE;clear hr WY op hB hE;subst hw0;go_enter Tryz.func20,Tryz.ntmps20;(go_wp2_with fail);(with_reducible refine qx.mono ?_);rintro e w1 ⟨rfl,hx1⟩;have cl1:=cl w1 hx1;(go_wp2_with fail);(with_reducible refine cl1.mono ?_);rintro e w2 ⟨v,rfl,hv,hx2⟩;have X:=hx1.trans hx2;have so1:=so w1 w2 X hx1.size v hv;(go_wp2_with fail);(with_reducible refine so1.mono ?_);rintro e w3 ⟨rfl,hg,hv3⟩;have X3:=Afc hv (HE.out.trans X) (AqU HE.out.size hx1.size) hg;go_wp2;go_ret2;exact⟨_,rfl,kV hv3 (AqU HE.out.size hx1.size),X3⟩
theorem Am5(x:En)(W:World):(binOp .neq 40 (.agg #[S x.u,S x.s,.int .i64 x.p,S x.t]) (.agg #[S x.u,S x.s,.int .i64 x.p,S x.t])).run Tryz.prog W=.ok (.bool false) W:=by
 simp [go_sem]
theorem AeX(l:List En)(A B:Option Addr)(c d:Nat)(w:World)(hA:Ad w A (AQ l))(hB:Ad w B (AQ l))(hl:l.length<=100000) :
  Calls Tryz.prog 25 #[.slice A l.length c,.slice B l.length d] w (Bv true w):=by
 have Rk:=AqH hA;have JC:=AqH hB;obtain⟨n,hn⟩:=AqG l.length;rw [←hn]at hl ⊢;have HN:=AqH hn;clear hA hB hn;go_enter Tryz.func25,Tryz.ntmps25
 go_upto_region 4 with fail
 go_loopw [13] (fun i wr=>∃j:Nat,i=.int .i64 (j:Nat)/\j<=n/\Aa w wr) (fun i _=>n-(intOf i).toNat)
 case atStart=>exact⟨0,rfl,Nat.zero_le _,Aa.refl _⟩
 case round=>
  obtain⟨j,rfl,hj,Ac⟩:=hrel;by_cases hlt:j<n
  ·have AV:j<l.length:=(by rw [←HN.out];exact hlt);obtain⟨b,o,rfl,a0,a1,a2,a3⟩:=LV (Rk.out.ext Ac) AV;obtain⟨b',o',rfl,b0,b1,b2,b3⟩:=LV (JC.out.ext Ac) AV;generalize l[j]=x at *;have hj0:(0:Int)<=(j:Int):=(by omega);have Gh:(j:Int)<(n:Int):=(by omega);have v1:IntKind.wrap .i64 ((j:Int)+1)=(j:Int)+1:=AqQ _ (by omega);have q1:=Am5 x;clear AV
   go_upto_region 6 with fail
   go_quiet (fail)
   go_wp2;go_roundw
   case rel=>exact⟨j+1,by go_num,hlt,Ac.drewN _⟩
   case measure=>simp [intOf];omega
  ·have hle:(n:Int)<=(j:Int):=(by omega);go_wp2;go_ret;exact⟨rfl,Ac⟩
end Go.Proofs.YtjalkoacphhgdaaGreatDoor
namespace Go.Proofs.YtjalkoacphhgdaaGreatDoor
open Go.RowKit Kl
def XG:Array Value:=#[S [65],S [66],S [67],S [68],S [69],S [70]]
def pV(k:Nat)(s:Bs)(w:World)(e:Ending)(w':World):Prop:=∃g,e=.returned (.slice (some ⟨g,0,none⟩) 6 6)/\w'.cell? ⟨g,k,none⟩=some (S s)/\g<w'.heap.size/\Aa w w'
theorem Aka:∀k,k<6→XG[k]?=some (S (nm6 k)):=by
 intro k hk
 rcases(by omega:k=0∨k=1∨k=2∨k=3∨k=4∨k=5)with rfl|rfl|rfl|rfl|rfl|rfl<;>rfl
theorem Akb(k:Nat)(hk:k<6)(w:World):Calls Tryz.prog 53 #[] w (pV k (nm6 k) w):=by
 have hb:=AqJ w (.cells XG 9);have hE:=(Aa.refl w).alloc (.cells XG 9);have AS:pV k (nm6 k) w (.returned (.slice (some ⟨w.heap.size,0,none⟩) 6 6)) (w.alloc (.cells XG 9)):=⟨_,rfl,Ab hb (Aka k hk),AqI hb,hE⟩;have HF:=AqH AS;clear AS hb hE;go_enter Tryz.func53,Tryz.ntmps53;go_wp2;go_ret;exact HF.out
theorem AjA(x:La)(u:Bs)(b:Nat)(w:World)(hb:w.cell? ⟨b,0,none⟩=some (S u)) :
  Calls Tryz.prog 55 #[FN x,.pointer (some ⟨b,0,none⟩)] w (Bv (x.u == u) w):=by
 have hx:=(Aa.refl w).alloc (.cells #[S x.u,S x.mn,S x.mx] 31);have j1:=hx.cellS hb;unfold FN;clear hb;go_enter Tryz.func55,Tryz.ntmps55;go_wp2;go_ret;exact⟨rfl,hx⟩
theorem AeP:∀args w,(callFunc 55 args).run Tryz.prog w=.ok (.enter 55 args) w:=enters_of Tryz.func55 (by kernel_rfl) rfl
theorem AiU(l:List La)(x:La):Bo (l ++ [x])=Bo l ++ [S x.u,S x.mn,S x.mx]:=by unfold Bo;simp
theorem Tryz.infoLa:(Tryz.prog.info? 31).map (fun i=>(i.zero,i.size,i.bytes))=some (some (.agg #[S [],S [],S []]),3,48):=by kernel_rfl
section
variable {ops : Array Oper} {rest : List Oper} {o : Oper} {a : Act} {K : Act → World → Prop} {Q : Exit → Act → World → Prop} {E : Prop}
theorem Aox(s x:Operand)(ho:o.op=.call {callee:=.builtin .append,args:=#[s,x],argTypes:=#[32,32]})
  (wN:World) (base:Nat) (v:Value) (n:Nat) (l:List La) (hs:a.eval s=v) (hown:wN.ownsRow base 31 3 v n (Bo l)) (hn:n<200000) (d:La)
  (g:Nat) (hb:wN.heap[g]?=some (.cells #[S d.u,S d.mn,S d.mx] 31)) (hx:a.eval x=.slice (some ⟨g,0,none⟩) 1 1) (hbase:base<=wN.heap.size)
  (h:∀v' w',w'.ownsRow base 31 3 v' (n+1) (Bo (l ++ [d]))→(∀w0,Aa w0 wN→w0.heap.size<=base→Aa w0 w')→wN.grownBy w' v.ownBlock→K (a.put o.dst v') w') :
  o.wp Tryz.prog a wN K Q:=by
 obtain⟨i0,hi,hz0,hz1,hz2⟩:=info_parts Tryz.infoLa;refine QX s x 32 ho 31 i0 _ 3 48 Tryz.underlying32 hi hz0 hz1 hz2 rfl (by omega) (by omega) wN base v n _ hs hown hn g _ hb rfl ?_ hx hbase ?_
 ·intro u hu;simp only [List.mem_cons,AqV,or_false]at hu
  rcases hu with rfl|rfl|rfl<;>rfl
 ·intro v' w' h1 h2 h3;exact h v' w' (by rw [AiU];exact h1) h2 h3
theorem qS(hgd:o.guard=none)(s x:Operand)(ho:o.op=.call {callee:=.builtin .append,args:=#[s,x],argTypes:=#[32,32]})
  (wN:World) (base:Nat) (v:Value) (n:Nat) (l:List La) (hs:a.eval s=v) (hown:wN.ownsRow base 31 3 v n (Bo l)) (hn:n<200000) (d:La)
  (g:Nat) (hb:wN.heap[g]?=some (.cells #[S d.u,S d.mn,S d.mx] 31)) (hx:a.eval x=.slice (some ⟨g,0,none⟩) 1 1) (hbase:base<=wN.heap.size)
  (h:∀v' w',w'.ownsRow base 31 3 v' (n+1) (Bo (l ++ [d]))→(∀w0,Aa w0 wN→w0.heap.size<=base→Aa w0 w')→wpList Tryz.prog ops Q rest (a.put o.dst v') w') :
  wpList Tryz.prog ops Q (o::rest) a wN:=
 wpList_plain hgd fun _ hK=>Aox s x ho wN base v n l hs hown hn d g hb hx hbase fun v' w' h1 h2 _=>hK _ _ (h v' w' h1 h2)
end
section
open Go.Sort Go.Shelf
theorem Tryz.infoU8:(Tryz.prog.info? 5).map (fun i=>(i.zero,i.size,i.bytes))=some (some (.int .u8 0),1,1):=by kernel_rfl
theorem Ade(l:Bs):∀u∈l.map byV,u.oneCell'=true:=by
 intro u hu;obtain⟨b,-,rfl⟩:=List.mem_map.1 hu
 rfl
theorem AdA(l:Bs)(A:Option Addr)(cc:Nat)(w:World)(hr:Ad w A (l.map byV))(hlen:l.length<=140737488351233) :
  Calls Tryz.prog 52 #[.slice A l.length cc] w (fun e w'=>∃v,e=.returned v/\w'.ownsRow w.heap.size 5 1 v l.length (l.map byV)/\Aa w w'):=by
 cases A with
 | none=>
  have h0:l = []:=by
   refine Classical.byContradiction fun h=>?_;obtain⟨b,o,e,_⟩:=hr.ad (by rw [List.length_map];exact List.length_pos_iff.2 h)
   cases e
  subst h0;have hq:=fun W=>Lib.run_eql_slice_nil (P:=Tryz.prog) W 52 5 none 0 cc 0 0 Tryz.underlying52;clear hr;go_enter Tryz.func52,Tryz.ntmps52;go_wp2;go_ret;exact⟨_,rfl,⟨rfl,.inl ⟨rfl,rfl⟩⟩,Aa.refl _⟩
 | some a=>
  have hrow:=World.ownsRow_lit (base:=w.heap.size) (e:=5) (size:=1) w #[] 0 (AqK _) (by unfold maxLen;omega) rfl;have hE:=(Aa.refl w).alloc (.cells #[] 5)
  have hnews:∀j u,(l.map byV)[j]?=some u→(w.alloc (.cells #[] 5)).cell? (a.add j)=some u:=by
   intro j u hu;obtain⟨hj,Nq⟩:=List.getElem?_eq_some_iff.1 hu;obtain⟨b,o,e,hc⟩:=(hr.ext hE).ad (by omega)
   cases e;rw [Addr.add_lit,←Nq];exact hc j hj
  have h1c:=Ade l;obtain⟨i0,hi,hz0,hz1,hz2⟩:=info_parts Tryz.infoU8;have hq:=fun W=>Lib.run_eql_slice_nil (P:=Tryz.prog) W 52 5 (some a) l.length cc 0 0 Tryz.underlying52;clear hr;have HW:=AqH hrow;have HE:=AqH hE;have HN:=AqH hnews;clear hrow hE hnews;go_enter Tryz.func52,Tryz.ntmps52
  go_wp2_with (at_builtin;go_loud (refine wpList_append_own _ rfl _ _ 52 rfl w.heap.size 5 i0 (.int .u8 0) 1 1 Tryz.underlying52 hi hz0 hz1 hz2 rfl (by omega) (.slice (some ⟨w.heap.size,0,none⟩) 0 0) 0 [] rfl HW.out a l.length cc (l.map byV) rfl (by rw [List.length_map,Nat.mul_one]) HN.out h1c (by unfold maxLen;omega) (by omega) HE.out.size ?_);intro v9 w9 BQ FM fQ)
  go_ret;rw [Nat.zero_add,List.nil_append]at BQ;exact⟨_,rfl,BQ,HE.out.grown FM fun k hk=>by simp only [Value.ownBlock,AqO]at hk;omega⟩
end
end Go.Proofs.YtjalkoacphhgdaaGreatDoor
