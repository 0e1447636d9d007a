/- Y12: Lib Bld Fmt Int6 Int7. -/
import Derived.Test.YtjalkoacphhgdaaGreatDoorY11
import Derived.Test.YtjalkoacphhgdaaGreatDoorY03
import Derived.Lib.SmallJoins
import Derived.Lib.AppendIntMem
set_option maxRecDepth 100000
set_option maxHeartbeats 6400000
namespace Go.Proofs.YtjalkoacphhgdaaGreatDoor
open Go.RowKit Kl
structure An(w:World):Prop where
 shaped:w.ShapedOpen Tryz.prog
 pow:Lib.TabIs Tryz.prog w "internal/strconv.uint64pow10" .u64 Lib.pow10Tab
 syn:∃tp p,w.var? Tryz.prog "strconv.ErrSyntax" = some #[.iface tp p]
 rng:∃tp p,w.var? Tryz.prog "strconv.ErrRange" = some #[.iface tp p]
theorem iU{w w':World}{n:String}{cs:Array Value}(h:w.var? Tryz.prog n=some cs)(hx:Aa w w'):w'.var? Tryz.prog n=some cs:=by
 unfold World.var? at h ⊢
 cases hg:Tryz.prog.globalNamed n with
 | none=>rw [hg]at h;exact h
 | some g=>
  rw [hg]at h;simp only [Option.bind_some]at h ⊢
  have hlt:g<w.heap.size:=by
   by_cases hlt:g<w.heap.size
   ·exact hlt
   ·rw [Array.getElem?_eq_none (by omega)]at h;cases h
  rw [hx.block g hlt];exact h
theorem An.ext{w w':World}(h:An w)(hx:Aa w w'):An w':=by
 obtain⟨a,b,h1⟩:=h.syn;obtain⟨c,d,h2⟩:=h.rng;exact⟨h.shaped.keptBut (Below.frame hx fun _=>False) (fun _ h=>h.elim),iU h.pow hx,⟨a,b,iU h1 hx⟩,⟨c,d,iU h2 hx⟩⟩
theorem An.drewN{w:World}(h:An w)(n:Nat):An (w.drewN n):=h.ext ((Aa.refl w).drewN n)
def Bf(l:Bs)(w:World)(e:Ending)(w':World):Prop:=e=.returned (S l)/\Aa w w'
def Br(b:Bool)(w:World)(e:Ending)(w':World):Prop:=e=.returned (.bool b)/\Aa w w'
def Ce(v:Value)(w:World)(e:Ending)(w':World):Prop:=e=.returned v/\Aa w w'
theorem ext_eq{w w':World}(h:w'=w):Aa w w':=h▸Aa.refl w
theorem tB(s p:Bs)(w:World):Calls Tryz.prog 279 #[S s,S p] w (Br (p.isPrefixOf s) w):=
 (Tryz.strings_HasPrefix _ _ w).mono fun _ _ ⟨h1,h2⟩=>⟨h1,ext_eq h2⟩
theorem mq(s p:Bs)(w:World):Calls Tryz.prog 222 #[S s,S p] w (Bf (Lib.trimPrefix s p) w):=
 (Tryz.strings_TrimPrefix _ _ w).mono fun _ _ ⟨h1,h2⟩=>⟨h1,ext_eq h2⟩
theorem QX(s p:Bs)(w:World):Calls Tryz.prog 277 #[S s,S p] w (Ce (.tuple #[S (Lib.trimPrefix s p),.bool (p.isPrefixOf s)]) w):=
 (Tryz.strings_CutPrefix _ _ w).mono fun _ _ ⟨h1,h2⟩=>⟨h1,ext_eq h2⟩
theorem nS(s p:Bs)(w:World):Calls Tryz.prog 100 #[S s,S p] w (Az (Lib.compareBytes s p) w):=
 (Tryz.strings_Compare _ _ w).mono fun _ _ ⟨h1,h2⟩=>⟨h1,ext_eq h2⟩
theorem Je(l:Bs):(⟨l.toArray⟩:ByteArray).size=l.length:=by simp [ByteArray.size]
theorem cut_c(s p:Bs)(w:World)(hw:An w)(hs:s.length<4294967281) :
  Calls Tryz.prog 218 #[S s,S p] w (Ce (.tuple #[S (Lib.cut s p).1,S (Lib.cut s p).2.1,.bool (Lib.cut s p).2.2]) w):=
 (Tryz.strings_Cut_shaped _ _ w hw.shaped (by rw [Je];exact hs)).mono fun _ _ ⟨h1,n,h2⟩=>⟨h1,h2▸(Aa.refl w).drewN n⟩
theorem pR(w:World)(k:Nat)(os:Array Obj):Aa w (Go.Sort.grow (w.drewN k) os):=
 ⟨rfl,rfl,rfl,by simp [Go.Sort.grow],fun i hi=>by simp only [Go.Sort.grow,World.heap_drewN];rw [Array.getElem?_append_left hi]⟩
theorem PG(n:Int)(h0:-9223372036854775808<=n)(h1:n<=9223372036854775807)(w:World)(hw:An w):Calls Tryz.prog 90 #[.int .i64 n] w (Bf (I n) w):=
 (Tryz.strconv_Itoa n h0 h1 w hw.pow).mono fun _ _ ⟨h1,k,os,h2⟩=>⟨h1,h2▸pR w k os⟩
theorem pQ(w:World)(t:ByteArray):Aa w (Lib.bytesWorld w 5 t):=Go.Joins.below_bytesWorld _ w 5 t (AmC _)
theorem Wu{w:World}{base:Nat}{e:TypeId}{size n:Nat}{v:Value}{xs:List Value}(h:w.ownsRow base e size v n xs):∀k,v.ownBlock=some k→∃c fz,w.heap[k]?=some (.cells c e fz):=by
 intro k hk
 rcases h.2 with⟨rfl,_⟩|⟨g,cap,cur,rfl,_,hg,_⟩
 ·simp [Value.ownBlock]at hk
 ·simp [Value.ownBlock]at hk;subst hk;exact⟨_,_,hg⟩
theorem mI:(Tryz.prog.info? 330).map (·.size)=some 2:=by kernel_rfl
theorem zo:liesAt Tryz.prog Tryz.prog.depth 330 (2/Tryz.prog.cellsOf 330) 0 330 1=true:=by kernel_rfl
theorem mT:(Tryz.prog.info? 5).map (fun i=>(i.zero,i.size,i.bytes))=some (some (.int .u8 0),1,1):=by kernel_rfl
theorem zt(b:Nat)(w:World)(h0:w.cell? ⟨b,0,none⟩=some (.pointer (some ⟨b,0,none⟩))) :
  Calls Tryz.prog 339 #[.pointer (some ⟨b,0,none⟩)] w fun e w'=>e=.returned (.tuple #[])/\w'=w:=by
 obtain⟨j,hj,_⟩:=Option.map_eq_some_iff.1 mI;go_enter Tryz.func339,Tryz.ntmps339;go_wp2;rw [Lib.run_neq_ptr_same w _ Tryz.underlying328 hj];go_wp2
 go_end0
 exact⟨rfl,rfl⟩
theorem zq(b:Nat)(w:World)(h0:w.cell? ⟨b,0,none⟩=some (.pointer none))(M7:w.shape? b=some (330,2))(hfz:w.frozen? ⟨b,0,none⟩=false) :
  Calls Tryz.prog 339 #[.pointer (some ⟨b,0,none⟩)] w fun e w'=>e=.returned (.tuple #[])/\w'=w.setCell ⟨b,0,none⟩ (.pointer (some ⟨b,0,none⟩)):=by
 obtain⟨j,hj,FO⟩:=Option.map_eq_some_iff.1 mI;go_enter Tryz.func339,Tryz.ntmps339;go_wp2;rw [Lib.run_to_unsafe w ⟨b,0,none⟩ Tryz.underlying328 Tryz.underlying383 hj (by rw [FO];decide) M7 (Nat.zero_lt_succ 1)];simp only [Result.andThen];rw [Oper.upon_value];go_wp2;rw [run_callFunc_extern Tryz.func362 (by kernel_rfl) (by kernel_rfl) (by kernel_rfl) (e:=Extern.AbiNoEscape.same) (by kernel_rfl)];rw [Lib.run_noEscape];simp only [Result.andThen];rw [Oper.upon_value];go_wp2;rw [Lib.run_from_unsafe w ⟨b,0,none⟩ Tryz.underlying383 Tryz.underlying328 hj M7 zo];simp only [Result.andThen];rw [Oper.upon_value];go_wp2
 go_end0
 exact⟨rfl,rfl⟩
abbrev Ff(B b:Nat)(bs:List Value)(w:World):Prop:=Lib.IsBuilder 330 5 B b bs w
theorem mJ(B b:Nat)(bs:List Value)(w:World)(h:Ff B b bs w) :
  Calls Tryz.prog 339 #[.pointer (some ⟨b,0,none⟩)] w fun e w'=>e=.returned (.tuple #[])/\(Lib.BuilderAt 330 5 B b (.pointer (some ⟨b,0,none⟩)) bs w'/\Below B w w'/\Lib.OthersKept 5 (some b) w w'):=by
 rcases h with h|h
 ·refine(zq b w h.cell0 h.shape h.frozen0).mono ?_;rintro e w' ⟨rfl,rfl⟩;exact⟨rfl,h.used _,(Below.refl B w).setCell (p:=⟨b,0,none⟩) h.1 _,(Lib.OthersKept.refl _ (some b) w).setCell ⟨b,0,none⟩ rfl _⟩
 ·refine(zt b w h.cell0).mono ?_;rintro e w' ⟨rfl,rfl⟩;exact⟨rfl,h,Below.refl B _,Lib.OthersKept.refl _ _ _⟩
theorem Ak3(B b:Nat)(bs:List Value)(c:Int)(w:World)(h:Ff B b bs w)(hlen:bs.length+1<=140737488355328)(Zh:B<=w.heap.size) :
  Calls Tryz.prog 283 #[.pointer (some ⟨b,0,none⟩),.int .u8 c] w fun e w'=>e=.returned .nilIface/\(Ff B b (bs ++ [.int .u8 c]) w'/\Below B w w'/\Lib.OthersKept 5 (some b) w w'):=by
 obtain⟨i0,hi,hz0,hz1,hz2⟩:=info_parts mT;go_enter Tryz.func283,Tryz.ntmps283
 go_wp2_with (go_at_call 339;refine(mJ B b bs _ h).mono ?_)
 rintro e w1 ⟨rfl,h1,hb1,ho1⟩;obtain⟨hB,v,ID,hown,hne⟩:=h1;have c0:w1.cell? ⟨b,0,none⟩=some (.pointer (some ⟨b,0,none⟩)):=(by rw [Lib.cell_of_heap ID];rfl);have c1:w1.cell? ⟨b,1,none⟩=some v:=by rw [Lib.cell_of_heap ID];rfl
 go_wp2_with (at_builtin;refine wpList_append_own _ rfl _ _ 52 rfl B 5 i0 (.int .u8 0) 1 1 Tryz.underlying52 hi hz0 hz1 hz2 rfl (by decide) _ _ _ rfl (hown.alloc _) ⟨w1.heap.size,0,none⟩ 1 1 [.int .u8 c] rfl rfl ?c1 ?c2 ?c3 ?c4 ?c5 ?_)
 case c1=>
  intro j u hj
  match j,hj with
  | 0,hj=>simp at hj;subst hj;simp [Addr.add]
 case c2=>intro u hu;simp at hu;subst hu;rfl
 case c3=>unfold maxLen;omega
 case c4=>omega
 case c5=>have:=hb1.size;simp;omega
 intro v' w2 hown' hgrow _
 have hlt:b<w1.heap.size:=by
  rcases Nat.lt_or_ge b w1.heap.size with h'|h'
  ·exact h'
  ·simp [Array.getElem?_eq_none h']at ID
 have hb2:w2.heap[b]?=some (.cells #[.pointer (some ⟨b,0,none⟩),v] 330 (0,0)):=by rw [hgrow.block b (by simp;omega) (fun e=>hne e.symm),Lib.alloc_old w1 _ b hlt];exact ID
 have d0:w2.cell? ⟨b,0,none⟩=some (.pointer (some ⟨b,0,none⟩)):=(by rw [Lib.cell_of_heap hb2];rfl);have d1:w2.cell? ⟨b,1,none⟩=some v:=(by rw [Lib.cell_of_heap hb2];rfl);have f1:w2.frozen? ⟨b,1,none⟩=false:=Lib.frozen_of_heap hb2 1
 obtain⟨g,cap,rfl⟩:∃g cap,v'=.slice (some ⟨g,0,none⟩) (bs.length+1) cap:=by
  rcases hown'.2 with⟨_,h0⟩|⟨g,cap,cur,hv,_⟩
  ·omega
  ·exact⟨g,cap,hv⟩
 go_wp2;go_ret;refine⟨rfl,.inr ?_,?_,?_⟩
 ·exact Lib.BuilderAt.put (T:=330) (e:=5) hB hb2 (bs':=bs ++ [.int .u8 c]) (by simpa using hown') (by decide)
 ·exact((hb1.alloc (by have:=hb1.size;omega) _).grown hgrow (by have:=hb1.size;simp;omega) (fun k hk=>(hown.lt k hk).1)).setCell (p:=⟨b,1,none⟩) hB _
 ·exact((ho1.alloc _).grown hgrow (Wu (hown.alloc _))).setCell ⟨b,1,none⟩ rfl _
theorem Qp(B b:Nat)(bs:List Value)(s:ByteArray)(w:World)(h:Ff B b bs w)(hlen:bs.length+s.size<=140737488355328)(Zh:B<=w.heap.size) :
  Calls Tryz.prog 286 #[.pointer (some ⟨b,0,none⟩),.string s] w fun e w'=>e=.returned (.tuple #[.int .i64 s.size,.nilIface])/\(Ff B b (bs++Lib.strCells s) w'/\Below B w w'/\Lib.OthersKept 5 (some b) w w'):=by
 obtain⟨i0,hi,hz0,hz1,hz2⟩:=info_parts mT;go_enter Tryz.func286,Tryz.ntmps286
 go_wp2_with (go_at_call 339;refine(mJ B b bs _ h).mono ?_)
 rintro e w1 ⟨rfl,h1,hb1,ho1⟩;obtain⟨hB,v,ID,hown,hne⟩:=h1;have c0:w1.cell? ⟨b,0,none⟩=some (.pointer (some ⟨b,0,none⟩)):=(by rw [Lib.cell_of_heap ID];rfl);have c1:w1.cell? ⟨b,1,none⟩=some v:=by rw [Lib.cell_of_heap ID];rfl
 go_wp2_with (at_builtin;refine Lib.wpList_append_own_string _ rfl _ _ 52 9 rfl B 5 i0 Tryz.underlying52 Tryz.underlying9 hi hz0 hz1 hz2 _ _ _ rfl hown s rfl ?c3 ?c4 ?c5 ?_)
 case c3=>unfold maxLen;omega
 case c4=>omega
 case c5=>have:=hb1.size;omega
 intro v' w2 hown' hgrow _
 have hlt:b<w1.heap.size:=by
  rcases Nat.lt_or_ge b w1.heap.size with h'|h'
  ·exact h'
  ·simp [Array.getElem?_eq_none h']at ID
 have hb2:w2.heap[b]?=some (.cells #[.pointer (some ⟨b,0,none⟩),v] 330 (0,0)):=by rw [hgrow.block b hlt (fun e=>hne e.symm)];exact ID
 have d0:w2.cell? ⟨b,0,none⟩=some (.pointer (some ⟨b,0,none⟩)):=(by rw [Lib.cell_of_heap hb2];rfl);have d1:w2.cell? ⟨b,1,none⟩=some v:=(by rw [Lib.cell_of_heap hb2];rfl);have f1:w2.frozen? ⟨b,1,none⟩=false:=Lib.frozen_of_heap hb2 1
 obtain⟨ao,n',cap,rfl⟩:∃ao n' cap,v'=.slice ao n' cap:=by
  rcases hown'.2 with⟨hv,_⟩|⟨g,cap,cur,hv,_⟩
  ·exact⟨_,_,_,hv⟩
  ·exact⟨_,_,_,hv⟩
 go_wp2;go_ret2;refine⟨rfl,.inr ?_,?_,?_⟩
 ·exact Lib.BuilderAt.put (T:=330) (e:=5) hB hb2 (bs':=bs++Lib.strCells s) (by simpa [Lib.strCells_length]using hown') (by decide)
 ·exact(hb1.grown hgrow (by have:=hb1.size;omega) (fun k hk=>(hown.lt k hk).1)).setCell (p:=⟨b,1,none⟩) hB _
 ·exact(ho1.grown hgrow (Wu hown)).setCell ⟨b,1,none⟩ rfl _
end Go.Proofs.YtjalkoacphhgdaaGreatDoor
namespace Go.Proofs.YtjalkoacphhgdaaGreatDoor
open Go.RowKit Kl Go.Lib Go.Sort
theorem Ach(u:Nat)(NU:u<18446744073709551616)(w:World)(hw:An w):Calls Tryz.prog 341 #[.int .u64 u,.int .i64 10] w (Bf (D u) w):=by
 have htab:=hw.pow;by_cases hs:u<100
 ·go_enter Tryz.func341,Tryz.ntmps341
  go_wp2_with (go_at_call 294;refine(Tryz.internal_strconv_small u hs _).mono ?_;rintro e w' ⟨rfl,rfl⟩)
  go_ret;exact⟨rfl,Aa.refl _⟩
 ·have hu1:1<=u:=(by omega);have AlN:Lib.nDigits u<=20:=(by have:=Lib.numDigits_eq u hu1 NU;split at this<;>omega);have hb3:Lib.nDigits u<=23:=(by omega);have FD:Tryz.prog.arrayLen 344=24:=by simp [Program.arrayLen,Tryz.underlying344]
  have Ama:∀W,(Instr.sliceAt 344 (.pointer (some ⟨w.heap.size,0,none⟩)) none (some (.int .i64 (Lib.nDigits u:Int))) none).run Tryz.prog W=.ok (.slice (some ⟨w.heap.size,0,none⟩) (Lib.nDigits u) 24) W:=fun W=>by
   rw [run_sliceAt_array_h W 344 ⟨w.heap.size,0,none⟩ (by simp [Program.arrayLen,Program.elem,Tryz.underlying344]) .i64 (Lib.nDigits u:Int) (by omega) (by rw [FD];omega)]
   go_simp
  have Zk:Holds (fun (b:UInt8)=>Value.int .u8 (b.toNat:Int)) (w.alloc (.cells Lib.zeros24 344)) w.heap.size 0 (Array.replicate (Lib.nDigits u) 0):=Lib.holds_zero0 w _ _ (by omega);have uX:=Tryz.internal_strconv_formatBase10 w.heap.size 0 24 u (Array.replicate (Lib.nDigits u) 0) (w.alloc (.cells Lib.zeros24 344)) Zk (by rw [Array.size_replicate];exact Lib.lt_pow_nDigits u) NU (by rw [Array.size_replicate];omega);rw [Array.size_replicate]at uX;have qy:=Am9 Zk;clear Zk FD;go_enter Tryz.func341,Tryz.ntmps341
  go_wp2_with (go_at_call 295;refine(Tryz.internal_strconv_numDigits u hu1 NU _ (Lib.tabIs_alloc htab _)).mono ?_;rintro e w' ⟨rfl,rfl⟩)
  go_at_call 296
  refine uX.mono ?_;rintro e w' ⟨rfl,k,v',dk,rfl,hF⟩
  have hcv:(convert 52 9 (.slice (some ⟨w.heap.size,0,none⟩) (Lib.nDigits u) 24)).run Tryz.prog ((putRow (fun (b:UInt8)=>Value.int .u8 (b.toNat:Int)) (w.alloc (.cells Lib.zeros24 344)) w.heap.size 0 dk).drewN k)=.ok (.string ⟨(Lib.decDigits u).toArray⟩) ((putRow (fun (b:UInt8)=>Value.int .u8 (b.toNat:Int)) (w.alloc (.cells Lib.zeros24 344)) w.heap.size 0 dk).drewN k):=by
   have h:=run_convert_bytes_back (P:=Tryz.prog) ((putRow (fun (b:UInt8)=>Value.int .u8 (b.toNat:Int)) (w.alloc (.cells Lib.zeros24 344)) w.heap.size 0 dk).drewN k) 52 9 5 ⟨w.heap.size,0,none⟩ 24 (Lib.decDigits u) Tryz.underlying52 Tryz.underlying5 Tryz.underlying9 (fun j hj=>by
    rw [Lib.row_is_numeral hF j hj,Lib.add_plain,World.cell?_drewN]
    exact cell?_putRow (fun (b:UInt8)=>Value.int .u8 (b.toNat:Int)) _ w.heap.size 0 _ dk qy.out (by rw [hF.size,Array.size_replicate]) j (by rw [hF.size];rw [Lib.decDigits_length]at hj;exact hj))
   rw [Lib.decDigits_length]at h;exact h
  go_wp2;go_ret;obtain⟨os,eo⟩:=Lib.fin_at w (.cells Lib.zeros24 344) dk k 0;exact⟨rfl,eo▸pR w k os⟩
theorem qN(u:Nat)(NU:u<18446744073709551616)(w:World)(hw:An w):Calls Tryz.prog 285 #[.int .u64 u,.int .i64 10] w (Bf (D u) w):=by
 go_enter Tryz.func285,Tryz.ntmps285;(go_wp2_with fail);refine(Ach u NU _ hw).mono ?_;rintro e w1 ⟨rfl,hx⟩;go_wp2;go_ret;exact⟨rfl,hx⟩
/-! ### Parsing -/
theorem Akc(a:Nat)(r:Bs):a<=Do a r:=by
 rw [nk];have:a*1<=a*10^r.length:=Nat.mul_le_mul_left _ (Nat.one_le_pow _ _ (by omega));omega
theorem fM(m:Nat)(hm:m<18446744073709551616):∀(l:Bs) (acc:Nat),B9 l→Lib.parseUintM m acc l=if l = []∨Do acc l<=m then .ok (Do acc l)else .range
 | [],acc,_=>by simp [Lib.parseUintM,Do]
 | c::r,acc,h=>by
  rw [Uc]at h;have hc:48<=c.toNat/\c.toNat<=57:=h.1;have hd:=YE h.1;rw [iS];have h1:=Akc (acc*10+dv c) r;have ih:=fM m hm r (acc*10+dv c) h.2;have e:c.toNat-48=dv c:=rfl;rw [Lib.parseUintM,if_pos hc,e];by_cases h2:1844674407370955162<=acc
  ·rw [if_pos h2,if_neg (by simp;omega)]
  ·rw [if_neg h2];by_cases h3:m<acc*10+dv c
   ·rw [if_pos h3,if_neg (by simp;omega)]
   ·rw [if_neg h3,ih];by_cases h4:Do (acc*10+dv c) r<=m
    ·rw [if_pos (.inr h4),if_pos (.inr h4)]
    ·rw [if_neg (by simp;exact⟨fun e=>h4 (by rw [e];simpa [Do]using h3),by omega⟩),if_neg (by simp;omega)]
theorem gu:∀(l:Bs) (acc:Nat),Lib.parseUint10 acc l=Lib.parseUintM 18446744073709551615 acc l
 | [],acc=>rfl
 | c::r,acc=>by
  rw [Lib.parseUint10,Lib.parseUintM,gu r];by_cases h:48<=c.toNat/\c.toNat<=57
  ·rw [if_pos h,if_pos h];by_cases h2:1844674407370955162<=acc
   ·rw [if_pos h2,if_pos h2]
   ·rw [if_neg h2,if_neg h2];by_cases h3:18446744073709551616<=acc*10+(c.toNat-48)
    ·rw [if_pos h3,if_pos (by omega)]
    ·rw [if_neg h3,if_neg (by omega)]
  ·rw [if_neg h,if_neg h]
theorem Ahs{l:Bs}(hne:l≠[])(h:B9 l)(hv:val l<18446744073709551616):Lib.parseUintB 64 l=.ok (val l):=by
 unfold Lib.parseUintB;rw [if_neg hne,fM _ (by omega) l 0 h,if_pos (.inr (by show val l<=18446744073709551615;omega))]
 rfl
theorem gy(l:Bs)(hne:l≠[])(h:B9 l)(hv:val l<18446744073709551616)(hl:l.length<1000000)(w:World) :
  Calls Tryz.prog 281 #[S l,.int .i64 10,.int .i64 64] w (Ce (.tuple #[.int .u64 (val l:Nat),.nilIface]) w):=
 (Tryz.strconv_ParseUint_10_at64_ok _ (by rw [Je];omega) (val l) (Ahs hne h hv) w).mono fun _ _ ⟨h1,h2⟩=>⟨h1,by rcases h2 with rfl|rfl;exact Aa.refl _;exact pQ w _⟩
theorem ox(n:Nat):∃c r,D n=c::r/\¬(c.toNat=43∨c.toNat=45)/\c.toNat≠45:=by
 match hd:D n,L9 n with
 | c::r,_=>have:=D4 n c (by rw [hd];simp);have h1:=this.1;exact⟨c,r,rfl,by omega,by omega⟩
theorem gw(n:Nat):Lib.parseMag (D n)=if n<18446744073709551616 then .ok n else .range:=by
 unfold Lib.parseMag;rw [if_neg (L9 n),gu,fM _ (by omega) _ 0 (D4 n)];have e:Do 0 (D n)=n:=It n;rw [e];by_cases h:n<18446744073709551616
 ·rw [if_pos h,if_pos (.inr (by omega))]
 ·rw [if_neg h,if_neg (by simp;exact⟨L9 n,by omega⟩)]
theorem yu(z:Int):Lib.atoiAll (I z)=if -9223372036854775808<=z/\z<=9223372036854775807 then .ok z else .range:=by
 rcases DK z with⟨n,rfl,e⟩|⟨n,hn,rfl,e⟩
 ·obtain⟨c,r,hd,h1,h2⟩:=ox n;have hp:=gw n;rw [e];rw [hd]at hp ⊢;unfold Lib.atoiAll;simp only [if_neg h1,hp];by_cases h:n<18446744073709551616
  ·rw [if_pos h];simp only [h2,not_false_eq_true,true_and,false_and,if_false];by_cases h3:9223372036854775808<=n
   ·rw [if_pos h3,if_neg (by omega)]
   ·rw [if_neg h3,if_pos (by omega)]
  ·rw [if_neg h];rw [if_neg (by omega)]
 ·have hp:=gw n;rw [e];unfold Lib.atoiAll;have h45:(45:UInt8).toNat=45:=rfl;simp only [h45,or_true,if_true,hp];by_cases h:n<18446744073709551616
  ·rw [if_pos h];simp only [not_true_eq_false,true_and,false_and,if_false];by_cases h3:9223372036854775808<n
   ·rw [if_pos h3,if_neg (by omega)]
   ·rw [if_neg h3,if_pos (by omega)]
  ·rw [if_neg h];rw [if_neg (by omega)]
theorem Nj{z:Int}{k:Nat}(hk:0<k)(h:z.natAbs<10^k):(I z).length<=k+1:=by
 rcases DK z with⟨n,rfl,e⟩|⟨n,hn,rfl,e⟩
 ·rw [e];have:=GY hk (n:=n) (by simpa using h);omega
 ·rw [e,List.length_cons];have:=GY hk (n:=n) (by simpa using h);omega
theorem AbM{w w':World}(h:w'=w∨∃t,w'=Lib.bytesWorld w 5 t):Aa w w':=by
 rcases h with rfl|⟨t,rfl⟩
 ·exact Aa.refl _
 ·exact pQ w _
theorem Yl(z:Int)(h0:-9223372036854775808<=z)(h1:z<=9223372036854775807)(w:World) :
  Calls Tryz.prog 159 #[S (I z)] w (Ce (.tuple #[.int .i64 z,.nilIface]) w):=
 (Tryz.strconv_Atoi_ok _ (by have:=Nj (z:=z) (k:=20) (by omega) (by omega);rw [Je];omega) z (by show Lib.atoiAll (I z)=_;rw [yu,if_pos ⟨h0,h1⟩]) w).mono fun _ _ ⟨h1,h2⟩=>⟨h1,AbM h2⟩
end Go.Proofs.YtjalkoacphhgdaaGreatDoor
namespace Go.Proofs.YtjalkoacphhgdaaGreatDoor
open Go.RowKit Kl
theorem zA(n:Nat):[45].isPrefixOf (D n)=false:=by
 match hd:D n,L9 n with
 | c::r,_=>have:=(D4 n c (by rw [hd];simp)).1;simp only [List.isPrefixOf,Bool.and_true];rw [beq_eq_false_iff_ne];rintro rfl;exact absurd this (by decide)
theorem zC(l:Bs):[45].isPrefixOf (45::l)=true:=by simp [List.isPrefixOf]
theorem AjQ(n:Nat):Lib.trimPrefix (D n) [45]=D n:=by unfold Lib.trimPrefix Lib.hasPrefix;rw [zA];rfl
theorem AjR(l:Bs):Lib.trimPrefix (45::l) [45]=l:=by unfold Lib.trimPrefix Lib.hasPrefix;rw [zC];rfl
theorem mo(z:Int):Lib.trimPrefix (I z) [45]=D z.natAbs:=by
 rcases DK z with⟨n,rfl,e⟩|⟨n,_,rfl,e⟩
 ·rw [e,AjQ];simp
 ·rw [e,AjR];simp
theorem zB(z:Int):[45].isPrefixOf (I z)=decide (z<0):=by
 rcases DK z with⟨n,rfl,e⟩|⟨n,_,rfl,e⟩
 ·rw [e,zA];symm;rw [decide_eq_false_iff_not];omega
 ·rw [e,zC];symm;rw [decide_eq_true_eq];omega
theorem Q7:I 0 = [48]:=by rw [show (0:Int)=((0:Nat):Int)from rfl,Ef,Fg (by omega)];rfl
theorem vh{z:Int} : I z = [48]↔z=0:=by
 constructor
 ·intro h;exact O2 (by rw [h,Q7])
 ·rintro rfl;exact Q7
theorem Q6:I 1 = [49]:=by rw [show (1:Int)=((1:Nat):Int)from rfl,Ef,Fg (by omega)];rfl
theorem vg{z:Int} : I z = [49]↔z=1:=by
 constructor
 ·intro h;exact O2 (by rw [h,Q6])
 ·rintro rfl;exact Q6
theorem Q5{z:Int}(h:z≠0):(I z == [48])=false:=by rw [beq_eq_false_iff_ne];exact fun e=>h (vh.1 e)
theorem kT{z:Int}(h:z≠1):(I z == [49])=false:=by rw [beq_eq_false_iff_ne];exact fun e=>h (vg.1 e)
def AC(z:Int):Prop:=z.natAbs<Big
theorem AC.len{z:Int}(h:AC z):(I z).length<=4001:=Nj (k:=Ui) (by decide) h
def Fa(z:Int):Int:=if z=0 then 0 else if z<0 then -1 else 1
theorem AiO{z:Int}(h:z=0):Fa z=0:=by unfold Fa;rw [if_pos h]
theorem kj{z:Int}(h:z<0):Fa z = -1:=by unfold Fa;rw [if_neg (by omega),if_pos h]
theorem iD{z:Int}(h:0<z):Fa z=1:=by unfold Fa;rw [if_neg (by omega),if_neg (by omega)]
theorem PE(z:Int)(w:World):Calls Tryz.prog 221 #[S (I z)] w (Az (Fa z) w):=by
 by_cases h0:z=0
 ·subst h0;rw [Q7];go_enter Tryz.func221,Tryz.ntmps221;go_wp2;go_ret;exact⟨rfl,Aa.refl _⟩
 ·have h1:=Q5 h0;have hp:=zB z;by_cases hn:z<0
  ·rw [decide_eq_true hn]at hp;go_enter Tryz.func221,Tryz.ntmps221
   go_wp2_with (go_at_call 279;refine(tB (I z) [45] _).mono ?_;rintro e w1 ⟨rfl,hx1⟩)
   go_ret;exact⟨AN (kj hn),hx1⟩
  ·rw [decide_eq_false hn]at hp;go_enter Tryz.func221,Tryz.ntmps221
   go_wp2_with (go_at_call 279;refine(tB (I z) [45] _).mono ?_;rintro e w1 ⟨rfl,hx1⟩)
   go_ret;exact⟨AN (iD (by omega)),hx1⟩
theorem vk{z:Int} : (z=0→I (-z)=I z)/\(0<z→I (-z)=45::I z)/\(z<0→I z=45::I (-z)):=by
 refine⟨fun h=>by rw [h];rfl,fun h=>?_,fun h=>?_⟩
 ·rcases DK z with⟨n,rfl,e⟩|⟨n,hn,rfl,e⟩
  ·rw [e,TO n (by omega)]
  ·omega
 ·rcases DK z with⟨n,rfl,e⟩|⟨n,hn,rfl,e⟩
  ·omega
  ·rw [e,Int.neg_neg,Ef]
theorem yQ(z:Int)(hb:AC z)(w:World):Calls Tryz.prog 303 #[S (I z)] w (Bf (I (-z)) w):=by
 obtain⟨e0,e1,e2⟩:=vk (z:=z)
 rcases Int.lt_trichotomy z 0 with h|h|h
 ·rw [e2 h];have hs:=PE z;rw [kj h,e2 h]at hs;clear e0 e1 e2;go_enter Tryz.func303,Tryz.ntmps303
  go_wp2_with (go_at_call 221;((with_reducible refine(hs _).mono ?_);rintro e w1 ⟨rfl,hx1⟩))
  go_ret;exact⟨Il (by rw [Ri];simp),hx1⟩
 ·subst h;have hs:=PE 0;rw [AiO rfl]at hs;clear e0 e1 e2;go_enter Tryz.func303,Tryz.ntmps303
  go_wp2_with (go_at_call 221;((with_reducible refine(hs _).mono ?_);rintro e w1 ⟨rfl,hx1⟩))
  go_ret;exact⟨rfl,hx1⟩
 ·rw [e1 h];have hs:=PE z;rw [iD h]at hs;have Vu:=hb.len;clear e0 e1 e2;go_enter Tryz.func303,Tryz.ntmps303
  go_wp2_with (go_at_call 221;((with_reducible refine(hs _).mono ?_);rintro e w1 ⟨rfl,hx1⟩))
  go_ret;exact⟨Il (by apply ByteArray.ext;simp),hx1⟩
theorem dL(z:Int)(h0:-9223372036854775808<=z)(h1:z<=9223372036854775807)(w:World)(hw:An w):Calls Tryz.prog 224 #[.int .i64 z] w (Bf (I z) w):=by
 have hi:=PG z h0 h1 w hw;clear h0 h1;go_enter Tryz.func224,Tryz.ntmps224
 go_wp2_with (go_at_call 90;((with_reducible refine hi.mono ?_);rintro e w1 ⟨rfl,hx1⟩))
 go_ret;exact⟨rfl,hx1⟩
def Og(z:Int)(k:Nat):Value:=if (I z).length<=k then .tuple #[.int .i64 z,.bool true] else .tuple #[.int .i64 0,.bool false]
theorem ja(z:Int)(k:Nat)(hk:k<=18)(w:World):Calls Tryz.prog 223 #[S (I z),.int .i64 (k:Nat)] w (Ce (Og z k) w):=by
 by_cases h:(I z).length<=k
 ·have hz:z.natAbs<10^18:=by
   rcases DK z with⟨n,rfl,e⟩|⟨n,hn,rfl,e⟩
   ·rw [e]at h;simpa using Li (n:=n) (k:=18) (by omega)
   ·rw [e,List.length_cons]at h;simpa using Li (n:=n) (k:=18) (by omega)
  have ha:=Yl z (by omega) (by omega) w;have hq:Og z k=.tuple #[.int .i64 z,.bool true]:=if_pos h;rw [hq];clear hz hq;go_enter Tryz.func223,Tryz.ntmps223
  go_wp2_with (go_at_call 159;((with_reducible refine ha.mono ?_);rintro e w1 ⟨rfl,hx1⟩))
  go_quiet (fail)
  go_wp2;go_ret2;exact⟨rfl,hx1.drewN _⟩
 ·have hq:Og z k=.tuple #[.int .i64 0,.bool false]:=if_neg h;rw [hq];have h':k<(I z).length:=(by omega);clear hq h;go_enter Tryz.func223,Tryz.ntmps223;go_wp2;go_ret2;exact⟨rfl,Aa.refl _⟩
attribute [local go_sem] YM pS
theorem own_base{w:World}{base:Nat}{e:TypeId}{size n:Nat}{v:Value}{xs:List Value}(h:w.ownsRow base e size v (n+1) xs):base<=w.heap.size:=by
 rcases h.2 with⟨_,h0⟩|⟨g,cap,cur,rfl,hb,hg,_⟩
 ·omega
 ·have:=(Array.getElem?_eq_some_iff.1 hg).1;omega
theorem BE.setCell{w:World}{A:Option Addr}{c:Nat}{l:List Nat}(h:BE w A c l){p:Addr}{v u:Value}(hp:w.cell? p=some v)(hv:∀n,v≠.int .u64 n):BE (w.setCell p u) A c l:=
 ⟨h.cap,h.max,h.len,fun h0=>by
  obtain⟨b,o,e,hc⟩:=h.ad h0;refine⟨b,o,e,fun j hj=>?_⟩
  have hne:p≠⟨b,o+j,none⟩:=by rintro rfl;rw [hc j hj]at hp;exact hv _ (Option.some.inj hp).symm
  rw [World.cell?_setCell_other _ _ _ _ hne]
  exact hc j hj⟩
structure Nk(n:Nat)(s:Bs)(o:List Nat):Prop where
 all:B9 s
 lt:∀x∈o,x<1000000000
 len:s.length+o.length<=4001
 sum:n=val s*1000000000^o.length+Ag 1000000000 o
theorem Nk.start{n:Nat}(h:(D n).length<=4001):Nk n (D n) []:=⟨D4 n,by simp,by simpa using h,by simp [Ag,It]⟩
theorem Nk.step{n k:Nat}{s:Bs}{o:List Nat}(h:Nk n s o)(hk:k<s.length)(NN:k+9=s.length∨(k=0/\s.length<9)):Nk n (s.take k) (o ++ [val (s.drop k)])/\B9 (s.drop k)/\s.drop k≠[]/\val (s.drop k)<1000000000:=by
 have hd:=lP h.all k;have hv:=JX hd;have IH:(s.drop k).length<=9:=(by rw [List.length_drop];omega);have hp:10^(s.drop k).length<=10^9:=Nat.pow_le_pow_right (by omega) IH
 have JH:val (s.drop k)<1000000000:=by have e:(10:Nat)^9=1000000000:=(by decide);omega
 refine⟨⟨Yb h.all k,?_,?_,?_⟩,hd,?_,JH⟩
 ·intro x hx
  rcases List.mem_append.1 hx with hx|hx
  ·exact h.lt x hx
  ·simp at hx;subst hx;exact JH
 ·have:=h.len;rw [List.length_take,List.length_append,List.length_singleton];omega
 ·have hs:val s=val (s.take k)*10^(s.drop k).length+val (s.drop k):=by
   conv=>lhs;rw [←List.take_append_drop k s]
   rw [val_append]
  have hs2:val s=val (s.take k)*1000000000+val (s.drop k):=by
   rcases NN with e|⟨rfl,_⟩
   ·rw [hs,show (s.drop k).length=9 by rw [List.length_drop];omega]
   ·simp [JY]
  rw [FU,List.length_append,List.length_singleton,Nat.pow_succ];have:=h.sum;rw [hs2]at this;rw [this];generalize 1000000000^o.length=p;generalize val (s.take k)=a;generalize val (s.drop k)=b;rw [Nat.add_mul,Nat.mul_assoc,Nat.mul_comm 1000000000 p,Nat.mul_comm b p];omega
 ·intro e;have:(s.drop k).length=0:=(by rw [e];rfl);rw [List.length_drop]at this;omega
def xf(z:Int)(w:World)(e:Ending)(w':World):Prop:=∃v,e=.returned (.agg #[.bool (decide (z<0)),v])/\Rd w' v (pc 1000000000 z.natAbs)/\Aa w w'
def iP:Value→Nat | .string t=>t.size|_=>0
def vz(n b0:Nat)(W0:World)(s p:Value)(wr:World):Prop:=
 ∃(t:Bs) (o:List Nat),Nk n t o/\s=S t/\wr.ownsRow b0 184 1 p o.length (Bd o)/\b0<=wr.heap.size/\Aa W0 wr
theorem fD(z:Int)(hz:AC z)(w:World):Calls Tryz.prog 225 #[S (I z)] w (xf z w):=by
 have Vu:=hz.len;have K8:=QX (I z) [45];rw [mo,zB]at K8;obtain⟨n,hn⟩:=Am8 z.natAbs
 have IH:(D n).length<=4001:=by
  rw [hn]
  rcases DK z with⟨m,rfl,e⟩|⟨m,_,rfl,e⟩
  ·rw [e]at Vu;simpa using Vu
  ·rw [e,List.length_cons]at Vu;have:(-(m:Int)).natAbs=m:=(by omega);rw [this];omega
 rw [←hn]at K8;have HN:=Am9 hn;clear hn;have hmk:=Wd ((D n).length/9+1) (by omega) (((D n).length:Int)/9+1) (by omega);go_enter Tryz.func225,Tryz.ntmps225
 go_wp2_with (go_at_call 277;((with_reducible refine(K8 _).mono ?_);rintro e w1 ⟨rfl,hx1⟩))
 clear K8 hmk;have how:=Wx w1 w1.heap.size ((D n).length/9+1) (AmC _) (by omega);have uR:=hx1.alloc (.cells (madeCells #[.int .u64 0] ((D n).length/9+1)) 184);have cP:=hx1.size;simp only [AmJ]at cP
 go_loopw [3,5] (fun s p wr=>vz n w1.heap.size (w.alloc (.cells #[.bool false,.slice none 0 0] 280)) s p wr)
  (fun s _ _=>iP s)
 case atStart=>exact⟨D n,[],Nk.start IH,rfl,how,by simp,uR⟩
 case round=>
  obtain⟨t,o,hO,rfl,hown,hsz,Ac⟩:=hrel;clear how uR hx1;have Dx:=hO.len;by_cases h0:t = []
  ·subst h0;have Ev:=hO.sum;rw [JY,Nat.zero_mul,Nat.zero_add]at Ev;have HS:=Am9 Ev;clear Ev;(go_wp2_with fail);have AP:Rd wr u5 o:=Rd.of_own hown (by omega);(with_reducible refine(trim_c _ _ _ AP hO.lt).mono ?_);rintro e w2 ⟨v2,rfl,hv2,hx2⟩;have P8:=Ac.trans hx2;obtain⟨hc2,hf2⟩:=P8.cells;obtain⟨A2,c2,rfl,hr2⟩:=hv2;go_wp2;refine bodyPost_ret (v:=.agg #[.bool (decide (z<0)),.slice A2 (pc 1000000000 (Ag 1000000000 o)).length c2]) (by simp [results,Tryz.results225,go_sem,hc2]) rfl ?_;refine⟨_,rfl,?_,?_⟩
   ·rw [←HN.out,HS.out];have e0:=hc2 w.heap.size 0 (by simp);have e1:=hc2 w.heap.size 1 (by simp);rw [World.cell?_alloc_at _ _ _ _ rfl]at e0 e1;refine⟨A2,c2,rfl,(hr2.setCell e0 (by simp)).setCell (v:=.slice none 0 0) ?_ (by simp)⟩;rw [World.cell?_setCell_other _ _ _ _ (by simp)];exact e1
   ·exact(((Aa.refl w).alloc _).trans P8 |>.setCell (AmC _) _).setCell (AmC _) _
  ·have S7:0<t.length:=List.length_pos_iff.2 h0;clear h0;by_cases h9:t.length<9
   ·obtain⟨UH,Hy,GO,uO⟩:=hO.step (k:=0) S7 (.inr ⟨rfl,h9⟩);simp only [List.take_zero,List.drop_zero]at UH Hy GO uO;have cG:=gy t GO Hy (by omega) (by omega);clear GO;have hmax:max ((t.length:Int)-9) 0=0:=(by omega);(go_wp2_with fail);(with_reducible refine(cG _).mono ?_);rintro e w3 ⟨rfl,hx3⟩;(go_wp2_with fail);have DD:=Wv (AI hown hx3);have VD:=AmM hsz hx3.size
    go_region_law ((refine l9 rfl _ _ rfl w3.drew w1.heap.size u5 o.length o rfl DD (by omega) _ (val t) rfl rfl VD ?_;intro v4 w4 hown4 Ai))
    go_wp2;simp only [List.getElem_toArray,List.getElem_cons_succ,List.getElem_cons_zero,Act.put,List.setIfInBounds_toArray,List.set_cons_succ,List.set_cons_zero];go_roundw
    case rel=>exact⟨[],_,UH,by simp;rfl,by simpa using hown4,own_base hown4,Ai _ ((Ac.trans hx3).drew) (by simp;omega)⟩
    case measure=>simp [iP,Je];omega
   ·obtain⟨k,hk⟩:=Am8 (t.length-9);have Cm:k<t.length:=(by omega);have NN:k+9=t.length:=(by omega);obtain⟨UH,Hy,GO,uO⟩:=hO.step (k:=k) Cm (.inl NN);have cG:=gy (t.drop k) GO Hy (by omega) (by simp;omega);clear GO;have hmax:max ((t.length:Int)-9) 0=k:=(by omega);have Py:(k:Int)<=(t.length:Int):=(by omega);have hk0:(0:Int)<=(k:Int):=(by omega);have HK:=Am9 hk;have HK9:=Am9 NN;clear hk NN;(go_wp2_with fail);(with_reducible refine(cG _).mono ?_);rintro e w3 ⟨rfl,hx3⟩;(go_wp2_with fail);have DD:=Wv (AI hown hx3);have VD:=AmM hsz hx3.size
    go_region_law ((refine l9 rfl _ _ rfl w3.drew w1.heap.size u5 o.length o rfl DD (by omega) _ (val (t.drop k)) rfl rfl VD ?_;intro v4 w4 hown4 Ai))
    go_wp2;simp only [List.getElem_toArray,List.getElem_cons_succ,List.getElem_cons_zero,Act.put,List.setIfInBounds_toArray,List.set_cons_succ,List.set_cons_zero];go_roundw
    case rel=>exact⟨t.take k,_,UH,rfl,by simpa using hown4,own_base hown4,Ai _ ((Ac.trans hx3).drew) (by simp;omega)⟩
    case measure=>simp [iP,Je];omega
end Go.Proofs.YtjalkoacphhgdaaGreatDoor
