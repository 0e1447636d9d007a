/- J10: Lib Bld Fmt Int6 Int7. -/
import Derived.Test.YtnddllipjippnaaGreatDoorJ03
import Derived.Lib.SmallJoins
import Derived.Lib.AppendIntMem
set_option maxRecDepth 100000
set_option maxHeartbeats 6400000
namespace Go.Proofs.YtnddllipjippnaaGreatDoor
open Go.RowKit Kl
structure Am(w:World):Prop where
 shaped:w.ShapedOpen Tryz.prog
 pow:Lib.TabIs Tryz.prog w "internal/strconv.uint64pow10" .u64 Lib.pow10Tab
 syn:∃tp p,w.var? Tryz.prog "strconv.ErrSyntax" = some #[.iface tp p]
 rng:∃tp p,w.var? Tryz.prog "strconv.ErrRange" = some #[.iface tp p]
theorem mD{w w':World}{n:String}{cs:Array Value}(h:w.var? Tryz.prog n=some cs)(hx:Ab w w'):w'.var? Tryz.prog n=some cs:=by
 unfold World.var? at h ⊢
 cases hg:Tryz.prog.globalNamed n with
 | none=>rw [hg]at h;exact h
 | some g=>
  rw [hg]at h;simp only [Option.bind_some]at h ⊢
  have hlt:g<w.heap.size:=by
   by_cases hlt:g<w.heap.size
   ·exact hlt
   ·rw [Array.getElem?_eq_none (by omega)]at h;cases h
  rw [hx.block g hlt];exact h
theorem Am.ext{w w':World}(h:Am w)(hx:Ab w w'):Am w':=by
 obtain⟨a,b,h1⟩:=h.syn;obtain⟨c,d,h2⟩:=h.rng;exact⟨h.shaped.keptBut (Below.frame hx fun _=>False) (fun _ h=>h.elim),mD h.pow hx,⟨a,b,mD h1 hx⟩,⟨c,d,mD h2 hx⟩⟩
def By(l:Bs)(w:World)(e:Ending)(w':World):Prop:=e=.returned (S l)/\Ab w w'
def BF(b:Bool)(w:World)(e:Ending)(w':World):Prop:=e=.returned (.bool b)/\Ab w w'
def BG(v:Value)(w:World)(e:Ending)(w':World):Prop:=e=.returned v/\Ab w w'
theorem ext_eq{w w':World}(h:w'=w):Ab w w':=h▸Ab.refl w
theorem wY(s p:Bs)(w:World):Calls Tryz.prog 252 #[S s,S p] w (BF (p.isPrefixOf s) w):=
 (Tryz.strings_HasPrefix _ _ w).mono fun _ _ ⟨h1,h2⟩=>⟨h1,ext_eq h2⟩
theorem mA(s p:Bs)(w:World):Calls Tryz.prog 203 #[S s,S p] w (By (Lib.trimPrefix s p) w):=
 (Tryz.strings_TrimPrefix _ _ w).mono fun _ _ ⟨h1,h2⟩=>⟨h1,ext_eq h2⟩
theorem Sp(s p:Bs)(w:World):Calls Tryz.prog 201 #[S s,S p] w (BG (.tuple #[S (Lib.trimPrefix s p),.bool (p.isPrefixOf s)]) w):=
 (Tryz.strings_CutPrefix _ _ w).mono fun _ _ ⟨h1,h2⟩=>⟨h1,ext_eq h2⟩
theorem AcM(s p:Bs)(w:World):Calls Tryz.prog 204 #[S s,S p] w (AI (Lib.compareBytes s p) w):=
 (Tryz.strings_Compare _ _ w).mono fun _ _ ⟨h1,h2⟩=>⟨h1,ext_eq h2⟩
theorem JC(l:Bs):(⟨l.toArray⟩:ByteArray).size=l.length:=by simp [ByteArray.size]
theorem cut_c(s p:Bs)(w:World)(hw:Am w)(hs:s.length<4294967281) :
  Calls Tryz.prog 163 #[S s,S p] w (BG (.tuple #[S (Lib.cut s p).1,S (Lib.cut s p).2.1,.bool (Lib.cut s p).2.2]) w):=
 (Tryz.strings_Cut_shaped _ _ w hw.shaped (by rw [JC];exact hs)).mono fun _ _ ⟨h1,n,h2⟩=>⟨h1,h2▸(Ab.refl w).drewN n⟩
theorem tK(w:World)(k:Nat)(os:Array Obj):Ab w (Go.Sort.grow (w.drewN k) os):=
 ⟨rfl,rfl,rfl,by simp [Go.Sort.grow],fun i hi=>by simp only [Go.Sort.grow,World.heap_drewN];rw [Array.getElem?_append_left hi]⟩
theorem QB(n:Int)(h0:-9223372036854775808<=n)(h1:n<=9223372036854775807)(w:World)(hw:Am w):Calls Tryz.prog 161 #[.int .i64 n] w (By (I n) w):=
 (Tryz.strconv_Itoa n h0 h1 w hw.pow).mono fun _ _ ⟨h1,k,os,h2⟩=>⟨h1,h2▸tK w k os⟩
theorem tJ(w:World)(t:ByteArray):Ab w (Lib.bytesWorld w 5 t):=Go.Joins.below_bytesWorld _ w 5 t (Ao7 _)
theorem Yb{w:World}{base:Nat}{e:TypeId}{size n:Nat}{v:Value}{xs:List Value}(h:w.ownsRow base e size v n xs):∀k,v.ownBlock=some k→∃c fz,w.heap[k]?=some (.cells c e fz):=by
 intro k hk
 rcases h.2 with⟨rfl,_⟩|⟨g,cap,cur,rfl,_,hg,_⟩
 ·simp [Value.ownBlock]at hk
 ·simp [Value.ownBlock]at hk;subst hk;exact⟨_,_,hg⟩
theorem qB:(Tryz.prog.info? 311).map (·.size)=some 2:=by kernel_rfl
theorem Ace:liesAt Tryz.prog Tryz.prog.depth 311 (2/Tryz.prog.cellsOf 311) 0 311 1=true:=by kernel_rfl
theorem qN:(Tryz.prog.info? 5).map (fun i=>(i.zero,i.size,i.bytes))=some (some (.int .u8 0),1,1):=by kernel_rfl
theorem Acg(b:Nat)(w:World)(h0:w.cell? ⟨b,0,none⟩=some (.pointer (some ⟨b,0,none⟩))) :
  Calls Tryz.prog 293 #[.pointer (some ⟨b,0,none⟩)] w fun e w'=>e=.returned (.tuple #[])/\w'=w:=by
 obtain⟨j,hj,_⟩:=Option.map_eq_some_iff.1 qB;go_enter Tryz.func293,Tryz.ntmps293;go_wp2;rw [Lib.run_neq_ptr_same w _ Tryz.underlying309 hj];go_wp2
 go_end0
 exact⟨rfl,rfl⟩
theorem Acf(b:Nat)(w:World)(h0:w.cell? ⟨b,0,none⟩=some (.pointer none))(Ua:w.shape? b=some (311,2))(hfz:w.frozen? ⟨b,0,none⟩=false) :
  Calls Tryz.prog 293 #[.pointer (some ⟨b,0,none⟩)] w fun e w'=>e=.returned (.tuple #[])/\w'=w.setCell ⟨b,0,none⟩ (.pointer (some ⟨b,0,none⟩)):=by
 obtain⟨j,hj,Gy⟩:=Option.map_eq_some_iff.1 qB;go_enter Tryz.func293,Tryz.ntmps293;go_wp2;rw [Lib.run_to_unsafe w ⟨b,0,none⟩ Tryz.underlying309 Tryz.underlying352 hj (by rw [Gy];decide) Ua (Nat.zero_lt_succ 1)];simp only [Result.andThen];rw [Oper.upon_value];go_wp2;rw [run_callFunc_extern Tryz.func307 (by kernel_rfl) (by kernel_rfl) (by kernel_rfl) (e:=Extern.AbiNoEscape.same) (by kernel_rfl)];rw [Lib.run_noEscape];simp only [Result.andThen];rw [Oper.upon_value];go_wp2;rw [Lib.run_from_unsafe w ⟨b,0,none⟩ Tryz.underlying352 Tryz.underlying309 hj Ua Ace];simp only [Result.andThen];rw [Oper.upon_value];go_wp2
 go_end0
 exact⟨rfl,rfl⟩
abbrev FP(B b:Nat)(bs:List Value)(w:World):Prop:=Lib.IsBuilder 311 5 B b bs w
theorem qC(B b:Nat)(bs:List Value)(w:World)(h:FP B b bs w) :
  Calls Tryz.prog 293 #[.pointer (some ⟨b,0,none⟩)] w fun e w'=>e=.returned (.tuple #[])/\(Lib.BuilderAt 311 5 B b (.pointer (some ⟨b,0,none⟩)) bs w'/\Below B w w'/\Lib.OthersKept 5 (some b) w w'):=by
 rcases h with h|h
 ·refine(Acf b w h.cell0 h.shape h.frozen0).mono ?_;rintro e w' ⟨rfl,rfl⟩;exact⟨rfl,h.used _,(Below.refl B w).setCell (p:=⟨b,0,none⟩) h.1 _,(Lib.OthersKept.refl _ (some b) w).setCell ⟨b,0,none⟩ rfl _⟩
 ·refine(Acg b w h.cell0).mono ?_;rintro e w' ⟨rfl,rfl⟩;exact⟨rfl,h,Below.refl B _,Lib.OthersKept.refl _ _ _⟩
theorem Amc(B b:Nat)(bs:List Value)(c:Int)(w:World)(h:FP B b bs w)(hlen:bs.length+1<=140737488355328)(I5:B<=w.heap.size) :
  Calls Tryz.prog 261 #[.pointer (some ⟨b,0,none⟩),.int .u8 c] w fun e w'=>e=.returned .nilIface/\(FP B b (bs ++ [.int .u8 c]) w'/\Below B w w'/\Lib.OthersKept 5 (some b) w w'):=by
 obtain⟨i0,hi,hz0,hz1,hz2⟩:=info_parts qN;go_enter Tryz.func261,Tryz.ntmps261
 go_wp2_with (go_at_call 293;refine(qC B b bs _ h).mono ?_)
 rintro e w1 ⟨rfl,h1,hb1,ho1⟩;obtain⟨hB,v,Ls,hown,hne⟩:=h1;have c0:w1.cell? ⟨b,0,none⟩=some (.pointer (some ⟨b,0,none⟩)):=(by rw [Lib.cell_of_heap Ls];rfl);have c1:w1.cell? ⟨b,1,none⟩=some v:=by rw [Lib.cell_of_heap Ls];rfl
 go_wp2_with (at_builtin;refine wpList_append_own _ rfl _ _ 113 rfl B 5 i0 (.int .u8 0) 1 1 Tryz.underlying113 hi hz0 hz1 hz2 rfl (by decide) _ _ _ rfl (hown.alloc _) ⟨w1.heap.size,0,none⟩ 1 1 [.int .u8 c] rfl rfl ?c1 ?c2 ?c3 ?c4 ?c5 ?_)
 case c1=>
  intro j u hj
  match j,hj with
  | 0,hj=>simp at hj;subst hj;simp [Addr.add]
 case c2=>intro u hu;simp at hu;subst hu;rfl
 case c3=>unfold maxLen;omega
 case c4=>omega
 case c5=>have:=hb1.size;simp;omega
 intro v' w2 hown' hgrow _
 have hlt:b<w1.heap.size:=by
  rcases Nat.lt_or_ge b w1.heap.size with h'|h'
  ·exact h'
  ·simp [Array.getElem?_eq_none h']at Ls
 have hb2:w2.heap[b]?=some (.cells #[.pointer (some ⟨b,0,none⟩),v] 311 (0,0)):=by rw [hgrow.block b (by simp;omega) (fun e=>hne e.symm),Lib.alloc_old w1 _ b hlt];exact Ls
 have d0:w2.cell? ⟨b,0,none⟩=some (.pointer (some ⟨b,0,none⟩)):=(by rw [Lib.cell_of_heap hb2];rfl);have d1:w2.cell? ⟨b,1,none⟩=some v:=(by rw [Lib.cell_of_heap hb2];rfl);have f1:w2.frozen? ⟨b,1,none⟩=false:=Lib.frozen_of_heap hb2 1
 obtain⟨g,cap,rfl⟩:∃g cap,v'=.slice (some ⟨g,0,none⟩) (bs.length+1) cap:=by
  rcases hown'.2 with⟨_,h0⟩|⟨g,cap,cur,hv,_⟩
  ·omega
  ·exact⟨g,cap,hv⟩
 go_wp2;go_ret;refine⟨rfl,.inr ?_,?_,?_⟩
 ·exact Lib.BuilderAt.put (T:=311) (e:=5) hB hb2 (bs':=bs ++ [.int .u8 c]) (by simpa using hown') (by decide)
 ·exact((hb1.alloc (by have:=hb1.size;omega) _).grown hgrow (by have:=hb1.size;simp;omega) (fun k hk=>(hown.lt k hk).1)).setCell (p:=⟨b,1,none⟩) hB _
 ·exact((ho1.alloc _).grown hgrow (Yb (hown.alloc _))).setCell ⟨b,1,none⟩ rfl _
theorem Rq(B b:Nat)(bs:List Value)(s:ByteArray)(w:World)(h:FP B b bs w)(hlen:bs.length+s.size<=140737488355328)(I5:B<=w.heap.size) :
  Calls Tryz.prog 263 #[.pointer (some ⟨b,0,none⟩),.string s] w fun e w'=>e=.returned (.tuple #[.int .i64 s.size,.nilIface])/\(FP B b (bs++Lib.strCells s) w'/\Below B w w'/\Lib.OthersKept 5 (some b) w w'):=by
 obtain⟨i0,hi,hz0,hz1,hz2⟩:=info_parts qN;go_enter Tryz.func263,Tryz.ntmps263
 go_wp2_with (go_at_call 293;refine(qC B b bs _ h).mono ?_)
 rintro e w1 ⟨rfl,h1,hb1,ho1⟩;obtain⟨hB,v,Ls,hown,hne⟩:=h1;have c0:w1.cell? ⟨b,0,none⟩=some (.pointer (some ⟨b,0,none⟩)):=(by rw [Lib.cell_of_heap Ls];rfl);have c1:w1.cell? ⟨b,1,none⟩=some v:=by rw [Lib.cell_of_heap Ls];rfl
 go_wp2_with (at_builtin;refine Lib.wpList_append_own_string _ rfl _ _ 113 9 rfl B 5 i0 Tryz.underlying113 Tryz.underlying9 hi hz0 hz1 hz2 _ _ _ rfl hown s rfl ?c3 ?c4 ?c5 ?_)
 case c3=>unfold maxLen;omega
 case c4=>omega
 case c5=>have:=hb1.size;omega
 intro v' w2 hown' hgrow _
 have hlt:b<w1.heap.size:=by
  rcases Nat.lt_or_ge b w1.heap.size with h'|h'
  ·exact h'
  ·simp [Array.getElem?_eq_none h']at Ls
 have hb2:w2.heap[b]?=some (.cells #[.pointer (some ⟨b,0,none⟩),v] 311 (0,0)):=by rw [hgrow.block b hlt (fun e=>hne e.symm)];exact Ls
 have d0:w2.cell? ⟨b,0,none⟩=some (.pointer (some ⟨b,0,none⟩)):=(by rw [Lib.cell_of_heap hb2];rfl);have d1:w2.cell? ⟨b,1,none⟩=some v:=(by rw [Lib.cell_of_heap hb2];rfl);have f1:w2.frozen? ⟨b,1,none⟩=false:=Lib.frozen_of_heap hb2 1
 obtain⟨ao,n',cap,rfl⟩:∃ao n' cap,v'=.slice ao n' cap:=by
  rcases hown'.2 with⟨hv,_⟩|⟨g,cap,cur,hv,_⟩
  ·exact⟨_,_,_,hv⟩
  ·exact⟨_,_,_,hv⟩
 go_wp2;go_ret2;refine⟨rfl,.inr ?_,?_,?_⟩
 ·exact Lib.BuilderAt.put (T:=311) (e:=5) hB hb2 (bs':=bs++Lib.strCells s) (by simpa [Lib.strCells_length]using hown') (by decide)
 ·exact(hb1.grown hgrow (by have:=hb1.size;omega) (fun k hk=>(hown.lt k hk).1)).setCell (p:=⟨b,1,none⟩) hB _
 ·exact(ho1.grown hgrow (Yb hown)).setCell ⟨b,1,none⟩ rfl _
end Go.Proofs.YtnddllipjippnaaGreatDoor
namespace Go.Proofs.YtnddllipjippnaaGreatDoor
open Go.RowKit Kl Go.Lib Go.Sort
theorem Aec(u:Nat)(OQ:u<18446744073709551616)(w:World)(hw:Am w):Calls Tryz.prog 294 #[.int .u64 u,.int .i64 10] w (By (D u) w):=by
 have htab:=hw.pow;by_cases hs:u<100
 ·go_enter Tryz.func294,Tryz.ntmps294
  go_wp2_with (go_at_call 281;refine(Tryz.internal_strconv_small u hs _).mono ?_;rintro e w' ⟨rfl,rfl⟩)
  go_ret;exact⟨rfl,Ab.refl _⟩
 ·have hu1:1<=u:=(by omega);have An5:Lib.nDigits u<=20:=(by have:=Lib.numDigits_eq u hu1 OQ;split at this<;>omega);have hb3:Lib.nDigits u<=23:=(by omega);have I9:Tryz.prog.arrayLen 332=24:=by simp [Program.arrayLen,Tryz.underlying332]
  have AnN:∀W,(Instr.sliceAt 332 (.pointer (some ⟨w.heap.size,0,none⟩)) none (some (.int .i64 (Lib.nDigits u:Int))) none).run Tryz.prog W=.ok (.slice (some ⟨w.heap.size,0,none⟩) (Lib.nDigits u) 24) W:=fun W=>by
   rw [run_sliceAt_array_h W 332 ⟨w.heap.size,0,none⟩ (by simp [Program.arrayLen,Program.elem,Tryz.underlying332]) .i64 (Lib.nDigits u:Int) (by omega) (by rw [I9];omega)]
   go_simp
  have aY:Holds (fun (b:UInt8)=>Value.int .u8 (b.toNat:Int)) (w.alloc (.cells Lib.zeros24 332)) w.heap.size 0 (Array.replicate (Lib.nDigits u) 0):=Lib.holds_zero0 w _ _ (by omega);have yW:=Tryz.internal_strconv_formatBase10 w.heap.size 0 24 u (Array.replicate (Lib.nDigits u) 0) (w.alloc (.cells Lib.zeros24 332)) aY (by rw [Array.size_replicate];exact Lib.lt_pow_nDigits u) OQ (by rw [Array.size_replicate];omega);rw [Array.size_replicate]at yW;have zv:=Ao4 aY;clear aY I9;go_enter Tryz.func294,Tryz.ntmps294
  go_wp2_with (go_at_call 282;refine(Tryz.internal_strconv_numDigits u hu1 OQ _ (Lib.tabIs_alloc htab _)).mono ?_;rintro e w' ⟨rfl,rfl⟩)
  go_at_call 283
  refine yW.mono ?_;rintro e w' ⟨rfl,k,v',dk,rfl,hF⟩
  have hcv:(convert 113 9 (.slice (some ⟨w.heap.size,0,none⟩) (Lib.nDigits u) 24)).run Tryz.prog ((putRow (fun (b:UInt8)=>Value.int .u8 (b.toNat:Int)) (w.alloc (.cells Lib.zeros24 332)) w.heap.size 0 dk).drewN k)=.ok (.string ⟨(Lib.decDigits u).toArray⟩) ((putRow (fun (b:UInt8)=>Value.int .u8 (b.toNat:Int)) (w.alloc (.cells Lib.zeros24 332)) w.heap.size 0 dk).drewN k):=by
   have h:=run_convert_bytes_back (P:=Tryz.prog) ((putRow (fun (b:UInt8)=>Value.int .u8 (b.toNat:Int)) (w.alloc (.cells Lib.zeros24 332)) w.heap.size 0 dk).drewN k) 113 9 5 ⟨w.heap.size,0,none⟩ 24 (Lib.decDigits u) Tryz.underlying113 Tryz.underlying5 Tryz.underlying9 (fun j hj=>by
    rw [Lib.row_is_numeral hF j hj,Lib.add_plain,World.cell?_drewN]
    exact cell?_putRow (fun (b:UInt8)=>Value.int .u8 (b.toNat:Int)) _ w.heap.size 0 _ dk zv.out (by rw [hF.size,Array.size_replicate]) j (by rw [hF.size];rw [Lib.decDigits_length]at hj;exact hj))
   rw [Lib.decDigits_length]at h;exact h
  go_wp2;go_ret;obtain⟨os,eo⟩:=Lib.fin_at w (.cells Lib.zeros24 332) dk k 0;exact⟨rfl,eo▸tK w k os⟩
theorem uG(u:Nat)(OQ:u<18446744073709551616)(w:World)(hw:Am w):Calls Tryz.prog 262 #[.int .u64 u,.int .i64 10] w (By (D u) w):=by
 go_enter Tryz.func262,Tryz.ntmps262;(go_wp2_with fail);refine(Aec u OQ _ hw).mono ?_;rintro e w1 ⟨rfl,hx⟩;go_wp2;go_ret;exact⟨rfl,hx⟩
/-! ### Parsing -/
theorem AlC(a:Nat)(r:Bs):a<=DL a r:=by
 rw [wn];have:a*1<=a*10^r.length:=Nat.mul_le_mul_left _ (Nat.one_le_pow _ _ (by omega));omega
theorem kM(m:Nat)(hm:m<18446744073709551616):∀(l:Bs) (acc:Nat),Ch l→Lib.parseUintM m acc l=if l = []∨DL acc l<=m then .ok (DL acc l)else .range
 | [],acc,_=>by simp [Lib.parseUintM,DL]
 | c::r,acc,h=>by
  rw [Vw]at h;have hc:48<=c.toNat/\c.toNat<=57:=h.1;have hd:=ZS h.1;rw [mB];have h1:=AlC (acc*10+dv c) r;have ih:=kM m hm r (acc*10+dv c) h.2;have e:c.toNat-48=dv c:=rfl;rw [Lib.parseUintM,if_pos hc,e];by_cases h2:1844674407370955162<=acc
  ·rw [if_pos h2,if_neg (by simp;omega)]
  ·rw [if_neg h2];by_cases h3:m<acc*10+dv c
   ·rw [if_pos h3,if_neg (by simp;omega)]
   ·rw [if_neg h3,ih];by_cases h4:DL (acc*10+dv c) r<=m
    ·rw [if_pos (.inr h4),if_pos (.inr h4)]
    ·rw [if_neg (by simp;exact⟨fun e=>h4 (by rw [e];simpa [DL]using h3),by omega⟩),if_neg (by simp;omega)]
theorem pj:∀(l:Bs) (acc:Nat),Lib.parseUint10 acc l=Lib.parseUintM 18446744073709551615 acc l
 | [],acc=>rfl
 | c::r,acc=>by
  rw [Lib.parseUint10,Lib.parseUintM,pj r];by_cases h:48<=c.toNat/\c.toNat<=57
  ·rw [if_pos h,if_pos h];by_cases h2:1844674407370955162<=acc
   ·rw [if_pos h2,if_pos h2]
   ·rw [if_neg h2,if_neg h2];by_cases h3:18446744073709551616<=acc*10+(c.toNat-48)
    ·rw [if_pos h3,if_pos (by omega)]
    ·rw [if_neg h3,if_neg (by omega)]
  ·rw [if_neg h,if_neg h]
theorem AiS{l:Bs}(hne:l≠[])(h:Ch l)(hv:val l<18446744073709551616):Lib.parseUintB 64 l=.ok (val l):=by
 unfold Lib.parseUintB;rw [if_neg hne,kM _ (by omega) l 0 h,if_pos (.inr (by show val l<=18446744073709551615;omega))]
 rfl
theorem pq(l:Bs)(hne:l≠[])(h:Ch l)(hv:val l<18446744073709551616)(hl:l.length<1000000)(w:World) :
  Calls Tryz.prog 255 #[S l,.int .i64 10,.int .i64 64] w (BG (.tuple #[.int .u64 (val l:Nat),.nilIface]) w):=
 (Tryz.strconv_ParseUint_10_at64_ok _ (by rw [JC];omega) (val l) (AiS hne h hv) w).mono fun _ _ ⟨h1,h2⟩=>⟨h1,by rcases h2 with rfl|rfl;exact Ab.refl _;exact tJ w _⟩
theorem xw(n:Nat):∃c r,D n=c::r/\¬(c.toNat=43∨c.toNat=45)/\c.toNat≠45:=by
 match hd:D n,Mt n with
 | c::r,_=>have:=Eh n c (by rw [hd];simp);have h1:=this.1;exact⟨c,r,rfl,by omega,by omega⟩
theorem po(n:Nat):Lib.parseMag (D n)=if n<18446744073709551616 then .ok n else .range:=by
 unfold Lib.parseMag;rw [if_neg (Mt n),pj,kM _ (by omega) _ 0 (Eh n)];have e:DL 0 (D n)=n:=IT n;rw [e];by_cases h:n<18446744073709551616
 ·rw [if_pos h,if_pos (.inr (by omega))]
 ·rw [if_neg h,if_neg (by simp;exact⟨Mt n,by omega⟩)]
theorem AbQ(z:Int):Lib.atoiAll (I z)=if -9223372036854775808<=z/\z<=9223372036854775807 then .ok z else .range:=by
 rcases E0 z with⟨n,rfl,e⟩|⟨n,hn,rfl,e⟩
 ·obtain⟨c,r,hd,h1,h2⟩:=xw n;have hp:=po n;rw [e];rw [hd]at hp ⊢;unfold Lib.atoiAll;simp only [if_neg h1,hp];by_cases h:n<18446744073709551616
  ·rw [if_pos h];simp only [h2,not_false_eq_true,true_and,false_and,if_false];by_cases h3:9223372036854775808<=n
   ·rw [if_pos h3,if_neg (by omega)]
   ·rw [if_neg h3,if_pos (by omega)]
  ·rw [if_neg h];rw [if_neg (by omega)]
 ·have hp:=po n;rw [e];unfold Lib.atoiAll;have h45:(45:UInt8).toNat=45:=rfl;simp only [h45,or_true,if_true,hp];by_cases h:n<18446744073709551616
  ·rw [if_pos h];simp only [not_true_eq_false,true_and,false_and,if_false];by_cases h3:9223372036854775808<n
   ·rw [if_pos h3,if_neg (by omega)]
   ·rw [if_neg h3,if_pos (by omega)]
  ·rw [if_neg h];rw [if_neg (by omega)]
theorem NX{z:Int}{k:Nat}(hk:0<k)(h:z.natAbs<10^k):(I z).length<=k+1:=by
 rcases E0 z with⟨n,rfl,e⟩|⟨n,hn,rfl,e⟩
 ·rw [e];have:=GA hk (n:=n) (by simpa using h);omega
 ·rw [e,List.length_cons];have:=GA hk (n:=n) (by simpa using h);omega
theorem AdD{w w':World}(h:w'=w∨∃t,w'=Lib.bytesWorld w 5 t):Ab w w':=by
 rcases h with rfl|⟨t,rfl⟩
 ·exact Ab.refl _
 ·exact tJ w _
theorem Z5(z:Int)(h0:-9223372036854775808<=z)(h1:z<=9223372036854775807)(w:World) :
  Calls Tryz.prog 191 #[S (I z)] w (BG (.tuple #[.int .i64 z,.nilIface]) w):=
 (Tryz.strconv_Atoi_ok _ (by have:=NX (z:=z) (k:=20) (by omega) (by omega);rw [JC];omega) z (by show Lib.atoiAll (I z)=_;rw [AbQ,if_pos ⟨h0,h1⟩]) w).mono fun _ _ ⟨h1,h2⟩=>⟨h1,AdD h2⟩
end Go.Proofs.YtnddllipjippnaaGreatDoor
namespace Go.Proofs.YtnddllipjippnaaGreatDoor
open Go.RowKit Kl
theorem jt(n:Nat):[45].isPrefixOf (D n)=false:=by
 match hd:D n,Mt n with
 | c::r,_=>have:=(Eh n c (by rw [hd];simp)).1;simp only [List.isPrefixOf,Bool.and_true];rw [beq_eq_false_iff_ne];rintro rfl;exact absurd this (by decide)
theorem jw(l:Bs):[45].isPrefixOf (45::l)=true:=by simp [List.isPrefixOf]
theorem Alz(n:Nat):Lib.trimPrefix (D n) [45]=D n:=by unfold Lib.trimPrefix Lib.hasPrefix;rw [jt];rfl
theorem Al0(l:Bs):Lib.trimPrefix (45::l) [45]=l:=by unfold Lib.trimPrefix Lib.hasPrefix;rw [jw];rfl
theorem lZ(z:Int):Lib.trimPrefix (I z) [45]=D z.natAbs:=by
 rcases E0 z with⟨n,rfl,e⟩|⟨n,_,rfl,e⟩
 ·rw [e,Alz];simp
 ·rw [e,Al0];simp
theorem ju(z:Int):[45].isPrefixOf (I z)=decide (z<0):=by
 rcases E0 z with⟨n,rfl,e⟩|⟨n,_,rfl,e⟩
 ·rw [e,jt];symm;rw [decide_eq_false_iff_not];omega
 ·rw [e,jw];symm;rw [decide_eq_true_eq];omega
theorem RG:I 0 = [48]:=by rw [show (0:Int)=((0:Nat):Int)from rfl,EN,FQ (by omega)];rfl
theorem AaO{z:Int} : I z = [48]↔z=0:=by
 constructor
 ·intro h;exact Pz (by rw [h,RG])
 ·rintro rfl;exact RG
theorem RF:I 1 = [49]:=by rw [show (1:Int)=((1:Nat):Int)from rfl,EN,FQ (by omega)];rfl
theorem AaN{z:Int} : I z = [49]↔z=1:=by
 constructor
 ·intro h;exact Pz (by rw [h,RF])
 ·rintro rfl;exact RF
theorem RE{z:Int}(h:z≠0):(I z == [48])=false:=by rw [beq_eq_false_iff_ne];exact fun e=>h (AaO.1 e)
theorem oD{z:Int}(h:z≠1):(I z == [49])=false:=by rw [beq_eq_false_iff_ne];exact fun e=>h (AaN.1 e)
def AV(z:Int):Prop:=z.natAbs<Big
theorem AV.len{z:Int}(h:AV z):(I z).length<=4001:=NX (k:=VB) (by decide) h
def FN(z:Int):Int:=if z=0 then 0 else if z<0 then -1 else 1
theorem AkG{z:Int}(h:z=0):FN z=0:=by unfold FN;rw [if_pos h]
theorem tu{z:Int}(h:z<0):FN z = -1:=by unfold FN;rw [if_neg (by omega),if_pos h]
theorem lK{z:Int}(h:0<z):FN z=1:=by unfold FN;rw [if_neg (by omega),if_neg (by omega)]
theorem QA(z:Int)(w:World):Calls Tryz.prog 202 #[S (I z)] w (AI (FN z) w):=by
 by_cases h0:z=0
 ·subst h0;rw [RG];go_enter Tryz.func202,Tryz.ntmps202;go_wp2;go_ret;exact⟨rfl,Ab.refl _⟩
 ·have h1:=RE h0;have hp:=ju z;by_cases hn:z<0
  ·rw [decide_eq_true hn]at hp;go_enter Tryz.func202,Tryz.ntmps202
   go_wp2_with (go_at_call 252;refine(wY (I z) [45] _).mono ?_;rintro e w1 ⟨rfl,hx1⟩)
   go_ret;exact⟨DJ (tu hn),hx1⟩
  ·rw [decide_eq_false hn]at hp;go_enter Tryz.func202,Tryz.ntmps202
   go_wp2_with (go_at_call 252;refine(wY (I z) [45] _).mono ?_;rintro e w1 ⟨rfl,hx1⟩)
   go_ret;exact⟨DJ (lK (by omega)),hx1⟩
theorem AaP{z:Int} : (z=0→I (-z)=I z)/\(0<z→I (-z)=45::I z)/\(z<0→I z=45::I (-z)):=by
 refine⟨fun h=>by rw [h];rfl,fun h=>?_,fun h=>?_⟩
 ·rcases E0 z with⟨n,rfl,e⟩|⟨n,hn,rfl,e⟩
  ·rw [e,Vl n (by omega)]
  ·omega
 ·rcases E0 z with⟨n,rfl,e⟩|⟨n,hn,rfl,e⟩
  ·omega
  ·rw [e,Int.neg_neg,EN]
theorem jh(z:Int)(hb:AV z)(w:World):Calls Tryz.prog 220 #[S (I z)] w (By (I (-z)) w):=by
 obtain⟨e0,e1,e2⟩:=AaP (z:=z)
 rcases Int.lt_trichotomy z 0 with h|h|h
 ·rw [e2 h];have hs:=QA z;rw [tu h,e2 h]at hs;clear e0 e1 e2;go_enter Tryz.func220,Tryz.ntmps220
  go_wp2_with (go_at_call 202;((with_reducible refine(hs _).mono ?_);rintro e w1 ⟨rfl,hx1⟩))
  go_ret;exact⟨IO (by rw [S1];simp),hx1⟩
 ·subst h;have hs:=QA 0;rw [AkG rfl]at hs;clear e0 e1 e2;go_enter Tryz.func220,Tryz.ntmps220
  go_wp2_with (go_at_call 202;((with_reducible refine(hs _).mono ?_);rintro e w1 ⟨rfl,hx1⟩))
  go_ret;exact⟨rfl,hx1⟩
 ·rw [e1 h];have hs:=QA z;rw [lK h]at hs;have Xe:=hb.len;clear e0 e1 e2;go_enter Tryz.func220,Tryz.ntmps220
  go_wp2_with (go_at_call 202;((with_reducible refine(hs _).mono ?_);rintro e w1 ⟨rfl,hx1⟩))
  go_ret;exact⟨IO (by apply ByteArray.ext;simp),hx1⟩
theorem iQ(z:Int)(h0:-9223372036854775808<=z)(h1:z<=9223372036854775807)(w:World)(hw:Am w):Calls Tryz.prog 206 #[.int .i64 z] w (By (I z) w):=by
 have hi:=QB z h0 h1 w hw;clear h0 h1;go_enter Tryz.func206,Tryz.ntmps206
 go_wp2_with (go_at_call 161;((with_reducible refine hi.mono ?_);rintro e w1 ⟨rfl,hx1⟩))
 go_ret;exact⟨rfl,hx1⟩
def Pd(z:Int)(k:Nat):Value:=if (I z).length<=k then .tuple #[.int .i64 z,.bool true] else .tuple #[.int .i64 0,.bool false]
theorem qq(z:Int)(k:Nat)(hk:k<=18)(w:World):Calls Tryz.prog 205 #[S (I z),.int .i64 (k:Nat)] w (BG (Pd z k) w):=by
 by_cases h:(I z).length<=k
 ·have hz:z.natAbs<10^18:=by
   rcases E0 z with⟨n,rfl,e⟩|⟨n,hn,rfl,e⟩
   ·rw [e]at h;simpa using OV (n:=n) (k:=18) (by omega)
   ·rw [e,List.length_cons]at h;simpa using OV (n:=n) (k:=18) (by omega)
  have ha:=Z5 z (by omega) (by omega) w;have hq:Pd z k=.tuple #[.int .i64 z,.bool true]:=if_pos h;rw [hq];clear hz hq;go_enter Tryz.func205,Tryz.ntmps205
  go_wp2_with (go_at_call 191;((with_reducible refine ha.mono ?_);rintro e w1 ⟨rfl,hx1⟩))
  go_quiet (fail)
  go_wp2;go_ret2;exact⟨rfl,hx1.drewN _⟩
 ·have hq:Pd z k=.tuple #[.int .i64 0,.bool false]:=if_neg h;rw [hq];have h':k<(I z).length:=(by omega);clear hq h;go_enter Tryz.func205,Tryz.ntmps205;go_wp2;go_ret2;exact⟨rfl,Ab.refl _⟩
attribute [local go_sem] tL AdE
theorem own_base{w:World}{base:Nat}{e:TypeId}{size n:Nat}{v:Value}{xs:List Value}(h:w.ownsRow base e size v (n+1) xs):base<=w.heap.size:=by
 rcases h.2 with⟨_,h0⟩|⟨g,cap,cur,rfl,hb,hg,_⟩
 ·omega
 ·have:=(Array.getElem?_eq_some_iff.1 hg).1;omega
theorem BX.setCell{w:World}{A:Option Addr}{c:Nat}{l:List Nat}(h:BX w A c l){p:Addr}{v u:Value}(hp:w.cell? p=some v)(hv:∀n,v≠.int .u64 n):BX (w.setCell p u) A c l:=
 ⟨h.cap,h.max,h.len,fun h0=>by
  obtain⟨b,o,e,hc⟩:=h.ad h0;refine⟨b,o,e,fun j hj=>?_⟩
  have hne:p≠⟨b,o+j,none⟩:=by rintro rfl;rw [hc j hj]at hp;exact hv _ (Option.some.inj hp).symm
  rw [World.cell?_setCell_other _ _ _ _ hne]
  exact hc j hj⟩
structure NY(n:Nat)(s:Bs)(o:List Nat):Prop where
 all:Ch s
 lt:∀x∈o,x<1000000000
 len:s.length+o.length<=4001
 sum:n=val s*1000000000^o.length+Ao 1000000000 o
theorem NY.start{n:Nat}(h:(D n).length<=4001):NY n (D n) []:=⟨Eh n,by simp,by simpa using h,by simp [Ao,IT]⟩
theorem NY.step{n k:Nat}{s:Bs}{o:List Nat}(h:NY n s o)(hk:k<s.length)(OI:k+9=s.length∨(k=0/\s.length<9)):NY n (s.take k) (o ++ [val (s.drop k)])/\Ch (s.drop k)/\s.drop k≠[]/\val (s.drop k)<1000000000:=by
 have hd:=Aby h.all k;have hv:=Mo hd;have Jr:(s.drop k).length<=9:=(by rw [List.length_drop];omega);have hp:10^(s.drop k).length<=10^9:=Nat.pow_le_pow_right (by omega) Jr
 have Kr:val (s.drop k)<1000000000:=by have e:(10:Nat)^9=1000000000:=(by decide);omega
 refine⟨⟨pH h.all k,?_,?_,?_⟩,hd,?_,Kr⟩
 ·intro x hx
  rcases List.mem_append.1 hx with hx|hx
  ·exact h.lt x hx
  ·simp at hx;subst hx;exact Kr
 ·have:=h.len;rw [List.length_take,List.length_append,List.length_singleton];omega
 ·have hs:val s=val (s.take k)*10^(s.drop k).length+val (s.drop k):=by
   conv=>lhs;rw [←List.take_append_drop k s]
   rw [val_append]
  have hs2:val s=val (s.take k)*1000000000+val (s.drop k):=by
   rcases OI with e|⟨rfl,_⟩
   ·rw [hs,show (s.drop k).length=9 by rw [List.length_drop];omega]
   ·simp [Mp]
  rw [Kx,List.length_append,List.length_singleton,Nat.pow_succ];have:=h.sum;rw [hs2]at this;rw [this];generalize 1000000000^o.length=p;generalize val (s.take k)=a;generalize val (s.drop k)=b;rw [Nat.add_mul,Nat.mul_assoc,Nat.mul_comm 1000000000 p,Nat.mul_comm b p];omega
 ·intro e;have:(s.drop k).length=0:=(by rw [e];rfl);rw [List.length_drop]at this;omega
def Abg(z:Int)(w:World)(e:Ending)(w':World):Prop:=∃v,e=.returned (.agg #[.bool (decide (z<0)),v])/\Rd w' v (pc 1000000000 z.natAbs)/\Ab w w'
def lX:Value→Nat | .string t=>t.size|_=>0
def AaY(n b0:Nat)(W0:World)(s p:Value)(wr:World):Prop:=
 ∃(t:Bs) (o:List Nat),NY n t o/\s=S t/\wr.ownsRow b0 179 1 p o.length (Bw o)/\b0<=wr.heap.size/\Ab W0 wr
theorem kE(z:Int)(hz:AV z)(w:World):Calls Tryz.prog 207 #[S (I z)] w (Abg z w):=by
 have Xe:=hz.len;have Lu:=Sp (I z) [45];rw [lZ,ju]at Lu;obtain⟨n,hn⟩:=Ao3 z.natAbs
 have Jr:(D n).length<=4001:=by
  rw [hn]
  rcases E0 z with⟨m,rfl,e⟩|⟨m,_,rfl,e⟩
  ·rw [e]at Xe;simpa using Xe
  ·rw [e,List.length_cons]at Xe;have:(-(m:Int)).natAbs=m:=(by omega);rw [this];omega
 rw [←hn]at Lu;have HN:=Ao4 hn;clear hn;have hmk:=XH ((D n).length/9+1) (by omega) (((D n).length:Int)/9+1) (by omega);go_enter Tryz.func207,Tryz.ntmps207
 go_wp2_with (go_at_call 201;((with_reducible refine(Lu _).mono ?_);rintro e w1 ⟨rfl,hx1⟩))
 clear Lu hmk;have how:=Ye w1 w1.heap.size ((D n).length/9+1) (Ao7 _) (by omega);have yS:=hx1.alloc (.cells (madeCells #[.int .u64 0] ((D n).length/9+1)) 179);have gK:=hx1.size;simp only [AoE]at gK
 go_loopw [3,5] (fun s p wr=>AaY n w1.heap.size (w.alloc (.cells #[.bool false,.slice none 0 0] 272)) s p wr)
  (fun s _ _=>lX s)
 case atStart=>exact⟨D n,[],NY.start Jr,rfl,how,by simp,yS⟩
 case round=>
  obtain⟨t,o,hO,rfl,hown,hsz,Ac⟩:=hrel;clear how yS hx1;have Ko:=hO.len;by_cases h0:t = []
  ·subst h0;have Ge:=hO.sum;rw [Mp,Nat.zero_mul,Nat.zero_add]at Ge;have HS:=Ao4 Ge;clear Ge;(go_wp2_with fail);have Bf:Rd wr u5 o:=Rd.of_own hown (by omega);(with_reducible refine(trim_c _ _ _ Bf hO.lt).mono ?_);rintro e w2 ⟨v2,rfl,hv2,hx2⟩;have Q6:=Ac.trans hx2;obtain⟨hc2,hf2⟩:=Q6.cells;obtain⟨A2,c2,rfl,hr2⟩:=hv2;go_wp2;refine bodyPost_ret (v:=.agg #[.bool (decide (z<0)),.slice A2 (pc 1000000000 (Ao 1000000000 o)).length c2]) (by simp [results,Tryz.results207,go_sem,hc2]) rfl ?_;refine⟨_,rfl,?_,?_⟩
   ·rw [←HN.out,HS.out];have e0:=hc2 w.heap.size 0 (by simp);have e1:=hc2 w.heap.size 1 (by simp);rw [World.cell?_alloc_at _ _ _ _ rfl]at e0 e1;refine⟨A2,c2,rfl,(hr2.setCell e0 (by simp)).setCell (v:=.slice none 0 0) ?_ (by simp)⟩;rw [World.cell?_setCell_other _ _ _ _ (by simp)];exact e1
   ·exact(((Ab.refl w).alloc _).trans Q6 |>.setCell (Ao7 _) _).setCell (Ao7 _) _
  ·have Uc:0<t.length:=List.length_pos_iff.2 h0;clear h0;by_cases h9:t.length<9
   ·obtain⟨DG,Tu,Ib,yP⟩:=hO.step (k:=0) Uc (.inr ⟨rfl,h9⟩);simp only [List.take_zero,List.drop_zero]at DG Tu Ib yP;have fU:=pq t Ib Tu (by omega) (by omega);clear Ib;have hmax:max ((t.length:Int)-9) 0=0:=(by omega);(go_wp2_with fail);(with_reducible refine(fU _).mono ?_);rintro e w3 ⟨rfl,hx3⟩;(go_wp2_with fail);have Er:=Yc (AL hown hx3);have Xp:=AoH hsz hx3.size
    go_region_law ((refine vd rfl _ _ rfl w3.drew w1.heap.size u5 o.length o rfl Er (by omega) _ (val t) rfl rfl Xp ?_;intro v4 w4 hown4 Ag))
    go_wp2;simp only [List.getElem_toArray,List.getElem_cons_succ,List.getElem_cons_zero,Act.put,List.setIfInBounds_toArray,List.set_cons_succ,List.set_cons_zero];go_roundw
    case rel=>exact⟨[],_,DG,by simp;rfl,by simpa using hown4,own_base hown4,Ag _ ((Ac.trans hx3).drew) (by simp;omega)⟩
    case measure=>simp [lX,JC];omega
   ·obtain⟨k,hk⟩:=Ao3 (t.length-9);have Ce:k<t.length:=(by omega);have OI:k+9=t.length:=(by omega);obtain⟨DG,Tu,Ib,yP⟩:=hO.step (k:=k) Ce (.inl OI);have fU:=pq (t.drop k) Ib Tu (by omega) (by simp;omega);clear Ib;have hmax:max ((t.length:Int)-9) 0=k:=(by omega);have LD:(k:Int)<=(t.length:Int):=(by omega);have hk0:(0:Int)<=(k:Int):=(by omega);have HK:=Ao4 hk;have HK9:=Ao4 OI;clear hk OI;(go_wp2_with fail);(with_reducible refine(fU _).mono ?_);rintro e w3 ⟨rfl,hx3⟩;(go_wp2_with fail);have Er:=Yc (AL hown hx3);have Xp:=AoH hsz hx3.size
    go_region_law ((refine vd rfl _ _ rfl w3.drew w1.heap.size u5 o.length o rfl Er (by omega) _ (val (t.drop k)) rfl rfl Xp ?_;intro v4 w4 hown4 Ag))
    go_wp2;simp only [List.getElem_toArray,List.getElem_cons_succ,List.getElem_cons_zero,Act.put,List.setIfInBounds_toArray,List.set_cons_succ,List.set_cons_zero];go_roundw
    case rel=>exact⟨t.take k,_,DG,rfl,by simpa using hown4,own_base hown4,Ag _ ((Ac.trans hx3).drew) (by simp;omega)⟩
    case measure=>simp [lX,JC];omega
end Go.Proofs.YtnddllipjippnaaGreatDoor
