/- K45: ShSL4 ShSL10. -/
import Derived.Test.YtgnejnampofhoaaGreatDoorK44
set_option maxRecDepth 100000
set_option maxHeartbeats 4000000
namespace Go.Proofs
open Go.Shelf
def Tryz.lays212_ren:Go.Shelf.Ren:=⟨fun|212=>46|263=>98|264=>99|n=>n,fun|46=>103|51=>146|146=>147|53=>149|148=>150|n=>n,fun|n=>n⟩
theorem Tryz.lays212:Go.Proofs.Lays.n212 Tryz.prog Tryz.lays212_ren:={
 mixed:=by kernel_rfl
 f212:=Tryz.func46.trans (congrArg some (by kernel_rfl))
 f263:=Tryz.func98.trans (congrArg some (by kernel_rfl))
 f264:=Tryz.func99.trans (congrArg some (by kernel_rfl))
 t46:=Tryz.underlying103
 a46:=Tryz.isAgg103
 z46:=Tryz.sizeOf103
 v46:=Tryz.zeroValue103
 t51:=Tryz.underlying146
 a51:=Tryz.isAgg146
 z51:=Tryz.sizeOf146
 v51:=Tryz.zeroValue146
 t53:=Tryz.underlying149
 a53:=Tryz.isAgg149
 z53:=Tryz.sizeOf149
 v53:=Tryz.zeroValue149
 t146:=Tryz.underlying147
 a146:=Tryz.isAgg147
 z146:=Tryz.sizeOf147
 v146:=Tryz.zeroValue147
 t148:=Tryz.underlying150
 a148:=Tryz.isAgg150
 z148:=Tryz.sizeOf150
 v148:=Tryz.zeroValue150}
open Go.RowKit Go.Lib in
theorem Tryz.bits_Mul(x y:Nat)(hx:x<18446744073709551616)(hy:y<18446744073709551616)(w:World) :
  Calls Tryz.prog 46 #[.int .u64 x,.int .u64 y] w fun e w'=>e=.returned (.tuple #[.int .u64 ((x*y/18446744073709551616:Nat):Int),.int .u64 ((x*y%18446744073709551616:Nat):Int)])/\w'=w:=Any.bits_Mul Tryz.lays212 x y hx hy w
end Go.Proofs
namespace Go.Proofs.YtgnejnampofhoaaGreatDoor
open Go.RowKit Kl
theorem cG(cs:List Value):∀a b,AS cs (a+b)=AS cs a++AS cs b
 | 0,b=>by rw [Nat.zero_add];rfl
 | a+1,b=>by rw [show a+1+b=a+b+1 by omega,AS,AS,cG cs a b,List.append_assoc]
theorem cJ(cs:List Value)(hc:cs.length=8)(n i:Nat)(h:i<n*8):(AS cs n)[i]?=cs[i%8]?:=by
 have h1:=cH cs n (i/8) (i%8) (by omega) (by omega);rw [hc,show i/8*8+i%8=i by omega]at h1;exact h1
theorem Ii(cs:List Value)(hc:cs.length=8)(n:Nat):(AS cs n).length=n*8:=by rw [cI,hc]
def IP:List Value:=[.int .i64 0,S [],S [],S [],S [],S [],S [],S []]
def Dt(j m:Nat):List Value:=AS BA j++AS IP (m-j)
theorem Af2{j m:Nat}(h:j<=m):(Dt j m).length=m*8:=by unfold Dt;rw [List.length_append,Ii _ rfl,Ii _ rfl];omega
theorem Af0(m:Nat):Dt m m=AS BA m:=by unfold Dt;rw [Nat.sub_self];exact List.append_nil _
theorem Af1{i j m:Nat}(hi:i<j*8):(Dt j m)[i]?=(AS BA j)[i]?:=by
 unfold Dt;rw [List.getElem?_append_left (by rw [Ii _ rfl];exact hi)]
theorem Af3{j k m:Nat}(h:j+k<=m):(Dt j m).take (j*8)++AS BA k++(Dt j m).drop (j*8+(AS BA k).length)=Dt (j+k) m:=by
 unfold Dt;have e1:(AS BA j).length=j*8:=Ii _ rfl j;have e2:(AS BA k).length=k*8:=Ii _ rfl k;have e4:(AS IP k).length=k*8:=Ii _ rfl k;have e3:AS IP (m-j)=AS IP k++AS IP (m-(j+k)):=(by rw [←cG];congr 1;omega);have d1:(AS BA j++AS IP (m-j)).take (j*8)=AS BA j:=by rw [←e1,List.take_left]
 have d2:(AS BA j++(AS IP k++AS IP (m-(j+k)))).drop (j*8+k*8)=AS IP (m-(j+k)):=by rw [←List.append_assoc,show j*8+k*8=(AS BA j++AS IP k).length by rw [List.length_append,e1,e4],List.drop_left]
 rw [e2,d1,e3,d2,cG]
theorem cK{cs:List Value}(h:∀v∈cs,v.oneCell'=true):∀n,∀v∈AS cs n,v.oneCell'=true
 | 0,v,hv=>by cases hv
 | n+1,v,hv=>by
  rw [AS,List.mem_append]at hv
  rcases hv with hv|hv
  ·exact h v hv
  ·exact cK h n v hv
theorem Tryz.infoX8:(Tryz.prog.info? 29).map (fun i=>(i.zero,i.size,i.bytes))=some (some (.agg #[.int .i64 0,S [],S [],S [],S [],S [],S [],S []]),8,120):=by kernel_rfl
theorem AfG(w:World)(ty:TypeId)(g o kW wn:Nat)(a:Addr)(yS AfP:Nat)(cur:Array Value)(t:TypeId)(cs:List Value)(k:Nat)
  (hg:w.heap[g]?=some (.cells cur t (0,0))) (hk:Nat.min yS kW=k) (hn:cs.length=k*8)
  (U9:∀j v,cs[j]?=some v→w.cell? (a.add j)=some v) (Abf:o+cs.length<=cur.size) (h1:∀v∈cs,v.oneCell'=true) :
  (Builtin.copy_ #[23,23] ty #[.slice (some ⟨g,o,none⟩) kW wn,.slice (some a) yS AfP]).run Tryz.prog w =
   .ok (.int .i64 (k:Nat)) (w.setRow g (cur.toList.take o++cs++cur.toList.drop (o+cs.length)).toArray):=by
 obtain⟨i0,hi,hz0,hz1,hz2⟩:=info_parts Tryz.infoX8;have hl:=run_loadCells_list (P:=Tryz.prog) w a cs U9;have hst:=run_storeCells_at Tryz.prog g o t cs 0 cur w hg (by simpa using Abf) h1;rw [hn]at hl;simp [Builtin.copy_,run_underlying Tryz.underlying23,Builtin.lenOf,Builtin.firstCells,sizeOf,typeInfo,hi,hz1,hk,hl,hst,goInt]
theorem Ad8(n:Nat)(hn:n<=200000)(c:Int)(hc:c=(n:Int))(W:World) :
  (Instr.makeSlice 23 (.int .i64 c) (.int .i64 c)).run Tryz.prog W=.ok (.slice (some ⟨W.heap.size,0,none⟩) n n) (W.alloc (.cells (madeCells #[.int .i64 0,S [],S [],S [],S [],S [],S [],S []] (n*8)) 29)):=by
 subst hc;obtain⟨i0,hi,hz0,hz1,hz2⟩:=info_parts Tryz.infoX8;have h:=run_make (P:=Tryz.prog) W 23 29 i0 (.agg #[.int .i64 0,S [],S [],S [],S [],S [],S [],S []]) Tryz.underlying23 hi hz0 .i64 .i64 n n (by omega) (by omega) (by rw [hz2];omega) (by omega);rw [hz1]at h;simp only [Int.toNat_natCast]at h;exact h
theorem Ad5(m:Nat):madeCells #[.int .i64 0,S [],S [],S [],S [],S [],S [],S []] (m*8)=(Dt 0 m).toArray:=by
 apply Array.ext_getElem?;intro i;rw [show (Dt 0 m).toArray[i]?=(Dt 0 m)[i]? from List.getElem?_toArray];unfold Dt;rw [show AS BA 0 = [] from rfl,List.nil_append,Nat.sub_zero];by_cases h:i<m*8
 ·rw [cJ _ rfl m i h];unfold madeCells;rw [Array.getElem?_map,Array.getElem?_range,if_pos h];have:i%8=0∨i%8=1∨i%8=2∨i%8=3∨i%8=4∨i%8=5∨i%8=6∨i%8=7:=by omega
  rcases this with e|e|e|e|e|e|e|e<;>(simp [e,IP])
 ·rw [Array.getElem?_eq_none (by rw [size_madeCells];omega),List.getElem?_eq_none (by rw [Ii _ rfl];omega)]
theorem lW{w0 w:World}{g:Nat}(h:Ac w0 w)(hg:w0.heap.size<=g)(cs:Array Value):Ac w0 (w.setRow g cs):=
 Below.trans h ⟨rfl,rfl,rfl,by simp [World.setRow],fun k hk=>setRow_other w g k cs (by omega)⟩
theorem kK{m j k:Nat}(hjk:j+k<=m){W:World}{b:Nat}(hb:W.heap[b]?=some (.cells (Dt j m).toArray 29 (0,0)))(a:Addr)(dl dc sl sc:Nat)(hk:Nat.min sl dl=k)
  (hs:∀i v,(AS BA k)[i]?=some v→W.cell? (a.add i)=some v) (ty:TypeId) :
  (Builtin.copy_ #[23,23] ty #[.slice (some ⟨b,j*8,none⟩) dl dc,.slice (some a) sl sc]).run Tryz.prog W=.ok (.int .i64 (k:Nat)) (W.setRow b (Dt (j+k) m).toArray):=by
 have e2:(AS BA k).length=k*8:=Ii _ rfl k;have h:=AfG W ty b (j*8) dl dc a sl sc _ _ (AS BA k) k hb hk e2 hs (by rw [e2,List.size_toArray,Af2 (by omega)];omega) (cK (by decide) k);rw [h,Af3 hjk]
section
open Go.Sort Go.Shelf
theorem kC(n:Nat)(A:Option Addr)(cc:Nat)(w:World)(hr:Ae w A (AS BA n))(hlen:n<=100000) :
  Calls Tryz.prog 53 #[.slice A n cc] w (fun e w'=>∃v,e=.returned v/\w'.ownsRow w.heap.size 29 8 v n (AS BA n)/\Ac w w'):=by
 cases A with
 | none=>
  have h0:n=0:=by
   refine Classical.byContradiction fun h=>?_;obtain⟨b,o,e,_⟩:=hr.ad (by rw [Ii _ rfl];omega)
   cases e
  subst h0;have hq:=fun W=>Lib.run_eql_slice_nil (P:=Tryz.prog) W 23 29 none 0 cc 0 0 Tryz.underlying23;clear hr;go_enter Tryz.func53,Tryz.ntmps53;go_wp2;go_ret;exact⟨_,rfl,⟨rfl,.inl ⟨rfl,rfl⟩⟩,Ac.refl _⟩
 | some a=>
  have hrow:=World.ownsRow_lit (base:=w.heap.size) (e:=29) (size:=8) w #[] 0 (Ajz _) (by unfold maxLen;omega) rfl;have hE:=(Ac.refl w).alloc (.cells #[] 29)
  have hnews:∀j u,(AS BA n)[j]?=some u→(w.alloc (.cells #[] 29)).cell? (a.add j)=some u:=by
   intro j u hu;obtain⟨hj,Ie⟩:=List.getElem?_eq_some_iff.1 hu;obtain⟨b,o,e,hc⟩:=(hr.ext hE).ad (by omega)
   cases e;rw [Addr.add_lit,←Ie];exact hc j hj
  have h1c:∀u∈AS BA n,u.oneCell'=true:=cK (by decide) n;obtain⟨i0,hi,hz0,hz1,hz2⟩:=info_parts Tryz.infoX8;have hq:=fun W=>Lib.run_eql_slice_nil (P:=Tryz.prog) W 23 29 (some a) n cc 0 0 Tryz.underlying23;clear hr;have HW:=Ajw hrow;have HE:=Ajw hE;have HN:=Ajw hnews;clear hrow hE hnews;go_enter Tryz.func53,Tryz.ntmps53
  go_wp2_with (at_builtin;go_loud (refine wpList_append_own _ rfl _ _ 23 rfl w.heap.size 29 i0 (.agg #[.int .i64 0,S [],S [],S [],S [],S [],S [],S []]) 8 120 Tryz.underlying23 hi hz0 hz1 hz2 rfl (by omega) (.slice (some ⟨w.heap.size,0,none⟩) 0 0) 0 [] rfl HW.out a n cc (AS BA n) rfl (Ii _ rfl n) HN.out h1c (by unfold maxLen;omega) (by omega) HE.out.size ?_);intro v9 w9 BS CO hnil9)
  go_ret;rw [Nat.zero_add,List.nil_append]at BS;exact⟨_,rfl,BS,HE.out.grown CO fun k hk=>by simp only [Value.ownBlock,Aj3]at hk;omega⟩
end
end Go.Proofs.YtgnejnampofhoaaGreatDoor
