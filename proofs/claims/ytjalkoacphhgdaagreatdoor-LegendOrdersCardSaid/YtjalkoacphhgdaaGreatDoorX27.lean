/- X27: M1 M2 M3 M4 M5 M6 M7 M8 M9 M10. -/
import Derived.Maps.RangeWalk
import Derived.Maps.AppendAt
import Derived.Test.YtjalkoacphhgdaaGreatDoorX24
set_option maxRecDepth 100000
set_option maxHeartbeats 8000000
namespace Go.Proofs.YtjalkoacphhgdaaGreatDoor
open Go.RowKit Kl
def AL(s t:Sg):Bool:=Ap s.a t.a&&Ap s.b t.b
theorem II{s t:Sg} : AL s t=true↔s=t:=by
 unfold AL;rw [Bool.and_eq_true,C0,C0];constructor
 ·rintro⟨h1,h2⟩
  cases s;cases t;simp_all
 ·rintro rfl;exact⟨rfl,rfl⟩
theorem uR(p q:Pt)(W:World):(Op.equal 92 (Ak p) (Ak q)).run Tryz.prog W=.ok (Ap p q) W:=by
 unfold Ap Ak;rw [←JP,←JP]
 cases b1:(R p.x == R q.x)<;>cases b2:(R p.y == R q.y)<;>simp [go_sem,Op.equal,Op.maxDepth,b1,b2]
theorem uS(s t:Sg)(W:World):(Op.equal 155 (As s) (As t)).run Tryz.prog W=.ok (AL s t) W:=by
 unfold AL Ap As;rw [←JP,←JP,←JP,←JP]
 cases b1:(R s.a.x == R t.a.x)<;>cases b2:(R s.a.y == R t.a.y)<;>cases b3:(R s.b.x == R t.b.x)<;>cases b4:(R s.b.y == R t.b.y)<;>simp [go_sem,Op.equal,Op.maxDepth,b1,b2,b3,b4]
theorem rZ(b:Bool)(p:Pt)(W:World):(Instr.checkKey b 10000 92 (Ak p)).run Tryz.prog W=.ok () W:=by
 unfold Ak
 kernel_rfl
theorem sE(b:Bool)(s:Sg)(W:World):(Instr.checkKey b 10000 155 (As s)).run Tryz.prog W=.ok () W:=by
 unfold As
 kernel_rfl
/-! ### Entries -/
section
variable {α : Type} (enc : α → Value) (same : α → α → Bool)
def AB(l:List (α×Value×Nat)):List MapEntry:=l.map (fun e=>⟨enc e.1,e.2.1,e.2.2⟩)
theorem vP{kt:TypeId}(heq:∀x y W,(Op.equal kt (enc x) (enc y)).run Tryz.prog W=.ok (same x y) W)(k:α)(W:World):∀(l:List (α×Value×Nat)) (i:Nat),
  (Instr.findAsking kt (enc k) (AB enc l) i).run Tryz.prog W=.ok ((l.findIdx? (fun e=>same k e.1)).bind (fun j=>(l[j]?).map (fun e=>(i+j,e.2.1)))) W
 | [],i=>by simp [AB,Instr.findAsking]
 | e::l,i=>by
  have ih:=vP heq k W l (i+1);have e0:AB enc (e::l)=⟨enc e.1,e.2.1,e.2.2⟩::AB enc l:=rfl;rw [e0];unfold Instr.findAsking;simp only [Sem.run_bind,heq,Result.andThen_ok];rw [List.findIdx?_cons]
  cases h:same k e.1
  ·simp only [Bool.false_eq_true,if_false,ih]
   congr 1
   cases h2:l.findIdx? (fun e=>same k e.1)with
   | none=>simp
   | some j=>
    simp only [Option.map_some,Option.bind_some,List.getElem?_cons_succ]
    congr 1
    funext x
    rw [show i+1+j=i+(j+1)by omega]
  ·simp
end
section
variable {α : Type} {enc : α → Value} {same : α → α → Bool}
structure JJ(mt kt et:TypeId)(z:Value)(enc:α→Value)(same:α→α→Bool):Prop where
 map:Tryz.prog.underlying mt=some (.map kt et)
 st:∃fs,Tryz.prog.underlying kt=some (.struct fs)
 zero:∀W,(zeroValue et).run Tryz.prog W=.ok z W
 eq:∀x y W,(Op.equal kt (enc x) (enc y)).run Tryz.prog W=.ok (same x y) W
 chk:∀b x W,(Instr.checkKey b 10000 kt (enc x)).run Tryz.prog W=.ok () W
 iff:∀{x y},same x y=true↔x=y
 bits:∀x,Instr.sameBits 10000 (enc x) (enc x)=true
def Ft(same:α→α→Bool)(k:α)(l:List (α×Value×Nat)):Option Nat:=l.findIdx? (fun e=>same k e.1)
theorem Sq{mt kt et:TypeId}{z:Value}(K:JJ mt kt et z enc same)(k:α)(l:List (α×Value×Nat))(W:World) :
  (Instr.findKey kt (enc k) (AB enc l)).run Tryz.prog W=.ok ((Ft same k l).bind (fun j=>(l[j]?).map (fun e=>(j,e.2.1)))) W:=by
 obtain⟨fs,hfs⟩:=K.st;unfold Instr.findKey;simp only [Sem.run_bind,run_underlying hfs,Result.andThen_ok]
 cases l with
 | nil=>simp [AB,Instr.findNow,Ft]
 | cons e l=>
  have e0:AB enc (e::l)=⟨enc e.1,e.2.1,e.2.2⟩::AB enc l:=rfl
  have h1:Instr.findNow (.struct fs) (enc k) (AB enc (e::l)) 0=none:=by rw [e0];unfold Instr.findNow;have:Instr.sameNow (.struct fs) (enc k) (enc e.1)=none:=(by unfold Instr.sameNow;rfl);rw [this]
  rw [h1];have h2:=vP enc same K.eq k W (e::l) 0;simp only [Nat.zero_add]at h2;exact h2
def Fu(same:α→α→Bool)(z:Value)(k:α)(l:List (α×Value×Nat)):Value:=match l.find? (fun e=>same k e.1)with|some e=>e.2.1|none=>z
theorem ko{k:α}{l:List (α×Value×Nat)} : (Ft same k l).bind (fun j=>(l[j]?).map (fun e=>(j,e.2.1)))=(Ft same k l).bind (fun j=>(l.find? (fun e=>same k e.1)).map (fun e=>(j,e.2.1))):=by
 unfold Ft
 cases h:l.findIdx? (fun e=>same k e.1)with
 | none=>rfl
 | some j=>
  simp only [Option.bind_some];rw [List.findIdx?_eq_some_iff_getElem]at h;obtain⟨hj,h1,h2⟩:=h
  have h3:l.find? (fun e=>same k e.1)=some l[j]:=by rw [List.find?_eq_some_iff_getElem];exact⟨h1,j,hj,rfl,fun i hi=>by have:=h2 i hi;simpa using this⟩
  rw [h3,AqP hj]
theorem QQ{mt kt et:TypeId}{z:Value}(K:JJ mt kt et z enc same)(k:α)(l:List (α×Value×Nat)){b clock:Nat}{W:World}(hb:W.heap[b]?=some (.map (AB enc l).toArray clock)) :
  (Instr.lookup mt (.map (some b)) (enc k) false).run Tryz.prog W=.ok (Fu same z k l) W:=by
 have hf:=Sq K k l W;rw [ko]at hf;unfold Fu
 cases h:l.find? (fun e=>same k e.1)with
 | none=>
  rw [h]at hf
  have hf':(Instr.findKey kt (enc k) (AB enc l)).run Tryz.prog W=.ok none W:=by rw [hf];cases Ft same k l<;>rfl
  simp [Instr.lookup,run_underlying K.map,MapKept.run_getObj_map hb,K.chk,hf',K.zero,Result.andThen]
 | some e=>
  have hi:(Ft same k l).isSome:=by unfold Ft;rw [List.findIdx?_isSome,List.any_eq_true];exact⟨e,List.mem_of_find?_eq_some h,(by have:=List.find?_some h;exact this)⟩
  obtain⟨j,hj⟩:=Option.isSome_iff_exists.1 hi;rw [h,hj]at hf;simp only [Option.bind_some,Option.map_some]at hf;simp [Instr.lookup,run_underlying K.map,MapKept.run_getObj_map hb,K.chk,hf,Result.andThen]
end
theorem Q0:JJ 132 92 33 (.slice none 0 0) Ak Ap where
 map:=Tryz.underlying132
 st:=⟨_,Tryz.underlying92⟩
 zero:=fun W=>by simp [go_sem]
 eq:=uR
 chk:=rZ
 iff:=C0
 bits:=fun x=>by unfold Ak;simp [Instr.sameBits,beq_toListBytes]
theorem Xs:JJ 131 155 3 (.int .i64 0) As AL where
 map:=Tryz.underlying131
 st:=⟨_,Tryz.underlying155⟩
 zero:=fun W=>by simp [go_sem]
 eq:=uS
 chk:=sE
 iff:=II
 bits:=fun x=>by unfold As;simp [Instr.sameBits,beq_toListBytes]
section
open Go.ChangeMaps (setBlock)
theorem LX{w:World}{b:Nat}{o o':Obj}(h:w.heap[b]?=some o'):(setBlock w b o).heap[b]?=some o:=by
 have hlt:=(Array.getElem?_eq_some_iff.1 h).1;show (w.heap.setIfInBounds b o)[b]?=some o;rw [Array.getElem?_setIfInBounds_self];simp [hlt]
theorem Uo{w:World}{b k:Nat}{o:Obj}(h:k≠b):(setBlock w b o).heap[k]?=w.heap[k]?:=by
 show (w.heap.setIfInBounds b o)[k]?=w.heap[k]?;rw [Array.getElem?_setIfInBounds_ne (by omega)]
theorem mH{w:World}{b:Nat}{o:Obj}(h:w.heap[b]?=some o):setBlock w b o=w:=by
 have hlt:=(Array.getElem?_eq_some_iff.1 h).1
 have e:w.heap.setIfInBounds b o=w.heap:=by
  apply Array.ext_getElem?;intro i;by_cases hi:i=b
  ·subst hi;rw [Array.getElem?_setIfInBounds_self];simp [hlt]at *;exact h.symm
  ·rw [Array.getElem?_setIfInBounds_ne (by omega)]
 unfold setBlock;rw [e]
section
variable {α : Type} {enc : α → Value} {same : α → α → Bool}
theorem lU{mt kt et:TypeId}{z:Value}(K:JJ mt kt et z enc same)(k:α)(l:List (α×Value×Nat))(hno:∀e∈l,same k e.1=false){b clock:Nat}{W:World}(hb:W.heap[b]?=some (.map (AB enc l).toArray clock)) :
  (Instr.mapEntry mt (.map (some b)) (enc k)).run Tryz.prog W=.ok (.tuple #[z,.int .i64 (clock:Nat)]) (setBlock W b (.map (AB enc (l ++ [(k,z,clock)])).toArray (clock+1))):=by
 have hf:=Sq K k l W
 have hi:Ft same k l=none:=by unfold Ft;rw [List.findIdx?_eq_none_iff];exact hno
 rw [hi]at hf;simp only [Option.bind_none]at hf
 have e0:AB enc l ++ [{key:=enc k,val:=z,born:=clock}]=AB enc (l ++ [(k,z,clock)]):=by simp [AB]
 simp [Instr.mapEntry,run_underlying K.map,MapKept.run_getObj_map hb,K.chk,hf,K.zero,MapKept.run_setObj_map _ hb,Result.andThen,setBlock,e0,goInt]
theorem Am7{mt kt et:TypeId}{z:Value}(K:JJ mt kt et z enc same)(k:α)(l:List (α×Value×Nat)){j:Nat}(hj:j<l.length)(hno:∀e∈l.take j,same k e.1=false)(hk:l[j].1=k){b clock:Nat}{W:World}(hb:W.heap[b]?=some (.map (AB enc l).toArray clock)) :
  (Instr.mapEntry mt (.map (some b)) (enc k)).run Tryz.prog W=.ok (.tuple #[l[j].2.1,.int .i64 (l[j].2.2:Nat)]) W:=by
 have hf:=Sq K k l W
 have hi:Ft same k l=some j:=by unfold Ft;rw [List.findIdx?_eq_some_iff_getElem];refine⟨hj,by rw [hk];exact K.iff.2 rfl,fun i Bc=>?_⟩;rw [Bool.not_eq_true];refine hno l[i] ?_;rw [List.mem_take_iff_getElem];exact⟨i,by omega,rfl⟩
 rw [hi]at hf;simp only [Option.bind_some,AqP hj,Option.map_some]at hf
 have Em:(AB enc l)[j]?=some ⟨enc k,l[j].2.1,l[j].2.2⟩:=by simp [AB,AqP hj,hk]
 have hst:(Instr.keyThatStays (enc k) (enc k)).run Tryz.prog W=.ok (enc k) W:=by simp [Instr.keyThatStays,K.bits]
 have hmod:(AB enc l).modify j (fun e=>{e with key:=enc k})=AB enc l:=by
  apply List.ext_getElem?;intro i;rw [List.getElem?_modify];by_cases Bc:j=i
  ·subst Bc;rw [Em];simp
  ·simp [Bc]
 have AS:(setBlock W b (.map (AB enc l).toArray clock))=W:=mH hb;unfold setBlock at AS;simp [Instr.mapEntry,run_underlying K.map,MapKept.run_getObj_map hb,K.chk,hf,Em,hst,MapKept.run_setObj_map _ hb,Result.andThen,goInt];rw [hmod];exact AS
theorem wq(mt:TypeId)(l:List (α×Value×Nat)){j:Nat}(hj:j<l.length)(hno:∀e∈l.take j,e.2.2≠l[j].2.2)(v:Value){b clock:Nat}{W:World}(hb:W.heap[b]?=some (.map (AB enc l).toArray clock)) :
  (Instr.entryStore mt (.map (some b)) (.int .i64 (l[j].2.2:Nat)) v).run Tryz.prog W=.ok () (setBlock W b (.map (AB enc (l.set j (l[j].1,v,l[j].2.2))).toArray clock)):=by
 have hf:(AB enc l).findIdx? (fun e=>(e.born:Int) == (l[j].2.2:Int))=some j:=by rw [List.findIdx?_eq_some_iff_getElem];refine⟨by simp [AB];exact hj,by simp [AB],fun i Bc=>?_⟩;have:=hno l[i] (by rw [List.mem_take_iff_getElem];exact⟨i,by omega,rfl⟩);simp [AB];omega
 have e0:(AB enc l).modify j (fun e=>{e with val:=v})=AB enc (l.set j (l[j].1,v,l[j].2.2)):=by
  apply List.ext_getElem?;intro i;rw [List.getElem?_modify];by_cases Bc:j=i
  ·subst Bc;simp [AB,hj]
  ·simp [Bc,AB,List.getElem?_set_ne Bc]
 simp [Instr.entryStore,MapKept.run_getObj_map hb,asInt,asIntOf,hf,MapKept.run_setObj_map _ hb,Result.andThen,setBlock,e0]
end
end
section
open Go.ChangeMaps (setBlock)
def AW(s:Sg):Sg:=⟨s.b,s.a⟩
theorem UY(s:Sg)(w:World):Calls Tryz.prog 104 #[As s] w (De (As (AW s)) w):=by
 have hE:=((Aa.refl w).alloc (.cells #[S (R s.a.x),S (R s.a.y),S (R s.b.x),S (R s.b.y)] 155)).alloc (.cells #[S [],S [],S [],S []] 155);have hb1:=(Below.heap_alloc (w.alloc (.cells #[S (R s.a.x),S (R s.a.y),S (R s.b.x),S (R s.b.y)] 155)) (.cells #[S [],S [],S [],S []] 155) w.heap.size (by simp)).trans (AqJ w (.cells #[S (R s.a.x),S (R s.a.y),S (R s.b.x),S (R s.b.y)] 155));have hb2:=AqJ (w.alloc (.cells #[S (R s.a.x),S (R s.a.y),S (R s.b.x),S (R s.b.y)] 155)) (.cells #[S [],S [],S [],S []] 155);rw [AqR]at hb2;unfold AW As;go_enter Tryz.func104,Tryz.ntmps104
 go_upto_region 1 with fail
 rw [show (⟨#[]⟩:ByteArray)=⟨([]:Bs).toArray⟩from rfl];generalize (w.alloc (.cells #[S (R s.a.x),S (R s.a.y),S (R s.b.x),S (R s.b.y)] 155)).alloc (.cells #[S [],S [],S [],S []] 155)=V at *;obtain⟨bb,Br⟩:=AqG w.heap.size;have hle:w.heap.size<=bb+1:=(by omega);rw [←Br]at hb1 hb2 ⊢;clear Br;have k1:=Ab (o:=0) hb1 rfl;have k2:=Ab (o:=1) hb1 rfl;have k3:=Ab (o:=2) hb1 rfl;have k4:=Ab (o:=3) hb1 rfl;have y0:=AK (o:=0) hb2;have y1:=AK (o:=1) hb2;have y2:=AK (o:=2) hb2;have y3:=AK (o:=3) hb2;have z0:=Ab (o:=0) hb2 rfl;have z1:=Ab (o:=1) hb2 rfl;have z2:=Ab (o:=2) hb2 rfl;have z3:=Ab (o:=3) hb2 rfl;have hq:=P1 (S (R s.b.x)) (S (R s.b.y)) (S (R s.a.x)) (S (R s.a.y)) hb2;have q0:=Ab (o:=0) hq rfl;have q1:=Ab (o:=1) hq rfl;have q2:=Ab (o:=2) hq rfl;have q3:=Ab (o:=3) hq rfl;clear hq hb1 hb2;go_wp2;refine bodyPost_ret (v:=.agg #[S (R s.b.x),S (R s.b.y),S (R s.a.x),S (R s.a.y)]) (by simp [results,Tryz.results104,go_sem,q0,q1,q2,q3]) rfl ?_;exact⟨rfl,(((hE.setCell (p:=⟨bb+1,0,none⟩) hle _).setCell (p:=⟨bb+1,1,none⟩) hle _).setCell (p:=⟨bb+1,2,none⟩) hle _).setCell (p:=⟨bb+1,3,none⟩) hle _⟩
def NZ(w:World):World:=((w.alloc (.map #[] 0)).alloc (.map #[] 0)).alloc (.cells #[.map (some w.heap.size),.map (some (w.heap.size+1))] 134)
theorem uJ(w:World):Calls Tryz.prog 106 #[] w (fun e w'=>e=.returned (.pointer (some ⟨w.heap.size+1+1,0,none⟩))/\w'=NZ w):=by
 have hmm:=@run_makeMap Tryz.prog;go_enter Tryz.func106,Tryz.ntmps106;go_wp2;go_ret;exact⟨rfl,rfl⟩
end
section
open Go.ChangeMaps (setBlock)
def FY(R:List (Pt×List Pt))(p:Pt):Nat:=(R.findIdx? (fun e=>Ap p e.1)).getD R.length
def Gx(R:List (Pt×List Pt))(p:Pt):List (Pt×List Pt):=match R.findIdx? (fun e=>Ap p e.1)with|some _=>R|none=>R ++ [(p,[])]
def CU(R:List (Pt×List Pt))(p q:Pt):List (Pt×List Pt):=(Gx R p).modify (FY R p) (fun e=>(e.1,e.2 ++ [q]))
structure D7(B:Nat)(W:World)(b2:Nat)(E:List (Pt×Value×Nat))(R:List (Pt×List Pt)):Prop where
 blk:W.heap[b2]?=some (.map (AB Ak E).toArray E.length)
 len:E.length=R.length
 row:∀i (h:i<E.length) (h':i<R.length),E[i].1=R[i].1/\E[i].2.2=i/\W.ownsRow B 92 2 E[i].2.1 R[i].2.length (flat (Ao R[i].2))
 apart:∀i j (hi:i<E.length) (hj:j<E.length),i≠j→E[i].2.1.ownBlock=none∨E[i].2.1.ownBlock≠E[j].2.1.ownBlock
 own:B<=b2
theorem D7.lt{B:Nat}{W:World}{b2:Nat}{E:List (Pt×Value×Nat)}{R:List (Pt×List Pt)}(h:D7 B W b2 E R):b2<W.heap.size:=(Array.getElem?_eq_some_iff.1 h.blk).1
theorem D7.keep{B:Nat}{W W':World}{b2:Nat}{E:List (Pt×Value×Nat)}{R:List (Pt×List Pt)}(h:D7 B W b2 E R)(hg:W.grownBy W' none):D7 B W' b2 E R:=
 ⟨(hg.block b2 h.lt (by simp)).trans h.blk,h.len,fun i hi hi'=>⟨(h.row i hi hi').1,(h.row i hi hi').2.1,(h.row i hi hi').2.2.kept hg (by
  rcases hv:E[i].2.1.ownBlock with _|g
  ·exact .inl rfl
  ·exact .inr (by simp))⟩,h.apart,h.own⟩
theorem aS{E:List (Pt×Value×Nat)}{R:List (Pt×List Pt)}(hl:E.length=R.length)(he:∀i (h:i<E.length) (h':i<R.length),E[i].1=R[i].1)(p:Pt):E.findIdx? (fun e=>Ap p e.1)=R.findIdx? (fun e=>Ap p e.1):=by
 have h1:E.map (·.1)=R.map (·.1):=by
  apply List.ext_getElem
  ·simp [hl]
  ·intro i h1 h2;simp at h1 h2 ⊢;exact he i h1 h2
 have f:∀{β:Type} (l:List (Pt×β)),l.findIdx? (fun e=>Ap p e.1)=(l.map (·.1)).findIdx? (Ap p):=by
  intro β l;rw [List.findIdx?_map]
  rfl
 rw [f E,f R,h1]
theorem Ld{w:World}{b:Nat}{o o':Obj}(_:w.heap[b]?=some o'):w.grownBy (setBlock w b o) (some b):=
 ⟨rfl,rfl,rfl,by simp [setBlock],fun k _ hk=>Uo (fun e=>hk (by rw [e]))⟩
theorem D7.entry{B:Nat}{W:World}{b2:Nat}{E:List (Pt×Value×Nat)}{R:List (Pt×List Pt)}(h:D7 B W b2 E R)(p:Pt) :
  ∃W1 E1,D7 B W1 b2 E1 (Gx R p)/\W.grownBy W1 (some b2)/\W1.heap.size=W.heap.size/\∃hj:FY R p<E1.length,∃hj':FY R p<(Gx R p).length,((Gx R p)[FY R p]).1=p/\
   (∀V,V.heap[b2]?=W.heap[b2]?→(Instr.mapEntry 132 (.map (some b2)) (Ak p)).run Tryz.prog V=.ok (.tuple #[E1[FY R p].2.1,.int .i64 (FY R p:Nat)]) (setBlock V b2 (.map (AB Ak E1).toArray E1.length)))/\W1=setBlock W b2 (.map (AB Ak E1).toArray E1.length):=by
 have Dk:=aS h.len (fun i h1 h2=>(h.row i h1 h2).1) p
 cases hf:R.findIdx? (fun e=>Ap p e.1)with
 | none=>
  have e1:FY R p=R.length:=(by unfold FY;rw [hf];rfl);have e2:Gx R p=R ++ [(p,[])]:=(by unfold Gx;rw [hf]);rw [hf]at Dk;have hno:∀e∈E,Ap p e.1=false:=(by rw [List.findIdx?_eq_none_iff]at Dk;exact Dk);have hnew:=lU Q0 p E hno (W:=W) h.blk;rw [e2];refine⟨_,E ++ [(p,.slice none 0 0,E.length)],⟨?_,?_,?_,?_,h.own⟩,Ld h.blk,?_,?_,?_,?_,?_,rfl⟩
  ·rw [LX h.blk]
  ·simp [h.len]
  ·intro i hi hi';by_cases hlt:i<E.length
   ·have Ql:i<R.length:=(by rw [←h.len];exact hlt);rw [List.getElem_append_left hlt,List.getElem_append_left Ql];obtain⟨r1,r2,r3⟩:=h.row i hlt Ql;refine⟨r1,r2,r3.kept (Ld h.blk) ?_⟩
    rcases r3.2 with⟨hn,_⟩|⟨g,cap,cur,hv,hb,hg,_⟩
    ·left;rw [hn];rfl
    ·right
     rw [hv];simp only [Value.ownBlock,ne_eq,AqO];intro e;rw [e,h.blk]at hg
     cases hg
   ·have Lu:i=E.length:=(by simp at hi;omega);subst Lu;rw [List.getElem_append_right (by omega),List.getElem_append_right (by rw [h.len];omega)];simp only [Nat.sub_self,List.getElem_cons_zero,h.len];exact⟨by trivial,by trivial,⟨rfl,.inl ⟨rfl,rfl⟩⟩⟩
  ·intro i j hi hj Bc;by_cases Tb:i<E.length
   ·rw [List.getElem_append_left Tb];by_cases AV:j<E.length
    ·rw [List.getElem_append_left AV];exact h.apart i j Tb AV Bc
    ·rw [List.getElem_append_right (by omega)];have Ng:j=E.length:=(by simp at hj;omega);subst Ng;simp only [Nat.sub_self,List.getElem_cons_zero]
     cases E[i].2.1.ownBlock with
     | none=>left;rfl
     | some g=>right;simp [Value.ownBlock]
   ·rw [List.getElem_append_right (by omega)];have Lu:i=E.length:=(by simp at hi;omega);subst Lu
    left
    simp [Value.ownBlock]
  ·simp [setBlock]
  ·rw [e1,←h.len];simp
  ·rw [e1];simp
  ·simp only [e1];rw [List.getElem_append_right (by omega)];simp
  ·intro V hV;have hnV:=lU Q0 p E hno (W:=V) (hV.trans h.blk);rw [hnV];simp only [e1];rw [List.getElem_append_right (by rw [h.len];omega)];simp [h.len]
 | some j=>
  have e1:FY R p=j:=(by unfold FY;rw [hf];rfl);have e2:Gx R p=R:=(by unfold Gx;rw [hf]);rw [hf]at Dk;rw [List.findIdx?_eq_some_iff_getElem]at Dk;obtain⟨hj,h1,h2⟩:=Dk;have hj':j<R.length:=by rw [←h.len];exact hj
  have hno:∀e∈E.take j,Ap p e.1=false:=by
   intro e he;rw [List.mem_take_iff_getElem]at he;obtain⟨i,hi,rfl⟩:=he;have:=h2 i (by omega)
   simpa using this
  have hk:E[j].1=p:=(C0.1 h1).symm;rw [e2];refine⟨W,E,h,⟨rfl,rfl,rfl,AqK _,fun _ _ _=>rfl⟩,rfl,by rw [e1];exact hj,by rw [e1];exact hj',?_,?_,(mH h.blk).symm⟩
  ·simp only [e1];rw [←(h.row j hj hj').1];exact hk
  ·intro V hV;have hb:=hV.trans h.blk;have:=Am7 Q0 p E hj hno hk (W:=V) hb;rw [this,mH hb];simp only [e1,(h.row j hj hj').2.1]
end
section
open Go.ChangeMaps (setBlock)
theorem D7.append{B:Nat}{Y:World}{b2:Nat}{E:List (Pt×Value×Nat)}{R:List (Pt×List Pt)}(h:D7 B Y b2 E R)(hB:B<=Y.heap.size){j:Nat}(hj:j<E.length)(hj':j<R.length)(hn:R[j].2.length<200000)
  (q:Pt) {g:Nat} (hg:Y.heap[g]?=some (.cells #[S (Kl.R q.x),S (Kl.R q.y)] 92)) (ty:TypeId) :
  ∃v' Z Z',(Builtin.append_ #[33,33] ty #[E[j].2.1,.slice (some ⟨g,0,none⟩) 1 1]).run Tryz.prog Y=.ok v' Z/\Y.grownBy Z E[j].2.1.ownBlock
   /\(Instr.entryStore 132 (.map (some b2)) (.int .i64 (j:Nat)) v').run Tryz.prog Z=.ok () Z'/\Z.grownBy Z' (some b2)/\D7 B Z' b2 (E.set j (E[j].1,v',j)) (R.modify j (fun e=>(e.1,e.2 ++ [q]))):=by
 obtain⟨i0,hi,hz0,hz1,hz2⟩:=info_parts Tryz.infoPt;obtain⟨r1,r2,r3⟩:=h.row j hj hj'
 obtain⟨v',Z,hr,hown,hgr,_,hat⟩:=run_append_own_at (P:=Tryz.prog) Y B 33 ty 92 i0 (.agg #[S [],S []]) 2 32 Tryz.underlying33 hi hz0 hz1 hz2 rfl (by omega) E[j].2.1 R[j].2.length (flat (Ao R[j].2)) r3
  ⟨g,0,none⟩ 1 1 [S (Kl.R q.x),S (Kl.R q.y)] rfl (fun k u hu=>by
   rw [Addr.add_lit,Nat.zero_add];refine Ab hg ?_;rw [←Array.getElem?_toList]
   exact hu) (fun u hu=>by
   simp only [List.mem_cons,AqV,or_false]at hu
   rcases hu with rfl|rfl<;>rfl) (by unfold maxLen;omega) (by omega) hB
 rw [←lJ]at hown
 have hb2:Z.heap[b2]?=Y.heap[b2]?:=hgr.block b2 h.lt (by
  rcases r3.2 with⟨hv,_⟩|⟨g0,cap,cur,hv,_,hg0,_⟩
  ·rw [hv];simp [Value.ownBlock]
  ·rw [hv];simp only [Value.ownBlock,ne_eq,AqO];intro e;rw [←e,h.blk]at hg0
   cases hg0)
 have Wh:=hb2.trans h.blk
 have hno:∀e∈E.take j,e.2.2≠E[j].2.2:=by intro e he;rw [List.mem_take_iff_getElem]at he;obtain⟨i,hi,rfl⟩:=he;rw [(h.row i (by omega) (by rw [←h.len];omega)).2.1,r2];omega
 have hst:=wq (enc:=Ak) 132 E hj hno v' Wh;rw [r2]at hst;have eU:=Ld (o:=.map (AB Ak (E.set j (E[j].1,v',j))).toArray E.length) Wh;refine⟨v',Z,_,hr,hgr,hst,eU,⟨?_,?_,?_,?_,h.own⟩⟩
 ·rw [LX Wh];simp
 ·simp [h.len]
 ·intro i hi hi';have Nb:i<E.length:=(by simpa using hi);have Lx:i<R.length:=(by simpa using hi');by_cases Bc:j=i
  ·subst Bc;rw [List.getElem_set_self,List.getElem_modify_eq];refine⟨r1,rfl,?_⟩;have hl:(R[j].2 ++ [q]).length=R[j].2.length+1:=(by simp);simp only [hl];refine hown.kept eU ?_
   rcases hown.2 with⟨hv,_⟩|⟨g0,cap,cur,hv,_,hg0,_⟩
   ·left;rw [hv];rfl
   ·right
    rw [hv];simp only [Value.ownBlock,ne_eq,AqO];intro e;rw [e,Wh]at hg0
    cases hg0
  ·rw [List.getElem_set_ne Bc];have hm:(R.modify j (fun e=>(e.1,e.2 ++ [q])))[i]=R[i]:=(by rw [List.getElem_modify,if_neg Bc]);rw [hm];obtain⟨s1,s2,s3⟩:=h.row i Nb Lx;refine⟨s1,s2,(s3.kept hgr (h.apart i j Nb hj (fun e=>Bc e.symm))).kept eU ?_⟩
   rcases s3.2 with⟨hv,_⟩|⟨g0,cap,cur,hv,_,hg0,_⟩
   ·left;rw [hv];rfl
   ·right
    rw [hv];simp only [Value.ownBlock,ne_eq,AqO];intro e;rw [e,h.blk]at hg0
    cases hg0
 ·intro i k hi hk hik;have Nb:i<E.length:=(by simpa using hi);have Te:k<E.length:=by simpa using hk
  have hlt:∀x (hx:x<E.length) (hx':x<R.length),E[x].2.1.ownBlock≠some Y.heap.size:=by
   intro x hx hx'
   rcases(h.row x hx hx').2.2.2 with⟨hv,_⟩|⟨g0,cap,cur,hv,_,hg0,_⟩
   ·rw [hv];simp [Value.ownBlock]
   ·rw [hv];have:=(Array.getElem?_eq_some_iff.1 hg0).1;simp only [Value.ownBlock,ne_eq,AqO];omega
  by_cases Bc:j=i
  ·subst Bc;rw [List.getElem_set_self,List.getElem_set_ne hik]
   rcases hat with e|e
   ·rw [e];exact h.apart j k Nb Te hik
   ·rw [e];right;exact fun e'=>hlt k Te (by rw [←h.len];exact Te) e'.symm
  ·rw [List.getElem_set_ne Bc];by_cases hjk:j=k
   ·subst hjk;rw [List.getElem_set_self]
    rcases hat with e|e
    ·rw [e];exact h.apart i j Nb Te hik
    ·rw [e];right;exact hlt i Nb (by rw [←h.len];exact Nb)
   ·rw [List.getElem_set_ne hjk];exact h.apart i k Nb Te hik
end
section
open Go.ChangeMaps (setBlock)
def stamp(L:List (Sg×Int)):List (Sg×Value×Nat):=L.mapIdx fun i e=>(e.1,.int .i64 e.2,i)
theorem D4(L:List (Sg×Int)):(stamp L).length=L.length:=by simp [stamp]
theorem yr(L:List (Sg×Int))(e:Sg×Int):stamp (L ++ [e])=stamp L ++ [(e.1,.int .i64 e.2,L.length)]:=by simp [stamp,List.mapIdx_append]
theorem mT{L:List (Sg×Int)}{x:Sg×Value×Nat}(h:x∈stamp L):∃e∈L,x.1=e.1:=by
 unfold stamp at h;rw [List.mem_mapIdx]at h;obtain⟨i,hi,rfl⟩:=h;exact⟨L[i],AqL hi,rfl⟩
theorem Anz{L:List (Sg×Int)}{x:Sg×Value×Nat}(h:x∈stamp L):x.2.2<L.length:=by
 unfold stamp at h;rw [List.mem_mapIdx]at h;obtain⟨i,hi,rfl⟩:=h;exact hi
structure Bw(B:Nat)(W:World)(r b1 b2:Nat)(L:List (Sg×Int))(E:List (Pt×Value×Nat))(R:List (Pt×List Pt)):Prop where
 cell:W.heap[r]?=some (.cells #[.map (some b1),.map (some b2)] 134)
 left:W.heap[b1]?=some (.map (AB As (stamp L)).toArray L.length)
 ar:D7 B W b2 E R
 r0:B<=r
 r1:B<=b1
 ne:b1≠b2
theorem mm{W:World}{b1:Nat}{L:List (Sg×Int)}(h:W.heap[b1]?=some (.map (AB As (stamp L)).toArray L.length))(s:Sg)(hno:∀e∈L,AL s e.1=false)(z:Int) :
  ∃X,(Instr.mapEntry 131 (.map (some b1)) (As s)).run Tryz.prog W=.ok (.tuple #[.int .i64 0,.int .i64 (L.length:Nat)]) X
   /\W.grownBy X (some b1)/\X.heap.size=W.heap.size
   /\∃Z,(Instr.entryStore 131 (.map (some b1)) (.int .i64 (L.length:Nat)) (.int .i64 z)).run Tryz.prog X=.ok () Z/\W.grownBy Z (some b1)/\Z.heap.size=W.heap.size/\Z.heap[b1]?=some (.map (AB As (stamp (L ++ [(s,z)]))).toArray (L ++ [(s,z)]).length):=by
 have Ah1:∀e∈stamp L,AL s e.1=false:=by intro e he;obtain⟨x,hx,h1⟩:=mT he;rw [h1];exact hno x hx
 have h1:=lU Xs s (stamp L) Ah1 (W:=W) h;have hb:=LX (o:=.map (AB As (stamp L ++ [(s,.int .i64 0,L.length)])).toArray (L.length+1)) h;have hlt:L.length<(stamp L ++ [(s,Value.int .i64 0,L.length)]).length:=by simp [D4]
 have hge:(stamp L ++ [(s,Value.int .i64 0,L.length)])[L.length]=(s,.int .i64 0,L.length):=by rw [List.getElem_append_right (by rw [D4];omega)];simp [D4]
 have h2:=wq (enc:=As) 131 (stamp L ++ [(s,.int .i64 0,L.length)]) hlt (by
  intro e he;rw [hge]
  have:e∈stamp L:=by rw [List.take_append_of_le_length (by rw [D4];omega),AqS (by rw [D4];omega)]at he;exact he
  have:=Anz this;show e.2.2≠L.length
  omega) (.int .i64 z) hb
 rw [hge]at h2
 have Gn:(stamp L ++ [(s,Value.int .i64 0,L.length)]).set L.length (s,.int .i64 z,L.length)=stamp (L ++ [(s,z)]):=by rw [yr,List.set_append_right _ _ (by rw [D4];omega)];simp [D4]
 rw [Gn]at h2;refine⟨_,h1,Ld h,by simp [setBlock],_,h2,?_,by simp [setBlock],?_⟩
 ·exact⟨rfl,rfl,rfl,by simp [setBlock],fun k _ hk=>by
   have hkb:k≠b1:=fun e=>hk (by rw [e])
   rw [Uo hkb,Uo hkb]⟩
 ·rw [LX hb];simp
end
section
open Go.ChangeMaps (setBlock)
theorem PE{w w':World}{row:Option Nat}(hg:w.grownBy w' row){a:Addr}{v:Value}(h:w.cell? a=some v)(hn:some a.block≠row):w'.cell? a=some v:=by
 have hlt:a.block<w.heap.size:=by
  unfold World.cell? at h
  rcases Nat.lt_or_ge a.block w.heap.size with h'|h'
  ·exact h'
  ·simp [Array.getElem?_eq_none h']at h
 exact(World.cell?_of_block (hg.block a.block hlt hn)).trans h
theorem G0{w w':World}(h:Aa w w')(row:Option Nat):w.grownBy w' row:=⟨h.os,h.tape,h.output,h.size,fun k hk _=>h.block k hk⟩
theorem Ob{a b c:World}{row:Option Nat}(h:a.grownBy b row)(k:b.grownBy c row):a.grownBy c row:=
 ⟨k.os.trans h.os,k.tape.trans h.tape,k.output.trans h.output,AqU h.size k.size,fun i hi hr=>(k.block i (AqT hi h.size) hr).trans (h.block i hi hr)⟩
theorem below_grown{B:Nat}{w w':World}{b:Nat}(hg:w.grownBy w' (some b))(hb:B<=b)(hB:B<=w.heap.size):Below B w w':=
 ⟨hg.os,hg.tape,hg.output,hg.size,fun k hk=>hg.block k (by omega) (by intro e;cases e;omega)⟩
theorem Ajb{W:World}{b1:Nat}{L:List (Sg×Int)}(h:W.heap[b1]?=some (.map (AB As (stamp L)).toArray L.length))(s:Sg)(h1:∀e∈L,AL s e.1=false)(h2:∀e∈L,AL (AW s) e.1=false)(hne:AL (AW s) s=false)(y z:Int) :
  ∃(n1:Nat) (X Z X2 Z2:World),(Instr.mapEntry 131 (.map (some b1)) (As s)).run Tryz.prog W=.ok (.tuple #[.int .i64 0,.int .i64 (L.length:Nat)]) X
   /\(Instr.entryStore 131 (.map (some b1)) (.int .i64 (L.length:Nat)) (.int .i64 y)).run Tryz.prog X=.ok () Z
   /\(Instr.mapEntry 131 (.map (some b1)) (As (AW s))).run Tryz.prog Z=.ok (.tuple #[.int .i64 0,.int .i64 (n1:Nat)]) X2
   /\(Instr.entryStore 131 (.map (some b1)) (.int .i64 (n1:Nat)) (.int .i64 z)).run Tryz.prog X2=.ok () Z2
   /\W.grownBy X (some b1)/\W.grownBy Z (some b1)/\W.grownBy X2 (some b1)/\W.grownBy Z2 (some b1)/\Z2.heap.size=W.heap.size/\Z2.heap[b1]?=some (.map (AB As (stamp (L ++ [(s,y),(AW s,z)]))).toArray (L ++ [(s,y),(AW s,z)]).length):=by
 obtain⟨X,e1,g1,s1,Z,e2,g2,s2,hb⟩:=mm h s h1 y
 obtain⟨X2,e3,g3,s3,Z2,e4,g4,s4,hb2⟩:=mm hb (AW s) (by
  intro e he
  rcases List.mem_append.1 he with he|he
  ·exact h2 e he
  ·simp only [AqW]at he;subst he;exact hne) z
 have hl:(L ++ [(s,y)]).length=L.length+1:=(by simp);rw [hl]at e3 e4;rw [List.append_assoc]at hb2;exact⟨L.length+1,X,Z,X2,Z2,e1,e2,e3,e4,g1,g2,Ob g2 g3,Ob g2 g4,by omega,hb2⟩
section
variable {ops : Array Oper} {o : Oper} {a : Act} {K : Act → World → Prop} {Q : Exit → Act → World → Prop} {E : Prop}
theorem yv(hgd:o.guard=none)(s x:Operand)(ho:o.op=.call {callee:=.builtin .append,args:=#[s,x],argTypes:=#[33,33]})
  {v u v':Value} {w Z:World} (hs:a.eval s=v) (hx:a.eval x=u) (hr:(Builtin.append_ #[33,33] o.type #[v,u]).run Tryz.prog w=.ok v' Z) (h:K (a.put o.dst v') Z) :
  if Region.wanted o (yielded ops a.tmps)=true then Oper.wp Tryz.prog o a w K Q else E:=by
 have hw:Region.wanted o (yielded ops a.tmps)=true:=(by simp [Region.wanted,hgd]);rw [if_pos hw];unfold Oper.wp execOp;simp only [ho,resolve,invoke,builtin,Sem.run_bind,Sem.run_pure,Result.andThen_ok,List.map_toArray,List.map_cons,List.map_nil,hs,hx,hr];exact h
end
def BF(b2:Nat)(W V:World):Prop:=W.heap.size<=V.heap.size/\∀k o,W.heap[k]?=some o→k≠b2→(∀cs,o≠.cells cs 92 (0,0))→V.heap[k]?=some o
theorem BF.trans{b2:Nat}{a b c:World}(h:BF b2 a b)(k:BF b2 b c):BF b2 a c:=
 ⟨AqU h.1 k.1,fun i o h1 h2 h3=>k.2 i o (h.2 i o h1 h2 h3) h2 h3⟩
theorem BF.of_ext{b2:Nat}{a b:World}(h:Aa a b):BF b2 a b:=⟨h.size,fun i _ h1 _ _=>(h.block i (Array.getElem?_eq_some_iff.1 h1).1).trans h1⟩
theorem BF.of_grown{b2:Nat}{a b:World}(h:a.grownBy b (some b2)):BF b2 a b:=⟨h.size,fun i _ h1 h2 _=>(h.block i (Array.getElem?_eq_some_iff.1 h1).1 (by simp;exact h2)).trans h1⟩
theorem qW{R:List (Pt×List Pt)}{p:Pt}{n:Nat}(h:∀e∈R,e.2.length<=n):∀e∈Gx R p,e.2.length<=n:=by
 unfold Gx
 split
 ·exact h
 ·intro e he
  rcases List.mem_append.1 he with he|he
  ·exact h e he
  ·simp only [AqW]at he;subst he;simp
theorem Z0{R:List (Pt×List Pt)}{p q:Pt}{n:Nat}(h:∀e∈R,e.2.length<=n):∀e∈CU R p q,e.2.length<=n+1:=by
 intro e he;unfold CU at he;obtain⟨i,hi,rfl⟩:=List.getElem_of_mem he;rw [List.getElem_modify];have hi':i<(Gx R p).length:=(by simpa using hi);have:=qW (p:=p) h _ (AqL hi')
 split
 ·simp;omega
 ·omega
theorem qX{B:Nat}{W:World}{b2:Nat}{E:List (Pt×Value×Nat)}{R0:List (Pt×List Pt)}(h:D7 B W b2 E R0)(hB:B<=W.heap.size)(p q:Pt)(hn:∀e∈R0,e.2.length<=100000) :
  ∃(j:Nat) (v v':Value) (X Z Z':World) (E':List (Pt×Value×Nat)),
   (Instr.mapEntry 132 (.map (some b2)) (Ak p)).run Tryz.prog (W.alloc (.cells #[S (R q.x),S (R q.y)] 92)).drew=.ok (.tuple #[v,.int .i64 (j:Nat)]) X
   /\(∀ty,ty=33→(Builtin.append_ #[33,33] ty #[v,.slice (some ⟨W.heap.size,0,none⟩) 1 1]).run Tryz.prog X=.ok v' Z)
   /\(Instr.entryStore 132 (.map (some b2)) (.int .i64 (j:Nat)) v').run Tryz.prog Z=.ok () Z'
   /\BF b2 W X/\BF b2 W Z/\BF b2 W Z'/\Below B W Z'/\D7 B Z' b2 E' (CU R0 p q):=by
 have hx:=((Aa.refl W).alloc (.cells #[S (R q.x),S (R q.y)] 92)).drew;have hg0:(W.alloc (.cells #[S (R q.x),S (R q.y)] 92)).drew.heap[W.heap.size]?=_:=AqJ W (.cells #[S (R q.x),S (R q.y)] 92);have hA:=h.keep (G0 hx none);obtain⟨X,E1,hA1,g1,s1,hj,hj',hk,hrun,hX⟩:=hA.entry p;have hgX:X.heap[W.heap.size]?=some (.cells #[S (R q.x),S (R q.y)] 92):=(g1.block _ (by simp) (by have:=h.lt;simp;omega)).trans hg0;have wG:B<=X.heap.size:=by rw [s1];simp;omega
 have hlen:((Gx R0 p)[FY R0 p]).2.length<200000:=by have:=qW hn _ (AqL hj');omega
 obtain⟨v',Z,Z',hr,gZ,hst,vZ,hA2⟩:=hA1.append wG hj hj' hlen q hgX 33;have mR:BF b2 W X:=(BF.of_ext hx).trans (BF.of_grown g1)
 have yq:BF b2 X Z:=by
  refine⟨gZ.size,fun k o h1 _ h3=>(gZ.block k (Array.getElem?_eq_some_iff.1 h1).1 ?_).trans h1⟩
  rcases(hA1.row _ hj hj').2.2.2 with⟨hv,_⟩|⟨g,cap,cur,hv,_,hg,_⟩
  ·rw [hv];simp [Value.ownBlock]
  ·rw [hv];simp only [Value.ownBlock,ne_eq,AqO];intro e;rw [e,hg]at h1;exact h3 cur (Option.some.inj h1).symm
 have bZ:Below B X Z:=⟨gZ.os,gZ.tape,gZ.output,gZ.size,fun k hkB=>gZ.block k (by omega) (by
  rcases(hA1.row _ hj hj').2.2.2 with⟨hv,_⟩|⟨g,cap,cur,hv,hb,_⟩
  ·rw [hv];simp [Value.ownBlock]
  ·rw [hv];simp only [Value.ownBlock,ne_eq,AqO];omega)⟩
 have bb:=h.own;have VE:B<=Z.heap.size:=AqU wG gZ.size;have Ac6:Below B W Z':=((Below.mono hx hB).trans (below_grown g1 bb (by simp;omega))).trans (bZ.trans (below_grown vZ bb VE));refine⟨FY R0 p,E1[FY R0 p].2.1,v',X,Z,Z',_,?_,?_,hst,mR,mR.trans yq,mR.trans (yq.trans (BF.of_grown vZ)),Ac6,hA2⟩
 ·rw [hX];exact hrun _ rfl
 ·intro ty iE;subst iE;exact hr
theorem Z1{B:Nat}{w:World}{r b1 b2:Nat}{L:List (Sg×Int)}{E:List (Pt×Value×Nat)}{R0:List (Pt×List Pt)}(h:Bw B w r b1 b2 L E R0)(hB:B<=w.heap.size)(s:Sg)(y z:Int)
  (h1:∀e∈L,AL s e.1=false) (h2:∀e∈L,AL (AW s) e.1=false) (hne:AL (AW s) s=false) (hn:∀e∈R0,e.2.length<=90000) :
  Calls Tryz.prog 111 #[.pointer (some ⟨r,0,none⟩),As s,.int .i64 y,.int .i64 z] w (fun e w'=>e=.returned (.tuple #[])/\Below B w w'/\(∀k o,w.heap[k]?=some o→k≠b1→k≠b2→(∀cs,o≠.cells cs 92 (0,0))→w'.heap[k]?=some o)/\∃E',Bw B w' r b1 b2 (L ++ [(s,y),(AW s,z)]) E' (CU (CU R0 s.a s.b) s.b s.a)):=by
 have hE:=(Aa.refl w).alloc (.cells #[S (R s.a.x),S (R s.a.y),S (R s.b.x),S (R s.b.y)] 155);have Fh:=AqJ w (.cells #[S (R s.a.x),S (R s.a.y),S (R s.b.x),S (R s.b.y)] 155);obtain⟨hc,hl,ha,hr0,hr1,Br⟩:=h;have hcl:=AqI hc;have Dx:=(Array.getElem?_eq_some_iff.1 hl).1;have Iz:=ha.lt;have bk:=UY s;unfold As at bk;unfold As;go_enter Tryz.func111,Tryz.ntmps111
 go_upto_region 1 with fail
 replace hc:=(hE.block r hcl).trans hc;replace hl:=(hE.block b1 Dx).trans hl;replace ha:=ha.keep (G0 hE none);generalize hV:w.alloc (.cells #[S (R s.a.x),S (R s.a.y),S (R s.b.x),S (R s.b.y)] 155)=V at *;obtain⟨bs,SL⟩:=AqG w.heap.size;rw [←SL]at Fh ⊢;have nr:b1≠r:=(by intro e;rw [e,hc]at hl;cases hl);have ns:b1≠bs:=(by omega);have nbs:B<=bs:=(by omega);have nrs:r≠bs:=(by omega);have jT:b2≠bs:=(by omega);have nle:w.heap.size<=bs:=(by omega);have HV:=AqH hV;clear SL hV
 have SO:∀w',V.grownBy w' (some b1)→(w'.cell? ⟨r,0,none⟩=some (.map (some b1))/\w'.cell? ⟨r,1,none⟩=some (.map (some b2))/\w'.cell? ⟨bs,0,none⟩=some (S (R s.a.x))/\w'.cell? ⟨bs,1,none⟩=some (S (R s.a.y))/\w'.cell? ⟨bs,2,none⟩=some (S (R s.b.x))/\w'.cell? ⟨bs,3,none⟩=some (S (R s.b.y))):=fun w' hg=>⟨PE hg (Ab hc rfl) (by simp;omega),PE hg (Ab hc rfl) (by simp;omega),PE hg (Ab Fh rfl) (by simp;omega),PE hg (Ab Fh rfl) (by simp;omega),PE hg (Ab Fh rfl) (by simp;omega),PE hg (Ab Fh rfl) (by simp;omega)⟩
 have t0:V.grownBy V.drew (some b1):=G0 (Aa.refl V).drew _
 go_region_held3 (fun w'=>w'.cell? ⟨r,0,none⟩=some (.map (some b1))/\w'.cell? ⟨r,1,none⟩=some (.map (some b2))/\w'.cell? ⟨bs,0,none⟩=some (S (R s.a.x))/\w'.cell? ⟨bs,1,none⟩=some (S (R s.a.y))/\w'.cell? ⟨bs,2,none⟩=some (S (R s.b.x))/\w'.cell? ⟨bs,3,none⟩=some (S (R s.b.y)))
  (first|with_reducible exact SO _ t0|with_reducible exact SO _ t1|with_reducible exact SO _ t2|with_reducible exact SO _ t3|with_reducible exact SO _ t4|with_reducible exact SO _ t5)
  (first|((with_reducible refine(bk _).mono ?_);rintro e w1 ⟨rfl,hx1⟩;have t1:V.grownBy w1 (some b1):=Ob t0 (G0 hx1 _);obtain⟨n1,X,Z,X2,Z2,e1,e2,e3,e4,u1,u2,u3,u4,u5,u6⟩:=Ajb (((Aa.refl V).drew.trans hx1).block b1 (AqI hl) |>.trans hl) s h1 h2 hne y z;have t2:=Ob t1 u1;have t3:=Ob t1 u2;have t4:=Ob t1 u3;have t5:=Ob t1 u4;unfold As at e1 e3))
 have gz:V.grownBy Z2 (some b1):=t5;have XE:r≠b2:=(by intro e;rw [e,ha.blk]at hc;cases hc);have hc1:=(gz.block r (AqI hc) (by simp;omega)).trans hc;have hb1:=(gz.block bs (AqI Fh) (by simp;omega)).trans Fh;have Oo:D7 B V b2 E R0:=ha
 have yC:D7 B Z2 b2 E R0:=by
  refine⟨(gz.block b2 Oo.lt (by simp;omega)).trans Oo.blk,Oo.len,fun i hi hi'=>?_,Oo.apart,Oo.own⟩;obtain⟨s1,s2,s3⟩:=Oo.row i hi hi';refine⟨s1,s2,s3.kept gz ?_⟩
  rcases s3.2 with⟨hv,_⟩|⟨g,cap,cur,hv,_,hg,_⟩
  ·left;rw [hv];rfl
  ·right
   rw [hv];simp only [Value.ownBlock,ne_eq,AqO];intro e;rw [e,hl]at hg
   cases hg
 have Mn:=AqH u6;have GZ:=AqH (show ∀k o,w.heap[k]?=some o→k≠b1→Z2.heap[k]?=some o from fun k o q1 q2=>(gz.block k (AqT (Array.getElem?_eq_some_iff.1 q1).1 hE.size) (by simp;exact q2)).trans ((hE.block k (Array.getElem?_eq_some_iff.1 q1).1).trans q1));have bz:Below B w Z2:=(Below.mono hE hB).trans (below_grown gz hr1 (by have:=hE.size;omega));have BZ:=AqH bz;have HC:=AqH hc;have VE:B<=Z2.heap.size:=(by have:=gz.size;have:=hE.size;omega);clear SO t0 t1 t2 t3 t4 t5 e1 e2 e3 e4 u1 u2 u3 u4 u5 u6 ha Oo hc hl Fh hx1 bz gz;obtain⟨j1,v1,u1,X1,Y1,Q1,E1,c1,c2,c3,y1,y2,y3,y4,y5⟩:=qX yC VE s.a s.b (fun e he=>AqU (hn e he) (by omega));replace c2:=c2 _ rfl
 have Pp:∀w',BF b2 Z2 w'→(w'.cell? ⟨r,0,none⟩=some (.map (some b1))/\w'.cell? ⟨r,1,none⟩=some (.map (some b2))/\w'.cell? ⟨bs,0,none⟩=some (S (R s.a.x))/\w'.cell? ⟨bs,1,none⟩=some (S (R s.a.y))/\w'.cell? ⟨bs,2,none⟩=some (S (R s.b.x))/\w'.cell? ⟨bs,3,none⟩=some (S (R s.b.y))):=fun w' hg=>
  have z1:=hg.2 r _ hc1 XE (by intro cs e;cases e);have z2:=hg.2 bs _ hb1 (fun e=>jT e.symm) (by intro cs e;cases e)
  ⟨Ab z1 rfl,Ab z1 rfl,Ab z2 rfl,Ab z2 rfl,Ab z2 rfl,Ab z2 rfl⟩
 have t0:BF b2 Z2 Z2.drew:=BF.of_ext (Aa.refl Z2).drew;have t1:BF b2 Z2 (Z2.alloc (.cells #[S (R (s.b).x),S (R (s.b).y)] 92)).drew:=BF.of_ext ((Aa.refl _).alloc _).drew;unfold Ak at c1;(go_wp2_with fail)
 go_region_held3 (fun w'=>w'.cell? ⟨r,0,none⟩=some (.map (some b1))/\w'.cell? ⟨r,1,none⟩=some (.map (some b2))/\w'.cell? ⟨bs,0,none⟩=some (S (R s.a.x))/\w'.cell? ⟨bs,1,none⟩=some (S (R s.a.y))/\w'.cell? ⟨bs,2,none⟩=some (S (R s.b.x))/\w'.cell? ⟨bs,3,none⟩=some (S (R s.b.y)))
  (first|with_reducible exact Pp _ t0|with_reducible exact Pp _ t1|with_reducible exact Pp _ y1|with_reducible exact Pp _ y2|with_reducible exact Pp _ y3)
  (first|(refine yv (s:=.tmp 31) (x:=.tmp 34) ?hgd ?ho ?hs ?hx c2 ?h;(case hgd=>rfl);(case ho=>rfl);(case hs=>rfl);(case hx=>rfl)))
 have haQ:=y5;have hBQ:B<=Q1.heap.size:=AqU VE y3.1;have hc2:=y3.2 r _ hc1 XE (by intro cs e;cases e);have dO:=y3.2 bs _ hb1 (fun e=>jT e.symm) (by intro cs e;cases e);have Y3:=AqH y3;have Y4:=AqH y4;clear Pp t0 t1 c1 c2 c3 y1 y2 y3 y4 y5 yC hc1 hb1;obtain⟨j2,v2,u2,X2',Y2',Q2,E2,c1,c2,c3,y1,y2,Y2,y4',y5'⟩:=qX haQ hBQ s.b s.a (fun e he=>AqU (Z0 hn e he) (by omega));replace c2:=c2 _ rfl
 have RE:∀w',BF b2 Q1 w'→(w'.cell? ⟨r,0,none⟩=some (.map (some b1))/\w'.cell? ⟨r,1,none⟩=some (.map (some b2))/\w'.cell? ⟨bs,0,none⟩=some (S (R s.a.x))/\w'.cell? ⟨bs,1,none⟩=some (S (R s.a.y))/\w'.cell? ⟨bs,2,none⟩=some (S (R s.b.x))/\w'.cell? ⟨bs,3,none⟩=some (S (R s.b.y))):=fun w' hg=>
  have z1:=hg.2 r _ hc2 XE (by intro cs e;cases e);have z2:=hg.2 bs _ dO (fun e=>jT e.symm) (by intro cs e;cases e)
  ⟨Ab z1 rfl,Ab z1 rfl,Ab z2 rfl,Ab z2 rfl,Ab z2 rfl,Ab z2 rfl⟩
 have t0:BF b2 Q1 Q1.drew:=BF.of_ext (Aa.refl Q1).drew;have t1:BF b2 Q1 (Q1.alloc (.cells #[S (R (s.a).x),S (R (s.a).y)] 92)).drew:=BF.of_ext ((Aa.refl _).alloc _).drew;unfold Ak at c1;(go_wp2_with fail)
 go_region_held3 (fun w'=>w'.cell? ⟨r,0,none⟩=some (.map (some b1))/\w'.cell? ⟨r,1,none⟩=some (.map (some b2))/\w'.cell? ⟨bs,0,none⟩=some (S (R s.a.x))/\w'.cell? ⟨bs,1,none⟩=some (S (R s.a.y))/\w'.cell? ⟨bs,2,none⟩=some (S (R s.b.x))/\w'.cell? ⟨bs,3,none⟩=some (S (R s.b.y)))
  (first|with_reducible exact RE _ t0|with_reducible exact RE _ t1|with_reducible exact RE _ y1|with_reducible exact RE _ y2|with_reducible exact RE _ Y2)
  (first|(refine yv (s:=.tmp 44) (x:=.tmp 47) ?hgd ?ho ?hs ?hx c2 ?h;(case hgd=>rfl);(case ho=>rfl);(case hs=>rfl);(case hx=>rfl)))
 go_wp2
 go_end0
 refine⟨rfl,(BZ.out.trans Y4.out).trans y4',fun k o q1 q2 q3 q4=>Y2.2 k o (Y3.out.2 k o (GZ.out k o q1 q2) q3 q4) q3 q4,E2,⟨Y2.2 r _ hc2 XE (by intro cs e;cases e),Y2.2 b1 _ (Y3.out.2 b1 _ Mn.out Br (by intro cs e;cases e)) Br (by intro cs e;cases e),y5',hr0,hr1,Br⟩⟩
end
section
open Go.ChangeMaps (setBlock)
def Bh(pts:List Pt)(e:Az):Sg:=⟨Fx pts e.f,Fx pts e.t⟩
def AO(pts:List Pt)(l:List Az):List (Sg×Int):=l.flatMap fun e=>[(Bh pts e,e.l),(AW (Bh pts e),e.r)]
def C7(pts:List Pt)(l:List Az):List (Pt×List Pt):=l.foldl (fun R0 e=>CU (CU R0 (Bh pts e).a (Bh pts e).b) (Bh pts e).b (Bh pts e).a) []
theorem XL(pts:List Pt)(l:List Az)(e:Az):AO pts (l ++ [e])=AO pts l ++ [(Bh pts e,e.l),(AW (Bh pts e),e.r)]:=by simp [AO]
theorem XM(pts:List Pt)(l:List Az)(e:Az):C7 pts (l ++ [e])=CU (CU (C7 pts l) (Bh pts e).a (Bh pts e).b) (Bh pts e).b (Bh pts e).a:=by simp [C7]
theorem ow(pts:List Pt):∀(l:List Az) (R0:List (Pt×List Pt)) (n:Nat),(∀e∈R0,e.2.length<=n)→∀e∈l.foldl (fun R0 e=>CU (CU R0 (Bh pts e).a (Bh pts e).b) (Bh pts e).b (Bh pts e).a) R0,e.2.length<=n+2*l.length
 | [],_,_,h=>by simpa using h
 | x::l,R0,n,h=>by intro e he;rw [List.foldl_cons]at he;have:=ow pts l _ (n+1+1) (Z0 (Z0 h)) e he;rw [List.length_cons];omega
theorem TS(pts:List Pt)(l:List Az):∀e∈C7 pts l,e.2.length<=2*l.length:=by
 intro e he;have:=ow pts l [] 0 (by simp) e he;omega
theorem AlZ{w:World}{b o:Nat}{cs:List Value}(h:Ad w (some ⟨b,o,none⟩) cs)(hl:0<cs.length):b<w.heap.size:=by
 obtain⟨b',o',e,hc⟩:=h.ad hl;have e2:(⟨b,o,none⟩:Addr)=⟨b',o',none⟩:=Option.some.inj e;obtain rfl:b=b':=(by injection e2);have h1:=hc 0 hl;unfold World.cell? at h1
 rcases Nat.lt_or_ge b w.heap.size with h'|h'
 ·exact h'
 ·simp [Array.getElem?_eq_none h']at h1
theorem Va{B:Nat}{w w':World}(h:Below B w w'){a:Addr}{v:Value}(hb:a.block<B)(hv:w.cell? a=some v):w'.cell? a=some v:=(World.cell?_of_block (h.block _ hb)).trans hv
theorem ru{w:World}{B B':Nat}{e:TypeId}{size:Nat}{v:Value}{n:Nat}{xs:List Value}(h:w.ownsRow B e size v n xs)(hB:B'<=B):w.ownsRow B' e size v n xs:=by
 refine⟨h.1,?_⟩
 rcases h.2 with h'|⟨g,cap,cur,h1,h2,h3⟩
 ·exact .inl h'
 ·exact .inr ⟨g,cap,cur,h1,AqU hB h2,h3⟩
theorem Bw.ext{B:Nat}{W W':World}{r b1 b2:Nat}{L:List (Sg×Int)}{E:List (Pt×Value×Nat)}{R0:List (Pt×List Pt)}(h:Bw B W r b1 b2 L E R0)(hx:Aa W W'):Bw B W' r b1 b2 L E R0:=
 ⟨(hx.block _ (AqI h.cell)).trans h.cell,(hx.block _ (Array.getElem?_eq_some_iff.1 h.left).1).trans h.left,h.ar.keep (G0 hx none),h.r0,h.r1,h.ne⟩
structure NG(pts:List Pt)(l:List Az):Prop where
 rng:∀e∈l,0<=e.f/\0<=e.t/\e.f<(pts.length:Int)/\e.t<(pts.length:Int)
 ne:∀e∈l,AL (AW (Bh pts e)) (Bh pts e)=false
 dis:∀j (h:j<l.length),∀e∈l.take j,AL (Bh pts l[j]) (Bh pts e)=false/\AL (Bh pts l[j]) (AW (Bh pts e))=false/\AL (AW (Bh pts l[j])) (Bh pts e)=false/\AL (AW (Bh pts l[j])) (AW (Bh pts e))=false
theorem NG.keys{pts:List Pt}{l:List Az}(h:NG pts l){j:Nat}(hj:j<l.length):(∀e∈AO pts (l.take j),AL (Bh pts l[j]) e.1=false)/\(∀e∈AO pts (l.take j),AL (AW (Bh pts l[j])) e.1=false):=by
 constructor
 all_goals
  intro e he;unfold AO at he;rw [List.mem_flatMap]at he;obtain⟨x,hx,he⟩:=he;obtain⟨d1,d2,d3,d4⟩:=h.dis j hj x hx;simp only [List.mem_cons,AqV,or_false]at he
  rcases he with rfl|rfl<;>assumption
theorem uI{w:World} : Bw w.heap.size (NZ w) (w.heap.size+1+1) w.heap.size (w.heap.size+1) [] [] []:=by
 unfold NZ;have h0:=AqJ w (.map #[] 0);have h1:=AqJ (w.alloc (.map #[] 0)) (.map #[] 0);have h2:=AqJ ((w.alloc (.map #[] 0)).alloc (.map #[] 0)) (.cells #[.map (some w.heap.size),.map (some (w.heap.size+1))] 134);simp only [AqR]at h1 h2;have x1:=((Aa.refl (w.alloc (.map #[] 0))).alloc (.map #[] 0)).alloc (.cells #[.map (some w.heap.size),.map (some (w.heap.size+1))] 134);have x2:=(Aa.refl ((w.alloc (.map #[] 0)).alloc (.map #[] 0))).alloc (.cells #[.map (some w.heap.size),.map (some (w.heap.size+1))] 134);exact⟨h2,(x1.block _ (by simp)).trans h0,⟨(x2.block _ (by simp)).trans h1,rfl,fun i hi=>by simp at hi,fun i _ hi=>by simp at hi,by omega⟩,by omega,AqK _,by omega⟩
theorem Aku(m:Cw)(A B F:Option Addr)(c d g:Nat)(C4:K3 m c d g)(Aj:NG m.pts m.eds)(hle:m.eds.length<=1200)(w:World)(hA:Ad w A (flat (Ao m.pts)))(hB:Ad w B (B7 m.eds)) :
  Calls Tryz.prog 81 #[DK A B F m c d g] w (fun e w'=>∃r b1 b2 E,e=.returned (.pointer (some ⟨r,0,none⟩))/\Aa w w'/\Bw w.heap.size w' r b1 b2 (AO m.pts m.eds) E (C7 m.pts m.eds)):=by
 obtain⟨c1,c2,d1,d2,g1,g2⟩:=C4;have hM:=AqJ w (.cells #[.slice A m.pts.length c,.slice B m.eds.length d,.slice F m.nf g] 36);have hE:=(Aa.refl w).alloc (.cells #[.slice A m.pts.length c,.slice B m.eds.length d,.slice F m.nf g] 36);unfold DK;go_enter Tryz.func81,Tryz.ntmps81
 go_upto_region 1 with fail
 have hA:=hA.ext hE;have hB:=hB.ext hE;generalize w.alloc (.cells #[.slice A m.pts.length c,.slice B m.eds.length d,.slice F m.nf g] 36)=V at *;obtain⟨bm,Dv⟩:=AqG w.heap.size;have PV:bm<V.heap.size:=(by have:=AqI hM;omega);rw [←Dv]at hM ⊢;clear Dv;have em:=uJ V;have en:=@uI V
 have eb:Below V.heap.size V (NZ V):=((Aa.refl V).alloc _).alloc _ |>.alloc _
 generalize NZ V=V0 at *;obtain⟨r,hr⟩:=AqG (V.heap.size+1+1);obtain⟨b2,hb2⟩:=AqG (V.heap.size+1);obtain⟨b1,hb1⟩:=AqG V.heap.size;rw [←hr]at em en;rw [←hb2]at en;have en':Bw V.heap.size V0 r b1 b2 [] [] []:=(by rw [hb1];exact en);clear hr hb2 hb1 en;have Ol:∀w',Aa V w'→w'.heap[bm]?=some (.cells #[.slice A m.pts.length c,.slice B m.eds.length d,.slice F m.nf g] 36):=fun w' h=>(h.block _ PV).trans hM;have m1:=Ab (o:=1) (Ol V0 eb) rfl;(go_wp2_with fail);(with_reducible refine em.mono ?_);rintro e w1 ⟨rfl,hw1⟩;rw [hw1];clear hw1
 go_upto_region 3 with fail
 clear m1 em
 go_loopw [10] (fun i wr=>∃j:Nat,i=.int .i64 (j:Nat)/\j<=m.eds.length/\Below V.heap.size V wr/\∃E,Bw V.heap.size wr r b1 b2 (AO m.pts (m.eds.take j)) E (C7 m.pts (m.eds.take j))) (fun i _=>m.eds.length-(intOf i).toNat)
 case atStart=>exact⟨0,rfl,by omega,eb,[],by simpa [AO,C7]using en'⟩
 case round=>
  obtain⟨j,rfl,hj,Cg,E,hN⟩:=hrel;have Ac:Aa V wr:=Cg;by_cases hlt:j<m.eds.length
  ·have hj0:(0:Int)<=(j:Int):=(by omega);have AV:(j:Int)<(m.eds.length:Int):=(by omega);obtain⟨b,o,rfl,hg1,hg2,hg3,hg4⟩:=Ui (hB.ext Ac) hlt;have DY:=Aj.keys hlt;have hne:=Aj.ne _ (AqL hlt);have hrg:=Aj.rng _ (AqL hlt);have hrl:=TS m.pts (m.eds.take j);have Tv:=XL m.pts (m.eds.take j) m.eds[j];have Tw:=XM m.pts (m.eds.take j) m.eds[j];rw [←AqN hlt]at Tv Tw;obtain⟨e,he⟩:=AqG (m.eds[j]);rw [←he]at hg1 hg2 hg3 hg4 DY hne hrg Tv Tw;clear he;obtain⟨ef,Ow⟩:∃n:Nat,e.f=(n:Int):=⟨e.f.toNat,by omega⟩;obtain⟨et,MZ⟩:∃n:Nat,e.t=(n:Int):=⟨e.t.toNat,by omega⟩;have PZ:ef<m.pts.length:=(by omega);have Qa:et<m.pts.length:=(by omega);rw [Ow]at hg1;rw [MZ]at hg2;obtain⟨ba,oa,rfl,ha1,ha2⟩:=C2 (hA.ext Ac) PZ;obtain⟨b3,o3,Hw,dJ,Wc⟩:=C2 (hA.ext Ac) Qa;have HBA:=AqH (AlZ hA (by rw [flat_length];simp [Ao];omega));obtain⟨rfl,rfl⟩:ba=b3/\oa=o3:=by simpa using Hw
   have hs:Bh m.pts e=⟨m.pts[ef],m.pts[et]⟩:=by unfold Bh Fx;rw [Ow,MZ];simp [PZ,Qa]
   obtain⟨pa,DZ⟩:=AqG (m.pts[ef]);obtain⟨pb,Jn⟩:=AqG (m.pts[et]);rw [←DZ]at ha1 ha2 hs;rw [←Jn]at dJ Wc hs;rw [hs]at DY hne Tv Tw;have f0:(0:Int)<=(ef:Int):=(by omega);have f1:(ef:Int)<(m.pts.length:Int):=(by omega);have f2:(0:Int)<=(et:Int):=(by omega);have f3:(et:Int)<(m.pts.length:Int):=(by omega);have hx1:=(Aa.refl wr).alloc (.cells #[.int .i64 (ef:Nat),.int .i64 (et:Nat),.int .i64 e.l,.int .i64 e.r] 126);have CW:=AqJ wr (.cells #[.int .i64 (ef:Nat),.int .i64 (et:Nat),.int .i64 e.l,.int .i64 e.r] 126);have He:=AqH Tv;have YZ:=AqH Tw;clear Tv Tw hs DZ Jn Hw hrg Ow MZ
   go_upto_region 5 with fail
   have Hp:=(hN.ext hx1).ext (Aa.refl _).drew;have EE:=Ol _ (Ac.trans hx1);have k1:=hx1.cellS ha1;have k2:=hx1.cellS ha2;have k3:=hx1.cellS dJ;have k4:=hx1.cellS Wc;have zX:=Ac.trans hx1;generalize wr.alloc (.cells #[.int .i64 (ef:Nat),.int .i64 (et:Nat),.int .i64 e.l,.int .i64 e.r] 126)=W1 at *;obtain⟨be,yO⟩:=AqG wr.heap.size;rw [←yO]at CW ⊢;clear yO ha1 ha2 dJ Wc hg1 hg2 hg3 hg4;have ad:=Z1 Hp (by have:=zX.size;show V.heap.size<=W1.heap.size;exact this) ⟨pa,pb⟩ e.l e.r DY.1 DY.2 hne (fun x hx=>by have:=hrl x hx;rw [List.length_take]at this;omega);unfold As at ad
   have SO:∀w',Aa W1 w'→(w'.cell? ⟨bm,0,none⟩=some (.slice (some ⟨ba,oa,none⟩) m.pts.length c)/\w'.cell? ⟨be,0,none⟩=some (.int .i64 (ef:Nat))/\w'.cell? ⟨be,1,none⟩=some (.int .i64 (et:Nat))/\w'.cell? ⟨be,2,none⟩=some (.int .i64 e.l)/\w'.cell? ⟨be,3,none⟩=some (.int .i64 e.r)/\w'.cell? ⟨ba,oa+ef*2,none⟩=some (S (R pa.x))/\w'.cell? ⟨ba,oa+ef*2+1,none⟩=some (S (R pa.y))/\w'.cell? ⟨ba,oa+et*2,none⟩=some (S (R pb.x))/\w'.cell? ⟨ba,oa+et*2+1,none⟩=some (S (R pb.y))):=fun w' h=>⟨h.cellS (Ab EE rfl),h.cellS (Ab CW rfl),h.cellS (Ab CW rfl),h.cellS (Ab CW rfl),h.cellS (Ab CW rfl),h.cellS k1,h.cellS k2,h.cellS k3,h.cellS k4⟩
   have XI:be≠b1:=(by intro e;have q:=Hp.left;rw [←e]at q;cases (show W1.heap[be]?=_ from q).symm.trans CW);have XJ:be≠b2:=(by intro e;have q:=Hp.ar.blk;rw [←e]at q;cases (show W1.heap[be]?=_ from q).symm.trans CW);have Aq:ba<V.heap.size:=HBA.out;have X:Aa W1 W1:=Aa.refl W1;have Xd:=X.drew
   go_region_held3 (fun w'=>w'.cell? ⟨bm,0,none⟩=some (.slice (some ⟨ba,oa,none⟩) m.pts.length c)/\w'.cell? ⟨be,0,none⟩=some (.int .i64 (ef:Nat))/\w'.cell? ⟨be,1,none⟩=some (.int .i64 (et:Nat))/\w'.cell? ⟨be,2,none⟩=some (.int .i64 e.l)/\w'.cell? ⟨be,3,none⟩=some (.int .i64 e.r)/\w'.cell? ⟨ba,oa+ef*2,none⟩=some (S (R pa.x))/\w'.cell? ⟨ba,oa+ef*2+1,none⟩=some (S (R pa.y))/\w'.cell? ⟨ba,oa+et*2,none⟩=some (S (R pb.x))/\w'.cell? ⟨ba,oa+et*2+1,none⟩=some (S (R pb.y)))
    (first|with_reducible exact SO _ Xd|exact S5)
    (first|((with_reducible refine ad.mono ?_);rintro _ w5 ⟨rfl,hb5,hs5,E5,Om⟩;have S5:(w5.cell? ⟨bm,0,none⟩=some (.slice (some ⟨ba,oa,none⟩) m.pts.length c)/\w5.cell? ⟨be,0,none⟩=some (.int .i64 (ef:Nat))/\w5.cell? ⟨be,1,none⟩=some (.int .i64 (et:Nat))/\w5.cell? ⟨be,2,none⟩=some (.int .i64 e.l)/\w5.cell? ⟨be,3,none⟩=some (.int .i64 e.r)/\w5.cell? ⟨ba,oa+ef*2,none⟩=some (S (R pa.x))/\w5.cell? ⟨ba,oa+ef*2+1,none⟩=some (S (R pa.y))/\w5.cell? ⟨ba,oa+et*2,none⟩=some (S (R pb.x))/\w5.cell? ⟨ba,oa+et*2+1,none⟩=some (S (R pb.y))):=⟨Ab ((hb5.block bm PV).trans EE) rfl,Ab (hs5 be _ CW XI XJ (by intro cs e;cases e)) rfl,Ab (hs5 be _ CW XI XJ (by intro cs e;cases e)) rfl,Ab (hs5 be _ CW XI XJ (by intro cs e;cases e)) rfl,Ab (hs5 be _ CW XI XJ (by intro cs e;cases e)) rfl,Va hb5 Aq k1,Va hb5 Aq k2,Va hb5 Aq k3,Va hb5 Aq k4⟩))
   have VL:=He.out▸YZ.out▸Om;have DC:Below V.heap.size V w5:=Below.trans (Aa.drew zX) hb5;have Ro:=AqH DC;clear SO S5 X Xd ad hb5 hs5 DC;go_wp2;go_roundw
   case rel=>exact⟨j+1,by go_num,hlt,Ro.out,E5,VL⟩
   case measure=>simp [intOf];omega
  ·have fG:(m.eds.length:Int)<=(j:Int):=(by omega);obtain rfl:j=m.eds.length:=(by omega);rw [AqS (AqK _)]at hN;have HN:=AqH hN;have HE:=AqH (hE.trans Ac);have HS:=AqH hE.size;clear hN Ac Cg;go_wp2;go_ret;have hN:=HN.out;exact⟨r,b1,b2,E,rfl,HE.out,⟨hN.cell,hN.left,⟨hN.ar.blk,hN.ar.len,fun i hi hi'=>⟨(hN.ar.row i hi hi').1,(hN.ar.row i hi hi').2.1,ru (hN.ar.row i hi hi').2.2 HS.out⟩,hN.ar.apart,AqU HS.out hN.ar.own⟩,AqU HS.out hN.r0,AqU HS.out hN.r1,hN.ne⟩⟩
end
def JV(R0:List (Pt×List Pt))(p:Pt):Nat:=match R0.find? (fun e=>Ap p e.1)with|some e=>e.2.length|none=>0
theorem Afm{E:List (Pt×Value×Nat)}{R0:List (Pt×List Pt)}{B:Nat}{W:World}{b2:Nat}(h:D7 B W b2 E R0)(p:Pt) :
  (∃A c,Fu Ap (.slice none 0 0) p E=.slice A (JV R0 p) c):=by
 have Dk:=aS h.len (fun i h1 h2=>(h.row i h1 h2).1) p;unfold Fu JV
 cases hf:R0.findIdx? (fun e=>Ap p e.1)with
 | none=>
  rw [hf]at Dk
  have e1:E.find? (fun e=>Ap p e.1)=none:=by rw [List.find?_eq_none];rw [List.findIdx?_eq_none_iff]at Dk;intro x hx;rw [Dk x hx];simp
  have e2:R0.find? (fun e=>Ap p e.1)=none:=by rw [List.find?_eq_none];rw [List.findIdx?_eq_none_iff]at hf;intro x hx;rw [hf x hx];simp
  rw [e1,e2];exact⟨none,0,rfl⟩
 | some j=>
  rw [hf]at Dk;rw [List.findIdx?_eq_some_iff_getElem]at Dk hf;obtain⟨hj,h1,h2⟩:=Dk;obtain⟨hj',h3,h4⟩:=hf
  have e1:E.find? (fun e=>Ap p e.1)=some E[j]:=by rw [List.find?_eq_some_iff_getElem];exact⟨h1,j,hj,rfl,fun i hi=>by have:=h2 i hi;simpa using this⟩
  have e2:R0.find? (fun e=>Ap p e.1)=some R0[j]:=by rw [List.find?_eq_some_iff_getElem];exact⟨h3,j,hj',rfl,fun i hi=>by have:=h4 i hi;simpa using this⟩
  rw [e1,e2]
  rcases(h.row j hj hj').2.2.2 with⟨hv,hn⟩|⟨g,cap,cur,hv,_⟩
  ·simp only;rw [hv,hn];exact⟨none,0,rfl⟩
  ·simp only;rw [hv];exact⟨_,_,rfl⟩
theorem Afg{B:Nat}{w:World}{r b1 b2:Nat}{L:List (Sg×Int)}{E:List (Pt×Value×Nat)}{R0:List (Pt×List Pt)}(h:Bw B w r b1 b2 L E R0)(bn:Nat)(Ca:w.cell? ⟨bn,0,none⟩=some (.pointer (some ⟨r,0,none⟩)))(p:Pt) :
  Calls Tryz.prog 83 #[Ak p,.pointer (some ⟨bn,0,none⟩)] w (Bv (decide (JV R0 p<2)) w):=by
 have hE:=(Aa.refl w).alloc (.cells #[S (R p.x),S (R p.y)] 92);have hb0:=AqJ w (.cells #[S (R p.x),S (R p.y)] 92);have hN:=h.ext hE;obtain⟨A,c,hv⟩:=Afm h.ar p;have yW:=hE.cellS Ca;obtain⟨x,hx⟩:=AqG (decide (JV R0 p<2));rw [←hx];have HX:=AqH (show x=decide ((JV R0 p:Int)<2)by rw [hx];simp;omega);unfold Ak;clear hx;go_enter Tryz.func83,Tryz.ntmps83
 go_upto_region 1 with fail
 generalize w.alloc (.cells #[S (R p.x),S (R p.y)] 92)=V at *;obtain⟨bp,AY⟩:=AqG w.heap.size;rw [←AY]at hb0 ⊢;clear AY;have q1:∀q:Af V,q.w.cell? ⟨bn,0,none⟩=some (.pointer (some ⟨r,0,none⟩)):=Af.cell yW;have q2:∀q:Af V,q.w.cell? ⟨r,1,none⟩=some (.map (some b2)):=Af.cell (Ab hN.cell rfl);have q3:∀q:Af V,q.w.cell? ⟨bp,0,none⟩=some (S (R p.x)):=Af.cell (Ab hb0 rfl);have q4:∀q:Af V,q.w.cell? ⟨bp,1,none⟩=some (S (R p.y)):=Af.cell (Ab hb0 rfl)
 have q5:∀q:Af V,(Instr.lookup 132 (.map (some b2)) (Ak p) false).run Tryz.prog q.w=.ok (.slice A (JV R0 p) c) q.w:=fun q=>by rw [QQ Q0 p E (W:=q.w) ((q.h.block b2 hN.ar.lt).trans hN.ar.blk),hv]
 unfold Ak at q5;clear yW hb0 hN h Ca hv;refine F5 (by kernel_rfl) (by kernel_rfl) ?_
 repeat (go_big_quiet_step (fail))
 refine wpQuiet_nil ?_;rintro _ ⟨q,rfl⟩;go_wp2;go_ret;exact⟨by rw [HX.out];rfl,hE.trans q.h⟩
end Go.Proofs.YtjalkoacphhgdaaGreatDoor
