/- Y27: M1 M2 M3 M4 M5 M6 M7 M8 M9 M10. -/
import Derived.Maps.RangeWalk
import Derived.Maps.AppendAt
import Derived.Test.YtjalkoacphhgdaaGreatDoorY24
set_option maxRecDepth 100000
set_option maxHeartbeats 8000000
namespace Go.Proofs.YtjalkoacphhgdaaGreatDoor
open Go.RowKit Kl
def AK(s t:Sg):Bool:=Ap s.a t.a&&Ap s.b t.b
theorem Ip{s t:Sg} : AK s t=true↔s=t:=by
 unfold AK;rw [Bool.and_eq_true,Ct,Ct];constructor
 ·rintro⟨h1,h2⟩
  cases s;cases t;simp_all
 ·rintro rfl;exact⟨rfl,rfl⟩
theorem pL(p q:Pt)(W:World):(Op.equal 92 (Ak p) (Ak q)).run Tryz.prog W=.ok (Ap p q) W:=by
 unfold Ap Ak;rw [←Jy,←Jy]
 cases b1:(R p.x == R q.x)<;>cases b2:(R p.y == R q.y)<;>simp [go_sem,Op.equal,Op.maxDepth,b1,b2]
theorem pM(s t:Sg)(W:World):(Op.equal 155 (As s) (As t)).run Tryz.prog W=.ok (AK s t) W:=by
 unfold AK Ap As;rw [←Jy,←Jy,←Jy,←Jy]
 cases b1:(R s.a.x == R t.a.x)<;>cases b2:(R s.a.y == R t.a.y)<;>cases b3:(R s.b.x == R t.b.x)<;>cases b4:(R s.b.y == R t.b.y)<;>simp [go_sem,Op.equal,Op.maxDepth,b1,b2,b3,b4]
theorem mZ(b:Bool)(p:Pt)(W:World):(Instr.checkKey b 10000 92 (Ak p)).run Tryz.prog W=.ok () W:=by
 unfold Ak
 kernel_rfl
theorem nA(b:Bool)(s:Sg)(W:World):(Instr.checkKey b 10000 155 (As s)).run Tryz.prog W=.ok () W:=by
 unfold As
 kernel_rfl
/-! ### Entries -/
section
variable {α : Type} (enc : α → Value) (same : α → α → Bool)
def Ax(l:List (α×Value×Nat)):List MapEntry:=l.map (fun e=>⟨enc e.1,e.2.1,e.2.2⟩)
theorem qG{kt:TypeId}(heq:∀x y W,(Op.equal kt (enc x) (enc y)).run Tryz.prog W=.ok (same x y) W)(k:α)(W:World):∀(l:List (α×Value×Nat)) (i:Nat),
  (Instr.findAsking kt (enc k) (Ax enc l) i).run Tryz.prog W=.ok ((l.findIdx? (fun e=>same k e.1)).bind (fun j=>(l[j]?).map (fun e=>(i+j,e.2.1)))) W
 | [],i=>by simp [Ax,Instr.findAsking]
 | e::l,i=>by
  have ih:=qG heq k W l (i+1);have e0:Ax enc (e::l)=⟨enc e.1,e.2.1,e.2.2⟩::Ax enc l:=rfl;rw [e0];unfold Instr.findAsking;simp only [Sem.run_bind,heq,Result.andThen_ok];rw [List.findIdx?_cons]
  cases h:same k e.1
  ·simp only [Bool.false_eq_true,if_false,ih]
   congr 1
   cases h2:l.findIdx? (fun e=>same k e.1)with
   | none=>simp
   | some j=>
    simp only [Option.map_some,Option.bind_some,List.getElem?_cons_succ]
    congr 1
    funext x
    rw [show i+1+j=i+(j+1)by omega]
  ·simp
end
section
variable {α : Type} {enc : α → Value} {same : α → α → Bool}
structure Js(mt kt et:TypeId)(z:Value)(enc:α→Value)(same:α→α→Bool):Prop where
 map:Tryz.prog.underlying mt=some (.map kt et)
 st:∃fs,Tryz.prog.underlying kt=some (.struct fs)
 zero:∀W,(zeroValue et).run Tryz.prog W=.ok z W
 eq:∀x y W,(Op.equal kt (enc x) (enc y)).run Tryz.prog W=.ok (same x y) W
 chk:∀b x W,(Instr.checkKey b 10000 kt (enc x)).run Tryz.prog W=.ok () W
 iff:∀{x y},same x y=true↔x=y
 bits:∀x,Instr.sameBits 10000 (enc x) (enc x)=true
def EW(same:α→α→Bool)(k:α)(l:List (α×Value×Nat)):Option Nat:=l.findIdx? (fun e=>same k e.1)
theorem Rk{mt kt et:TypeId}{z:Value}(K:Js mt kt et z enc same)(k:α)(l:List (α×Value×Nat))(W:World) :
  (Instr.findKey kt (enc k) (Ax enc l)).run Tryz.prog W=.ok ((EW same k l).bind (fun j=>(l[j]?).map (fun e=>(j,e.2.1)))) W:=by
 obtain⟨fs,hfs⟩:=K.st;unfold Instr.findKey;simp only [Sem.run_bind,run_underlying hfs,Result.andThen_ok]
 cases l with
 | nil=>simp [Ax,Instr.findNow,EW]
 | cons e l=>
  have e0:Ax enc (e::l)=⟨enc e.1,e.2.1,e.2.2⟩::Ax enc l:=rfl
  have h1:Instr.findNow (.struct fs) (enc k) (Ax enc (e::l)) 0=none:=by rw [e0];unfold Instr.findNow;have:Instr.sameNow (.struct fs) (enc k) (enc e.1)=none:=(by unfold Instr.sameNow;rfl);rw [this]
  rw [h1];have h2:=qG enc same K.eq k W (e::l) 0;simp only [Nat.zero_add]at h2;exact h2
def EX(same:α→α→Bool)(z:Value)(k:α)(l:List (α×Value×Nat)):Value:=match l.find? (fun e=>same k e.1)with|some e=>e.2.1|none=>z
theorem yS{k:α}{l:List (α×Value×Nat)} : (EW same k l).bind (fun j=>(l[j]?).map (fun e=>(j,e.2.1)))=(EW same k l).bind (fun j=>(l.find? (fun e=>same k e.1)).map (fun e=>(j,e.2.1))):=by
 unfold EW
 cases h:l.findIdx? (fun e=>same k e.1)with
 | none=>rfl
 | some j=>
  simp only [Option.bind_some];rw [List.findIdx?_eq_some_iff_getElem]at h;obtain⟨hj,h1,h2⟩:=h
  have h3:l.find? (fun e=>same k e.1)=some l[j]:=by rw [List.find?_eq_some_iff_getElem];exact⟨h1,j,hj,rfl,fun i hi=>by have:=h2 i hi;simpa using this⟩
  rw [h3,AmH hj]
theorem Qi{mt kt et:TypeId}{z:Value}(K:Js mt kt et z enc same)(k:α)(l:List (α×Value×Nat)){b clock:Nat}{W:World}(hb:W.heap[b]?=some (.map (Ax enc l).toArray clock)) :
  (Instr.lookup mt (.map (some b)) (enc k) false).run Tryz.prog W=.ok (EX same z k l) W:=by
 have hf:=Rk K k l W;rw [yS]at hf;unfold EX
 cases h:l.find? (fun e=>same k e.1)with
 | none=>
  rw [h]at hf
  have hf':(Instr.findKey kt (enc k) (Ax enc l)).run Tryz.prog W=.ok none W:=by rw [hf];cases EW same k l<;>rfl
  simp [Instr.lookup,run_underlying K.map,MapKept.run_getObj_map hb,K.chk,hf',K.zero,Result.andThen]
 | some e=>
  have hi:(EW same k l).isSome:=by unfold EW;rw [List.findIdx?_isSome,List.any_eq_true];exact⟨e,List.mem_of_find?_eq_some h,(by have:=List.find?_some h;exact this)⟩
  obtain⟨j,hj⟩:=Option.isSome_iff_exists.1 hi;rw [h,hj]at hf;simp only [Option.bind_some,Option.map_some]at hf;simp [Instr.lookup,run_underlying K.map,MapKept.run_getObj_map hb,K.chk,hf,Result.andThen]
end
theorem PL:Js 132 92 33 (.slice none 0 0) Ak Ap where
 map:=Tryz.underlying132
 st:=⟨_,Tryz.underlying92⟩
 zero:=fun W=>by simp [go_sem]
 eq:=pL
 chk:=mZ
 iff:=Ct
 bits:=fun x=>by unfold Ak;simp [Instr.sameBits,beq_toListBytes]
theorem VT:Js 131 155 3 (.int .i64 0) As AK where
 map:=Tryz.underlying131
 st:=⟨_,Tryz.underlying155⟩
 zero:=fun W=>by simp [go_sem]
 eq:=pM
 chk:=nA
 iff:=Ip
 bits:=fun x=>by unfold As;simp [Instr.sameBits,beq_toListBytes]
section
open Go.ChangeMaps (setBlock)
theorem Ls{w:World}{b:Nat}{o o':Obj}(h:w.heap[b]?=some o'):(setBlock w b o).heap[b]?=some o:=by
 have hlt:=(Array.getElem?_eq_some_iff.1 h).1;show (w.heap.setIfInBounds b o)[b]?=some o;rw [Array.getElem?_setIfInBounds_self];simp [hlt]
theorem To{w:World}{b k:Nat}{o:Obj}(h:k≠b):(setBlock w b o).heap[k]?=w.heap[k]?:=by
 show (w.heap.setIfInBounds b o)[k]?=w.heap[k]?;rw [Array.getElem?_setIfInBounds_ne (by omega)]
theorem hQ{w:World}{b:Nat}{o:Obj}(h:w.heap[b]?=some o):setBlock w b o=w:=by
 have hlt:=(Array.getElem?_eq_some_iff.1 h).1
 have e:w.heap.setIfInBounds b o=w.heap:=by
  apply Array.ext_getElem?;intro i;by_cases hi:i=b
  ·subst hi;rw [Array.getElem?_setIfInBounds_self];simp [hlt]at *;exact h.symm
  ·rw [Array.getElem?_setIfInBounds_ne (by omega)]
 unfold setBlock;rw [e]
section
variable {α : Type} {enc : α → Value} {same : α → α → Bool}
theorem gU{mt kt et:TypeId}{z:Value}(K:Js mt kt et z enc same)(k:α)(l:List (α×Value×Nat))(hno:∀e∈l,same k e.1=false){b clock:Nat}{W:World}(hb:W.heap[b]?=some (.map (Ax enc l).toArray clock)) :
  (Instr.mapEntry mt (.map (some b)) (enc k)).run Tryz.prog W=.ok (.tuple #[z,.int .i64 (clock:Nat)]) (setBlock W b (.map (Ax enc (l ++ [(k,z,clock)])).toArray (clock+1))):=by
 have hf:=Rk K k l W
 have hi:EW same k l=none:=by unfold EW;rw [List.findIdx?_eq_none_iff];exact hno
 rw [hi]at hf;simp only [Option.bind_none]at hf
 have e0:Ax enc l ++ [{key:=enc k,val:=z,born:=clock}]=Ax enc (l ++ [(k,z,clock)]):=by simp [Ax]
 simp [Instr.mapEntry,run_underlying K.map,MapKept.run_getObj_map hb,K.chk,hf,K.zero,MapKept.run_setObj_map _ hb,Result.andThen,setBlock,e0,goInt]
theorem Ai8{mt kt et:TypeId}{z:Value}(K:Js mt kt et z enc same)(k:α)(l:List (α×Value×Nat)){j:Nat}(hj:j<l.length)(hno:∀e∈l.take j,same k e.1=false)(hk:l[j].1=k){b clock:Nat}{W:World}(hb:W.heap[b]?=some (.map (Ax enc l).toArray clock)) :
  (Instr.mapEntry mt (.map (some b)) (enc k)).run Tryz.prog W=.ok (.tuple #[l[j].2.1,.int .i64 (l[j].2.2:Nat)]) W:=by
 have hf:=Rk K k l W
 have hi:EW same k l=some j:=by unfold EW;rw [List.findIdx?_eq_some_iff_getElem];refine⟨hj,by rw [hk];exact K.iff.2 rfl,fun i Bh=>?_⟩;rw [Bool.not_eq_true];refine hno l[i] ?_;rw [List.mem_take_iff_getElem];exact⟨i,by omega,rfl⟩
 rw [hi]at hf;simp only [Option.bind_some,AmH hj,Option.map_some]at hf
 have DY:(Ax enc l)[j]?=some ⟨enc k,l[j].2.1,l[j].2.2⟩:=by simp [Ax,AmH hj,hk]
 have hst:(Instr.keyThatStays (enc k) (enc k)).run Tryz.prog W=.ok (enc k) W:=by simp [Instr.keyThatStays,K.bits]
 have hmod:(Ax enc l).modify j (fun e=>{e with key:=enc k})=Ax enc l:=by
  apply List.ext_getElem?;intro i;rw [List.getElem?_modify];by_cases Bh:j=i
  ·subst Bh;rw [DY];simp
  ·simp [Bh]
 have AY:(setBlock W b (.map (Ax enc l).toArray clock))=W:=hQ hb;unfold setBlock at AY;simp [Instr.mapEntry,run_underlying K.map,MapKept.run_getObj_map hb,K.chk,hf,DY,hst,MapKept.run_setObj_map _ hb,Result.andThen,goInt];rw [hmod];exact AY
theorem jp(mt:TypeId)(l:List (α×Value×Nat)){j:Nat}(hj:j<l.length)(hno:∀e∈l.take j,e.2.2≠l[j].2.2)(v:Value){b clock:Nat}{W:World}(hb:W.heap[b]?=some (.map (Ax enc l).toArray clock)) :
  (Instr.entryStore mt (.map (some b)) (.int .i64 (l[j].2.2:Nat)) v).run Tryz.prog W=.ok () (setBlock W b (.map (Ax enc (l.set j (l[j].1,v,l[j].2.2))).toArray clock)):=by
 have hf:(Ax enc l).findIdx? (fun e=>(e.born:Int) == (l[j].2.2:Int))=some j:=by rw [List.findIdx?_eq_some_iff_getElem];refine⟨by simp [Ax];exact hj,by simp [Ax],fun i Bh=>?_⟩;have:=hno l[i] (by rw [List.mem_take_iff_getElem];exact⟨i,by omega,rfl⟩);simp [Ax];omega
 have e0:(Ax enc l).modify j (fun e=>{e with val:=v})=Ax enc (l.set j (l[j].1,v,l[j].2.2)):=by
  apply List.ext_getElem?;intro i;rw [List.getElem?_modify];by_cases Bh:j=i
  ·subst Bh;simp [Ax,hj]
  ·simp [Bh,Ax,List.getElem?_set_ne Bh]
 simp [Instr.entryStore,MapKept.run_getObj_map hb,asInt,asIntOf,hf,MapKept.run_setObj_map _ hb,Result.andThen,setBlock,e0]
end
end
section
open Go.ChangeMaps (setBlock)
def AQ(s:Sg):Sg:=⟨s.b,s.a⟩
theorem Uf(s:Sg)(w:World):Calls Tryz.prog 104 #[As s] w (Ce (As (AQ s)) w):=by
 have hE:=((Aa.refl w).alloc (.cells #[S (R s.a.x),S (R s.a.y),S (R s.b.x),S (R s.b.y)] 155)).alloc (.cells #[S [],S [],S [],S []] 155);have hb1:=(Below.heap_alloc (w.alloc (.cells #[S (R s.a.x),S (R s.a.y),S (R s.b.x),S (R s.b.y)] 155)) (.cells #[S [],S [],S [],S []] 155) w.heap.size (by simp)).trans (AmB w (.cells #[S (R s.a.x),S (R s.a.y),S (R s.b.x),S (R s.b.y)] 155));have hb2:=AmB (w.alloc (.cells #[S (R s.a.x),S (R s.a.y),S (R s.b.x),S (R s.b.y)] 155)) (.cells #[S [],S [],S [],S []] 155);rw [AmJ]at hb2;unfold AQ As;go_enter Tryz.func104,Tryz.ntmps104
 go_upto_region 1 with fail
 rw [show (⟨#[]⟩:ByteArray)=⟨([]:Bs).toArray⟩from rfl];generalize (w.alloc (.cells #[S (R s.a.x),S (R s.a.y),S (R s.b.x),S (R s.b.y)] 155)).alloc (.cells #[S [],S [],S [],S []] 155)=V at *;obtain⟨bb,AZ⟩:=Am8 w.heap.size;have hle:w.heap.size<=bb+1:=(by omega);rw [←AZ]at hb1 hb2 ⊢;clear AZ;have k1:=Ab (o:=0) hb1 rfl;have k2:=Ab (o:=1) hb1 rfl;have k3:=Ab (o:=2) hb1 rfl;have k4:=Ab (o:=3) hb1 rfl;have y0:=AV (o:=0) hb2;have y1:=AV (o:=1) hb2;have y2:=AV (o:=2) hb2;have y3:=AV (o:=3) hb2;have z0:=Ab (o:=0) hb2 rfl;have z1:=Ab (o:=1) hb2 rfl;have z2:=Ab (o:=2) hb2 rfl;have z3:=Ab (o:=3) hb2 rfl;have hq:=OE (S (R s.b.x)) (S (R s.b.y)) (S (R s.a.x)) (S (R s.a.y)) hb2;have q0:=Ab (o:=0) hq rfl;have q1:=Ab (o:=1) hq rfl;have q2:=Ab (o:=2) hq rfl;have q3:=Ab (o:=3) hq rfl;clear hq hb1 hb2;go_wp2;refine bodyPost_ret (v:=.agg #[S (R s.b.x),S (R s.b.y),S (R s.a.x),S (R s.a.y)]) (by simp [results,Tryz.results104,go_sem,q0,q1,q2,q3]) rfl ?_;exact⟨rfl,(((hE.setCell (p:=⟨bb+1,0,none⟩) hle _).setCell (p:=⟨bb+1,1,none⟩) hle _).setCell (p:=⟨bb+1,2,none⟩) hle _).setCell (p:=⟨bb+1,3,none⟩) hle _⟩
def Nw(w:World):World:=((w.alloc (.map #[] 0)).alloc (.map #[] 0)).alloc (.cells #[.map (some w.heap.size),.map (some (w.heap.size+1))] 134)
theorem pD(w:World):Calls Tryz.prog 106 #[] w (fun e w'=>e=.returned (.pointer (some ⟨w.heap.size+1+1,0,none⟩))/\w'=Nw w):=by
 have hmm:=@run_makeMap Tryz.prog;go_enter Tryz.func106,Tryz.ntmps106;go_wp2;go_ret;exact⟨rfl,rfl⟩
end
section
open Go.ChangeMaps (setBlock)
def F6(R:List (Pt×List Pt))(p:Pt):Nat:=(R.findIdx? (fun e=>Ap p e.1)).getD R.length
def Gd(R:List (Pt×List Pt))(p:Pt):List (Pt×List Pt):=match R.findIdx? (fun e=>Ap p e.1)with|some _=>R|none=>R ++ [(p,[])]
def CG(R:List (Pt×List Pt))(p q:Pt):List (Pt×List Pt):=(Gd R p).modify (F6 R p) (fun e=>(e.1,e.2 ++ [q]))
structure Dq(B:Nat)(W:World)(b2:Nat)(E:List (Pt×Value×Nat))(R:List (Pt×List Pt)):Prop where
 blk:W.heap[b2]?=some (.map (Ax Ak E).toArray E.length)
 len:E.length=R.length
 row:∀i (h:i<E.length) (h':i<R.length),E[i].1=R[i].1/\E[i].2.2=i/\W.ownsRow B 92 2 E[i].2.1 R[i].2.length (flat (Ao R[i].2))
 apart:∀i j (hi:i<E.length) (hj:j<E.length),i≠j→E[i].2.1.ownBlock=none∨E[i].2.1.ownBlock≠E[j].2.1.ownBlock
 own:B<=b2
theorem Dq.lt{B:Nat}{W:World}{b2:Nat}{E:List (Pt×Value×Nat)}{R:List (Pt×List Pt)}(h:Dq B W b2 E R):b2<W.heap.size:=(Array.getElem?_eq_some_iff.1 h.blk).1
theorem Dq.keep{B:Nat}{W W':World}{b2:Nat}{E:List (Pt×Value×Nat)}{R:List (Pt×List Pt)}(h:Dq B W b2 E R)(hg:W.grownBy W' none):Dq B W' b2 E R:=
 ⟨(hg.block b2 h.lt (by simp)).trans h.blk,h.len,fun i hi hi'=>⟨(h.row i hi hi').1,(h.row i hi hi').2.1,(h.row i hi hi').2.2.kept hg (by
  rcases hv:E[i].2.1.ownBlock with _|g
  ·exact .inl rfl
  ·exact .inr (by simp))⟩,h.apart,h.own⟩
theorem YQ{E:List (Pt×Value×Nat)}{R:List (Pt×List Pt)}(hl:E.length=R.length)(he:∀i (h:i<E.length) (h':i<R.length),E[i].1=R[i].1)(p:Pt):E.findIdx? (fun e=>Ap p e.1)=R.findIdx? (fun e=>Ap p e.1):=by
 have h1:E.map (·.1)=R.map (·.1):=by
  apply List.ext_getElem
  ·simp [hl]
  ·intro i h1 h2;simp at h1 h2 ⊢;exact he i h1 h2
 have f:∀{β:Type} (l:List (Pt×β)),l.findIdx? (fun e=>Ap p e.1)=(l.map (·.1)).findIdx? (Ap p):=by
  intro β l;rw [List.findIdx?_map]
  rfl
 rw [f E,f R,h1]
theorem Kv{w:World}{b:Nat}{o o':Obj}(_:w.heap[b]?=some o'):w.grownBy (setBlock w b o) (some b):=
 ⟨rfl,rfl,rfl,by simp [setBlock],fun k _ hk=>To (fun e=>hk (by rw [e]))⟩
theorem Dq.entry{B:Nat}{W:World}{b2:Nat}{E:List (Pt×Value×Nat)}{R:List (Pt×List Pt)}(h:Dq B W b2 E R)(p:Pt) :
  ∃W1 E1,Dq B W1 b2 E1 (Gd R p)/\W.grownBy W1 (some b2)/\W1.heap.size=W.heap.size/\∃hj:F6 R p<E1.length,∃hj':F6 R p<(Gd R p).length,((Gd R p)[F6 R p]).1=p/\
   (∀V,V.heap[b2]?=W.heap[b2]?→(Instr.mapEntry 132 (.map (some b2)) (Ak p)).run Tryz.prog V=.ok (.tuple #[E1[F6 R p].2.1,.int .i64 (F6 R p:Nat)]) (setBlock V b2 (.map (Ax Ak E1).toArray E1.length)))/\W1=setBlock W b2 (.map (Ax Ak E1).toArray E1.length):=by
 have CY:=YQ h.len (fun i h1 h2=>(h.row i h1 h2).1) p
 cases hf:R.findIdx? (fun e=>Ap p e.1)with
 | none=>
  have e1:F6 R p=R.length:=(by unfold F6;rw [hf];rfl);have e2:Gd R p=R ++ [(p,[])]:=(by unfold Gd;rw [hf]);rw [hf]at CY;have hno:∀e∈E,Ap p e.1=false:=(by rw [List.findIdx?_eq_none_iff]at CY;exact CY);have hnew:=gU PL p E hno (W:=W) h.blk;rw [e2];refine⟨_,E ++ [(p,.slice none 0 0,E.length)],⟨?_,?_,?_,?_,h.own⟩,Kv h.blk,?_,?_,?_,?_,?_,rfl⟩
  ·rw [Ls h.blk]
  ·simp [h.len]
  ·intro i hi hi';by_cases hlt:i<E.length
   ·have P0:i<R.length:=(by rw [←h.len];exact hlt);rw [List.getElem_append_left hlt,List.getElem_append_left P0];obtain⟨r1,r2,r3⟩:=h.row i hlt P0;refine⟨r1,r2,r3.kept (Kv h.blk) ?_⟩
    rcases r3.2 with⟨hn,_⟩|⟨g,cap,cur,hv,hb,hg,_⟩
    ·left;rw [hn];rfl
    ·right
     rw [hv];simp only [Value.ownBlock,ne_eq,AmG];intro e;rw [e,h.blk]at hg
     cases hg
   ·have KH:i=E.length:=(by simp at hi;omega);subst KH;rw [List.getElem_append_right (by omega),List.getElem_append_right (by rw [h.len];omega)];simp only [Nat.sub_self,List.getElem_cons_zero,h.len];exact⟨by trivial,by trivial,⟨rfl,.inl ⟨rfl,rfl⟩⟩⟩
  ·intro i j hi hj Bh;by_cases Sa:i<E.length
   ·rw [List.getElem_append_left Sa];by_cases AW:j<E.length
    ·rw [List.getElem_append_left AW];exact h.apart i j Sa AW Bh
    ·rw [List.getElem_append_right (by omega)];have Mw:j=E.length:=(by simp at hj;omega);subst Mw;simp only [Nat.sub_self,List.getElem_cons_zero]
     cases E[i].2.1.ownBlock with
     | none=>left;rfl
     | some g=>right;simp [Value.ownBlock]
   ·rw [List.getElem_append_right (by omega)];have KH:i=E.length:=(by simp at hi;omega);subst KH
    left
    simp [Value.ownBlock]
  ·simp [setBlock]
  ·rw [e1,←h.len];simp
  ·rw [e1];simp
  ·simp only [e1];rw [List.getElem_append_right (by omega)];simp
  ·intro V hV;have hnV:=gU PL p E hno (W:=V) (hV.trans h.blk);rw [hnV];simp only [e1];rw [List.getElem_append_right (by rw [h.len];omega)];simp [h.len]
 | some j=>
  have e1:F6 R p=j:=(by unfold F6;rw [hf];rfl);have e2:Gd R p=R:=(by unfold Gd;rw [hf]);rw [hf]at CY;rw [List.findIdx?_eq_some_iff_getElem]at CY;obtain⟨hj,h1,h2⟩:=CY;have hj':j<R.length:=by rw [←h.len];exact hj
  have hno:∀e∈E.take j,Ap p e.1=false:=by
   intro e he;rw [List.mem_take_iff_getElem]at he;obtain⟨i,hi,rfl⟩:=he;have:=h2 i (by omega)
   simpa using this
  have hk:E[j].1=p:=(Ct.1 h1).symm;rw [e2];refine⟨W,E,h,⟨rfl,rfl,rfl,AmC _,fun _ _ _=>rfl⟩,rfl,by rw [e1];exact hj,by rw [e1];exact hj',?_,?_,(hQ h.blk).symm⟩
  ·simp only [e1];rw [←(h.row j hj hj').1];exact hk
  ·intro V hV;have hb:=hV.trans h.blk;have:=Ai8 PL p E hj hno hk (W:=V) hb;rw [this,hQ hb];simp only [e1,(h.row j hj hj').2.1]
end
section
open Go.ChangeMaps (setBlock)
theorem Dq.append{B:Nat}{Y:World}{b2:Nat}{E:List (Pt×Value×Nat)}{R:List (Pt×List Pt)}(h:Dq B Y b2 E R)(hB:B<=Y.heap.size){j:Nat}(hj:j<E.length)(hj':j<R.length)(hn:R[j].2.length<200000)
  (q:Pt) {g:Nat} (hg:Y.heap[g]?=some (.cells #[S (Kl.R q.x),S (Kl.R q.y)] 92)) (ty:TypeId) :
  ∃v' Z Z',(Builtin.append_ #[33,33] ty #[E[j].2.1,.slice (some ⟨g,0,none⟩) 1 1]).run Tryz.prog Y=.ok v' Z/\Y.grownBy Z E[j].2.1.ownBlock
   /\(Instr.entryStore 132 (.map (some b2)) (.int .i64 (j:Nat)) v').run Tryz.prog Z=.ok () Z'/\Z.grownBy Z' (some b2)/\Dq B Z' b2 (E.set j (E[j].1,v',j)) (R.modify j (fun e=>(e.1,e.2 ++ [q]))):=by
 obtain⟨i0,hi,hz0,hz1,hz2⟩:=info_parts Tryz.infoPt;obtain⟨r1,r2,r3⟩:=h.row j hj hj'
 obtain⟨v',Z,hr,hown,hgr,_,hat⟩:=run_append_own_at (P:=Tryz.prog) Y B 33 ty 92 i0 (.agg #[S [],S []]) 2 32 Tryz.underlying33 hi hz0 hz1 hz2 rfl (by omega) E[j].2.1 R[j].2.length (flat (Ao R[j].2)) r3
  ⟨g,0,none⟩ 1 1 [S (Kl.R q.x),S (Kl.R q.y)] rfl (fun k u hu=>by
   rw [Addr.add_lit,Nat.zero_add];refine Ab hg ?_;rw [←Array.getElem?_toList]
   exact hu) (fun u hu=>by
   simp only [List.mem_cons,AmN,or_false]at hu
   rcases hu with rfl|rfl<;>rfl) (by unfold maxLen;omega) (by omega) hB
 rw [←fX]at hown
 have hb2:Z.heap[b2]?=Y.heap[b2]?:=hgr.block b2 h.lt (by
  rcases r3.2 with⟨hv,_⟩|⟨g0,cap,cur,hv,_,hg0,_⟩
  ·rw [hv];simp [Value.ownBlock]
  ·rw [hv];simp only [Value.ownBlock,ne_eq,AmG];intro e;rw [←e,h.blk]at hg0
   cases hg0)
 have UW:=hb2.trans h.blk
 have hno:∀e∈E.take j,e.2.2≠E[j].2.2:=by intro e he;rw [List.mem_take_iff_getElem]at he;obtain⟨i,hi,rfl⟩:=he;rw [(h.row i (by omega) (by rw [←h.len];omega)).2.1,r2];omega
 have hst:=jp (enc:=Ak) 132 E hj hno v' UW;rw [r2]at hst;have aO:=Kv (o:=.map (Ax Ak (E.set j (E[j].1,v',j))).toArray E.length) UW;refine⟨v',Z,_,hr,hgr,hst,aO,⟨?_,?_,?_,?_,h.own⟩⟩
 ·rw [Ls UW];simp
 ·simp [h.len]
 ·intro i hi hi';have Mt:i<E.length:=(by simpa using hi);have KJ:i<R.length:=(by simpa using hi');by_cases Bh:j=i
  ·subst Bh;rw [List.getElem_set_self,List.getElem_modify_eq];refine⟨r1,rfl,?_⟩;have hl:(R[j].2 ++ [q]).length=R[j].2.length+1:=(by simp);simp only [hl];refine hown.kept aO ?_
   rcases hown.2 with⟨hv,_⟩|⟨g0,cap,cur,hv,_,hg0,_⟩
   ·left;rw [hv];rfl
   ·right
    rw [hv];simp only [Value.ownBlock,ne_eq,AmG];intro e;rw [e,UW]at hg0
    cases hg0
  ·rw [List.getElem_set_ne Bh];have hm:(R.modify j (fun e=>(e.1,e.2 ++ [q])))[i]=R[i]:=(by rw [List.getElem_modify,if_neg Bh]);rw [hm];obtain⟨s1,s2,s3⟩:=h.row i Mt KJ;refine⟨s1,s2,(s3.kept hgr (h.apart i j Mt hj (fun e=>Bh e.symm))).kept aO ?_⟩
   rcases s3.2 with⟨hv,_⟩|⟨g0,cap,cur,hv,_,hg0,_⟩
   ·left;rw [hv];rfl
   ·right
    rw [hv];simp only [Value.ownBlock,ne_eq,AmG];intro e;rw [e,h.blk]at hg0
    cases hg0
 ·intro i k hi hk hik;have Mt:i<E.length:=(by simpa using hi);have Se:k<E.length:=by simpa using hk
  have hlt:∀x (hx:x<E.length) (hx':x<R.length),E[x].2.1.ownBlock≠some Y.heap.size:=by
   intro x hx hx'
   rcases(h.row x hx hx').2.2.2 with⟨hv,_⟩|⟨g0,cap,cur,hv,_,hg0,_⟩
   ·rw [hv];simp [Value.ownBlock]
   ·rw [hv];have:=(Array.getElem?_eq_some_iff.1 hg0).1;simp only [Value.ownBlock,ne_eq,AmG];omega
  by_cases Bh:j=i
  ·subst Bh;rw [List.getElem_set_self,List.getElem_set_ne hik]
   rcases hat with e|e
   ·rw [e];exact h.apart j k Mt Se hik
   ·rw [e];right;exact fun e'=>hlt k Se (by rw [←h.len];exact Se) e'.symm
  ·rw [List.getElem_set_ne Bh];by_cases hjk:j=k
   ·subst hjk;rw [List.getElem_set_self]
    rcases hat with e|e
    ·rw [e];exact h.apart i j Mt Se hik
    ·rw [e];right;exact hlt i Mt (by rw [←h.len];exact Mt)
   ·rw [List.getElem_set_ne hjk];exact h.apart i k Mt Se hik
end
section
open Go.ChangeMaps (setBlock)
def stamp(L:List (Sg×Int)):List (Sg×Value×Nat):=L.mapIdx fun i e=>(e.1,.int .i64 e.2,i)
theorem Dn(L:List (Sg×Int)):(stamp L).length=L.length:=by simp [stamp]
theorem l7(L:List (Sg×Int))(e:Sg×Int):stamp (L ++ [e])=stamp L ++ [(e.1,.int .i64 e.2,L.length)]:=by simp [stamp,List.mapIdx_append]
theorem iN{L:List (Sg×Int)}{x:Sg×Value×Nat}(h:x∈stamp L):∃e∈L,x.1=e.1:=by
 unfold stamp at h;rw [List.mem_mapIdx]at h;obtain⟨i,hi,rfl⟩:=h;exact⟨L[i],AmD hi,rfl⟩
theorem Ajs{L:List (Sg×Int)}{x:Sg×Value×Nat}(h:x∈stamp L):x.2.2<L.length:=by
 unfold stamp at h;rw [List.mem_mapIdx]at h;obtain⟨i,hi,rfl⟩:=h;exact hi
structure Bq(B:Nat)(W:World)(r b1 b2:Nat)(L:List (Sg×Int))(E:List (Pt×Value×Nat))(R:List (Pt×List Pt)):Prop where
 cell:W.heap[r]?=some (.cells #[.map (some b1),.map (some b2)] 134)
 left:W.heap[b1]?=some (.map (Ax As (stamp L)).toArray L.length)
 ar:Dq B W b2 E R
 r0:B<=r
 r1:B<=b1
 ne:b1≠b2
theorem zQ{W:World}{b1:Nat}{L:List (Sg×Int)}(h:W.heap[b1]?=some (.map (Ax As (stamp L)).toArray L.length))(s:Sg)(hno:∀e∈L,AK s e.1=false)(z:Int) :
  ∃X,(Instr.mapEntry 131 (.map (some b1)) (As s)).run Tryz.prog W=.ok (.tuple #[.int .i64 0,.int .i64 (L.length:Nat)]) X
   /\W.grownBy X (some b1)/\X.heap.size=W.heap.size
   /\∃Z,(Instr.entryStore 131 (.map (some b1)) (.int .i64 (L.length:Nat)) (.int .i64 z)).run Tryz.prog X=.ok () Z/\W.grownBy Z (some b1)/\Z.heap.size=W.heap.size/\Z.heap[b1]?=some (.map (Ax As (stamp (L ++ [(s,z)]))).toArray (L ++ [(s,z)]).length):=by
 have AdZ:∀e∈stamp L,AK s e.1=false:=by intro e he;obtain⟨x,hx,h1⟩:=iN he;rw [h1];exact hno x hx
 have h1:=gU VT s (stamp L) AdZ (W:=W) h;have hb:=Ls (o:=.map (Ax As (stamp L ++ [(s,.int .i64 0,L.length)])).toArray (L.length+1)) h;have hlt:L.length<(stamp L ++ [(s,Value.int .i64 0,L.length)]).length:=by simp [Dn]
 have hge:(stamp L ++ [(s,Value.int .i64 0,L.length)])[L.length]=(s,.int .i64 0,L.length):=by rw [List.getElem_append_right (by rw [Dn];omega)];simp [Dn]
 have h2:=jp (enc:=As) 131 (stamp L ++ [(s,.int .i64 0,L.length)]) hlt (by
  intro e he;rw [hge]
  have:e∈stamp L:=by rw [List.take_append_of_le_length (by rw [Dn];omega),AmK (by rw [Dn];omega)]at he;exact he
  have:=Ajs this;show e.2.2≠L.length
  omega) (.int .i64 z) hb
 rw [hge]at h2
 have FR:(stamp L ++ [(s,Value.int .i64 0,L.length)]).set L.length (s,.int .i64 z,L.length)=stamp (L ++ [(s,z)]):=by rw [l7,List.set_append_right _ _ (by rw [Dn];omega)];simp [Dn]
 rw [FR]at h2;refine⟨_,h1,Kv h,by simp [setBlock],_,h2,?_,by simp [setBlock],?_⟩
 ·exact⟨rfl,rfl,rfl,by simp [setBlock],fun k _ hk=>by
   have hkb:k≠b1:=fun e=>hk (by rw [e])
   rw [To hkb,To hkb]⟩
 ·rw [Ls hb];simp
end
section
open Go.ChangeMaps (setBlock)
theorem OQ{w w':World}{row:Option Nat}(hg:w.grownBy w' row){a:Addr}{v:Value}(h:w.cell? a=some v)(hn:some a.block≠row):w'.cell? a=some v:=by
 have hlt:a.block<w.heap.size:=by
  unfold World.cell? at h
  rcases Nat.lt_or_ge a.block w.heap.size with h'|h'
  ·exact h'
  ·simp [Array.getElem?_eq_none h']at h
 exact(World.cell?_of_block (hg.block a.block hlt hn)).trans h
theorem Gf{w w':World}(h:Aa w w')(row:Option Nat):w.grownBy w' row:=⟨h.os,h.tape,h.output,h.size,fun k hk _=>h.block k hk⟩
theorem Ny{a b c:World}{row:Option Nat}(h:a.grownBy b row)(k:b.grownBy c row):a.grownBy c row:=
 ⟨k.os.trans h.os,k.tape.trans h.tape,k.output.trans h.output,AmM h.size k.size,fun i hi hr=>(k.block i (AmL hi h.size) hr).trans (h.block i hi hr)⟩
theorem below_grown{B:Nat}{w w':World}{b:Nat}(hg:w.grownBy w' (some b))(hb:B<=b)(hB:B<=w.heap.size):Below B w w':=
 ⟨hg.os,hg.tape,hg.output,hg.size,fun k hk=>hg.block k (by omega) (by intro e;cases e;omega)⟩
theorem AfE{W:World}{b1:Nat}{L:List (Sg×Int)}(h:W.heap[b1]?=some (.map (Ax As (stamp L)).toArray L.length))(s:Sg)(h1:∀e∈L,AK s e.1=false)(h2:∀e∈L,AK (AQ s) e.1=false)(hne:AK (AQ s) s=false)(y z:Int) :
  ∃(n1:Nat) (X Z X2 Z2:World),(Instr.mapEntry 131 (.map (some b1)) (As s)).run Tryz.prog W=.ok (.tuple #[.int .i64 0,.int .i64 (L.length:Nat)]) X
   /\(Instr.entryStore 131 (.map (some b1)) (.int .i64 (L.length:Nat)) (.int .i64 y)).run Tryz.prog X=.ok () Z
   /\(Instr.mapEntry 131 (.map (some b1)) (As (AQ s))).run Tryz.prog Z=.ok (.tuple #[.int .i64 0,.int .i64 (n1:Nat)]) X2
   /\(Instr.entryStore 131 (.map (some b1)) (.int .i64 (n1:Nat)) (.int .i64 z)).run Tryz.prog X2=.ok () Z2
   /\W.grownBy X (some b1)/\W.grownBy Z (some b1)/\W.grownBy X2 (some b1)/\W.grownBy Z2 (some b1)/\Z2.heap.size=W.heap.size/\Z2.heap[b1]?=some (.map (Ax As (stamp (L ++ [(s,y),(AQ s,z)]))).toArray (L ++ [(s,y),(AQ s,z)]).length):=by
 obtain⟨X,e1,g1,s1,Z,e2,g2,s2,hb⟩:=zQ h s h1 y
 obtain⟨X2,e3,g3,s3,Z2,e4,g4,s4,hb2⟩:=zQ hb (AQ s) (by
  intro e he
  rcases List.mem_append.1 he with he|he
  ·exact h2 e he
  ·simp only [AmO]at he;subst he;exact hne) z
 have hl:(L ++ [(s,y)]).length=L.length+1:=(by simp);rw [hl]at e3 e4;rw [List.append_assoc]at hb2;exact⟨L.length+1,X,Z,X2,Z2,e1,e2,e3,e4,g1,g2,Ny g2 g3,Ny g2 g4,by omega,hb2⟩
section
variable {ops : Array Oper} {o : Oper} {a : Act} {K : Act → World → Prop} {Q : Exit → Act → World → Prop} {E : Prop}
theorem ma(hgd:o.guard=none)(s x:Operand)(ho:o.op=.call {callee:=.builtin .append,args:=#[s,x],argTypes:=#[33,33]})
  {v u v':Value} {w Z:World} (hs:a.eval s=v) (hx:a.eval x=u) (hr:(Builtin.append_ #[33,33] o.type #[v,u]).run Tryz.prog w=.ok v' Z) (h:K (a.put o.dst v') Z) :
  if Region.wanted o (yielded ops a.tmps)=true then Oper.wp Tryz.prog o a w K Q else E:=by
 have hw:Region.wanted o (yielded ops a.tmps)=true:=(by simp [Region.wanted,hgd]);rw [if_pos hw];unfold Oper.wp execOp;simp only [ho,resolve,invoke,builtin,Sem.run_bind,Sem.run_pure,Result.andThen_ok,List.map_toArray,List.map_cons,List.map_nil,hs,hx,hr];exact h
end
def BB(b2:Nat)(W V:World):Prop:=W.heap.size<=V.heap.size/\∀k o,W.heap[k]?=some o→k≠b2→(∀cs,o≠.cells cs 92 (0,0))→V.heap[k]?=some o
theorem BB.trans{b2:Nat}{a b c:World}(h:BB b2 a b)(k:BB b2 b c):BB b2 a c:=
 ⟨AmM h.1 k.1,fun i o h1 h2 h3=>k.2 i o (h.2 i o h1 h2 h3) h2 h3⟩
theorem BB.of_ext{b2:Nat}{a b:World}(h:Aa a b):BB b2 a b:=⟨h.size,fun i _ h1 _ _=>(h.block i (Array.getElem?_eq_some_iff.1 h1).1).trans h1⟩
theorem BB.of_grown{b2:Nat}{a b:World}(h:a.grownBy b (some b2)):BB b2 a b:=⟨h.size,fun i _ h1 h2 _=>(h.block i (Array.getElem?_eq_some_iff.1 h1).1 (by simp;exact h2)).trans h1⟩
theorem lV{R:List (Pt×List Pt)}{p:Pt}{n:Nat}(h:∀e∈R,e.2.length<=n):∀e∈Gd R p,e.2.length<=n:=by
 unfold Gd
 split
 ·exact h
 ·intro e he
  rcases List.mem_append.1 he with he|he
  ·exact h e he
  ·simp only [AmO]at he;subst he;simp
theorem XY{R:List (Pt×List Pt)}{p q:Pt}{n:Nat}(h:∀e∈R,e.2.length<=n):∀e∈CG R p q,e.2.length<=n+1:=by
 intro e he;unfold CG at he;obtain⟨i,hi,rfl⟩:=List.getElem_of_mem he;rw [List.getElem_modify];have hi':i<(Gd R p).length:=(by simpa using hi);have:=lV (p:=p) h _ (AmD hi')
 split
 ·simp;omega
 ·omega
theorem lW{B:Nat}{W:World}{b2:Nat}{E:List (Pt×Value×Nat)}{R0:List (Pt×List Pt)}(h:Dq B W b2 E R0)(hB:B<=W.heap.size)(p q:Pt)(hn:∀e∈R0,e.2.length<=100000) :
  ∃(j:Nat) (v v':Value) (X Z Z':World) (E':List (Pt×Value×Nat)),
   (Instr.mapEntry 132 (.map (some b2)) (Ak p)).run Tryz.prog (W.alloc (.cells #[S (R q.x),S (R q.y)] 92)).drew=.ok (.tuple #[v,.int .i64 (j:Nat)]) X
   /\(∀ty,ty=33→(Builtin.append_ #[33,33] ty #[v,.slice (some ⟨W.heap.size,0,none⟩) 1 1]).run Tryz.prog X=.ok v' Z)
   /\(Instr.entryStore 132 (.map (some b2)) (.int .i64 (j:Nat)) v').run Tryz.prog Z=.ok () Z'
   /\BB b2 W X/\BB b2 W Z/\BB b2 W Z'/\Below B W Z'/\Dq B Z' b2 E' (CG R0 p q):=by
 have hx:=((Aa.refl W).alloc (.cells #[S (R q.x),S (R q.y)] 92)).drew;have hg0:(W.alloc (.cells #[S (R q.x),S (R q.y)] 92)).drew.heap[W.heap.size]?=_:=AmB W (.cells #[S (R q.x),S (R q.y)] 92);have hA:=h.keep (Gf hx none);obtain⟨X,E1,hA1,g1,s1,hj,hj',hk,hrun,hX⟩:=hA.entry p;have hgX:X.heap[W.heap.size]?=some (.cells #[S (R q.x),S (R q.y)] 92):=(g1.block _ (by simp) (by have:=h.lt;simp;omega)).trans hg0;have qX:B<=X.heap.size:=by rw [s1];simp;omega
 have hlen:((Gd R0 p)[F6 R0 p]).2.length<200000:=by have:=lV hn _ (AmD hj');omega
 obtain⟨v',Z,Z',hr,gZ,hst,qO,hA2⟩:=hA1.append qX hj hj' hlen q hgX 33;have iL:BB b2 W X:=(BB.of_ext hx).trans (BB.of_grown g1)
 have l6:BB b2 X Z:=by
  refine⟨gZ.size,fun k o h1 _ h3=>(gZ.block k (Array.getElem?_eq_some_iff.1 h1).1 ?_).trans h1⟩
  rcases(hA1.row _ hj hj').2.2.2 with⟨hv,_⟩|⟨g,cap,cur,hv,_,hg,_⟩
  ·rw [hv];simp [Value.ownBlock]
  ·rw [hv];simp only [Value.ownBlock,ne_eq,AmG];intro e;rw [e,hg]at h1;exact h3 cur (Option.some.inj h1).symm
 have bZ:Below B X Z:=⟨gZ.os,gZ.tape,gZ.output,gZ.size,fun k hkB=>gZ.block k (by omega) (by
  rcases(hA1.row _ hj hj').2.2.2 with⟨hv,_⟩|⟨g,cap,cur,hv,hb,_⟩
  ·rw [hv];simp [Value.ownBlock]
  ·rw [hv];simp only [Value.ownBlock,ne_eq,AmG];omega)⟩
 have bb:=h.own;have U7:B<=Z.heap.size:=AmM qX gZ.size;have yx:Below B W Z':=((Below.mono hx hB).trans (below_grown g1 bb (by simp;omega))).trans (bZ.trans (below_grown qO bb U7));refine⟨F6 R0 p,E1[F6 R0 p].2.1,v',X,Z,Z',_,?_,?_,hst,iL,iL.trans l6,iL.trans (l6.trans (BB.of_grown qO)),yx,hA2⟩
 ·rw [hX];exact hrun _ rfl
 ·intro ty cT;subst cT;exact hr
theorem Ya{B:Nat}{w:World}{r b1 b2:Nat}{L:List (Sg×Int)}{E:List (Pt×Value×Nat)}{R0:List (Pt×List Pt)}(h:Bq B w r b1 b2 L E R0)(hB:B<=w.heap.size)(s:Sg)(y z:Int)
  (h1:∀e∈L,AK s e.1=false) (h2:∀e∈L,AK (AQ s) e.1=false) (hne:AK (AQ s) s=false) (hn:∀e∈R0,e.2.length<=90000) :
  Calls Tryz.prog 111 #[.pointer (some ⟨r,0,none⟩),As s,.int .i64 y,.int .i64 z] w (fun e w'=>e=.returned (.tuple #[])/\Below B w w'/\(∀k o,w.heap[k]?=some o→k≠b1→k≠b2→(∀cs,o≠.cells cs 92 (0,0))→w'.heap[k]?=some o)/\∃E',Bq B w' r b1 b2 (L ++ [(s,y),(AQ s,z)]) E' (CG (CG R0 s.a s.b) s.b s.a)):=by
 have hE:=(Aa.refl w).alloc (.cells #[S (R s.a.x),S (R s.a.y),S (R s.b.x),S (R s.b.y)] 155);have FH:=AmB w (.cells #[S (R s.a.x),S (R s.a.y),S (R s.b.x),S (R s.b.y)] 155);obtain⟨hc,hl,ha,hr0,hr1,AZ⟩:=h;have hcl:=AmA hc;have Dh:=(Array.getElem?_eq_some_iff.1 hl).1;have FD:=ha.lt;have bk:=Uf s;unfold As at bk;unfold As;go_enter Tryz.func111,Tryz.ntmps111
 go_upto_region 1 with fail
 replace hc:=(hE.block r hcl).trans hc;replace hl:=(hE.block b1 Dh).trans hl;replace ha:=ha.keep (Gf hE none);generalize hV:w.alloc (.cells #[S (R s.a.x),S (R s.a.y),S (R s.b.x),S (R s.b.y)] 155)=V at *;obtain⟨bs,RN⟩:=Am8 w.heap.size;rw [←RN]at FH ⊢;have nr:b1≠r:=(by intro e;rw [e,hc]at hl;cases hl);have ns:b1≠bs:=(by omega);have nbs:B<=bs:=(by omega);have nrs:r≠bs:=(by omega);have eG:b2≠bs:=(by omega);have nle:w.heap.size<=bs:=(by omega);have HV:=Am9 hV;clear RN hV
 have SO:∀w',V.grownBy w' (some b1)→(w'.cell? ⟨r,0,none⟩=some (.map (some b1))/\w'.cell? ⟨r,1,none⟩=some (.map (some b2))/\w'.cell? ⟨bs,0,none⟩=some (S (R s.a.x))/\w'.cell? ⟨bs,1,none⟩=some (S (R s.a.y))/\w'.cell? ⟨bs,2,none⟩=some (S (R s.b.x))/\w'.cell? ⟨bs,3,none⟩=some (S (R s.b.y))):=fun w' hg=>⟨OQ hg (Ab hc rfl) (by simp;omega),OQ hg (Ab hc rfl) (by simp;omega),OQ hg (Ab FH rfl) (by simp;omega),OQ hg (Ab FH rfl) (by simp;omega),OQ hg (Ab FH rfl) (by simp;omega),OQ hg (Ab FH rfl) (by simp;omega)⟩
 have t0:V.grownBy V.drew (some b1):=Gf (Aa.refl V).drew _
 go_region_held3 (fun w'=>w'.cell? ⟨r,0,none⟩=some (.map (some b1))/\w'.cell? ⟨r,1,none⟩=some (.map (some b2))/\w'.cell? ⟨bs,0,none⟩=some (S (R s.a.x))/\w'.cell? ⟨bs,1,none⟩=some (S (R s.a.y))/\w'.cell? ⟨bs,2,none⟩=some (S (R s.b.x))/\w'.cell? ⟨bs,3,none⟩=some (S (R s.b.y)))
  (first|with_reducible exact SO _ t0|with_reducible exact SO _ t1|with_reducible exact SO _ t2|with_reducible exact SO _ t3|with_reducible exact SO _ t4|with_reducible exact SO _ t5)
  (first|((with_reducible refine(bk _).mono ?_);rintro e w1 ⟨rfl,hx1⟩;have t1:V.grownBy w1 (some b1):=Ny t0 (Gf hx1 _);obtain⟨n1,X,Z,X2,Z2,e1,e2,e3,e4,u1,u2,u3,u4,u5,u6⟩:=AfE (((Aa.refl V).drew.trans hx1).block b1 (AmA hl) |>.trans hl) s h1 h2 hne y z;have t2:=Ny t1 u1;have t3:=Ny t1 u2;have t4:=Ny t1 u3;have t5:=Ny t1 u4;unfold As at e1 e3))
 have gz:V.grownBy Z2 (some b1):=t5;have Wh:r≠b2:=(by intro e;rw [e,ha.blk]at hc;cases hc);have hc1:=(gz.block r (AmA hc) (by simp;omega)).trans hc;have hb1:=(gz.block bs (AmA FH) (by simp;omega)).trans FH;have NC:Dq B V b2 E R0:=ha
 have sV:Dq B Z2 b2 E R0:=by
  refine⟨(gz.block b2 NC.lt (by simp;omega)).trans NC.blk,NC.len,fun i hi hi'=>?_,NC.apart,NC.own⟩;obtain⟨s1,s2,s3⟩:=NC.row i hi hi';refine⟨s1,s2,s3.kept gz ?_⟩
  rcases s3.2 with⟨hv,_⟩|⟨g,cap,cur,hv,_,hg,_⟩
  ·left;rw [hv];rfl
  ·right
   rw [hv];simp only [Value.ownBlock,ne_eq,AmG];intro e;rw [e,hl]at hg
   cases hg
 have LI:=Am9 u6;have GZ:=Am9 (show ∀k o,w.heap[k]?=some o→k≠b1→Z2.heap[k]?=some o from fun k o q1 q2=>(gz.block k (AmL (Array.getElem?_eq_some_iff.1 q1).1 hE.size) (by simp;exact q2)).trans ((hE.block k (Array.getElem?_eq_some_iff.1 q1).1).trans q1));have bz:Below B w Z2:=(Below.mono hE hB).trans (below_grown gz hr1 (by have:=hE.size;omega));have BZ:=Am9 bz;have HC:=Am9 hc;have U7:B<=Z2.heap.size:=(by have:=gz.size;have:=hE.size;omega);clear SO t0 t1 t2 t3 t4 t5 e1 e2 e3 e4 u1 u2 u3 u4 u5 u6 ha NC hc hl FH hx1 bz gz;obtain⟨j1,v1,u1,X1,Y1,Q1,E1,c1,c2,c3,y1,y2,y3,y4,y5⟩:=lW sV U7 s.a s.b (fun e he=>AmM (hn e he) (by omega));replace c2:=c2 _ rfl
 have O7:∀w',BB b2 Z2 w'→(w'.cell? ⟨r,0,none⟩=some (.map (some b1))/\w'.cell? ⟨r,1,none⟩=some (.map (some b2))/\w'.cell? ⟨bs,0,none⟩=some (S (R s.a.x))/\w'.cell? ⟨bs,1,none⟩=some (S (R s.a.y))/\w'.cell? ⟨bs,2,none⟩=some (S (R s.b.x))/\w'.cell? ⟨bs,3,none⟩=some (S (R s.b.y))):=fun w' hg=>
  have z1:=hg.2 r _ hc1 Wh (by intro cs e;cases e);have z2:=hg.2 bs _ hb1 (fun e=>eG e.symm) (by intro cs e;cases e)
  ⟨Ab z1 rfl,Ab z1 rfl,Ab z2 rfl,Ab z2 rfl,Ab z2 rfl,Ab z2 rfl⟩
 have t0:BB b2 Z2 Z2.drew:=BB.of_ext (Aa.refl Z2).drew;have t1:BB b2 Z2 (Z2.alloc (.cells #[S (R (s.b).x),S (R (s.b).y)] 92)).drew:=BB.of_ext ((Aa.refl _).alloc _).drew;unfold Ak at c1;(go_wp2_with fail)
 go_region_held3 (fun w'=>w'.cell? ⟨r,0,none⟩=some (.map (some b1))/\w'.cell? ⟨r,1,none⟩=some (.map (some b2))/\w'.cell? ⟨bs,0,none⟩=some (S (R s.a.x))/\w'.cell? ⟨bs,1,none⟩=some (S (R s.a.y))/\w'.cell? ⟨bs,2,none⟩=some (S (R s.b.x))/\w'.cell? ⟨bs,3,none⟩=some (S (R s.b.y)))
  (first|with_reducible exact O7 _ t0|with_reducible exact O7 _ t1|with_reducible exact O7 _ y1|with_reducible exact O7 _ y2|with_reducible exact O7 _ y3)
  (first|(refine ma (s:=.tmp 31) (x:=.tmp 34) ?hgd ?ho ?hs ?hx c2 ?h;(case hgd=>rfl);(case ho=>rfl);(case hs=>rfl);(case hx=>rfl)))
 have haQ:=y5;have hBQ:B<=Q1.heap.size:=AmM U7 y3.1;have hc2:=y3.2 r _ hc1 Wh (by intro cs e;cases e);have ZK:=y3.2 bs _ hb1 (fun e=>eG e.symm) (by intro cs e;cases e);have Y3:=Am9 y3;have Y4:=Am9 y4;clear O7 t0 t1 c1 c2 c3 y1 y2 y3 y4 y5 sV hc1 hb1;obtain⟨j2,v2,u2,X2',Y2',Q2,E2,c1,c2,c3,y1,y2,WX,y4',y5'⟩:=lW haQ hBQ s.b s.a (fun e he=>AmM (XY hn e he) (by omega));replace c2:=c2 _ rfl
 have QG:∀w',BB b2 Q1 w'→(w'.cell? ⟨r,0,none⟩=some (.map (some b1))/\w'.cell? ⟨r,1,none⟩=some (.map (some b2))/\w'.cell? ⟨bs,0,none⟩=some (S (R s.a.x))/\w'.cell? ⟨bs,1,none⟩=some (S (R s.a.y))/\w'.cell? ⟨bs,2,none⟩=some (S (R s.b.x))/\w'.cell? ⟨bs,3,none⟩=some (S (R s.b.y))):=fun w' hg=>
  have z1:=hg.2 r _ hc2 Wh (by intro cs e;cases e);have z2:=hg.2 bs _ ZK (fun e=>eG e.symm) (by intro cs e;cases e)
  ⟨Ab z1 rfl,Ab z1 rfl,Ab z2 rfl,Ab z2 rfl,Ab z2 rfl,Ab z2 rfl⟩
 have t0:BB b2 Q1 Q1.drew:=BB.of_ext (Aa.refl Q1).drew;have t1:BB b2 Q1 (Q1.alloc (.cells #[S (R (s.a).x),S (R (s.a).y)] 92)).drew:=BB.of_ext ((Aa.refl _).alloc _).drew;unfold Ak at c1;(go_wp2_with fail)
 go_region_held3 (fun w'=>w'.cell? ⟨r,0,none⟩=some (.map (some b1))/\w'.cell? ⟨r,1,none⟩=some (.map (some b2))/\w'.cell? ⟨bs,0,none⟩=some (S (R s.a.x))/\w'.cell? ⟨bs,1,none⟩=some (S (R s.a.y))/\w'.cell? ⟨bs,2,none⟩=some (S (R s.b.x))/\w'.cell? ⟨bs,3,none⟩=some (S (R s.b.y)))
  (first|with_reducible exact QG _ t0|with_reducible exact QG _ t1|with_reducible exact QG _ y1|with_reducible exact QG _ y2|with_reducible exact QG _ WX)
  (first|(refine ma (s:=.tmp 44) (x:=.tmp 47) ?hgd ?ho ?hs ?hx c2 ?h;(case hgd=>rfl);(case ho=>rfl);(case hs=>rfl);(case hx=>rfl)))
 go_wp2
 go_end0
 refine⟨rfl,(BZ.out.trans Y4.out).trans y4',fun k o q1 q2 q3 q4=>WX.2 k o (Y3.out.2 k o (GZ.out k o q1 q2) q3 q4) q3 q4,E2,⟨WX.2 r _ hc2 Wh (by intro cs e;cases e),WX.2 b1 _ (Y3.out.2 b1 _ LI.out AZ (by intro cs e;cases e)) AZ (by intro cs e;cases e),y5',hr0,hr1,AZ⟩⟩
end
section
open Go.ChangeMaps (setBlock)
def Bc(pts:List Pt)(e:Av):Sg:=⟨EZ pts e.f,EZ pts e.t⟩
def AL(pts:List Pt)(l:List Av):List (Sg×Int):=l.flatMap fun e=>[(Bc pts e,e.l),(AQ (Bc pts e),e.r)]
def Cy(pts:List Pt)(l:List Av):List (Pt×List Pt):=l.foldl (fun R0 e=>CG (CG R0 (Bc pts e).a (Bc pts e).b) (Bc pts e).b (Bc pts e).a) []
theorem Wk(pts:List Pt)(l:List Av)(e:Av):AL pts (l ++ [e])=AL pts l ++ [(Bc pts e,e.l),(AQ (Bc pts e),e.r)]:=by simp [AL]
theorem Wl(pts:List Pt)(l:List Av)(e:Av):Cy pts (l ++ [e])=CG (CG (Cy pts l) (Bc pts e).a (Bc pts e).b) (Bc pts e).b (Bc pts e).a:=by simp [Cy]
theorem bj(pts:List Pt):∀(l:List Av) (R0:List (Pt×List Pt)) (n:Nat),(∀e∈R0,e.2.length<=n)→∀e∈l.foldl (fun R0 e=>CG (CG R0 (Bc pts e).a (Bc pts e).b) (Bc pts e).b (Bc pts e).a) R0,e.2.length<=n+2*l.length
 | [],_,_,h=>by simpa using h
 | x::l,R0,n,h=>by intro e he;rw [List.foldl_cons]at he;have:=bj pts l _ (n+1+1) (XY (XY h)) e he;rw [List.length_cons];omega
theorem SU(pts:List Pt)(l:List Av):∀e∈Cy pts l,e.2.length<=2*l.length:=by
 intro e he;have:=bj pts l [] 0 (by simp) e he;omega
theorem Aii{w:World}{b o:Nat}{cs:List Value}(h:Ae w (some ⟨b,o,none⟩) cs)(hl:0<cs.length):b<w.heap.size:=by
 obtain⟨b',o',e,hc⟩:=h.ad hl;have e2:(⟨b,o,none⟩:Addr)=⟨b',o',none⟩:=Option.some.inj e;obtain rfl:b=b':=(by injection e2);have h1:=hc 0 hl;unfold World.cell? at h1
 rcases Nat.lt_or_ge b w.heap.size with h'|h'
 ·exact h'
 ·simp [Array.getElem?_eq_none h']at h1
theorem Uh{B:Nat}{w w':World}(h:Below B w w'){a:Addr}{v:Value}(hb:a.block<B)(hv:w.cell? a=some v):w'.cell? a=some v:=(World.cell?_of_block (h.block _ hb)).trans hv
theorem gb{w:World}{B B':Nat}{e:TypeId}{size:Nat}{v:Value}{n:Nat}{xs:List Value}(h:w.ownsRow B e size v n xs)(hB:B'<=B):w.ownsRow B' e size v n xs:=by
 refine⟨h.1,?_⟩
 rcases h.2 with h'|⟨g,cap,cur,h1,h2,h3⟩
 ·exact .inl h'
 ·exact .inr ⟨g,cap,cur,h1,AmM hB h2,h3⟩
theorem Bq.ext{B:Nat}{W W':World}{r b1 b2:Nat}{L:List (Sg×Int)}{E:List (Pt×Value×Nat)}{R0:List (Pt×List Pt)}(h:Bq B W r b1 b2 L E R0)(hx:Aa W W'):Bq B W' r b1 b2 L E R0:=
 ⟨(hx.block _ (AmA h.cell)).trans h.cell,(hx.block _ (Array.getElem?_eq_some_iff.1 h.left).1).trans h.left,h.ar.keep (Gf hx none),h.r0,h.r1,h.ne⟩
structure MZ(pts:List Pt)(l:List Av):Prop where
 rng:∀e∈l,0<=e.f/\0<=e.t/\e.f<(pts.length:Int)/\e.t<(pts.length:Int)
 ne:∀e∈l,AK (AQ (Bc pts e)) (Bc pts e)=false
 dis:∀j (h:j<l.length),∀e∈l.take j,AK (Bc pts l[j]) (Bc pts e)=false/\AK (Bc pts l[j]) (AQ (Bc pts e))=false/\AK (AQ (Bc pts l[j])) (Bc pts e)=false/\AK (AQ (Bc pts l[j])) (AQ (Bc pts e))=false
theorem MZ.keys{pts:List Pt}{l:List Av}(h:MZ pts l){j:Nat}(hj:j<l.length):(∀e∈AL pts (l.take j),AK (Bc pts l[j]) e.1=false)/\(∀e∈AL pts (l.take j),AK (AQ (Bc pts l[j])) e.1=false):=by
 constructor
 all_goals
  intro e he;unfold AL at he;rw [List.mem_flatMap]at he;obtain⟨x,hx,he⟩:=he;obtain⟨d1,d2,d3,d4⟩:=h.dis j hj x hx;simp only [List.mem_cons,AmN,or_false]at he
  rcases he with rfl|rfl<;>assumption
theorem pC{w:World} : Bq w.heap.size (Nw w) (w.heap.size+1+1) w.heap.size (w.heap.size+1) [] [] []:=by
 unfold Nw;have h0:=AmB w (.map #[] 0);have h1:=AmB (w.alloc (.map #[] 0)) (.map #[] 0);have h2:=AmB ((w.alloc (.map #[] 0)).alloc (.map #[] 0)) (.cells #[.map (some w.heap.size),.map (some (w.heap.size+1))] 134);simp only [AmJ]at h1 h2;have x1:=((Aa.refl (w.alloc (.map #[] 0))).alloc (.map #[] 0)).alloc (.cells #[.map (some w.heap.size),.map (some (w.heap.size+1))] 134);have x2:=(Aa.refl ((w.alloc (.map #[] 0)).alloc (.map #[] 0))).alloc (.cells #[.map (some w.heap.size),.map (some (w.heap.size+1))] 134);exact⟨h2,(x1.block _ (by simp)).trans h0,⟨(x2.block _ (by simp)).trans h1,rfl,fun i hi=>by simp at hi,fun i _ hi=>by simp at hi,by omega⟩,by omega,AmC _,by omega⟩
theorem AgC(m:Ck)(A B F:Option Addr)(c d g:Nat)(Cw:Ka m c d g)(Aj:MZ m.pts m.eds)(hle:m.eds.length<=1200)(w:World)(hA:Ae w A (flat (Ao m.pts)))(hB:Ae w B (Bz m.eds)) :
  Calls Tryz.prog 81 #[Dk A B F m c d g] w (fun e w'=>∃r b1 b2 E,e=.returned (.pointer (some ⟨r,0,none⟩))/\Aa w w'/\Bq w.heap.size w' r b1 b2 (AL m.pts m.eds) E (Cy m.pts m.eds)):=by
 obtain⟨c1,c2,d1,d2,g1,g2⟩:=Cw;have hM:=AmB w (.cells #[.slice A m.pts.length c,.slice B m.eds.length d,.slice F m.nf g] 36);have hE:=(Aa.refl w).alloc (.cells #[.slice A m.pts.length c,.slice B m.eds.length d,.slice F m.nf g] 36);unfold Dk;go_enter Tryz.func81,Tryz.ntmps81
 go_upto_region 1 with fail
 have hA:=hA.ext hE;have hB:=hB.ext hE;generalize w.alloc (.cells #[.slice A m.pts.length c,.slice B m.eds.length d,.slice F m.nf g] 36)=V at *;obtain⟨bm,C4⟩:=Am8 w.heap.size;have Ph:bm<V.heap.size:=(by have:=AmA hM;omega);rw [←C4]at hM ⊢;clear C4;have em:=pD V;have en:=@pC V
 have eb:Below V.heap.size V (Nw V):=((Aa.refl V).alloc _).alloc _ |>.alloc _
 generalize Nw V=V0 at *;obtain⟨r,hr⟩:=Am8 (V.heap.size+1+1);obtain⟨b2,hb2⟩:=Am8 (V.heap.size+1);obtain⟨b1,hb1⟩:=Am8 V.heap.size;rw [←hr]at em en;rw [←hb2]at en;have en':Bq V.heap.size V0 r b1 b2 [] [] []:=(by rw [hb1];exact en);clear hr hb2 hb1 en;have N8:∀w',Aa V w'→w'.heap[bm]?=some (.cells #[.slice A m.pts.length c,.slice B m.eds.length d,.slice F m.nf g] 36):=fun w' h=>(h.block _ Ph).trans hM;have m1:=Ab (o:=1) (N8 V0 eb) rfl;(go_wp2_with fail);(with_reducible refine em.mono ?_);rintro e w1 ⟨rfl,hw1⟩;rw [hw1];clear hw1
 go_upto_region 3 with fail
 clear m1 em
 go_loopw [10] (fun i wr=>∃j:Nat,i=.int .i64 (j:Nat)/\j<=m.eds.length/\Below V.heap.size V wr/\∃E,Bq V.heap.size wr r b1 b2 (AL m.pts (m.eds.take j)) E (Cy m.pts (m.eds.take j))) (fun i _=>m.eds.length-(intOf i).toNat)
 case atStart=>exact⟨0,rfl,by omega,eb,[],by simpa [AL,Cy]using en'⟩
 case round=>
  obtain⟨j,rfl,hj,BY,E,hN⟩:=hrel;have Ac:Aa V wr:=BY;by_cases hlt:j<m.eds.length
  ·have hj0:(0:Int)<=(j:Int):=(by omega);have AW:(j:Int)<(m.eds.length:Int):=(by omega);obtain⟨b,o,rfl,hg1,hg2,hg3,hg4⟩:=Tl (hB.ext Ac) hlt;have DC:=Aj.keys hlt;have hne:=Aj.ne _ (AmD hlt);have hrg:=Aj.rng _ (AmD hlt);have hrl:=SU m.pts (m.eds.take j);have Sy:=Wk m.pts (m.eds.take j) m.eds[j];have S1:=Wl m.pts (m.eds.take j) m.eds[j];rw [←AmF hlt]at Sy S1;obtain⟨e,he⟩:=Am8 (m.eds[j]);rw [←he]at hg1 hg2 hg3 hg4 DC hne hrg Sy S1;clear he;obtain⟨ef,NF⟩:∃n:Nat,e.f=(n:Int):=⟨e.f.toNat,by omega⟩;obtain⟨et,NG⟩:∃n:Nat,e.t=(n:Int):=⟨e.t.toNat,by omega⟩;have Pm:ef<m.pts.length:=(by omega);have Pn:et<m.pts.length:=(by omega);rw [NF]at hg1;rw [NG]at hg2;obtain⟨ba,oa,rfl,ha1,ha2⟩:=Cu (hA.ext Ac) Pm;obtain⟨b3,o3,JB,ZG,ZH⟩:=Cu (hA.ext Ac) Pn;have pu:=Am9 (Aii hA (by rw [flat_length];simp [Ao];omega));obtain⟨rfl,rfl⟩:ba=b3/\oa=o3:=by simpa using JB
   have hs:Bc m.pts e=⟨m.pts[ef],m.pts[et]⟩:=by unfold Bc EZ;rw [NF,NG];simp [Pm,Pn]
   obtain⟨pa,DF⟩:=Am8 (m.pts[ef]);obtain⟨pb,IR⟩:=Am8 (m.pts[et]);rw [←DF]at ha1 ha2 hs;rw [←IR]at ZG ZH hs;rw [hs]at DC hne Sy S1;have f0:(0:Int)<=(ef:Int):=(by omega);have f1:(ef:Int)<(m.pts.length:Int):=(by omega);have f2:(0:Int)<=(et:Int):=(by omega);have f3:(et:Int)<(m.pts.length:Int):=(by omega);have hx1:=(Aa.refl wr).alloc (.cells #[.int .i64 (ef:Nat),.int .i64 (et:Nat),.int .i64 e.l,.int .i64 e.r] 126);have CX:=AmB wr (.cells #[.int .i64 (ef:Nat),.int .i64 (et:Nat),.int .i64 e.l,.int .i64 e.r] 126);have Iw:=Am9 Sy;have t8:=Am9 S1;clear Sy S1 hs DF IR JB hrg NF NG
   go_upto_region 5 with fail
   have GI:=(hN.ext hx1).ext (Aa.refl _).drew;have El:=N8 _ (Ac.trans hx1);have k1:=hx1.cellS ha1;have k2:=hx1.cellS ha2;have k3:=hx1.cellS ZG;have k4:=hx1.cellS ZH;have uS:=Ac.trans hx1;generalize wr.alloc (.cells #[.int .i64 (ef:Nat),.int .i64 (et:Nat),.int .i64 e.l,.int .i64 e.r] 126)=W1 at *;obtain⟨be,tJ⟩:=Am8 wr.heap.size;rw [←tJ]at CX ⊢;clear tJ ha1 ha2 ZG ZH hg1 hg2 hg3 hg4;have ad:=Ya GI (by have:=uS.size;show V.heap.size<=W1.heap.size;exact this) ⟨pa,pb⟩ e.l e.r DC.1 DC.2 hne (fun x hx=>by have:=hrl x hx;rw [List.length_take]at this;omega);unfold As at ad
   have SO:∀w',Aa W1 w'→(w'.cell? ⟨bm,0,none⟩=some (.slice (some ⟨ba,oa,none⟩) m.pts.length c)/\w'.cell? ⟨be,0,none⟩=some (.int .i64 (ef:Nat))/\w'.cell? ⟨be,1,none⟩=some (.int .i64 (et:Nat))/\w'.cell? ⟨be,2,none⟩=some (.int .i64 e.l)/\w'.cell? ⟨be,3,none⟩=some (.int .i64 e.r)/\w'.cell? ⟨ba,oa+ef*2,none⟩=some (S (R pa.x))/\w'.cell? ⟨ba,oa+ef*2+1,none⟩=some (S (R pa.y))/\w'.cell? ⟨ba,oa+et*2,none⟩=some (S (R pb.x))/\w'.cell? ⟨ba,oa+et*2+1,none⟩=some (S (R pb.y))):=fun w' h=>⟨h.cellS (Ab El rfl),h.cellS (Ab CX rfl),h.cellS (Ab CX rfl),h.cellS (Ab CX rfl),h.cellS (Ab CX rfl),h.cellS k1,h.cellS k2,h.cellS k3,h.cellS k4⟩
   have Wi:be≠b1:=(by intro e;have q:=GI.left;rw [←e]at q;cases (show W1.heap[be]?=_ from q).symm.trans CX);have Wj:be≠b2:=(by intro e;have q:=GI.ar.blk;rw [←e]at q;cases (show W1.heap[be]?=_ from q).symm.trans CX);have Aq:ba<V.heap.size:=pu.out;have X:Aa W1 W1:=Aa.refl W1;have Xd:=X.drew
   go_region_held3 (fun w'=>w'.cell? ⟨bm,0,none⟩=some (.slice (some ⟨ba,oa,none⟩) m.pts.length c)/\w'.cell? ⟨be,0,none⟩=some (.int .i64 (ef:Nat))/\w'.cell? ⟨be,1,none⟩=some (.int .i64 (et:Nat))/\w'.cell? ⟨be,2,none⟩=some (.int .i64 e.l)/\w'.cell? ⟨be,3,none⟩=some (.int .i64 e.r)/\w'.cell? ⟨ba,oa+ef*2,none⟩=some (S (R pa.x))/\w'.cell? ⟨ba,oa+ef*2+1,none⟩=some (S (R pa.y))/\w'.cell? ⟨ba,oa+et*2,none⟩=some (S (R pb.x))/\w'.cell? ⟨ba,oa+et*2+1,none⟩=some (S (R pb.y)))
    (first|with_reducible exact SO _ Xd|exact S5)
    (first|((with_reducible refine ad.mono ?_);rintro _ w5 ⟨rfl,hb5,hs5,E5,NA⟩;have S5:(w5.cell? ⟨bm,0,none⟩=some (.slice (some ⟨ba,oa,none⟩) m.pts.length c)/\w5.cell? ⟨be,0,none⟩=some (.int .i64 (ef:Nat))/\w5.cell? ⟨be,1,none⟩=some (.int .i64 (et:Nat))/\w5.cell? ⟨be,2,none⟩=some (.int .i64 e.l)/\w5.cell? ⟨be,3,none⟩=some (.int .i64 e.r)/\w5.cell? ⟨ba,oa+ef*2,none⟩=some (S (R pa.x))/\w5.cell? ⟨ba,oa+ef*2+1,none⟩=some (S (R pa.y))/\w5.cell? ⟨ba,oa+et*2,none⟩=some (S (R pb.x))/\w5.cell? ⟨ba,oa+et*2+1,none⟩=some (S (R pb.y))):=⟨Ab ((hb5.block bm Ph).trans El) rfl,Ab (hs5 be _ CX Wi Wj (by intro cs e;cases e)) rfl,Ab (hs5 be _ CX Wi Wj (by intro cs e;cases e)) rfl,Ab (hs5 be _ CX Wi Wj (by intro cs e;cases e)) rfl,Ab (hs5 be _ CX Wi Wj (by intro cs e;cases e)) rfl,Uh hb5 Aq k1,Uh hb5 Aq k2,Uh hb5 Aq k3,Uh hb5 Aq k4⟩))
   have UF:=Iw.out▸t8.out▸NA;have IB:Below V.heap.size V w5:=Below.trans (Aa.drew uS) hb5;have pp:=Am9 IB;clear SO S5 X Xd ad hb5 hs5 IB;go_wp2;go_roundw
   case rel=>exact⟨j+1,by go_num,hlt,pp.out,E5,UF⟩
   case measure=>simp [intOf];omega
  ·have aX:(m.eds.length:Int)<=(j:Int):=(by omega);obtain rfl:j=m.eds.length:=(by omega);rw [AmK (AmC _)]at hN;have HN:=Am9 hN;have HE:=Am9 (hE.trans Ac);have HS:=Am9 hE.size;clear hN Ac BY;go_wp2;go_ret;have hN:=HN.out;exact⟨r,b1,b2,E,rfl,HE.out,⟨hN.cell,hN.left,⟨hN.ar.blk,hN.ar.len,fun i hi hi'=>⟨(hN.ar.row i hi hi').1,(hN.ar.row i hi hi').2.1,gb (hN.ar.row i hi hi').2.2 HS.out⟩,hN.ar.apart,AmM HS.out hN.ar.own⟩,AmM HS.out hN.r0,AmM HS.out hN.r1,hN.ne⟩⟩
end
def J2(R0:List (Pt×List Pt))(p:Pt):Nat:=match R0.find? (fun e=>Ap p e.1)with|some e=>e.2.length|none=>0
theorem Aca{E:List (Pt×Value×Nat)}{R0:List (Pt×List Pt)}{B:Nat}{W:World}{b2:Nat}(h:Dq B W b2 E R0)(p:Pt) :
  (∃A c,EX Ap (.slice none 0 0) p E=.slice A (J2 R0 p) c):=by
 have CY:=YQ h.len (fun i h1 h2=>(h.row i h1 h2).1) p;unfold EX J2
 cases hf:R0.findIdx? (fun e=>Ap p e.1)with
 | none=>
  rw [hf]at CY
  have e1:E.find? (fun e=>Ap p e.1)=none:=by rw [List.find?_eq_none];rw [List.findIdx?_eq_none_iff]at CY;intro x hx;rw [CY x hx];simp
  have e2:R0.find? (fun e=>Ap p e.1)=none:=by rw [List.find?_eq_none];rw [List.findIdx?_eq_none_iff]at hf;intro x hx;rw [hf x hx];simp
  rw [e1,e2];exact⟨none,0,rfl⟩
 | some j=>
  rw [hf]at CY;rw [List.findIdx?_eq_some_iff_getElem]at CY hf;obtain⟨hj,h1,h2⟩:=CY;obtain⟨hj',h3,h4⟩:=hf
  have e1:E.find? (fun e=>Ap p e.1)=some E[j]:=by rw [List.find?_eq_some_iff_getElem];exact⟨h1,j,hj,rfl,fun i hi=>by have:=h2 i hi;simpa using this⟩
  have e2:R0.find? (fun e=>Ap p e.1)=some R0[j]:=by rw [List.find?_eq_some_iff_getElem];exact⟨h3,j,hj',rfl,fun i hi=>by have:=h4 i hi;simpa using this⟩
  rw [e1,e2]
  rcases(h.row j hj hj').2.2.2 with⟨hv,hn⟩|⟨g,cap,cur,hv,_⟩
  ·simp only;rw [hv,hn];exact⟨none,0,rfl⟩
  ·simp only;rw [hv];exact⟨_,_,rfl⟩
theorem AbT{B:Nat}{w:World}{r b1 b2:Nat}{L:List (Sg×Int)}{E:List (Pt×Value×Nat)}{R0:List (Pt×List Pt)}(h:Bq B w r b1 b2 L E R0)(bn:Nat)(BV:w.cell? ⟨bn,0,none⟩=some (.pointer (some ⟨r,0,none⟩)))(p:Pt) :
  Calls Tryz.prog 83 #[Ak p,.pointer (some ⟨bn,0,none⟩)] w (Br (decide (J2 R0 p<2)) w):=by
 have hE:=(Aa.refl w).alloc (.cells #[S (R p.x),S (R p.y)] 92);have hb0:=AmB w (.cells #[S (R p.x),S (R p.y)] 92);have hN:=h.ext hE;obtain⟨A,c,hv⟩:=Aca h.ar p;have tQ:=hE.cellS BV;obtain⟨x,hx⟩:=Am8 (decide (J2 R0 p<2));rw [←hx];have HX:=Am9 (show x=decide ((J2 R0 p:Int)<2)by rw [hx];simp;omega);unfold Ak;clear hx;go_enter Tryz.func83,Tryz.ntmps83
 go_upto_region 1 with fail
 generalize w.alloc (.cells #[S (R p.x),S (R p.y)] 92)=V at *;obtain⟨bp,Bv⟩:=Am8 w.heap.size;rw [←Bv]at hb0 ⊢;clear Bv;have q1:∀q:Af V,q.w.cell? ⟨bn,0,none⟩=some (.pointer (some ⟨r,0,none⟩)):=Af.cell tQ;have q2:∀q:Af V,q.w.cell? ⟨r,1,none⟩=some (.map (some b2)):=Af.cell (Ab hN.cell rfl);have q3:∀q:Af V,q.w.cell? ⟨bp,0,none⟩=some (S (R p.x)):=Af.cell (Ab hb0 rfl);have q4:∀q:Af V,q.w.cell? ⟨bp,1,none⟩=some (S (R p.y)):=Af.cell (Ab hb0 rfl)
 have q5:∀q:Af V,(Instr.lookup 132 (.map (some b2)) (Ak p) false).run Tryz.prog q.w=.ok (.slice A (J2 R0 p) c) q.w:=fun q=>by rw [Qi PL p E (W:=q.w) ((q.h.block b2 hN.ar.lt).trans hN.ar.blk),hv]
 unfold Ak at q5;clear tQ hb0 hN h BV hv;refine Fe (by kernel_rfl) (by kernel_rfl) ?_
 repeat (go_big_quiet_step (fail))
 refine wpQuiet_nil ?_;rintro _ ⟨q,rfl⟩;go_wp2;go_ret;exact⟨by rw [HX.out];rfl,hE.trans q.h⟩
end Go.Proofs.YtjalkoacphhgdaaGreatDoor
