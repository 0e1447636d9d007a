/- W30. -/
import Derived.Test.YtnfedbopbcegjaaGreatDoorW27
set_option maxRecDepth 100000
set_option maxHeartbeats 4000000
namespace Go.Proofs.YtnfedbopbcegjaaGreatDoor
open Go.RowKit Kl Go.Shelf
theorem Gz{P:Program}{o:Oper}{a:Act}{w w':World}{v:Value}{K:Act→World→Prop}{Q:Exit→Act→World→Prop}(h:(execOp a.eval o).run P w=.ok (.value v) w')(hk:K (a.put o.dst v) w'):o.wp P a w K Q:=by
 unfold Oper.wp;rw [h];exact hk
theorem bS{P:Program}{Q:Exit→Act→World→Prop}{o:Oper}{a:Act}{w:World}{K:Act→World→Prop}{f:FuncId}{x y:Operand}{ts:Array TypeId}(ho:o.op=.call {callee:=.value (.func f),args:=#[x,y],argTypes:=ts})(hen:Enters P f){u v:Value}(hx:a.eval x=u)(hy:a.eval y=v)
  {R:Ending→World→Prop} (hc:Calls P f #[u,v] w R) (hR:∀e w'',R e w''→∃u,e=.returned u/\K (a.put o.dst u) w''):o.wp P a w K Q:=by
 subst hx;subst hy
 have h2:(execOp a.eval o).run P w=.ok (.enter f #[a.eval x,a.eval y]) w:=by unfold execOp;simp [ho,resolve,invoke,Act.eval,go_sem];exact hen _ w
 unfold Oper.wp;rw [h2,Oper.upon_enter];refine hc.mono fun e w'' h=>?_;obtain⟨u,rfl,hk⟩:=hR e w'' h;exact hk
theorem e9{P:Program}{Q:Exit→Act→World→Prop}{o:Oper}{a:Act}{w:World}{K:Act→World→Prop}{f:FuncId}{t:Nat}{y:Operand}{ts:Array TypeId}{c1 c2 c3:Value}(ho:o.op=.call {callee:=.value (.tmp t),args:=#[y],argTypes:=ts})(hen:Enters P f){v:Value}(hx:a.eval (.tmp t)=.func (.func f) #[] #[c1,c2,c3])(hy:a.eval y=v)
  {R:Ending→World→Prop} (hc:Calls P f #[v,c1,c2,c3] w R) (hR:∀e w'',R e w''→∃u,e=.returned u/\K (a.put o.dst u) w''):o.wp P a w K Q:=by
 subst hy;have hx':a.tmps[t]?.getD undef=.func (.func f) #[] #[c1,c2,c3]:=by rw [←hx];simp [Act.eval]
 have h2:(execOp a.eval o).run P w=.ok (.enter f #[a.eval y,c1,c2,c3]) w:=by unfold execOp;simp [ho,hx',resolve,invoke,Act.eval,go_sem];exact hen _ w
 unfold Oper.wp;rw [h2,Oper.upon_enter];refine hc.mono fun e w'' h=>?_;obtain⟨u,rfl,hk⟩:=hR e w'' h;exact hk
def Wo(ops:Array Oper)(l:List (Nat×Nat)):Bool:=l.all fun p=>match ops[p.1]? with
 | some o=>(waits o).contains p.2
 | none=>false
theorem ZO{ops:Array Oper}{L:List (Op×Option Nat)}(h:ops.toList.map (fun o=>(o.op,o.dst))=L){i:Nat}{o:Oper}(ho:ops[i]?=some o):L[i]?=some (o.op,o.dst):=by
 subst h;simp [ho]
def I5(d:Nat):Prop:=128<=d/\d<148
def zD(bM bh:Nat)(P E F:Value)(x:Hf)(r1 r2 r3 zl:Int)(vr fn:Value)(zr:Int)(BF:Nat)(E':Value):Nat→Value
 | 0=>.pointer (some ⟨bM,1,none⟩)
 | 1=>E
 | 2=>.agg #[P,E,F]
 | 3=>.pointer (some ⟨bh,0,none⟩)
 | 4=>Ag x.a
 | 5=>.int .i64 r1
 | 6=>.agg #[P,E,F]
 | 7=>.pointer (some ⟨bh,2,none⟩)
 | 8=>Ag x.b
 | 9=>.int .i64 r2
 | 10=>.int .i64 zl
 | 11=>fn
 | 12=>vr
 | 13=>Fl x
 | 14=>.int .i64 r3
 | 15=>.int .i64 zr
 | 16=>.agg #[.int .i64 r1,.int .i64 r2,.int .i64 zl,.int .i64 zr]
 | 17=>.slice (some ⟨BF,0,none⟩) 1 1
 | 18=>E'
 | _=>.pointer (some ⟨bM,1,none⟩)
def ZR:List (Op×Option Nat):=[
 (.fieldAddr 44 (.tmp 8) 1,some 128),(.load 42 (.tmp 128),some 129),(.load 44 (.tmp 8),some 130),(.fieldAddr 145 (.tmp 16) 0,some 131),(.load 28 (.tmp 131),some 132),
 (.call {callee:=.value (.func 137),args:=#[.tmp 130,.tmp 132],argTypes:=#[44,28]},some 133),
 (.load 44 (.tmp 8),some 134),(.fieldAddr 145 (.tmp 16) 1,some 135),(.load 28 (.tmp 135),some 136),
 (.call {callee:=.value (.func 137),args:=#[.tmp 134,.tmp 136],argTypes:=#[44,28]},some 137),
 (.move (.tmp 17),some 138),(.move (.tmp 14),some 139),(.move (.tmp 0),some 140),(.load 145 (.tmp 16),some 141),
 (.call {callee:=.value (.func 74),args:=#[.tmp 140,.tmp 141],argTypes:=#[142,145]},some 142),
 (.call {callee:=.value (.tmp 139),args:=#[.tmp 142],argTypes:=#[3]},some 143),
 (.build 119 #[(0,.tmp 133),(1,.tmp 137),(2,.tmp 138),(3,.tmp 143)],some 144),(.buildSlice 42 1 #[(0,.tmp 144)],some 145),
 (.call {callee:=.builtin .append,args:=#[.tmp 129,.tmp 145],argTypes:=#[42,42]},some 146),(.fieldAddr 44 (.tmp 8) 1,some 147),(.store 42 (.tmp 147) (.tmp 146),none)]
theorem SQ(bM:Nat)(w:World):(Instr.fieldAt 44 (.pointer (some ⟨bM,0,none⟩)) 1).run Tryz.prog w=.ok (.pointer (some ⟨bM,1,none⟩)) w:=by simp [go_sem]
theorem Aa4(bM:Nat)(w:World):(Instr.fieldAt 145 (.pointer (some ⟨bM,0,none⟩)) 0).run Tryz.prog w=.ok (.pointer (some ⟨bM,0,none⟩)) w:=by simp [go_sem]
theorem Aa5(bM:Nat)(w:World):(Instr.fieldAt 145 (.pointer (some ⟨bM,0,none⟩)) 1).run Tryz.prog w=.ok (.pointer (some ⟨bM,2,none⟩)) w:=by simp [go_sem]
theorem uL{w:World}{bM:Nat}{E:Value}(h:w.cell? ⟨bM,1,none⟩=some E):(Instr.loadAt 42 (.pointer (some ⟨bM,1,none⟩))).run Tryz.prog w=.ok E w:=by simp [go_sem,h]
theorem QT{w:World}{b o:Nat}{u v:Value}(h:w.cell? ⟨b,o,none⟩=some u)(h':w.cell? ⟨b,o+1,none⟩=some v):(Instr.loadAt 28 (.pointer (some ⟨b,o,none⟩))).run Tryz.prog w=.ok (.agg #[u,v]) w:=by simp [go_sem,h,h']
theorem uM{w:World}{b:Nat}{u v x:Value}(h:w.heap[b]?=some (.cells #[u,v,x] 44)):(Instr.loadAt 44 (.pointer (some ⟨b,0,none⟩))).run Tryz.prog w=.ok (.agg #[u,v,x]) w:=by
 have h0:=Ab (o:=0) h rfl;have h1:=Ab (o:=1) h rfl;have h2:=Ab (o:=2) h rfl;simp [go_sem,h0,h1,h2]
theorem AdR{w:World}{b:Nat}{x:Hf}(h:w.heap[b]?=some (.cells #[S (R x.a.x),S (R x.a.y),S (R x.b.x),S (R x.b.y),.int .i64 x.l] 145)):(Instr.loadAt 145 (.pointer (some ⟨b,0,none⟩))).run Tryz.prog w=.ok (Fl x) w:=by
 have h0:=Ab (o:=0) h rfl;have h1:=Ab (o:=1) h rfl;have h2:=Ab (o:=2) h rfl;have h3:=Ab (o:=3) h rfl;have h4:=Ab (o:=4) h rfl;simp [go_sem,h0,h1,h2,h3,h4,Fl]
theorem zU{w:World}{bM:Nat}{P E F E':Value}(hE:∃A n c,E'=.slice A n c)(h:w.heap[bM]?=some (.cells #[P,E,F] 44)):(Instr.storeAt 42 (.pointer (some ⟨bM,1,none⟩)) E').run Tryz.prog w=.ok () (w.setCell ⟨bM,1,none⟩ E'):=by
 have h0:=Ab (o:=1) h rfl;have h1:=Ao (o:=1) h;obtain⟨A,n,c,rfl⟩:=hE;simp [go_sem,h0,h1]
theorem fY(r1 r2 zl zr:Int)(w:World):(Instr.build 119 #[(0,.int .i64 r1),(1,.int .i64 r2),(2,.int .i64 zl),(3,.int .i64 zr)]).run Tryz.prog w=.ok (.agg #[.int .i64 r1,.int .i64 r2,.int .i64 zl,.int .i64 zr]) w:=by simp [go_sem]
theorem fX(r1 r2 zl zr:Int)(w:World):(Instr.buildSlice 42 1 #[(0,.agg #[.int .i64 r1,.int .i64 r2,.int .i64 zl,.int .i64 zr])]).run Tryz.prog w=.ok (.slice (some ⟨w.heap.size,0,none⟩) 1 1) (w.alloc (.cells #[.int .i64 r1,.int .i64 r2,.int .i64 zl,.int .i64 zr] 119)):=by simp [go_sem]
structure Fw where
 W5:World
 W:World
 a0:Act
 ops:Array Oper
 n:Nat
 bx:Nat
 kbn:Nat
 bM:Nat
 bU:Nat
 bh:Nat
 cu:Nat
 U:Option Addr
 kun:List Bs
 P:Value
 E:Value
 F:Value
 nums:List Int
 kfa:List Bs
 eds:List Au
 x:Hf
 r1:Int
 r2:Int
 r3:Int
 zl:Int
 vr:Value
def Fw.fn(c:Fw):Value:=.func (.func 135) #[] #[.pointer (some ⟨c.bx,0,none⟩),.pointer (some ⟨c.bM,0,none⟩),.pointer (some ⟨c.bU,0,none⟩)]
def Fw.slot(c:Fw)(zr:Int)(BF:Nat)(E':Value):Nat→Value:=zD c.bM c.bh c.P c.E c.F c.x c.r1 c.r2 c.r3 c.zl c.vr c.fn zr BF E'
def Wr:List (Nat×Nat):=[(1,0),(4,3),(5,2),(5,4),(8,7),(9,6),(9,8),(9,5),(14,12),(14,13),(14,9),(15,11),(15,14),(16,5),(16,9),(16,10),(16,15),(17,16),(18,1),(18,17),(18,15),(20,18),(20,19)]
structure Fw.Ok(c:Fw):Prop where
 st:Ef c.W5 c.W c.n c.bx c.kbn c.bM c.bU c.U c.cu c.kun c.P c.E c.F c.nums c.kfa c.eds
 hb:c.W.heap[c.bh]?=some (.cells #[S (R c.x.a.x),S (R c.x.a.y),S (R c.x.b.x),S (R c.x.b.y),.int .i64 c.x.l] 145)
 hn:c.n<=100000
 el:c.eds.length<200000
 c1:∀w',Aa c.W w'→Calls Tryz.prog 137 #[.agg #[c.P,c.E,c.F],Ag c.x.a] w' (AB c.r1 w')
 c2:∀w',Aa c.W w'→Calls Tryz.prog 137 #[.agg #[c.P,c.E,c.F],Ag c.x.b] w' (AB c.r2 w')
 c3:∀w',Aa c.W w'→Calls Tryz.prog 74 #[c.vr,Fl c.x] w' (AB c.r3 w')
 r3a:-1<=c.r3
 r3b:c.r3<(c.n:Int)
 e8:c.a0.eval (.tmp 8)=.pointer (some ⟨c.bM,0,none⟩)
 e16:c.a0.eval (.tmp 16)=.pointer (some ⟨c.bh,0,none⟩)
 e17:c.a0.eval (.tmp 17)=.int .i64 c.zl
 e14:c.a0.eval (.tmp 14)=c.fn
 e0:c.a0.eval (.tmp 0)=c.vr
 sz:147<c.a0.tmps.size
 op:c.ops.toList.map (fun o=>(o.op,o.dst))=ZR
 dep:Wo c.ops Wr=true
 acc:eM c.ops=true
def Fw.Ed(c:Fw)(w:World)(E' F':Value)(Be:List Int)(AG:List Bs)(l:List Au):Prop:=Ef c.W5 w c.n c.bx c.kbn c.bM c.bU c.U c.cu c.kun c.P E' F' Be AG l
structure BG(c:Fw)(zr:Int)(BF:Nat)(E' F':Value)(Be:List Int)(AG:List Bs)(l:Array Bool)(a:Act)(w:World):Prop where
 fr:DC I5 c.a0 a
 hf:w.heap[c.bh]?=c.W.heap[c.bh]?
 cl:∀(i:Nat) (o:Oper),c.ops[i]?=some o→l.getD i false=true→∀e∈o.after,Region.binds .any e=true→l.getD e.on false=true
 sl:∀i,i<20→l.getD i false=true→a.eval (.tmp (128+i))=c.slot zr BF E' i
 jpA:l.getD 15 false=false→Aa c.W w
 jpB:l.getD 15 false=true→l.getD 18 false=false→c.Ed w c.E F' Be AG c.eds
 jpG:l.getD 17 false=true→l.getD 18 false=false→w.heap[BF]?=some (.cells #[.int .i64 c.r1,.int .i64 c.r2,.int .i64 c.zl,.int .i64 zr] 119)
 jpC:l.getD 18 false=true→l.getD 20 false=false→w.heap[c.bM]?=some (.cells #[c.P,c.E,F'] 44)/\(∃A k d,E'=.slice A k d)/\c.Ed (w.setCell ⟨c.bM,1,none⟩ E') E' F' Be AG (c.eds ++ [⟨c.r1,c.r2,c.zl,zr⟩])
 jpD:l.getD 20 false=true→c.Ed w E' F' Be AG (c.eds ++ [⟨c.r1,c.r2,c.zl,zr⟩])
 jpN:l.getD 15 false=true→(zr,Be,AG)=D7 c.kun c.nums c.kfa c.r3
def Jx(c:Fw)(l:Array Bool)(a:Act)(w:World):Prop:=∃zr BF E' F' Be AG,BG c zr BF E' F' Be AG l a w
theorem Ml{ops:Array Oper}{l:Array Bool}(h:∀(i:Nat) (o:Oper),ops[i]?=some o→l.getD i false=true→∀e∈o.after,Region.binds .any e=true→l.getD e.on false=true){i:Nat}{o:Oper}(ho:ops[i]?=some o)(hd:∀e∈o.after,Region.binds .any e=true→l.getD e.on false=true) :
  ∀(j:Nat) (p:Oper),ops[j]?=some p→(l.setIfInBounds i true).getD j false=true→∀e∈p.after,Region.binds .any e=true→(l.setIfInBounds i true).getD e.on false=true:=by
 intro j p hp hl e he hb;by_cases AL:i=j
 ·subst AL;rw [ho]at hp;obtain rfl:=Option.some.inj hp;exact getD_set_true (hd e he hb)
 ·rw [getD_set_ne false AL]at hl;exact getD_set_true (h j p hp hl e he hb)
theorem Va{l:Array Bool}{a:Act}{i:Nat}{v:Value}{f:Nat→Value}(hs:128+i<a.tmps.size)(hv:v=f i)(h:∀j,j<20→j≠i→l.getD j false=true→a.eval (.tmp (128+j))=f j) :
  ∀j,j<20→(l.setIfInBounds i true).getD j false=true→(a.put (some (128+i)) v).eval (.tmp (128+j))=f j:=by
 intro j hj hl;by_cases AL:i=j
 ·subst AL;rw [eval_put_same hs,hv]
 ·rw [getD_set_ne false AL]at hl;rw [SG _ (by omega)];exact h j hj (fun e=>AL e.symm) hl
section
variable {c : Fw} {zr : Int} {BF : Nat} {E' F' : Value} {Be : List Int} {AG : List Bs} {l : Array Bool} {a : Act} {w : World}
theorem BG.sz(h:BG c zr BF E' F' Be AG l a w)(ok:c.Ok){d:Nat}(hd:d<=147):d<a.tmps.size:=by
 rw [h.fr.size];have:=ok.sz;omega
theorem BG.need(h:BG c zr BF E' F' Be AG l a w)(ok:c.Ok){i j:Nat}(hm:Wr.contains (i,j)=true)(hi:l.getD i false=true):l.getD j false=true:=by
 have h1:=List.all_eq_true.1 ok.dep (i,j) (by simpa using hm)
 cases ho:c.ops[i]? with
 | none=>rw [ho]at h1;cases h1
 | some o=>rw [ho]at h1;exact OQ (h.cl i o ho hi) j h1
theorem BG.put(h:BG c zr BF E' F' Be AG l a w)(ok:c.Ok){i:Nat}{o:Oper}(hi:i<20/\i≠15/\i≠17/\i≠18)(ho:c.ops[i]?=some o)(hd:∀e∈o.after,Region.binds .any e=true→l.getD e.on false=true){v:Value}(hv:v=c.slot zr BF E' i) :
  Jx c (l.setIfInBounds i true) (a.put (some (128+i)) v) w:=by
 refine⟨zr,BF,E',F',Be,AG,h.fr.put (by unfold I5;omega) _,h.hf,Ml h.cl ho hd,Va (h.sz ok (by omega)) hv (fun j hj _ hl=>h.sl j hj hl),?_,?_,?_,?_,?_,?_⟩
 all_goals simp only [getD_set_ne false hi.2.1,getD_set_ne false hi.2.2.1,getD_set_ne false hi.2.2.2,getD_set_ne false (show i≠20 by omega)]
 ·exact h.jpA
 ·exact h.jpB
 ·exact h.jpG
 ·exact h.jpC
 ·exact h.jpD
 ·exact h.jpN
theorem aS{c:Fw}{z z':Int}{g g':Nat}{E E':Value}{j:Nat}(hj:j<20)(hz:j=15∨j=16→z=z')(hg:j=17→g=g')(hE:j=18→E=E'):c.slot z g E j=c.slot z' g' E' j:=by
 match j,hj with
 | 0,_ | 1,_ | 2,_ | 3,_ | 4,_ | 5,_ | 6,_ | 7,_ | 8,_ | 9,_ | 10,_ | 11,_ | 12,_ | 13,_ | 14,_ | 19,_=>rfl
 | 15,_ | 16,_=>rw [hz (by omega)];rfl
 | 17,_=>rw [hg rfl];rfl
 | 18,_=>rw [hE rfl];rfl
 | n+20,k=>omega
theorem BG.no15(h:BG c zr BF E' F' Be AG l a w)(ok:c.Ok){i:Nat}(hi:i=2∨i=5∨i=6∨i=9∨i=14∨i=15)(hu:l.getD i false=false):l.getD 15 false=false:=by
 cases e:l.getD 15 false
 ·rfl
 ·have kA:=h.need ok (i:=15) (j:=14) (by decide) e;have h9:=h.need ok (i:=14) (j:=9) (by decide) kA;have h5:=h.need ok (i:=9) (j:=5) (by decide) h9;have h2:=h.need ok (i:=5) (j:=2) (by decide) h5;have h6:=h.need ok (i:=9) (j:=6) (by decide) h9
  rcases hi with rfl|rfl|rfl|rfl|rfl|rfl
  all_goals first|(rw [h2]at hu;cases hu)|(rw [h5]at hu;cases hu)|(rw [h6]at hu;cases hu)|(rw [h9]at hu;cases hu)|(rw [kA]at hu;cases hu)|(rw [e]at hu;cases hu)
theorem BG.no18(h:BG c zr BF E' F' Be AG l a w)(ok:c.Ok){i:Nat}(hi:i=1∨i=15∨i=17∨i=18)(hu:l.getD i false=false):l.getD 18 false=false:=by
 cases e:l.getD 18 false
 ·rfl
 ·have h1:=h.need ok (i:=18) (j:=1) (by decide) e;have Bt:=h.need ok (i:=18) (j:=15) (by decide) e;have Ld:=h.need ok (i:=18) (j:=17) (by decide) e
  rcases hi with rfl|rfl|rfl|rfl
  all_goals first|(rw [h1]at hu;cases hu)|(rw [Bt]at hu;cases hu)|(rw [Ld]at hu;cases hu)|(rw [e]at hu;cases hu)
theorem BG.no17(h:BG c zr BF E' F' Be AG l a w)(ok:c.Ok)(hu:l.getD 15 false=false):l.getD 17 false=false:=by
 cases e:l.getD 17 false
 ·rfl
 ·have h1:=h.need ok (i:=17) (j:=16) (by decide) e;have Bt:=h.need ok (i:=16) (j:=15) (by decide) h1;rw [hu]at Bt
  cases Bt
theorem BG.no16(h:BG c zr BF E' F' Be AG l a w)(ok:c.Ok)(hu:l.getD 15 false=false):l.getD 16 false=false:=by
 cases e:l.getD 16 false
 ·rfl
 ·have Bt:=h.need ok (i:=16) (j:=15) (by decide) e;rw [hu]at Bt
  cases Bt
theorem BG.no20(h:BG c zr BF E' F' Be AG l a w)(ok:c.Ok)(hu:l.getD 18 false=false):l.getD 20 false=false:=by
 cases e:l.getD 20 false
 ·rfl
 ·have De:=h.need ok (i:=20) (j:=18) (by decide) e;rw [hu]at De
  cases De
theorem BG.hb(h:BG c zr BF E' F' Be AG l a w)(ok:c.Ok):w.heap[c.bh]?=some (.cells #[S (R c.x.a.x),S (R c.x.a.y),S (R c.x.b.x),S (R c.x.b.y),.int .i64 c.x.l] 145):=h.hf.trans ok.hb
theorem BG.grow(h:BG c zr BF E' F' Be AG l a w)(ok:c.Ok)(Bt:l.getD 15 false=false){w':World}(hx:Aa w w'):BG c zr BF E' F' Be AG l a w':=by
 have Ld:=h.no17 ok Bt;have De:=h.no18 ok (i:=15) (by simp) Bt;have GK:=h.no20 ok De;exact⟨h.fr,(hx.block _ (AjL (h.hb ok))).trans h.hf,h.cl,h.sl,fun e=>(h.jpA e).trans hx,fun e=>(by rw [Bt]at e;cases e),fun e=>(by rw [Ld]at e;cases e),fun e=>(by rw [De]at e;cases e),fun e=>(by rw [GK]at e;cases e),fun e=>(by rw [Bt]at e;cases e)⟩
theorem BG.name(h:BG c zr BF E' F' Be AG l a w)(ok:c.Ok){o:Oper}(ho:c.ops[15]?=some o)(hd:∀e∈o.after,Region.binds .any e=true→l.getD e.on false=true)(hu:l.getD 15 false=false)(hsz:l.size=21){w':World}{z:Int}{F2:Value}{QX:List Int}{PI:List Bs}
  (hn:Hn w' c.W5.heap.size c.n c.bx c.kbn c.bM c.bU c.U c.cu c.kun c.P c.E F2 QX PI) (hb:Al (fun k=>k=c.kbn∨k=c.bM∨c.F.ownBlock=some k) w w') (Cb:(z,QX,PI)=D7 c.kun c.nums c.kfa c.r3) :
  BG c z BF E' F2 QX PI (l.setIfInBounds 15 true) (a.put (some 143) (.int .i64 z)) w':=by
 have hX:=h.jpA hu;have SY:=h.no16 ok hu;have Ld:=h.no17 ok hu;have De:=h.no18 ok (i:=15) (by simp) hu;have GK:=h.no20 ok De;have hS:=ok.st.extn hX;obtain⟨cn,Bo⟩:=Ip hS.nam.num;have BH:=h.hb ok;refine⟨h.fr.put (by unfold I5;omega) _,(hb.block c.bh (AjL BH) ?_).trans h.hf,Ml h.cl ho hd,Va (i:=15) (h.sz ok (by omega)) rfl (fun j hj Ai9 hl=>?_),?_,?_,?_,?_,?_,fun _=>Cb⟩
 ·rintro(e|e|e)
  ·exact C0 BH Bo (by decide) e
  ·exact C0 BH hS.nam.cM (by decide) e
  ·exact Ap hS.nam.fac BH (by decide) e
 ·rw [h.sl j hj hl];have e16:j≠16:=(by rintro rfl;rw [SY]at hl;cases hl);exact aS hj (by omega) (fun _=>rfl) (fun _=>rfl)
 all_goals simp only [J8 (show 15<l.size by omega),getD_set_ne false (show (15:Nat)≠17 by omega),getD_set_ne false (show (15:Nat)≠18 by omega),getD_set_ne false (show (15:Nat)≠20 by omega)]
 ·intro e;cases e
 ·intro _ _;exact hS.name hn hb
 ·intro e;rw [Ld]at e;cases e
 ·intro e;rw [De]at e;cases e
 ·intro e;rw [GK]at e;cases e
theorem BG.bslice(h:BG c zr BF E' F' Be AG l a w)(ok:c.Ok){o:Oper}(ho:c.ops[17]?=some o)(hd:∀e∈o.after,Region.binds .any e=true→l.getD e.on false=true)(hu:l.getD 17 false=false)(hsz:l.size=21)(Bt:l.getD 15 false=true) :
  BG c zr w.heap.size E' F' Be AG (l.setIfInBounds 17 true) (a.put (some 145) (.slice (some ⟨w.heap.size,0,none⟩) 1 1)) (w.alloc (.cells #[.int .i64 c.r1,.int .i64 c.r2,.int .i64 c.zl,.int .i64 zr] 119)):=by
 have hx:=(Aa.refl w).alloc (.cells #[.int .i64 c.r1,.int .i64 c.r2,.int .i64 c.zl,.int .i64 zr] 119);have De:=h.no18 ok (i:=17) (by simp) hu;have GK:=h.no20 ok De;refine⟨h.fr.put (by unfold I5;omega) _,(hx.block _ (AjL (h.hb ok))).trans h.hf,Ml h.cl ho hd,Va (i:=17) (h.sz ok (by omega)) rfl (fun j hj AiA hl=>?_),?_,?_,?_,?_,?_,fun _=>h.jpN Bt⟩
 ·rw [h.sl j hj hl];exact aS hj (fun _=>rfl) (by omega) (fun _=>rfl)
 all_goals simp only [J8 (show 17<l.size by omega),getD_set_ne false (show (17:Nat)≠15 by omega),getD_set_ne false (show (17:Nat)≠18 by omega),getD_set_ne false (show (17:Nat)≠20 by omega)]
 ·intro e;rw [Bt]at e;cases e
 ·intro e1 e2;exact(h.jpB e1 e2).extn hx
 ·intro _ _;exact AjM w _
 ·intro e;rw [De]at e;cases e
 ·intro e;rw [GK]at e;cases e
theorem BG.app(h:BG c zr BF E' F' Be AG l a w)(ok:c.Ok){o:Oper}(ho:c.ops[18]?=some o)(hd:∀e∈o.after,Region.binds .any e=true→l.getD e.on false=true)(hu:l.getD 18 false=false)(hsz:l.size=21)(Bt:l.getD 15 false=true){w':World}{v':Value}
  (hw:w'.ownsRow c.W5.heap.size 119 4 v' (c.eds.length+1) (AA (c.eds ++ [⟨c.r1,c.r2,c.zl,zr⟩]))) (hg:w.grownBy w' c.E.ownBlock) :
  BG c zr BF v' F' Be AG (l.setIfInBounds 18 true) (a.put (some 146) v') w':=by
 have GK:=h.no20 ok hu;have hS:Ef c.W5 w c.n c.bx c.kbn c.bM c.bU c.U c.cu c.kun c.P c.E F' Be AG c.eds:=h.jpB Bt hu;have BH:=h.hb ok;obtain⟨k1,k2⟩:=Ef.app (d:=⟨c.r1,c.r2,c.zl,zr⟩) hS (Aa.refl w) hg hw;obtain⟨A,d,rfl,-,-,-⟩:=Ad.of_own' (show 0<4 by omega) hw;refine⟨h.fr.put (by unfold I5;omega) _,(hg.block c.bh (AjL BH) (fun e=>Ap hS.own BH (by decide) e.symm)).trans h.hf,Ml h.cl ho hd,Va (i:=18) (h.sz ok (by omega)) rfl (fun j hj AiB hl=>?_),?_,?_,?_,?_,?_,fun _=>h.jpN Bt⟩
 ·rw [h.sl j hj hl];exact aS hj (fun _=>rfl) (fun _=>rfl) (by omega)
 all_goals simp only [J8 (show 18<l.size by omega),getD_set_ne false (show (18:Nat)≠15 by omega),getD_set_ne false (show (18:Nat)≠17 by omega),getD_set_ne false (show (18:Nat)≠20 by omega)]
 ·intro e;rw [Bt]at e;cases e
 ·intro _ e;cases e
 ·intro _ e;cases e
 ·intro _ _;exact⟨k1,⟨_,_,_,rfl⟩,k2⟩
 ·intro e;rw [GK]at e;cases e
theorem BG.store(h:BG c zr BF E' F' Be AG l a w)(ok:c.Ok){o:Oper}(ho:c.ops[20]?=some o)(hd:∀e∈o.after,Region.binds .any e=true→l.getD e.on false=true)(hu:l.getD 20 false=false)(hsz:l.size=21)(De:l.getD 18 false=true) :
  BG c zr BF E' F' Be AG (l.setIfInBounds 20 true) a (w.setCell ⟨c.bM,1,none⟩ E'):=by
 have Bt:=h.need ok (i:=18) (j:=15) (by decide) De;obtain⟨k1,k2,k3⟩:=h.jpC De hu;have BH:=h.hb ok;have hne:c.bh≠c.bM:=C0 BH k1 (by decide);refine⟨h.fr,?_,Ml h.cl ho hd,fun j hj hl=>?_,?_,?_,?_,?_,?_,fun _=>h.jpN Bt⟩
 ·rw [B7 (by show c.bh≠c.bM;exact hne)];exact h.hf
 ·rw [getD_set_ne false (show (20:Nat)≠j by omega)]at hl;exact h.sl j hj hl
 all_goals simp only [J8 (show 20<l.size by omega),getD_set_ne false (show (20:Nat)≠15 by omega),getD_set_ne false (show (20:Nat)≠17 by omega),getD_set_ne false (show (20:Nat)≠18 by omega)]
 ·intro e;rw [Bt]at e;cases e
 ·intro _ e;rw [De]at e;cases e
 ·intro _ e;rw [De]at e;cases e
 ·intro _ e;cases e
 ·intro _;exact k3
end
theorem K0{P:Program}{o:Oper}{a:Act}{w w':World}{v:Value}{K:Act→World→Prop}{Q:Exit→Act→World→Prop}(m:Sem Value)(he:execOp a.eval o=(do pure (.value (←m))))(h:m.run P w=.ok v w')(hk:K (a.put o.dst v) w'):o.wp P a w K Q:=by
 refine Gz (v:=v) (w':=w') ?_ hk;rw [he];simp [h]
theorem Gy{P:Program}{o:Oper}{a:Act}{w w':World}{v:Value}{K:Act→World→Prop}{Q:Exit→Act→World→Prop}{t:TypeId}{x:Operand}{D:Option Nat}(p:.load t x=o.op)(d:D=o.dst)(h:(Instr.loadAt t (a.eval x)).run P w=.ok v w')(hk:K (a.put D v) w'):o.wp P a w K Q:=
 K0 (Instr.loadAt t (a.eval x)) (by unfold execOp;rw [←p]) h (d▸hk)
theorem Kz{P:Program}{o:Oper}{a:Act}{w w':World}{v:Value}{K:Act→World→Prop}{Q:Exit→Act→World→Prop}{t:TypeId}{x:Operand}{k:Nat}{D:Option Nat}(p:.fieldAddr t x k=o.op)(d:D=o.dst)(h:(Instr.fieldAt t (a.eval x) k).run P w=.ok v w')(hk:K (a.put D v) w'):o.wp P a w K Q:=
 K0 (Instr.fieldAt t (a.eval x) k) (by unfold execOp;rw [←p]) h (d▸hk)
theorem Iy{P:Program}{o:Oper}{a:Act}{w:World}{K:Act→World→Prop}{Q:Exit→Act→World→Prop}(x:Operand)(h:o.op=.move x)(hk:K (a.put o.dst (a.eval x)) w):o.wp P a w K Q:=by
 unfold Oper.wp execOp;rw [h];exact hk
theorem Agc{c:Fw}(ok:c.Ok){id:Nat}{Q:Exit→Act→World→Prop}
  (hend:∀a w zr E' F' Be AG,DC I5 c.a0 a→c.Ed w E' F' Be AG (c.eds ++ [⟨c.r1,c.r2,c.zl,zr⟩])→(zr,Be,AG)=D7 c.kun c.nums c.kfa c.r3→Q .normal a w) :
  (Code.region id c.ops true).wp Tryz.prog Q c.a0 c.W:=by
 have N6:Enters Tryz.prog 137:=enters_of Tryz.func137 (by kernel_rfl) rfl;have zk:Enters Tryz.prog 74:=enters_of Tryz.func74 (by kernel_rfl) rfl;have Wy:Enters Tryz.prog 135:=enters_of Tryz.func135 (by kernel_rfl) rfl
 have hsz:c.ops.size=21:=by
  have:=congrArg List.length ok.op
  simpa [ZR]using this
 refine fe (Jx c) (by kernel_rfl) (fun i o ho=>(eP ok.acc i o ho).2) (fun i o ho=>(eP ok.acc i o ho).1) ?_ ?_ ?_
 ·refine⟨0,0,.slice none 0 0,.slice none 0 0,[],[],?_⟩;constructor
  all_goals try simp only [getD_replicate_false]
  ·exact DC.refl _ _
  ·rfl
  ·intro i o _ e;cases e
  ·intro i _ e;cases e
  ·intro _;exact(Aa.refl c.W).drew
  ·intro e;cases e
  ·intro e;cases e
  ·intro e;cases e
  ·intro e;cases e
  ·intro e;cases e
 ·rintro l a w i o ⟨zr,BF,E',F',Be,AG,h⟩ qB A8 ho Ba;have hi:i<21:=(by have:=(Array.getElem?_eq_some_iff.1 ho).1;omega);have JA:l.size=21:=(by omega);have hL:=ZO ok.op ho;have NX:=OQ Ba;have ev:=fun (d:Nat) {v:Value} (e:c.a0.eval (.tmp d)=v) (hd:d<128)=>(h.fr.eval (by unfold I5;omega)).trans e;have e8:=ev 8 ok.e8 (by omega);have e16:=ev 16 ok.e16 (by omega);have e17:=ev 17 ok.e17 (by omega);have e14:=ev 14 ok.e14 (by omega);have e0:=ev 0 ok.e0 (by omega)
  have dep:∀j k,Wr.contains (j,k)=true→j=i→l.getD k false=true:=by rintro j k hjk rfl;have h1:=List.all_eq_true.1 ok.dep (j,k) (by simpa using hjk);rw [ho]at h1;exact NX k h1
  rcases(by omega:i=0∨i=1∨i=2∨i=3∨i=4∨i=5∨i=6∨i=7∨i=8∨i=9∨i=10∨i=11∨i=12∨i=13∨i=14∨i=15∨i=16∨i=17∨i=18∨i=19∨i=20)with rfl|rfl|rfl|rfl|rfl|rfl|rfl|rfl|rfl|rfl|rfl|rfl|rfl|rfl|rfl|rfl|rfl|rfl|rfl|rfl|rfl
  all_goals
   simp only [ZR,List.getElem?_cons_zero,List.getElem?_cons_succ,AjR,Prod.mk.injEq]at hL;obtain⟨p,d⟩:=hL
  ·refine Kz p d (by rw [e8];exact SQ _ _) ?_;exact h.put ok (i:=0) (by omega) ho Ba rfl
  ·have De:=h.no18 ok (i:=1) (by simp) A8
   have hc:w.cell? ⟨c.bM,1,none⟩=some c.E:=by
    cases Bt:l.getD 15 false
    ·exact Ab (ok.st.extn (h.jpA Bt)).nam.cM rfl
    ·exact Ab (Ef.nam (h.jpB Bt De)).cM rfl
   refine Gy p d (by rw [h.sl 0 (by omega) (dep 1 0 (by decide) rfl)];exact uL hc) ?_;exact h.put ok (i:=1) (by omega) ho Ba rfl
  ·have hX:=h.jpA (h.no15 ok (i:=2) (by simp) A8);refine Gy p d (by rw [e8];exact uM (ok.st.extn hX).nam.cM) ?_;exact h.put ok (i:=2) (by omega) ho Ba rfl
  ·refine Kz p d (by rw [e16];exact Aa4 _ _) ?_;exact h.put ok (i:=3) (by omega) ho Ba rfl
  ·have hc:=h.hb ok;refine Gy p d (by rw [h.sl 3 (by omega) (dep 4 3 (by decide) rfl)];exact QT (Ab (o:=0) hc rfl) (Ab (o:=1) hc rfl)) ?_;exact h.put ok (i:=4) (by omega) ho Ba rfl
  ·have Bt:=h.no15 ok (i:=5) (by simp) A8;refine bS p.symm N6 (h.sl 2 (by omega) (dep 5 2 (by decide) rfl)) (h.sl 4 (by omega) (dep 5 4 (by decide) rfl)) (ok.c1 w (h.jpA Bt)) ?_;rintro e w'' ⟨rfl,hx⟩;refine⟨_,rfl,?_⟩;rw [←d];exact(h.grow ok Bt hx).put ok (i:=5) (by omega) ho Ba rfl
  ·have hX:=h.jpA (h.no15 ok (i:=6) (by simp) A8);refine Gy p d (by rw [e8];exact uM (ok.st.extn hX).nam.cM) ?_;exact h.put ok (i:=6) (by omega) ho Ba rfl
  ·refine Kz p d (by rw [e16];exact Aa5 _ _) ?_;exact h.put ok (i:=7) (by omega) ho Ba rfl
  ·have hc:=h.hb ok;refine Gy p d (by rw [h.sl 7 (by omega) (dep 8 7 (by decide) rfl)];exact QT (Ab (o:=2) hc rfl) (Ab (o:=3) hc rfl)) ?_;exact h.put ok (i:=8) (by omega) ho Ba rfl
  ·have Bt:=h.no15 ok (i:=9) (by simp) A8;refine bS p.symm N6 (h.sl 6 (by omega) (dep 9 6 (by decide) rfl)) (h.sl 8 (by omega) (dep 9 8 (by decide) rfl)) (ok.c2 w (h.jpA Bt)) ?_;rintro e w'' ⟨rfl,hx⟩;refine⟨_,rfl,?_⟩;rw [←d];exact(h.grow ok Bt hx).put ok (i:=9) (by omega) ho Ba rfl
  ·refine Iy _ p.symm ?_;rw [←d,e17];exact h.put ok (i:=10) (by omega) ho Ba rfl
  ·refine Iy _ p.symm ?_;rw [←d,e14];exact h.put ok (i:=11) (by omega) ho Ba rfl
  ·refine Iy _ p.symm ?_;rw [←d,e0];exact h.put ok (i:=12) (by omega) ho Ba rfl
  ·refine Gy p d (by rw [e16];exact AdR (h.hb ok)) ?_;exact h.put ok (i:=13) (by omega) ho Ba rfl
  ·have Bt:=h.no15 ok (i:=14) (by simp) A8;refine bS p.symm zk (h.sl 12 (by omega) (dep 14 12 (by decide) rfl)) (h.sl 13 (by omega) (dep 14 13 (by decide) rfl)) (ok.c3 w (h.jpA Bt)) ?_;rintro e w'' ⟨rfl,hx⟩;refine⟨_,rfl,?_⟩;rw [←d];exact(h.grow ok Bt hx).put ok (i:=14) (by omega) ho Ba rfl
  ·have hX:=h.jpA A8;have hS:=ok.st.extn hX;refine e9 p.symm Wy (h.sl 11 (by omega) (dep 15 11 (by decide) rfl)) (h.sl 14 (by omega) (dep 15 14 (by decide) rfl)) (uX hS.nam ok.hn hS.but.size c.r3 ok.r3a ok.r3b) ?_;rintro e w'' ⟨z,F2,QX,PI,rfl,hn,hb,Cb⟩;refine⟨_,rfl,?_⟩;rw [←d];exact⟨z,BF,E',F2,QX,PI,h.name ok ho Ba A8 JA hn hb Cb⟩
  ·have s5:a.eval (.tmp 133)=.int .i64 c.r1:=h.sl 5 (by omega) (dep 16 5 (by decide) rfl);have s9:a.eval (.tmp 137)=.int .i64 c.r2:=h.sl 9 (by omega) (dep 16 9 (by decide) rfl);have aM:a.eval (.tmp 138)=.int .i64 c.zl:=h.sl 10 (by omega) (dep 16 10 (by decide) rfl);have aN:a.eval (.tmp 143)=.int .i64 zr:=h.sl 15 (by omega) (dep 16 15 (by decide) rfl);refine K0 (Instr.build 119 #[(0,.int .i64 c.r1),(1,.int .i64 c.r2),(2,.int .i64 c.zl),(3,.int .i64 zr)]) (by unfold execOp;rw [←p];simp [s5,s9,aM,aN]) (fY _ _ _ _ _) ?_;rw [←d];exact h.put ok (i:=16) (by omega) ho Ba rfl
  ·have SY:=dep 17 16 (by decide) rfl;have Bt:=h.need ok (i:=16) (j:=15) (by decide) SY;have aO:a.eval (.tmp 144)=.agg #[.int .i64 c.r1,.int .i64 c.r2,.int .i64 c.zl,.int .i64 zr]:=h.sl 16 (by omega) SY;refine K0 (Instr.buildSlice 42 1 #[(0,.agg #[.int .i64 c.r1,.int .i64 c.r2,.int .i64 c.zl,.int .i64 zr])]) (by unfold execOp;rw [←p];simp [aO]) (fX _ _ _ _ _) ?_;rw [←d];exact⟨zr,w.heap.size,E',F',Be,AG,h.bslice ok ho Ba A8 JA Bt⟩
  ·have Bt:=dep 18 15 (by decide) rfl;have Ld:=dep 18 17 (by decide) rfl;have hS:Ef c.W5 w c.n c.bx c.kbn c.bM c.bU c.U c.cu c.kun c.P c.E F' Be AG c.eds:=h.jpB Bt A8;refine eo _ _ p.symm w c.W5.heap.size c.E c.eds.length c.eds (h.sl 1 (by omega) (dep 18 1 (by decide) rfl)) hS.own ok.el ⟨c.r1,c.r2,c.zl,zr⟩ BF (h.jpG Ld A8) (h.sl 17 (by omega) Ld) hS.but.size ?_;intro v' w' k1 k2;rw [←d];exact⟨zr,BF,v',F',Be,AG,h.app ok ho Ba A8 JA Bt k1 k2⟩
  ·refine Kz p d (by rw [e8];exact SQ _ _) ?_;exact h.put ok (i:=19) (by omega) ho Ba rfl
  ·have De:=dep 20 18 (by decide) rfl;obtain⟨k1,k2,-⟩:=h.jpC De A8
   have hrun:(execOp a.eval o).run Tryz.prog w=.ok .skip (w.setCell ⟨c.bM,1,none⟩ E'):=by unfold execOp;rw [←p];show (do Instr.storeAt 42 (a.eval (.tmp 147)) (a.eval (.tmp 146));pure Next.skip:Sem Next).run Tryz.prog w=_;rw [h.sl 19 (by omega) (dep 20 19 (by decide) rfl),h.sl 18 (by omega) De];have:=zU k2 k1;simp [zD,Fw.slot,this]
   have AU:Jx c (l.setIfInBounds 20 true) (a.put o.dst undef) (w.setCell ⟨c.bM,1,none⟩ E'):=by rw [←d];exact⟨zr,BF,E',F',Be,AG,h.store ok ho Ba A8 JA De⟩
   unfold Oper.wp;rw [hrun];exact AU
 ·rintro l a w ⟨zr,BF,E',F',Be,AG,h⟩ hall;exact hend a w zr E' F' Be AG h.fr (h.jpD (hall 20 (by omega))) (h.jpN (hall 15 (by omega)))
theorem DC.lit32{a0 a:Act}(h:DC I5 a0 a)(hs:147<a0.tmps.size):∃v:Nat→Value,a=⟨(a0.tmps.toList.take 128++([v 0,v 1,v 2,v 3,v 4,v 5,v 6,v 7,v 8,v 9,v 10,v 11,v 12,v 13,v 14,v 15,v 16,v 17,v 18,v 19]++a0.tmps.toList.drop 148)).toArray,a0.defers⟩:=by
 obtain⟨t,x8⟩:=a;have hd:x8=a0.defers:=h.defers;have hz:t.size=a0.tmps.size:=h.size;subst hd;refine⟨fun i=>t[128+i]?.getD undef,?_⟩
 congr 1
 apply Array.ext_getElem?;intro d;have hl:(a0.tmps.toList.take 128).length=128:=(by rw [List.length_take,Array.length_toList];omega);refine Eq.trans ?_ List.getElem?_toArray.symm
 dsimp only
 by_cases h1:d<128
 ·rw [List.getElem?_append_left (by omega),List.getElem?_take_of_lt h1,Array.getElem?_toList];exact h.same d (by unfold I5;omega)
 ·rw [List.getElem?_append_right (by omega),hl];by_cases h2:d<148
  ·obtain⟨i,rfl⟩:∃i,d=128+i:=⟨d-128,by omega⟩;rw [List.getElem?_append_left (by simp;omega),Nat.add_sub_cancel_left];have hv:t[128+i]?=some (t[128+i]?.getD undef):=by rw [Array.getElem?_eq_getElem (by omega)];rfl
   rcases(by omega:i=0∨i=1∨i=2∨i=3∨i=4∨i=5∨i=6∨i=7∨i=8∨i=9∨i=10∨i=11∨i=12∨i=13∨i=14∨i=15∨i=16∨i=17∨i=18∨i=19)with rfl|rfl|rfl|rfl|rfl|rfl|rfl|rfl|rfl|rfl|rfl|rfl|rfl|rfl|rfl|rfl|rfl|rfl|rfl|rfl<;>exact hv
  ·rw [List.getElem?_append_right (by simp;omega),List.getElem?_drop,Array.getElem?_toList];have e:=h.same d (by unfold I5;omega);refine e.trans (congrArg (fun i=>a0.tmps[i]?) ?_);simp only [List.length_cons,List.length_nil];omega
end Go.Proofs.YtnfedbopbcegjaaGreatDoor
