/- U31: ShQCR ShQC ShQGA. -/
import Derived.Test.YtbejphgbbpplbaaGreatDoorU29
set_option maxRecDepth 100000
set_option maxHeartbeats 16000000
namespace Go.Proofs.YtbejphgbbpplbaaGreatDoor
open Go.RowKit Kl Go.Shelf
theorem Zc{P:Program}{o:Oper}{a:Act}{w w':World}{v:Value}{K:Act→World→Prop}{Q:Exit→Act→World→Prop}(h:(execOp a.eval o).run P w=.ok (.value v) w')(hk:K (a.put o.dst v) w'):o.wp P a w K Q:=by
 unfold Oper.wp;rw [h];exact hk
theorem pC{P:Program}{Q:Exit→Act→World→Prop}{o:Oper}{a:Act}{w:World}{K:Act→World→Prop}{f:FuncId}{x y:Operand}{ts:Array TypeId}(ho:o.op=.call {callee:=.value (.func f),args:=#[x,y],argTypes:=ts})(hen:Enters P f){u v:Value}(hx:a.eval x=u)(hy:a.eval y=v)
  {R:Ending→World→Prop} (hc:Calls P f #[u,v] w R) (hR:∀e w'',R e w''→∃u,e=.returned u/\K (a.put o.dst u) w''):o.wp P a w K Q:=by
 subst hx;subst hy
 have h2:(execOp a.eval o).run P w=.ok (.enter f #[a.eval x,a.eval y]) w:=by unfold execOp;simp [ho,resolve,invoke,Act.eval,go_sem];exact hen _ w
 unfold Oper.wp;rw [h2,Oper.upon_enter];refine hc.mono fun e w'' h=>?_;obtain⟨u,rfl,hk⟩:=hR e w'' h;exact hk
theorem AbL{P:Program}{Q:Exit→Act→World→Prop}{o:Oper}{a:Act}{w:World}{K:Act→World→Prop}{f:FuncId}{t:Nat}{y:Operand}{ts:Array TypeId}{c1 c2 c3:Value}(ho:o.op=.call {callee:=.value (.tmp t),args:=#[y],argTypes:=ts})(hen:Enters P f){v:Value}(hx:a.eval (.tmp t)=.func (.func f) #[] #[c1,c2,c3])(hy:a.eval y=v)
  {R:Ending→World→Prop} (hc:Calls P f #[v,c1,c2,c3] w R) (hR:∀e w'',R e w''→∃u,e=.returned u/\K (a.put o.dst u) w''):o.wp P a w K Q:=by
 subst hy;have hx':a.tmps[t]?.getD undef=.func (.func f) #[] #[c1,c2,c3]:=by rw [←hx];simp [Act.eval]
 have h2:(execOp a.eval o).run P w=.ok (.enter f #[a.eval y,c1,c2,c3]) w:=by unfold execOp;simp [ho,hx',resolve,invoke,Act.eval,go_sem];exact hen _ w
 unfold Oper.wp;rw [h2,Oper.upon_enter];refine hc.mono fun e w'' h=>?_;obtain⟨u,rfl,hk⟩:=hR e w'' h;exact hk
def bN(ops:Array Oper)(l:List (Nat×Nat)):Bool:=l.all fun p=>match ops[p.1]? with
 | some o=>(waits o).contains p.2
 | none=>false
theorem mH{ops:Array Oper}{L:List (Op×Option Nat)}(h:ops.toList.map (fun o=>(o.op,o.dst))=L){i:Nat}{o:Oper}(ho:ops[i]?=some o):L[i]?=some (o.op,o.dst):=by
 subst h;simp [ho]
def JV(d:Nat):Prop:=128<=d/\d<148
def AaR(bM bh:Nat)(P E F:Value)(x:Hf)(r1 r2 r3 zl:Int)(vr fn:Value)(zr:Int)(BS:Nat)(E':Value):Nat→Value
 | 0=>.pointer (some ⟨bM,1,none⟩)
 | 1=>E
 | 2=>.agg #[P,E,F]
 | 3=>.pointer (some ⟨bh,0,none⟩)
 | 4=>Af x.a
 | 5=>.int .i64 r1
 | 6=>.agg #[P,E,F]
 | 7=>.pointer (some ⟨bh,2,none⟩)
 | 8=>Af x.b
 | 9=>.int .i64 r2
 | 10=>.int .i64 zl
 | 11=>fn
 | 12=>vr
 | 13=>Gw x
 | 14=>.int .i64 r3
 | 15=>.int .i64 zr
 | 16=>.agg #[.int .i64 r1,.int .i64 r2,.int .i64 zl,.int .i64 zr]
 | 17=>.slice (some ⟨BS,0,none⟩) 1 1
 | 18=>E'
 | _=>.pointer (some ⟨bM,1,none⟩)
def mJ:List (Op×Option Nat):=[
 (.fieldAddr 36 (.tmp 8) 1,some 128),(.load 34 (.tmp 128),some 129),(.load 36 (.tmp 8),some 130),(.fieldAddr 176 (.tmp 16) 0,some 131),(.load 94 (.tmp 131),some 132),
 (.call {callee:=.value (.func 198),args:=#[.tmp 130,.tmp 132],argTypes:=#[36,94]},some 133),
 (.load 36 (.tmp 8),some 134),(.fieldAddr 176 (.tmp 16) 1,some 135),(.load 94 (.tmp 135),some 136),
 (.call {callee:=.value (.func 198),args:=#[.tmp 134,.tmp 136],argTypes:=#[36,94]},some 137),
 (.move (.tmp 17),some 138),(.move (.tmp 14),some 139),(.move (.tmp 0),some 140),(.load 176 (.tmp 16),some 141),
 (.call {callee:=.value (.func 121),args:=#[.tmp 140,.tmp 141],argTypes:=#[173,176]},some 142),
 (.call {callee:=.value (.tmp 139),args:=#[.tmp 142],argTypes:=#[3]},some 143),
 (.build 126 #[(0,.tmp 133),(1,.tmp 137),(2,.tmp 138),(3,.tmp 143)],some 144),(.buildSlice 34 1 #[(0,.tmp 144)],some 145),
 (.call {callee:=.builtin .append,args:=#[.tmp 129,.tmp 145],argTypes:=#[34,34]},some 146),(.fieldAddr 36 (.tmp 8) 1,some 147),(.store 34 (.tmp 147) (.tmp 146),none)]
theorem Wd(bM:Nat)(w:World):(Instr.fieldAt 36 (.pointer (some ⟨bM,0,none⟩)) 1).run Tryz.prog w=.ok (.pointer (some ⟨bM,1,none⟩)) w:=by simp [go_sem]
theorem AgD(bM:Nat)(w:World):(Instr.fieldAt 176 (.pointer (some ⟨bM,0,none⟩)) 0).run Tryz.prog w=.ok (.pointer (some ⟨bM,0,none⟩)) w:=by simp [go_sem]
theorem AgE(bM:Nat)(w:World):(Instr.fieldAt 176 (.pointer (some ⟨bM,0,none⟩)) 1).run Tryz.prog w=.ok (.pointer (some ⟨bM,2,none⟩)) w:=by simp [go_sem]
theorem t8{w:World}{bM:Nat}{E:Value}(h:w.cell? ⟨bM,1,none⟩=some E):(Instr.loadAt 34 (.pointer (some ⟨bM,1,none⟩))).run Tryz.prog w=.ok E w:=by simp [go_sem,h]
theorem Yd{w:World}{b o:Nat}{u v:Value}(h:w.cell? ⟨b,o,none⟩=some u)(h':w.cell? ⟨b,o+1,none⟩=some v):(Instr.loadAt 94 (.pointer (some ⟨b,o,none⟩))).run Tryz.prog w=.ok (.agg #[u,v]) w:=by simp [go_sem,h,h']
theorem ud{w:World}{b:Nat}{u v x:Value}(h:w.heap[b]?=some (.cells #[u,v,x] 36)):(Instr.loadAt 36 (.pointer (some ⟨b,0,none⟩))).run Tryz.prog w=.ok (.agg #[u,v,x]) w:=by
 have h0:=Ab (o:=0) h rfl;have h1:=Ab (o:=1) h rfl;have h2:=Ab (o:=2) h rfl;simp [go_sem,h0,h1,h2]
theorem Akv{w:World}{b:Nat}{x:Hf}(h:w.heap[b]?=some (.cells #[S (R x.a.x),S (R x.a.y),S (R x.b.x),S (R x.b.y),.int .i64 x.l] 176)):(Instr.loadAt 176 (.pointer (some ⟨b,0,none⟩))).run Tryz.prog w=.ok (Gw x) w:=by
 have h0:=Ab (o:=0) h rfl;have h1:=Ab (o:=1) h rfl;have h2:=Ab (o:=2) h rfl;have h3:=Ab (o:=3) h rfl;have h4:=Ab (o:=4) h rfl;simp [go_sem,h0,h1,h2,h3,h4,Gw]
theorem Abg{w:World}{bM:Nat}{P E F E':Value}(hE:∃A n c,E'=.slice A n c)(h:w.heap[bM]?=some (.cells #[P,E,F] 36)):(Instr.storeAt 34 (.pointer (some ⟨bM,1,none⟩)) E').run Tryz.prog w=.ok () (w.setCell ⟨bM,1,none⟩ E'):=by
 have h0:=Ab (o:=1) h rfl;have h1:=AB (o:=1) h;obtain⟨A,n,c,rfl⟩:=hE;simp [go_sem,h0,h1]
theorem tM(r1 r2 zl zr:Int)(w:World):(Instr.build 126 #[(0,.int .i64 r1),(1,.int .i64 r2),(2,.int .i64 zl),(3,.int .i64 zr)]).run Tryz.prog w=.ok (.agg #[.int .i64 r1,.int .i64 r2,.int .i64 zl,.int .i64 zr]) w:=by simp [go_sem]
theorem tL(r1 r2 zl zr:Int)(w:World):(Instr.buildSlice 34 1 #[(0,.agg #[.int .i64 r1,.int .i64 r2,.int .i64 zl,.int .i64 zr])]).run Tryz.prog w=.ok (.slice (some ⟨w.heap.size,0,none⟩) 1 1) (w.alloc (.cells #[.int .i64 r1,.int .i64 r2,.int .i64 zl,.int .i64 zr] 126)):=by simp [go_sem]
structure G5 where
 W5:World
 W:World
 a0:Act
 ops:Array Oper
 n:Nat
 bx:Nat
 kbn:Nat
 bM:Nat
 bU:Nat
 bh:Nat
 cu:Nat
 U:Option Addr
 kun:List Bs
 P:Value
 E:Value
 F:Value
 nums:List Int
 kfa:List Bs
 eds:List AD
 x:Hf
 r1:Int
 r2:Int
 r3:Int
 zl:Int
 vr:Value
def G5.fn(c:G5):Value:=.func (.func 196) #[] #[.pointer (some ⟨c.bx,0,none⟩),.pointer (some ⟨c.bM,0,none⟩),.pointer (some ⟨c.bU,0,none⟩)]
def G5.slot(c:G5)(zr:Int)(BS:Nat)(E':Value):Nat→Value:=AaR c.bM c.bh c.P c.E c.F c.x c.r1 c.r2 c.r3 c.zl c.vr c.fn zr BS E'
def bQ:List (Nat×Nat):=[(1,0),(4,3),(5,2),(5,4),(8,7),(9,6),(9,8),(9,5),(14,12),(14,13),(14,9),(15,11),(15,14),(16,5),(16,9),(16,10),(16,15),(17,16),(18,1),(18,17),(18,15),(20,18),(20,19)]
structure G5.Ok(c:G5):Prop where
 st:EN c.W5 c.W c.n c.bx c.kbn c.bM c.bU c.U c.cu c.kun c.P c.E c.F c.nums c.kfa c.eds
 hb:c.W.heap[c.bh]?=some (.cells #[S (R c.x.a.x),S (R c.x.a.y),S (R c.x.b.x),S (R c.x.b.y),.int .i64 c.x.l] 176)
 hn:c.n<=100000
 el:c.eds.length<200000
 c1:∀w',Aa c.W w'→Calls Tryz.prog 198 #[.agg #[c.P,c.E,c.F],Af c.x.a] w' (Av c.r1 w')
 c2:∀w',Aa c.W w'→Calls Tryz.prog 198 #[.agg #[c.P,c.E,c.F],Af c.x.b] w' (Av c.r2 w')
 c3:∀w',Aa c.W w'→Calls Tryz.prog 121 #[c.vr,Gw c.x] w' (Av c.r3 w')
 r3a:-1<=c.r3
 r3b:c.r3<(c.n:Int)
 e8:c.a0.eval (.tmp 8)=.pointer (some ⟨c.bM,0,none⟩)
 e16:c.a0.eval (.tmp 16)=.pointer (some ⟨c.bh,0,none⟩)
 e17:c.a0.eval (.tmp 17)=.int .i64 c.zl
 e14:c.a0.eval (.tmp 14)=c.fn
 e0:c.a0.eval (.tmp 0)=c.vr
 sz:147<c.a0.tmps.size
 op:c.ops.toList.map (fun o=>(o.op,o.dst))=mJ
 dep:bN c.ops bQ=true
 acc:V9 c.ops=true
def G5.Ed(c:G5)(w:World)(E' F':Value)(B8:List Int)(AV:List Bs)(l:List AD):Prop:=EN c.W5 w c.n c.bx c.kbn c.bM c.bU c.U c.cu c.kun c.P E' F' B8 AV l
structure BV(c:G5)(zr:Int)(BS:Nat)(E' F':Value)(B8:List Int)(AV:List Bs)(l:Array Bool)(a:Act)(w:World):Prop where
 fr:DO JV c.a0 a
 hf:w.heap[c.bh]?=c.W.heap[c.bh]?
 cl:∀(i:Nat) (o:Oper),c.ops[i]?=some o→l.getD i false=true→∀e∈o.after,Region.binds .any e=true→l.getD e.on false=true
 sl:∀i,i<20→l.getD i false=true→a.eval (.tmp (128+i))=c.slot zr BS E' i
 jpA:l.getD 15 false=false→Aa c.W w
 jpB:l.getD 15 false=true→l.getD 18 false=false→c.Ed w c.E F' B8 AV c.eds
 jpG:l.getD 17 false=true→l.getD 18 false=false→w.heap[BS]?=some (.cells #[.int .i64 c.r1,.int .i64 c.r2,.int .i64 c.zl,.int .i64 zr] 126)
 jpC:l.getD 18 false=true→l.getD 20 false=false→w.heap[c.bM]?=some (.cells #[c.P,c.E,F'] 36)/\(∃A k d,E'=.slice A k d)/\c.Ed (w.setCell ⟨c.bM,1,none⟩ E') E' F' B8 AV (c.eds ++ [⟨c.r1,c.r2,c.zl,zr⟩])
 jpD:l.getD 20 false=true→c.Ed w E' F' B8 AV (c.eds ++ [⟨c.r1,c.r2,c.zl,zr⟩])
def Jx(c:G5)(l:Array Bool)(a:Act)(w:World):Prop:=∃zr BS E' F' B8 AV,BV c zr BS E' F' B8 AV l a w
theorem SD{ops:Array Oper}{l:Array Bool}(h:∀(i:Nat) (o:Oper),ops[i]?=some o→l.getD i false=true→∀e∈o.after,Region.binds .any e=true→l.getD e.on false=true){i:Nat}{o:Oper}(ho:ops[i]?=some o)(hd:∀e∈o.after,Region.binds .any e=true→l.getD e.on false=true) :
  ∀(j:Nat) (p:Oper),ops[j]?=some p→(l.setIfInBounds i true).getD j false=true→∀e∈p.after,Region.binds .any e=true→(l.setIfInBounds i true).getD e.on false=true:=by
 intro j p hp hl e he hb;by_cases Bn:i=j
 ·subst Bn;rw [ho]at hp;obtain rfl:=Option.some.inj hp;exact getD_set_true (hd e he hb)
 ·rw [getD_set_ne false Bn]at hl;exact getD_set_true (h j p hp hl e he hb)
theorem YR{l:Array Bool}{a:Act}{i:Nat}{v:Value}{f:Nat→Value}(hs:128+i<a.tmps.size)(hv:v=f i)(h:∀j,j<20→j≠i→l.getD j false=true→a.eval (.tmp (128+j))=f j) :
  ∀j,j<20→(l.setIfInBounds i true).getD j false=true→(a.put (some (128+i)) v).eval (.tmp (128+j))=f j:=by
 intro j hj hl;by_cases Bn:i=j
 ·subst Bn;rw [eval_put_same hs,hv]
 ·rw [getD_set_ne false Bn]at hl;rw [BC _ (by omega)];exact h j hj (fun e=>Bn e.symm) hl
section
variable {c : G5} {zr : Int} {BS : Nat} {E' F' : Value} {B8 : List Int} {AV : List Bs} {l : Array Bool} {a : Act} {w : World}
theorem BV.sz(h:BV c zr BS E' F' B8 AV l a w)(ok:c.Ok){d:Nat}(hd:d<=147):d<a.tmps.size:=by
 rw [h.fr.size];have:=ok.sz;omega
theorem BV.need(h:BV c zr BS E' F' B8 AV l a w)(ok:c.Ok){i j:Nat}(hm:bQ.contains (i,j)=true)(hi:l.getD i false=true):l.getD j false=true:=by
 have h1:=List.all_eq_true.1 ok.dep (i,j) (by simpa using hm)
 cases ho:c.ops[i]? with
 | none=>rw [ho]at h1;cases h1
 | some o=>rw [ho]at h1;exact KR (h.cl i o ho hi) j h1
theorem BV.put(h:BV c zr BS E' F' B8 AV l a w)(ok:c.Ok){i:Nat}{o:Oper}(hi:i<20/\i≠15/\i≠17/\i≠18)(ho:c.ops[i]?=some o)(hd:∀e∈o.after,Region.binds .any e=true→l.getD e.on false=true){v:Value}(hv:v=c.slot zr BS E' i) :
  Jx c (l.setIfInBounds i true) (a.put (some (128+i)) v) w:=by
 refine⟨zr,BS,E',F',B8,AV,h.fr.put (by unfold JV;omega) _,h.hf,SD h.cl ho hd,YR (h.sz ok (by omega)) hv (fun j hj _ hl=>h.sl j hj hl),?_,?_,?_,?_,?_⟩
 all_goals simp only [getD_set_ne false hi.2.1,getD_set_ne false hi.2.2.1,getD_set_ne false hi.2.2.2,getD_set_ne false (show i≠20 by omega)]
 ·exact h.jpA
 ·exact h.jpB
 ·exact h.jpG
 ·exact h.jpC
 ·exact h.jpD
theorem nX{c:G5}{z z':Int}{g g':Nat}{E E':Value}{j:Nat}(hj:j<20)(hz:j=15∨j=16→z=z')(hg:j=17→g=g')(hE:j=18→E=E'):c.slot z g E j=c.slot z' g' E' j:=by
 match j,hj with
 | 0,_ | 1,_ | 2,_ | 3,_ | 4,_ | 5,_ | 6,_ | 7,_ | 8,_ | 9,_ | 10,_ | 11,_ | 12,_ | 13,_ | 14,_ | 19,_=>rfl
 | 15,_ | 16,_=>rw [hz (by omega)];rfl
 | 17,_=>rw [hg rfl];rfl
 | 18,_=>rw [hE rfl];rfl
 | n+20,k=>omega
theorem BV.no15(h:BV c zr BS E' F' B8 AV l a w)(ok:c.Ok){i:Nat}(hi:i=2∨i=5∨i=6∨i=9∨i=14∨i=15)(hu:l.getD i false=false):l.getD 15 false=false:=by
 cases e:l.getD 15 false
 ·rfl
 ·have xM:=h.need ok (i:=15) (j:=14) (by decide) e;have h9:=h.need ok (i:=14) (j:=9) (by decide) xM;have h5:=h.need ok (i:=9) (j:=5) (by decide) h9;have h2:=h.need ok (i:=5) (j:=2) (by decide) h5;have h6:=h.need ok (i:=9) (j:=6) (by decide) h9
  rcases hi with rfl|rfl|rfl|rfl|rfl|rfl
  all_goals first|(rw [h2]at hu;cases hu)|(rw [h5]at hu;cases hu)|(rw [h6]at hu;cases hu)|(rw [h9]at hu;cases hu)|(rw [xM]at hu;cases hu)|(rw [e]at hu;cases hu)
theorem BV.no18(h:BV c zr BS E' F' B8 AV l a w)(ok:c.Ok){i:Nat}(hi:i=1∨i=15∨i=17∨i=18)(hu:l.getD i false=false):l.getD 18 false=false:=by
 cases e:l.getD 18 false
 ·rfl
 ·have h1:=h.need ok (i:=18) (j:=1) (by decide) e;have BU:=h.need ok (i:=18) (j:=15) (by decide) e;have MR:=h.need ok (i:=18) (j:=17) (by decide) e
  rcases hi with rfl|rfl|rfl|rfl
  all_goals first|(rw [h1]at hu;cases hu)|(rw [BU]at hu;cases hu)|(rw [MR]at hu;cases hu)|(rw [e]at hu;cases hu)
theorem BV.no17(h:BV c zr BS E' F' B8 AV l a w)(ok:c.Ok)(hu:l.getD 15 false=false):l.getD 17 false=false:=by
 cases e:l.getD 17 false
 ·rfl
 ·have h1:=h.need ok (i:=17) (j:=16) (by decide) e;have BU:=h.need ok (i:=16) (j:=15) (by decide) h1;rw [hu]at BU
  cases BU
theorem BV.no16(h:BV c zr BS E' F' B8 AV l a w)(ok:c.Ok)(hu:l.getD 15 false=false):l.getD 16 false=false:=by
 cases e:l.getD 16 false
 ·rfl
 ·have BU:=h.need ok (i:=16) (j:=15) (by decide) e;rw [hu]at BU
  cases BU
theorem BV.no20(h:BV c zr BS E' F' B8 AV l a w)(ok:c.Ok)(hu:l.getD 18 false=false):l.getD 20 false=false:=by
 cases e:l.getD 20 false
 ·rfl
 ·have CE:=h.need ok (i:=20) (j:=18) (by decide) e;rw [hu]at CE
  cases CE
theorem BV.hb(h:BV c zr BS E' F' B8 AV l a w)(ok:c.Ok):w.heap[c.bh]?=some (.cells #[S (R c.x.a.x),S (R c.x.a.y),S (R c.x.b.x),S (R c.x.b.y),.int .i64 c.x.l] 176):=h.hf.trans ok.hb
theorem BV.grow(h:BV c zr BS E' F' B8 AV l a w)(ok:c.Ok)(BU:l.getD 15 false=false){w':World}(hx:Aa w w'):BV c zr BS E' F' B8 AV l a w':=by
 have MR:=h.no17 ok BU;have CE:=h.no18 ok (i:=15) (by simp) BU;have EW:=h.no20 ok CE;exact⟨h.fr,(hx.block _ (ArX (h.hb ok))).trans h.hf,h.cl,h.sl,fun e=>(h.jpA e).trans hx,fun e=>(by rw [BU]at e;cases e),fun e=>(by rw [MR]at e;cases e),fun e=>(by rw [CE]at e;cases e),fun e=>(by rw [EW]at e;cases e)⟩
theorem BV.name(h:BV c zr BS E' F' B8 AV l a w)(ok:c.Ok){o:Oper}(ho:c.ops[15]?=some o)(hd:∀e∈o.after,Region.binds .any e=true→l.getD e.on false=true)(hu:l.getD 15 false=false)(hsz:l.size=21){w':World}{z:Int}{F2:Value}{Yt:List Int}{VZ:List Bs}
  (hn:IZ w' c.W5.heap.size c.n c.bx c.kbn c.bM c.bU c.U c.cu c.kun c.P c.E F2 Yt VZ) (hb:Ar (fun k=>k=c.kbn∨k=c.bM∨c.F.ownBlock=some k) w w') :
  BV c z BS E' F2 Yt VZ (l.setIfInBounds 15 true) (a.put (some 143) (.int .i64 z)) w':=by
 have hX:=h.jpA hu;have Wh:=h.no16 ok hu;have MR:=h.no17 ok hu;have CE:=h.no18 ok (i:=15) (by simp) hu;have EW:=h.no20 ok CE;have hS:=ok.st.extn hX;obtain⟨cn,Bl⟩:=Hd hS.nam.num;have Bq:=h.hb ok;refine⟨h.fr.put (by unfold JV;omega) _,(hb.block c.bh (ArX Bq) ?_).trans h.hf,SD h.cl ho hd,YR (i:=15) (h.sz ok (by omega)) rfl (fun j hj AqG hl=>?_),?_,?_,?_,?_,?_⟩
 ·rintro(e|e|e)
  ·exact Ds Bq Bl (by decide) e
  ·exact Ds Bq hS.nam.cM (by decide) e
  ·exact A8 hS.nam.fac Bq (by decide) e
 ·rw [h.sl j hj hl];have e16:j≠16:=(by rintro rfl;rw [Wh]at hl;cases hl);exact nX hj (by omega) (fun _=>rfl) (fun _=>rfl)
 all_goals simp only [EU (show 15<l.size by omega),getD_set_ne false (show (15:Nat)≠17 by omega),getD_set_ne false (show (15:Nat)≠18 by omega),getD_set_ne false (show (15:Nat)≠20 by omega)]
 ·intro e;cases e
 ·intro _ _;exact hS.name hn hb
 ·intro e;rw [MR]at e;cases e
 ·intro e;rw [CE]at e;cases e
 ·intro e;rw [EW]at e;cases e
theorem BV.bslice(h:BV c zr BS E' F' B8 AV l a w)(ok:c.Ok){o:Oper}(ho:c.ops[17]?=some o)(hd:∀e∈o.after,Region.binds .any e=true→l.getD e.on false=true)(hu:l.getD 17 false=false)(hsz:l.size=21)(BU:l.getD 15 false=true) :
  BV c zr w.heap.size E' F' B8 AV (l.setIfInBounds 17 true) (a.put (some 145) (.slice (some ⟨w.heap.size,0,none⟩) 1 1)) (w.alloc (.cells #[.int .i64 c.r1,.int .i64 c.r2,.int .i64 c.zl,.int .i64 zr] 126)):=by
 have hx:=(Aa.refl w).alloc (.cells #[.int .i64 c.r1,.int .i64 c.r2,.int .i64 c.zl,.int .i64 zr] 126);have CE:=h.no18 ok (i:=17) (by simp) hu;have EW:=h.no20 ok CE;refine⟨h.fr.put (by unfold JV;omega) _,(hx.block _ (ArX (h.hb ok))).trans h.hf,SD h.cl ho hd,YR (i:=17) (h.sz ok (by omega)) rfl (fun j hj AqH hl=>?_),?_,?_,?_,?_,?_⟩
 ·rw [h.sl j hj hl];exact nX hj (fun _=>rfl) (by omega) (fun _=>rfl)
 all_goals simp only [EU (show 17<l.size by omega),getD_set_ne false (show (17:Nat)≠15 by omega),getD_set_ne false (show (17:Nat)≠18 by omega),getD_set_ne false (show (17:Nat)≠20 by omega)]
 ·intro e;rw [BU]at e;cases e
 ·intro e1 e2;exact(h.jpB e1 e2).extn hx
 ·intro _ _;exact ArY w _
 ·intro e;rw [CE]at e;cases e
 ·intro e;rw [EW]at e;cases e
theorem BV.app(h:BV c zr BS E' F' B8 AV l a w)(ok:c.Ok){o:Oper}(ho:c.ops[18]?=some o)(hd:∀e∈o.after,Region.binds .any e=true→l.getD e.on false=true)(hu:l.getD 18 false=false)(hsz:l.size=21)(BU:l.getD 15 false=true){w':World}{v':Value}
  (hw:w'.ownsRow c.W5.heap.size 126 4 v' (c.eds.length+1) (B6 (c.eds ++ [⟨c.r1,c.r2,c.zl,zr⟩]))) (hg:w.grownBy w' c.E.ownBlock) :
  BV c zr BS v' F' B8 AV (l.setIfInBounds 18 true) (a.put (some 146) v') w':=by
 have EW:=h.no20 ok hu;have hS:EN c.W5 w c.n c.bx c.kbn c.bM c.bU c.U c.cu c.kun c.P c.E F' B8 AV c.eds:=h.jpB BU hu;have Bq:=h.hb ok;obtain⟨k1,k2⟩:=EN.app (d:=⟨c.r1,c.r2,c.zl,zr⟩) hS (Aa.refl w) hg hw;obtain⟨A,d,rfl,-,-,-⟩:=Ae.of_own' (show 0<4 by omega) hw;refine⟨h.fr.put (by unfold JV;omega) _,(hg.block c.bh (ArX Bq) (fun e=>A8 hS.own Bq (by decide) e.symm)).trans h.hf,SD h.cl ho hd,YR (i:=18) (h.sz ok (by omega)) rfl (fun j hj AqI hl=>?_),?_,?_,?_,?_,?_⟩
 ·rw [h.sl j hj hl];exact nX hj (fun _=>rfl) (fun _=>rfl) (by omega)
 all_goals simp only [EU (show 18<l.size by omega),getD_set_ne false (show (18:Nat)≠15 by omega),getD_set_ne false (show (18:Nat)≠17 by omega),getD_set_ne false (show (18:Nat)≠20 by omega)]
 ·intro e;rw [BU]at e;cases e
 ·intro _ e;cases e
 ·intro _ e;cases e
 ·intro _ _;exact⟨k1,⟨_,_,_,rfl⟩,k2⟩
 ·intro e;rw [EW]at e;cases e
theorem BV.store(h:BV c zr BS E' F' B8 AV l a w)(ok:c.Ok){o:Oper}(ho:c.ops[20]?=some o)(hd:∀e∈o.after,Region.binds .any e=true→l.getD e.on false=true)(hu:l.getD 20 false=false)(hsz:l.size=21)(CE:l.getD 18 false=true) :
  BV c zr BS E' F' B8 AV (l.setIfInBounds 20 true) a (w.setCell ⟨c.bM,1,none⟩ E'):=by
 have BU:=h.need ok (i:=18) (j:=15) (by decide) CE;obtain⟨k1,k2,k3⟩:=h.jpC CE hu;have Bq:=h.hb ok;have hne:c.bh≠c.bM:=Ds Bq k1 (by decide);refine⟨h.fr,?_,SD h.cl ho hd,fun j hj hl=>?_,?_,?_,?_,?_,?_⟩
 ·rw [Da (by show c.bh≠c.bM;exact hne)];exact h.hf
 ·rw [getD_set_ne false (show (20:Nat)≠j by omega)]at hl;exact h.sl j hj hl
 all_goals simp only [EU (show 20<l.size by omega),getD_set_ne false (show (20:Nat)≠15 by omega),getD_set_ne false (show (20:Nat)≠17 by omega),getD_set_ne false (show (20:Nat)≠18 by omega)]
 ·intro e;rw [BU]at e;cases e
 ·intro _ e;rw [CE]at e;cases e
 ·intro _ e;rw [CE]at e;cases e
 ·intro _ e;cases e
 ·intro _;exact k3
end
theorem Hk{P:Program}{o:Oper}{a:Act}{w w':World}{v:Value}{K:Act→World→Prop}{Q:Exit→Act→World→Prop}(m:Sem Value)(he:execOp a.eval o=(do pure (.value (←m))))(h:m.run P w=.ok v w')(hk:K (a.put o.dst v) w'):o.wp P a w K Q:=by
 refine Zc (v:=v) (w':=w') ?_ hk;rw [he];simp [h]
theorem FH{P:Program}{o:Oper}{a:Act}{w w':World}{v:Value}{K:Act→World→Prop}{Q:Exit→Act→World→Prop}{t:TypeId}{x:Operand}{D:Option Nat}(p:.load t x=o.op)(d:D=o.dst)(h:(Instr.loadAt t (a.eval x)).run P w=.ok v w')(hk:K (a.put D v) w'):o.wp P a w K Q:=
 Hk (Instr.loadAt t (a.eval x)) (by unfold execOp;rw [←p]) h (d▸hk)
theorem Il{P:Program}{o:Oper}{a:Act}{w w':World}{v:Value}{K:Act→World→Prop}{Q:Exit→Act→World→Prop}{t:TypeId}{x:Operand}{k:Nat}{D:Option Nat}(p:.fieldAddr t x k=o.op)(d:D=o.dst)(h:(Instr.fieldAt t (a.eval x) k).run P w=.ok v w')(hk:K (a.put D v) w'):o.wp P a w K Q:=
 Hk (Instr.fieldAt t (a.eval x) k) (by unfold execOp;rw [←p]) h (d▸hk)
theorem NY{P:Program}{o:Oper}{a:Act}{w:World}{K:Act→World→Prop}{Q:Exit→Act→World→Prop}(x:Operand)(h:o.op=.move x)(hk:K (a.put o.dst (a.eval x)) w):o.wp P a w K Q:=by
 unfold Oper.wp execOp;rw [h];exact hk
theorem Ane{c:G5}(ok:c.Ok){id:Nat}{Q:Exit→Act→World→Prop}
  (hend:∀a w zr E' F' B8 AV,DO JV c.a0 a→c.Ed w E' F' B8 AV (c.eds ++ [⟨c.r1,c.r2,c.zl,zr⟩])→Q .normal a w) :
  (Code.region id c.ops true).wp Tryz.prog Q c.a0 c.W:=by
 have Qh:Enters Tryz.prog 198:=enters_of Tryz.func198 (by kernel_rfl) rfl;have cH:Enters Tryz.prog 121:=enters_of Tryz.func121 (by kernel_rfl) rfl;have cI:Enters Tryz.prog 196:=enters_of Tryz.func196 (by kernel_rfl) rfl
 have hsz:c.ops.size=21:=by
  have:=congrArg List.length ok.op
  simpa [mJ]using this
 refine Zd (Jx c) (by kernel_rfl) (fun i o ho=>(PV ok.acc i o ho).2) (fun i o ho=>(PV ok.acc i o ho).1) ?_ ?_ ?_
 ·refine⟨0,0,.slice none 0 0,.slice none 0 0,[],[],?_⟩;constructor
  all_goals try simp only [getD_replicate_false]
  ·exact DO.refl _ _
  ·rfl
  ·intro i o _ e;cases e
  ·intro i _ e;cases e
  ·intro _;exact(Aa.refl c.W).drew
  ·intro e;cases e
  ·intro e;cases e
  ·intro e;cases e
  ·intro e;cases e
 ·rintro l a w i o ⟨zr,BS,E',F',B8,AV,h⟩ Xv Az ho AZ;have hi:i<21:=(by have:=(Array.getElem?_eq_some_iff.1 ho).1;omega);have Lo:l.size=21:=(by omega);have hL:=mH ok.op ho;have GO:=KR AZ;have ev:=fun (d:Nat) {v:Value} (e:c.a0.eval (.tmp d)=v) (hd:d<128)=>(h.fr.eval (by unfold JV;omega)).trans e;have e8:=ev 8 ok.e8 (by omega);have e16:=ev 16 ok.e16 (by omega);have e17:=ev 17 ok.e17 (by omega);have e14:=ev 14 ok.e14 (by omega);have e0:=ev 0 ok.e0 (by omega)
  have dep:∀j k,bQ.contains (j,k)=true→j=i→l.getD k false=true:=by rintro j k hjk rfl;have h1:=List.all_eq_true.1 ok.dep (j,k) (by simpa using hjk);rw [ho]at h1;exact GO k h1
  rcases(by omega:i=0∨i=1∨i=2∨i=3∨i=4∨i=5∨i=6∨i=7∨i=8∨i=9∨i=10∨i=11∨i=12∨i=13∨i=14∨i=15∨i=16∨i=17∨i=18∨i=19∨i=20)with rfl|rfl|rfl|rfl|rfl|rfl|rfl|rfl|rfl|rfl|rfl|rfl|rfl|rfl|rfl|rfl|rfl|rfl|rfl|rfl|rfl
  all_goals
   simp only [mJ,List.getElem?_cons_zero,List.getElem?_cons_succ,Ase,Prod.mk.injEq]at hL;obtain⟨p,d⟩:=hL
  ·refine Il p d (by rw [e8];exact Wd _ _) ?_;exact h.put ok (i:=0) (by omega) ho AZ rfl
  ·have CE:=h.no18 ok (i:=1) (by simp) Az
   have hc:w.cell? ⟨c.bM,1,none⟩=some c.E:=by
    cases BU:l.getD 15 false
    ·exact Ab (ok.st.extn (h.jpA BU)).nam.cM rfl
    ·exact Ab (EN.nam (h.jpB BU CE)).cM rfl
   refine FH p d (by rw [h.sl 0 (by omega) (dep 1 0 (by decide) rfl)];exact t8 hc) ?_;exact h.put ok (i:=1) (by omega) ho AZ rfl
  ·have hX:=h.jpA (h.no15 ok (i:=2) (by simp) Az);refine FH p d (by rw [e8];exact ud (ok.st.extn hX).nam.cM) ?_;exact h.put ok (i:=2) (by omega) ho AZ rfl
  ·refine Il p d (by rw [e16];exact AgD _ _) ?_;exact h.put ok (i:=3) (by omega) ho AZ rfl
  ·have hc:=h.hb ok;refine FH p d (by rw [h.sl 3 (by omega) (dep 4 3 (by decide) rfl)];exact Yd (Ab (o:=0) hc rfl) (Ab (o:=1) hc rfl)) ?_;exact h.put ok (i:=4) (by omega) ho AZ rfl
  ·have BU:=h.no15 ok (i:=5) (by simp) Az;refine pC p.symm Qh (h.sl 2 (by omega) (dep 5 2 (by decide) rfl)) (h.sl 4 (by omega) (dep 5 4 (by decide) rfl)) (ok.c1 w (h.jpA BU)) ?_;rintro e w'' ⟨rfl,hx⟩;refine⟨_,rfl,?_⟩;rw [←d];exact(h.grow ok BU hx).put ok (i:=5) (by omega) ho AZ rfl
  ·have hX:=h.jpA (h.no15 ok (i:=6) (by simp) Az);refine FH p d (by rw [e8];exact ud (ok.st.extn hX).nam.cM) ?_;exact h.put ok (i:=6) (by omega) ho AZ rfl
  ·refine Il p d (by rw [e16];exact AgE _ _) ?_;exact h.put ok (i:=7) (by omega) ho AZ rfl
  ·have hc:=h.hb ok;refine FH p d (by rw [h.sl 7 (by omega) (dep 8 7 (by decide) rfl)];exact Yd (Ab (o:=2) hc rfl) (Ab (o:=3) hc rfl)) ?_;exact h.put ok (i:=8) (by omega) ho AZ rfl
  ·have BU:=h.no15 ok (i:=9) (by simp) Az;refine pC p.symm Qh (h.sl 6 (by omega) (dep 9 6 (by decide) rfl)) (h.sl 8 (by omega) (dep 9 8 (by decide) rfl)) (ok.c2 w (h.jpA BU)) ?_;rintro e w'' ⟨rfl,hx⟩;refine⟨_,rfl,?_⟩;rw [←d];exact(h.grow ok BU hx).put ok (i:=9) (by omega) ho AZ rfl
  ·refine NY _ p.symm ?_;rw [←d,e17];exact h.put ok (i:=10) (by omega) ho AZ rfl
  ·refine NY _ p.symm ?_;rw [←d,e14];exact h.put ok (i:=11) (by omega) ho AZ rfl
  ·refine NY _ p.symm ?_;rw [←d,e0];exact h.put ok (i:=12) (by omega) ho AZ rfl
  ·refine FH p d (by rw [e16];exact Akv (h.hb ok)) ?_;exact h.put ok (i:=13) (by omega) ho AZ rfl
  ·have BU:=h.no15 ok (i:=14) (by simp) Az;refine pC p.symm cH (h.sl 12 (by omega) (dep 14 12 (by decide) rfl)) (h.sl 13 (by omega) (dep 14 13 (by decide) rfl)) (ok.c3 w (h.jpA BU)) ?_;rintro e w'' ⟨rfl,hx⟩;refine⟨_,rfl,?_⟩;rw [←d];exact(h.grow ok BU hx).put ok (i:=14) (by omega) ho AZ rfl
  ·have hX:=h.jpA Az;have hS:=ok.st.extn hX;refine AbL p.symm cI (h.sl 11 (by omega) (dep 15 11 (by decide) rfl)) (h.sl 14 (by omega) (dep 15 14 (by decide) rfl)) (vq hS.nam ok.hn hS.but.size c.r3 ok.r3a ok.r3b) ?_;rintro e w'' ⟨z,F2,Yt,VZ,rfl,hn,hb⟩;refine⟨_,rfl,?_⟩;rw [←d];exact⟨z,BS,E',F2,Yt,VZ,h.name ok ho AZ Az Lo hn hb⟩
  ·have s5:a.eval (.tmp 133)=.int .i64 c.r1:=h.sl 5 (by omega) (dep 16 5 (by decide) rfl);have s9:a.eval (.tmp 137)=.int .i64 c.r2:=h.sl 9 (by omega) (dep 16 9 (by decide) rfl);have Py:a.eval (.tmp 138)=.int .i64 c.zl:=h.sl 10 (by omega) (dep 16 10 (by decide) rfl);have P0:a.eval (.tmp 143)=.int .i64 zr:=h.sl 15 (by omega) (dep 16 15 (by decide) rfl);refine Hk (Instr.build 126 #[(0,.int .i64 c.r1),(1,.int .i64 c.r2),(2,.int .i64 c.zl),(3,.int .i64 zr)]) (by unfold execOp;rw [←p];simp [s5,s9,Py,P0]) (tM _ _ _ _ _) ?_;rw [←d];exact h.put ok (i:=16) (by omega) ho AZ rfl
  ·have Wh:=dep 17 16 (by decide) rfl;have BU:=h.need ok (i:=16) (j:=15) (by decide) Wh;have P1:a.eval (.tmp 144)=.agg #[.int .i64 c.r1,.int .i64 c.r2,.int .i64 c.zl,.int .i64 zr]:=h.sl 16 (by omega) Wh;refine Hk (Instr.buildSlice 34 1 #[(0,.agg #[.int .i64 c.r1,.int .i64 c.r2,.int .i64 c.zl,.int .i64 zr])]) (by unfold execOp;rw [←p];simp [P1]) (tL _ _ _ _ _) ?_;rw [←d];exact⟨zr,w.heap.size,E',F',B8,AV,h.bslice ok ho AZ Az Lo BU⟩
  ·have BU:=dep 18 15 (by decide) rfl;have MR:=dep 18 17 (by decide) rfl;have hS:EN c.W5 w c.n c.bx c.kbn c.bM c.bU c.U c.cu c.kun c.P c.E F' B8 AV c.eds:=h.jpB BU Az;refine AbH _ _ p.symm w c.W5.heap.size c.E c.eds.length c.eds (h.sl 1 (by omega) (dep 18 1 (by decide) rfl)) hS.own ok.el ⟨c.r1,c.r2,c.zl,zr⟩ BS (h.jpG MR Az) (h.sl 17 (by omega) MR) hS.but.size ?_;intro v' w' k1 k2;rw [←d];exact⟨zr,BS,v',F',B8,AV,h.app ok ho AZ Az Lo BU k1 k2⟩
  ·refine Il p d (by rw [e8];exact Wd _ _) ?_;exact h.put ok (i:=19) (by omega) ho AZ rfl
  ·have CE:=dep 20 18 (by decide) rfl;obtain⟨k1,k2,-⟩:=h.jpC CE Az
   have hrun:(execOp a.eval o).run Tryz.prog w=.ok .skip (w.setCell ⟨c.bM,1,none⟩ E'):=by unfold execOp;rw [←p];show (do Instr.storeAt 34 (a.eval (.tmp 147)) (a.eval (.tmp 146));pure Next.skip:Sem Next).run Tryz.prog w=_;rw [h.sl 19 (by omega) (dep 20 19 (by decide) rfl),h.sl 18 (by omega) CE];have:=Abg k2 k1;simp [AaR,G5.slot,this]
   have Ay:Jx c (l.setIfInBounds 20 true) (a.put o.dst undef) (w.setCell ⟨c.bM,1,none⟩ E'):=by rw [←d];exact⟨zr,BS,E',F',B8,AV,h.store ok ho AZ Az Lo CE⟩
   unfold Oper.wp;rw [hrun];exact Ay
 ·rintro l a w ⟨zr,BS,E',F',B8,AV,h⟩ hall;exact hend a w zr E' F' B8 AV h.fr (h.jpD (hall 20 (by omega)))
theorem DO.lit32{a0 a:Act}(h:DO JV a0 a)(hs:147<a0.tmps.size):∃v:Nat→Value,a=⟨(a0.tmps.toList.take 128++([v 0,v 1,v 2,v 3,v 4,v 5,v 6,v 7,v 8,v 9,v 10,v 11,v 12,v 13,v 14,v 15,v 16,v 17,v 18,v 19]++a0.tmps.toList.drop 148)).toArray,a0.defers⟩:=by
 obtain⟨t,dfs⟩:=a;have hd:dfs=a0.defers:=h.defers;have hz:t.size=a0.tmps.size:=h.size;subst hd;refine⟨fun i=>t[128+i]?.getD undef,?_⟩
 congr 1
 apply Array.ext_getElem?;intro d;have hl:(a0.tmps.toList.take 128).length=128:=(by rw [List.length_take,Array.length_toList];omega);refine Eq.trans ?_ List.getElem?_toArray.symm
 dsimp only
 by_cases h1:d<128
 ·rw [List.getElem?_append_left (by omega),List.getElem?_take_of_lt h1,Array.getElem?_toList];exact h.same d (by unfold JV;omega)
 ·rw [List.getElem?_append_right (by omega),hl];by_cases h2:d<148
  ·obtain⟨i,rfl⟩:∃i,d=128+i:=⟨d-128,by omega⟩;rw [List.getElem?_append_left (by simp;omega),Nat.add_sub_cancel_left];have hv:t[128+i]?=some (t[128+i]?.getD undef):=by rw [Array.getElem?_eq_getElem (by omega)];rfl
   rcases(by omega:i=0∨i=1∨i=2∨i=3∨i=4∨i=5∨i=6∨i=7∨i=8∨i=9∨i=10∨i=11∨i=12∨i=13∨i=14∨i=15∨i=16∨i=17∨i=18∨i=19)with rfl|rfl|rfl|rfl|rfl|rfl|rfl|rfl|rfl|rfl|rfl|rfl|rfl|rfl|rfl|rfl|rfl|rfl|rfl|rfl<;>exact hv
  ·rw [List.getElem?_append_right (by simp;omega),List.getElem?_drop,Array.getElem?_toList];have e:=h.same d (by unfold JV;omega);refine e.trans (congrArg (fun i=>a0.tmps[i]?) ?_);simp only [List.length_cons,List.length_nil];omega
end Go.Proofs.YtbejphgbbpplbaaGreatDoor
namespace Go.Proofs.YtbejphgbbpplbaaGreatDoor
open Go.RowKit Kl
theorem AlU{w0 w:World}(hw:Al w0)(hx:Aa w0 w){n:Nat}(hn:n<=1000)(l:List Hf)(hl:DT n l)(hlen:l.length<=2000)(v:Value)(hv:w.ownsRow w0.heap.size 176 5 v l.length (Bd l))
  (units:List Bs) (Az:units.length=n) (U:Option Addr) (cu:Nat) (hU:w.ownsRow 0 9 1 (.slice U n cu) n (units.map S)) (hc1:n<=cu) (hc2:cu<=9223372036854775807) :
  Calls Tryz.prog 123 #[v,.slice U n cu] w (rD w0 n units):=by
 obtain⟨vA,vc,rfl,-,-,-⟩:=Ae.of_own' (by omega) hv;have hb1:=(Below.heap_alloc (w.alloc (.cells #[.slice U n cu] 23)) (.cells #[.slice none 0 0,.slice none 0 0,.slice none 0 0] 36) w.heap.size (by simp)).trans (ArY w (.cells #[.slice U n cu] 23));have hb2:=ArY (w.alloc (.cells #[.slice U n cu] 23)) (.cells #[.slice none 0 0,.slice none 0 0,.slice none 0 0] 36);rw [Ash]at hb2;have hE:=((Aa.refl w).alloc (.cells #[.slice U n cu] 23)).alloc (.cells #[.slice none 0 0,.slice none 0 0,.slice none 0 0] 36);have QU:=Ao hv hE;have FK:=ArW (And.intro hl hlen);clear hl hlen hv;go_enter Tryz.func123,Tryz.ntmps123
 go_upto_region 2 with fail
 generalize (w.alloc (.cells #[.slice U n cu] 23)).alloc (.cells #[.slice none 0 0,.slice none 0 0,.slice none 0 0] 36)=W1 at *;obtain⟨bU,au⟩:=ArV w.heap.size;rw [←au]at hb1 hb2 ⊢;have Arq:w.heap.size<=bU:=(by omega);clear au;have hx1:=hx.trans hE
 go_loopw [0,5] (fun vv a wr=>∃(l:List Hf) (b:Bool),a=.bool b/\DT n l/\l.length<=2000/\wr.ownsRow w0.heap.size 176 5 vv l.length (Bd l)/\Aa W1 wr) (fun vv a _=>match a with | .bool true=>lenV vv+1|_=>0)
 case atStart=>exact⟨l,true,rfl,FK.out.1,FK.out.2,QU,Aa.refl _⟩
 case round=>
  obtain⟨l,b,rfl,hl,hlen,hv,Ad⟩:=hrel;have HL:=ArW hl;clear hl;obtain⟨vA,vc,rfl,-,-,-⟩:=Ae.of_own' (by omega) hv
  cases b
  ·have CN:=ArY wr (.cells #[.slice none 0 0,.slice none 0 0,.slice none 0 0] 36);have E2:=(Aa.refl wr).alloc (.cells #[.slice none 0 0,.slice none 0 0,.slice none 0 0] 36);have hv2:=Ao hv E2;have BN:=Ad.trans E2
   go_upto_region 13 with fail
   generalize wr.alloc (.cells #[.slice none 0 0,.slice none 0 0,.slice none 0 0] 36)=W2 at *;obtain⟨bM,ae⟩:=ArV wr.heap.size;rw [←ae]at CN ⊢;have Aqh:W1.heap.size<=bM:=(by have:=Ad.size;omega);clear ae hv E2 Ad;have EP:=ArW hlen
   go_loopw [9] (fun iv w3=>∃(j:Nat) (l3:List Hf),iv=.int .i64 (j:Nat)/\j<=l.length/\DT n l3/\l3.length=l.length/\w3.ownsRow w0.heap.size 176 5 (.slice vA l.length vc) l.length (Bd l3)/\Ar (fun q=>(Value.slice vA l.length vc).ownBlock=some q) W2 w3) (fun iv _=>l.length-(intOf iv).toNat)
   case atStart=>exact⟨0,l,rfl,by omega,HL.out,rfl,hv2,Ar.refl _ _⟩
   case round=>
    obtain⟨j,l3,rfl,hj,hl3,jl,hv3,BM⟩:=hrel;have H3:=ArW (And.intro hl3 jl);clear hl3 jl;by_cases A7:j<l.length
    ·have hj0:(0:Int)<=(j:Int):=(by omega);have Fy:(j:Int)<(l.length:Int):=by omega
     go_upto_region 16 with fail
     go_loopw [10] (fun kv w4=>∃(k:Nat) (l4:List Hf),kv=.int .i64 (k:Nat)/\k<=j/\DT n l4/\l4.length=l.length/\w4.ownsRow w0.heap.size 176 5 (.slice vA l.length vc) l.length (Bd l4)/\Ar (fun q=>(Value.slice vA l.length vc).ownBlock=some q) W2 w4) (fun kv _=>(intOf kv).toNat)
     case atStart=>exact⟨j,l3,rfl,by omega,H3.out.1,H3.out.2,hv3,BM⟩
     case round=>
      obtain⟨k,l4,rfl,hk,hl4,jm,hv4,Hw⟩:=hrel;have H4:=ArW (And.intro hl4 jm);clear hl4 jm;by_cases hk0:k=0
      ·subst hk0
       go_upto_region 16 with fail
       refine Bp (by kernel_rfl) (by kernel_rfl) ?_
       repeat (go_big_quiet_step (fail))
       refine wpQuiet_nil ?_;rintro W5 ⟨q,hq⟩;have Ax:Aa wr W5:=hq▸q.h;clear hq q;have EF:=Ao hv4 Ax;have Wk:=Hw.ext Ax;go_wp2;go_roundw
       case rel=>exact⟨j+1,l4,by go_num,A7,H4.out.1,H4.out.2,EF,Wk⟩
       case measure=>simp [intOf];omega
      ·obtain⟨q,hq⟩:∃q,k=q+1:=⟨k-1,by omega⟩;have OS:IntKind.wrap .i64 ((k:Int)-1)=(q:Int):=(by rw [Asg _ (by omega)];omega);obtain⟨g,rfl⟩:=mN hv4 (by omega);have hk4:k<l4.length:=(by rw [H4.out.2];omega);have QQ:q<l4.length:=(by omega);obtain⟨x0,x1,x2,x3,x4⟩:=Q9 l4 k hk4;obtain⟨y0,y1,y2,y3,y4⟩:=Q9 l4 q QQ;have IG:=H4.out.1 _ (Asa hk4);have Ig:=H4.out.1 _ (Asa QQ);obtain⟨x,hx⟩:=ArV (l4[k]);obtain⟨y,hy⟩:=ArV (l4[q]);rw [←hx]at x0 x1 x2 x3 x4 IG;rw [←hy]at y0 y1 y2 y3 y4 Ig;have c0:=(hv4.cellAt (k*5) (by omega)).trans x0;have c1:=(hv4.cellAt (k*5+1) (by omega)).trans x1;have c2:=(hv4.cellAt (k*5+2) (by omega)).trans x2;have c3:=(hv4.cellAt (k*5+3) (by omega)).trans x3;have c4:=(hv4.cellAt (k*5+4) (by omega)).trans x4;have d0:=(hv4.cellAt (q*5) (by omega)).trans y0;have d1:=(hv4.cellAt (q*5+1) (by omega)).trans y1;have d2:=(hv4.cellAt (q*5+2) (by omega)).trans y2;have d3:=(hv4.cellAt (q*5+3) (by omega)).trans y3;have d4:=(hv4.cellAt (q*5+4) (by omega)).trans y4;have BX:(0:Int)<(k:Int):=(by omega);have hkn:0<k:=(by omega);have iQ:decide (0<k)=true:=decide_eq_true hkn;have hk2:(k:Int)<(l.length:Int):=(by omega);have Bg:(0:Int)<=(q:Int):=(by omega);have Bo:(q:Int)<(l.length:Int):=(by omega);have Cl:Aa w0 wr:=Hw.toExt (hx1.trans BN) (fun q e=>(hv4.lt q e).1);have ls:=fun (z:Ac wr)=>Akq x y IG.1.sz IG.2.1.sz Ig.1.sz Ig.2.1.sz z.w ((hw.ext Cl).ext z.h);obtain⟨lb,OT⟩:=ArV (Yb x y);rw [←OT]at ls;unfold Gw at ls;have HQ:=ArW (And.intro hq (And.intro hx hy));clear hq hx hy x0 x1 x2 x3 x4 y0 y1 y2 y3 y4 OT;have e0:∀z:Ac wr,z.w.cell? ⟨g,k*5,none⟩=some (S (R x.a.x)):=Ac.cell c0;have e1:∀z:Ac wr,z.w.cell? ⟨g,k*5+1,none⟩=some (S (R x.a.y)):=Ac.cell c1;have e2:∀z:Ac wr,z.w.cell? ⟨g,k*5+2,none⟩=some (S (R x.b.x)):=Ac.cell c2;have e3:∀z:Ac wr,z.w.cell? ⟨g,k*5+3,none⟩=some (S (R x.b.y)):=Ac.cell c3;have e4:∀z:Ac wr,z.w.cell? ⟨g,k*5+4,none⟩=some (.int .i64 x.l):=Ac.cell c4;have f0:∀z:Ac wr,z.w.cell? ⟨g,q*5,none⟩=some (S (R y.a.x)):=Ac.cell d0;have f1:∀z:Ac wr,z.w.cell? ⟨g,q*5+1,none⟩=some (S (R y.a.y)):=Ac.cell d1;have f2:∀z:Ac wr,z.w.cell? ⟨g,q*5+2,none⟩=some (S (R y.b.x)):=Ac.cell d2;have f3:∀z:Ac wr,z.w.cell? ⟨g,q*5+3,none⟩=some (S (R y.b.y)):=Ac.cell d3;have f4:∀z:Ac wr,z.w.cell? ⟨g,q*5+4,none⟩=some (.int .i64 y.l):=Ac.cell d4
       go_upto_region 16 with fail
       refine Bp (by kernel_rfl) (by kernel_rfl) ?_
       repeat (go_big_quiet_step (with_reducible refine cR (ls _)))
       refine wpQuiet_nil ?_;rintro W5 ⟨z,hz⟩;have Ax:Aa wr W5:=hz▸z.h;clear hz z;have EF:=Ao hv4 Ax;have Wk:=Hw.ext Ax
       cases lb
       ·clear c0 c1 c2 c3 c4 d0 d1 d2 d3 d4 e0 e1 e2 e3 e4 f0 f1 f2 f3 f4 ls;go_wp2;go_roundw
        case rel=>exact⟨j+1,l4,by go_num,A7,H4.out.1,H4.out.2,EF,Wk⟩
        case measure=>simp [intOf];omega
       ·replace c0:=Ax.cellS c0;replace c1:=Ax.cellS c1;replace c2:=Ax.cellS c2;replace c3:=Ax.cellS c3;replace c4:=Ax.cellS c4;replace d0:=Ax.cellS d0;replace d1:=Ax.cellS d1;replace d2:=Ax.cellS d2;replace d3:=Ax.cellS d3;replace d4:=Ax.cellS d4;clear e0 e1 e2 e3 e4 f0 f1 f2 f3 f4 ls hv4 Hw Cl Ax;have p0:=EF.frozenAt (k*5);have p1:=EF.frozenAt (k*5+1);have p2:=EF.frozenAt (k*5+2);have p3:=EF.frozenAt (k*5+3);have p4:=EF.frozenAt (k*5+4);have r0:=EF.frozenAt (q*5);have r1:=EF.frozenAt (q*5+1);have r2:=EF.frozenAt (q*5+2);have r3:=EF.frozenAt (q*5+3);have r4:=EF.frozenAt (q*5+4);have hkq:¬(k=q):=(by have:=HQ.out.1;omega);have hqk:¬(q=k):=by have:=HQ.out.1;omega
        go_upto_region 18 with fail
        go_region
        have o1:=yf (yf EF k y) q x;have b1:=tO (tO Wk (g:=g) rfl k y) (g:=g) rfl q x;unfold S at o1 b1;generalize ((((((((((W5.setCell ⟨g,k*5,none⟩ (.string ⟨(R y.a.x).toArray⟩)).setCell ⟨g,k*5+1,none⟩ (.string ⟨(R y.a.y).toArray⟩)).setCell ⟨g,k*5+2,none⟩ (.string ⟨(R y.b.x).toArray⟩)).setCell ⟨g,k*5+3,none⟩ (.string ⟨(R y.b.y).toArray⟩)).setCell ⟨g,k*5+4,none⟩ (.int .i64 y.l)).setCell ⟨g,q*5,none⟩ (.string ⟨(R x.a.x).toArray⟩)).setCell ⟨g,q*5+1,none⟩ (.string ⟨(R x.a.y).toArray⟩)).setCell ⟨g,q*5+2,none⟩ (.string ⟨(R x.b.x).toArray⟩)).setCell ⟨g,q*5+3,none⟩ (.string ⟨(R x.b.y).toArray⟩)).setCell ⟨g,q*5+4,none⟩ (.int .i64 x.l))=W6 at *;have o2:=Ao o1 (Aa.refl W6).drew;have b2:=b1.ext (Aa.refl W6).drew;have hmx:x∈l4:=(by rw [HQ.out.2.1];exact Asa _);have jt:y∈l4:=by rw [HQ.out.2.2];exact Asa _
        have hin:DT n ((l4.set k y).set q x):=by
         intro z hz
         rcases List.mem_or_eq_of_mem_set hz with e|e
         ·exact(H4.out.1.set k jt) z e
         ·rw [e];exact H4.out.1 x hmx
        have Sf:=ArW hin;have li:q<=j/\q<k:=(by have:=HQ.out.1;omega);have qL:=ArW li;clear hin hmx jt o1 b1 c0 c1 c2 c3 c4 d0 d1 d2 d3 d4 p0 p1 p2 p3 p4 r0 r1 r2 r3 r4 li;go_wp2;go_roundw
        case rel=>exact⟨q,(l4.set k y).set q x,by go_num,qL.out.1,Sf.out,by rw [List.length_set,List.length_set];exact H4.out.2,o2,b2⟩
        case measure=>have:=qL.out.2;simp [intOf];omega
    ·have Dl:j=l.length:=(by omega);subst Dl;have Qo:=BM.cells CN (A8 hv2 CN (by decide));have Cq:Aa w0 wr:=BM.toExt (hx1.trans BN) (fun q e=>(hv3.lt q e).1);have Aiu:(l.length:Int)<=(l.length:Int):=(by omega);have av:=BM.cells ((BN.block _ (ArX hb1)).trans hb1) (A8 hv2 ((BN.block _ (ArX hb1)).trans hb1) (by decide));have AhC:=BM.cells ((BN.block _ (ArX hb2)).trans hb2) (A8 hv2 ((BN.block _ (ArX hb2)).trans hb2) (by decide));have ak:bU+1≠bM:=by have:=ArX hb2;omega
     have Lx:wr.ownsRow 0 9 1 (.slice U n cu) n (units.map S):=by
      refine BG (Ao hU (hE.trans BN)) BM (fun q Bg Bo=>?_)
      rcases hv2.2 with⟨h',_⟩|⟨g,cap,cur,h',_,hgb,_⟩
      ·rw [h']at Bo;cases Bo
      ·rw [h']at Bo;simp only [Value.ownBlock,Ase]at Bo;subst Bo;exact A8 (Ao hU (hE.trans BN)) hgb (by decide) Bg
     obtain⟨W3,rfl⟩:=J9 Cq;have hPT:ME W3 W3 bM (.slice none 0 0) []:=⟨Qo,⟨rfl,.inl ⟨rfl,rfl⟩⟩,Ar.refl _ _,fun p hp=>by cases hp⟩;have EY:=ArX Qo
     go_upto_region 20 with fail
     go_loopw [79] (fun iv wp=>∃(j:Nat) (P:Value) (pts:List Pt),iv=.int .i64 (j:Nat)/\j<=l.length/\pts.length<=j/\ME W3 wp bM P pts) (fun iv _=>l.length-(intOf iv).toNat)
     case atStart=>exact⟨0,_,[],rfl,by omega,by simp,hPT⟩
     case round=>
      obtain⟨j,P,pts,rfl,hj,hpl,hP⟩:=hrel;obtain⟨oP,cP,rfl,jT,-,-⟩:=Ae.of_own' (by omega) hP.own;have EG:=BG hv3 hP.but (fun q hq e=>by subst e;exact A8 hv3 Qo (by decide) hq);by_cases A7:j<l.length
      ·obtain⟨g,rfl⟩:=mN EG (by omega);have QJ:j<l3.length:=(by rw [H3.out.2];exact A7);obtain⟨x0,x1,x2,x3,x4⟩:=Q9 l3 j QJ;have IG:=H3.out.1 _ (Asa QJ);obtain⟨x,hx⟩:=ArV (l3[j]);rw [←hx]at x0 x1 x2 x3 x4 IG;have c0:=(EG.cellAt (j*5) (by omega)).trans x0;have c1:=(EG.cellAt (j*5+1) (by omega)).trans x1;have c2:=(EG.cellAt (j*5+2) (by omega)).trans x2;have c3:=(EG.cellAt (j*5+3) (by omega)).trans x3;have c4:=(EG.cellAt (j*5+4) (by omega)).trans x4;have hj0:(0:Int)<=(j:Int):=(by omega);have Fy:(j:Int)<(l.length:Int):=(by omega);clear hx x0 x1 x2 x3 x4;have Ap:=ArY wr (.cells #[S (R x.a.x),S (R x.a.y),S (R x.b.x),S (R x.b.y),.int .i64 x.l] 176);have E4:=(Aa.refl wr).alloc (.cells #[S (R x.a.x),S (R x.a.y),S (R x.b.x),S (R x.b.y),.int .i64 x.l] 176);have Tt:=hP.ext E4;have jS:=jT.ext E4
       go_upto_region 22 with fail
       unfold S at Ap Tt jS;generalize (wr.alloc (.cells #[.string ⟨(R x.a.x).toArray⟩,.string ⟨(R x.a.y).toArray⟩,.string ⟨(R x.b.x).toArray⟩,.string ⟨(R x.b.y).toArray⟩,.int .i64 x.l] 176))=W4 at *;obtain⟨bx,Js⟩:=ArV wr.heap.size;rw [←Js]at Ap ⊢;clear Js c0 c1 c2 c3 c4 E4 EG jT hP;have q0:∀z:Ac W4,z.w.cell? ⟨bM,0,none⟩=some (.slice oP pts.length cP):=Ac.cell (Ab Tt.cM rfl);have q1:∀z:Ac W4,z.w.cell? ⟨bx,0,none⟩=some (S (R x.a.x)):=Ac.cell (Ab Ap rfl);have q2:∀z:Ac W4,z.w.cell? ⟨bx,1,none⟩=some (S (R x.a.y)):=Ac.cell (Ab Ap rfl);have pn:=RA
       have TI:(∃t,pts.length=t+1/\∃y,An y x.a=true/\pts[t]?=some y)∨pts.length=0∨(∃t,pts.length=t+1/\∃y,An y x.a=false/\pts[t]?=some y):=by
        rcases Nat.eq_zero_or_pos pts.length with h0|h0
        ·exact .inr (.inl h0)
        ·have hlt:pts.length-1<pts.length:=by omega
         cases hb:An pts[pts.length-1] x.a
         ·exact .inr (.inr ⟨pts.length-1,by omega,_,hb,Asf hlt⟩)
         ·exact .inl ⟨pts.length-1,by omega,_,hb,Asf hlt⟩
       rcases TI with⟨t,ht,y,hy,Pe⟩|js
       ·obtain⟨FZ,Uq⟩:=List.getElem?_eq_some_iff.1 Pe;obtain⟨bp,op,rfl,y0,y1⟩:=Ca jS FZ;rw [Uq]at y0 y1;have q3:∀z:Ac W4,z.w.cell? ⟨bp,op+t*2,none⟩=some (S (R y.x)):=Ac.cell y0;have q4:∀z:Ac W4,z.w.cell? ⟨bp,op+t*2+1,none⟩=some (S (R y.y)):=Ac.cell y1;obtain⟨pl,LM⟩:=ArV pts.length;rw [←LM]at q0;have hw1:IntKind.wrap .i64 ((pl:Int)-1)=(t:Int):=(by rw [Asg _ (by omega)];omega);have Ic:((pl:Int) == 0)=false:=beq_false_of_ne (by omega);have ht0:(0:Int)<=(t:Int):=(by omega);have Pd:(t:Int)<(pl:Int):=(by omega);have HP:=ArW (And.intro LM hpl);clear ht LM Pe Uq FZ y0 y1;refine Bp (by kernel_rfl) (by kernel_rfl) ?_
        repeat (go_big_quiet_step (fail))
        refine wpQuiet_nil ?_;rintro W5 ⟨z,hz⟩;have Ax:Aa W4 W5:=hz▸z.h;clear hz z;have FY:=Tt.ext Ax;clear q0 q1 q2 q3 q4;go_wp2;go_roundw
        case rel=>exact⟨j+1,_,pts,by go_num,A7,by omega,FY⟩
        case measure=>simp [intOf];omega
       ·go_cut [99] (fun v wx=>v=.bool true/\Aa W4 wx)
        case first=>
         rcases js with h0|⟨t,ht,y,hy,Pe⟩
         ·rw [h0]at q0;refine Bp (by kernel_rfl) (by kernel_rfl) ?_
          repeat (go_big_quiet_step (fail))
          refine wpQuiet_nil ?_;rintro W5 ⟨z,hz⟩;have Ax:Aa W4 W5:=hz▸z.h;clear hz z q0 q1 q2;go_wp2;go_meet;exact⟨rfl,Ax⟩
         ·obtain⟨FZ,Uq⟩:=List.getElem?_eq_some_iff.1 Pe;obtain⟨bp,op,rfl,y0,y1⟩:=Ca jS FZ;rw [Uq]at y0 y1;have q3:∀z:Ac W4,z.w.cell? ⟨bp,op+t*2,none⟩=some (S (R y.x)):=Ac.cell y0;have q4:∀z:Ac W4,z.w.cell? ⟨bp,op+t*2+1,none⟩=some (S (R y.y)):=Ac.cell y1;obtain⟨pl,LM⟩:=ArV pts.length;rw [←LM]at q0;have hw1:IntKind.wrap .i64 ((pl:Int)-1)=(t:Int):=(by rw [Asg _ (by omega)];omega);have Ic:((pl:Int) == 0)=false:=beq_false_of_ne (by omega);have ht0:(0:Int)<=(t:Int):=(by omega);have Pd:(t:Int)<(pl:Int):=(by omega);clear ht LM Pe Uq FZ y0 y1;refine Bp (by kernel_rfl) (by kernel_rfl) ?_
          repeat (go_big_quiet_step (fail))
          refine wpQuiet_nil ?_;rintro W5 ⟨z,hz⟩;have Ax:Aa W4 W5:=hz▸z.h;clear hz z q0 q1 q2 q3 q4;go_wp2;go_meet;exact⟨rfl,Ax⟩
        case rest=>
         obtain⟨rfl,Ax⟩:=hcut;obtain⟨W5,rfl⟩:=J9 Ax;have FY:=Tt.ext Ax;have er:=(Ax.block _ (ArX Ap)).trans Ap;have z0:=Ab (o:=0) er rfl;have z1:=Ab (o:=1) er rfl;have z2:W5.cell? ⟨bM,0,none⟩=some (.slice oP pts.length cP):=Ab FY.cM rfl;have hbase:W3.heap.size<=W5.heap.size:=FY.but.size;have iY:=EP.out;clear q0 q1 q2 js Ap
         go_wp2_with (at_builtin;go_loud (refine AdG rfl _ _ rfl _ W3.heap.size (.slice oP pts.length cP) pts.length pts rfl (Ao FY.own ((Aa.refl W5).alloc _)) (by omega) x.a W5.heap.size (ArY W5 _) rfl (by simp;omega) ?_);intro v7 w7 Dm EB;obtain⟨h7,yS⟩:=FY.app EY IG.1 ((Aa.refl W5).alloc _) EB Dm;obtain⟨oP7,cP7,rfl,-,-,-⟩:=Ae.of_own' (by omega) Dm;have k0:w7.cell? ⟨bM,0,none⟩=some (.slice oP pts.length cP):=Ab h7 rfl;have k1:=AB (o:=0) h7)
         have HP7:=ArW yS;clear yS EB Dm h7 FY Tt z0 z1 z2;go_wp2;go_roundw
         case rel=>exact⟨j+1,_,pts ++ [x.a],by go_num,A7,by rw [List.length_append,List.length_singleton];omega,HP7.out⟩
         case measure=>simp [intOf];omega
      ·have Dl:j=l.length:=(by omega);subst Dl;have hmk:=lL n (by omega) (n:Int) rfl wr;have Xw:∀(fn:Fn) (first cap:Array Value) (w:World),(Instr.makeFunc fn first cap).run Tryz.prog w=.ok (.func fn first cap) w:=fun _ _ _ _=>rfl;have Ng:=hP.but.cells av (Ds av Qo (by decide));have WQ:=hP.but.cells AhC ak;have u0:wr.cell? ⟨bU,0,none⟩=some (.slice U n cu):=Ab Ng rfl;have eT:=BG Lx hP.but (fun q hq e=>by subst e;exact A8 Lx Qo (by decide) hq);have Ea:=(Aa.refl wr).alloc (.cells (madeCells #[.int .i64 0] n) 3);have Eb:=(Aa.refl (wr.alloc (.cells (madeCells #[.int .i64 0] n) 3))).alloc (.cells #[.slice (some ⟨wr.heap.size,0,none⟩) n n] 69);have Bl:=ArY (wr.alloc (.cells (madeCells #[.int .i64 0] n) 3)) (.cells #[.slice (some ⟨wr.heap.size,0,none⟩) n n] 69);rw [Ash]at Bl;have jF:=Ao (Y6 wr 0 n (Nat.zero_le _) (by omega)) Eb;have Gn:=Ea.trans Eb;have nl:((wr.alloc (.cells (madeCells #[.int .i64 0] n) 3)).alloc (.cells #[.slice (some ⟨wr.heap.size,0,none⟩) n n] 69)).heap.size=wr.heap.size+2:=by simp
       go_upto_region 27 with fail
       have FY:=hP.ext Gn;have Tu:=Ao eT Gn;have Qv:=(Gn.block _ (ArX Ng)).trans Ng;have EF:=Ao (BG hv3 hP.but (fun q hq e=>by subst e;exact A8 hv3 Qo (by decide) hq)) Gn;have ny:∀k,(Value.slice U n cu).ownBlock=some k→k<wr.heap.size:=fun k hk=>(eT.lt k hk).2;have aj:=(Gn.block _ (ArX WQ)).trans WQ;have AhI:w0.heap.size<=wr.heap.size:=Asl Cq.size hP.but.size;clear hmk Ea Eb Gn hP eT Ng u0;generalize (wr.alloc (.cells (madeCells #[.int .i64 0] n) 3)).alloc (.cells #[.slice (some ⟨wr.heap.size,0,none⟩) n n] 69)=W5 at *;obtain⟨AU,Cm⟩:=ArV wr.heap.size;rw [←Cm]at Bl jF nl AhI ⊢;have Aq4:AU<W5.heap.size:=by omega
       have OB:EN W5 W5 n (AU+1) AU bM bU U cu units (.slice oP pts.length cP) (.slice none 0 0) (.slice none 0 0) (zn (List.replicate n 0)) [] []:=by
        refine⟨⟨Bl,jF,FY.cM,⟨rfl,.inl ⟨rfl,rfl⟩⟩,Qv,Tu,fun k hk=>?_,by simp [zn],Az,hc1,hc2,?_,?_,?_⟩,⟨rfl,.inl ⟨rfl,rfl⟩⟩,Ar.refl _ _⟩
        ·have:=ny k hk;omega
        ·intro z hz;simp [zn]at hz;obtain⟨-,rfl⟩:=hz;simp
        ·exact Asl (Nat.add_le_add_left List.countP_le_length _) (by simp [zn])
        ·intro s hs;cases hs
       have Aqg:bM<W5.heap.size:=ArX FY.cM;have yW:=FY.sheet;have Qt:=NP FY.own Cq.size;have CL:Aa w0 W5:=FY.but.toExt Cq (fun q e=>by subst e;have:=hx1.size;omega);have WF:=NP EF (Nat.zero_le _);have iY:=EP.out;have Vn:=ArW (And.intro yW hpl);clear Bl jF FY Tu Qv EF ny nl Cm yW hpl jT EG
       go_upto_region 28 with fail
       go_loopw [114] (fun iv we=>∃(j:Nat) (E F:Value) (nums:List Int) (Ag:List Bs) (eds:List AD),iv=.int .i64 (j:Nat)/\j<=l.length/\eds.length<=j/\EN W5 we n (AU+1) AU bM bU U cu units (.slice oP pts.length cP) E F nums Ag eds) (fun iv _=>l.length-(intOf iv).toNat)
       case atStart=>exact⟨0,_,_,_,[],[],rfl,by omega,by simp,OB⟩
       case round=>
        obtain⟨j,E,F,nums,Ag,eds,rfl,hj,hel,hS⟩:=hrel;by_cases A7:j<l.length
        ·obtain⟨g,rfl⟩:=mN WF (by omega);have QJ:j<l3.length:=(by rw [H3.out.2];exact A7);obtain⟨x0,x1,x2,x3,x4⟩:=Q9 l3 j QJ;have IG:=H3.out.1 _ (Asa QJ);obtain⟨x,hx⟩:=ArV (l3[j]);rw [←hx]at x0 x1 x2 x3 x4 IG;obtain⟨cn,Bl⟩:=Hd hS.nam.num
         have EG:=BG WF hS.but (by
          rintro q hq (e|e)
          ·subst e;obtain⟨uU,QA⟩:=Hd OB.nam.num;exact A8 WF QA (by decide) hq
          ·subst e;exact A8 WF OB.nam.cM (by decide) hq)
         have Lu:=BG Qt hS.but (by
          rintro q hq (e|e)
          ·subst e;obtain⟨uU,QA⟩:=Hd OB.nam.num;exact A8 Qt QA (by decide) hq
          ·subst e;exact A8 Qt OB.nam.cM (by decide) hq)
         have zL:∀{w':World},Ar (fun q=>q=AU∨q=bM) W5 w'→Aa w0 w':=fun h=>h.toExt CL (by
          have h0:=hx1.size
          rintro q (e|e)<;>omega)
         have BD:Aa w0 wr:=zL hS.but;have c0:=(EG.cellAt (j*5) (by omega)).trans x0;have c1:=(EG.cellAt (j*5+1) (by omega)).trans x1;have c2:=(EG.cellAt (j*5+2) (by omega)).trans x2;have c3:=(EG.cellAt (j*5+3) (by omega)).trans x3;have c4:=(EG.cellAt (j*5+4) (by omega)).trans x4;have hj0:(0:Int)<=(j:Int):=(by omega);have Fy:(j:Int)<(l.length:Int):=(by omega);have HX:=ArW hx;clear hx x0 x1 x2 x3 x4;have Ap:=ArY wr (.cells #[S (R x.a.x),S (R x.a.y),S (R x.b.x),S (R x.b.y),.int .i64 x.l] 176);have E6:=(Aa.refl wr).alloc (.cells #[S (R x.a.x),S (R x.a.y),S (R x.b.x),S (R x.b.y),.int .i64 x.l] 176);have eN:=hS.extn E6;have eF:=Ao Lu E6;have kJ:=Ao EG E6;have BO:=BD.trans E6
         go_upto_region 30 with fail
         unfold S at Ap eN eF kJ BO;generalize (wr.alloc (.cells #[.string ⟨(R x.a.x).toArray⟩,.string ⟨(R x.a.y).toArray⟩,.string ⟨(R x.b.x).toArray⟩,.string ⟨(R x.b.y).toArray⟩,.int .i64 x.l] 176))=W6 at *;obtain⟨bh,DG⟩:=ArV wr.heap.size;rw [←DG]at Ap ⊢;clear DG c0 c1 c2 c3 c4 E6 EG Lu hS BD Bl;have lc:=lD x.a x.b IG.1.sz IG.2.1.sz W6 (hw.ext BO);obtain⟨lz,hlz⟩:=ArV (AX x.a x.b);rw [←hlz]at lc;unfold Af at lc;have z0:=Ab (o:=0) Ap rfl;have z1:=Ab (o:=1) Ap rfl;have z2:=Ab (o:=2) Ap rfl;have z3:=Ab (o:=3) Ap rfl;(go_wp2_with fail);(with_reducible refine lc.mono ?_);rintro e W7 ⟨rfl,AQ⟩;have Lv:=eN.extn AQ;by_cases AqX:0<lz
         ·clear z0 z1 z2 z3 lc;go_wp2;go_roundw
          case rel=>exact⟨j+1,E,F,nums,Ag,eds,by go_num,A7,by omega,Lv⟩
          case measure=>simp [intOf];omega
         ·have yU:=Ao eF AQ;have oy:=Ao kJ AQ;have BP:=BO.trans AQ;have Ez:=(AQ.block _ (ArX Ap)).trans Ap;have nc:=vq Lv.nam (by omega) Lv.but.size x.l IG.2.2.2.1 IG.2.2.2.2;have y4:=Ab (o:=4) Ez rfl;clear z0 z1 z2 z3 lc eN eF kJ BO Ap AQ;(go_wp2_with fail);(with_reducible refine nc.mono ?_);rintro e W8 ⟨zl,F8,nums8,faces8,rfl,jC,DF⟩;have Wz:=Lv.name jC DF;have Jp:Aa w0 W8:=zL Wz.but;obtain⟨cn7,QB⟩:=Hd Lv.nam.num
          have LL:∀{B:Nat} {e:TypeId} {s m:Nat} {v:Value} {xs:List Value},W7.ownsRow B e s v m xs→e≠3→e≠36→e≠9→W8.ownsRow B e s v m xs:=by
           intro B e s m v xs hv h1 h2 h3;refine BG hv DF ?_;rintro k hk (q|q|q)
           ·subst q;exact A8 hv QB h1 hk
           ·subst q;exact A8 hv Lv.nam.cM h2 hk
           ·rcases hv.2 with⟨h',_⟩|⟨g,cap,cur,h',_,hgb,_⟩
            ·rw [h']at hk;cases hk
            ·rw [h']at hk;simp only [Value.ownBlock,Ase]at hk;subst hk;exact A8 Lv.nam.fac hgb (fun e0=>h3 e0.symm) q
          have WV:=DF.cells Ez (by
           rintro(q|q|q)
           ·subst q;exact Ds Ez QB (by decide) rfl
           ·subst q;exact Ds Ez Lv.nam.cM (by decide) rfl
           ·exact A8 Lv.nam.fac Ez (by decide) q)
          have yV:=LL yU (by decide) (by decide) (by decide);have oz:=LL oy (by decide) (by decide) (by decide);clear LL DF jC nc y4 yU oy Ez;obtain⟨oE,cE,rfl,-,-,-⟩:=Ae.of_own' (by omega) Wz.own;obtain⟨oF,cF,rfl,-,-,-⟩:=Ae.of_own' (by omega) Wz.nam.fac;obtain⟨oP',cP',gu,l7,yQ,yR⟩:=Ae.of_own' (by omega) yV;simp only [Value.slice.injEq,true_and]at gu;obtain⟨rfl,rfl⟩:=gu;obtain⟨oV,cV,gy,hrV,hV1,hV2⟩:=Ae.of_own' (by omega) oz;simp only [Value.slice.injEq,true_and]at gy;obtain⟨rfl,rfl⟩:=gy;have i1:=fun (w':World) (h:Aa W8 w')=>tq pts x.a oP cP (.slice oE eds.length cE) (.slice oF faces8.length cF) w' (l7.ext h) yQ yR;have i2:=fun (w':World) (h:Aa W8 w')=>tq pts x.b oP cP (.slice oE eds.length cE) (.slice oF faces8.length cF) w' (l7.ext h) yQ yR;have bk:=fun (w':World) (h:Aa W8 w')=>VJ l3 x (some ⟨g,0,none⟩) vc w' (hrV.ext h) (by rw [H3.out.2];exact hV1) hV2;rw [H3.out.2]at bk;have hbr:=H3.out.1.back x;generalize Fh pts x.a=r1 at *;generalize Fh pts x.b=r2 at *;generalize Ek l3 x=r3 at *;have AhY:eds.length<200000:=(by omega);have hn5:n<=100000:=(by omega);clear QB yV oz
          go_upto_region 32 with fail
          refine Ane (c:=⟨W5,W8,_,_,n,AU+1,AU,bM,bU,bh,cu,U,units,.slice oP pts.length cP,.slice oE eds.length cE,.slice oF faces8.length cF,nums8,faces8,eds,x,r1,r2,r3,zl,.slice (some ⟨g,0,none⟩) l.length vc⟩) ⟨Wz,WV,hn5,AhY,i1,i2,bk,hbr.1,hbr.2,rfl,rfl,rfl,rfl,rfl,by simp,rfl,by kernel_rfl,by kernel_rfl⟩ ?_;intro a w9 zr E9 F9 Als Tb hfr FW;have hSf:EN W5 w9 n (AU+1) AU bM bU U cu units (.slice oP pts.length cP) E9 F9 Als Tb (eds ++ [⟨r1,r2,zl,zr⟩]):=FW;obtain⟨vs,rfl⟩:=hfr.lit32 (by simp);simp only [List.take_succ_cons,List.take_zero,List.drop_succ_cons,List.drop_zero,List.cons_append,List.nil_append];go_wp2;go_roundw
          case rel=>exact⟨j+1,_,_,_,_,eds ++ [⟨r1,r2,zl,zr⟩],by go_num,A7,by rw [List.length_append,List.length_singleton];omega,hSf⟩
          case measure=>simp [intOf];omega
        ·have Dl:j=l.length:=(by omega);subst Dl;have AqT:(l.length:Int)<=(l.length:Int):=(by omega);obtain⟨cn,Bl⟩:=Hd hS.nam.num;obtain⟨uU,QA⟩:=Hd OB.nam.num;obtain⟨oE,cE,rfl,-,-,-⟩:=Ae.of_own' (by omega) hS.own;obtain⟨oF,cF,rfl,-,-,-⟩:=Ae.of_own' (by omega) hS.nam.fac
         have Lu:=BG Qt hS.but (by
          rintro q hq (e|e)
          ·subst e;exact A8 Qt QA (by decide) hq
          ·subst e;exact A8 Qt OB.nam.cM (by decide) hq)
         have Dw:=hS.but.cells aj (by
          rintro(e|e)
          ·exact Ds aj QA (by decide) e
          ·exact ak e)
         have BD:Aa w0 wr:=hS.but.toExt CL (by
          have h0:=hx1.size
          rintro q (e|e)<;>omega)
         have m0:wr.cell? ⟨bM,0,none⟩=some (.slice oP pts.length cP):=Ab hS.nam.cM rfl;have m1:wr.cell? ⟨bM,1,none⟩=some (.slice oE eds.length cE):=Ab hS.nam.cM rfl;have m2:wr.cell? ⟨bM,2,none⟩=some (.slice oF Ag.length cF):=Ab hS.nam.cM rfl;have r0:wr.cell? ⟨bU+1,0,none⟩=some (.slice none 0 0):=Ab Dw rfl;have r1:wr.cell? ⟨bU+1,1,none⟩=some (.slice none 0 0):=Ab Dw rfl;have r2:wr.cell? ⟨bU+1,2,none⟩=some (.slice none 0 0):=Ab Dw rfl;have r3:=AB (o:=0) Dw;have r4:=AB (o:=1) Dw;have r5:=AB (o:=2) Dw;have CS:=PX (.slice oP pts.length cP) (.slice oE eds.length cE) (.slice oF Ag.length cF) Dw;have bb:=(((Ar.refl (fun q=>q=bU+1) wr).setCell (p:=⟨bU+1,0,none⟩) (.inl rfl) (.slice oP pts.length cP)).setCell (p:=⟨bU+1,1,none⟩) (.inl rfl) (.slice oE eds.length cE)).setCell (p:=⟨bU+1,2,none⟩) (.inl rfl) (.slice oF Ag.length cF);have f1:=BG Lu bb (fun q hq e=>by subst e;exact A8 Lu Dw (by decide) hq);have f2:=BG hS.own bb (fun q hq e=>by subst e;exact A8 hS.own Dw (by decide) hq);have f3:=BG hS.nam.fac bb (fun q hq e=>by subst e;exact A8 hS.nam.fac Dw (by decide) hq);have Nj:=bb.toExt BD (fun q e=>by subst e;have:=hx.size;omega);obtain⟨A1,c1,e1,g1,g2,g3⟩:=Ae.of_own' (by omega) f1;obtain⟨A2,c2,e2,g4,g5,g6⟩:=Ae.of_own' (by omega) f2;obtain⟨A3,c3,e3,g7,g8,g9⟩:=Ae.of_own' (by omega) f3;simp only [Value.slice.injEq,true_and]at e1 e2 e3;obtain⟨rfl,rfl⟩:=e1;obtain⟨rfl,rfl⟩:=e2;obtain⟨rfl,rfl⟩:=e3;have hfn:Ag.length<=n:=by have:=hS.nam.cnt;omega
         have Ay:MapAt (((wr.setCell ⟨bU+1,0,none⟩ (.slice oP pts.length cP)).setCell ⟨bU+1,1,none⟩ (.slice oE eds.length cE)).setCell ⟨bU+1,2,none⟩ (.slice oF Ag.length cF)) n units oP oE oF cP cE cF ⟨pts,eds,Ag.length⟩ Ag:=
          ⟨⟨g2,g3,g5,g6,g8,g9⟩,g1,g4,g7,rfl,hfn,Vn.out.1,hS.nam.txt⟩
         have t1:=Ab (o:=0) CS rfl;have t2:=Ab (o:=1) CS rfl;have t3:=Ab (o:=2) CS rfl;have hfr:PE w0.heap.size oP oE oF:=⟨by first|exact Ro f1|exact Ro (NP f1 CL.size),by first|exact Ro f2|exact Ro (NP f2 CL.size),by first|exact Ro f3|exact Ro (NP f3 CL.size)⟩;have AP:=ArW (And.intro Ay (And.intro Nj hfr));clear Ay Nj hfr f1 f2 f3 g1 g4 g7 bb CS Dw hS Lu;go_wp2;refine bodyPost_ret (v:=.agg #[.slice oP pts.length cP,.slice oE eds.length cE,.slice oF Ag.length cF]) (by simp [results,Tryz.results123,go_sem,t1,t2,t3]) rfl ?_;exact⟨oP,oE,oF,cP,cE,cF,⟨pts,eds,Ag.length⟩,Ag,rfl,AP.out.1,AP.out.2.1,AP.out.2.2⟩
  ·go_upto_region 5 with fail
   go_loopw [0,5,6] (fun vv a i wr=>∃(l1:List Hf) (b:Bool) (j:Nat),a=.bool b/\i=.int .i64 (j:Nat)/\j<=2001/\DT n l1/\l1.length<=2000/\wr.ownsRow w0.heap.size 176 5 vv l1.length (Bd l1)/\Aa W1 wr/\(b=false→l1.length=l.length)/\(b=true→l1.length<l.length)) (fun vv a i _=>match a with | .bool true=>0|_=>lenV vv+1-(intOf i).toNat)
   case atStart=>exact⟨l,false,0,rfl,rfl,by omega,HL.out,hlen,hv,Ad,fun _=>rfl,fun h=>by cases h⟩
   case round=>
    obtain⟨l1,b,j,rfl,rfl,hj,Fe,Xt,Ur,Ks,Xh,jZ⟩:=hrel;have Og:=ArW Fe;clear Fe;obtain⟨vA1,vc1,rfl,l9,fg,fh⟩:=Ae.of_own' (by omega) Ur
    cases b
    ·have Zz:=ArW (Xh rfl);clear Xh jZ;by_cases A7:j<l1.length
     ·have hj0:(0:Int)<=(j:Int):=(by omega);have Fy:(j:Int)<(l1.length:Int):=(by omega);have kP:=hx1.trans Ks;have nd:=Alj l1 Og.out.ok (by omega) j A7 vA1 vc1 wr (hw.ext kP) l9 fg fh;(go_wp2_with fail);(with_reducible refine nd.mono ?_);rintro e w5 ⟨k,rfl,Ax,hk⟩;by_cases hk0:k<0
      ·have hHK:=hk0;have EF:=Ao Ur Ax;go_wp2;go_roundw
       case rel=>exact⟨l1,false,j+1,rfl,by go_num,by omega,Og.out,Xt,EF,Ks.trans Ax,fun _=>Zz.out,fun h=>by cases h⟩
       case measure=>simp [lenV,intOf];omega
      ·obtain⟨kk,CP,rfl,fp,Xz⟩:=hk.resolve_left hk0;have jc:=AjN l1 (by omega) j kk A7 CP vA1 vc1 w5 (l9.ext Ax) fg fh;have hJ:=AjM Og.out (Asa A7) (Asa CP) Xz;have hJl:=AjL Og.out (x:=l1[j]) (y:=l1[kk]) (Asa A7) fp;generalize NE l1 l1[j] l1[kk]=l2 at *;have HJ:=ArW hJ;clear hk fp Xz hJ;(go_wp2_with fail);(with_reducible refine jc.mono ?_);rintro e w6 ⟨v6,rfl,hv6,BF⟩;have Us:=NP hv6 (Asl (hx1.trans (Ks.trans Ax)).size (ArZ _));have hlv:=Ako Us;have BO:=Ks.trans (Ax.trans BF);go_wp2;go_roundw
       case rel=>exact⟨l2,true,j+1,rfl,by go_num,by omega,HJ.out,by have:=Zz.out;omega,Us,BO,(fun h=>by cases h),fun _=>by have:=Zz.out;omega⟩
       case measure=>simp [lenV,intOf];omega
     ·have Fy:¬((j:Int)<(l1.length:Int)):=(by omega);go_wp2;go_roundw
      case rel=>exact⟨l1,false,rfl,Og.out,Xt,Ur,Ks⟩
      case measure=>simp [lenV]
    ·have hlt:=jZ rfl;clear Xh jZ;by_cases A7:j<l1.length
     ·have Fy:(j:Int)<(l1.length:Int):=(by omega);go_wp2;go_roundw
      case rel=>exact⟨l1,true,rfl,Og.out,Xt,Ur,Ks⟩
      case measure=>simp [lenV];omega
     ·have Fy:¬((j:Int)<(l1.length:Int)):=(by omega);go_wp2;go_roundw
      case rel=>exact⟨l1,true,rfl,Og.out,Xt,Ur,Ks⟩
      case measure=>simp [lenV];omega
theorem vo(n:Nat)(hn:n<=200000)(c:Int)(hc:c=(n:Int))(W:World) :
  (Instr.makeSlice 23 (.int .i64 c) (.int .i64 c)).run Tryz.prog W=.ok (.slice (some ⟨W.heap.size,0,none⟩) n n) (W.alloc (.cells (madeCells #[S []] n) 9)):=by
 subst hc;obtain⟨i0,hi,hz0,hz1,hz2⟩:=info_parts Tryz.infoStr;have h:=run_make (P:=Tryz.prog) W 23 9 i0 (S []) Tryz.underlying23 hi hz0 .i64 .i64 n n (by omega) (by omega) (by rw [hz2];omega) (by omega);rw [hz1,Nat.mul_one]at h;simp only [Int.toNat_natCast]at h;exact h
theorem yl(W:World)(base n:Nat)(hb:base<=W.heap.size)(hn:n<=200000) :
  (W.alloc (.cells (madeCells #[S []] n) 9)).ownsRow base 9 1 (.slice (some ⟨W.heap.size,0,none⟩) n n) n ((List.replicate n []).map S):=by
 have h:=World.ownsRow_lit (w:=W) (base:=base) (e:=9) (size:=1) (madeCells #[S []] n) n hb (by unfold maxLen;omega) (by rw [size_madeCells];omega);rw [toList_madeCells_one]at h
 simpa using h
def KN(us:List Bs)(k:Nat):List Bs:=(List.range us.length).map fun i=>if i<k then us.getD i [] else []
theorem AoW(us:List Bs):KN us 0=List.replicate us.length []:=by
 unfold KN;apply List.ext_getElem
 ·simp
 ·intro i h1 h2;simp
theorem AoV{us:List Bs}{k:Nat}(h:k<us.length):(KN us k).set k us[k]=KN us (k+1):=by
 unfold KN;apply List.ext_getElem
 ·simp
 ·intro i h1 h2;by_cases e:k=i
  ·subst e;simp [List.getD_eq_getElem?_getD,Asf h]
  ·rw [List.getElem_set_ne e];have:(i<k+1)↔i<k:=(by omega);simp [this]
theorem AoU(us:List Bs):KN us us.length=us:=by
 unfold KN;apply List.ext_getElem
 ·simp
 ·intro i h1 h2;simp only [List.length_map,List.length_range]at h1;simp [h1,List.getD_eq_getElem?_getD]
theorem AoL{w:World}{bR o:Nat}{t:TypeId}{v:Value}(hb:w.heap[bR]?=some (.cells #[.slice none 0 0,.slice none 0 0,.slice none 0 0] t))(h:w.cell? ⟨bR,o,none⟩=some v):v=.slice none 0 0:=by
 unfold World.cell? at h;simp only [hb]at h
 match o,h with
 | 0,h=>simpa using h.symm
 | 1,h=>simpa using h.symm
 | 2,h=>simpa using h.symm
 | o+3,h=>simp at h
theorem Ae.far{w w':World}{A:Option Addr}{cs:List Value}{bR:Nat}{t:TypeId}(h:Ae w A cs)(hb:w.heap[bR]?=some (.cells #[.slice none 0 0,.slice none 0 0,.slice none 0 0] t))
  (hne:∀x∈cs,x≠.slice none 0 0) (Ec:∀q,q≠bR→w'.heap[q]?=w.heap[q]?):Ae w' A cs:=
 ⟨fun h0=>by
  obtain⟨b,o,e,hc⟩:=h.ad h0;refine⟨b,o,e,fun j hj=>?_⟩;have Nv:=hc j hj
  have Bq:b≠bR:=by rintro rfl;exact hne _ (Asa hj) (AoL hb Nv)
  unfold World.cell? at Nv ⊢;simp only [Ec b Bq]
  exact Nv⟩
theorem MapAt.far{w w':World}{n:Nat}{units:List Bs}{A B F:Option Addr}{c d g:Nat}{m:Bz}{Ag:List Bs}{bR:Nat}{t:TypeId}(h:MapAt w n units A B F c d g m Ag)
  (hb:w.heap[bR]?=some (.cells #[.slice none 0 0,.slice none 0 0,.slice none 0 0] t)) (Ec:∀q,q≠bR→w'.heap[q]?=w.heap[q]?):MapAt w' n units A B F c d g m Ag:=by
 refine⟨h.cap,h.pts.far hb ?_ Ec,h.eds.far hb ?_ Ec,h.fac.far hb ?_ Ec,h.nf,h.le,h.sheet,h.txt⟩
 ·intro x hx;obtain⟨y,-,hx⟩:=List.mem_flatMap.1 hx;simp only [List.mem_cons,Asm,or_false]at hx
  rcases hx with rfl|rfl<;>exact fun e=>by simp [S]at e
 ·intro x hx;obtain⟨y,-,hx⟩:=List.mem_flatMap.1 hx;simp only [List.mem_cons,Asm,or_false]at hx
  rcases hx with rfl|rfl|rfl|rfl<;>exact fun e=>by simp at e
 ·intro x hx;obtain⟨y,-,rfl⟩:=List.mem_map.1 hx;exact fun e=>by simp [S]at e
theorem MapAt.ext{w w':World}{n:Nat}{units:List Bs}{A B F:Option Addr}{c d g:Nat}{m:Bz}{Ag:List Bs}(h:MapAt w n units A B F c d g m Ag)(hx:Aa w w'):MapAt w' n units A B F c d g m Ag:=
 ⟨h.cap,h.pts.ext hx,h.eds.ext hx,h.fac.ext hx,h.nf,h.le,h.sheet,h.txt⟩
theorem uz{w0 w:World}{n:Nat}{units:List Bs}{A B F:Option Addr}{c d g:Nat}{m:Bz}{Ag:List Bs}{bR:Nat}{t:TypeId}(h:MapAt w n units A B F c d g m Ag)(hx:Aa w0 w)
  (hb:w.heap[bR]?=some (.cells #[.slice none 0 0,.slice none 0 0,.slice none 0 0] t)) (h0:w0.heap.size<=bR) (x y z:Value) :
  MapAt (((w.setCell ⟨bR,0,none⟩ x).setCell ⟨bR,1,none⟩ y).setCell ⟨bR,2,none⟩ z) n units A B F c d g m Ag/\Aa w0 (((w.setCell ⟨bR,0,none⟩ x).setCell ⟨bR,1,none⟩ y).setCell ⟨bR,2,none⟩ z)
   /\(((w.setCell ⟨bR,0,none⟩ x).setCell ⟨bR,1,none⟩ y).setCell ⟨bR,2,none⟩ z).heap[bR]?=some (.cells #[x,y,z] t):=by
 refine⟨h.far hb fun q hq=>?_,((hx.setCell (p:=⟨bR,0,none⟩) h0 x).setCell (p:=⟨bR,1,none⟩) h0 y).setCell (p:=⟨bR,2,none⟩) h0 z,PX x y z hb⟩;rw [Da (by exact hq),Da (by exact hq),Da (by exact hq)]
end Go.Proofs.YtbejphgbbpplbaaGreatDoor
