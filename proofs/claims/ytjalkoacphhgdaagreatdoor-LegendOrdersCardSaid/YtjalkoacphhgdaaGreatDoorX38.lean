/- X38: QCR QC QGA. -/
import Derived.Test.YtjalkoacphhgdaaGreatDoorX36
namespace Go.Proofs.YtjalkoacphhgdaaGreatDoor
open Go.RowKit Kl Go.Shelf
theorem Aam{P:Program}{o:Oper}{a:Act}{w w':World}{v:Value}{K:Act→World→Prop}{Q:Exit→Act→World→Prop}(h:(execOp a.eval o).run P w=.ok (.value v) w')(hk:K (a.put o.dst v) w'):o.wp P a w K Q:=by
 unfold Oper.wp;rw [h];exact hk
theorem Ao4{P:Program}{Q:Exit→Act→World→Prop}{o:Oper}{a:Act}{w:World}{K:Act→World→Prop}{f:FuncId}{t:Nat}{y:Operand}{ts:Array TypeId}{c1 c2 c3:Value}(ho:o.op=.call {callee:=.value (.tmp t),args:=#[y],argTypes:=ts})(hen:Enters P f){v:Value}(hx:a.eval (.tmp t)=.func (.func f) #[] #[c1,c2,c3])(hy:a.eval y=v)
  {R:Ending→World→Prop} (hc:Calls P f #[v,c1,c2,c3] w R) (hR:∀e w'',R e w''→∃u,e=.returned u/\K (a.put o.dst u) w''):o.wp P a w K Q:=by
 subst hy;have hx':a.tmps[t]?.getD undef=.func (.func f) #[] #[c1,c2,c3]:=by rw [←hx];simp [Act.eval]
 have h2:(execOp a.eval o).run P w=.ok (.enter f #[a.eval y,c1,c2,c3]) w:=by unfold execOp;simp [ho,hx',resolve,invoke,Act.eval,go_sem];exact hen _ w
 unfold Oper.wp;rw [h2,Oper.upon_enter];refine hc.mono fun e w'' h=>?_;obtain⟨u,rfl,hk⟩:=hR e w'' h;exact hk
def aB(ops:Array Oper)(l:List (Nat×Nat)):Bool:=l.all fun p=>match ops[p.1]? with
 | some o=>(waits o).contains p.2
 | none=>false
theorem qy{ops:Array Oper}{L:List (Op×Option Nat)}(h:ops.toList.map (fun o=>(o.op,o.dst))=L){i:Nat}{o:Oper}(ho:ops[i]?=some o):L[i]?=some (o.op,o.dst):=by
 subst h;simp [ho]
def UM(d:Nat):Prop:=128<=d/\d<148
def AmT(bM bh:Nat)(P E F:Value)(x:Hf)(r1 r2 r3 zl:Int)(vr fn:Value)(zr:Int)(Cx:Nat)(E':Value):Nat→Value
 | 0=>.pointer (some ⟨bM,1,none⟩)
 | 1=>E
 | 2=>.agg #[P,E,F]
 | 3=>.pointer (some ⟨bh,0,none⟩)
 | 4=>Ak x.a
 | 5=>.int .i64 r1
 | 6=>.agg #[P,E,F]
 | 7=>.pointer (some ⟨bh,2,none⟩)
 | 8=>Ak x.b
 | 9=>.int .i64 r2
 | 10=>.int .i64 zl
 | 11=>fn
 | 12=>vr
 | 13=>aa x
 | 14=>.int .i64 r3
 | 15=>.int .i64 zr
 | 16=>.agg #[.int .i64 r1,.int .i64 r2,.int .i64 zl,.int .i64 zr]
 | 17=>.slice (some ⟨Cx,0,none⟩) 1 1
 | 18=>E'
 | _=>.pointer (some ⟨bM,1,none⟩)
def AkM:List (Op×Option Nat):=[
 (.fieldAddr 36 (.tmp 8) 1,some 128),(.load 34 (.tmp 128),some 129),(.load 36 (.tmp 8),some 130),(.fieldAddr 189 (.tmp 16) 0,some 131),(.load 92 (.tmp 131),some 132),
 (.call {callee:=.value (.func 213),args:=#[.tmp 130,.tmp 132],argTypes:=#[36,92]},some 133),
 (.load 36 (.tmp 8),some 134),(.fieldAddr 189 (.tmp 16) 1,some 135),(.load 92 (.tmp 135),some 136),
 (.call {callee:=.value (.func 213),args:=#[.tmp 134,.tmp 136],argTypes:=#[36,92]},some 137),
 (.move (.tmp 17),some 138),(.move (.tmp 14),some 139),(.move (.tmp 0),some 140),(.load 189 (.tmp 16),some 141),
 (.call {callee:=.value (.func 135),args:=#[.tmp 140,.tmp 141],argTypes:=#[186,189]},some 142),
 (.call {callee:=.value (.tmp 139),args:=#[.tmp 142],argTypes:=#[3]},some 143),
 (.build 126 #[(0,.tmp 133),(1,.tmp 137),(2,.tmp 138),(3,.tmp 143)],some 144),(.buildSlice 34 1 #[(0,.tmp 144)],some 145),
 (.call {callee:=.builtin .append,args:=#[.tmp 129,.tmp 145],argTypes:=#[34,34]},some 146),(.fieldAddr 36 (.tmp 8) 1,some 147),(.store 34 (.tmp 147) (.tmp 146),none)]
theorem vV(bM:Nat)(w:World):(Instr.fieldAt 36 (.pointer (some ⟨bM,0,none⟩)) 1).run Tryz.prog w=.ok (.pointer (some ⟨bM,1,none⟩)) w:=by simp [go_sem]
theorem Ajm{w:World}{bM:Nat}{E:Value}(h:w.cell? ⟨bM,1,none⟩=some E):(Instr.loadAt 34 (.pointer (some ⟨bM,1,none⟩))).run Tryz.prog w=.ok E w:=by simp [go_sem,h]
theorem m7{w:World}{b o:Nat}{u v:Value}(h:w.cell? ⟨b,o,none⟩=some u)(h':w.cell? ⟨b,o+1,none⟩=some v):(Instr.loadAt 92 (.pointer (some ⟨b,o,none⟩))).run Tryz.prog w=.ok (.agg #[u,v]) w:=by simp [go_sem,h,h']
theorem An3{w:World}{bM:Nat}{P E F E':Value}(hE:∃A n c,E'=.slice A n c)(h:w.heap[bM]?=some (.cells #[P,E,F] 36)):(Instr.storeAt 34 (.pointer (some ⟨bM,1,none⟩)) E').run Tryz.prog w=.ok () (w.setCell ⟨bM,1,none⟩ E'):=by
 have h0:=Ab (o:=1) h rfl;have h1:=AK (o:=1) h;obtain⟨A,n,c,rfl⟩:=hE;simp [go_sem,h0,h1]
theorem Adc(r1 r2 zl zr:Int)(w:World):(Instr.build 126 #[(0,.int .i64 r1),(1,.int .i64 r2),(2,.int .i64 zl),(3,.int .i64 zr)]).run Tryz.prog w=.ok (.agg #[.int .i64 r1,.int .i64 r2,.int .i64 zl,.int .i64 zr]) w:=by simp [go_sem]
theorem Ada(r1 r2 zl zr:Int)(w:World):(Instr.buildSlice 34 1 #[(0,.agg #[.int .i64 r1,.int .i64 r2,.int .i64 zl,.int .i64 zr])]).run Tryz.prog w=.ok (.slice (some ⟨w.heap.size,0,none⟩) 1 1) (w.alloc (.cells #[.int .i64 r1,.int .i64 r2,.int .i64 zl,.int .i64 zr] 126)):=by simp [go_sem]
structure If where
 W5:World
 W:World
 a0:Act
 ops:Array Oper
 n:Nat
 bx:Nat
 kbn:Nat
 bM:Nat
 bU:Nat
 bh:Nat
 cu:Nat
 U:Option Addr
 kun:List Bs
 P:Value
 E:Value
 F:Value
 nums:List Int
 kfa:List Bs
 eds:List Az
 x:Hf
 r1:Int
 r2:Int
 r3:Int
 zl:Int
 vr:Value
def If.fn(c:If):Value:=.func (.func 211) #[] #[.pointer (some ⟨c.bx,0,none⟩),.pointer (some ⟨c.bM,0,none⟩),.pointer (some ⟨c.bU,0,none⟩)]
def If.slot(c:If)(zr:Int)(Cx:Nat)(E':Value):Nat→Value:=AmT c.bM c.bh c.P c.E c.F c.x c.r1 c.r2 c.r3 c.zl c.vr c.fn zr Cx E'
def tQ:List (Nat×Nat):=[(1,0),(4,3),(5,2),(5,4),(8,7),(9,6),(9,8),(9,5),(14,12),(14,13),(14,9),(15,11),(15,14),(16,5),(16,9),(16,10),(16,15),(17,16),(18,1),(18,17),(18,15),(20,18),(20,19)]
structure If.Ok(c:If):Prop where
 st:GV c.W5 c.W c.n c.bx c.kbn c.bM c.bU c.U c.cu c.kun c.P c.E c.F c.nums c.kfa c.eds
 hb:c.W.heap[c.bh]?=some (.cells #[S (R c.x.a.x),S (R c.x.a.y),S (R c.x.b.x),S (R c.x.b.y),.int .i64 c.x.l] 189)
 hn:c.n<=100000
 el:c.eds.length<200000
 c1:∀w',Aa c.W w'→Calls Tryz.prog 213 #[.agg #[c.P,c.E,c.F],Ak c.x.a] w' (Ax c.r1 w')
 c2:∀w',Aa c.W w'→Calls Tryz.prog 213 #[.agg #[c.P,c.E,c.F],Ak c.x.b] w' (Ax c.r2 w')
 c3:∀w',Aa c.W w'→Calls Tryz.prog 135 #[c.vr,aa c.x] w' (Ax c.r3 w')
 r3a:-1<=c.r3
 r3b:c.r3<(c.n:Int)
 e8:c.a0.eval (.tmp 8)=.pointer (some ⟨c.bM,0,none⟩)
 e16:c.a0.eval (.tmp 16)=.pointer (some ⟨c.bh,0,none⟩)
 e17:c.a0.eval (.tmp 17)=.int .i64 c.zl
 e14:c.a0.eval (.tmp 14)=c.fn
 e0:c.a0.eval (.tmp 0)=c.vr
 sz:147<c.a0.tmps.size
 op:c.ops.toList.map (fun o=>(o.op,o.dst))=AkM
 dep:aB c.ops tQ=true
 acc:Zy c.ops=true
def If.Ed(c:If)(w:World)(E' F':Value)(Cu:List Int)(Bp:List Bs)(l:List Az):Prop:=GV c.W5 w c.n c.bx c.kbn c.bM c.bU c.U c.cu c.kun c.P E' F' Cu Bp l
structure Ci(c:If)(zr:Int)(Cx:Nat)(E' F':Value)(Cu:List Int)(Bp:List Bs)(l:Array Bool)(a:Act)(w:World):Prop where
 fr:GX UM c.a0 a
 hf:w.heap[c.bh]?=c.W.heap[c.bh]?
 cl:∀(i:Nat) (o:Oper),c.ops[i]?=some o→l.getD i false=true→∀e∈o.after,Region.binds .any e=true→l.getD e.on false=true
 sl:∀i,i<20→l.getD i false=true→a.eval (.tmp (128+i))=c.slot zr Cx E' i
 jpA:l.getD 15 false=false→Aa c.W w
 jpB:l.getD 15 false=true→l.getD 18 false=false→c.Ed w c.E F' Cu Bp c.eds
 jpG:l.getD 17 false=true→l.getD 18 false=false→w.heap[Cx]?=some (.cells #[.int .i64 c.r1,.int .i64 c.r2,.int .i64 c.zl,.int .i64 zr] 126)
 jpC:l.getD 18 false=true→l.getD 20 false=false→w.heap[c.bM]?=some (.cells #[c.P,c.E,F'] 36)/\(∃A k d,E'=.slice A k d)/\c.Ed (w.setCell ⟨c.bM,1,none⟩ E') E' F' Cu Bp (c.eds ++ [⟨c.r1,c.r2,c.zl,zr⟩])
 jpD:l.getD 20 false=true→c.Ed w E' F' Cu Bp (c.eds ++ [⟨c.r1,c.r2,c.zl,zr⟩])
def Jx(c:If)(l:Array Bool)(a:Act)(w:World):Prop:=∃zr Cx E' F' Cu Bp,Ci c zr Cx E' F' Cu Bp l a w
theorem Vi{ops:Array Oper}{l:Array Bool}(h:∀(i:Nat) (o:Oper),ops[i]?=some o→l.getD i false=true→∀e∈o.after,Region.binds .any e=true→l.getD e.on false=true){i:Nat}{o:Oper}(ho:ops[i]?=some o)(hd:∀e∈o.after,Region.binds .any e=true→l.getD e.on false=true) :
  ∀(j:Nat) (p:Oper),ops[j]?=some p→(l.setIfInBounds i true).getD j false=true→∀e∈p.after,Region.binds .any e=true→(l.setIfInBounds i true).getD e.on false=true:=by
 intro j p hp hl e he hb;by_cases Bc:i=j
 ·subst Bc;rw [ho]at hp;obtain rfl:=Option.some.inj hp;exact getD_set_true (hd e he hb)
 ·rw [getD_set_ne false Bc]at hl;exact getD_set_true (h j p hp hl e he hb)
theorem mM{l:Array Bool}{a:Act}{i:Nat}{v:Value}{f:Nat→Value}(hs:128+i<a.tmps.size)(hv:v=f i)(h:∀j,j<20→j≠i→l.getD j false=true→a.eval (.tmp (128+j))=f j) :
  ∀j,j<20→(l.setIfInBounds i true).getD j false=true→(a.put (some (128+i)) v).eval (.tmp (128+j))=f j:=by
 intro j hj hl;by_cases Bc:i=j
 ·subst Bc;rw [eval_put_same hs,hv]
 ·rw [getD_set_ne false Bc]at hl;rw [uT _ (by omega)];exact h j hj (fun e=>Bc e.symm) hl
section
variable {c : If} {zr : Int} {Cx : Nat} {E' F' : Value} {Cu : List Int} {Bp : List Bs} {l : Array Bool} {a : Act} {w : World}
theorem Ci.sz(h:Ci c zr Cx E' F' Cu Bp l a w)(ok:c.Ok){d:Nat}(hd:d<=147):d<a.tmps.size:=by
 rw [h.fr.size];have:=ok.sz;omega
theorem Ci.need(h:Ci c zr Cx E' F' Cu Bp l a w)(ok:c.Ok){i j:Nat}(hm:tQ.contains (i,j)=true)(hi:l.getD i false=true):l.getD j false=true:=by
 have h1:=List.all_eq_true.1 ok.dep (i,j) (by simpa using hm)
 cases ho:c.ops[i]? with
 | none=>rw [ho]at h1;cases h1
 | some o=>rw [ho]at h1;exact J6 (h.cl i o ho hi) j h1
theorem Ci.put(h:Ci c zr Cx E' F' Cu Bp l a w)(ok:c.Ok){i:Nat}{o:Oper}(hi:i<20/\i≠15/\i≠17/\i≠18)(ho:c.ops[i]?=some o)(hd:∀e∈o.after,Region.binds .any e=true→l.getD e.on false=true){v:Value}(hv:v=c.slot zr Cx E' i) :
  Jx c (l.setIfInBounds i true) (a.put (some (128+i)) v) w:=by
 refine⟨zr,Cx,E',F',Cu,Bp,h.fr.put (by unfold UM;omega) _,h.hf,Vi h.cl ho hd,mM (h.sz ok (by omega)) hv (fun j hj _ hl=>h.sl j hj hl),?_,?_,?_,?_,?_⟩
 all_goals simp only [getD_set_ne false hi.2.1,getD_set_ne false hi.2.2.1,getD_set_ne false hi.2.2.2,getD_set_ne false (show i≠20 by omega)]
 ·exact h.jpA
 ·exact h.jpB
 ·exact h.jpG
 ·exact h.jpC
 ·exact h.jpD
theorem yc{c:If}{z z':Int}{g g':Nat}{E E':Value}{j:Nat}(hj:j<20)(hz:j=15∨j=16→z=z')(hg:j=17→g=g')(hE:j=18→E=E'):c.slot z g E j=c.slot z' g' E' j:=by
 match j,hj with
 | 0,_ | 1,_ | 2,_ | 3,_ | 4,_ | 5,_ | 6,_ | 7,_ | 8,_ | 9,_ | 10,_ | 11,_ | 12,_ | 13,_ | 14,_ | 19,_=>rfl
 | 15,_ | 16,_=>rw [hz (by omega)];rfl
 | 17,_=>rw [hg rfl];rfl
 | 18,_=>rw [hE rfl];rfl
 | n+20,k=>omega
theorem Ci.no18(h:Ci c zr Cx E' F' Cu Bp l a w)(ok:c.Ok){i:Nat}(hi:i=1∨i=15∨i=17∨i=18)(hu:l.getD i false=false):l.getD 18 false=false:=by
 cases e:l.getD 18 false
 ·rfl
 ·have h1:=h.need ok (i:=18) (j:=1) (by decide) e;have FH:=h.need ok (i:=18) (j:=15) (by decide) e;have Ss:=h.need ok (i:=18) (j:=17) (by decide) e
  rcases hi with rfl|rfl|rfl|rfl
  all_goals first|(rw [h1]at hu;cases hu)|(rw [FH]at hu;cases hu)|(rw [Ss]at hu;cases hu)|(rw [e]at hu;cases hu)
theorem Ci.no17(h:Ci c zr Cx E' F' Cu Bp l a w)(ok:c.Ok)(hu:l.getD 15 false=false):l.getD 17 false=false:=by
 cases e:l.getD 17 false
 ·rfl
 ·have h1:=h.need ok (i:=17) (j:=16) (by decide) e;have FH:=h.need ok (i:=16) (j:=15) (by decide) h1;rw [hu]at FH
  cases FH
theorem Ci.no16(h:Ci c zr Cx E' F' Cu Bp l a w)(ok:c.Ok)(hu:l.getD 15 false=false):l.getD 16 false=false:=by
 cases e:l.getD 16 false
 ·rfl
 ·have FH:=h.need ok (i:=16) (j:=15) (by decide) e;rw [hu]at FH
  cases FH
theorem Ci.no20(h:Ci c zr Cx E' F' Cu Bp l a w)(ok:c.Ok)(hu:l.getD 18 false=false):l.getD 20 false=false:=by
 cases e:l.getD 20 false
 ·rfl
 ·have Hm:=h.need ok (i:=20) (j:=18) (by decide) e;rw [hu]at Hm
  cases Hm
theorem Ci.hb(h:Ci c zr Cx E' F' Cu Bp l a w)(ok:c.Ok):w.heap[c.bh]?=some (.cells #[S (R c.x.a.x),S (R c.x.a.y),S (R c.x.b.x),S (R c.x.b.y),.int .i64 c.x.l] 189):=h.hf.trans ok.hb
theorem Ci.grow(h:Ci c zr Cx E' F' Cu Bp l a w)(ok:c.Ok)(FH:l.getD 15 false=false){w':World}(hx:Aa w w'):Ci c zr Cx E' F' Cu Bp l a w':=by
 have Ss:=h.no17 ok FH;have Hm:=h.no18 ok (i:=15) (by simp) FH;have FI:=h.no20 ok Hm;exact⟨h.fr,(hx.block _ (AqI (h.hb ok))).trans h.hf,h.cl,h.sl,fun e=>(h.jpA e).trans hx,fun e=>(by rw [FH]at e;cases e),fun e=>(by rw [Ss]at e;cases e),fun e=>(by rw [Hm]at e;cases e),fun e=>(by rw [FI]at e;cases e)⟩
theorem Ci.name(h:Ci c zr Cx E' F' Cu Bp l a w)(ok:c.Ok){o:Oper}(ho:c.ops[15]?=some o)(hd:∀e∈o.after,Region.binds .any e=true→l.getD e.on false=true)(hu:l.getD 15 false=false)(hsz:l.size=21){w':World}{z:Int}{F2:Value}{pp:List Int}{vK:List Bs}
  (hn:KG w' c.W5.heap.size c.n c.bx c.kbn c.bM c.bU c.U c.cu c.kun c.P c.E F2 pp vK) (hb:Au (fun k=>k=c.kbn∨k=c.bM∨c.F.ownBlock=some k) w w') :
  Ci c z Cx E' F2 pp vK (l.setIfInBounds 15 true) (a.put (some 143) (.int .i64 z)) w':=by
 have hX:=h.jpA hu;have h16:=h.no16 ok hu;have Ss:=h.no17 ok hu;have Hm:=h.no18 ok (i:=15) (by simp) hu;have FI:=h.no20 ok Hm;have hS:=ok.st.extn hX;obtain⟨cn,Ek⟩:=OL hS.nam.num;have Br:=h.hb ok;refine⟨h.fr.put (by unfold UM;omega) _,(hb.block c.bh (AqI Br) ?_).trans h.hf,Vi h.cl ho hd,mM (i:=15) (h.sz ok (by omega)) rfl (fun j hj ApB hl=>?_),?_,?_,?_,?_,?_⟩
 ·rintro(e|e|e)
  ·exact Eg Br Ek (by decide) e
  ·exact Eg Br hS.nam.cM (by decide) e
  ·exact Bu hS.nam.fac Br (by decide) e
 ·rw [h.sl j hj hl];have e16:j≠16:=(by rintro rfl;rw [h16]at hl;cases hl);exact yc hj (by omega) (fun _=>rfl) (fun _=>rfl)
 all_goals simp only [Iv (show 15<l.size by omega),getD_set_ne false (show (15:Nat)≠17 by omega),getD_set_ne false (show (15:Nat)≠18 by omega),getD_set_ne false (show (15:Nat)≠20 by omega)]
 ·intro e;cases e
 ·intro _ _;exact hS.name hn hb
 ·intro e;rw [Ss]at e;cases e
 ·intro e;rw [Hm]at e;cases e
 ·intro e;rw [FI]at e;cases e
theorem Ci.app(h:Ci c zr Cx E' F' Cu Bp l a w)(ok:c.Ok){o:Oper}(ho:c.ops[18]?=some o)(hd:∀e∈o.after,Region.binds .any e=true→l.getD e.on false=true)(hu:l.getD 18 false=false)(hsz:l.size=21)(FH:l.getD 15 false=true){w':World}{v':Value}
  (hw:w'.ownsRow c.W5.heap.size 126 4 v' (c.eds.length+1) (B7 (c.eds ++ [⟨c.r1,c.r2,c.zl,zr⟩]))) (hg:w.grownBy w' c.E.ownBlock) :
  Ci c zr Cx v' F' Cu Bp (l.setIfInBounds 18 true) (a.put (some 146) v') w':=by
 have FI:=h.no20 ok hu;have hS:GV c.W5 w c.n c.bx c.kbn c.bM c.bU c.U c.cu c.kun c.P c.E F' Cu Bp c.eds:=h.jpB FH hu;have Br:=h.hb ok;obtain⟨k1,k2⟩:=GV.app (d:=⟨c.r1,c.r2,c.zl,zr⟩) hS (Aa.refl w) hg hw;obtain⟨A,d,rfl,-,-,-⟩:=Ad.of_own' (show 0<4 by omega) hw;refine⟨h.fr.put (by unfold UM;omega) _,(hg.block c.bh (AqI Br) (fun e=>Bu hS.own Br (by decide) e.symm)).trans h.hf,Vi h.cl ho hd,mM (i:=18) (h.sz ok (by omega)) rfl (fun j hj ApC hl=>?_),?_,?_,?_,?_,?_⟩
 ·rw [h.sl j hj hl];exact yc hj (fun _=>rfl) (fun _=>rfl) (by omega)
 all_goals simp only [Iv (show 18<l.size by omega),getD_set_ne false (show (18:Nat)≠15 by omega),getD_set_ne false (show (18:Nat)≠17 by omega),getD_set_ne false (show (18:Nat)≠20 by omega)]
 ·intro e;rw [FH]at e;cases e
 ·intro _ e;cases e
 ·intro _ e;cases e
 ·intro _ _;exact⟨k1,⟨_,_,_,rfl⟩,k2⟩
 ·intro e;rw [FI]at e;cases e
theorem Ci.store(h:Ci c zr Cx E' F' Cu Bp l a w)(ok:c.Ok){o:Oper}(ho:c.ops[20]?=some o)(hd:∀e∈o.after,Region.binds .any e=true→l.getD e.on false=true)(hu:l.getD 20 false=false)(hsz:l.size=21)(Hm:l.getD 18 false=true) :
  Ci c zr Cx E' F' Cu Bp (l.setIfInBounds 20 true) a (w.setCell ⟨c.bM,1,none⟩ E'):=by
 have FH:=h.need ok (i:=18) (j:=15) (by decide) Hm;obtain⟨k1,k2,k3⟩:=h.jpC Hm hu;have Br:=h.hb ok;have hne:c.bh≠c.bM:=Eg Br k1 (by decide);refine⟨h.fr,?_,Vi h.cl ho hd,fun j hj hl=>?_,?_,?_,?_,?_,?_⟩
 ·rw [DX (by show c.bh≠c.bM;exact hne)];exact h.hf
 ·rw [getD_set_ne false (show (20:Nat)≠j by omega)]at hl;exact h.sl j hj hl
 all_goals simp only [Iv (show 20<l.size by omega),getD_set_ne false (show (20:Nat)≠15 by omega),getD_set_ne false (show (20:Nat)≠17 by omega),getD_set_ne false (show (20:Nat)≠18 by omega)]
 ·intro e;rw [FH]at e;cases e
 ·intro _ e;rw [Hm]at e;cases e
 ·intro _ e;rw [Hm]at e;cases e
 ·intro _ e;cases e
 ·intro _;exact k3
end
theorem IO{P:Program}{o:Oper}{a:Act}{w w':World}{v:Value}{K:Act→World→Prop}{Q:Exit→Act→World→Prop}(m:Sem Value)(he:execOp a.eval o=(do pure (.value (←m))))(h:m.run P w=.ok v w')(hk:K (a.put o.dst v) w'):o.wp P a w K Q:=by
 refine Aam (v:=v) (w':=w') ?_ hk;rw [he];simp [h]
theorem J7{P:Program}{o:Oper}{a:Act}{w w':World}{v:Value}{K:Act→World→Prop}{Q:Exit→Act→World→Prop}{t:TypeId}{x:Operand}{D:Option Nat}(p:.load t x=o.op)(d:D=o.dst)(h:(Instr.loadAt t (a.eval x)).run P w=.ok v w')(hk:K (a.put D v) w'):o.wp P a w K Q:=
 IO (Instr.loadAt t (a.eval x)) (by unfold execOp;rw [←p]) h (d▸hk)
theorem Mg{P:Program}{o:Oper}{a:Act}{w w':World}{v:Value}{K:Act→World→Prop}{Q:Exit→Act→World→Prop}{t:TypeId}{x:Operand}{k:Nat}{D:Option Nat}(p:.fieldAddr t x k=o.op)(d:D=o.dst)(h:(Instr.fieldAt t (a.eval x) k).run P w=.ok v w')(hk:K (a.put D v) w'):o.wp P a w K Q:=
 IO (Instr.fieldAt t (a.eval x) k) (by unfold execOp;rw [←p]) h (d▸hk)
theorem Ux{P:Program}{o:Oper}{a:Act}{w:World}{K:Act→World→Prop}{Q:Exit→Act→World→Prop}(x:Operand)(h:o.op=.move x)(hk:K (a.put o.dst (a.eval x)) w):o.wp P a w K Q:=by
 unfold Oper.wp execOp;rw [h];exact hk
end Go.Proofs.YtjalkoacphhgdaaGreatDoor
namespace Go.Proofs.YtjalkoacphhgdaaGreatDoor
open Go.RowKit Kl
theorem AjQ(n:Nat)(hn:n<=200000)(c:Int)(hc:c=(n:Int))(W:World) :
  (Instr.makeSlice 23 (.int .i64 c) (.int .i64 c)).run Tryz.prog W=.ok (.slice (some ⟨W.heap.size,0,none⟩) n n) (W.alloc (.cells (madeCells #[S []] n) 9)):=by
 subst hc;obtain⟨i0,hi,hz0,hz1,hz2⟩:=info_parts Tryz.infoStr;have h:=run_make (P:=Tryz.prog) W 23 9 i0 (S []) Tryz.underlying23 hi hz0 .i64 .i64 n n (by omega) (by omega) (by rw [hz2];omega) (by omega);rw [hz1,Nat.mul_one]at h;simp only [Int.toNat_natCast]at h;exact h
theorem AkY(W:World)(base n:Nat)(hb:base<=W.heap.size)(hn:n<=200000) :
  (W.alloc (.cells (madeCells #[S []] n) 9)).ownsRow base 9 1 (.slice (some ⟨W.heap.size,0,none⟩) n n) n ((List.replicate n []).map S):=by
 have h:=World.ownsRow_lit (w:=W) (base:=base) (e:=9) (size:=1) (madeCells #[S []] n) n hb (by unfold maxLen;omega) (by rw [size_madeCells];omega);rw [toList_madeCells_one]at h
 simpa using h
theorem AnN{w:World}{bR o:Nat}{t:TypeId}{v:Value}(hb:w.heap[bR]?=some (.cells #[.slice none 0 0,.slice none 0 0,.slice none 0 0] t))(h:w.cell? ⟨bR,o,none⟩=some v):v=.slice none 0 0:=by
 unfold World.cell? at h;simp only [hb]at h
 match o,h with
 | 0,h=>simpa using h.symm
 | 1,h=>simpa using h.symm
 | 2,h=>simpa using h.symm
 | o+3,h=>simp at h
theorem Ad.far{w w':World}{A:Option Addr}{cs:List Value}{bR:Nat}{t:TypeId}(h:Ad w A cs)(hb:w.heap[bR]?=some (.cells #[.slice none 0 0,.slice none 0 0,.slice none 0 0] t))
  (hne:∀x∈cs,x≠.slice none 0 0) (Lr:∀q,q≠bR→w'.heap[q]?=w.heap[q]?):Ad w' A cs:=
 ⟨fun h0=>by
  obtain⟨b,o,e,hc⟩:=h.ad h0;refine⟨b,o,e,fun j hj=>?_⟩;have dZ:=hc j hj
  have Br:b≠bR:=by rintro rfl;exact hne _ (AqL hj) (AnN hb dZ)
  unfold World.cell? at dZ ⊢;simp only [Lr b Br]
  exact dZ⟩
theorem MapAt.far{w w':World}{n:Nat}{units:List Bs}{A B F:Option Addr}{c d g:Nat}{m:Cw}{An:List Bs}{bR:Nat}{t:TypeId}(h:MapAt w n units A B F c d g m An)
  (hb:w.heap[bR]?=some (.cells #[.slice none 0 0,.slice none 0 0,.slice none 0 0] t)) (Lr:∀q,q≠bR→w'.heap[q]?=w.heap[q]?):MapAt w' n units A B F c d g m An:=by
 refine⟨h.cap,h.pts.far hb ?_ Lr,h.eds.far hb ?_ Lr,h.fac.far hb ?_ Lr,h.nf,h.le,h.sheet,h.txt⟩
 ·intro x hx;obtain⟨y,-,hx⟩:=List.mem_flatMap.1 hx;simp only [List.mem_cons,AqV,or_false]at hx
  rcases hx with rfl|rfl<;>exact fun e=>by simp [S]at e
 ·intro x hx;obtain⟨y,-,hx⟩:=List.mem_flatMap.1 hx;simp only [List.mem_cons,AqV,or_false]at hx
  rcases hx with rfl|rfl|rfl|rfl<;>exact fun e=>by simp at e
 ·intro x hx;obtain⟨y,-,rfl⟩:=List.mem_map.1 hx;exact fun e=>by simp [S]at e
theorem MapAt.ext{w w':World}{n:Nat}{units:List Bs}{A B F:Option Addr}{c d g:Nat}{m:Cw}{An:List Bs}(h:MapAt w n units A B F c d g m An)(hx:Aa w w'):MapAt w' n units A B F c d g m An:=
 ⟨h.cap,h.pts.ext hx,h.eds.ext hx,h.fac.ext hx,h.nf,h.le,h.sheet,h.txt⟩
end Go.Proofs.YtjalkoacphhgdaaGreatDoor
