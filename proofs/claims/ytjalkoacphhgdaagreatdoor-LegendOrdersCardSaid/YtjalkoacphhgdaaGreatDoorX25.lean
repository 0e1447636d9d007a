/- X25: Q5 QA. -/
import Derived.Test.YtjalkoacphhgdaaGreatDoorX24
namespace Go.Proofs.YtjalkoacphhgdaaGreatDoor
open Go.RowKit Kl
def EY(p:Pt):Prop:=∃u,Rz u/\p=gp u
theorem EY.on{p:Pt}(h:EY p):Ee p:=by obtain⟨u,hu,rfl⟩:=h;exact hu.on
theorem EY.sz{p:Pt}(h:EY p):Ar 20 p:=h.on.sz (by omega)
structure Hf where
 a:Pt
 b:Pt
 l:Int
def aa(h:Hf):Value:=.agg #[S (R h.a.x),S (R h.a.y),S (R h.b.x),S (R h.b.y),.int .i64 h.l]
def zJ(l:List Hf):List Value:=l.flatMap fun h=>[S (R h.a.x),S (R h.a.y),S (R h.b.x),S (R h.b.y),.int .i64 h.l]
structure Zi(w:World)(b o:Nat)(h:Hf):Prop where
 c0:w.cell? ⟨b,o,none⟩=some (S (R h.a.x))
 c1:w.cell? ⟨b,o+1,none⟩=some (S (R h.a.y))
 c2:w.cell? ⟨b,o+2,none⟩=some (S (R h.b.x))
 c3:w.cell? ⟨b,o+3,none⟩=some (S (R h.b.y))
 c4:w.cell? ⟨b,o+4,none⟩=some (.int .i64 h.l)
theorem Zi.ext{w w':World}{b o:Nat}{h:Hf}(k:Zi w b o h)(hx:Aa w w'):Zi w' b o h:=⟨hx.cellS k.c0,hx.cellS k.c1,hx.cellS k.c2,hx.cellS k.c3,hx.cellS k.c4⟩
def lj(h x:Hf):Bool:=Ap x.a h.b&&Ap x.b h.a
def RH(l:List Hf)(h:Hf):Int:=match l.find? (lj h)with|some x=>x.l|none=>-1
theorem Ac9(l:List Hf)(h:Hf):RH l h = -1∨∃x∈l,RH l h=x.l:=by
 unfold RH
 cases hf:l.find? (lj h)with
 | none=>exact .inl rfl
 | some x=>exact .inr ⟨x,List.mem_of_find?_eq_some hf,rfl⟩
theorem kV{w:World}{B B':Nat}{e:TypeId}{size:Nat}{v:Value}{n:Nat}{xs:List Value}(h:w.ownsRow B e size v n xs)(hB:B'<=B):w.ownsRow B' e size v n xs:=by
 refine⟨h.1,?_⟩
 rcases h.2 with h'|⟨g,cap,cur,h1,h2,h3⟩
 ·exact .inl h'
 ·exact .inr ⟨g,cap,cur,h1,AqU hB h2,h3⟩
theorem XF{a b:World}(_:Aa a b):∃x,x=b:=⟨b,rfl⟩
theorem nC{o:Oper}{a:Act}{K:Act→World→Prop}{Q:Exit→Act→World→Prop}(s x:Operand)(t:TypeId)(ho:o.op=.call {callee:=.builtin .append,args:=#[s,x],argTypes:=#[t,t]})
  (e:TypeId) (i:TypeInfo) (z:Value) (size bytes m:Nat) (ht:Tryz.prog.underlying t=some (.slice e)) (hi:Tryz.prog.info? e=some i) (hz:i.zero=some z)
  (hsize:i.size=size) (hby:i.bytes=bytes) (hzs:z.cells.size=size) (hsz:0<size) (dP:bytes<=512) (hm:m<=10)
  (wN:World) (base:Nat) (v:Value) (n:Nat) (xs:List Value) (hs:a.eval s=v) (hown:wN.ownsRow base e size v n xs) (hn:n<200000)
  (g:Nat) (cs:Array Value) (hb:wN.heap[g]?=some (.cells cs e)) (hcs:cs.size=m*size) (h1:∀u∈cs.toList,u.oneCell'=true)
  (hx:a.eval x=.slice (some ⟨g,0,none⟩) m m) (hbase:base<=wN.heap.size)
  (h:∀v' w',w'.ownsRow base e size v' (n+m) (xs++cs.toList)→(∀w0,Aa w0 wN→w0.heap.size<=base→Aa w0 w')→wN.grownBy w' v.ownBlock→K (a.put o.dst v') w') :
  o.wp Tryz.prog a wN K Q:=by
 have SN:(n+m)*bytes<=140737488355328:=AqU (Nat.mul_le_mul (show n+m<=200010 by omega) dP) (by omega);have CJ:n+m<=maxLen:=(by unfold maxLen;omega);refine wp_append_own _ s x t ho base e i z size bytes ht hi hz hsize hby hzs hsz v n xs hs hown ⟨g,0,none⟩ m m cs.toList hx ?_ ?_ h1 CJ SN hbase ?_
 ·simp [hcs]
 ·intro j u hu;rw [Addr.add_lit,Nat.zero_add];refine Ab hb ?_;rw [←Array.getElem?_toList];exact hu
 ·intro v' w' h2 h3 _;refine h v' w' h2 (fun w0 he Br=>?_) h3
  exact he.grown h3 fun k hk=>by
   rcases hown.2 with⟨rfl,_⟩|⟨g,cap,cur,rfl,hb',_⟩
   ·cases hk
   ·simp only [Value.ownBlock,AqO]at hk;omega
theorem Tryz.infoPc:(Tryz.prog.info? 95).map (fun i=>(i.zero,i.size,i.bytes))=some (some (.agg #[.slice none 0 0,S [],.slice none 0 0]),3,64):=by kernel_rfl
theorem Tryz.infoEd:(Tryz.prog.info? 126).map (fun i=>(i.zero,i.size,i.bytes))=some (some (.agg #[.int .i64 0,.int .i64 0,.int .i64 0,.int .i64 0]),4,32):=by kernel_rfl
section
variable {ops : Array Oper} {rest : List Oper} {o : Oper} {a : Act} {K : Act → World → Prop} {Q : Exit → Act → World → Prop}
end
end Go.Proofs.YtjalkoacphhgdaaGreatDoor
