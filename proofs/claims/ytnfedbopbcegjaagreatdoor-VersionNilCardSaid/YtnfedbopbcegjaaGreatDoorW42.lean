/- W42. -/
import Derived.Test.YtnfedbopbcegjaaGreatDoorW41
namespace Go.Proofs.YtnfedbopbcegjaaGreatDoor
open Go.RowKit Kl
section
variable {ops : Array Oper} {rest : List Oper} {o : Oper} {a : Act} {Q : Exit → Act → World → Prop}
theorem qg(hgd:o.guard=none)(s x:Operand)(ho:o.op=.call {callee:=.builtin .append,args:=#[s,x],argTypes:=#[51,51]})
  (wN:World) (base:Nat) (v:Value) (l:List Int) (hs:a.eval s=v) (hown:wN.ownsRow base 3 1 v l.length (zs l)) (hn:l.length<200000) (d:Int)
  (g:Nat) (hb:wN.heap[g]?=some (.cells #[.int .i64 d] 3)) (hx:a.eval x=.slice (some ⟨g,0,none⟩) 1 1) (hbase:base<=wN.heap.size)
  (h:∀v' w',w'.ownsRow base 3 1 v' (l.length+1) (zs (l ++ [d]))→wN.grownBy w' v.ownBlock→wpList Tryz.prog ops Q rest (a.put o.dst v') w') :
  wpList Tryz.prog ops Q (o::rest) a wN:=by
 obtain⟨i0,hi,hz0,hz1,hz2⟩:=info_parts Tryz.infoI;refine wpList_plain hgd fun K hK=>Vh s x 51 ho 3 i0 _ 1 8 Tryz.underlying51 hi hz0 hz1 hz2 rfl (by omega) (by omega) wN base v l.length _ hs hown hn g _ hb rfl ?_ hx hbase ?_
 ·intro u hu;simp only [List.mem_cons,AjY,or_false]at hu;rw [hu];rfl
 ·intro v' w' h1 _ h3;refine hK _ _ (h v' w' ?_ h3);have:zs (l ++ [d])=zs l++#[Value.int .i64 d].toList:=(by simp [zs]);rw [this];exact h1
end
end Go.Proofs.YtnfedbopbcegjaaGreatDoor
