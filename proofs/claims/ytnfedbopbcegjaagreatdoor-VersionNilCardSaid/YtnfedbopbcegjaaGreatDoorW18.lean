/- W18. -/
import Derived.Lib.SlicesCompact
import Derived.Lib.SliceRun
import Derived.Test.YtnfedbopbcegjaaGreatDoorW17
set_option maxRecDepth 100000
set_option maxHeartbeats 4000000
namespace Go.Proofs.YtnfedbopbcegjaaGreatDoor
open Go.RowKit Kl Go.Lib
instance instInhPt:Inhabited Pt:=⟨⟨0,0⟩⟩
instance instDecPt:DecidableEq Pt:=fun a b=>if h:Ah a b=true then isTrue (BN.1 h)else isFalse fun e=>h (BN.2 e)
end Go.Proofs.YtnfedbopbcegjaaGreatDoor
namespace Go.Proofs.YtnfedbopbcegjaaGreatDoor
section
open Go.RowKit Kl
theorem Adh{g:FuncId}{cb:Array Value}(eg:∀args w,(callFunc g args).run Tryz.prog w=.ok (.enter g args) w)(p:Au→Bool)(l:List Au)(A:Option Addr)(c:Nat)(w:World)(hr:Ad w A (AA l))(hc:l.length<=c)(hcm:c<=9223372036854775807)
  (hp:∀e∈l,∀W,Aa w W→Calls Tryz.prog g (#[KZ e]++cb) W (BE (p e) W)) :
  Calls Tryz.prog 164 #[.slice A l.length c,.func (.func g) #[] cb] w (AB (ER p l) w):=by
 obtain⟨r,hr0⟩:=AjJ (ER p l);rw [←hr0];have HR:=AjK hr0;have HP:=AjK hp;clear hr0 hp;go_enter Tryz.func164,Tryz.ntmps164;go_wp2
 go_loopw [8] (fun i wr=>∃j:Nat,i=.int .i64 (j:Nat)/\j<=l.length/\(∀q∈l.take j,p q=false)/\Aa w wr) (fun i _=>l.length-(intOf i).toNat)
 case atStart=>exact⟨0,rfl,by omega,by simp,Aa.refl _⟩
 case round=>
  obtain⟨j,rfl,hj,Ai,Ae⟩:=hrel;have HO:=AjK Ai;clear Ai;by_cases hlt:j<l.length
  ·obtain⟨b,o,rfl,hg1,hg2,hg3,hg4⟩:=OC (hr.ext Ae) hlt;obtain⟨q,hq⟩:=AjJ (l[j]);have bf:=HP.out l[j] (AjO hlt) wr Ae;rw [←hq]at hg1 hg2 hg3 hg4 bf;unfold KZ at bf;have hj0:(0:Int)<=(j:Int):=(by omega);have Ay:(j:Int)<(l.length:Int):=(by omega);have HQ:=AjK hq;clear hq
   cases e0:p q
   ·have HE:=AjK e0;rw [e0]at bf;clear e0;(go_wp2_with fail);(with_reducible refine bf.mono ?_);rintro e w2 ⟨rfl,hx2⟩;go_wp2;go_roundw
    case rel=>
     refine⟨j+1,by go_num,hlt,?_,Ae.trans hx2⟩;intro x hx;rw [AjQ hlt,←HQ.out]at hx
     rcases List.mem_append.1 hx with h|h
     ·exact HO.out x h
     ·simp only [AjZ]at h;rw [h];exact HE.out
    case measure=>simp [intOf];omega
   ·have Cu:r=(j:Int):=(by rw [HR.out];exact Zn hlt HO.out (by rw [←HQ.out];exact e0));rw [e0]at bf;clear e0;subst Cu;(go_wp2_with fail);(with_reducible refine bf.mono ?_);rintro e w2 ⟨rfl,hx2⟩;go_wp2;go_ret;exact⟨rfl,Ae.trans hx2⟩
  ·have hle:(l.length:Int)<=(j:Int):=(by omega);have Cu:r = -1:=(by rw [HR.out];exact Zo (by have:=HO.out;rw [AjV (by omega)]at this;exact this));subst Cu;go_wp2;go_ret;exact⟨rfl,Ae⟩
theorem pp{g:FuncId}{cb:Array Value}(eg:∀args w,(callFunc g args).run Tryz.prog w=.ok (.enter g args) w)(p:Au→Bool)(l:List Au)(A:Option Addr)(c:Nat)(w:World)(hr:Ad w A (AA l))(hc:l.length<=c)(hcm:c<=9223372036854775807)
  (hp:∀e∈l,∀W,Aa w W→Calls Tryz.prog g (#[KZ e]++cb) W (BE (p e) W)) :
  Calls Tryz.prog 145 #[.slice A l.length c,.func (.func g) #[] cb] w (BE (l.any p) w):=by
 have ix:=Adh eg p l A c w hr hc hcm hp;have ha:=Zm p l;obtain⟨r,hr0⟩:=AjJ (l.any p);rw [←hr0]at ha ⊢;generalize ER p l=z at *;clear hr hr0 hp eg;go_enter Tryz.func145,Tryz.ntmps145;(go_wp2_with fail);(with_reducible refine ix.mono ?_);rintro e w1 ⟨rfl,hx⟩;go_wp2;go_ret;exact⟨by rw [←ha];rfl,hx⟩
end
section
open Go.RowKit Kl
def Ri(t:Bs×Bs):Value:=.agg #[S t.1,S t.2]
theorem xQ{w:World}{A:Option Addr}{l:List (Bs×Bs)}(hr:Ad w A (flat l)){j:Nat}(h:j<l.length):∃b o,A=some ⟨b,o,none⟩/\w.cell? ⟨b,o+j*2,none⟩=some (S l[j].1)/\w.cell? ⟨b,o+j*2+1,none⟩=some (S l[j].2):=by
 obtain⟨b,o,e,hcs⟩:=hr.ad (by rw [flat_length];omega);obtain⟨f1,f2⟩:=flat_get l j h;have hg1:=hcs (j*2) (by rw [flat_length];omega);have hg2:=hcs (j*2+1) (by rw [flat_length];omega);rw [AjS (by rw [flat_length];omega),AjR]at f1 f2;rw [f1]at hg1;rw [f2,←Nat.add_assoc]at hg2;exact⟨b,o,e,hg1,hg2⟩
theorem Adn{g:FuncId}{cb:Array Value}(eg:∀args w,(callFunc g args).run Tryz.prog w=.ok (.enter g args) w)(p:(Bs×Bs)→Bool)(l:List (Bs×Bs))(A:Option Addr)(c:Nat)(w:World)(hr:Ad w A (flat l))(hc:l.length<=c)(hcm:c<=9223372036854775807)
  (hp:∀e∈l,∀W,Aa w W→Calls Tryz.prog g (#[Ri e]++cb) W (BE (p e) W)) :
  Calls Tryz.prog 149 #[.slice A l.length c,.func (.func g) #[] cb] w (AB (ER p l) w):=by
 obtain⟨r,hr0⟩:=AjJ (ER p l);rw [←hr0];have HR:=AjK hr0;have HP:=AjK hp;clear hr0 hp;go_enter Tryz.func149,Tryz.ntmps149;go_wp2
 go_loopw [8] (fun i wr=>∃j:Nat,i=.int .i64 (j:Nat)/\j<=l.length/\(∀q∈l.take j,p q=false)/\Aa w wr) (fun i _=>l.length-(intOf i).toNat)
 case atStart=>exact⟨0,rfl,by omega,by simp,Aa.refl _⟩
 case round=>
  obtain⟨j,rfl,hj,Ai,Ae⟩:=hrel;have HO:=AjK Ai;clear Ai;by_cases hlt:j<l.length
  ·obtain⟨b,o,rfl,hg1,hg2⟩:=xQ (hr.ext Ae) hlt;obtain⟨q,hq⟩:=AjJ (l[j]);have bf:=HP.out l[j] (AjO hlt) wr Ae;rw [←hq]at hg1 hg2 bf;unfold Ri at bf;have hj0:(0:Int)<=(j:Int):=(by omega);have Ay:(j:Int)<(l.length:Int):=(by omega);have HQ:=AjK hq;clear hq
   cases e0:p q
   ·have HE:=AjK e0;rw [e0]at bf;clear e0;(go_wp2_with fail);(with_reducible refine bf.mono ?_);rintro e w2 ⟨rfl,hx2⟩;go_wp2;go_roundw
    case rel=>
     refine⟨j+1,by go_num,hlt,?_,Ae.trans hx2⟩;intro x hx;rw [AjQ hlt,←HQ.out]at hx
     rcases List.mem_append.1 hx with h|h
     ·exact HO.out x h
     ·simp only [AjZ]at h;rw [h];exact HE.out
    case measure=>simp [intOf];omega
   ·have Cu:r=(j:Int):=(by rw [HR.out];exact Zn hlt HO.out (by rw [←HQ.out];exact e0));rw [e0]at bf;clear e0;subst Cu;(go_wp2_with fail);(with_reducible refine bf.mono ?_);rintro e w2 ⟨rfl,hx2⟩;go_wp2;go_ret;exact⟨rfl,Ae.trans hx2⟩
  ·have hle:(l.length:Int)<=(j:Int):=(by omega);have Cu:r = -1:=(by rw [HR.out];exact Zo (by have:=HO.out;rw [AjV (by omega)]at this;exact this));subst Cu;go_wp2;go_ret;exact⟨rfl,Ae⟩
theorem pu{g:FuncId}{cb:Array Value}(eg:∀args w,(callFunc g args).run Tryz.prog w=.ok (.enter g args) w)(p:(Bs×Bs)→Bool)(l:List (Bs×Bs))(A:Option Addr)(c:Nat)(w:World)(hr:Ad w A (flat l))(hc:l.length<=c)(hcm:c<=9223372036854775807)
  (hp:∀e∈l,∀W,Aa w W→Calls Tryz.prog g (#[Ri e]++cb) W (BE (p e) W)) :
  Calls Tryz.prog 84 #[.slice A l.length c,.func (.func g) #[] cb] w (BE (l.any p) w):=by
 have ix:=Adn eg p l A c w hr hc hcm hp;have ha:=Zm p l;obtain⟨r,hr0⟩:=AjJ (l.any p);rw [←hr0]at ha ⊢;generalize ER p l=z at *;clear hr hr0 hp eg;go_enter Tryz.func84,Tryz.ntmps84;(go_wp2_with fail);(with_reducible refine ix.mono ?_);rintro e w1 ⟨rfl,hx⟩;go_wp2;go_ret;exact⟨by rw [←ha];rfl,hx⟩
theorem Aac:∀args w,(callFunc 154 args).run Tryz.prog w=.ok (.enter 154 args) w:=enters_of Tryz.func154 (by kernel_rfl) rfl
def IK(t:Bs×Bs):Bool:=!(t.1 == []&&t.2 == [])
theorem uw(t:Bs×Bs)(w:World):Calls Tryz.prog 154 #[Ri t] w (BE (IK t) w):=by
 have hE:=(Aa.refl w).alloc (.cells #[S t.1,S t.2] 28);have hq:=AjM w (.cells #[S t.1,S t.2] 28);obtain⟨x,y⟩:=t;unfold Ri IK
 dsimp only at hE hq ⊢
 go_enter Tryz.func154,Tryz.ntmps154
 go_upto_region 1 with fail
 have q0:=Ab (o:=0) hq rfl;have q1:=Ab (o:=1) hq rfl
 cases x with
 | nil=>
  cases y with
  | nil=>
   go_wp2;go_ret;exact⟨rfl,hE⟩
  | cons b y=>
   go_wp2;go_ret;exact⟨rfl,hE⟩
 | cons a x=>go_wp2;go_ret;exact⟨rfl,hE⟩
end
section
open Go.RowKit Kl
theorem FV{w:World}{B B':Nat}{e:TypeId}{size:Nat}{v:Value}{n:Nat}{xs:List Value}(h:w.ownsRow B e size v n xs)(hB:B'<=B):w.ownsRow B' e size v n xs:=by
 refine⟨h.1,?_⟩
 rcases h.2 with h'|⟨g,cap,cur,h1,h2,h3⟩
 ·exact .inl h'
 ·exact .inr ⟨g,cap,cur,h1,AjX hB h2,h3⟩
theorem MU{a b:World}(_:Aa a b):∃x,x=b:=⟨b,rfl⟩
theorem Ng{o:Oper}{a:Act}{K:Act→World→Prop}{Q:Exit→Act→World→Prop}(s x:Operand)(t:TypeId)(ho:o.op=.call {callee:=.builtin .append,args:=#[s,x],argTypes:=#[t,t]})
  (e:TypeId) (i:TypeInfo) (z:Value) (size bytes m:Nat) (ht:Tryz.prog.underlying t=some (.slice e)) (hi:Tryz.prog.info? e=some i) (hz:i.zero=some z)
  (hsize:i.size=size) (hby:i.bytes=bytes) (hzs:z.cells.size=size) (hsz:0<size) (TC:bytes<=512) (hm:m<=10)
  (wN:World) (base:Nat) (v:Value) (n:Nat) (xs:List Value) (hs:a.eval s=v) (hown:wN.ownsRow base e size v n xs) (hn:n<200000)
  (g:Nat) (cs:Array Value) (hb:wN.heap[g]?=some (.cells cs e)) (hcs:cs.size=m*size) (h1:∀u∈cs.toList,u.oneCell'=true)
  (hx:a.eval x=.slice (some ⟨g,0,none⟩) m m) (hbase:base<=wN.heap.size)
  (h:∀v' w',w'.ownsRow base e size v' (n+m) (xs++cs.toList)→(∀w0,Aa w0 wN→w0.heap.size<=base→Aa w0 w')→wN.grownBy w' v.ownBlock→K (a.put o.dst v') w') :
  o.wp Tryz.prog a wN K Q:=by
 have XO:(n+m)*bytes<=140737488355328:=AjX (Nat.mul_le_mul (show n+m<=200010 by omega) TC) (by omega);have H8:n+m<=maxLen:=(by unfold maxLen;omega);refine wp_append_own _ s x t ho base e i z size bytes ht hi hz hsize hby hzs hsz v n xs hs hown ⟨g,0,none⟩ m m cs.toList hx ?_ ?_ h1 H8 XO hbase ?_
 ·simp [hcs]
 ·intro j u hu;rw [Addr.add_lit,Nat.zero_add];refine Ab hb ?_;rw [←Array.getElem?_toList];exact hu
 ·intro v' w' h2 h3 _;refine h v' w' h2 (fun w0 he BH=>?_) h3
  exact he.grown h3 fun k hk=>by
   rcases hown.2 with⟨rfl,_⟩|⟨g,cap,cur,rfl,hb',_⟩
   ·cases hk
   ·simp only [Value.ownBlock,AjR]at hk;omega
theorem Tryz.infoHf:(Tryz.prog.info? 145).map (fun i=>(i.zero,i.size,i.bytes))=some (some (.agg #[S [],S [],S [],S [],.int .i64 0]),5,72):=by kernel_rfl
theorem Tryz.infoPc:(Tryz.prog.info? 148).map (fun i=>(i.zero,i.size,i.bytes))=some (some (.agg #[.slice none 0 0,S [],.slice none 0 0]),3,64):=by kernel_rfl
theorem Tryz.infoEd:(Tryz.prog.info? 119).map (fun i=>(i.zero,i.size,i.bytes))=some (some (.agg #[.int .i64 0,.int .i64 0,.int .i64 0,.int .i64 0]),4,32):=by kernel_rfl
section
variable {ops : Array Oper} {rest : List Oper} {o : Oper} {a : Act} {K : Act → World → Prop} {Q : Exit → Act → World → Prop}
theorem eu(s x:Operand)(ho:o.op=.call {callee:=.builtin .append,args:=#[s,x],argTypes:=#[142,142]})
  (wN:World) (base:Nat) (v:Value) (n:Nat) (l d:List Hf) (hs:a.eval s=v) (hown:wN.ownsRow base 145 5 v n (AO l)) (hn:n<200000) (hd:d.length<=10)
  (g m:Nat) (hm:d.length=m) (hb:wN.heap[g]?=some (.cells (AO d).toArray 145)) (hx:a.eval x=.slice (some ⟨g,0,none⟩) m m) (hbase:base<=wN.heap.size)
  (h:∀v' w',w'.ownsRow base 145 5 v' (n+m) (AO (l++d))→(∀w0,Aa w0 wN→w0.heap.size<=base→Aa w0 w')→wN.grownBy w' v.ownBlock→K (a.put o.dst v') w') :
  o.wp Tryz.prog a wN K Q:=by
 subst hm;obtain⟨i0,hi,hz0,hz1,hz2⟩:=info_parts Tryz.infoHf;refine Ng s x 142 ho 145 i0 _ 5 72 d.length Tryz.underlying142 hi hz0 hz1 hz2 rfl (by omega) (by omega) hd wN base v n _ hs hown hn g _ hb (by simp [nS]) ?_ hx hbase ?_
 ·intro u hu;simp only [AO,List.mem_flatMap,List.mem_cons,AjY,or_false]at hu;obtain⟨y,_,hu⟩:=hu
  rcases hu with rfl|rfl|rfl|rfl|rfl<;>rfl
 ·intro v' w' h1 h2 h3;refine h v' w' ?_ h2 h3;have:AO (l++d)=AO l++(AO d).toArray.toList:=(by simp [AO]);rw [this];exact h1
theorem VQ(hgd:o.guard=none)(s x:Operand)(ho:o.op=.call {callee:=.builtin .append,args:=#[s,x],argTypes:=#[142,142]})
  (wN:World) (base:Nat) (v:Value) (n:Nat) (l d:List Hf) (hs:a.eval s=v) (hown:wN.ownsRow base 145 5 v n (AO l)) (hn:n<200000) (hd:d.length<=10)
  (g m:Nat) (hm:d.length=m) (hb:wN.heap[g]?=some (.cells (AO d).toArray 145)) (hx:a.eval x=.slice (some ⟨g,0,none⟩) m m) (hbase:base<=wN.heap.size)
  (h:∀v' w',w'.ownsRow base 145 5 v' (n+m) (AO (l++d))→(∀w0,Aa w0 wN→w0.heap.size<=base→Aa w0 w')→wN.grownBy w' v.ownBlock→wpList Tryz.prog ops Q rest (a.put o.dst v') w') :
  wpList Tryz.prog ops Q (o::rest) a wN:=
 wpList_plain hgd fun _ hK=>eu s x ho wN base v n l d hs hown hn hd g m hm hb hx hbase fun v' w' h1 h2 h3=>hK _ _ (h v' w' h1 h2 h3)
theorem zR{E:Prop}(hgd:o.guard=none)(s x:Operand)(ho:o.op=.call {callee:=.builtin .append,args:=#[s,x],argTypes:=#[142,142]})
  (wN:World) (base:Nat) (v:Value) (n:Nat) (l d:List Hf) (hs:a.eval s=v) (hown:wN.ownsRow base 145 5 v n (AO l)) (hn:n<200000) (hd:d.length<=10)
  (g m:Nat) (hm:d.length=m) (hb:wN.heap[g]?=some (.cells (AO d).toArray 145)) (hx:a.eval x=.slice (some ⟨g,0,none⟩) m m) (hbase:base<=wN.heap.size)
  (h:∀v' w',w'.ownsRow base 145 5 v' (n+m) (AO (l++d))→(∀w0,Aa w0 wN→w0.heap.size<=base→Aa w0 w')→wN.grownBy w' v.ownBlock→K (a.put o.dst v') w') :
  if Region.wanted o (yielded ops a.tmps)=true then Oper.wp Tryz.prog o a wN K Q else E:=by
 have hw:Region.wanted o (yielded ops a.tmps)=true:=(by simp [Region.wanted,hgd]);rw [if_pos hw];exact eu s x ho wN base v n l d hs hown hn hd g m hm hb hx hbase h
end
end
end Go.Proofs.YtnfedbopbcegjaaGreatDoor
