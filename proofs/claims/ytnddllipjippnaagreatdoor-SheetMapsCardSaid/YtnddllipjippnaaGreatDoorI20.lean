/- I20: ShQA ShQ7X ShD5 ShD7. -/
import Derived.Test.YtnddllipjippnaaGreatDoorI19
set_option maxRecDepth 100000
set_option maxHeartbeats 8000000
namespace Go.Proofs.YtnddllipjippnaaGreatDoor
open Go.RowKit Kl
theorem Ef{w:World}{B B':Nat}{e:TypeId}{size:Nat}{v:Value}{n:Nat}{xs:List Value}(h:w.ownsRow B e size v n xs)(hB:B'<=B):w.ownsRow B' e size v n xs:=by
 refine⟨h.1,?_⟩
 rcases h.2 with h'|⟨g,cap,cur,h1,h2,h3⟩
 ·exact .inl h'
 ·exact .inr ⟨g,cap,cur,h1,AsA hB h2,h3⟩
theorem Li{a b:World}(_:Ab a b):∃x,x=b:=⟨b,rfl⟩
theorem VZ{o:Oper}{a:Act}{K:Act→World→Prop}{Q:Exit→Act→World→Prop}(s x:Operand)(t:TypeId)(ho:o.op=.call {callee:=.builtin .append,args:=#[s,x],argTypes:=#[t,t]})
  (e:TypeId) (i:TypeInfo) (z:Value) (size bytes m:Nat) (ht:Tryz.prog.underlying t=some (.slice e)) (hi:Tryz.prog.info? e=some i) (hz:i.zero=some z)
  (hsize:i.size=size) (hby:i.bytes=bytes) (hzs:z.cells.size=size) (hsz:0<size) (iW:bytes<=512) (hm:m<=10)
  (wN:World) (base:Nat) (v:Value) (n:Nat) (xs:List Value) (hs:a.eval s=v) (hown:wN.ownsRow base e size v n xs) (hn:n<200000)
  (g:Nat) (cs:Array Value) (hb:wN.heap[g]?=some (.cells cs e)) (hcs:cs.size=m*size) (h1:∀u∈cs.toList,u.oneCell'=true)
  (hx:a.eval x=.slice (some ⟨g,0,none⟩) m m) (hbase:base<=wN.heap.size)
  (h:∀v' w',w'.ownsRow base e size v' (n+m) (xs++cs.toList)→(∀w0,Ab w0 wN→w0.heap.size<=base→Ab w0 w')→wN.grownBy w' v.ownBlock→K (a.put o.dst v') w') :
  o.wp Tryz.prog a wN K Q:=by
 have U0:(n+m)*bytes<=140737488355328:=AsA (Nat.mul_le_mul (show n+m<=200010 by omega) iW) (by omega);have FT:n+m<=maxLen:=(by unfold maxLen;omega);refine wp_append_own _ s x t ho base e i z size bytes ht hi hz hsize hby hzs hsz v n xs hs hown ⟨g,0,none⟩ m m cs.toList hx ?_ ?_ h1 FT U0 hbase ?_
 ·simp [hcs]
 ·intro j u hu;rw [Addr.add_lit,Nat.zero_add];refine Aa hb ?_;rw [←Array.getElem?_toList];exact hu
 ·intro v' w' h2 h3 _;refine h v' w' h2 (fun w0 he AZ=>?_) h3
  exact he.grown h3 fun k hk=>by
   rcases hown.2 with⟨rfl,_⟩|⟨g,cap,cur,rfl,hb',_⟩
   ·cases hk
   ·simp only [Value.ownBlock,As4]at hk;omega
theorem Tryz.infoHf:(Tryz.prog.info? 156).map (fun i=>(i.zero,i.size,i.bytes))=some (some (.agg #[S [],S [],S [],S [],.int .i64 0]),5,72):=by kernel_rfl
theorem Tryz.infoPc:(Tryz.prog.info? 84).map (fun i=>(i.zero,i.size,i.bytes))=some (some (.agg #[.slice none 0 0,S [],.slice none 0 0]),3,64):=by kernel_rfl
theorem Tryz.infoEd:(Tryz.prog.info? 51).map (fun i=>(i.zero,i.size,i.bytes))=some (some (.agg #[.int .i64 0,.int .i64 0,.int .i64 0,.int .i64 0]),4,32):=by kernel_rfl
section
variable {ops : Array Oper} {rest : List Oper} {o : Oper} {a : Act} {K : Act → World → Prop} {Q : Exit → Act → World → Prop}
theorem AcL(s x:Operand)(ho:o.op=.call {callee:=.builtin .append,args:=#[s,x],argTypes:=#[153,153]})
  (wN:World) (base:Nat) (v:Value) (n:Nat) (l d:List Hf) (hs:a.eval s=v) (hown:wN.ownsRow base 156 5 v n (Bn l)) (hn:n<200000) (hd:d.length<=10)
  (g m:Nat) (hm:d.length=m) (hb:wN.heap[g]?=some (.cells (Bn d).toArray 156)) (hx:a.eval x=.slice (some ⟨g,0,none⟩) m m) (hbase:base<=wN.heap.size)
  (h:∀v' w',w'.ownsRow base 156 5 v' (n+m) (Bn (l++d))→(∀w0,Ab w0 wN→w0.heap.size<=base→Ab w0 w')→wN.grownBy w' v.ownBlock→K (a.put o.dst v') w') :
  o.wp Tryz.prog a wN K Q:=by
 subst hm;obtain⟨i0,hi,hz0,hz1,hz2⟩:=info_parts Tryz.infoHf;refine VZ s x 153 ho 156 i0 _ 5 72 d.length Tryz.underlying153 hi hz0 hz1 hz2 rfl (by omega) (by omega) hd wN base v n _ hs hown hn g _ hb (by simp [j8]) ?_ hx hbase ?_
 ·intro u hu;simp only [Bn,List.mem_flatMap,List.mem_cons,AsB,or_false]at hu;obtain⟨y,_,hu⟩:=hu
  rcases hu with rfl|rfl|rfl|rfl|rfl<;>rfl
 ·intro v' w' h1 h2 h3;refine h v' w' ?_ h2 h3;have:Bn (l++d)=Bn l++(Bn d).toArray.toList:=(by simp [Bn]);rw [this];exact h1
theorem dD(hgd:o.guard=none)(s x:Operand)(ho:o.op=.call {callee:=.builtin .append,args:=#[s,x],argTypes:=#[153,153]})
  (wN:World) (base:Nat) (v:Value) (n:Nat) (l d:List Hf) (hs:a.eval s=v) (hown:wN.ownsRow base 156 5 v n (Bn l)) (hn:n<200000) (hd:d.length<=10)
  (g m:Nat) (hm:d.length=m) (hb:wN.heap[g]?=some (.cells (Bn d).toArray 156)) (hx:a.eval x=.slice (some ⟨g,0,none⟩) m m) (hbase:base<=wN.heap.size)
  (h:∀v' w',w'.ownsRow base 156 5 v' (n+m) (Bn (l++d))→(∀w0,Ab w0 wN→w0.heap.size<=base→Ab w0 w')→wN.grownBy w' v.ownBlock→wpList Tryz.prog ops Q rest (a.put o.dst v') w') :
  wpList Tryz.prog ops Q (o::rest) a wN:=
 wpList_plain hgd fun _ hK=>AcL s x ho wN base v n l d hs hown hn hd g m hm hb hx hbase fun v' w' h1 h2 h3=>hK _ _ (h v' w' h1 h2 h3)
theorem Acl{E:Prop}(hgd:o.guard=none)(s x:Operand)(ho:o.op=.call {callee:=.builtin .append,args:=#[s,x],argTypes:=#[153,153]})
  (wN:World) (base:Nat) (v:Value) (n:Nat) (l d:List Hf) (hs:a.eval s=v) (hown:wN.ownsRow base 156 5 v n (Bn l)) (hn:n<200000) (hd:d.length<=10)
  (g m:Nat) (hm:d.length=m) (hb:wN.heap[g]?=some (.cells (Bn d).toArray 156)) (hx:a.eval x=.slice (some ⟨g,0,none⟩) m m) (hbase:base<=wN.heap.size)
  (h:∀v' w',w'.ownsRow base 156 5 v' (n+m) (Bn (l++d))→(∀w0,Ab w0 wN→w0.heap.size<=base→Ab w0 w')→wN.grownBy w' v.ownBlock→K (a.put o.dst v') w') :
  if Region.wanted o (yielded ops a.tmps)=true then Oper.wp Tryz.prog o a wN K Q else E:=by
 have hw:Region.wanted o (yielded ops a.tmps)=true:=(by simp [Region.wanted,hgd]);rw [if_pos hw];exact AcL s x ho wN base v n l d hs hown hn hd g m hm hb hx hbase h
end
structure WN(l:List Hf)(h y:Hf):Prop where
 two:IY l h.b=2
 src:y.a=h.b
 nb:y.b≠h.a
 left:y.l=h.l
 line:Am h.a h.b y.b=0
theorem ptB_nx{p q:Pt}(h:Aq p q=false):p≠q:=fun e=>by rw [Ca.2 e]at h;cases h
theorem Aov{q:Rat}(h:AN q=0):q=0:=by
 unfold AN at h
 grind
theorem AlS(l:List Hf)(hl:tL l)(hlen:l.length<=100000)(i:Nat)(hi:i<l.length)(A:Option Addr)(c:Nat)(w:World)(hw:Aj w)(hr:Ad w A (Bn l))(hc:l.length<=c)(hcm:c<=9223372036854775807) :
  Calls Tryz.prog 143 #[.slice A l.length c,.int .i64 (i:Nat)] w fun e w'=>∃k:Int,e=.returned (.int .i64 k)/\Ab w w'/\(k<0∨∃kk,∃h:kk<l.length,k=(kk:Int)/\WN l l[i] l[kk]):=by
 have pe:=PY;have pn:=Sq;obtain⟨h0,UE⟩:=Asw (l[i]);have hs0:=hl _ (As1 hi);rw [←UE]at hs0;have HH0:=Asx UE;have HL:=Asx hl;rw [←UE];have EW:(0:Int)<=(i:Int):=(by omega);have Ji:(i:Int)<(l.length:Int):=by omega
 have hat:∀wr,Ab w wr→∃b o,A=some ⟨b,o,none⟩/\OH wr b (o+i*5) h0:=fun wr hx=>by obtain⟨b,o,e,h⟩:=ME (hr.ext hx) hi;exact⟨b,o,e,by rw [UE];exact h⟩
 clear hl UE;obtain⟨bA,oA,rfl,-⟩:=hat w (Ab.refl w)
 have hat':∀wr,Ab w wr→OH wr bA (oA+i*5) h0:=fun wr hx=>by obtain⟨b,o,e,h⟩:=hat wr hx;simp only [As4,Addr.mk.injEq,and_true]at e;obtain⟨rfl,rfl⟩:=e;exact h
 clear hat;go_enter Tryz.func143,Tryz.ntmps143
 go_upto_region 3 with fail
 go_loopw [5,6,7] (fun cv nv iv wr=>∃(j:Nat) (nx:Int),iv=.int .i64 (j:Nat)/\cv=.int .i64 ((IY (l.take j) h0.b:Nat):Int)/\nv=.int .i64 nx/\j<=l.length/\Ab w wr/\(nx = -1∨∃kk:Nat,∃hk:kk<l.length,nx=(kk:Int)/\l[kk].a=h0.b/\l[kk].b≠h0.a)) (fun _ _ iv _=>l.length-(intOf iv).toNat)
 case atStart=>exact⟨0,-1,rfl,rfl,rfl,by omega,Ab.refl _,.inl rfl⟩
 case round=>
  obtain⟨j,nx,rfl,rfl,rfl,hj,Ae,DZ⟩:=hrel;have HN:=Asx DZ;have OU:=hat' wr Ae;obtain⟨a0,a1,a2,a3,a4⟩:=OU;have b0:∀q:Ac wr,q.w.cell? ⟨bA,oA+i*5,none⟩=some (S (R h0.a.x)):=Ac.cell a0;have b1:∀q:Ac wr,q.w.cell? ⟨bA,oA+i*5+1,none⟩=some (S (R h0.a.y)):=Ac.cell a1;have b2:∀q:Ac wr,q.w.cell? ⟨bA,oA+i*5+2,none⟩=some (S (R h0.b.x)):=Ac.cell a2;have b3:∀q:Ac wr,q.w.cell? ⟨bA,oA+i*5+3,none⟩=some (S (R h0.b.y)):=Ac.cell a3;have b4:∀q:Ac wr,q.w.cell? ⟨bA,oA+i*5+4,none⟩=some (.int .i64 h0.l):=Ac.cell a4;clear DZ;by_cases hlt:j<l.length
  ·obtain⟨Xb,Zt,e,f0,f1,f2,f3,f4⟩:=ME (hr.ext Ae) hlt;simp only [As4,Addr.mk.injEq,and_true]at e;obtain⟨rfl,rfl⟩:=e;obtain⟨x,hx⟩:=Asw (l[j]);rw [←hx]at f0 f1 f2 f3 f4;have j0:∀q:Ac wr,q.w.cell? ⟨bA,oA+j*5,none⟩=some (S (R x.a.x)):=Ac.cell f0;have j1:∀q:Ac wr,q.w.cell? ⟨bA,oA+j*5+1,none⟩=some (S (R x.a.y)):=Ac.cell f1;have j2:∀q:Ac wr,q.w.cell? ⟨bA,oA+j*5+2,none⟩=some (S (R x.b.x)):=Ac.cell f2;have j3:∀q:Ac wr,q.w.cell? ⟨bA,oA+j*5+3,none⟩=some (S (R x.b.y)):=Ac.cell f3;have hj0:(0:Int)<=(j:Int):=(by omega);have Ay:(j:Int)<(l.length:Int):=by omega
   have BB:IY (l.take (j+1)) h0.b=IY (l.take j) h0.b+if Aq x.a h0.b=true then 1 else 0:=by unfold IY;rw [As3 hlt,List.countP_append,←hx,List.countP_singleton]
   have AiS:IY (l.take j) h0.b<=l.length:=AsA List.countP_le_length (by rw [List.length_take];omega);have hcw:IntKind.wrap .i64 (((IY (l.take j) h0.b:Nat):Int)+1)=((IY (l.take j) h0.b:Nat):Int)+1:=As6 _ (by omega);clear f0 f1 f2 f3 f4 a0 a1 a2 a3 a4;obtain⟨cn,ki⟩:=Asw (IY (l.take j) h0.b);rw [←ki]at BB hcw ⊢;have HC:=Asx BB;have HX:=Asx hx;clear BB ki hx AiS
   cases e0:Aq x.a h0.b
   ·go_upto_region 5 with fail
    refine Bh (by kernel_rfl) (by kernel_rfl) ?_
    repeat (go_big_quiet_step (fail))
    refine wpQuiet_nil ?_;rintro _ ⟨q,rfl⟩;go_wp2;go_roundw
    case rel=>exact⟨j+1,nx,by go_num,by rw [HC.out,e0];rfl,rfl,hlt,Ae.trans q.h,HN.out⟩
    case measure=>simp [intOf];omega
   ·have HE0:=Asx (Ca.1 e0)
    cases e1:Aq x.b h0.a
    ·have HE1:=Asx (ptB_nx e1)
     go_upto_region 5 with fail
     refine Bh (by kernel_rfl) (by kernel_rfl) ?_
     repeat (go_big_quiet_step (fail))
     refine wpQuiet_nil ?_;rintro _ ⟨q,rfl⟩
     go_upto_region 7 with fail
     obtain⟨W1,hx1⟩:=q;have i0:∀q:Ac W1,q.w.cell? ⟨bA,oA+i*5,none⟩=some (S (R h0.a.x)):=fun q=>b0 ⟨q.w,hx1.trans q.h⟩;have i1:∀q:Ac W1,q.w.cell? ⟨bA,oA+i*5+1,none⟩=some (S (R h0.a.y)):=fun q=>b1 ⟨q.w,hx1.trans q.h⟩;have i2:∀q:Ac W1,q.w.cell? ⟨bA,oA+j*5+2,none⟩=some (S (R x.b.x)):=fun q=>j2 ⟨q.w,hx1.trans q.h⟩;have i3:∀q:Ac W1,q.w.cell? ⟨bA,oA+j*5+3,none⟩=some (S (R x.b.y)):=fun q=>j3 ⟨q.w,hx1.trans q.h⟩;clear b0 b1 b2 b3 b4 j0 j1 j2 j3;refine Bh (by kernel_rfl) (by kernel_rfl) ?_
     repeat (go_big_quiet_step (fail))
     refine wpQuiet_nil ?_;rintro _ ⟨q,rfl⟩;go_wp2;go_roundw
     case rel=>exact⟨j+1,(j:Int),by go_num,by rw [HC.out,e0];go_num,rfl,hlt,Ae.trans (hx1.trans q.h),.inr ⟨j,hlt,rfl,by rw [←HX.out];exact HE0.out,by rw [←HX.out];exact HE1.out⟩⟩
     case measure=>simp [intOf];omega
    ·go_upto_region 5 with fail
     refine Bh (by kernel_rfl) (by kernel_rfl) ?_
     repeat (go_big_quiet_step (fail))
     refine wpQuiet_nil ?_;rintro _ ⟨q,rfl⟩
     go_upto_region 7 with fail
     obtain⟨W1,hx1⟩:=q;have i0:∀q:Ac W1,q.w.cell? ⟨bA,oA+i*5,none⟩=some (S (R h0.a.x)):=fun q=>b0 ⟨q.w,hx1.trans q.h⟩;have i1:∀q:Ac W1,q.w.cell? ⟨bA,oA+i*5+1,none⟩=some (S (R h0.a.y)):=fun q=>b1 ⟨q.w,hx1.trans q.h⟩;have i2:∀q:Ac W1,q.w.cell? ⟨bA,oA+j*5+2,none⟩=some (S (R x.b.x)):=fun q=>j2 ⟨q.w,hx1.trans q.h⟩;have i3:∀q:Ac W1,q.w.cell? ⟨bA,oA+j*5+3,none⟩=some (S (R x.b.y)):=fun q=>j3 ⟨q.w,hx1.trans q.h⟩;clear b0 b1 b2 b3 b4 j0 j1 j2 j3;refine Bh (by kernel_rfl) (by kernel_rfl) ?_
     repeat (go_big_quiet_step (fail))
     refine wpQuiet_nil ?_;rintro _ ⟨q,rfl⟩;go_wp2;go_roundw
     case rel=>exact⟨j+1,nx,by go_num,by rw [HC.out,e0];go_num,rfl,hlt,Ae.trans (hx1.trans q.h),HN.out⟩
     case measure=>simp [intOf];omega
  ·have D2:j=l.length:=(by omega);subst D2;have hnl:(l.length:Int)<=(l.length:Int):=(by omega);obtain⟨cn,BB⟩:=Asw (IY (l.take l.length) h0.b);rw [←BB];have aG:=Asx (show cn=IY l h0.b by rw [BB,List.take_length]);clear BB;by_cases h2:cn=2
   ·subst h2
    rcases HN.out with rfl|⟨kk,Ch,rfl,hka,hkb⟩
    ·go_upto_region 9 with fail
     refine Bh (by kernel_rfl) (by kernel_rfl) ?_
     repeat (go_big_quiet_step (fail))
     refine wpQuiet_nil ?_;rintro _ ⟨q,rfl⟩;go_wp2;go_ret;exact⟨-1,rfl,Ae.trans q.h,.inl (by omega)⟩
    ·obtain⟨Xb,Zt,e,f0,f1,f2,f3,f4⟩:=ME (hr.ext Ae) Ch;simp only [As4,Addr.mk.injEq,and_true]at e;obtain⟨rfl,rfl⟩:=e;have RA:=HL.out _ (As1 Ch);obtain⟨y,hy⟩:=Asw (l[kk]);rw [←hy]at f0 f1 f2 f3 f4 RA;have HY:=Asx hy;rw [←hy]at hka hkb;have HK:=Asx (And.intro hka hkb);clear hka hkb;have j2:∀q:Ac wr,q.w.cell? ⟨bA,oA+kk*5+2,none⟩=some (S (R y.b.x)):=Ac.cell f2;have j3:∀q:Ac wr,q.w.cell? ⟨bA,oA+kk*5+3,none⟩=some (S (R y.b.y)):=Ac.cell f3;have j4:∀q:Ac wr,q.w.cell? ⟨bA,oA+kk*5+4,none⟩=some (.int .i64 y.l):=Ac.cell f4;have hk0:(0:Int)<=(kk:Int):=(by omega);have D3:(kk:Int)<(l.length:Int):=(by omega);have kQ:decide ((kk:Int)<0)=false:=decide_eq_false (by omega);clear hy f0 f1 f2 f3 f4 a0 a1 a2 a3 a4;by_cases Vo:y.l=h0.l
     ·have HYL:=Asx Vo;have hyn:(y.l != h0.l)=false:=by rw [Vo];simp
      go_upto_region 9 with fail
      refine Bh (by kernel_rfl) (by kernel_rfl) ?_
      repeat (go_big_quiet_step (fail))
      refine wpQuiet_nil ?_;rintro W1 ⟨q,hq⟩;have hx1:Ab wr W1:=hq▸q.h;clear hq q;have i0:∀q:Ac W1,q.w.cell? ⟨bA,oA+i*5,none⟩=some (S (R h0.a.x)):=fun q=>b0 ⟨q.w,hx1.trans q.h⟩;have i1:∀q:Ac W1,q.w.cell? ⟨bA,oA+i*5+1,none⟩=some (S (R h0.a.y)):=fun q=>b1 ⟨q.w,hx1.trans q.h⟩;have i2:∀q:Ac W1,q.w.cell? ⟨bA,oA+i*5+2,none⟩=some (S (R h0.b.x)):=fun q=>b2 ⟨q.w,hx1.trans q.h⟩;have i3:∀q:Ac W1,q.w.cell? ⟨bA,oA+i*5+3,none⟩=some (S (R h0.b.y)):=fun q=>b3 ⟨q.w,hx1.trans q.h⟩;have k2:∀q:Ac W1,q.w.cell? ⟨bA,oA+kk*5+2,none⟩=some (S (R y.b.x)):=fun q=>j2 ⟨q.w,hx1.trans q.h⟩;have k3:∀q:Ac W1,q.w.cell? ⟨bA,oA+kk*5+3,none⟩=some (S (R y.b.y)):=fun q=>j3 ⟨q.w,hx1.trans q.h⟩;have hw1:=hw.ext (Ae.trans hx1);have tc:=fun (q:Ac W1)=>Ap2 h0.a h0.b y.b hs0.1.sz2 hs0.2.sz2 RA.2.sz2 q.w (hw1.ext q.h);obtain⟨sg,D4⟩:=Asw (AN (Am h0.a h0.b y.b));have tA:=Asx D4;rw [←D4]at tc;unfold Af Ab1 at tc;clear b0 b1 b2 b3 b4 j2 j3 j4 D4
      go_upto_region 11 with fail
      refine Bh (by kernel_rfl) (by kernel_rfl) ?_
      repeat (go_big_quiet_step (with_reducible refine eN (tc _)))
      refine wpQuiet_nil ?_;rintro W2 ⟨q,hq⟩;have hx2:Ab W1 W2:=hq▸q.h;clear hq q;have n0:∀q:Ac W2,q.w.cell? ⟨bA,oA+i*5,none⟩=some (S (R h0.a.x)):=fun q=>i0 ⟨q.w,hx2.trans q.h⟩;have n1:∀q:Ac W2,q.w.cell? ⟨bA,oA+i*5+1,none⟩=some (S (R h0.a.y)):=fun q=>i1 ⟨q.w,hx2.trans q.h⟩;have n2:∀q:Ac W2,q.w.cell? ⟨bA,oA+kk*5+2,none⟩=some (S (R y.b.x)):=fun q=>k2 ⟨q.w,hx2.trans q.h⟩;have n3:∀q:Ac W2,q.w.cell? ⟨bA,oA+kk*5+3,none⟩=some (S (R y.b.y)):=fun q=>k3 ⟨q.w,hx2.trans q.h⟩;clear i0 i1 i2 i3 k2 k3 tc;have BR:=Ae.trans (hx1.trans hx2);by_cases hs:sg=0
      ·have aD:=Asx (Aov (by rw [←tA.out];exact hs));clear tA;subst hs
       cases e1:Aq h0.a y.b
       ·go_upto_region 12 with fail
        refine Bh (by kernel_rfl) (by kernel_rfl) ?_
        repeat (go_big_quiet_step (fail))
        refine wpQuiet_nil ?_;rintro _ ⟨q,rfl⟩;go_wp2;go_ret;exact⟨(kk:Int),rfl,BR.trans q.h,.inr ⟨kk,Ch,rfl,by rw [←HY.out];exact⟨aG.out.symm,HK.out.1,HK.out.2,HYL.out,aD.out⟩⟩⟩
       ·go_upto_region 12 with fail
        refine Bh (by kernel_rfl) (by kernel_rfl) ?_
        repeat (go_big_quiet_step (fail))
        refine wpQuiet_nil ?_;rintro _ ⟨q,rfl⟩;go_wp2;go_ret;exact⟨-1,rfl,BR.trans q.h,.inl (by omega)⟩
      ·have EE:(sg != 0)=true:=by rw [bne,beq_false_of_ne hs];rfl
       go_upto_region 12 with fail
       refine Bh (by kernel_rfl) (by kernel_rfl) ?_
       repeat (go_big_quiet_step (fail))
       refine wpQuiet_nil ?_;rintro _ ⟨q,rfl⟩;go_wp2;go_ret;exact⟨-1,rfl,BR.trans q.h,.inl (by omega)⟩
     ·have hyn:(y.l != h0.l)=true:=by rw [bne,beq_false_of_ne Vo];rfl
      go_upto_region 9 with fail
      refine Bh (by kernel_rfl) (by kernel_rfl) ?_
      repeat (go_big_quiet_step (fail))
      refine wpQuiet_nil ?_;rintro _ ⟨q,rfl⟩;go_wp2;go_ret;exact⟨-1,rfl,Ae.trans q.h,.inl (by omega)⟩
   ·have zM:¬((cn:Int)=2):=(by omega);have h2n:((cn:Int) != 2)=true:=(by rw [bne,beq_false_of_ne zM];rfl);clear a0 a1 a2 a3 a4
    go_upto_region 9 with fail
    refine Bh (by kernel_rfl) (by kernel_rfl) ?_
    repeat (go_big_quiet_step (fail))
    refine wpQuiet_nil ?_;rintro _ ⟨q,rfl⟩;go_wp2;go_ret;exact⟨-1,rfl,Ae.trans q.h,.inl (by omega)⟩
section
open Go.ChangeMaps (setBlock)
def LM(l:List (Int×Int)):List MapEntry:=l.mapIdx fun i e=>⟨.int .i64 e.1,.int .i64 e.2,i⟩
theorem Ahl(l:List (Int×Int))(e:Int×Int):LM (l ++ [e])=LM l ++ [⟨.int .i64 e.1,.int .i64 e.2,l.length⟩]:=by simp [LM,List.mapIdx_append]
def Ct(k:Int)(l:List (Int×Int)):Option Int:=(l.find? (fun e=>k == e.1)).map (·.2)
theorem zB(k:Int):∀(l:List (Int×Int)) (i j:Nat),∃x,Instr.findNow (.int .i64) (.int .i64 k) (l.mapIdx fun i e=>⟨.int .i64 e.1,.int .i64 e.2,i+j⟩) i=some x/\x.map (·.2)=(Ct k l).map (fun z=>Value.int .i64 z)
 | [],i,j=>⟨none,by simp [Instr.findNow],by simp [Ct]⟩
 | e::l,i,j=>by
  rw [List.mapIdx_cons];by_cases h:k=e.1
  ·refine⟨some (i,.int .i64 e.2),?_,?_⟩
   ·simp [Instr.findNow,Instr.sameNow,h]
   ·simp [Ct,h]
  ·obtain⟨x,h1,h2⟩:=zB k l (i+1) (j+1);have hh:(k == e.1)=false:=(by simpa using h);refine⟨x,?_,?_⟩
   ·simp only [Instr.findNow,Instr.sameNow,if_pos,hh]
    simpa only [Nat.add_assoc,Nat.add_comm 1 j]using h1
   ·rw [h2];simp [Ct,hh]
theorem eT(k:Int)(l:List (Int×Int))(W:World):∃x,(Instr.findKey 3 (.int .i64 k) (LM l)).run Tryz.prog W=.ok x W/\x.map (·.2)=(Ct k l).map (fun z=>Value.int .i64 z):=by
 obtain⟨x,h1,h2⟩:=zB k l 0 0;exact⟨x,MapKept.run_findKey Tryz.underlying3 h1,h2⟩
theorem VQ(k:Int)(l:List (Int×Int)){b clock:Nat}{W:World}(hb:W.heap[b]?=some (.map (LM l).toArray clock)) :
  (Instr.lookup 130 (.map (some b)) (.int .i64 k) true).run Tryz.prog W=.ok (.tuple #[.int .i64 ((Ct k l).getD 0),.bool (Ct k l).isSome]) W:=by
 obtain⟨x,h1,h2⟩:=eT k l W;have hz:(zeroValue 3).run Tryz.prog W=.ok (.int .i64 0) W:=(by simp [go_sem]);have hc:∀b,(Instr.checkKey b 10000 3 (.int .i64 k)).run Tryz.prog W=.ok () W:=fun b=>MapKept.run_checkKey (k:=.int .i64 k) Tryz.underlying3 (by simp [MapKept.IsKey]) b 9999;have hm:=run_underlying (w:=W) Tryz.underlying130
 cases h:Ct k l with
 | none=>
  rw [h]at h2;have hx:x=none:=(by simpa using h2);subst hx;simp [Instr.lookup,hm,MapKept.run_getObj_map hb,hc,h1,hz,Result.andThen]
 | some z=>rw [h]at h2;obtain⟨⟨i,v⟩,rfl,hv⟩:=Option.map_eq_some_iff.1 h2;simp only at hv;subst hv;simp [Instr.lookup,hm,MapKept.run_getObj_map hb,hc,h1,Result.andThen]
theorem Aoj(k z:Int)(l:List (Int×Int))(hno:Ct k l=none){b:Nat}{W:World}(hb:W.heap[b]?=some (.map (LM l).toArray l.length)) :
  (Instr.mapUpdate 130 (.map (some b)) (.int .i64 k) (.int .i64 z)).run Tryz.prog W=.ok () (setBlock W b (.map (LM (l ++ [(k,z)])).toArray (l.length+1))):=by
 obtain⟨x,h1,h2⟩:=eT k l W;have hc:∀b,(Instr.checkKey b 10000 3 (.int .i64 k)).run Tryz.prog W=.ok () W:=fun b=>MapKept.run_checkKey (k:=.int .i64 k) Tryz.underlying3 (by simp [MapKept.IsKey]) b 9999;have hm:=run_underlying (w:=W) Tryz.underlying130;rw [hno]at h2;have hx:x=none:=(by simpa using h2);subst hx;rw [Ahl];simp [Instr.mapUpdate,hm,MapKept.run_getObj_map hb,hc,h1,MapKept.run_setObj_map _ hb,Result.andThen,setBlock]
def Dj(W:World)(b:Nat)(l:List (Int×Int)):Prop:=W.heap[b]?=some (.map (LM l).toArray l.length)
theorem Dj.put{W:World}{b:Nat}{l:List (Int×Int)}(h:Dj W b l)(k z:Int)(hno:Ct k l=none) :
  ∃W',(Instr.mapUpdate 130 (.map (some b)) (.int .i64 k) (.int .i64 z)).run Tryz.prog W=.ok () W'/\Dj W' b (l ++ [(k,z)])/\W.grownBy W' (some b)/\W'.heap.size=W.heap.size:=by
 refine⟨_,Aoj k z l hno h,?_,LQ h,by simp [setBlock]⟩;unfold Dj;rw [MI h];simp
/-! ### Bools in a row -/
def Is(l:List Bool):List Value:=l.map Value.bool
theorem vB(l:List Bool):(Is l).length=l.length:=by simp [Is]
theorem AnF{w:World}{A:Option Addr}{l:List Bool}(hr:Ad w A (Is l)){j:Nat}(h:j<l.length):∃b o,A=some ⟨b,o,none⟩/\w.cell? ⟨b,o+j,none⟩=some (.bool l[j]):=by
 obtain⟨b,o,e,hc⟩:=hr.ad (by rw [vB];omega);refine⟨b,o,e,?_⟩;rw [hc j (by rw [vB];exact h)];simp [Is]
def M4(l:List Bool)(x:Bool):Int:=match l.findIdx? (x == ·)with|some j=>(j:Int)|none=>-1
theorem Ak1{l:List Bool}{x:Bool}{j:Nat}(h:j<l.length)(hno:∀q∈l.take j,(x == q)=false)(he:(x == l[j])=true):M4 l x=(j:Int):=by
 unfold M4
 have:l.findIdx? (x == ·)=some j:=by rw [List.findIdx?_eq_some_iff_getElem];exact⟨h,he,fun i hi=>by rw [hno l[i] (by rw [List.mem_take_iff_getElem];exact⟨i,by omega,rfl⟩)];simp⟩
 rw [this]
theorem xh{l:List Bool}{x:Bool}(hno:∀q∈l,(x == q)=false):M4 l x = -1:=by
 unfold M4;rw [List.findIdx?_eq_none_iff.2 hno]
theorem Ak0(l:List Bool)(x:Bool):decide (0<=M4 l x)=l.contains x:=by
 by_cases h:∃q∈l,(x == q)=true
 ·obtain⟨q,hq,he⟩:=h;have e:x=q:=(by simpa using he);subst e;have h2:l.contains x=true:=(by simpa using hq);rw [h2];unfold M4
  cases hf:l.findIdx? (x == ·)with
  | none=>
   rw [List.findIdx?_eq_none_iff]at hf;have:=hf x hq;simp at this
  | some j=>simp
 ·have hn:∀q∈l,(x == q)=false:=fun q hq=>by rw [Bool.eq_false_iff];exact fun he=>h ⟨q,hq,he⟩
  rw [xh hn];have:x∉l:=fun hx=>(by have:=hn x hx;simp at this);simp [this]
theorem AkC(l:List Bool)(x:Bool)(A:Option Addr)(c:Nat)(w:World)(hr:Ad w A (Is l))(hc:l.length<=c)(hcm:c<=9223372036854775807) :
  Calls Tryz.prog 155 #[.slice A l.length c,.bool x] w (AI (M4 l x) w):=by
 obtain⟨r,hr0⟩:=Asw (M4 l x);rw [←hr0];have HR:=Asx hr0;clear hr0;go_enter Tryz.func155,Tryz.ntmps155
 go_upto_region 2 with fail
 go_loopw [8] (fun i wr=>∃j:Nat,i=.int .i64 (j:Nat)/\j<=l.length/\(∀q∈l.take j,(x == q)=false)/\Ab w wr) (fun i _=>l.length-(intOf i).toNat)
 case atStart=>exact⟨0,rfl,by omega,by simp,Ab.refl _⟩
 case round=>
  obtain⟨j,rfl,hj,Ai,Ae⟩:=hrel;have HO:=Asx Ai;clear Ai;by_cases hlt:j<l.length
  ·obtain⟨b,o,rfl,hg⟩:=AnF (hr.ext Ae) hlt;obtain⟨q,hq⟩:=Asw (l[j]);rw [←hq]at hg;have hj0:(0:Int)<=(j:Int):=(by omega);have Ay:(j:Int)<(l.length:Int):=(by omega);have HQ:=Asx hq;clear hq
   cases x<;>cases q
   case false.true|true.false=>
    have HE:=Asx (show ∀y∈l.take (j+1),_ from by
     intro y hy;rw [As3 hlt,←HQ.out]at hy
     rcases List.mem_append.1 hy with h|h
     ·exact HO.out y h
     ·simp only [AsC]at h;rw [h];rfl)
    go_wp2;go_roundw
    case rel=>exact⟨j+1,by go_num,hlt,HE.out,Ae⟩
    case measure=>simp [intOf];omega
   case false.false|true.true=>have CZ:r=(j:Int):=(by rw [HR.out];exact Ak1 hlt HO.out (by rw [←HQ.out];rfl));subst CZ;go_wp2;go_ret;exact⟨rfl,Ae⟩
  ·have hle:(l.length:Int)<=(j:Int):=(by omega);have CZ:r = -1:=(by rw [HR.out];exact xh (by have:=HO.out;rw [As8 (by omega)]at this;exact this));subst CZ;go_wp2;go_ret;exact⟨rfl,Ae⟩
theorem Agz(l:List Bool)(x:Bool)(A:Option Addr)(c:Nat)(w:World)(hr:Ad w A (Is l))(hc:l.length<=c)(hcm:c<=9223372036854775807) :
  Calls Tryz.prog 107 #[.slice A l.length c,.bool x] w (BP (l.contains x) w):=by
 have ix:=AkC l x A c w hr hc hcm;have ha:=Ak0 l x;obtain⟨r,hr0⟩:=Asw (l.contains x);rw [←hr0]at ha ⊢;obtain⟨n,hn⟩:=Asw (M4 l x);rw [←hn]at ix ha;have HA:=Asx ha;clear hr0 hn ha;go_enter Tryz.func107,Tryz.ntmps107;(go_wp2_with fail);(with_reducible refine ix.mono ?_);rintro e w2 ⟨rfl,hx2⟩;go_wp2;go_ret;exact⟨by rw [←HA.out];rfl,hx2⟩
end
theorem AkE{B:Nat}{w:World}{r b1 b2:Nat}{L:List (Sg×Int)}{E:List (Pt×Value×Nat)}{R0:List (Pt×List Pt)}(h:B7 B w r b1 b2 L E R0)(bn:Nat)(Cv:w.cell? ⟨bn,0,none⟩=some (.pointer (some ⟨r,0,none⟩)))(l:List Pt)(A:Option Addr)(c:Nat)(hr:Ad w A (flat (Ag l)))(hc:l.length<=c)(hcm:c<=9223372036854775807) :
  Calls Tryz.prog 63 #[.slice A l.length c,.func (.func 52) #[] #[.pointer (some ⟨bn,0,none⟩)]] w fun e w'=>∃n:Int,e=.returned (.int .i64 n)/\(0<=n↔∃p∈l,decide (KI R0 p<2)=true)/\Ab w w':=by
 have fw:=fun (w1:World) (hx:Ab w w1) (p:Pt)=>Ah4 (h.ext hx) bn (hx.cellS Cv) p;clear h Cv;go_enter Tryz.func63,Tryz.ntmps63;go_wp2
 go_loopw [8] (fun i wr=>∃j:Nat,i=.int .i64 (j:Nat)/\j<=l.length/\(∀p∈l.take j,decide (KI R0 p<2)=false)/\Ab w wr) (fun i _=>l.length-(intOf i).toNat)
 case atStart=>exact⟨0,rfl,by omega,by simp,Ab.refl _⟩
 case round=>
  obtain⟨j,rfl,hj,Ai,Ae⟩:=hrel;have HO:=Asx Ai;clear Ai;by_cases hlt:j<l.length
  ·obtain⟨b,o,rfl,hg1,hg2⟩:=BN (hr.ext Ae) hlt;obtain⟨p,hp⟩:=Asw (l[j]);rw [←hp]at hg1 hg2;have hmem:p∈l:=(by rw [hp];exact As1 hlt);have HX:=Asx hp;clear hp;have hj0:(0:Int)<=(j:Int):=(by omega);have Ay:(j:Int)<(l.length:Int):=(by omega);have bf:=fw wr Ae p;unfold Af at bf
   cases hL:decide (KI R0 p<2)
   ·rw [hL]at bf;have Ik:=Asx hL;clear hL fw;(go_wp2_with fail);(with_reducible refine bf.mono ?_);rintro e w2 ⟨rfl,hx2⟩;go_wp2;go_roundw
    case rel=>
     refine⟨j+1,by go_num,hlt,?_,Ae.trans hx2⟩;intro q hq;rw [As3 hlt,←HX.out]at hq
     rcases List.mem_append.1 hq with h|h
     ·exact HO.out q h
     ·simp only [AsC]at h;rw [h];exact Ik.out
    case measure=>simp [intOf];omega
   ·rw [hL]at bf;have Ik:=Asx hL;clear hL fw;(go_wp2_with fail);(with_reducible refine bf.mono ?_);rintro e w2 ⟨rfl,hx2⟩;go_wp2;go_ret;exact⟨j,rfl,⟨fun _=>⟨_,hmem,Ik.out⟩,fun _=>by omega⟩,Ae.trans hx2⟩
  ·have hle:(l.length:Int)<=(j:Int):=(by omega);clear fw;go_wp2;go_ret;refine⟨-1,rfl,⟨fun h=>by omega,?_⟩,Ae⟩;rintro⟨p,hp,h⟩;have:=HO.out p (by rw [As8 (by omega)];exact hp);rw [this]at h;cases h
def TO(R0:List (Pt×List Pt))(l:List Pt):Bool:=l.any (fun p=>decide (KI R0 p<2))
theorem Afc{B:Nat}{w:World}{r b1 b2:Nat}{L:List (Sg×Int)}{E:List (Pt×Value×Nat)}{R0:List (Pt×List Pt)}(h:B7 B w r b1 b2 L E R0)(bn:Nat)(Cv:w.cell? ⟨bn,0,none⟩=some (.pointer (some ⟨r,0,none⟩)))(l:List Pt)(A:Option Addr)(c:Nat)(hr:Ad w A (flat (Ag l)))(hc:l.length<=c)(hcm:c<=9223372036854775807) :
  Calls Tryz.prog 35 #[.slice A l.length c,.func (.func 52) #[] #[.pointer (some ⟨bn,0,none⟩)]] w (BP (TO R0 l) w):=by
 have ix:=AkE h bn Cv l A c hr hc hcm;clear h Cv hr;go_enter Tryz.func35,Tryz.ntmps35;(go_wp2_with fail);(with_reducible refine ix.mono ?_);rintro e w2 ⟨n,rfl,hn,hx2⟩
 have hd:TO R0 l=decide (0<=n):=by
  unfold TO;by_cases h0:0<=n
  ·rw [decide_eq_true h0,List.any_eq_true];exact hn.1 h0
  ·rw [decide_eq_false h0,List.any_eq_false];intro x hx hh;exact h0 (hn.2 ⟨x,hx,hh⟩)
 have HD:=Asx hd;clear hd hn;go_wp2;go_ret;exact⟨by rw [HD.out];rfl,hx2⟩
end Go.Proofs.YtnddllipjippnaaGreatDoor
