/- Z13: Div2 Div3 Int8. -/
import Derived.Test.YtdaefncphfeaeaaGreatDoorZ11
import Derived.Deep.DeepCutAuto
set_option maxRecDepth 100000
set_option maxHeartbeats 4000000
namespace Go.Proofs.YtdaefncphfeaeaaGreatDoor
open Go.RowKit Kl Go.Shelf
theorem oW(x d:Nat)(hd:d<1000000000)(hl:(pc 1000000000 x).length<40000)(u:Value)(w:World)(hu:Rd w u (pc 1000000000 x)) :
  Calls Tryz.prog 248 #[u,.int .u64 (d:Nat)] w (S6 (x*d) w):=by
 have hx1:=(Aa.refl w).alloc (.cells #[.int .u64 (d:Nat)] 230)
 have BY:Cc (w.alloc (.cells #[.int .u64 (d:Nat)] 230)) (some ⟨w.heap.size,0,none⟩) 1 [d]:=
  ⟨by simp,by omega,by simp,fun _=>⟨w.heap.size,0,rfl,fun j hj=>by
   obtain rfl:j=0:=by simpa using hj
   rw [World.cell?_alloc_at _ _ _ _ (by rfl)];simp [Ag]⟩⟩
 have DY:∀z∈[d],z<1000000000:=(by intro z hz;simp only [Ass]at hz;omega);have hq:=Sb [d] _ _ _ BY DY;have e1:Ah 1000000000 [d]=d:=(by simp [Ah]);have hl2:(pc 1000000000 d).length<=1:=Ll b9 (by omega);have ht:=Ab4 (pc 1000000000 x) (pc 1000000000 d) u _ _ (hu.ext hx1) ⟨_,_,rfl,by have:=BY.pc DY;rw [e1]at this;exact this⟩ hl (by omega) (AX b9 x) (AX b9 d);rw [AM b9,AM b9]at ht;rw [e1]at hq;simp only [List.length_singleton]at hq;clear BY DY e1;go_enter Tryz.func248,Tryz.ntmps248;(go_wp2_with fail);(with_reducible refine hq.mono ?_);rintro e w1 ⟨rfl,rfl⟩;(go_wp2_with fail);(with_reducible refine ht.mono ?_);rintro e w1 ⟨v,rfl,hv,hxv,hf⟩;have HF:=Asb hf;clear hf;go_wp2;go_ret;exact⟨v,rfl,hv,hx1.trans hxv,fun b hb=>by have:=HF.out b hb;simp at this;omega⟩
theorem mW{b:Nat}(hb:0<b):∀{l:List Nat} (k:Nat),(∀x∈l,x<b)→Ah b (l.drop k)=Ah b l/b^k
 | l,0,_=>by simp
 | [],k+1,_=>by simp [Ah]
 | x::l,k+1,h=>by rw [List.drop_succ_cons,mW hb k (fun y hy=>h y (by simp [hy]))];simp only [Ah];have hx:=h x (by simp);rw [Nat.pow_succ,Nat.mul_comm (b^k) b,←Nat.div_div_eq_div_mul,Nat.add_mul_div_left _ _ hb,Nat.div_eq_of_lt hx,Nat.zero_add]
theorem eE{y t:Nat}(hyt:y<=t)(Mk:t<y*1000000000)(Ba:0<y) :
  let m:=(pc 1000000000 y).length
  let n:=(pc 1000000000 t).length
  0<m/\0<Ag (pc 1000000000 y) (m-1)/\m<=n/\n<=m+1/\
   t/y<=(if m<n then Ag (pc 1000000000 t) (n-1)*1000000000+Ag (pc 1000000000 t) (n-2)else Ag (pc 1000000000 t) (n-1))/Ag (pc 1000000000 y) (m-1):=by
 intro m n;have Mm:=FY b9 y;have j9:=AX b9 y;have jz:=AX b9 t;have kH:=AM b9 y;have lh:=AM b9 t;have kr:pc 1000000000 y≠[]:=fun e=>(by have:=(Mw b9).1 e;omega);have hm:0<m:=List.length_pos_iff.2 kr;have NL:=ZA (b:=1000000000) Mm kr;rw [kH]at NL;have P4:y<1000000000^m:=(by have:=Il j9;rwa [kH]at this);have Gy:t<1000000000^n:=by have:=Il jz;rwa [lh]at this
 have hmn:m<=n:=by
  rcases Nat.lt_or_ge n m with h|h
  ·exfalso
   have h1:(1000000000:Nat)^n<=1000000000^(m-1):=Nat.pow_le_pow_right (by omega) (by omega)
   change (1000000000:Nat)^(m-1)<=y at NL
   omega
  ·exact h
 have hnm:n<=m+1:=by
  refine Ll b9 ?_;rw [Nat.pow_succ]
  calc t<y*1000000000:=Mk
   _<=1000000000^m*1000000000:=Nat.mul_le_mul_right _ (by omega)
 have e1:Ag (pc 1000000000 y) (m-1)=y/1000000000^(m-1):=by have h:=mW (b:=1000000000) (by omega) (m-1) j9;rw [kH]at h;rw [←h,KC (by omega),List.drop_eq_nil_of_le (by omega)];simp [Ah]
 have e2:(if m<n then Ag (pc 1000000000 t) (n-1)*1000000000+Ag (pc 1000000000 t) (n-2)else Ag (pc 1000000000 t) (n-1))=t/1000000000^(m-1):=by
  have h:=mW (b:=1000000000) (by omega) (m-1) jz;rw [lh]at h;rw [←h]
  split
  ·have e:n=m+1:=(by omega);rw [KC (by omega),KC (by omega),List.drop_eq_nil_of_le (by omega)];simp only [Ah];rw [show n-1=m-1+1 by omega,show n-2=m-1 by omega];omega
  ·have e:n=m:=(by omega);rw [KC (by omega),List.drop_eq_nil_of_le (by omega)];simp only [Ah];rw [e];omega
 have Ml:0<Ag (pc 1000000000 y) (m-1):=by rw [e1];exact Nat.div_pos NL (Nat.pow_pos (by omega))
 refine⟨hm,Ml,hmn,hnm,?_⟩;rw [e2,Nat.le_div_iff_mul_le Ml,Nat.le_div_iff_mul_le (Nat.pow_pos (by omega)),e1]
 calc t/y*(y/1000000000^(m-1))*1000000000^(m-1)=t/y*(y/1000000000^(m-1)*1000000000^(m-1)):=by rw [Nat.mul_assoc]
  _<=t/y*y:=Nat.mul_le_mul_left _ (Nat.div_mul_le_self _ _)
  _<=t:=Nat.div_mul_le_self _ _
theorem An9{P:Program}(w:World)(base:Nat)(t ty e:TypeId)(i:TypeInfo)(size:Nat)(ht:P.underlying t=some (.slice e))(hi:P.info? e=some i)
  (v:Value) (n c:Nat) (xs:List Value) (hown:w.ownsRow base e size v n xs) :
  (Builtin.append_ #[t,t] ty #[v,.slice none 0 c]).run P w=.ok v w:=by
 rcases hown.2 with⟨rfl,rfl⟩|⟨g,cap,cur,rfl,_,_,Ut,_⟩
 ·simp [Builtin.append_,run_underlying ht,sizeOf,typeInfo,hi,Builtin.lenOf,Builtin.firstCells]
 ·simp [Builtin.append_,run_underlying ht,sizeOf,typeInfo,hi,Builtin.lenOf,Builtin.firstCells,Ut,storeCells]
theorem Aet{ops:Array Oper}{rest:List Oper}{o:Oper}{a:Act}{Q:Exit→Act→World→Prop}(hgd:o.guard=none)(s x:Operand)(ho:o.op=.call {callee:=.builtin .append,args:=#[s,x],argTypes:=#[199,199]})
  (wr:World) (base:Nat) (v:Value) (n:Nat) (xs:List Nat) (hs:a.eval s=v) (hown:wr.ownsRow base 230 1 v n (Bq xs)) (l:List Nat) (vx:Value) (hx:a.eval x=vx) (hr:Rd wr vx l) (hn:n+l.length<200000) (hbase:base<=wr.heap.size)
  (h:∀v' w',w'.ownsRow base 230 1 v' (n+l.length) (Bq (xs++l))→(∀w0,Aa w0 wr→w0.heap.size<=base→Aa w0 w')→wpList Tryz.prog ops Q rest (a.put o.dst v') w') :
  wpList Tryz.prog ops Q (o::rest) a wr:=by
 obtain⟨i0,hi,hz0,hz1,hz2⟩:=info_parts Tryz.infoU;obtain⟨A,c,rfl,B5⟩:=hr;refine wpList_plain hgd fun K hK=>?_;by_cases h0:l.length=0
 ·obtain rfl:l = []:=List.length_eq_zero_iff.1 h0;rw [List.append_nil]at h
  cases A with
  | none=>
   have hrun:=An9 (P:=Tryz.prog) wr base 199 o.type 230 i0 1 Tryz.underlying199 hi v n c (Bq xs) hown;unfold Oper.wp execOp;simp only [ho,resolve,invoke,builtin,Sem.run_bind,Sem.run_pure,Result.andThen_ok,List.map_toArray,List.map_cons,List.map_nil,hs,hx,List.length_nil,hrun];exact hK _ _ (h v wr hown fun w0 he hb=>he)
  | some ad=>refine wp_append_own _ s x 199 ho base 230 i0 (.int .u64 0) 1 8 Tryz.underlying199 hi hz0 hz1 hz2 rfl (by omega) v n (Bq xs) hs hown ad 0 c [] hx rfl (fun j u hu=>by simp at hu) (fun u hu=>by simp at hu) (by unfold maxLen;omega) (by omega) hbase ?_;intro v' w' h2 h3 _;exact hK _ _ (h v' w' (by simpa using h2) fun w0 he hb=>he.grownOwn h3 hown hb)
 ·obtain⟨b,off,rfl,hc⟩:=B5.ad (by omega);refine wp_append_own _ s x 199 ho base 230 i0 (.int .u64 0) 1 8 Tryz.underlying199 hi hz0 hz1 hz2 rfl (by omega) v n (Bq xs) hs hown ⟨b,off,none⟩ l.length c (Bq l) hx (by simp [Bq]) ?_ ?_ (by unfold maxLen;omega) (by omega) hbase ?_
  ·intro j u hu
   have hj:j<l.length:=by
    have:=(List.getElem?_eq_some_iff.1 hu).1
    simpa [Bq]using this
   have e:(Bq l)[j]?=some (.int .u64 (Ag l j:Nat)):=(by simp [Bq,Ag,hj]);rw [e]at hu;rw [←Option.some.inj hu,Addr.add_lit];exact hc j hj
  ·intro u hu;simp only [Bq,List.mem_map]at hu;obtain⟨z,_,rfl⟩:=hu
   rfl
  ·intro v' w' h2 h3 _;exact hK _ _ (h v' w' (by simpa [Bq]using h2) fun w0 he hb=>he.grownOwn h3 hown hb)
theorem vK(x y:Nat)(Ba:0<y)(UL:y<1000000000)(u v:Value)(w:World)(hu:Rd w u (pc 1000000000 x))(hv:Rd w v (pc 1000000000 y)) :
  Calls Tryz.prog 213 #[u,v] w (Qg (x/y) (x%y) w):=by
 rcases Nat.lt_or_ge x y with h|h
 ·rw [Nat.div_eq_of_lt h,Nat.mod_eq_of_lt h];exact vJ x y h u v w hu hv
 ·exact AfQ x y h Ba UL u v w hu hv
theorem Rd.setCell{w:World}{v0:Value}{l:List Nat}(h:Rd w v0 l){p:Addr}{v u:Value}(hp:w.cell? p=some v)(hv:∀n,v≠.int .u64 n):Rd (w.setCell p u) v0 l:=by
 obtain⟨A,c,e,h⟩:=h;exact⟨A,c,e,h.setCell hp hv⟩
theorem Cc.setOther{w:World}{A:Option Addr}{c:Nat}{l:List Nat}(h:Cc w A c l){p:Addr}(u:Value)(hp:∀b o,0<l.length→A=some ⟨b,o,none⟩→b≠p.block):Cc (w.setCell p u) A c l:=
 ⟨h.cap,h.max,h.len,fun h0=>by
  obtain⟨b,o,e,hc⟩:=h.ad h0;refine⟨b,o,e,fun j hj=>?_⟩;rw [World.cell?_setCell_other _ _ _ _ (fun e2=>hp b o h0 e (by rw [e2]))]
  exact hc j hj⟩
theorem Vq{a b:Nat}(h:a<=b):(pc 1000000000 a).length<=(pc 1000000000 b).length:=by
 refine Ll b9 ?_;have h1:=Il (AX b9 b);rw [AM b9]at h1;omega
theorem AlU{x f k:Nat}(h:(pc 1000000000 x).length<k)(hf:f<1000000000):(pc 1000000000 (x*f)).length<=k:=by
 refine Ll b9 ?_;have h1:=Il (AX b9 x);rw [AM b9]at h1
 have h2:(1000000000:Nat)^(pc 1000000000 x).length*1000000000<=1000000000^k:=by rw [←Nat.pow_succ];exact Nat.pow_le_pow_right (by omega) h
 exact Asp (Nat.mul_lt_mul'' h1 hf) h2
theorem AnP{l:List Nat}{j y:Nat}(h:Ag l j=y)(hj:j<l.length):l.set j y=l:=by
 rw [←h];apply List.ext_getElem?;intro i;rw [List.getElem?_set]
 split
 ·next e=>subst e;simp [Ag,hj]
 ·rfl
def AdA(wb:World)(xs:List Nat)(Y Q:Nat)(r i:Value)(wr:World):Prop:=
 ∃(k:Nat) (vs:List Nat) (rn:Nat) (z:Int),i=.int .i64 z/\z=(k:Int)-1/\JA xs vs Y k rn/\(∀j,j<k→Ag vs j=0)/\Rd wr r (pc 1000000000 rn)
  /\wr.ownsRow Q 230 1 (.slice (some ⟨Q,0,none⟩) xs.length xs.length) xs.length (Bq vs)/\Aa wb wr
theorem AfP(x y:Nat)(YZ:y<=x)(UL:1000000000<=y)(hlx:(pc 1000000000 x).length<39000)(u v:Value)(w:World)(hu:Rd w u (pc 1000000000 x))(hv:Rd w v (pc 1000000000 y)) :
  Calls Tryz.prog 213 #[u,v] w (Qg (x/y) (x%y) w):=by
 have Kd:=fun W hu hv=>Rv (pc 1000000000 x) (pc 1000000000 y) u v W hu hv (AX b9 x) (AX b9 y) (FY b9 x) (FY b9 y)
 obtain⟨s,hs,hs0⟩:∃s:Int,s=EO x y/\¬s<0:=by
  rcases Nat.lt_or_eq_of_le YZ with h|h
  ·exact⟨_,rfl,by rw [LK h];omega⟩
  ·exact⟨_,rfl,by rw [Qt h.symm];omega⟩
 rw [AM b9,AM b9,←hs]at Kd;clear hs;have hx1:=((Aa.refl w).alloc (.cells #[v] 199)).alloc (.cells #[.slice none 0 0] 199);have ho:=Kd _ (hu.ext hx1) (hv.ext hx1);clear Kd;obtain⟨hm0,Ml,-,-,-⟩:=eE (y:=y) (t:=y) (Asf _) (by omega) (by omega)
 have FR:2<=(pc 1000000000 y).length:=by
  rcases Nat.lt_or_ge (pc 1000000000 y).length 2 with h|h
  ·exfalso
   have h1:=Il (AX b9 y);rw [AM b9]at h1;have h2:(1000000000:Nat)^(pc 1000000000 y).length<=1000000000^1:=Nat.pow_le_pow_right (by omega) (by omega);omega
  ·exact h
 have Gy:Ag (pc 1000000000 y) ((pc 1000000000 y).length-1)<1000000000:=Cd (AX b9 y) (by omega);have lL:=hu;have lN:=hv;obtain⟨A,ca,e1,B5⟩:=lL;obtain⟨B,cb,e2,Bo⟩:=lN;have EW:=Bo.len;have hcb:=Bo.cap;have Me:=Bo.max;obtain⟨bb,ob,rfl,hcs⟩:=Bo.ad (by omega);have En:=hcs ((pc 1000000000 y).length-1) (by omega);clear hcs;obtain⟨m,hm⟩:=AcG ((pc 1000000000 y).length);obtain⟨tp,U9⟩:=AcG (Ag (pc 1000000000 y) (m-1));rw [←hm]at EW hcb FR hm0 e2 En Gy Ml;rw [←U9]at Ml Gy En;have HM:=Asb hm;have HT:=Asb U9;clear hm U9
 obtain⟨f,Pd,hf0,QI⟩:∃f:Nat,(1000000000:Int)/((tp:Int)+1)=(f:Int)/\0<f/\f<1000000000:=by refine⟨1000000000/(tp+1),by simp,Nat.div_pos (by omega) (by omega),Nat.div_lt_self (by omega) (by omega)⟩
 rw [e1,e2]at ho;rw [e2]at hx1;have hm1:(((m:Nat):Int) == 1)=false:=(by rw [beq_eq_false_iff_ne];omega);subst e1 e2;go_enter Tryz.func213,Tryz.ntmps213;(go_wp2_with fail);(with_reducible refine ho.mono ?_);rintro e w1 ⟨rfl,hx2⟩;obtain⟨hc2,hf2⟩:=hx2.cells;have Aii:=hx2.cellS (hx1.cellS En);have hb0:=(hx2.block w.heap.size (by simp;omega)).trans ((Below.heap_alloc _ _ _ (by simp)).trans (Ase w _));have hb1:=hx2.block (w.heap.size+1) (by simp);have T0:=Ase (w.alloc (.cells #[.slice (some ⟨bb,ob,none⟩) m cb] 199)) (.cells #[.slice none 0 0] 199);rw [Asn]at T0;have hb1:=hb1.trans T0;clear T0
 go_upto_region 13 with fail
 have Gz:Aa w w1.drew:=(hx1.trans hx2).drew;have Yt:(pc 1000000000 y).length<=(pc 1000000000 x).length:=Ll b9 (by have:=Il (AX b9 x);rw [AM b9]at this;omega);have c1:=oW x f QI (by omega) _ w1.drew (hu.ext Gz);have c2:=fun W (hW:Aa w1.drew W)=>oW y f QI (by omega) _ W (hv.ext (Gz.trans hW));have HLM:=Asb Yt;simp only [←Pd]at c1 c2;have HFE:=Asb Pd;clear Pd Yt
 go_cut [0] (fun v0 wx=>∃vb,Rd wx v0 (pc 1000000000 (x*f))/\Rd wx vb (pc 1000000000 (y*f))/\wx.heap[w.heap.size]?=some (.cells #[vb] 199 (0,0))/\wx.heap[w.heap.size+1]?=some (.cells #[.slice none 0 0] 199 (0,0))/\Aa w wx)
 case first=>
  refine wp_region_noPanic ?_
  go_region_with (go_at_call 248;(first|((with_reducible refine c1.mono ?_);rintro e w2 ⟨va,rfl,YU,hx3,hf3⟩;clear hf3;have hb2:=(hx3.block _ (Asd hb0)).trans hb0;have hg0:=cell_of_one hb2)|((with_reducible refine(c2 _ (by assumption)).mono ?_);rintro e w3 ⟨vb,rfl,⟨B2,uC,rfl,Px⟩,Af,hf4⟩;clear hf4;have hb3:=(Af.block _ (Asd hb2)).trans hb2;have hg3:=cell_of_one hb3;have hg4:=free_of_one hb3)))
  all_goals refine NoPanic.normal ?_
  all_goals go_wp2
  all_goals go_meet
  all_goals exact⟨_,(YU.ext Af).setCell hg3 (by simp),Rd.setCell ⟨B2,uC,rfl,Px⟩ hg3 (by simp),one_setCell hb3,by rw [Below.heap_setCell _ _ _ _ (by show w.heap.size+1≠w.heap.size;omega)];exact(Af.block _ (by have:=hx3.size;have:=Asd hb1;show w.heap.size+1<_;have h9:w1.drew.heap.size=w1.heap.size:=rfl;omega)).trans ((hx3.block _ (Asd hb1)).trans hb1),((Gz.trans hx3).trans Af).setCell (by show w.heap.size<=w.heap.size;omega) _⟩
 case rest=>
  obtain⟨vb,⟨A1,ca1,rfl,YI⟩,⟨B1,uA,rfl,QZ⟩,hkb,QO,Dz⟩:=hcut;clear c1 c2 hb0 hb1 Gz hx2 hc2 hf2 Aii En ho hx1 hu hv B5 Bo;have kC:(pc 1000000000 (x*f)).length<=39000:=AlU hlx QI;have Nq:0<y*f:=Nat.mul_pos (by omega) hf0;have jp:(pc 1000000000 (y*f)).length<=39000:=Asq (Vq (Nat.mul_le_mul_right f YZ)) kC;obtain⟨X,hX⟩:=AcG (x*f);obtain⟨Y,hY⟩:=AcG (y*f);rw [←hX]at YI kC ⊢;rw [←hY]at QZ jp Nq hkb;have HX:=Asb hX;have HY:=Asb hY;clear hX hY;obtain⟨X3,yQ,-,-,-⟩:=eE (y:=Y) (t:=Y) (Asf _) (by omega) Nq;have yR:Ag (pc 1000000000 Y) ((pc 1000000000 Y).length-1)<1000000000:=Cd (AX b9 Y) (by omega);obtain⟨b1,o1,rfl,ej⟩:=QZ.ad X3;have QH:=ej ((pc 1000000000 Y).length-1) (by omega);clear ej;have Aia:=QZ.cap;have AqM:=QZ.max;obtain⟨M,hM⟩:=AcG ((pc 1000000000 Y).length);obtain⟨T,hT⟩:=AcG (Ag (pc 1000000000 Y) (M-1));obtain⟨xs,Mp⟩:=AcG (pc 1000000000 X);have kg:∀z∈xs,z<1000000000:=(by rw [Mp];exact AX b9 X);rw [←hM]at jp X3 QH Aia yQ yR hkb;rw [←hT]at QH yQ yR;rw [←Mp]at YI kC ⊢;have Ox:=Asb hM;have rF:=Asb hT;have HXS:=Asb Mp;clear hM hT Mp;have Jq:=cell_of_one QO;have QK:=free_of_one QO;have hgb:=cell_of_one hkb;have KX:=Asd hkb;have Jy:=Asd QO;have hb1:=World.block_lt_of_cell? wc _ QH;have hmk:=mR xs.length (by omega) (xs.length:Int) rfl
  go_upto_region 15 with fail
  clear hmk;have Ajt:=YI.setCell (u:=.slice (some ⟨wc.heap.size,0,none⟩) xs.length xs.length) Jq (by simp);have oh:=QZ.setCell (u:=.slice (some ⟨wc.heap.size,0,none⟩) xs.length xs.length) Jq (by simp);have Yq:=one_setCell (u:=.slice (some ⟨wc.heap.size,0,none⟩) xs.length xs.length) QO;have jV:=(Below.heap_setCell wc ⟨w.heap.size+1,0,none⟩ (.slice (some ⟨wc.heap.size,0,none⟩) xs.length xs.length) w.heap.size (by show w.heap.size≠w.heap.size+1;omega)).trans hkb;have hxb:=Dz.setCell (p:=⟨w.heap.size+1,0,none⟩) (by show w.heap.size<=w.heap.size+1;omega) (.slice (some ⟨wc.heap.size,0,none⟩) xs.length xs.length);have qi:(wc.setCell ⟨w.heap.size+1,0,none⟩ (.slice (some ⟨wc.heap.size,0,none⟩) xs.length xs.length)).heap.size=wc.heap.size:=(by simp);generalize wc.setCell ⟨w.heap.size+1,0,none⟩ (.slice (some ⟨wc.heap.size,0,none⟩) xs.length xs.length)=wb at *;clear YI QZ QO hkb Jq QK hgb hb1 QH Dz;rw [←qi]at KX Jy Yq ⊢;clear qi
  have QH:wb.cell? ⟨b1,o1+(M-1),none⟩=some (.int .u64 (T:Nat)):=by obtain⟨b3,o3,e3,Aih⟩:=oh.ad (by have:=Ox.out;omega);simp only [Asj,Addr.mk.injEq,and_true]at e3;obtain⟨rfl,rfl⟩:=e3;have h:=Aih (M-1) (by have:=Ox.out;omega);rw [←rF.out]at h;exact h
  have hb1:=World.block_lt_of_cell? wb _ QH;have hgb:=cell_of_one jV;have how:=nG wb wb.heap.size xs.length (Asf _) (by omega);go_wp2
  go_loopw [5,11] (fun r i wr=>AdA wb xs Y wb.heap.size r i wr) (fun _ i _=>(intOf i+1).toNat)
  case atStart=>exact⟨xs.length,List.replicate xs.length 0,0,_,rfl,rfl,JA.start Nq,fun j hj=>by simp only [Ag,List.getD_eq_getElem?_getD,List.getElem?_replicate];split<;>rfl,⟨none,0,by rw [Fz];rfl,by rw [Fz];exact⟨by simp,by omega,by simp,fun h=>by simp at h⟩⟩,how,(Aa.refl wb).alloc _⟩
  case round=>
   obtain⟨k,vs,rn,z,rfl,hz,hI,Za,BY,hown,Ac⟩:=hrel;clear how;have hZ:=Asb hz;have Co:=hI.le;by_cases hk:0<k
   ·have hz0:0<=z:=(by omega);obtain⟨j,rfl⟩:=Int.eq_ofNat_of_zero_le hz0;obtain rfl:k=j+1:=(by omega);clear hz;obtain⟨ba,oa,rfl,ek⟩:=Ajt.ad (by omega);have hg:=Ac.cellS (ek j (by omega));clear ek;obtain⟨wo,rfl⟩:=AcG (wr:World);have Yn:j<xs.length:=Co;have Az:=Cd kg Yn;have AqI:(pc 1000000000 rn).length<=M:=by rw [Ox.out];exact Vq (Nat.le_of_lt hI.rl)
    have FP:(wo.alloc (.cells #[.int .u64 (Ag xs j:Nat)] 230)).ownsRow wo.heap.size 230 1 (.slice (some ⟨wo.heap.size,0,none⟩) 1 1) 1 (Bq [Ag xs j]):=by
     have h:=World.ownsRow_lit (w:=wo) (base:=wo.heap.size) (e:=230) (size:=1) #[.int .u64 (Ag xs j:Nat)] 1 (Asf _) (by unfold maxLen;omega) (by simp)
     simpa [Bq]using h
    have pj:=BY.ext ((Aa.refl wo).alloc (.cells #[.int .u64 (Ag xs j:Nat)] 230))
    go_wp2_with (at_builtin;go_loud (refine Aet rfl _ _ rfl _ wo.heap.size (.slice (some ⟨wo.heap.size,0,none⟩) 1 1) 1 [Ag xs j] rfl FP (pc 1000000000 rn) u5 rfl pj (by omega) (by rw [Asn];omega) ?_);intro v1 w1 hown1 hx1)
    have Po:Rd w1 v1 ([Ag xs j]++pc 1000000000 rn):=Rd.of_own (by simpa [Nat.add_comm]using hown1) (by simp;omega)
    have Ie:∀z∈[Ag xs j]++pc 1000000000 rn,z<1000000000:=by
     intro z hz
     rcases List.mem_append.1 hz with h|h
     ·simp only [Ass]at h;omega
     ·exact AX b9 rn z h
    have e1:Aa wo w1:=hx1 wo ((Aa.refl wo).alloc _) (Asf _);refine(trim_c _ _ _ Po Ie).mono ?_;rintro e w2 ⟨v2,rfl,hv2,hx2⟩;have e2:Aa wo w2:=e1.trans hx2;obtain⟨t,ht⟩:=AcG (rn*1000000000+Ag xs j);rw [show Ah 1000000000 ([Ag xs j]++pc 1000000000 rn)=t by simp [Ah,AM b9];omega]at hv2;have hst:=hI.step Nq kg ht;have rG:=Asb ht
    have Mk:t<Y*1000000000:=by have h1:rn+1<=Y:=hI.rl;have h2:(rn+1)*1000000000<=Y*1000000000:=Nat.mul_le_mul_right _ h1;omega
    clear ht hown1 hx1 FP pj Po Ie hg BY;have UK:Aa wb w2:=Ac.trans e2;have io:=UK.cellS hgb;have kZ:∀W,Aa wb W→Rd W (.slice (some ⟨b1,o1,none⟩) M uA) (pc 1000000000 Y):=fun W hW=>⟨_,_,by rw [Ox.out],oh.ext hW⟩;have ho:=Rv (pc 1000000000 t) (pc 1000000000 Y) v2 _ w2 hv2 (kZ w2 UK) (AX b9 t) (AX b9 Y) (FY b9 t) (FY b9 Y);rw [AM b9,AM b9]at ho;have hown2:=Ap hown e2;have hlen:=hI.len;have HLEN:=Asb hlen;have D2:=Za j (by omega);have HZJ:=Asb D2;clear hlen D2;by_cases lG:t<Y
    ·rw [MZ lG]at ho;(go_wp2_with fail);(with_reducible refine ho.mono ?_);rintro e w3 ⟨rfl,hx3⟩;go_wp2;go_roundw
     case rel=>rw [Nat.div_eq_of_lt lG,Nat.mod_eq_of_lt lG,AnP HZJ.out (by rw [HLEN.out];exact Yn)]at hst;exact⟨j,vs,t,_,by go_num,rfl,hst,fun i hi=>Za i (by omega),hv2.ext hx3,Ap hown2 hx3,UK.trans hx3⟩
     case measure=>simp [intOf]
    ·have zD:Y<=t:=by omega
     obtain⟨s2,hs2,Ajw⟩:∃s2:Int,s2=EO t Y/\¬s2<0:=by
      rcases Nat.lt_or_eq_of_le zD with h|h
      ·exact⟨_,rfl,by rw [LK h];omega⟩
      ·exact⟨_,rfl,by rw [Qt h.symm];omega⟩
     rw [←hs2]at ho;clear hs2;obtain⟨-,-,Hd,DU,FD⟩:=eE zD Mk Nq;have OR:=AX b9 t;obtain⟨A2,c2,rfl,hr2⟩:=hv2;have df:=hr2.cap;have AqL:=hr2.max;have hlen2:=hr2.len;have Gl:=Ox.out;rw [←Gl]at Hd DU FD;rw [←rF.out]at FD;clear Gl;obtain⟨b2,o2,rfl,iQ⟩:=hr2.ad (by omega);have XY:=iQ ((pc 1000000000 t).length-1) (by omega);have XZ:=iQ ((pc 1000000000 t).length-2) (by omega);clear iQ;have B8:=Cd OR (show (pc 1000000000 t).length-1<(pc 1000000000 t).length by omega);have BR:=Cd OR (show (pc 1000000000 t).length-2<(pc 1000000000 t).length by omega);obtain⟨N,hN⟩:=AcG ((pc 1000000000 t).length);rw [←hN]at Hd DU FD df hlen2 XY XZ B8 BR ho ⊢;obtain⟨q1,nj⟩:=AcG (Ag (pc 1000000000 t) (N-1));obtain⟨q2,nk⟩:=AcG (Ag (pc 1000000000 t) (N-2));rw [←nj]at FD XY B8;rw [←nk]at FD XZ BR;have HN:=Asb hN;clear hN nj nk OR
     obtain⟨d0,FI,FM,N5⟩:∃d0:Nat,d0=(if M<N then q1*1000000000+q2 else q1)/\t/Y<=d0/T/\d0<1000000000000000000:=by
      refine⟨_,rfl,FD,?_⟩
      split<;>omega
     have qE:=Asb FI;clear FI FD;(go_wp2_with fail);(with_reducible refine ho.mono ?_);rintro e w3 ⟨rfl,hx3⟩;have Ai1:=hx3.cellS io;have AhV:=hx3.cellS XY;have AhW:=hx3.cellS XZ;clear XY XZ io ho
     go_upto_if 103 with fail
     go_cut [12] (fun d wx=>d=.int .u64 (d0:Nat)/\wx=w3)
     case first=>
      by_cases xX:M<N
      ·have e0:((q1:Int)*1000000000+(q2:Int))=(d0:Int):=(by rw [qE.out,if_pos xX];omega);go_wp2;go_meet
       case rel=>exact⟨by go_num,rfl⟩
      ·have e0:d0=q1:=(by rw [qE.out,if_neg xX]);go_wp2;go_meet
       case rel=>exact⟨by rw [e0],rfl⟩
     case rest=>
      obtain⟨rfl,rfl⟩:=hcut;have YG:t/Y<1000000000:=by rw [Nat.div_lt_iff_lt_mul Nq,Nat.mul_comm];exact Mk
      obtain⟨dm,KJ,Ain,eu⟩:∃dm:Nat,min (IntKind.u64.wrap ((d0:Int)/(T:Int))) 999999999=(dm:Int)/\t/Y<=dm/\dm<1000000000:=by
       have e1:(d0:Int)/(T:Int)=((d0/T:Nat):Int):=(by simp);refine⟨min (d0/T) 999999999,?_,?_,?_⟩
       ·have h1:d0/T<=d0:=Nat.div_le_self _ _;rw [e1,IntKind.wrap_u64];generalize d0/T=q at *;omega
       ·omega
       ·omega
      have AjH:=UK.trans hx3;have Ke:=oW Y dm eu (by rw [←Ox.out];omega) _ _ (kZ _ AjH);have nu:∀W,Aa w2 W→Rd W (.slice (some ⟨b2,o2,none⟩) N c2) (pc 1000000000 t):=fun W hW=>⟨_,_,by rw [HN.out],hr2.ext hW⟩;(go_wp2_with fail);(with_reducible refine Ke.mono ?_);rintro e w4 ⟨vp,rfl,hvp,Af,hfp⟩;clear hfp KJ;have Ai2:=Af.cellS Ai1;have P1:=hx3.trans Af;have tj:=UK.trans P1;go_wp2
      go_loopw [12,13] (fun d p wr=>∃dn:Nat,d=.int .u64 (dn:Nat)/\t/Y<=dn/\dn<1000000000/\Rd wr p (pc 1000000000 (dn*Y))/\Aa w4 wr) (fun d _ _=>(intOf d).toNat)
      case atStart=>exact⟨dm,rfl,Ain,eu,by rw [Nat.mul_comm];exact hvp,Aa.refl _⟩
      case round=>
       obtain⟨dn,rfl,Eo,C3,hp,Ae⟩:=hrel;have DF:=Rv (pc 1000000000 (dn*Y)) (pc 1000000000 t) _ _ wr hp (nu wr (P1.trans Ae)) (AX b9 _) (AX b9 t) (FY b9 _) (FY b9 t);rw [AM b9,AM b9]at DF;clear Ke AhV AhW;by_cases Dc:t<dn*Y
       ·rw [LK Dc]at DF;(go_wp2_with fail);(with_reducible refine DF.mono ?_);rintro e w5 ⟨rfl,Ao⟩;have Aqu:=(Ae.trans Ao).cellS Ai2;have hdY:dn*Y<=1000000000*Y:=Nat.mul_le_mul_right _ (by omega)
        have FI:0<dn:=by
         rcases Nat.eq_zero_or_pos dn with h|h
         ·rw [h]at Dc;omega
         ·exact h
        have zC:Y<=dn*Y:=Nat.le_mul_of_pos_left _ FI
        have hlp:(pc 1000000000 (dn*Y)).length<=M+1:=by refine Ll b9 ?_;have h1:=Il (AX b9 Y);rw [AM b9,←Ox.out]at h1;rw [Nat.pow_succ,Nat.mul_comm];exact Nat.mul_lt_mul'' h1 C3
        have Uq:=UW (pc 1000000000 (dn*Y)) (pc 1000000000 Y) _ _ w5 (hp.ext Ao) (kZ _ (tj.trans (Ae.trans Ao))) (by omega) (AX b9 _) (AX b9 Y) (Vq zC) (by rw [AM b9,AM b9];exact zC);rw [AM b9,AM b9]at Uq;(go_wp2_with fail);(with_reducible refine Uq.mono ?_);rintro e w6 ⟨p2,rfl,Ju,Aj⟩
        have hdq:t/Y<=dn-1:=by have:t/Y<dn:=(by rw [Nat.div_lt_iff_lt_mul Nq];exact Dc);omega
        go_wp2;go_roundw
        case rel=>exact⟨dn-1,by go_num,hdq,by omega,by rw [Nat.sub_mul,Nat.one_mul];exact Ju,Ae.trans (Ao.trans Aj)⟩
        case measure=>simp [intOf];omega
       ·have I8:dn=t/Y:=by have h:dn<=t/Y:=(by rw [Nat.le_div_iff_mul_le Nq];omega);omega
        obtain⟨s5,hs5,Ark⟩:∃s5:Int,s5=EO (dn*Y) t/\¬s5>0:=by
         rcases Nat.lt_or_eq_of_le (Nat.le_of_not_lt Dc)with h|h
         ·exact⟨_,rfl,by rw [MZ h];omega⟩
         ·exact⟨_,rfl,by rw [Qt h];omega⟩
        rw [←hs5]at DF;have VR:=Asb I8;clear hs5 I8;(go_wp2_with fail);(with_reducible refine DF.mono ?_);rintro e w5 ⟨rfl,Ao⟩;have lX:=Ae.trans Ao;have tq:=tj.trans lX;have Ai4:=tq.cellS (cell_of_one Yq);have jq:dn*Y<=t:=Nat.le_of_not_lt Dc;have Uq:=xn (pc 1000000000 t) (pc 1000000000 (dn*Y)) _ _ w5.drew ((nu _ (P1.trans lX)).ext (Aa.refl w5).drew) ((hp.ext Ao).ext (Aa.refl w5).drew) (by rw [←HN.out];omega) (AX b9 t) (AX b9 _) (Vq jq) (by rw [AM b9,AM b9];exact jq);rw [AM b9,AM b9]at Uq;have Mh:=Ap hown2 (P1.trans lX);have Jz:vs.length=xs.length:=HLEN.out;have rI:=Asb Jz
        go_upto_region 29 with fail
        clear Jz;refine wp_region_noPanic ?_
        go_region_with (go_at_call 147;((with_reducible refine Uq.mono ?_);rintro e w6 ⟨v6,rfl,⟨A6,c6,rfl,Ca⟩,Aj,jA⟩;have HF6:=Asb jA;clear jA;have Aqw:=Aj.cellS (show w5.drew.cell? ⟨w.heap.size+1,0,none⟩=_ from Ai4);have GL:=Ap (Rx Mh) Aj;have hgo:w6.cell? ⟨wb.heap.size,j,none⟩=some (.int .u64 (Ag vs j:Nat)):=(by rw [GL.cellAt j (by omega)];simp [Bq,Ag,rI.out,Yn]);have Jp:=GL.frozenAt j))
        all_goals refine NoPanic.normal ?_
        all_goals go_wp2
        all_goals
         go_roundw
         case rel=>
          have jy:wb.heap.size<w5.heap.size:=World.block_lt_of_cell? w5 ⟨wb.heap.size,j,none⟩ (u:=.int .u64 (Ag vs j:Nat)) (by rw [Mh.cellAt j (by omega)];simp [Bq,Ag,rI.out,Yn]);obtain rfl:=VR.out;have KZ:=(GL.stored j (.int .u64 ((t/Y:Nat):Int))).1;rw [aJ]at KZ;rw [show t-t/Y*Y=t%Y by rw [Nat.mod_eq_sub_mul_div,Nat.mul_comm]]at Ca ⊢;refine⟨j,vs.set j (t/Y),t%Y,_,by go_num,rfl,hst,fun i hi=>?_,⟨A6,c6,rfl,Ca.setOther _ (fun b o _ hb=>?_)⟩,KZ,?_⟩
          ·have h:=Za i (by omega);simp only [Ag,List.getD_eq_getElem?_getD,List.getElem?_set_ne (show j≠i by omega)]at h ⊢;exact h
          ·have h:w5.heap.size<=b:=HF6.out b (by rw [hb];rfl);show b≠wb.heap.size;omega
          ·exact((tq.drew).trans Aj).setCell (by show wb.heap.size<=wb.heap.size;omega) _
         case measure=>simp [intOf]
   ·obtain rfl:k=0:=(by omega);obtain rfl:z = -1:=(by omega);obtain⟨hq,hr⟩:=hI.done;rw [HXS.out,AM b9]at hq hr;rw [HX.out,HY.out,Nat.mul_div_mul_right _ _ hf0]at hq;rw [HX.out,HY.out,Nat.mul_mod_mul_right]at hr;have Pp:rn/f=x%y:=(by rw [hr,Nat.mul_div_cancel _ hf0]);have Yv:=hI.lt;have HQ:=Asb hq;have Sv:=Asb Pp;clear hz hq hr Pp Za;have Jq:=Ac.cellS (cell_of_one Yq)
    have U1:Cc wr (some ⟨wb.heap.size,0,none⟩) xs.length vs:=by obtain⟨A',c',e1,h1⟩:=Rd.of_own (base:=wb.heap.size) (l:=vs) (by rw [hI.len];exact hown) (by rw [hI.len];omega);simp only [Value.slice.injEq]at e1;obtain⟨rfl,_,rfl⟩:=e1;exact h1
    have FP:Cc (wr.alloc (.cells #[.int .u64 (f:Nat)] 230)) (some ⟨wr.heap.size,0,none⟩) 1 (pc 1000000000 f):=by
     have h:Cc (wr.alloc (.cells #[.int .u64 (f:Nat)] 230)) (some ⟨wr.heap.size,0,none⟩) 1 [f]:=
      ⟨by simp,by omega,by simp,fun _=>⟨wr.heap.size,0,rfl,fun j hj=>by
       obtain rfl:j=0:=by simpa using hj
       rw [World.cell?_alloc_at _ _ _ _ (by rfl)];simp [Ag]⟩⟩
     rw [Vr b9 hf0 QI];exact h
    have TU:=vK rn f hf0 QI _ _ _ (BY.ext ((Aa.refl wr).alloc _)) ⟨_,_,rfl,FP⟩;rw [Vr b9 hf0 QI]at TU;simp only [List.length_singleton]at TU;simp only [←HFE.out]at TU;(go_wp2_with fail);(with_reducible refine TU.mono ?_);rintro e w7 ⟨vq,vr,rfl,lO,EJ,Aj⟩;clear EJ TU;have YX:=((Aa.refl wr).alloc (.cells #[.int .u64 (1000000000/(tp+1))] 230)).trans Aj;have jL:=YX.cellS Jq;have oz:=U1.ext YX;have Aqt:=free_of_one ((YX.block _ (by have:=Ac.size;omega)).trans ((Ac.block _ Jy).trans Yq));have ht:=Sb vs _ _ w7 oz Yv;rw [hI.len]at ht;(go_wp2_with fail);(with_reducible refine ht.mono ?_);rintro e w8 ⟨rfl,rfl⟩;go_wp2;refine bodyPost_ret (v:=.tuple #[.slice (some ⟨wb.heap.size,0,none⟩) (pc 1000000000 (Ah 1000000000 vs)).length xs.length,vq]) (by simp [results,Tryz.results213,go_sem,jL]) rfl ?_;refine⟨_,_,rfl,⟨_,_,by rw [HQ.out],?_⟩,?_,?_⟩
    ·rw [←HQ.out];exact(oz.pc Yv).setCell jL (by simp)
    ·rw [←Sv.out];exact lO.setCell jL (by simp)
    ·exact((hxb.trans Ac).trans YX).setCell (by show w.heap.size<=w.heap.size+1;omega) _
theorem Xe(x y:Nat)(hy:0<y)(hlx:(pc 1000000000 x).length<39000)(u v:Value)(w:World)(hu:Rd w u (pc 1000000000 x))(hv:Rd w v (pc 1000000000 y)) :
  Calls Tryz.prog 213 #[u,v] w (Qg (x/y) (x%y) w):=by
 rcases Nat.lt_or_ge x y with h|h
 ·rw [Nat.div_eq_of_lt h,Nat.mod_eq_of_lt h];exact vJ x y h u v w hu hv
 ·rcases Nat.lt_or_ge y 1000000000 with h2|h2
  ·exact vK x y hy h2 u v w hu hv
  ·exact AfP x y h h2 hlx u v w hu hv
end Go.Proofs.YtdaefncphfeaeaaGreatDoor
namespace Go.Proofs.YtdaefncphfeaeaaGreatDoor
open Go.RowKit Kl
theorem AlV{n k:Nat}(h:n<10^(9*k)):(pc 1000000000 n).length<=k:=by
 refine Ll b9 ?_;rw [Nat.pow_mul]at h;exact h
theorem AkM{x a b:Nat}(h:x<10^a)(hab:a<=b):x<10^b:=Asp h (Nat.pow_le_pow_right (by omega) hab)
theorem Av.pc{z:Int}(h:Av z):(pc 1000000000 z.natAbs).length<=445:=by
 obtain⟨m,hm⟩:=AcG (445);rw [←hm];exact AlV (AkM h (show WH<=9*m by rw [hm];decide))
theorem MY(m:Bool)(x:Nat):FB m x=I (if m then -(x:Int)else x):=by
 unfold FB;by_cases h:x=0
 ·subst h;rw [if_pos rfl];cases m<;>simp [ML]
 ·rw [if_neg h]
  cases m
  ·rw [if_neg (by simp),if_neg (by simp),Ci]
  ·rw [if_pos rfl,if_pos rfl,Qb x (by omega)]
theorem M4{z:Int}{k:Nat}(h:(I z).length<=k):PH z k=.tuple #[.int .i64 z,.bool true]:=if_pos h
theorem RF{z:Int}{k:Nat}(h:¬(I z).length<=k):PH z k=.tuple #[.int .i64 0,.bool false]:=if_neg h
theorem ZE(z:Int)(w:World):Calls Tryz.prog 142 #[S (I z),.int .i64 9] w (Bg (PH z 9) w):=Aat z 9 (by omega) w
theorem Oj(z:Int)(w:World):Calls Tryz.prog 142 #[S (I z),.int .i64 18] w (Bg (PH z 18) w):=Aat z 18 (by omega) w
theorem Ko{z:Int}{k:Nat}(h:(I z).length<=k):z.natAbs<10^k:=by
 rcases Ed z with⟨n,rfl,e⟩|⟨n,hn,rfl,e⟩
 ·rw [e]at h;simpa using J1 (n:=n) (k:=k) (by omega)
 ·rw [e,List.length_cons]at h;simpa using J1 (n:=n) (k:=k) (by omega)
theorem IU{x y:Int}(hx:x.natAbs<1000000000)(hy:y.natAbs<1000000000):IntKind.i64.wrap (x*y)=x*y:=by
 have h:=Va hx hy;rw [←Int.natAbs_mul]at h;exact Asm _ (by omega)
theorem Alb{x y:Int}(hx:x.natAbs<1000000000)(hy:y.natAbs<1000000000):-9223372036854775808<=x*y/\x*y<=9223372036854775807:=by
 have h:=Va hx hy;rw [←Int.natAbs_mul]at h;omega
theorem Ald(x y:Int):x*y=if (decide (x<0) != decide (y<0))=true then -((x.natAbs*y.natAbs:Nat):Int)else ((x.natAbs*y.natAbs:Nat):Int):=by
 rw [←Int.natAbs_mul];by_cases hx:x<0<;>by_cases hy:y<0<;>simp [hx,hy]
 ·have:=Int.mul_nonneg_of_nonpos_of_nonpos (Int.le_of_lt hx) (Int.le_of_lt hy);omega
 ·have:=Int.mul_nonpos_of_nonpos_of_nonneg (Int.le_of_lt hx) (show 0<=y by omega);omega
 ·have:=Int.mul_nonpos_of_nonneg_of_nonpos (show 0<=x by omega) (Int.le_of_lt hy);omega
 ·have:=Int.mul_nonneg (show 0<=x by omega) (show 0<=y by omega);omega
theorem AjW(x y:Int)(hx:(I x).length<=9)(hy:(I y).length<=9)(w:World)(hw:Ai w) :
  Calls Tryz.prog 141 #[S (I x),S (I y)] w (A0 (I (x*y)) w):=by
 have q1:=ZE x;have q2:=ZE y;rw [M4 hx]at q1;rw [M4 hy]at q2;have b1:=Ko hx;have b2:=Ko hy;have hwr:=IU b1 b2;have hin:=Alb b1 b2;have ho:=fun W hW=>P7 (x*y) hin.1 hin.2 W hW;clear hx hy b1 b2 hin;go_enter Tryz.func141,Tryz.ntmps141;(go_wp2_with fail);(with_reducible refine(q1 _).mono ?_);rintro e w1 ⟨rfl,hx1⟩;(go_wp2_with fail);(with_reducible refine(q2 _).mono ?_);rintro e w2 ⟨rfl,hx2⟩;have BB:=hx1.trans hx2;(go_wp2_with fail);(with_reducible refine(ho _ (hw.ext BB)).mono ?_);rintro e w3 ⟨rfl,hx3⟩;go_wp2;go_ret;exact⟨rfl,BB.trans hx3⟩
theorem Ab{W:World}{b o:Nat}{cs:Array Value}{t:TypeId}{fz:Nat×Nat}{v:Value}(h:W.heap[b]?=some (.cells cs t fz))(hv:cs[o]?=some v):W.cell? ⟨b,o,none⟩=some v:=by
 unfold World.cell?;simp [h,hv]
theorem LJ(w:World)(a b c d:Value)(s t:TypeId):∃W,W=(w.alloc (.cells #[a,b] s)).alloc (.cells #[c,d] t)/\Aa w W/\W.heap[w.heap.size]?=some (.cells #[a,b] s)/\W.heap[w.heap.size+1]?=some (.cells #[c,d] t):=by
 refine⟨_,rfl,((Aa.refl _).alloc _).alloc _,(Below.heap_alloc _ _ _ (by simp)).trans (Ase w _),?_⟩;have h:=Ase (w.alloc (.cells #[a,b] s)) (.cells #[c,d] t)
 rwa [Asn]at h
theorem AjV(x y:Int)(hx:Av x)(hy:Av y)(hn:¬((I x).length<=9/\(I y).length<=9))(w:World)(hw:Ai w) :
  Calls Tryz.prog 141 #[S (I x),S (I y)] w (A0 (I (x*y)) w):=by
 have q1:=ZE x;have q2:=ZE y;have lx:=hx.pc;have ly:=hy.pc;have o1:=nE x hx;have o2:=nE y hy;have HS:Hid (x*y=if (!(decide (x<0) == decide (y<0)))=true then -((x.natAbs*y.natAbs:Nat):Int)else ((x.natAbs*y.natAbs:Nat):Int)):=Asb (Ald x y);clear hx hy;by_cases h1:(I x).length<=9
 case' pos=>rw [M4 h1]at q1;rw [RF fun h=>hn ⟨h1,h⟩]at q2;clear h1 hn;go_enter Tryz.func141,Tryz.ntmps141;(go_wp2_with fail);(with_reducible refine(q1 _).mono ?_);rintro e w1 ⟨rfl,hx1⟩;(go_wp2_with fail);(with_reducible refine(q2 _).mono ?_);rintro e w2 ⟨rfl,hx2⟩;have hx:=hx1.trans hx2;clear hx1 hx2;(go_wp2_with fail)
 case' neg=>rw [RF h1]at q1;clear h1 hn;go_enter Tryz.func141,Tryz.ntmps141;(go_wp2_with fail);(with_reducible refine(q1 _).mono ?_);rintro e w2 ⟨rfl,hx⟩;(go_wp2_with fail)
 all_goals
  clear q1 q2;(with_reducible refine(o1 _).mono ?_);rintro e w3 ⟨v3,rfl,⟨A3,c3,rfl,hv3⟩,hx3⟩;(go_wp2_with fail);(with_reducible refine(o2 _).mono ?_);rintro e w4 ⟨v4,rfl,⟨A4,c4,rfl,hv4⟩,Af⟩;have hx:=(hx.trans hx3).trans Af;have hv3:=hv3.ext Af;clear o1 o2 hx3 Af;(go_wp2_with fail);obtain⟨W,hW,hE,hb1,hb2⟩:=LJ w4 (.bool (decide (x<0))) (.slice A3 (pc 1000000000 x.natAbs).length c3) (.bool (decide (y<0))) (.slice A4 (pc 1000000000 y.natAbs).length c4) 201 201;rw [←hW];have hv3:=hv3.ext hE.drew;have hv4:=hv4.ext hE.drew;have Bz:=hx.trans hE;have k1:W.cell? ⟨w4.heap.size,0,none⟩=some (.bool (decide (x<0))):=Ab hb1 rfl;have k2:W.cell? ⟨w4.heap.size,1,none⟩=some (.slice A3 (pc 1000000000 x.natAbs).length c3):=Ab hb1 rfl;have k3:W.cell? ⟨w4.heap.size+1,0,none⟩=some (.bool (decide (y<0))):=Ab hb2 rfl;have k4:W.cell? ⟨w4.heap.size+1,1,none⟩=some (.slice A4 (pc 1000000000 y.natAbs).length c4):=Ab hb2 rfl;clear hW hb1 hb2 hE hx;have ht:=Ao8 (pc 1000000000 x.natAbs) (pc 1000000000 y.natAbs) _ _ W.drew ⟨_,_,rfl,hv3⟩ ⟨_,_,rfl,hv4⟩ (by omega) (by omega) (AX b9 _) (AX b9 _);rw [AM b9,AM b9]at ht;have hc:=fun W2 (A5:Option Addr) (c5:Nat) (h:Aa W.drew W2) (h2:Cc W2 A5 c5 (pc 1000000000 (x.natAbs*y.natAbs)))=>Gj (!(decide (x<0) == decide (y<0))) (x.natAbs*y.natAbs) (.slice A5 (pc 1000000000 (x.natAbs*y.natAbs)).length c5) W2 (hw.ext (Bz.drew.trans h)) ⟨A5,c5,rfl,h2⟩;rw [MY,←HS.out]at hc
  go_region_held3 (fun w'=>w'.cell? ⟨w4.heap.size,0,none⟩=some (.bool (decide (x<0)))/\w'.cell? ⟨w4.heap.size,1,none⟩=some (.slice A3 (pc 1000000000 x.natAbs).length c3)/\w'.cell? ⟨w4.heap.size+1,0,none⟩=some (.bool (decide (y<0)))/\w'.cell? ⟨w4.heap.size+1,1,none⟩=some (.slice A4 (pc 1000000000 y.natAbs).length c4))
   (first|go_keep|exact⟨Ae.cellS k1,Ae.cellS k2,Ae.cellS k3,Ae.cellS k4⟩|exact⟨(Ae.trans Ao).cellS k1,(Ae.trans Ao).cellS k2,(Ae.trans Ao).cellS k3,(Ae.trans Ao).cellS k4⟩)
   (first|((with_reducible refine ht.mono ?_);rintro e w5 ⟨v5,rfl,⟨A5,c5,rfl,AV⟩,Ae⟩)|((with_reducible refine(hc _ _ _ Ae AV).mono ?_);rintro e w6 ⟨rfl,Ao⟩))
  go_wp2;go_ret;exact⟨rfl,(Bz.drew.trans Ae).trans Ao⟩
theorem Ij(x y:Int)(hx:Av x)(hy:Av y)(w:World)(hw:Ai w):Calls Tryz.prog 141 #[S (I x),S (I y)] w (A0 (I (x*y)) w):=by
 by_cases h:(I x).length<=9/\(I y).length<=9
 ·exact AjW x y h.1 h.2 w hw
 ·exact AjV x y hx hy h w hw
end Go.Proofs.YtdaefncphfeaeaaGreatDoor
