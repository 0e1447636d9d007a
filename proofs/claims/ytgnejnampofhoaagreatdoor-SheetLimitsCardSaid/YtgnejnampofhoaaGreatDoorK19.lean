/- K19: ShQ6 ShQ7 ShQ7X ShKA1 ShKJ1 ShD5 ShD7. -/
import Derived.Test.YtgnejnampofhoaaGreatDoorK04
import Derived.Test.YtgnejnampofhoaaGreatDoorK18
set_option maxRecDepth 100000
set_option maxHeartbeats 4000000
namespace Go.Proofs.YtgnejnampofhoaaGreatDoor
section
open Go.RowKit Kl
theorem uD{g:FuncId}{cb:Array Value}(eg:∀args w,(callFunc g args).run Tryz.prog w=.ok (.enter g args) w)(p:EdZ→Bool)(l:List EdZ)(A:Option Addr)(c:Nat)(w:World)(hr:Ae w A (Au l))(hc:l.length<=c)(hcm:c<=9223372036854775807)
  (hp:∀e∈l,∀W,Ac w W→Calls Tryz.prog g (#[Hq e]++cb) W (By (p e) W)) :
  Calls Tryz.prog 174 #[.slice A l.length c,.func (.func g) #[] cb] w (AK (CU p l) w):=by
 obtain⟨r,hr0⟩:=Ajv (CU p l);rw [←hr0];have HR:=Ajw hr0;have HP:=Ajw hp;clear hr0 hp;go_enter Tryz.func174,Tryz.ntmps174;go_wp2
 go_loopw [8] (fun i wr=>∃j:Nat,i=.int .i64 (j:Nat)/\j<=l.length/\(∀q∈l.take j,p q=false)/\Ac w wr) (fun i _=>l.length-(intOf i).toNat)
 case atStart=>exact⟨0,rfl,by omega,by simp,Ac.refl _⟩
 case round=>
  obtain⟨j,rfl,hj,Ap,Ag⟩:=hrel;have HO:=Ajw Ap;clear Ap;by_cases hlt:j<l.length
  ·obtain⟨b,o,rfl,hg1,hg2,hg3,hg4⟩:=KV (hr.ext Ag) hlt;obtain⟨q,hq⟩:=Ajv (l[j]);have bf:=HP.out l[j] (Aj0 hlt) wr Ag;rw [←hq]at hg1 hg2 hg3 hg4 bf;unfold Hq at bf;have hj0:(0:Int)<=(j:Int):=(by omega);have AP:(j:Int)<(l.length:Int):=(by omega);have HQ:=Ajw hq;clear hq
   cases e0:p q
   ·have HE:=Ajw e0;rw [e0]at bf;clear e0;(go_wp2_with fail);(with_reducible refine bf.mono ?_);rintro e w2 ⟨rfl,hx2⟩;go_wp2;go_roundw
    case rel=>
     refine⟨j+1,by go_num,hlt,?_,Ag.trans hx2⟩;intro x hx;rw [Aj2 hlt,←HQ.out]at hx
     rcases List.mem_append.1 hx with h|h
     ·exact HO.out x h
     ·simp only [AjB]at h;rw [h];exact HE.out
    case measure=>simp [intOf];omega
   ·have Ee:r=(j:Int):=(by rw [HR.out];exact aA hlt HO.out (by rw [←HQ.out];exact e0));rw [e0]at bf;clear e0;subst Ee;(go_wp2_with fail);(with_reducible refine bf.mono ?_);rintro e w2 ⟨rfl,hx2⟩;go_wp2;go_ret;exact⟨rfl,Ag.trans hx2⟩
  ·have hle:(l.length:Int)<=(j:Int):=(by omega);have Ee:r = -1:=(by rw [HR.out];exact aB (by have:=HO.out;rw [Aj7 (by omega)]at this;exact this));subst Ee;go_wp2;go_ret;exact⟨rfl,Ag⟩
theorem nw{g:FuncId}{cb:Array Value}(eg:∀args w,(callFunc g args).run Tryz.prog w=.ok (.enter g args) w)(p:EdZ→Bool)(l:List EdZ)(A:Option Addr)(c:Nat)(w:World)(hr:Ae w A (Au l))(hc:l.length<=c)(hcm:c<=9223372036854775807)
  (hp:∀e∈l,∀W,Ac w W→Calls Tryz.prog g (#[Hq e]++cb) W (By (p e) W)) :
  Calls Tryz.prog 176 #[.slice A l.length c,.func (.func g) #[] cb] w (By (l.any p) w):=by
 have ix:=uD eg p l A c w hr hc hcm hp;have ha:=ZZ p l;obtain⟨r,hr0⟩:=Ajv (l.any p);rw [←hr0]at ha ⊢;generalize CU p l=z at *;clear hr hr0 hp eg;go_enter Tryz.func176,Tryz.ntmps176;(go_wp2_with fail);(with_reducible refine ix.mono ?_);rintro e w1 ⟨rfl,hx⟩;go_wp2;go_ret;exact⟨by rw [←ha];rfl,hx⟩
end
section
open Go.RowKit Kl
def Sk(t:Bs×Bs):Value:=.agg #[S t.1,S t.2]
theorem Vn{w:World}{A:Option Addr}{l:List (Bs×Bs)}(hr:Ae w A (flat l)){j:Nat}(h:j<l.length):∃b o,A=some ⟨b,o,none⟩/\w.cell? ⟨b,o+j*2,none⟩=some (S l[j].1)/\w.cell? ⟨b,o+j*2+1,none⟩=some (S l[j].2):=by
 obtain⟨b,o,e,hcs⟩:=hr.ad (by rw [flat_length];omega);obtain⟨f1,f2⟩:=flat_get l j h;have hg1:=hcs (j*2) (by rw [flat_length];omega);have hg2:=hcs (j*2+1) (by rw [flat_length];omega);rw [Aj4 (by rw [flat_length];omega),Aj3]at f1 f2;rw [f1]at hg1;rw [f2,←Nat.add_assoc]at hg2;exact⟨b,o,e,hg1,hg2⟩
theorem Ac7{g:FuncId}{cb:Array Value}(eg:∀args w,(callFunc g args).run Tryz.prog w=.ok (.enter g args) w)(p:(Bs×Bs)→Bool)(l:List (Bs×Bs))(A:Option Addr)(c:Nat)(w:World)(hr:Ae w A (flat l))(hc:l.length<=c)(hcm:c<=9223372036854775807)
  (hp:∀e∈l,∀W,Ac w W→Calls Tryz.prog g (#[Sk e]++cb) W (By (p e) W)) :
  Calls Tryz.prog 190 #[.slice A l.length c,.func (.func g) #[] cb] w (AK (CU p l) w):=by
 obtain⟨r,hr0⟩:=Ajv (CU p l);rw [←hr0];have HR:=Ajw hr0;have HP:=Ajw hp;clear hr0 hp;go_enter Tryz.func190,Tryz.ntmps190;go_wp2
 go_loopw [8] (fun i wr=>∃j:Nat,i=.int .i64 (j:Nat)/\j<=l.length/\(∀q∈l.take j,p q=false)/\Ac w wr) (fun i _=>l.length-(intOf i).toNat)
 case atStart=>exact⟨0,rfl,by omega,by simp,Ac.refl _⟩
 case round=>
  obtain⟨j,rfl,hj,Ap,Ag⟩:=hrel;have HO:=Ajw Ap;clear Ap;by_cases hlt:j<l.length
  ·obtain⟨b,o,rfl,hg1,hg2⟩:=Vn (hr.ext Ag) hlt;obtain⟨q,hq⟩:=Ajv (l[j]);have bf:=HP.out l[j] (Aj0 hlt) wr Ag;rw [←hq]at hg1 hg2 bf;unfold Sk at bf;have hj0:(0:Int)<=(j:Int):=(by omega);have AP:(j:Int)<(l.length:Int):=(by omega);have HQ:=Ajw hq;clear hq
   cases e0:p q
   ·have HE:=Ajw e0;rw [e0]at bf;clear e0;(go_wp2_with fail);(with_reducible refine bf.mono ?_);rintro e w2 ⟨rfl,hx2⟩;go_wp2;go_roundw
    case rel=>
     refine⟨j+1,by go_num,hlt,?_,Ag.trans hx2⟩;intro x hx;rw [Aj2 hlt,←HQ.out]at hx
     rcases List.mem_append.1 hx with h|h
     ·exact HO.out x h
     ·simp only [AjB]at h;rw [h];exact HE.out
    case measure=>simp [intOf];omega
   ·have Ee:r=(j:Int):=(by rw [HR.out];exact aA hlt HO.out (by rw [←HQ.out];exact e0));rw [e0]at bf;clear e0;subst Ee;(go_wp2_with fail);(with_reducible refine bf.mono ?_);rintro e w2 ⟨rfl,hx2⟩;go_wp2;go_ret;exact⟨rfl,Ag.trans hx2⟩
  ·have hle:(l.length:Int)<=(j:Int):=(by omega);have Ee:r = -1:=(by rw [HR.out];exact aB (by have:=HO.out;rw [Aj7 (by omega)]at this;exact this));subst Ee;go_wp2;go_ret;exact⟨rfl,Ag⟩
theorem WG{g:FuncId}{cb:Array Value}(eg:∀args w,(callFunc g args).run Tryz.prog w=.ok (.enter g args) w)(p:(Bs×Bs)→Bool)(l:List (Bs×Bs))(A:Option Addr)(c:Nat)(w:World)(hr:Ae w A (flat l))(hc:l.length<=c)(hcm:c<=9223372036854775807)
  (hp:∀e∈l,∀W,Ac w W→Calls Tryz.prog g (#[Sk e]++cb) W (By (p e) W)) :
  Calls Tryz.prog 107 #[.slice A l.length c,.func (.func g) #[] cb] w (By (l.any p) w):=by
 have ix:=Ac7 eg p l A c w hr hc hcm hp;have ha:=ZZ p l;obtain⟨r,hr0⟩:=Ajv (l.any p);rw [←hr0]at ha ⊢;generalize CU p l=z at *;clear hr hr0 hp eg;go_enter Tryz.func107,Tryz.ntmps107;(go_wp2_with fail);(with_reducible refine ix.mono ?_);rintro e w1 ⟨rfl,hx⟩;go_wp2;go_ret;exact⟨by rw [←ha];rfl,hx⟩
theorem Xu:∀args w,(callFunc 162 args).run Tryz.prog w=.ok (.enter 162 args) w:=enters_of Tryz.func162 (by kernel_rfl) rfl
def Dm(t:Bs×Bs):Bool:=!(t.1 == []&&t.2 == [])
theorem Xb(t:Bs×Bs)(w:World):Calls Tryz.prog 162 #[Sk t] w (By (Dm t) w):=by
 have hE:=(Ac.refl w).alloc (.cells #[S t.1,S t.2] 27);have hq:=Ajy w (.cells #[S t.1,S t.2] 27);obtain⟨x,y⟩:=t;unfold Sk Dm
 dsimp only at hE hq ⊢
 go_enter Tryz.func162,Tryz.ntmps162
 go_upto_region 1 with fail
 have q0:=Aa (o:=0) hq rfl;have q1:=Aa (o:=1) hq rfl
 cases x with
 | nil=>
  cases y with
  | nil=>
   go_wp2;go_ret;exact⟨rfl,hE⟩
  | cons b y=>
   go_wp2;go_ret;exact⟨rfl,hE⟩
 | cons a x=>go_wp2;go_ret;exact⟨rfl,hE⟩
end
section
open Go.RowKit Kl
open Go.ChangeMaps (setBlock)
def JV(l:List (Int×Int)):List MapEntry:=l.mapIdx fun i e=>⟨.int .i64 e.1,.int .i64 e.2,i⟩
theorem yw(l:List (Int×Int))(e:Int×Int):JV (l ++ [e])=JV l ++ [⟨.int .i64 e.1,.int .i64 e.2,l.length⟩]:=by simp [JV,List.mapIdx_append]
def BU(k:Int)(l:List (Int×Int)):Option Int:=(l.find? (fun e=>k == e.1)).map (·.2)
theorem mE(k:Int):∀(l:List (Int×Int)) (i j:Nat),∃x,Instr.findNow (.int .i64) (.int .i64 k) (l.mapIdx fun i e=>⟨.int .i64 e.1,.int .i64 e.2,i+j⟩) i=some x/\x.map (·.2)=(BU k l).map (fun z=>Value.int .i64 z)
 | [],i,j=>⟨none,by simp [Instr.findNow],by simp [BU]⟩
 | e::l,i,j=>by
  rw [List.mapIdx_cons];by_cases h:k=e.1
  ·refine⟨some (i,.int .i64 e.2),?_,?_⟩
   ·simp [Instr.findNow,Instr.sameNow,h]
   ·simp [BU,h]
  ·obtain⟨x,h1,h2⟩:=mE k l (i+1) (j+1);have hh:(k == e.1)=false:=(by simpa using h);refine⟨x,?_,?_⟩
   ·simp only [Instr.findNow,Instr.sameNow,if_pos,hh]
    simpa only [Nat.add_assoc,Nat.add_comm 1 j]using h1
   ·rw [h2];simp [BU,hh]
theorem X9(k:Int)(l:List (Int×Int))(W:World):∃x,(Instr.findKey 3 (.int .i64 k) (JV l)).run Tryz.prog W=.ok x W/\x.map (·.2)=(BU k l).map (fun z=>Value.int .i64 z):=by
 obtain⟨x,h1,h2⟩:=mE k l 0 0;exact⟨x,MapKept.run_findKey Tryz.underlying3 h1,h2⟩
theorem Sq(k:Int)(l:List (Int×Int)){b clock:Nat}{W:World}(hb:W.heap[b]?=some (.map (JV l).toArray clock)) :
  (Instr.lookup 237 (.map (some b)) (.int .i64 k) true).run Tryz.prog W=.ok (.tuple #[.int .i64 ((BU k l).getD 0),.bool (BU k l).isSome]) W:=by
 obtain⟨x,h1,h2⟩:=X9 k l W;have hz:(zeroValue 3).run Tryz.prog W=.ok (.int .i64 0) W:=(by simp [go_sem]);have hc:∀b,(Instr.checkKey b 10000 3 (.int .i64 k)).run Tryz.prog W=.ok () W:=fun b=>MapKept.run_checkKey (k:=.int .i64 k) Tryz.underlying3 (by simp [MapKept.IsKey]) b 9999;have hm:=run_underlying (w:=W) Tryz.underlying237
 cases h:BU k l with
 | none=>
  rw [h]at h2;have hx:x=none:=(by simpa using h2);subst hx;simp [Instr.lookup,hm,MapKept.run_getObj_map hb,hc,h1,hz,Result.andThen]
 | some z=>rw [h]at h2;obtain⟨⟨i,v⟩,rfl,hv⟩:=Option.map_eq_some_iff.1 h2;simp only at hv;subst hv;simp [Instr.lookup,hm,MapKept.run_getObj_map hb,hc,h1,Result.andThen]
theorem AfL(k z:Int)(l:List (Int×Int))(hno:BU k l=none){b:Nat}{W:World}(hb:W.heap[b]?=some (.map (JV l).toArray l.length)) :
  (Instr.mapUpdate 237 (.map (some b)) (.int .i64 k) (.int .i64 z)).run Tryz.prog W=.ok () (setBlock W b (.map (JV (l ++ [(k,z)])).toArray (l.length+1))):=by
 obtain⟨x,h1,h2⟩:=X9 k l W;have hc:∀b,(Instr.checkKey b 10000 3 (.int .i64 k)).run Tryz.prog W=.ok () W:=fun b=>MapKept.run_checkKey (k:=.int .i64 k) Tryz.underlying3 (by simp [MapKept.IsKey]) b 9999;have hm:=run_underlying (w:=W) Tryz.underlying237;rw [hno]at h2;have hx:x=none:=(by simpa using h2);subst hx;rw [yw];simp [Instr.mapUpdate,hm,MapKept.run_getObj_map hb,hc,h1,MapKept.run_setObj_map _ hb,Result.andThen,setBlock]
def CE(W:World)(b:Nat)(l:List (Int×Int)):Prop:=W.heap[b]?=some (.map (JV l).toArray l.length)
theorem CE.put{W:World}{b:Nat}{l:List (Int×Int)}(h:CE W b l)(k z:Int)(hno:BU k l=none) :
  ∃W',(Instr.mapUpdate 237 (.map (some b)) (.int .i64 k) (.int .i64 z)).run Tryz.prog W=.ok () W'/\CE W' b (l ++ [(k,z)])/\W.grownBy W' (some b)/\W'.heap.size=W.heap.size:=by
 refine⟨_,AfL k z l hno h,?_,Kc h,by simp [setBlock]⟩;unfold CE;rw [KY h];simp
/-! ### Bools in a row -/
def GF(l:List Bool):List Value:=l.map Value.bool
theorem iQ(l:List Bool):(GF l).length=l.length:=by simp [GF]
theorem Afl{w:World}{A:Option Addr}{l:List Bool}(hr:Ae w A (GF l)){j:Nat}(h:j<l.length):∃b o,A=some ⟨b,o,none⟩/\w.cell? ⟨b,o+j,none⟩=some (.bool l[j]):=by
 obtain⟨b,o,e,hc⟩:=hr.ad (by rw [iQ];omega);refine⟨b,o,e,?_⟩;rw [hc j (by rw [iQ];exact h)];simp [GF]
def KE(l:List Bool)(x:Bool):Int:=match l.findIdx? (x == ·)with|some j=>(j:Int)|none=>-1
theorem Ac0{l:List Bool}{x:Bool}{j:Nat}(h:j<l.length)(hno:∀q∈l.take j,(x == q)=false)(he:(x == l[j])=true):KE l x=(j:Int):=by
 unfold KE
 have:l.findIdx? (x == ·)=some j:=by rw [List.findIdx?_eq_some_iff_getElem];exact⟨h,he,fun i hi=>by rw [hno l[i] (by rw [List.mem_take_iff_getElem];exact⟨i,by omega,rfl⟩)];simp⟩
 rw [this]
theorem uA{l:List Bool}{x:Bool}(hno:∀q∈l,(x == q)=false):KE l x = -1:=by
 unfold KE;rw [List.findIdx?_eq_none_iff.2 hno]
theorem Acz(l:List Bool)(x:Bool):decide (0<=KE l x)=l.contains x:=by
 by_cases h:∃q∈l,(x == q)=true
 ·obtain⟨q,hq,he⟩:=h;have e:x=q:=(by simpa using he);subst e;have h2:l.contains x=true:=(by simpa using hq);rw [h2];unfold KE
  cases hf:l.findIdx? (x == ·)with
  | none=>
   rw [List.findIdx?_eq_none_iff]at hf;have:=hf x hq;simp at this
  | some j=>simp
 ·have hn:∀q∈l,(x == q)=false:=fun q hq=>by rw [Bool.eq_false_iff];exact fun he=>h ⟨q,hq,he⟩
  rw [uA hn];have:x∉l:=fun hx=>(by have:=hn x hx;simp at this);simp [this]
theorem AcB(l:List Bool)(x:Bool)(A:Option Addr)(c:Nat)(w:World)(hr:Ae w A (GF l))(hc:l.length<=c)(hcm:c<=9223372036854775807) :
  Calls Tryz.prog 269 #[.slice A l.length c,.bool x] w (AK (KE l x) w):=by
 obtain⟨r,hr0⟩:=Ajv (KE l x);rw [←hr0];have HR:=Ajw hr0;clear hr0;go_enter Tryz.func269,Tryz.ntmps269
 go_upto_region 2 with fail
 go_loopw [8] (fun i wr=>∃j:Nat,i=.int .i64 (j:Nat)/\j<=l.length/\(∀q∈l.take j,(x == q)=false)/\Ac w wr) (fun i _=>l.length-(intOf i).toNat)
 case atStart=>exact⟨0,rfl,by omega,by simp,Ac.refl _⟩
 case round=>
  obtain⟨j,rfl,hj,Ap,Ag⟩:=hrel;have HO:=Ajw Ap;clear Ap;by_cases hlt:j<l.length
  ·obtain⟨b,o,rfl,hg⟩:=Afl (hr.ext Ag) hlt;obtain⟨q,hq⟩:=Ajv (l[j]);rw [←hq]at hg;have hj0:(0:Int)<=(j:Int):=(by omega);have AP:(j:Int)<(l.length:Int):=(by omega);have HQ:=Ajw hq;clear hq
   cases x<;>cases q
   case false.true|true.false=>
    have HE:=Ajw (show ∀y∈l.take (j+1),_ from by
     intro y hy;rw [Aj2 hlt,←HQ.out]at hy
     rcases List.mem_append.1 hy with h|h
     ·exact HO.out y h
     ·simp only [AjB]at h;rw [h];rfl)
    go_wp2;go_roundw
    case rel=>exact⟨j+1,by go_num,hlt,HE.out,Ag⟩
    case measure=>simp [intOf];omega
   case false.false|true.true=>have Ee:r=(j:Int):=(by rw [HR.out];exact Ac0 hlt HO.out (by rw [←HQ.out];rfl));subst Ee;go_wp2;go_ret;exact⟨rfl,Ag⟩
  ·have hle:(l.length:Int)<=(j:Int):=(by omega);have Ee:r = -1:=(by rw [HR.out];exact uA (by have:=HO.out;rw [Aj7 (by omega)]at this;exact this));subst Ee;go_wp2;go_ret;exact⟨rfl,Ag⟩
theorem vp(l:List Bool)(x:Bool)(A:Option Addr)(c:Nat)(w:World)(hr:Ae w A (GF l))(hc:l.length<=c)(hcm:c<=9223372036854775807) :
  Calls Tryz.prog 194 #[.slice A l.length c,.bool x] w (By (l.contains x) w):=by
 have ix:=AcB l x A c w hr hc hcm;have ha:=Acz l x;obtain⟨r,hr0⟩:=Ajv (l.contains x);rw [←hr0]at ha ⊢;obtain⟨n,hn⟩:=Ajv (KE l x);rw [←hn]at ix ha;have HA:=Ajw ha;clear hr0 hn ha;go_enter Tryz.func194,Tryz.ntmps194;(go_wp2_with fail);(with_reducible refine ix.mono ?_);rintro e w2 ⟨rfl,hx2⟩;go_wp2;go_ret;exact⟨by rw [←HA.out];rfl,hx2⟩
end
section
open Go.RowKit Kl
theorem AcD{B:Nat}{w:World}{r b1 b2:Nat}{L:List (Sg×Int)}{E:List (Pt×Value×Nat)}{R0:List (Pt×List Pt)}(h:Br B w r b1 b2 L E R0)(bn:Nat)(Dd:w.cell? ⟨bn,0,none⟩=some (.pointer (some ⟨r,0,none⟩)))(l:List Pt)(A:Option Addr)(c:Nat)(hr:Ae w A (flat (Ai l)))(hc:l.length<=c)(hcm:c<=9223372036854775807) :
  Calls Tryz.prog 190 #[.slice A l.length c,.func (.func 108) #[] #[.pointer (some ⟨bn,0,none⟩)]] w fun e w'=>∃n:Int,e=.returned (.int .i64 n)/\(0<=n↔∃p∈l,decide (Jc R0 p<2)=true)/\Ac w w':=by
 have fw:=fun (w1:World) (hx:Ac w w1) (p:Pt)=>zk (h.ext hx) bn (hx.cellS Dd) p;clear h Dd;go_enter Tryz.func190,Tryz.ntmps190;go_wp2
 go_loopw [8] (fun i wr=>∃j:Nat,i=.int .i64 (j:Nat)/\j<=l.length/\(∀p∈l.take j,decide (Jc R0 p<2)=false)/\Ac w wr) (fun i _=>l.length-(intOf i).toNat)
 case atStart=>exact⟨0,rfl,by omega,by simp,Ac.refl _⟩
 case round=>
  obtain⟨j,rfl,hj,Ap,Ag⟩:=hrel;have HO:=Ajw Ap;clear Ap;by_cases hlt:j<l.length
  ·obtain⟨b,o,rfl,hg1,hg2⟩:=BW (hr.ext Ag) hlt;obtain⟨p,hp⟩:=Ajv (l[j]);rw [←hp]at hg1 hg2;have hmem:p∈l:=(by rw [hp];exact Aj0 hlt);have HX:=Ajw hp;clear hp;have hj0:(0:Int)<=(j:Int):=(by omega);have AP:(j:Int)<(l.length:Int):=(by omega);have bf:=fw wr Ag p;unfold Ak at bf
   cases hL:decide (Jc R0 p<2)
   ·rw [hL]at bf;have IT:=Ajw hL;clear hL fw;(go_wp2_with fail);(with_reducible refine bf.mono ?_);rintro e w2 ⟨rfl,hx2⟩;go_wp2;go_roundw
    case rel=>
     refine⟨j+1,by go_num,hlt,?_,Ag.trans hx2⟩;intro q hq;rw [Aj2 hlt,←HX.out]at hq
     rcases List.mem_append.1 hq with h|h
     ·exact HO.out q h
     ·simp only [AjB]at h;rw [h];exact IT.out
    case measure=>simp [intOf];omega
   ·rw [hL]at bf;have IT:=Ajw hL;clear hL fw;(go_wp2_with fail);(with_reducible refine bf.mono ?_);rintro e w2 ⟨rfl,hx2⟩;go_wp2;go_ret;exact⟨j,rfl,⟨fun _=>⟨_,hmem,IT.out⟩,fun _=>by omega⟩,Ag.trans hx2⟩
  ·have hle:(l.length:Int)<=(j:Int):=(by omega);clear fw;go_wp2;go_ret;refine⟨-1,rfl,⟨fun h=>by omega,?_⟩,Ag⟩;rintro⟨p,hp,h⟩;have:=HO.out p (by rw [Aj7 (by omega)];exact hp);rw [this]at h;cases h
def Qv(R0:List (Pt×List Pt))(l:List Pt):Bool:=l.any (fun p=>decide (Jc R0 p<2))
theorem ny{B:Nat}{w:World}{r b1 b2:Nat}{L:List (Sg×Int)}{E:List (Pt×Value×Nat)}{R0:List (Pt×List Pt)}(h:Br B w r b1 b2 L E R0)(bn:Nat)(Dd:w.cell? ⟨bn,0,none⟩=some (.pointer (some ⟨r,0,none⟩)))(l:List Pt)(A:Option Addr)(c:Nat)(hr:Ae w A (flat (Ai l)))(hc:l.length<=c)(hcm:c<=9223372036854775807) :
  Calls Tryz.prog 107 #[.slice A l.length c,.func (.func 108) #[] #[.pointer (some ⟨bn,0,none⟩)]] w (By (Qv R0 l) w):=by
 have ix:=AcD h bn Dd l A c hr hc hcm;clear h Dd hr;go_enter Tryz.func107,Tryz.ntmps107;(go_wp2_with fail);(with_reducible refine ix.mono ?_);rintro e w2 ⟨n,rfl,hn,hx2⟩
 have hd:Qv R0 l=decide (0<=n):=by
  unfold Qv;by_cases h0:0<=n
  ·rw [decide_eq_true h0,List.any_eq_true];exact hn.1 h0
  ·rw [decide_eq_false h0,List.any_eq_false];intro x hx hh;exact h0 (hn.2 ⟨x,hx,hh⟩)
 have HD:=Ajw hd;clear hd hn;go_wp2;go_ret;exact⟨by rw [HD.out];rfl,hx2⟩
end
end Go.Proofs.YtgnejnampofhoaaGreatDoor
