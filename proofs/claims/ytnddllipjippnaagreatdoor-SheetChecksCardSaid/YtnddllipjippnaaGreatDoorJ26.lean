/- J26: LGD D5 KQ D7. -/
import Derived.Test.YtnddllipjippnaaGreatDoorJ23
import Derived.Test.YtnddllipjippnaaGreatDoorJ25
import Derived.Test.YtnddllipjippnaaGreatDoorJ18
set_option maxRecDepth 100000
set_option maxHeartbeats 8000000
namespace Go.Proofs.YtnddllipjippnaaGreatDoor
open Go.RowKit Kl
theorem Ahf(l:Bs)(hl:l.length<1000000)(w:World) :
  Calls Tryz.prog 62 #[S l] w (BF (nameB l) w):=by
 obtain⟨r,hr0⟩:=Ao3 (nameB l);rw [←hr0];have HR:=Ao4 hr0;clear hr0;go_enter Tryz.func62,Tryz.ntmps62
 go_upto_region 2 with fail
 go_loopw [8] (fun kv wr=>∃(k:Nat),kv=.int .i64 (k:Nat)/\k<=l.length/\(∀i (h:i<l.length),i<k→G4 i l[i]=true)/\Ab w wr) (fun kv _=>l.length-(intOf kv).toNat)
 case atStart=>exact⟨0,rfl,by omega,by intro i _ h;omega,Ab.refl _⟩
 case round=>
  obtain⟨k,rfl,hk,I9,Ac⟩:=hrel;have Rx:=Ao4 I9;clear I9;by_cases hkn:k<l.length
  ·have hk0:(0:Int)<=(k:Int):=(by omega);have DX:(k:Int)<(l.length:Int):=(by omega);have v1:IntKind.wrap .i64 ((k:Int)+1)=(k:Int)+1:=AoD _ (by omega);obtain⟨b,hb⟩:=Ao3 (l[k]);have hq:∀h:k<(⟨l.toArray⟩:ByteArray).size,((⟨l.toArray⟩:ByteArray)[k]'h)=b:=fun h=>(by rw [hb];rfl);have HB:=Ao4 hb;clear hb
   go_upto_region 5 with fail
   go_cut [5] (fun v wx=>v=.bool (He b)/\wx=wr)
   case first=>
    by_cases a1:97<=b.toNat<;>by_cases a2:b.toNat<=122<;>by_cases a3:65<=b.toNat<;>by_cases a4:b.toNat<=90
    all_goals
     have hv:He b=((decide (97<=b.toNat)&&decide (b.toNat<=122))||(decide (65<=b.toNat)&&decide (b.toNat<=90))):=rfl;simp only [a1,a2,a3,a4,decide_true,decide_false,Bool.and_true,Bool.and_false,Bool.or_true,Bool.or_false]at hv;have HV:=Ao4 hv;clear hv;go_wp2
     all_goals go_meet
     all_goals exact⟨by rw [HV.out];try (first|rfl|(congr 1;rw [Bool.eq_iff_iff];simp;omega)),rfl⟩
   case rest=>
    obtain⟨rfl,rfl⟩:=hcut;obtain⟨lt,hlt⟩:=Ao3 (He b);rw [←hlt];have nI:=Ao4 hlt;have Fc:G4 k b=(lt||(decide (k≠0)&&H5 b)):=(by rw [hlt];rfl);have Hn:=Ao4 Fc;clear hlt Fc hq
    have good:G4 k b=true→∀i (h:i<l.length),i<k+1→G4 i l[i]=true:=by
     intro hg i hi hik;by_cases e:i=k
     ·subst e;rw [←HB.out];exact hg
     ·exact Rx.out i hi (by omega)
    have bad:G4 k b=false→r=false:=fun h=>(by rw [HR.out];exact lz hkn (by rw [←HB.out];exact h));have HG:=Ao4 good;have Po:=Ao4 bad;clear good bad
    cases lt
    ·by_cases Ju:k=0
     ·subst Ju;have hr:r=false:=Po.out (by rw [Hn.out];rfl);have Ey:=Ao4 hr;clear hr;go_wp2;go_ret;exact⟨JB (by rw [Ey.out]),Ac⟩
     ·have t0:((k:Int) == 0)=false:=beq_false_of_ne (by omega);by_cases a1:b.toNat<48
      ·have hr:b.toNat≠95→r=false:=fun h=>Po.out (by rw [Hn.out];unfold H5;simp;omega);have uO:((b.toNat:Int) != 95)=true:=(by rw [bne_iff_ne];omega);have Ey:=Ao4 (hr (by omega));clear hr Ju;go_wp2;go_ret;exact⟨JB (by rw [Ey.out]),Ac⟩
      ·by_cases a2:57<b.toNat
       ·by_cases a3:b.toNat=95
        ·have uO:((b.toNat:Int) != 95)=false:=(by rw [bne_eq_false_iff_eq];omega);have hg2:=Ao4 (HG.out (by rw [Hn.out];unfold H5;simp [Ju,a3]));clear Ju;go_wp2;go_roundw
         case rel=>exact⟨k+1,by go_num,hkn,hg2.out,Ac⟩
         case measure=>simp [intOf];omega
        ·have uO:((b.toNat:Int) != 95)=true:=(by rw [bne_iff_ne];omega);have hr:r=false:=Po.out (by rw [Hn.out];unfold H5;simp;omega);have Ey:=Ao4 hr;clear hr Ju;go_wp2;go_ret;exact⟨JB (by rw [Ey.out]),Ac⟩
       ·have hg2:=Ao4 (HG.out (by rw [Hn.out];unfold H5;simp;omega));clear Ju;go_wp2;go_roundw
        case rel=>exact⟨k+1,by go_num,hkn,hg2.out,Ac⟩
        case measure=>simp [intOf];omega
    ·have hg2:=Ao4 (HG.out (by rw [Hn.out];simp));go_wp2;go_roundw
     case rel=>exact⟨k+1,by go_num,hkn,hg2.out,Ac⟩
     case measure=>simp [intOf];omega
  ·have CO:k=l.length:=(by omega);subst CO;by_cases h0:l = []
   ·subst h0;have Ey:=Ao4 (show r=false by rw [HR.out];rfl);go_wp2;go_ret;exact⟨JB (by rw [Ey.out]),Ac⟩
   ·have h1:(1:Int)<=(l.length:Int):=(by have:0<l.length:=List.length_pos_iff.2 h0;omega);by_cases S9:l.length<=32
    ·have h2:(l.length:Int)<=32:=(by omega);have Ey:=Ao4 (show r=true by rw [HR.out];exact l8 h0 S9 (fun i hi=>Rx.out i hi hi));clear h0;go_wp2;go_ret;exact⟨JB (by rw [Ey.out]),Ac⟩
    ·have h2:¬(l.length:Int)<=32:=by omega
     have Ey:=Ao4 (show r=false by
      rw [HR.out]
      cases l with
      | nil=>rfl
      | cons b l=>show (decide (l.length < 32) && _)=false;rw [decide_eq_false (by simp only [List.length_cons]at S9;omega)];rfl)
     clear h0;go_wp2;go_ret;exact⟨JB (by rw [Ey.out]),Ac⟩
theorem jr(l:Bs)(hl:l.length<1000000)(w:World) :
  Calls Tryz.prog 33 #[S l] w (BF (nameB l) w):=by
 have nm:=Ahf l hl w;generalize nameB l=b at *;go_enter Tryz.func33,Tryz.ntmps33;(go_wp2_with fail);(with_reducible refine nm.mono ?_);rintro e w1 ⟨rfl,hx⟩;go_wp2;go_ret;exact⟨rfl,hx⟩
section
open Go.ChangeMaps (setBlock)
def Lf(l:List (Int×Int)):List MapEntry:=l.mapIdx fun i e=>⟨.int .i64 e.1,.int .i64 e.2,i⟩
theorem Ad9(l:List (Int×Int))(e:Int×Int):Lf (l ++ [e])=Lf l ++ [⟨.int .i64 e.1,.int .i64 e.2,l.length⟩]:=by simp [Lf,List.mapIdx_append]
def Cm(k:Int)(l:List (Int×Int)):Option Int:=(l.find? (fun e=>k == e.1)).map (·.2)
theorem tZ(k:Int):∀(l:List (Int×Int)) (i j:Nat),∃x,Instr.findNow (.int .i64) (.int .i64 k) (l.mapIdx fun i e=>⟨.int .i64 e.1,.int .i64 e.2,i+j⟩) i=some x/\x.map (·.2)=(Cm k l).map (fun z=>Value.int .i64 z)
 | [],i,j=>⟨none,by simp [Instr.findNow],by simp [Cm]⟩
 | e::l,i,j=>by
  rw [List.mapIdx_cons];by_cases h:k=e.1
  ·refine⟨some (i,.int .i64 e.2),?_,?_⟩
   ·simp [Instr.findNow,Instr.sameNow,h]
   ·simp [Cm,h]
  ·obtain⟨x,h1,h2⟩:=tZ k l (i+1) (j+1);have hh:(k == e.1)=false:=(by simpa using h);refine⟨x,?_,?_⟩
   ·simp only [Instr.findNow,Instr.sameNow,if_pos,hh]
    simpa only [Nat.add_assoc,Nat.add_comm 1 j]using h1
   ·rw [h2];simp [Cm,hh]
theorem aH(k:Int)(l:List (Int×Int))(W:World):∃x,(Instr.findKey 3 (.int .i64 k) (Lf l)).run Tryz.prog W=.ok x W/\x.map (·.2)=(Cm k l).map (fun z=>Value.int .i64 z):=by
 obtain⟨x,h1,h2⟩:=tZ k l 0 0;exact⟨x,MapKept.run_findKey Tryz.underlying3 h1,h2⟩
theorem U9(k:Int)(l:List (Int×Int)){b clock:Nat}{W:World}(hb:W.heap[b]?=some (.map (Lf l).toArray clock)) :
  (Instr.lookup 130 (.map (some b)) (.int .i64 k) true).run Tryz.prog W=.ok (.tuple #[.int .i64 ((Cm k l).getD 0),.bool (Cm k l).isSome]) W:=by
 obtain⟨x,h1,h2⟩:=aH k l W;have hz:(zeroValue 3).run Tryz.prog W=.ok (.int .i64 0) W:=(by simp [go_sem]);have hc:∀b,(Instr.checkKey b 10000 3 (.int .i64 k)).run Tryz.prog W=.ok () W:=fun b=>MapKept.run_checkKey (k:=.int .i64 k) Tryz.underlying3 (by simp [MapKept.IsKey]) b 9999;have hm:=run_underlying (w:=W) Tryz.underlying130
 cases h:Cm k l with
 | none=>
  rw [h]at h2;have hx:x=none:=(by simpa using h2);subst hx;simp [Instr.lookup,hm,MapKept.run_getObj_map hb,hc,h1,hz,Result.andThen]
 | some z=>rw [h]at h2;obtain⟨⟨i,v⟩,rfl,hv⟩:=Option.map_eq_some_iff.1 h2;simp only at hv;subst hv;simp [Instr.lookup,hm,MapKept.run_getObj_map hb,hc,h1,Result.andThen]
theorem Akl(k z:Int)(l:List (Int×Int))(hno:Cm k l=none){b:Nat}{W:World}(hb:W.heap[b]?=some (.map (Lf l).toArray l.length)) :
  (Instr.mapUpdate 130 (.map (some b)) (.int .i64 k) (.int .i64 z)).run Tryz.prog W=.ok () (setBlock W b (.map (Lf (l ++ [(k,z)])).toArray (l.length+1))):=by
 obtain⟨x,h1,h2⟩:=aH k l W;have hc:∀b,(Instr.checkKey b 10000 3 (.int .i64 k)).run Tryz.prog W=.ok () W:=fun b=>MapKept.run_checkKey (k:=.int .i64 k) Tryz.underlying3 (by simp [MapKept.IsKey]) b 9999;have hm:=run_underlying (w:=W) Tryz.underlying130;rw [hno]at h2;have hx:x=none:=(by simpa using h2);subst hx;rw [Ad9];simp [Instr.mapUpdate,hm,MapKept.run_getObj_map hb,hc,h1,MapKept.run_setObj_map _ hb,Result.andThen,setBlock]
def CZ(W:World)(b:Nat)(l:List (Int×Int)):Prop:=W.heap[b]?=some (.map (Lf l).toArray l.length)
theorem CZ.put{W:World}{b:Nat}{l:List (Int×Int)}(h:CZ W b l)(k z:Int)(hno:Cm k l=none) :
  ∃W',(Instr.mapUpdate 130 (.map (some b)) (.int .i64 k) (.int .i64 z)).run Tryz.prog W=.ok () W'/\CZ W' b (l ++ [(k,z)])/\W.grownBy W' (some b)/\W'.heap.size=W.heap.size:=by
 refine⟨_,Akl k z l hno h,?_,Ll h,by simp [setBlock]⟩;unfold CZ;rw [Mi h];simp
/-! ### Bools in a row -/
def Hv(l:List Bool):List Value:=l.map Value.bool
theorem pU(l:List Bool):(Hv l).length=l.length:=by simp [Hv]
theorem AjG{w:World}{A:Option Addr}{l:List Bool}(hr:Af w A (Hv l)){j:Nat}(h:j<l.length):∃b o,A=some ⟨b,o,none⟩/\w.cell? ⟨b,o+j,none⟩=some (.bool l[j]):=by
 obtain⟨b,o,e,hc⟩:=hr.ad (by rw [pU];omega);refine⟨b,o,e,?_⟩;rw [hc j (by rw [pU];exact h)];simp [Hv]
def LR(l:List Bool)(x:Bool):Int:=match l.findIdx? (x == ·)with|some j=>(j:Int)|none=>-1
theorem AgL{l:List Bool}{x:Bool}{j:Nat}(h:j<l.length)(hno:∀q∈l.take j,(x == q)=false)(he:(x == l[j])=true):LR l x=(j:Int):=by
 unfold LR
 have:l.findIdx? (x == ·)=some j:=by rw [List.findIdx?_eq_some_iff_getElem];exact⟨h,he,fun i hi=>by rw [hno l[i] (by rw [List.mem_take_iff_getElem];exact⟨i,by omega,rfl⟩)];simp⟩
 rw [this]
theorem jk{l:List Bool}{x:Bool}(hno:∀q∈l,(x == q)=false):LR l x = -1:=by
 unfold LR;rw [List.findIdx?_eq_none_iff.2 hno]
theorem AgK(l:List Bool)(x:Bool):decide (0<=LR l x)=l.contains x:=by
 by_cases h:∃q∈l,(x == q)=true
 ·obtain⟨q,hq,he⟩:=h;have e:x=q:=(by simpa using he);subst e;have h2:l.contains x=true:=(by simpa using hq);rw [h2];unfold LR
  cases hf:l.findIdx? (x == ·)with
  | none=>
   rw [List.findIdx?_eq_none_iff]at hf;have:=hf x hq;simp at this
  | some j=>simp
 ·have hn:∀q∈l,(x == q)=false:=fun q hq=>by rw [Bool.eq_false_iff];exact fun he=>h ⟨q,hq,he⟩
  rw [jk hn];have:x∉l:=fun hx=>(by have:=hn x hx;simp at this);simp [this]
theorem AgX(l:List Bool)(x:Bool)(A:Option Addr)(c:Nat)(w:World)(hr:Af w A (Hv l))(hc:l.length<=c)(hcm:c<=9223372036854775807) :
  Calls Tryz.prog 155 #[.slice A l.length c,.bool x] w (AI (LR l x) w):=by
 obtain⟨r,hr0⟩:=Ao3 (LR l x);rw [←hr0];have HR:=Ao4 hr0;clear hr0;go_enter Tryz.func155,Tryz.ntmps155
 go_upto_region 2 with fail
 go_loopw [8] (fun i wr=>∃j:Nat,i=.int .i64 (j:Nat)/\j<=l.length/\(∀q∈l.take j,(x == q)=false)/\Ab w wr) (fun i _=>l.length-(intOf i).toNat)
 case atStart=>exact⟨0,rfl,by omega,by simp,Ab.refl _⟩
 case round=>
  obtain⟨j,rfl,hj,Ai,Ac⟩:=hrel;have HO:=Ao4 Ai;clear Ai;by_cases hlt:j<l.length
  ·obtain⟨b,o,rfl,hg⟩:=AjG (hr.ext Ac) hlt;obtain⟨q,hq⟩:=Ao3 (l[j]);rw [←hq]at hg;have hj0:(0:Int)<=(j:Int):=(by omega);have Bc:(j:Int)<(l.length:Int):=(by omega);have HQ:=Ao4 hq;clear hq
   cases x<;>cases q
   case false.true|true.false=>
    have HE:=Ao4 (show ∀y∈l.take (j+1),_ from by
     intro y hy;rw [AoA hlt,←HQ.out]at hy
     rcases List.mem_append.1 hy with h|h
     ·exact HO.out y h
     ·simp only [AoJ]at h;rw [h];rfl)
    go_wp2;go_roundw
    case rel=>exact⟨j+1,by go_num,hlt,HE.out,Ac⟩
    case measure=>simp [intOf];omega
   case false.false|true.true=>have EJ:r=(j:Int):=(by rw [HR.out];exact AgL hlt HO.out (by rw [←HQ.out];rfl));subst EJ;go_wp2;go_ret;exact⟨rfl,Ac⟩
  ·have hle:(l.length:Int)<=(j:Int):=(by omega);have EJ:r = -1:=(by rw [HR.out];exact jk (by have:=HO.out;rw [AoF (by omega)]at this;exact this));subst EJ;go_wp2;go_ret;exact⟨rfl,Ac⟩
theorem AcO(l:List Bool)(x:Bool)(A:Option Addr)(c:Nat)(w:World)(hr:Af w A (Hv l))(hc:l.length<=c)(hcm:c<=9223372036854775807) :
  Calls Tryz.prog 107 #[.slice A l.length c,.bool x] w (BF (l.contains x) w):=by
 have ix:=AgX l x A c w hr hc hcm;have ha:=AgK l x;obtain⟨r,hr0⟩:=Ao3 (l.contains x);rw [←hr0]at ha ⊢;obtain⟨n,hn⟩:=Ao3 (LR l x);rw [←hn]at ix ha;have HA:=Ao4 ha;clear hr0 hn ha;go_enter Tryz.func107,Tryz.ntmps107;(go_wp2_with fail);(with_reducible refine ix.mono ?_);rintro e w2 ⟨rfl,hx2⟩;go_wp2;go_ret;exact⟨by rw [←HA.out];rfl,hx2⟩
end
section
open Go.ChangeShapes Go.WideShapes
theorem AcT:Tryz.prog.cellTypes Tryz.prog.depth 26=some (3::(List.replicate 6 22 ++ [9])):=by kernel_rfl
theorem AcS:Tryz.prog.cellsOf 26=8:=by kernel_rfl
theorem AiG{w:World}{base:Nat}{v:Value}(h:Value.okWide Tryz.prog w .any base 26 v):∃(k:Int) (a b p:Bs×Bs) (u:Bs),v=Bz k a b p u:=by
 simp only [Value.okWide,Tryz.underlying26]at h;obtain⟨cs,rfl,hsz,ts,gw,_,hall⟩:=h;rw [AcT]at gw;obtain rfl:=Option.some.inj gw;rw [AcS]at hsz;obtain⟨l⟩:=cs;have hl:l.length=8:=hsz
 match l,hl with
 | [x0,x1,x2,x3,x4,x5,x6,x7],_=>obtain⟨t0,e0,k0⟩:=hall 0 x0 rfl;obtain⟨t1,e1,k1⟩:=hall 1 x1 rfl;obtain⟨t2,e2,k2⟩:=hall 2 x2 rfl;obtain⟨t3,e3,k3⟩:=hall 3 x3 rfl;obtain⟨t4,e4,k4⟩:=hall 4 x4 rfl;obtain⟨t5,e5,k5⟩:=hall 5 x5 rfl;obtain⟨t6,e6,k6⟩:=hall 6 x6 rfl;obtain⟨t7,e7,k7⟩:=hall 7 x7 rfl;have h0:t0=3:=(Option.some.inj e0).symm;have h1:t1=22:=(Option.some.inj e1).symm;have h2:t2=22:=(Option.some.inj e2).symm;have h3:t3=22:=(Option.some.inj e3).symm;have h4:t4=22:=(Option.some.inj e4).symm;have h5:t5=22:=(Option.some.inj e5).symm;have h6:t6=22:=(Option.some.inj e6).symm;have h7:t7=9:=(Option.some.inj e7).symm;subst h0 h1 h2 h3 h4 h5 h6 h7;obtain⟨z,rfl,_⟩:=Acw Tryz.underlying3 k0;obtain⟨l1,rfl⟩:=Oh Tryz.underlying22 k1;obtain⟨l2,rfl⟩:=Oh Tryz.underlying22 k2;obtain⟨l3,rfl⟩:=Oh Tryz.underlying22 k3;obtain⟨l4,rfl⟩:=Oh Tryz.underlying22 k4;obtain⟨l5,rfl⟩:=Oh Tryz.underlying22 k5;obtain⟨l6,rfl⟩:=Oh Tryz.underlying22 k6;obtain⟨l7,rfl⟩:=Oh Tryz.underlying9 k7;exact⟨z,(l1,l2),(l3,l4),(l5,l6),l7,rfl⟩
end
theorem AgZ{B:Nat}{w:World}{r b1 b2:Nat}{L:List (Sg×Int)}{E:List (Pt×Value×Nat)}{R0:List (Pt×List Pt)}(h:BD B w r b1 b2 L E R0)(bn:Nat)(Cx:w.cell? ⟨bn,0,none⟩=some (.pointer (some ⟨r,0,none⟩)))(l:List Pt)(A:Option Addr)(c:Nat)(hr:Af w A (flat (Aq l)))(hc:l.length<=c)(hcm:c<=9223372036854775807) :
  Calls Tryz.prog 63 #[.slice A l.length c,.func (.func 52) #[] #[.pointer (some ⟨bn,0,none⟩)]] w fun e w'=>∃n:Int,e=.returned (.int .i64 n)/\(0<=n↔∃p∈l,decide (JV R0 p<2)=true)/\Ab w w':=by
 have fw:=fun (w1:World) (hx:Ab w w1) (p:Pt)=>AdI (h.ext hx) bn (hx.cellS Cx) p;clear h Cx;go_enter Tryz.func63,Tryz.ntmps63;go_wp2
 go_loopw [8] (fun i wr=>∃j:Nat,i=.int .i64 (j:Nat)/\j<=l.length/\(∀p∈l.take j,decide (JV R0 p<2)=false)/\Ab w wr) (fun i _=>l.length-(intOf i).toNat)
 case atStart=>exact⟨0,rfl,by omega,by simp,Ab.refl _⟩
 case round=>
  obtain⟨j,rfl,hj,Ai,Ac⟩:=hrel;have HO:=Ao4 Ai;clear Ai;by_cases hlt:j<l.length
  ·obtain⟨b,o,rfl,hg1,hg2⟩:=Co (hr.ext Ac) hlt;obtain⟨p,hp⟩:=Ao3 (l[j]);rw [←hp]at hg1 hg2;have hmem:p∈l:=(by rw [hp];exact Ao8 hlt);have HX:=Ao4 hp;clear hp;have hj0:(0:Int)<=(j:Int):=(by omega);have Bc:(j:Int)<(l.length:Int):=(by omega);have bf:=fw wr Ac p;unfold Ak at bf
   cases hL:decide (JV R0 p<2)
   ·rw [hL]at bf;have JK:=Ao4 hL;clear hL fw;(go_wp2_with fail);(with_reducible refine bf.mono ?_);rintro e w2 ⟨rfl,hx2⟩;go_wp2;go_roundw
    case rel=>
     refine⟨j+1,by go_num,hlt,?_,Ac.trans hx2⟩;intro q hq;rw [AoA hlt,←HX.out]at hq
     rcases List.mem_append.1 hq with h|h
     ·exact HO.out q h
     ·simp only [AoJ]at h;rw [h];exact JK.out
    case measure=>simp [intOf];omega
   ·rw [hL]at bf;have JK:=Ao4 hL;clear hL fw;(go_wp2_with fail);(with_reducible refine bf.mono ?_);rintro e w2 ⟨rfl,hx2⟩;go_wp2;go_ret;exact⟨j,rfl,⟨fun _=>⟨_,hmem,JK.out⟩,fun _=>by omega⟩,Ac.trans hx2⟩
  ·have hle:(l.length:Int)<=(j:Int):=(by omega);clear fw;go_wp2;go_ret;refine⟨-1,rfl,⟨fun h=>by omega,?_⟩,Ac⟩;rintro⟨p,hp,h⟩;have:=HO.out p (by rw [AoF (by omega)];exact hp);rw [this]at h;cases h
def S3(R0:List (Pt×List Pt))(l:List Pt):Bool:=l.any (fun p=>decide (JV R0 p<2))
theorem Ab2{B:Nat}{w:World}{r b1 b2:Nat}{L:List (Sg×Int)}{E:List (Pt×Value×Nat)}{R0:List (Pt×List Pt)}(h:BD B w r b1 b2 L E R0)(bn:Nat)(Cx:w.cell? ⟨bn,0,none⟩=some (.pointer (some ⟨r,0,none⟩)))(l:List Pt)(A:Option Addr)(c:Nat)(hr:Af w A (flat (Aq l)))(hc:l.length<=c)(hcm:c<=9223372036854775807) :
  Calls Tryz.prog 35 #[.slice A l.length c,.func (.func 52) #[] #[.pointer (some ⟨bn,0,none⟩)]] w (BF (S3 R0 l) w):=by
 have ix:=AgZ h bn Cx l A c hr hc hcm;clear h Cx hr;go_enter Tryz.func35,Tryz.ntmps35;(go_wp2_with fail);(with_reducible refine ix.mono ?_);rintro e w2 ⟨n,rfl,hn,hx2⟩
 have hd:S3 R0 l=decide (0<=n):=by
  unfold S3;by_cases h0:0<=n
  ·rw [decide_eq_true h0,List.any_eq_true];exact hn.1 h0
  ·rw [decide_eq_false h0,List.any_eq_false];intro x hx hh;exact h0 (hn.2 ⟨x,hx,hh⟩)
 have HD:=Ao4 hd;clear hd hn;go_wp2;go_ret;exact⟨by rw [HD.out];rfl,hx2⟩
end Go.Proofs.YtnddllipjippnaaGreatDoor
