/- U20: ShLG1 ShLG2 ShLG3 ShLG4 ShLG5 ShLG8 ShLG7 ShLGM. -/
import Derived.Test.YtbejphgbbpplbaaGreatDoorU19
set_option maxRecDepth 100000
set_option maxHeartbeats 8000000
namespace Go.Proofs.YtbejphgbbpplbaaGreatDoor
open Go.RowKit Kl
theorem yb(l:Bs)(hl:l.length<1000000)(f:Nat)(w:World) :
  Calls Tryz.prog 113 #[S l,.int .u8 (f:Nat)] w (Bw (l.any (Dd f)) w):=by
 go_enter Tryz.func113,Tryz.ntmps113
 go_upto_region 2 with fail
 go_loopw [8] (fun kv wr=>∃(k:Nat),kv=.int .i64 (k:Nat)/\k<=l.length/\(l.take k).any (Dd f)=false/\Aa w wr) (fun kv _=>l.length-(intOf kv).toNat)
 case atStart=>exact⟨0,rfl,by omega,rfl,Aa.refl _⟩
 case round=>
  obtain⟨k,rfl,hk,Fv,Ad⟩:=hrel;have RY:=ArW Fv;clear Fv;by_cases hkn:k<l.length
  ·have hk0:(0:Int)<=(k:Int):=(by omega);have BX:(k:Int)<(l.length:Int):=(by omega);have v1:IntKind.wrap .i64 ((k:Int)+1)=(k:Int)+1:=Asg _ (by omega);obtain⟨b,hb⟩:=ArV (l[k]);have hq:∀h:k<(⟨l.toArray⟩:ByteArray).size,((⟨l.toArray⟩:ByteArray)[k]'h)=b:=fun h=>(by rw [hb];rfl);have HT:Hid ((l.take (k+1)).any (Dd f)=Dd f b):=ArW (by rw [Asd hkn,List.any_append,RY.out,←hb];simp);have HA:Hid (Dd f b=true→l.any (Dd f)=true):=ArW fun h=>List.any_eq_true.2 ⟨b,hb▸Asa hkn,h⟩;clear hb;by_cases h1:b.toNat<f
   ·have ho:l.any (Dd f)=true:=HA.out (by unfold Dd;rw [decide_eq_true h1];rfl);have HO:=ArW ho;clear ho;go_wp2;go_ret;exact⟨NW (by rw [HO.out]),Ad⟩
   ·by_cases h2:126<b.toNat
    ·have ho:l.any (Dd f)=true:=HA.out (by unfold Dd;rw [decide_eq_true h2,Bool.or_true]);have HO:=ArW ho;clear ho;go_wp2;go_ret;exact⟨NW (by rw [HO.out]),Ad⟩
    ·have ho:(l.take (k+1)).any (Dd f)=false:=(by rw [HT.out];unfold Dd;rw [decide_eq_false h1,decide_eq_false h2];rfl);have HO:=ArW ho;clear ho;go_wp2;go_roundw
     case rel=>exact⟨k+1,by go_num,hkn,HO.out,Ad⟩
     case measure=>simp [intOf];omega
  ·have Bf:k=l.length:=(by omega);subst Bf;have ho:l.any (Dd f)=false:=(by have:=RY.out;rwa [List.take_length]at this);have HO:=ArW ho;clear ho;go_wp2;go_ret;exact⟨NW (by rw [HO.out]),Ad⟩
theorem Ao5(w:World)(l:Bs):∃W c,(convert 9 42 (S l)).run Tryz.prog w=.ok (.slice (some ⟨w.heap.size,0,none⟩) l.length c) W/\Aa w W/\∀j (h:j<l.length),W.cell? ⟨w.heap.size,j,none⟩=some (.int .u8 (l[j].toNat:Nat)):=by
 refine⟨Go.Lib.bytesWorld w 5 ⟨l.toArray⟩,_,Go.Lib.run_convert_string_bytes w 9 42 5 ⟨l.toArray⟩ Tryz.underlying9 Tryz.underlying42 Tryz.underlying5,?_,?_⟩
 ·have h1:Aa w (w.drew.alloc (.cells (Go.Lib.bytesCells w 5 ⟨l.toArray⟩) 5)):=(Aa.refl w).drew.alloc _;refine⟨h1.os,h1.tape,h1.output,?_,fun j hj=>Go.Lib.bytesWorld_at_old w 5 ⟨l.toArray⟩ j hj⟩;rw [Go.Lib.bytesWorld_size];omega
 ·intro j h;have:=Go.Lib.bytesWorld_cell w 5 ⟨l.toArray⟩ j (show j<l.toArray.size by simpa using h);rw [this];simp [List.getD_eq_getElem?_getD,h]
end Go.Proofs.YtbejphgbbpplbaaGreatDoor
namespace Kl
def K7(i:Nat)(b:UInt8):Bool:=Ii b||(decide (i≠0)&&Li b)
theorem AkY{l:Bs}{k:Nat}(hk:k<l.length)(h:K7 k l[k]=false):nameB l=false:=by
 cases l with
 | nil=>rfl
 | cons b l=>
  unfold nameB;unfold K7 at h
  cases k with
  | zero=>
   simp only [List.getElem_cons_zero,ne_eq,not_true,decide_false,Bool.false_and,Bool.or_false]at h;show (decide (l.length<32)&&(Ii b&&l.all (fun c=>Ii c||Li c)))=false;rw [h];simp
  | succ k=>
   simp only [List.getElem_cons_succ]at h;have Xm:k<l.length:=by simpa using hk
   have h2:l.all (fun c=>Ii c||Li c)=false:=by rw [List.all_eq_false];exact⟨l[k],List.getElem_mem Xm,by simpa using h⟩
   show (decide (l.length<32)&&(Ii b&&l.all (fun c=>Ii c||Li c)))=false;rw [h2];simp
theorem AkZ{l:Bs}(h0:l≠[])(h1:l.length<=32)(h:∀k (hk:k<l.length),K7 k l[k]=true):nameB l=true:=by
 cases l with
 | nil=>exact absurd rfl h0
 | cons b l=>
  unfold nameB;rw [Bool.and_eq_true,Bool.and_eq_true];refine⟨decide_eq_true (by simp only [List.length_cons]at h1;omega),?_,?_⟩
  ·have:=h 0 (by simp)
   simpa [K7]using this
  ·rw [List.all_eq_true];intro c hc;obtain⟨j,hj,rfl⟩:=List.getElem_of_mem hc;have:=h (j+1) (by simpa using hj)
   simpa [K7]using this
end Kl
namespace Go.Proofs.YtbejphgbbpplbaaGreatDoor
open Go.RowKit Kl
theorem kV(l:Bs)(hl:l.length<1000000)(w:World) :
  Calls Tryz.prog 43 #[S l] w (Bw (nameB l) w):=by
 obtain⟨W,c,hcv,hx,hcell⟩:=Ao5 w l;by_cases h0:l = []
 ·subst h0;clear hcv hcell;go_enter Tryz.func43,Tryz.ntmps43;go_wp2;go_ret;exact⟨NW rfl,Aa.refl _⟩
 ·have e1:(l == [])=false:=beq_false_of_ne h0
  have e2:l.isEmpty=false:=by cases l with|nil=>exact absurd rfl h0|cons a b=>rfl
  have H0:=ArW h0;by_cases h1:32<l.length
  ·have ho:nameB l=false:=by
    cases l with
    | nil=>rfl
    | cons b l=>show (decide (l.length < 32) && _)=false;rw [decide_eq_false (by simp only [List.length_cons]at h1;omega)];rfl
   have HO:=ArW ho;have h1':(32:Int)<(l.length:Int):=(by omega);clear ho hcv hcell;go_enter Tryz.func43,Tryz.ntmps43;go_wp2;go_ret;exact⟨NW (by rw [HO.out]),Aa.refl _⟩
  ·have h1':¬((32:Int)<(l.length:Int)):=(by omega);have ApW:(l.length:Int)<=32:=(by omega);have HC:=ArW hcell;have HX:=ArW hx;obtain⟨r,hr0⟩:=ArV (nameB l);rw [←hr0];have HR:=ArW hr0;clear hcell hx hr0;obtain⟨bw,Co⟩:=ArV w.heap.size;rw [←Co]at hcv;have HBW:=ArW Co;clear Co;go_enter Tryz.func43,Tryz.ntmps43
   go_upto_region 4 with fail
   go_loopw [17] (fun kv wr=>∃(k:Nat),kv=.int .i64 (k:Nat)/\k<=l.length/\(∀i (h:i<l.length),i<k→K7 i l[i]=true)/\wr=W) (fun kv _=>l.length-(intOf kv).toNat)
   case atStart=>exact⟨0,rfl,by omega,by intro i _ h;omega,rfl⟩
   case round=>
    obtain⟨k,rfl,hk,Fv,rfl⟩:=hrel;have RY:=ArW Fv;clear Fv;by_cases hkn:k<l.length
    ·have hk0:(0:Int)<=(k:Int):=(by omega);have BX:(k:Int)<(l.length:Int):=(by omega);have v1:IntKind.wrap .i64 ((k:Int)+1)=(k:Int)+1:=Asg _ (by omega);have hg:=HC.out k hkn;rw [←HBW.out]at hg;have hg0:wr.cell? ⟨bw,0+k,none⟩=some (.int .u8 (l[k].toNat:Nat)):=(by rw [Nat.zero_add];exact hg);obtain⟨b,hb⟩:=ArV (l[k]);rw [←hb]at hg hg0;have HB:=ArW hb;clear hb
     go_upto_region 6 with fail
     go_cut [5] (fun v wx=>v=.bool (Ii b)/\wx=wr)
     case first=>
      by_cases a1:97<=b.toNat<;>by_cases a2:b.toNat<=122<;>by_cases a3:65<=b.toNat<;>by_cases a4:b.toNat<=90
      all_goals
       have hv:Ii b=((decide (97<=b.toNat)&&decide (b.toNat<=122))||(decide (65<=b.toNat)&&decide (b.toNat<=90))):=rfl;simp only [a1,a2,a3,a4,decide_true,decide_false,Bool.and_true,Bool.and_false,Bool.or_true,Bool.or_false]at hv;have HV:=ArW hv;clear hv;go_wp2
       all_goals go_meet
       all_goals exact⟨by rw [HV.out];try (first|rfl|(congr 1;rw [Bool.eq_iff_iff];simp;omega)),rfl⟩
     case rest=>
      obtain⟨rfl,rfl⟩:=hcut;obtain⟨lt,hlt⟩:=ArV (Ii b);rw [←hlt];have HLT:=ArW hlt;clear hlt
      go_upto_region 7 with fail
      go_cut [6] (fun v wx=>v=.bool (Li b)/\wx=wc)
      case first=>
       have c95:((b.toNat:Int) == 95)=decide (b.toNat=95):=by rw [Bool.eq_iff_iff,beq_iff_eq,decide_eq_true_iff];omega
       by_cases a1:48<=b.toNat<;>by_cases a2:b.toNat<=57<;>by_cases a3:b.toNat=95
       all_goals
        have hv:Li b=((decide (48<=b.toNat)&&decide (b.toNat<=57))||decide (b.toNat=95)):=rfl;simp only [a1,a2,a3,decide_true,decide_false,Bool.and_true,Bool.and_false,Bool.or_true,Bool.or_false]at hv;have HV:=ArW hv;clear hv;go_wp2
        all_goals go_meet
        all_goals exact⟨by rw [HV.out];try (first|rfl|(congr 1;rw [Bool.eq_iff_iff];simp;omega)),rfl⟩
      case rest=>
       obtain⟨rfl,rfl⟩:=hcut;obtain⟨dt,L6⟩:=ArV (Li b);rw [←L6];have HDT:=ArW L6;clear L6;have GW:K7 k b=(lt||(decide (k≠0)&&dt)):=(by rw [HLT.out,HDT.out];rfl);have PI:=ArW GW;clear GW
       have good:K7 k b=true→∀i (h:i<l.length),i<k+1→K7 i l[i]=true:=by
        intro hg i hi hik;by_cases e:i=k
        ·subst e;rw [←HB.out];exact hg
        ·exact RY.out i hi (by omega)
       have bad:K7 k b=false→r=false:=fun h=>(by rw [HR.out];exact AkY hkn (by rw [←HB.out];exact h));have HG:=ArW good;have pO:=ArW bad;clear good bad
       cases lt
       ·by_cases Xn:k=0
        ·subst Xn;have hr:r=false:=pO.out (by rw [PI.out];rfl);have KV:=ArW hr;clear hr;go_wp2;go_ret;exact⟨NW (by rw [KV.out]),HX.out⟩
        ·have t0:((k:Int) == 0)=false:=beq_false_of_ne (by omega)
         cases dt
         ·have hr:r=false:=pO.out (by rw [PI.out];simp);have KV:=ArW hr;clear hr Xn;go_wp2;go_ret;exact⟨NW (by rw [KV.out]),HX.out⟩
         ·have hg2:=ArW (HG.out (by rw [PI.out];simp [Xn]));clear Xn;go_wp2;go_roundw
          case rel=>exact⟨k+1,by go_num,hkn,hg2.out,by trivial⟩
          case measure=>simp [intOf];omega
       ·have hg2:=ArW (HG.out (by rw [PI.out];simp));go_wp2;go_roundw
        case rel=>exact⟨k+1,by go_num,hkn,hg2.out,by trivial⟩
        case measure=>simp [intOf];omega
    ·have Bf:k=l.length:=(by omega);subst Bf;have hr:r=true:=(by rw [HR.out];exact AkZ H0.out (by omega) (fun i hi=>RY.out i hi hi));have KV:=ArW hr;clear hr;go_wp2;go_ret;exact⟨NW (by rw [KV.out]),HX.out⟩
def Ew(e:En):Value:=.agg #[S e.u,S e.s,.int .i64 e.p,S e.t]
def AN(l:List En):List Value:=l.flatMap (fun e=>[S e.u,S e.s,.int .i64 e.p,S e.t])
theorem cQ(l:List En):(AN l).length=l.length*4:=by
 induction l with
 | nil=>rfl
 | cons e l ih=>unfold AN at *;simp only [List.flatMap_cons,List.length_append,ih,List.length_cons,List.length_nil];omega
theorem wL:∀(l:List En) (j:Nat) (h:j<l.length),(AN l)[j*4]?=some (S l[j].u)/\(AN l)[j*4+1]?=some (S l[j].s)/\(AN l)[j*4+2]?=some (.int .i64 l[j].p)/\(AN l)[j*4+3]?=some (S l[j].t)
 | e::l,0,_=>⟨rfl,rfl,rfl,rfl⟩
 | e::l,j+1,h=>by
  have ih:=wL l j (by simpa using h);have e0:AN (e::l)=S e.u::S e.s :: .int .i64 e.p::S e.t::AN l:=rfl;rw [e0];have e1:(j+1)*4=j*4+1+1+1+1:=(by omega);rw [e1]
  simpa using ih
theorem Rz{w:World}{A:Option Addr}{l:List En}(hr:Ae w A (AN l)){j:Nat}(h:j<l.length):∃b o,A=some ⟨b,o,none⟩/\w.cell? ⟨b,o+j*4,none⟩=some (S l[j].u)/\w.cell? ⟨b,o+j*4+1,none⟩=some (S l[j].s)/\w.cell? ⟨b,o+j*4+2,none⟩=some (.int .i64 l[j].p)/\w.cell? ⟨b,o+j*4+3,none⟩=some (S l[j].t):=by
 have hl:=cQ l;obtain⟨b,o,e,hcs⟩:=hr.ad (by omega);obtain⟨f0,f1,f2,f3⟩:=wL l j h;have g0:=hcs (j*4) (by omega);have g1:=hcs (j*4+1) (by omega);have g2:=hcs (j*4+2) (by omega);have g3:=hcs (j*4+3) (by omega);rw [Asf (by omega),Ase]at f0 f1 f2 f3;rw [f0]at g0;rw [f1,←Nat.add_assoc]at g1;rw [f2,←Nat.add_assoc]at g2;rw [f3,←Nat.add_assoc]at g3;exact⟨b,o,e,g0,g1,g2,g3⟩
def LZ(e:La):Value:=.agg #[S e.u,S e.mn,S e.mx]
def Cj(l:List La):List Value:=l.flatMap (fun e=>[S e.u,S e.mn,S e.mx])
theorem AjY(l:List La):(Cj l).length=l.length*3:=by
 induction l with
 | nil=>rfl
 | cons e l ih=>unfold Cj at *;simp only [List.flatMap_cons,List.length_append,ih,List.length_cons,List.length_nil];omega
theorem r6:∀(l:List La) (j:Nat) (h:j<l.length),(Cj l)[j*3]?=some (S l[j].u)/\(Cj l)[j*3+1]?=some (S l[j].mn)/\(Cj l)[j*3+2]?=some (S l[j].mx)
 | e::l,0,_=>⟨rfl,rfl,rfl⟩
 | e::l,j+1,h=>by
  have ih:=r6 l j (by simpa using h);have e0:Cj (e::l)=S e.u::S e.mn::S e.mx::Cj l:=rfl;rw [e0];have e1:(j+1)*3=j*3+1+1+1:=(by omega);rw [e1]
  simpa using ih
theorem nC{w:World}{A:Option Addr}{l:List La}(hr:Ae w A (Cj l)){j:Nat}(h:j<l.length):∃b o,A=some ⟨b,o,none⟩/\w.cell? ⟨b,o+j*3,none⟩=some (S l[j].u)/\w.cell? ⟨b,o+j*3+1,none⟩=some (S l[j].mn)/\w.cell? ⟨b,o+j*3+2,none⟩=some (S l[j].mx):=by
 have hl:=AjY l;obtain⟨b,o,e,hcs⟩:=hr.ad (by omega);obtain⟨f0,f1,f2⟩:=r6 l j h;have g0:=hcs (j*3) (by omega);have g1:=hcs (j*3+1) (by omega);have g2:=hcs (j*3+2) (by omega);rw [Asf (by omega),Ase]at f0 f1 f2;rw [f0]at g0;rw [f1,←Nat.add_assoc]at g1;rw [f2,←Nat.add_assoc]at g2;exact⟨b,o,e,g0,g1,g2⟩
theorem qp{g:FuncId}{cb:Array Value}(eg:∀args w,(callFunc g args).run Tryz.prog w=.ok (.enter g args) w)(p:En→Bool)(l:List En)(A:Option Addr)(c:Nat)(w:World)(hr:Ae w A (AN l))(hc:l.length<=c)(hcm:c<=9223372036854775807)
  (hp:∀e∈l,∀W,Aa w W→Calls Tryz.prog g (#[Ew e]++cb) W (Bw (p e) W)) :
  Calls Tryz.prog 71 #[.slice A l.length c,.func (.func g) #[] cb] w (Av (CC p l) w):=by
 obtain⟨r,hr0⟩:=ArV (CC p l);rw [←hr0];have HR:=ArW hr0;have HP:=ArW hp;clear hr0 hp;go_enter Tryz.func71,Tryz.ntmps71;go_wp2
 go_loopw [8] (fun i wr=>∃j:Nat,i=.int .i64 (j:Nat)/\j<=l.length/\(∀q∈l.take j,p q=false)/\Aa w wr) (fun i _=>l.length-(intOf i).toNat)
 case atStart=>exact⟨0,rfl,by omega,by simp,Aa.refl _⟩
 case round=>
  obtain⟨j,rfl,hj,Ah,Ad⟩:=hrel;have HO:=ArW Ah;clear Ah;by_cases hlt:j<l.length
  ·obtain⟨b,o,rfl,hg1,hg2,hg3,hg4⟩:=Rz (hr.ext Ad) hlt;obtain⟨q,hq⟩:=ArV (l[j]);have bf:=HP.out l[j] (Asa hlt) wr Ad;rw [←hq]at hg1 hg2 hg3 hg4 bf;unfold Ew at bf;have hj0:(0:Int)<=(j:Int):=(by omega);have A7:(j:Int)<(l.length:Int):=(by omega);have HQ:=ArW hq;clear hq
   cases e0:p q
   ·have HE:=ArW e0;rw [e0]at bf;clear e0;(go_wp2_with fail);(with_reducible refine bf.mono ?_);rintro e w2 ⟨rfl,hx2⟩;go_wp2;go_roundw
    case rel=>
     refine⟨j+1,by go_num,hlt,?_,Ad.trans hx2⟩;intro x hx;rw [Asd hlt,←HQ.out]at hx
     rcases List.mem_append.1 hx with h|h
     ·exact HO.out x h
     ·simp only [Asn]at h;rw [h];exact HE.out
    case measure=>simp [intOf];omega
   ·have Ct:r=(j:Int):=(by rw [HR.out];exact XS hlt HO.out (by rw [←HQ.out];exact e0));rw [e0]at bf;clear e0;subst Ct;(go_wp2_with fail);(with_reducible refine bf.mono ?_);rintro e w2 ⟨rfl,hx2⟩;go_wp2;go_ret;exact⟨rfl,Ad.trans hx2⟩
  ·have hle:(l.length:Int)<=(j:Int):=(by omega);have Ct:r = -1:=(by rw [HR.out];exact Rb (by have:=HO.out;rw [Asi (by omega)]at this;exact this));subst Ct;go_wp2;go_ret;exact⟨rfl,Ad⟩
theorem sM{g:FuncId}{cb:Array Value}(eg:∀args w,(callFunc g args).run Tryz.prog w=.ok (.enter g args) w)(p:En→Bool)(l:List En)(A:Option Addr)(c:Nat)(w:World)(hr:Ae w A (AN l))(hc:l.length<=c)(hcm:c<=9223372036854775807)
  (hp:∀e∈l,∀W,Aa w W→Calls Tryz.prog g (#[Ew e]++cb) W (Bw (p e) W)) :
  Calls Tryz.prog 66 #[.slice A l.length c,.func (.func g) #[] cb] w (Bw (l.any p) w):=by
 have ix:=qp eg p l A c w hr hc hcm hp;have ha:=kT p l;obtain⟨r,hr0⟩:=ArV (l.any p);rw [←hr0]at ha ⊢;generalize CC p l=z at *;clear hr hr0 hp eg;go_enter Tryz.func66,Tryz.ntmps66;(go_wp2_with fail);(with_reducible refine ix.mono ?_);rintro e w1 ⟨rfl,hx⟩;go_wp2;go_ret;exact⟨by rw [←ha];rfl,hx⟩
theorem Ag1(x:En)(u:Bs)(b:Nat)(w:World)(hb:w.cell? ⟨b,0,none⟩=some (S u)) :
  Calls Tryz.prog 139 #[Ew x,.pointer (some ⟨b,0,none⟩)] w (Bw (x.u == u) w):=by
 have hx:=(Aa.refl w).alloc (.cells #[S x.u,S x.s,.int .i64 x.p,S x.t] 40);have j1:=hx.cellS hb;unfold Ew;clear hb;go_enter Tryz.func139,Tryz.ntmps139;go_wp2;go_ret;exact⟨rfl,hx⟩
theorem AfW:∀args w,(callFunc 139 args).run Tryz.prog w=.ok (.enter 139 args) w:=enters_of Tryz.func139 (by kernel_rfl) rfl
theorem xA(l:List En)(u:Bs)(A:Option Addr)(c:Nat)(w:World)(hr:Ae w A (AN l))(hc:l.length<=c)(hcm:c<=9223372036854775807) :
  Calls Tryz.prog 69 #[.slice A l.length c,S u] w (Av (I6 l u) w):=by
 have hb:=ArY w (.cells #[S u] 9);have hE:=(Aa.refl w).alloc (.cells #[S u] 9)
 have ix:=qp (cb:=#[.pointer (some ⟨w.heap.size,0,none⟩)]) AfW (fun e=>e.u == u) l A c (w.alloc (.cells #[S u] 9)) (hr.ext hE) hc hcm
  (fun e _ W hx=>Ag1 e u _ W (Ab (o:=0) ((hx.block _ (ArX hb)).trans hb) rfl))
 unfold I6;clear hr hb;go_enter Tryz.func69,Tryz.ntmps69;(go_wp2_with fail);(with_reducible refine ix.mono ?_);rintro e w1 ⟨rfl,hx⟩;go_wp2;go_ret;exact⟨rfl,hE.trans hx⟩
theorem qq{g:FuncId}{cb:Array Value}(eg:∀args w,(callFunc g args).run Tryz.prog w=.ok (.enter g args) w)(p:La→Bool)(l:List La)(A:Option Addr)(c:Nat)(w:World)(hr:Ae w A (Cj l))(hc:l.length<=c)(hcm:c<=9223372036854775807)
  (hp:∀e∈l,∀W,Aa w W→Calls Tryz.prog g (#[LZ e]++cb) W (Bw (p e) W)) :
  Calls Tryz.prog 22 #[.slice A l.length c,.func (.func g) #[] cb] w (Av (CC p l) w):=by
 obtain⟨r,hr0⟩:=ArV (CC p l);rw [←hr0];have HR:=ArW hr0;have HP:=ArW hp;clear hr0 hp;go_enter Tryz.func22,Tryz.ntmps22;go_wp2
 go_loopw [8] (fun i wr=>∃j:Nat,i=.int .i64 (j:Nat)/\j<=l.length/\(∀q∈l.take j,p q=false)/\Aa w wr) (fun i _=>l.length-(intOf i).toNat)
 case atStart=>exact⟨0,rfl,by omega,by simp,Aa.refl _⟩
 case round=>
  obtain⟨j,rfl,hj,Ah,Ad⟩:=hrel;have HO:=ArW Ah;clear Ah;by_cases hlt:j<l.length
  ·obtain⟨b,o,rfl,hg1,hg2,hg3⟩:=nC (hr.ext Ad) hlt;obtain⟨q,hq⟩:=ArV (l[j]);have bf:=HP.out l[j] (Asa hlt) wr Ad;rw [←hq]at hg1 hg2 hg3 bf;unfold LZ at bf;have hj0:(0:Int)<=(j:Int):=(by omega);have A7:(j:Int)<(l.length:Int):=(by omega);have HQ:=ArW hq;clear hq
   cases e0:p q
   ·have HE:=ArW e0;rw [e0]at bf;clear e0;(go_wp2_with fail);(with_reducible refine bf.mono ?_);rintro e w2 ⟨rfl,hx2⟩;go_wp2;go_roundw
    case rel=>
     refine⟨j+1,by go_num,hlt,?_,Ad.trans hx2⟩;intro x hx;rw [Asd hlt,←HQ.out]at hx
     rcases List.mem_append.1 hx with h|h
     ·exact HO.out x h
     ·simp only [Asn]at h;rw [h];exact HE.out
    case measure=>simp [intOf];omega
   ·have Ct:r=(j:Int):=(by rw [HR.out];exact XS hlt HO.out (by rw [←HQ.out];exact e0));rw [e0]at bf;clear e0;subst Ct;(go_wp2_with fail);(with_reducible refine bf.mono ?_);rintro e w2 ⟨rfl,hx2⟩;go_wp2;go_ret;exact⟨rfl,Ad.trans hx2⟩
  ·have hle:(l.length:Int)<=(j:Int):=(by omega);have Ct:r = -1:=(by rw [HR.out];exact Rb (by have:=HO.out;rw [Asi (by omega)]at this;exact this));subst Ct;go_wp2;go_ret;exact⟨rfl,Ad⟩
theorem qx{g:FuncId}{cb:Array Value}(eg:∀args w,(callFunc g args).run Tryz.prog w=.ok (.enter g args) w)(p:Bs→Bool)(l:List Bs)(A:Option Addr)(c:Nat)(w:World)(hr:Ae w A (l.map S))(hc:l.length<=c)(hcm:c<=9223372036854775807)
  (hp:∀e∈l,∀W,Aa w W→Calls Tryz.prog g (#[S e]++cb) W (Bw (p e) W)) :
  Calls Tryz.prog 70 #[.slice A l.length c,.func (.func g) #[] cb] w (Av (CC p l) w):=by
 obtain⟨r,hr0⟩:=ArV (CC p l);rw [←hr0];have HR:=ArW hr0;have HP:=ArW hp;clear hr0 hp;go_enter Tryz.func70,Tryz.ntmps70;go_wp2
 go_loopw [8] (fun i wr=>∃j:Nat,i=.int .i64 (j:Nat)/\j<=l.length/\(∀q∈l.take j,p q=false)/\Aa w wr) (fun i _=>l.length-(intOf i).toNat)
 case atStart=>exact⟨0,rfl,by omega,by simp,Aa.refl _⟩
 case round=>
  obtain⟨j,rfl,hj,Ah,Ad⟩:=hrel;have HO:=ArW Ah;clear Ah;by_cases hlt:j<l.length
  ·obtain⟨b,o,rfl,hcs⟩:=(hr.ext Ad).ad (by simp;omega);have hg1:=hcs j (by simpa using hlt);rw [List.getElem_map]at hg1;clear hcs;obtain⟨q,hq⟩:=ArV (l[j]);have bf:=HP.out l[j] (Asa hlt) wr Ad;rw [←hq]at hg1 bf;have hj0:(0:Int)<=(j:Int):=(by omega);have A7:(j:Int)<(l.length:Int):=(by omega);have HQ:=ArW hq;clear hq
   cases e0:p q
   ·have HE:=ArW e0;rw [e0]at bf;clear e0;(go_wp2_with fail);(with_reducible refine bf.mono ?_);rintro e w2 ⟨rfl,hx2⟩;go_wp2;go_roundw
    case rel=>
     refine⟨j+1,by go_num,hlt,?_,Ad.trans hx2⟩;intro x hx;rw [Asd hlt,←HQ.out]at hx
     rcases List.mem_append.1 hx with h|h
     ·exact HO.out x h
     ·simp only [Asn]at h;rw [h];exact HE.out
    case measure=>simp [intOf];omega
   ·have Ct:r=(j:Int):=(by rw [HR.out];exact XS hlt HO.out (by rw [←HQ.out];exact e0));rw [e0]at bf;clear e0;subst Ct;(go_wp2_with fail);(with_reducible refine bf.mono ?_);rintro e w2 ⟨rfl,hx2⟩;go_wp2;go_ret;exact⟨rfl,Ad.trans hx2⟩
  ·have hle:(l.length:Int)<=(j:Int):=(by omega);have Ct:r = -1:=(by rw [HR.out];exact Rb (by have:=HO.out;rw [Asi (by omega)]at this;exact this));subst Ct;go_wp2;go_ret;exact⟨rfl,Ad⟩
theorem AdC{g:FuncId}{cb:Array Value}(eg:∀args w,(callFunc g args).run Tryz.prog w=.ok (.enter g args) w)(p:Bs→Bool)(l:List Bs)(A:Option Addr)(c:Nat)(w:World)(hr:Ae w A (l.map S))(hc:l.length<=c)(hcm:c<=9223372036854775807)
  (hp:∀e∈l,∀W,Aa w W→Calls Tryz.prog g (#[S e]++cb) W (Bw (p e) W)) :
  Calls Tryz.prog 41 #[.slice A l.length c,.func (.func g) #[] cb] w (Bw (l.any p) w):=by
 have ix:=qx eg p l A c w hr hc hcm hp;have ha:=kT p l;obtain⟨r,hr0⟩:=ArV (l.any p);rw [←hr0]at ha ⊢;generalize CC p l=z at *;clear hr hr0 hp eg;go_enter Tryz.func41,Tryz.ntmps41;(go_wp2_with fail);(with_reducible refine ix.mono ?_);rintro e w1 ⟨rfl,hx⟩;go_wp2;go_ret;exact⟨by rw [←ha];rfl,hx⟩
theorem UE{w:World}{B:Nat}{e:TypeId}{s n:Nat}{v:Value}{xs:List Value}(hs:0<s)(h:w.ownsRow B e s v n xs):∃A c,v=.slice A n c:=by
 obtain⟨A,c,e,_⟩:=Ae.of_own' hs h;exact⟨A,c,e⟩
theorem AfN(l:List En)(e:En):AN (l ++ [e])=AN l ++ [S e.u,S e.s,.int .i64 e.p,S e.t]:=by unfold AN;simp
theorem Ao9(l:List Bs)(d:Bs):(l ++ [d]).map S=l.map S ++ [S d]:=by simp
theorem Tryz.infoEn:(Tryz.prog.info? 40).map (fun i=>(i.zero,i.size,i.bytes))=some (some (.agg #[S [],S [],.int .i64 0,S []]),4,56):=by kernel_rfl
theorem Tryz.infoSt:(Tryz.prog.info? 9).map (fun i=>(i.zero,i.size,i.bytes))=some (some (S []),1,16):=by kernel_rfl
section
variable {ops : Array Oper} {rest : List Oper} {o : Oper} {a : Act} {K : Act → World → Prop} {Q : Exit → Act → World → Prop} {E : Prop}
theorem Apy(s x:Operand)(ho:o.op=.call {callee:=.builtin .append,args:=#[s,x],argTypes:=#[26,26]})
  (wN:World) (base:Nat) (v:Value) (n:Nat) (l:List En) (hs:a.eval s=v) (hown:wN.ownsRow base 40 4 v n (AN l)) (hn:n<200000) (d:En)
  (g:Nat) (hb:wN.heap[g]?=some (.cells #[S d.u,S d.s,.int .i64 d.p,S d.t] 40)) (hx:a.eval x=.slice (some ⟨g,0,none⟩) 1 1) (hbase:base<=wN.heap.size)
  (h:∀v' w',w'.ownsRow base 40 4 v' (n+1) (AN (l ++ [d]))→(∀w0,Aa w0 wN→w0.heap.size<=base→Aa w0 w')→wN.grownBy w' v.ownBlock→K (a.put o.dst v') w') :
  o.wp Tryz.prog a wN K Q:=by
 obtain⟨i0,hi,hz0,hz1,hz2⟩:=info_parts Tryz.infoEn;refine RL s x 26 ho 40 i0 _ 4 56 Tryz.underlying26 hi hz0 hz1 hz2 rfl (by omega) (by omega) wN base v n _ hs hown hn g _ hb rfl ?_ hx hbase ?_
 ·intro u hu;simp only [List.mem_cons,Asm,or_false]at hu
  rcases hu with rfl|rfl|rfl|rfl<;>rfl
 ·intro v' w' h1 h2 h3;exact h v' w' (by rw [AfN];exact h1) h2 h3
theorem sP(hgd:o.guard=none)(s x:Operand)(ho:o.op=.call {callee:=.builtin .append,args:=#[s,x],argTypes:=#[26,26]})
  (wN:World) (base:Nat) (v:Value) (n:Nat) (l:List En) (hs:a.eval s=v) (hown:wN.ownsRow base 40 4 v n (AN l)) (hn:n<200000) (d:En)
  (g:Nat) (hb:wN.heap[g]?=some (.cells #[S d.u,S d.s,.int .i64 d.p,S d.t] 40)) (hx:a.eval x=.slice (some ⟨g,0,none⟩) 1 1) (hbase:base<=wN.heap.size)
  (h:∀v' w',w'.ownsRow base 40 4 v' (n+1) (AN (l ++ [d]))→(∀w0,Aa w0 wN→w0.heap.size<=base→Aa w0 w')→wpList Tryz.prog ops Q rest (a.put o.dst v') w') :
  wpList Tryz.prog ops Q (o::rest) a wN:=
 wpList_plain hgd fun _ hK=>Apy s x ho wN base v n l hs hown hn d g hb hx hbase fun v' w' h1 h2 _=>hK _ _ (h v' w' h1 h2)
theorem Apz(s x:Operand)(ho:o.op=.call {callee:=.builtin .append,args:=#[s,x],argTypes:=#[23,23]})
  (wN:World) (base:Nat) (v:Value) (n:Nat) (l:List Bs) (hs:a.eval s=v) (hown:wN.ownsRow base 9 1 v n (l.map S)) (hn:n<200000) (d:Bs)
  (g:Nat) (hb:wN.heap[g]?=some (.cells #[S d] 9)) (hx:a.eval x=.slice (some ⟨g,0,none⟩) 1 1) (hbase:base<=wN.heap.size)
  (h:∀v' w',w'.ownsRow base 9 1 v' (n+1) ((l ++ [d]).map S)→(∀w0,Aa w0 wN→w0.heap.size<=base→Aa w0 w')→wN.grownBy w' v.ownBlock→K (a.put o.dst v') w') :
  o.wp Tryz.prog a wN K Q:=by
 obtain⟨i0,hi,hz0,hz1,hz2⟩:=info_parts Tryz.infoSt;refine RL s x 23 ho 9 i0 _ 1 16 Tryz.underlying23 hi hz0 hz1 hz2 rfl (by omega) (by omega) wN base v n _ hs hown hn g _ hb rfl ?_ hx hbase ?_
 ·intro u hu;simp only [List.mem_cons,Asm,or_false]at hu
  rcases hu with rfl<;>rfl
 ·intro v' w' h1 h2 h3;exact h v' w' (by rw [Ao9];exact h1) h2 h3
theorem aF(hgd:o.guard=none)(s x:Operand)(ho:o.op=.call {callee:=.builtin .append,args:=#[s,x],argTypes:=#[23,23]})
  (wN:World) (base:Nat) (v:Value) (n:Nat) (l:List Bs) (hs:a.eval s=v) (hown:wN.ownsRow base 9 1 v n (l.map S)) (hn:n<200000) (d:Bs)
  (g:Nat) (hb:wN.heap[g]?=some (.cells #[S d] 9)) (hx:a.eval x=.slice (some ⟨g,0,none⟩) 1 1) (hbase:base<=wN.heap.size)
  (h:∀v' w',w'.ownsRow base 9 1 v' (n+1) ((l ++ [d]).map S)→(∀w0,Aa w0 wN→w0.heap.size<=base→Aa w0 w')→wpList Tryz.prog ops Q rest (a.put o.dst v') w') :
  wpList Tryz.prog ops Q (o::rest) a wN:=
 wpList_plain hgd fun _ hK=>Apz s x ho wN base v n l hs hown hn d g hb hx hbase fun v' w' h1 h2 _=>hK _ _ (h v' w' h1 h2)
end
def Ym:Array Value:=#[S [65],S [66],S [67],S [68],S [69],S [70],S [97],S [98],S [99],S [100],S [120],S [121]]
def rN(k:Nat)(s:Bs)(w:World)(e:Ending)(w':World):Prop:=∃g,e=.returned (.slice (some ⟨g,0,none⟩) 12 12)/\w'.cell? ⟨g,k,none⟩=some (S s)/\g<w'.heap.size/\Aa w w'
theorem Alc:∀k,k<12→Ym[k]?=some (S (NI.getD k [])):=by
 intro k hk
 rcases(by omega:k=0∨k=1∨k=2∨k=3∨k=4∨k=5∨k=6∨k=7∨k=8∨k=9∨k=10∨k=11)with rfl|rfl|rfl|rfl|rfl|rfl|rfl|rfl|rfl|rfl|rfl|rfl<;>rfl
theorem Ald(k:Nat)(hk:k<12)(w:World):Calls Tryz.prog 65 #[] w (rN k (NI.getD k []) w):=by
 have hb:=ArY w (.cells Ym 9);have hE:=(Aa.refl w).alloc (.cells Ym 9);have Ay:rN k (NI.getD k []) w (.returned (.slice (some ⟨w.heap.size,0,none⟩) 12 12)) (w.alloc (.cells Ym 9)):=⟨_,rfl,Ab hb (Alc k hk),ArX hb,hE⟩;have HF:=ArW Ay;clear Ay hb hE;go_enter Tryz.func65,Tryz.ntmps65;go_wp2;go_ret;exact HF.out
def Hu(l:List Dr):List Value:=l.flatMap (fun e=>[.int .u8 (e.u.toNat:Nat),.int .u8 (e.s.toNat:Nat),.int .u8 (e.p.toNat:Nat),.int .u8 (e.t.toNat:Nat)])
theorem vU(l:List Dr):(Hu l).length=l.length*4:=by
 induction l with
 | nil=>rfl
 | cons e l ih=>unfold Hu at *;simp only [List.flatMap_cons,List.length_append,ih,List.length_cons,List.length_nil];omega
theorem bS:∀(l:List Dr) (j:Nat) (h:j<l.length),(Hu l)[j*4]?=some (.int .u8 (l[j].u.toNat:Nat))/\(Hu l)[j*4+1]?=some (.int .u8 (l[j].s.toNat:Nat))/\(Hu l)[j*4+2]?=some (.int .u8 (l[j].p.toNat:Nat))/\(Hu l)[j*4+3]?=some (.int .u8 (l[j].t.toNat:Nat))
 | e::l,0,_=>⟨rfl,rfl,rfl,rfl⟩
 | e::l,j+1,h=>by
  have ih:=bS l j (by simpa using h);have e0:Hu (e::l)=.int .u8 (e.u.toNat:Nat) :: .int .u8 (e.s.toNat:Nat) :: .int .u8 (e.p.toNat:Nat) :: .int .u8 (e.t.toNat:Nat)::Hu l:=rfl;rw [e0];have e1:(j+1)*4=j*4+1+1+1+1:=(by omega);rw [e1]
  simpa using ih
theorem AmT{w:World}{A:Option Addr}{l:List Dr}(hr:Ae w A (Hu l)){j:Nat}(h:j<l.length):∃b o,A=some ⟨b,o,none⟩/\w.cell? ⟨b,o+j*4,none⟩=some (.int .u8 (l[j].u.toNat:Nat))/\w.cell? ⟨b,o+j*4+1,none⟩=some (.int .u8 (l[j].s.toNat:Nat))/\w.cell? ⟨b,o+j*4+2,none⟩=some (.int .u8 (l[j].p.toNat:Nat))/\w.cell? ⟨b,o+j*4+3,none⟩=some (.int .u8 (l[j].t.toNat:Nat)):=by
 have hl:=vU l;obtain⟨b,o,e,hcs⟩:=hr.ad (by omega);obtain⟨f0,f1,f2,f3⟩:=bS l j h;have g0:=hcs (j*4) (by omega);have g1:=hcs (j*4+1) (by omega);have g2:=hcs (j*4+2) (by omega);have g3:=hcs (j*4+3) (by omega);rw [Asf (by omega),Ase]at f0 f1 f2 f3;rw [f0]at g0;rw [f1,←Nat.add_assoc]at g1;rw [f2,←Nat.add_assoc]at g2;rw [f3,←Nat.add_assoc]at g3;exact⟨b,o,e,g0,g1,g2,g3⟩
theorem AkD(y e:En)(b:Nat)(w:World)(hb:w.heap[b]?=some (.cells #[S e.u,S e.s,.int .i64 e.p,S e.t] 40)) :
  Calls Tryz.prog 67 #[Ew y,.pointer (some ⟨b,0,none⟩)] w (Bw (y.u == e.u||y.s == e.s) w):=by
 have hx:=(Aa.refl w).alloc (.cells #[S y.u,S y.s,.int .i64 y.p,S y.t] 40);have j0:=hx.cellS (Ab (o:=0) hb rfl);have j1:=hx.cellS (Ab (o:=1) hb rfl);unfold Ew;clear hb;obtain⟨r,hr⟩:=ArV ((y.u == e.u||y.s == e.s));rw [←hr]
 cases h1:(y.u == e.u)
 ·have HR:=ArW (show r=(y.s == e.s)by rw [hr,h1,Bool.false_or]);clear hr;go_enter Tryz.func67,Tryz.ntmps67;go_wp2;go_ret;exact⟨by rw [HR.out];rfl,hx⟩
 ·have HR:=ArW (show r=true by rw [hr,h1,Bool.true_or]);clear hr;go_enter Tryz.func67,Tryz.ntmps67;go_wp2;go_ret;exact⟨by rw [HR.out];rfl,hx⟩
theorem AfX:∀args w,(callFunc 67 args).run Tryz.prog w=.ok (.enter 67 args) w:=enters_of Tryz.func67 (by kernel_rfl) rfl
end Go.Proofs.YtbejphgbbpplbaaGreatDoor
