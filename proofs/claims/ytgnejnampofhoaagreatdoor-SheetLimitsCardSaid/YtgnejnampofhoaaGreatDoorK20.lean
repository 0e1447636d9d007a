/- K20: ShQ8 ShQ9 ShQD ShLG1 ShLG2 ShLG3 ShKJ2. -/
import Derived.Test.YtgnejnampofhoaaGreatDoorK19
set_option maxRecDepth 100000
set_option maxHeartbeats 8000000
namespace Go.Proofs.YtgnejnampofhoaaGreatDoor
section
open Go.RowKit Kl
structure MK(w:World)(A:Option Addr)(c:Nat)(P:List (List Pt×Bs)):Prop where
 c1:P.length<=c
 c2:c<=9223372036854775807
 row:∀j (h:j<P.length),∃b o A' c',A=some ⟨b,o,none⟩/\w.cell? ⟨b,o+j*3,none⟩=some (.slice A' P[j].1.length c')/\w.cell? ⟨b,o+j*3+1,none⟩=some (S P[j].2)/\w.cell? ⟨b,o+j*3+2,none⟩=some (.slice none 0 0)/\Ae w A' (flat (Ai P[j].1))/\P[j].1.length<=c'/\c'<=9223372036854775807
theorem MK.ext{w w':World}{A:Option Addr}{c:Nat}{P:List (List Pt×Bs)}(h:MK w A c P)(hx:Ac w w'):MK w' A c P:=
 ⟨h.c1,h.c2,fun j hj=>by
  obtain⟨b,o,A',c',h1,h2,h3,h4,h5,h6,h7⟩:=h.row j hj
  exact⟨b,o,A',c',h1,hx.cellS h2,hx.cellS h3,hx.cellS h4,h5.ext hx,h6,h7⟩⟩
end
section
open Go.RowKit Kl
theorem AgH(w:World)(l:Bs):∃W c,(convert 9 50 (S l)).run Tryz.prog w=.ok (.slice (some ⟨w.heap.size,0,none⟩) l.length c) W/\Ac w W/\∀j (h:j<l.length),W.cell? ⟨w.heap.size,j,none⟩=some (.int .u8 (l[j].toNat:Nat)):=by
 refine⟨Go.Lib.bytesWorld w 5 ⟨l.toArray⟩,_,Go.Lib.run_convert_string_bytes w 9 50 5 ⟨l.toArray⟩ Tryz.underlying9 Tryz.underlying50 Tryz.underlying5,?_,?_⟩
 ·have h1:Ac w (w.drew.alloc (.cells (Go.Lib.bytesCells w 5 ⟨l.toArray⟩) 5)):=(Ac.refl w).drew.alloc _;refine⟨h1.os,h1.tape,h1.output,?_,fun j hj=>Go.Lib.bytesWorld_at_old w 5 ⟨l.toArray⟩ j hj⟩;rw [Go.Lib.bytesWorld_size];omega
 ·intro j h;have:=Go.Lib.bytesWorld_cell w 5 ⟨l.toArray⟩ j (show j<l.toArray.size by simpa using h);rw [this];simp [List.getD_eq_getElem?_getD,h]
end
end Go.Proofs.YtgnejnampofhoaaGreatDoor
namespace Kl
def Jy(i:Nat)(b:UInt8):Bool:=IG b||(decide (i≠0)&&LA b)
theorem AdD{l:Bs}{k:Nat}(hk:k<l.length)(h:Jy k l[k]=false):nameB l=false:=by
 cases l with
 | nil=>rfl
 | cons b l=>
  unfold nameB;unfold Jy at h
  cases k with
  | zero=>
   simp only [List.getElem_cons_zero,ne_eq,not_true,decide_false,Bool.false_and,Bool.or_false]at h;show (decide (l.length<32)&&(IG b&&l.all (fun c=>IG c||LA c)))=false;rw [h];simp
  | succ k=>
   simp only [List.getElem_cons_succ]at h;have hk':k<l.length:=by simpa using hk
   have h2:l.all (fun c=>IG c||LA c)=false:=by rw [List.all_eq_false];exact⟨l[k],List.getElem_mem hk',by simpa using h⟩
   show (decide (l.length<32)&&(IG b&&l.all (fun c=>IG c||LA c)))=false;rw [h2];simp
theorem AdE{l:Bs}(h0:l≠[])(h1:l.length<=32)(h:∀k (hk:k<l.length),Jy k l[k]=true):nameB l=true:=by
 cases l with
 | nil=>exact absurd rfl h0
 | cons b l=>
  unfold nameB;rw [Bool.and_eq_true,Bool.and_eq_true];refine⟨decide_eq_true (by simp only [List.length_cons]at h1;omega),?_,?_⟩
  ·have:=h 0 (by simp)
   simpa [Jy]using this
  ·rw [List.all_eq_true];intro c hc;obtain⟨j,hj,rfl⟩:=List.getElem_of_mem hc;have:=h (j+1) (by simpa using hj)
   simpa [Jy]using this
end Kl
namespace Go.Proofs.YtgnejnampofhoaaGreatDoor
open Go.RowKit Kl
theorem uI(l:Bs)(hl:l.length<1000000)(w:World) :
  Calls Tryz.prog 69 #[S l] w (By (nameB l) w):=by
 obtain⟨W,c,hcv,hx,hcell⟩:=AgH w l;by_cases h0:l = []
 ·subst h0;clear hcv hcell;go_enter Tryz.func69,Tryz.ntmps69;go_wp2;go_ret;exact⟨So rfl,Ac.refl _⟩
 ·have e1:(l == [])=false:=beq_false_of_ne h0
  have e2:l.isEmpty=false:=by cases l with|nil=>exact absurd rfl h0|cons a b=>rfl
  have H0:=Ajw h0;by_cases h1:32<l.length
  ·have ho:nameB l=false:=by
    cases l with
    | nil=>rfl
    | cons b l=>show (decide (l.length < 32) && _)=false;rw [decide_eq_false (by simp only [List.length_cons]at h1;omega)];rfl
   have HO:=Ajw ho;have h1':(32:Int)<(l.length:Int):=(by omega);clear ho hcv hcell;go_enter Tryz.func69,Tryz.ntmps69;go_wp2;go_ret;exact⟨So (by rw [HO.out]),Ac.refl _⟩
  ·have h1':¬((32:Int)<(l.length:Int)):=(by omega);have AhJ:(l.length:Int)<=32:=(by omega);have HC:=Ajw hcell;have HX:=Ajw hx;obtain⟨r,hr0⟩:=Ajv (nameB l);rw [←hr0];have HR:=Ajw hr0;clear hcell hx hr0;obtain⟨bw,CM⟩:=Ajv w.heap.size;rw [←CM]at hcv;have fu:=Ajw CM;clear CM;go_enter Tryz.func69,Tryz.ntmps69
   go_upto_region 4 with fail
   go_loopw [17] (fun kv wr=>∃(k:Nat),kv=.int .i64 (k:Nat)/\k<=l.length/\(∀i (h:i<l.length),i<k→Jy i l[i]=true)/\wr=W) (fun kv _=>l.length-(intOf kv).toNat)
   case atStart=>exact⟨0,rfl,by omega,by intro i _ h;omega,rfl⟩
   case round=>
    obtain⟨k,rfl,hk,O6,rfl⟩:=hrel;have eG:=Ajw O6;clear O6;by_cases hkn:k<l.length
    ·have hk0:(0:Int)<=(k:Int):=(by omega);have Dn:(k:Int)<(l.length:Int):=(by omega);have v1:IntKind.wrap .i64 ((k:Int)+1)=(k:Int)+1:=Aj5 _ (by omega);have hg:=HC.out k hkn;rw [←fu.out]at hg;have hg0:wr.cell? ⟨bw,0+k,none⟩=some (.int .u8 (l[k].toNat:Nat)):=(by rw [Nat.zero_add];exact hg);obtain⟨b,hb⟩:=Ajv (l[k]);rw [←hb]at hg hg0;have HB:=Ajw hb;clear hb
     go_upto_region 6 with fail
     go_cut [5] (fun v wx=>v=.bool (IG b)/\wx=wr)
     case first=>
      by_cases a1:97<=b.toNat<;>by_cases a2:b.toNat<=122<;>by_cases a3:65<=b.toNat<;>by_cases a4:b.toNat<=90
      all_goals
       have hv:IG b=((decide (97<=b.toNat)&&decide (b.toNat<=122))||(decide (65<=b.toNat)&&decide (b.toNat<=90))):=rfl;simp only [a1,a2,a3,a4,decide_true,decide_false,Bool.and_true,Bool.and_false,Bool.or_true,Bool.or_false]at hv;have HV:=Ajw hv;clear hv;go_wp2
       all_goals go_meet
       all_goals exact⟨by rw [HV.out];try (first|rfl|(congr 1;rw [Bool.eq_iff_iff];simp;omega)),rfl⟩
     case rest=>
      obtain⟨rfl,rfl⟩:=hcut;obtain⟨lt,hlt⟩:=Ajv (IG b);rw [←hlt];have jh:=Ajw hlt;clear hlt
      go_upto_region 7 with fail
      go_cut [6] (fun v wx=>v=.bool (LA b)/\wx=wc)
      case first=>
       have c95:((b.toNat:Int) == 95)=decide (b.toNat=95):=by rw [Bool.eq_iff_iff,beq_iff_eq,decide_eq_true_iff];omega
       by_cases a1:48<=b.toNat<;>by_cases a2:b.toNat<=57<;>by_cases a3:b.toNat=95
       all_goals
        have hv:LA b=((decide (48<=b.toNat)&&decide (b.toNat<=57))||decide (b.toNat=95)):=rfl;simp only [a1,a2,a3,decide_true,decide_false,Bool.and_true,Bool.and_false,Bool.or_true,Bool.or_false]at hv;have HV:=Ajw hv;clear hv;go_wp2
        all_goals go_meet
        all_goals exact⟨by rw [HV.out];try (first|rfl|(congr 1;rw [Bool.eq_iff_iff];simp;omega)),rfl⟩
      case rest=>
       obtain⟨rfl,rfl⟩:=hcut;obtain⟨dt,Kn⟩:=Ajv (LA b);rw [←Kn];have gp:=Ajw Kn;clear Kn;have IA:Jy k b=(lt||(decide (k≠0)&&dt)):=(by rw [jh.out,gp.out];rfl);have NS:=Ajw IA;clear IA
       have good:Jy k b=true→∀i (h:i<l.length),i<k+1→Jy i l[i]=true:=by
        intro hg i hi hik;by_cases e:i=k
        ·subst e;rw [←HB.out];exact hg
        ·exact eG.out i hi (by omega)
       have bad:Jy k b=false→r=false:=fun h=>(by rw [HR.out];exact AdD hkn (by rw [←HB.out];exact h));have HG:=Ajw good;have eI:=Ajw bad;clear good bad
       cases lt
       ·by_cases Uv:k=0
        ·subst Uv;have hr:r=false:=eI.out (by rw [NS.out];rfl);have PP:=Ajw hr;clear hr;go_wp2;go_ret;exact⟨So (by rw [PP.out]),HX.out⟩
        ·have t0:((k:Int) == 0)=false:=beq_false_of_ne (by omega)
         cases dt
         ·have hr:r=false:=eI.out (by rw [NS.out];simp);have PP:=Ajw hr;clear hr Uv;go_wp2;go_ret;exact⟨So (by rw [PP.out]),HX.out⟩
         ·have hg2:=Ajw (HG.out (by rw [NS.out];simp [Uv]));clear Uv;go_wp2;go_roundw
          case rel=>exact⟨k+1,by go_num,hkn,hg2.out,by trivial⟩
          case measure=>simp [intOf];omega
       ·have hg2:=Ajw (HG.out (by rw [NS.out];simp));go_wp2;go_roundw
        case rel=>exact⟨k+1,by go_num,hkn,hg2.out,by trivial⟩
        case measure=>simp [intOf];omega
    ·have CP:k=l.length:=(by omega);subst CP;have hr:r=true:=(by rw [HR.out];exact AdE H0.out (by omega) (fun i hi=>eG.out i hi hi));have PP:=Ajw hr;clear hr;go_wp2;go_ret;exact⟨So (by rw [PP.out]),HX.out⟩
def FB(k:Int)(a b p:Bs×Bs)(u:Bs):Value:=.agg #[.int .i64 k,S a.1,S a.2,S b.1,S b.2,S p.1,S p.2,S u]
noncomputable def Cp(t:Bs×Bs):Bool:=@decide (CH t.1/\CH t.2) (Classical.propDecidable _)
theorem Mx(t:Bs×Bs):Cp t=true↔CH t.1/\CH t.2:=by unfold Cp;exact @decide_eq_true_iff _ (Classical.propDecidable _)
def kH(k:Int):Nat:=if k=1 then 1 else if k=5 then 3 else 2
def AdP(k:Int):Bool:=k == 1||k == 2
noncomputable def JQ(k:Int)(a b p:Bs×Bs)(u:Bs):Int:=
 if k<1∨5<k then 12 else if ([a,b,p].take (kH k)).all Cp=false then 2
 else if (AdP k && !(u == []) && !nameB u)=true then 8 else if (!AdP k && !(u == [])||([a,b,p].drop (kH k)).any Dm)=true then 7 else 0
structure Qb(a b p:Bs×Bs)(u:Bs):Prop where
 a1:a.1.length<=17
 a2:a.2.length<=17
 b1:b.1.length<=17
 b2:b.2.length<=17
 p1:p.1.length<=17
 p2:p.2.length<=17
 u:u.length<=17
theorem Qb.pt{a b p:Bs×Bs}{u:Bs}(h:Qb a b p u):∀t∈[a,b,p],t.1.length<=17/\t.2.length<=17:=by
 obtain⟨h1,h2,h3,h4,h5,h6,-⟩:=h;intro t ht;simp only [List.mem_cons,AjA,or_false]at ht
 rcases ht with rfl|rfl|rfl<;>constructor<;>omega
theorem aI{w:World}{b:Nat}(x y z:Bs×Bs)(h:w.heap[b]?=some (.cells #[S x.1,S x.2,S y.1,S y.2,S z.1,S z.2] 27)):Ae w (some ⟨b,0,none⟩) (flat [x,y,z]):=by
 refine⟨fun _=>⟨b,0,rfl,fun j hj=>?_⟩⟩;have hj6:j<6:=hj;obtain rfl|rfl|rfl|rfl|rfl|rfl:j=0∨j=1∨j=2∨j=3∨j=4∨j=5:=by omega
 all_goals exact Aa h rfl
theorem Xq{w:World}{b:Nat}{l:List (Bs×Bs)}(h:Ae w (some ⟨b,0,none⟩) (flat l))(k:Nat):Ae w (some ⟨b,k*2,none⟩) (flat (l.drop k)):=by
 refine⟨fun h0=>?_⟩;rw [flat_length]at h0;have hl:(l.drop k).length=l.length-k:=List.length_drop;obtain⟨b',o,e,hc⟩:=h.ad (by rw [flat_length];omega);simp only [Aj3,Addr.mk.injEq]at e;obtain⟨rfl,rfl,-⟩:=e;refine⟨b,k*2,rfl,fun j hj=>?_⟩;rw [flat_length]at hj;have:=hc (k*2+j) (by rw [flat_length];omega);rw [Nat.zero_add]at this;rw [this];have hd:flat l=flat (l.take k)++flat (l.drop k):=(by unfold flat;rw [←List.flatMap_append,List.take_append_drop]);have hk:(flat (l.take k)).length=k*2:=(by rw [flat_length,List.length_take];omega);simp only [hd];rw [List.getElem_append_right (by omega)];simp only [hk]
 congr 2
 omega
theorem jX(a b p:Bs×Bs)(u:Bs):JQ 1 a b p u=if ([a,b,p].take 1).all Cp=false then 2 else if (true && !(u == []) && !nameB u)=true then 8 else if (!true && !(u == [])||([a,b,p].drop 1).any Dm)=true then 7 else 0:=rfl
theorem AfY(a b p:Bs×Bs)(u:Bs)(hs:Qb a b p u)(w:World)(hw:Ao w):Calls Tryz.prog 91 #[FB 1 a b p u] w (AK (JQ 1 a b p u) w):=by
 rw [jX];have hsp:=hs.pt;have hsu:=hs.u;obtain⟨z,hz⟩:=Ajv ((if ([a,b,p].take 1).all Cp=false then (2:Int)else if (true && !(u == []) && !nameB u)=true then 8 else if (!true && !(u == [])||([a,b,p].drop 1).any Dm)=true then 7 else 0));rw [←hz];have HZ:=Ajw hz;clear hz hs;have hE:=(Ac.refl w).alloc (.cells #[.int .i64 1,S a.1,S a.2,S b.1,S b.2,S p.1,S p.2,S u] 29);have hq:=Ajy w (.cells #[.int .i64 1,S a.1,S a.2,S b.1,S b.2,S p.1,S p.2,S u] 29);unfold FB;go_enter Tryz.func91,Tryz.ntmps91
 go_upto_region 1 with fail
 generalize w.alloc (.cells #[.int .i64 1,S a.1,S a.2,S b.1,S b.2,S p.1,S p.2,S u] 29)=V at *;obtain⟨bx,AO⟩:=Ajv w.heap.size;rw [←AO]at hq ⊢;clear AO;have q0:V.cell? ⟨bx,0,none⟩=some (.int .i64 1):=Aa hq rfl;have q1:V.cell? ⟨bx,1,none⟩=some (S a.1):=Aa hq rfl;have q2:V.cell? ⟨bx,2,none⟩=some (S a.2):=Aa hq rfl;have q3:V.cell? ⟨bx,3,none⟩=some (S b.1):=Aa hq rfl;have q4:V.cell? ⟨bx,4,none⟩=some (S b.2):=Aa hq rfl;have q5:V.cell? ⟨bx,5,none⟩=some (S p.1):=Aa hq rfl;have q6:V.cell? ⟨bx,6,none⟩=some (S p.2):=Aa hq rfl
 go_upto_region 5 with fail
 have hp:=Ajy V (.cells #[S a.1,S a.2,S b.1,S b.2,S p.1,S p.2] 27);have hx1:=(Ac.refl V).alloc (.cells #[S a.1,S a.2,S b.1,S b.2,S p.1,S p.2] 27);generalize V.alloc (.cells #[S a.1,S a.2,S b.1,S b.2,S p.1,S p.2] 27)=V1 at *;obtain⟨bp,Aw⟩:=Ajv V.heap.size;rw [←Aw]at hp ⊢;clear Aw;replace hq:=(hx1.block _ (Ajx hq)).trans hq;replace hE:=hE.trans hx1;clear q0 q1 q2 q3 q4 q5 q6 hx1;have q0:V1.cell? ⟨bx,0,none⟩=some (.int .i64 1):=Aa hq rfl;have al:∀O,(V1.alloc O).cell? ⟨bx,0,none⟩=some (.int .i64 1):=fun O=>((Ac.refl V1).alloc O).cellS q0
 go_upto_region 7 with fail
 clear al q0;generalize hV2:V1.alloc _=V2;have hx2:Ac V1 V2:=hV2▸(Ac.refl V1).alloc _;replace hq:=(hx2.block _ (Ajx hq)).trans hq;replace hp:=(hx2.block _ (Ajx hp)).trans hp;replace hE:=hE.trans hx2;clear hV2 hx2;have HP:=aI a b p hp
 go_loopw [40] (fun i wr=>∃j:Nat,i=.int .i64 (j:Nat)/\j<=1/\(∀q∈[a,b,p].take j,Cp q=true)/\Ac V2 wr) (fun i _=>1-(intOf i).toNat)
 case atStart=>exact⟨0,rfl,by omega,by simp,Ac.refl _⟩
 case round=>
  obtain⟨j,rfl,hj,Ap,Ag⟩:=hrel;have HO:=Ajw Ap;clear Ap;by_cases hlt:j<1
  ·have hlt3:j < [a,b,p].length:=(by show j<3;omega);obtain⟨bb,o,e,hg1,hg2⟩:=Vn (HP.ext Ag) hlt3;simp only [Aj3,Addr.mk.injEq]at e;obtain⟨rfl,rfl,-⟩:=e;rw [Nat.zero_add]at hg1 hg2;have DO:=hsp _ (Aj0 hlt3);obtain⟨q,IC⟩:=Ajv ([a,b,p][j]);rw [←IC]at hg1 hg2 DO;have hj0:(0:Int)<=(j:Int):=(by omega);have AP:(j:Int)<1:=(by omega);have hnew:=fun O=>(Ac.refl wr).alloc O;have cp:=fun W (h:Ac w W)=>MO q.1 q.2 (Cp q) (Mx q) DO.1 DO.2 W (hw.ext h);have I2:=hE.trans Ag;have HQ:=Ajw IC;clear IC DO
   cases e0:Cp q
   ·have HE:=Ajw e0
    have hall:([a,b,p].take 1).all Cp=false:=by rw [List.all_eq_false];exact⟨q,by rw [HQ.out];exact List.mem_take_iff_getElem.2 ⟨j,by show j<min 1 3;omega,rfl⟩,by rw [e0];simp⟩
    rw [e0,L9]at cp;clear e0;have hz2:z=2:=(by rw [HZ.out,if_pos hall]);clear hall;subst hz2;have c1:=cp _ (I2.trans (hnew (.cells #[S q.1,S q.2] 27)));(go_wp2_with fail);(with_reducible refine c1.mono ?_);rintro e w2 ⟨rfl,hx2⟩;go_wp2;go_ret;exact⟨rfl,(I2.trans (hnew _)).trans hx2⟩
   ·have HE:=Ajw e0;rw [e0,GI]at cp;clear e0;have c1:=cp _ (I2.trans (hnew (.cells #[S q.1,S q.2] 27)));(go_wp2_with fail);(with_reducible refine c1.mono ?_);rintro e w2 ⟨rfl,hx2⟩;go_wp2;go_roundw
    case rel=>
     refine⟨j+1,by go_num,hlt,?_,(Ag.trans (hnew _)).trans hx2⟩;intro x hx;rw [Aj2 hlt3,←HQ.out]at hx
     rcases List.mem_append.1 hx with h|h
     ·exact HO.out x h
     ·simp only [AjB]at h;rw [h];exact HE.out
    case measure=>simp [intOf];omega
  ·obtain rfl:j=1:=(by omega);have hall:([a,b,p].take 1).all Cp=true:=List.all_eq_true.2 HO.out;have hz1:=HZ.out;rw [hall,if_neg (by simp)]at hz1;have FW:=Ajw hz1;clear hall hz1 HZ HO hlt hj;replace hq:=(Ag.block _ (Ajx hq)).trans hq;have hW:=hE.trans Ag;have HD:Ae wr (some ⟨bp,2,none⟩) (flat ([a,b,p].drop 1)):=Xq (HP.ext Ag) 1;clear HP hp Ag hE;have q7:wr.cell? ⟨bx,7,none⟩=some (S u):=Aa hq rfl;have hnil:¬u = []→u.isEmpty=false:=fun h=>by cases u<;>simp_all
   have ay:∀W,Ac wr W→Calls Tryz.prog 107 #[.slice (some ⟨bp,2,none⟩) 2 2,.func (.func 162) #[] #[]] W (By (([a,b,p].drop 1).any Dm) W):=fun W h=>WG Xu Dm ([a,b,p].drop 1) _ 2 W (HD.ext h) (Ajz _) (by decide) (fun e _ W _=>Xb e W)
   have nx:=fun W=>uI u (by omega) W;by_cases hu:u = []
   ·have hz2:=FW.out;rw [hu]at hz2 q7;rw [if_neg (by simp)]at hz2;clear FW nx hnil
    cases e2:([a,b,p].drop 1).any Dm
    ·rw [e2,if_neg (by simp)]at hz2;have a1:=ay wr (Ac.refl wr);rw [e2]at a1;clear e2;subst hz2;(go_wp2_with fail);(with_reducible refine a1.mono ?_);rintro e w3 ⟨rfl,hx3⟩;go_wp2;go_ret;exact⟨rfl,hW.trans hx3⟩
    ·rw [e2,if_pos (by simp)]at hz2;have a1:=ay wr (Ac.refl wr);rw [e2]at a1;clear e2;subst hz2;(go_wp2_with fail);(with_reducible refine a1.mono ?_);rintro e w3 ⟨rfl,hx3⟩;go_wp2;go_ret;exact⟨rfl,hW.trans hx3⟩
   ·have hu2:=hnil hu
    have hb:(u == [])=false:=by cases u with|nil=>exact absurd rfl hu|cons x y=>rfl
    have hz2:=FW.out;rw [hb]at hz2;clear FW hnil
    cases e1:nameB u
    ·rw [e1,if_pos (by simp)]at hz2;have n1:=nx wr;rw [e1]at n1;clear e1;subst hz2;(go_wp2_with fail);(with_reducible refine n1.mono ?_);rintro e w3 ⟨rfl,hx3⟩;go_wp2;go_ret;exact⟨rfl,hW.trans hx3⟩
    ·rw [e1,if_neg (by simp)]at hz2;have n1:=nx wr;rw [e1]at n1;clear e1
     cases e2:([a,b,p].drop 1).any Dm
     ·rw [e2,if_neg (by simp)]at hz2;rw [e2]at ay;clear e2;subst hz2;(go_wp2_with fail);(with_reducible refine n1.mono ?_);rintro e w3 ⟨rfl,hx3⟩;have a1:=ay w3 hx3;(go_wp2_with fail);(with_reducible refine a1.mono ?_);rintro e w4 ⟨rfl,Aq⟩;go_wp2;go_ret;exact⟨rfl,(hW.trans hx3).trans Aq⟩
     ·rw [e2,if_pos (by simp)]at hz2;rw [e2]at ay;clear e2;subst hz2;(go_wp2_with fail);(with_reducible refine n1.mono ?_);rintro e w3 ⟨rfl,hx3⟩;have a1:=ay w3 hx3;(go_wp2_with fail);(with_reducible refine a1.mono ?_);rintro e w4 ⟨rfl,Aq⟩;go_wp2;go_ret;exact⟨rfl,(hW.trans hx3).trans Aq⟩
theorem jY(a b p:Bs×Bs)(u:Bs):JQ 2 a b p u=if ([a,b,p].take 2).all Cp=false then 2 else if (true && !(u == []) && !nameB u)=true then 8 else if (!true && !(u == [])||([a,b,p].drop 2).any Dm)=true then 7 else 0:=rfl
theorem AfZ(a b p:Bs×Bs)(u:Bs)(hs:Qb a b p u)(w:World)(hw:Ao w):Calls Tryz.prog 91 #[FB 2 a b p u] w (AK (JQ 2 a b p u) w):=by
 rw [jY];have hsp:=hs.pt;have hsu:=hs.u;obtain⟨z,hz⟩:=Ajv ((if ([a,b,p].take 2).all Cp=false then (2:Int)else if (true && !(u == []) && !nameB u)=true then 8 else if (!true && !(u == [])||([a,b,p].drop 2).any Dm)=true then 7 else 0));rw [←hz];have HZ:=Ajw hz;clear hz hs;have hE:=(Ac.refl w).alloc (.cells #[.int .i64 2,S a.1,S a.2,S b.1,S b.2,S p.1,S p.2,S u] 29);have hq:=Ajy w (.cells #[.int .i64 2,S a.1,S a.2,S b.1,S b.2,S p.1,S p.2,S u] 29);unfold FB;go_enter Tryz.func91,Tryz.ntmps91
 go_upto_region 1 with fail
 generalize w.alloc (.cells #[.int .i64 2,S a.1,S a.2,S b.1,S b.2,S p.1,S p.2,S u] 29)=V at *;obtain⟨bx,AO⟩:=Ajv w.heap.size;rw [←AO]at hq ⊢;clear AO;have q0:V.cell? ⟨bx,0,none⟩=some (.int .i64 2):=Aa hq rfl;have q1:V.cell? ⟨bx,1,none⟩=some (S a.1):=Aa hq rfl;have q2:V.cell? ⟨bx,2,none⟩=some (S a.2):=Aa hq rfl;have q3:V.cell? ⟨bx,3,none⟩=some (S b.1):=Aa hq rfl;have q4:V.cell? ⟨bx,4,none⟩=some (S b.2):=Aa hq rfl;have q5:V.cell? ⟨bx,5,none⟩=some (S p.1):=Aa hq rfl;have q6:V.cell? ⟨bx,6,none⟩=some (S p.2):=Aa hq rfl
 go_upto_region 5 with fail
 have hp:=Ajy V (.cells #[S a.1,S a.2,S b.1,S b.2,S p.1,S p.2] 27);have hx1:=(Ac.refl V).alloc (.cells #[S a.1,S a.2,S b.1,S b.2,S p.1,S p.2] 27);generalize V.alloc (.cells #[S a.1,S a.2,S b.1,S b.2,S p.1,S p.2] 27)=V1 at *;obtain⟨bp,Aw⟩:=Ajv V.heap.size;rw [←Aw]at hp ⊢;clear Aw;replace hq:=(hx1.block _ (Ajx hq)).trans hq;replace hE:=hE.trans hx1;clear q0 q1 q2 q3 q4 q5 q6 hx1;have q0:V1.cell? ⟨bx,0,none⟩=some (.int .i64 2):=Aa hq rfl;have al:∀O,(V1.alloc O).cell? ⟨bx,0,none⟩=some (.int .i64 2):=fun O=>((Ac.refl V1).alloc O).cellS q0
 go_upto_region 7 with fail
 clear al q0;generalize hV2:V1.alloc _=V2;have hx2:Ac V1 V2:=hV2▸(Ac.refl V1).alloc _;replace hq:=(hx2.block _ (Ajx hq)).trans hq;replace hp:=(hx2.block _ (Ajx hp)).trans hp;replace hE:=hE.trans hx2;clear hV2 hx2;have HP:=aI a b p hp
 go_loopw [40] (fun i wr=>∃j:Nat,i=.int .i64 (j:Nat)/\j<=2/\(∀q∈[a,b,p].take j,Cp q=true)/\Ac V2 wr) (fun i _=>2-(intOf i).toNat)
 case atStart=>exact⟨0,rfl,by omega,by simp,Ac.refl _⟩
 case round=>
  obtain⟨j,rfl,hj,Ap,Ag⟩:=hrel;have HO:=Ajw Ap;clear Ap;by_cases hlt:j<2
  ·have hlt3:j < [a,b,p].length:=(by show j<3;omega);obtain⟨bb,o,e,hg1,hg2⟩:=Vn (HP.ext Ag) hlt3;simp only [Aj3,Addr.mk.injEq]at e;obtain⟨rfl,rfl,-⟩:=e;rw [Nat.zero_add]at hg1 hg2;have DO:=hsp _ (Aj0 hlt3);obtain⟨q,IC⟩:=Ajv ([a,b,p][j]);rw [←IC]at hg1 hg2 DO;have hj0:(0:Int)<=(j:Int):=(by omega);have AP:(j:Int)<2:=(by omega);have hnew:=fun O=>(Ac.refl wr).alloc O;have cp:=fun W (h:Ac w W)=>MO q.1 q.2 (Cp q) (Mx q) DO.1 DO.2 W (hw.ext h);have I2:=hE.trans Ag;have HQ:=Ajw IC;clear IC DO
   cases e0:Cp q
   ·have HE:=Ajw e0
    have hall:([a,b,p].take 2).all Cp=false:=by rw [List.all_eq_false];exact⟨q,by rw [HQ.out];exact List.mem_take_iff_getElem.2 ⟨j,by show j<min 2 3;omega,rfl⟩,by rw [e0];simp⟩
    rw [e0,L9]at cp;clear e0;have hz2:z=2:=(by rw [HZ.out,if_pos hall]);clear hall;subst hz2;have c1:=cp _ (I2.trans (hnew (.cells #[S q.1,S q.2] 27)));(go_wp2_with fail);(with_reducible refine c1.mono ?_);rintro e w2 ⟨rfl,hx2⟩;go_wp2;go_ret;exact⟨rfl,(I2.trans (hnew _)).trans hx2⟩
   ·have HE:=Ajw e0;rw [e0,GI]at cp;clear e0;have c1:=cp _ (I2.trans (hnew (.cells #[S q.1,S q.2] 27)));(go_wp2_with fail);(with_reducible refine c1.mono ?_);rintro e w2 ⟨rfl,hx2⟩;go_wp2;go_roundw
    case rel=>
     refine⟨j+1,by go_num,hlt,?_,(Ag.trans (hnew _)).trans hx2⟩;intro x hx;rw [Aj2 hlt3,←HQ.out]at hx
     rcases List.mem_append.1 hx with h|h
     ·exact HO.out x h
     ·simp only [AjB]at h;rw [h];exact HE.out
    case measure=>simp [intOf];omega
  ·obtain rfl:j=2:=(by omega);have hall:([a,b,p].take 2).all Cp=true:=List.all_eq_true.2 HO.out;have hz1:=HZ.out;rw [hall,if_neg (by simp)]at hz1;have FW:=Ajw hz1;clear hall hz1 HZ HO hlt hj;replace hq:=(Ag.block _ (Ajx hq)).trans hq;have hW:=hE.trans Ag;have HD:Ae wr (some ⟨bp,4,none⟩) (flat ([a,b,p].drop 2)):=Xq (HP.ext Ag) 2;clear HP hp Ag hE;have q7:wr.cell? ⟨bx,7,none⟩=some (S u):=Aa hq rfl;have hnil:¬u = []→u.isEmpty=false:=fun h=>by cases u<;>simp_all
   have ay:∀W,Ac wr W→Calls Tryz.prog 107 #[.slice (some ⟨bp,4,none⟩) 1 1,.func (.func 162) #[] #[]] W (By (([a,b,p].drop 2).any Dm) W):=fun W h=>WG Xu Dm ([a,b,p].drop 2) _ 1 W (HD.ext h) (Ajz _) (by decide) (fun e _ W _=>Xb e W)
   have nx:=fun W=>uI u (by omega) W;by_cases hu:u = []
   ·have hz2:=FW.out;rw [hu]at hz2 q7;rw [if_neg (by simp)]at hz2;clear FW nx hnil
    cases e2:([a,b,p].drop 2).any Dm
    ·rw [e2,if_neg (by simp)]at hz2;have a1:=ay wr (Ac.refl wr);rw [e2]at a1;clear e2;subst hz2;(go_wp2_with fail);(with_reducible refine a1.mono ?_);rintro e w3 ⟨rfl,hx3⟩;go_wp2;go_ret;exact⟨rfl,hW.trans hx3⟩
    ·rw [e2,if_pos (by simp)]at hz2;have a1:=ay wr (Ac.refl wr);rw [e2]at a1;clear e2;subst hz2;(go_wp2_with fail);(with_reducible refine a1.mono ?_);rintro e w3 ⟨rfl,hx3⟩;go_wp2;go_ret;exact⟨rfl,hW.trans hx3⟩
   ·have hu2:=hnil hu
    have hb:(u == [])=false:=by cases u with|nil=>exact absurd rfl hu|cons x y=>rfl
    have hz2:=FW.out;rw [hb]at hz2;clear FW hnil
    cases e1:nameB u
    ·rw [e1,if_pos (by simp)]at hz2;have n1:=nx wr;rw [e1]at n1;clear e1;subst hz2;(go_wp2_with fail);(with_reducible refine n1.mono ?_);rintro e w3 ⟨rfl,hx3⟩;go_wp2;go_ret;exact⟨rfl,hW.trans hx3⟩
    ·rw [e1,if_neg (by simp)]at hz2;have n1:=nx wr;rw [e1]at n1;clear e1
     cases e2:([a,b,p].drop 2).any Dm
     ·rw [e2,if_neg (by simp)]at hz2;rw [e2]at ay;clear e2;subst hz2;(go_wp2_with fail);(with_reducible refine n1.mono ?_);rintro e w3 ⟨rfl,hx3⟩;have a1:=ay w3 hx3;(go_wp2_with fail);(with_reducible refine a1.mono ?_);rintro e w4 ⟨rfl,Aq⟩;go_wp2;go_ret;exact⟨rfl,(hW.trans hx3).trans Aq⟩
     ·rw [e2,if_pos (by simp)]at hz2;rw [e2]at ay;clear e2;subst hz2;(go_wp2_with fail);(with_reducible refine n1.mono ?_);rintro e w3 ⟨rfl,hx3⟩;have a1:=ay w3 hx3;(go_wp2_with fail);(with_reducible refine a1.mono ?_);rintro e w4 ⟨rfl,Aq⟩;go_wp2;go_ret;exact⟨rfl,(hW.trans hx3).trans Aq⟩
theorem jZ(a b p:Bs×Bs)(u:Bs):JQ 3 a b p u=if ([a,b,p].take 2).all Cp=false then 2 else if (false && !(u == []) && !nameB u)=true then 8 else if (!false && !(u == [])||([a,b,p].drop 2).any Dm)=true then 7 else 0:=rfl
theorem Aga(a b p:Bs×Bs)(u:Bs)(hs:Qb a b p u)(w:World)(hw:Ao w):Calls Tryz.prog 91 #[FB 3 a b p u] w (AK (JQ 3 a b p u) w):=by
 rw [jZ];have hsp:=hs.pt;have hsu:=hs.u;obtain⟨z,hz⟩:=Ajv ((if ([a,b,p].take 2).all Cp=false then (2:Int)else if (false && !(u == []) && !nameB u)=true then 8 else if (!false && !(u == [])||([a,b,p].drop 2).any Dm)=true then 7 else 0));rw [←hz];have HZ:=Ajw hz;clear hz hs;have hE:=(Ac.refl w).alloc (.cells #[.int .i64 3,S a.1,S a.2,S b.1,S b.2,S p.1,S p.2,S u] 29);have hq:=Ajy w (.cells #[.int .i64 3,S a.1,S a.2,S b.1,S b.2,S p.1,S p.2,S u] 29);unfold FB;go_enter Tryz.func91,Tryz.ntmps91
 go_upto_region 1 with fail
 generalize w.alloc (.cells #[.int .i64 3,S a.1,S a.2,S b.1,S b.2,S p.1,S p.2,S u] 29)=V at *;obtain⟨bx,AO⟩:=Ajv w.heap.size;rw [←AO]at hq ⊢;clear AO;have q0:V.cell? ⟨bx,0,none⟩=some (.int .i64 3):=Aa hq rfl;have q1:V.cell? ⟨bx,1,none⟩=some (S a.1):=Aa hq rfl;have q2:V.cell? ⟨bx,2,none⟩=some (S a.2):=Aa hq rfl;have q3:V.cell? ⟨bx,3,none⟩=some (S b.1):=Aa hq rfl;have q4:V.cell? ⟨bx,4,none⟩=some (S b.2):=Aa hq rfl;have q5:V.cell? ⟨bx,5,none⟩=some (S p.1):=Aa hq rfl;have q6:V.cell? ⟨bx,6,none⟩=some (S p.2):=Aa hq rfl
 go_upto_region 5 with fail
 have hp:=Ajy V (.cells #[S a.1,S a.2,S b.1,S b.2,S p.1,S p.2] 27);have hx1:=(Ac.refl V).alloc (.cells #[S a.1,S a.2,S b.1,S b.2,S p.1,S p.2] 27);generalize V.alloc (.cells #[S a.1,S a.2,S b.1,S b.2,S p.1,S p.2] 27)=V1 at *;obtain⟨bp,Aw⟩:=Ajv V.heap.size;rw [←Aw]at hp ⊢;clear Aw;replace hq:=(hx1.block _ (Ajx hq)).trans hq;replace hE:=hE.trans hx1;clear q0 q1 q2 q3 q4 q5 q6 hx1;have q0:V1.cell? ⟨bx,0,none⟩=some (.int .i64 3):=Aa hq rfl;have al:∀O,(V1.alloc O).cell? ⟨bx,0,none⟩=some (.int .i64 3):=fun O=>((Ac.refl V1).alloc O).cellS q0
 go_upto_region 7 with fail
 clear al q0;generalize hV2:V1.alloc _=V2;have hx2:Ac V1 V2:=hV2▸(Ac.refl V1).alloc _;replace hq:=(hx2.block _ (Ajx hq)).trans hq;replace hp:=(hx2.block _ (Ajx hp)).trans hp;replace hE:=hE.trans hx2;clear hV2 hx2;have HP:=aI a b p hp
 go_loopw [40] (fun i wr=>∃j:Nat,i=.int .i64 (j:Nat)/\j<=2/\(∀q∈[a,b,p].take j,Cp q=true)/\Ac V2 wr) (fun i _=>2-(intOf i).toNat)
 case atStart=>exact⟨0,rfl,by omega,by simp,Ac.refl _⟩
 case round=>
  obtain⟨j,rfl,hj,Ap,Ag⟩:=hrel;have HO:=Ajw Ap;clear Ap;by_cases hlt:j<2
  ·have hlt3:j < [a,b,p].length:=(by show j<3;omega);obtain⟨bb,o,e,hg1,hg2⟩:=Vn (HP.ext Ag) hlt3;simp only [Aj3,Addr.mk.injEq]at e;obtain⟨rfl,rfl,-⟩:=e;rw [Nat.zero_add]at hg1 hg2;have DO:=hsp _ (Aj0 hlt3);obtain⟨q,IC⟩:=Ajv ([a,b,p][j]);rw [←IC]at hg1 hg2 DO;have hj0:(0:Int)<=(j:Int):=(by omega);have AP:(j:Int)<2:=(by omega);have hnew:=fun O=>(Ac.refl wr).alloc O;have cp:=fun W (h:Ac w W)=>MO q.1 q.2 (Cp q) (Mx q) DO.1 DO.2 W (hw.ext h);have I2:=hE.trans Ag;have HQ:=Ajw IC;clear IC DO
   cases e0:Cp q
   ·have HE:=Ajw e0
    have hall:([a,b,p].take 2).all Cp=false:=by rw [List.all_eq_false];exact⟨q,by rw [HQ.out];exact List.mem_take_iff_getElem.2 ⟨j,by show j<min 2 3;omega,rfl⟩,by rw [e0];simp⟩
    rw [e0,L9]at cp;clear e0;have hz2:z=2:=(by rw [HZ.out,if_pos hall]);clear hall;subst hz2;have c1:=cp _ (I2.trans (hnew (.cells #[S q.1,S q.2] 27)));(go_wp2_with fail);(with_reducible refine c1.mono ?_);rintro e w2 ⟨rfl,hx2⟩;go_wp2;go_ret;exact⟨rfl,(I2.trans (hnew _)).trans hx2⟩
   ·have HE:=Ajw e0;rw [e0,GI]at cp;clear e0;have c1:=cp _ (I2.trans (hnew (.cells #[S q.1,S q.2] 27)));(go_wp2_with fail);(with_reducible refine c1.mono ?_);rintro e w2 ⟨rfl,hx2⟩;go_wp2;go_roundw
    case rel=>
     refine⟨j+1,by go_num,hlt,?_,(Ag.trans (hnew _)).trans hx2⟩;intro x hx;rw [Aj2 hlt3,←HQ.out]at hx
     rcases List.mem_append.1 hx with h|h
     ·exact HO.out x h
     ·simp only [AjB]at h;rw [h];exact HE.out
    case measure=>simp [intOf];omega
  ·obtain rfl:j=2:=(by omega);have hall:([a,b,p].take 2).all Cp=true:=List.all_eq_true.2 HO.out;have hz1:=HZ.out;rw [hall,if_neg (by simp)]at hz1;have FW:=Ajw hz1;clear hall hz1 HZ HO hlt hj;replace hq:=(Ag.block _ (Ajx hq)).trans hq;have hW:=hE.trans Ag;have HD:Ae wr (some ⟨bp,4,none⟩) (flat ([a,b,p].drop 2)):=Xq (HP.ext Ag) 2;clear HP hp Ag hE;have q7:wr.cell? ⟨bx,7,none⟩=some (S u):=Aa hq rfl;have hnil:¬u = []→u.isEmpty=false:=fun h=>by cases u<;>simp_all
   have ay:∀W,Ac wr W→Calls Tryz.prog 107 #[.slice (some ⟨bp,4,none⟩) 1 1,.func (.func 162) #[] #[]] W (By (([a,b,p].drop 2).any Dm) W):=fun W h=>WG Xu Dm ([a,b,p].drop 2) _ 1 W (HD.ext h) (Ajz _) (by decide) (fun e _ W _=>Xb e W)
   by_cases hu:u = []
   ·have hz2:=FW.out;rw [hu]at hz2 q7;rw [if_neg (by simp)]at hz2;clear FW hnil
    cases e2:([a,b,p].drop 2).any Dm
    ·rw [e2,if_neg (by simp)]at hz2;have a1:=ay wr (Ac.refl wr);rw [e2]at a1;clear e2;subst hz2;(go_wp2_with fail);(with_reducible refine a1.mono ?_);rintro e w3 ⟨rfl,hx3⟩;go_wp2;go_ret;exact⟨rfl,hW.trans hx3⟩
    ·rw [e2,if_pos (by simp)]at hz2;have a1:=ay wr (Ac.refl wr);rw [e2]at a1;clear e2;subst hz2;(go_wp2_with fail);(with_reducible refine a1.mono ?_);rintro e w3 ⟨rfl,hx3⟩;go_wp2;go_ret;exact⟨rfl,hW.trans hx3⟩
   ·have hu2:=hnil hu
    have hb:(u == [])=false:=by cases u with|nil=>exact absurd rfl hu|cons x y=>rfl
    have hz2:=FW.out;rw [hb,if_neg (by simp),if_pos (by simp)]at hz2;clear FW hnil ay;subst hz2;go_wp2;go_ret;exact⟨rfl,hW⟩
end Go.Proofs.YtgnejnampofhoaaGreatDoor
