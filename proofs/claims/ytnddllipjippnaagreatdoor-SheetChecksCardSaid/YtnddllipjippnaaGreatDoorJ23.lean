/- J23: Q8 Q9 QD LG1 LG2 LG3 KJ2. -/
import Derived.Test.YtnddllipjippnaaGreatDoorJ22
set_option maxRecDepth 100000
set_option maxHeartbeats 8000000
namespace Go.Proofs.YtnddllipjippnaaGreatDoor
section
open Go.RowKit Kl
structure NZ(w:World)(A:Option Addr)(c:Nat)(P:List (List Pt×Bs)):Prop where
 c1:P.length<=c
 c2:c<=9223372036854775807
 row:∀j (h:j<P.length),∃b o A' c',A=some ⟨b,o,none⟩/\w.cell? ⟨b,o+j*3,none⟩=some (.slice A' P[j].1.length c')/\w.cell? ⟨b,o+j*3+1,none⟩=some (S P[j].2)/\w.cell? ⟨b,o+j*3+2,none⟩=some (.slice none 0 0)/\Af w A' (flat (Aq P[j].1))/\P[j].1.length<=c'/\c'<=9223372036854775807
theorem NZ.ext{w w':World}{A:Option Addr}{c:Nat}{P:List (List Pt×Bs)}(h:NZ w A c P)(hx:Ab w w'):NZ w' A c P:=
 ⟨h.c1,h.c2,fun j hj=>by
  obtain⟨b,o,A',c',h1,h2,h3,h4,h5,h6,h7⟩:=h.row j hj
  exact⟨b,o,A',c',h1,hx.cellS h2,hx.cellS h3,hx.cellS h4,h5.ext hx,h6,h7⟩⟩
end
section
open Go.RowKit Kl
theorem Alo(w:World)(l:Bs):∃W c,(convert 9 113 (S l)).run Tryz.prog w=.ok (.slice (some ⟨w.heap.size,0,none⟩) l.length c) W/\Ab w W/\∀j (h:j<l.length),W.cell? ⟨w.heap.size,j,none⟩=some (.int .u8 (l[j].toNat:Nat)):=by
 refine⟨Go.Lib.bytesWorld w 5 ⟨l.toArray⟩,_,Go.Lib.run_convert_string_bytes w 9 113 5 ⟨l.toArray⟩ Tryz.underlying9 Tryz.underlying113 Tryz.underlying5,?_,?_⟩
 ·have h1:Ab w (w.drew.alloc (.cells (Go.Lib.bytesCells w 5 ⟨l.toArray⟩) 5)):=(Ab.refl w).drew.alloc _;refine⟨h1.os,h1.tape,h1.output,?_,fun j hj=>Go.Lib.bytesWorld_at_old w 5 ⟨l.toArray⟩ j hj⟩;rw [Go.Lib.bytesWorld_size];omega
 ·intro j h;have:=Go.Lib.bytesWorld_cell w 5 ⟨l.toArray⟩ j (show j<l.toArray.size by simpa using h);rw [this];simp [List.getD_eq_getElem?_getD,h]
end
end Go.Proofs.YtnddllipjippnaaGreatDoor
namespace Kl
def G4(i:Nat)(b:UInt8):Bool:=He b||(decide (i≠0)&&H5 b)
theorem lz{l:Bs}{k:Nat}(hk:k<l.length)(h:G4 k l[k]=false):nameB l=false:=by
 cases l with
 | nil=>rfl
 | cons b l=>
  unfold nameB;unfold G4 at h
  cases k with
  | zero=>
   simp only [List.getElem_cons_zero,ne_eq,not_true,decide_false,Bool.false_and,Bool.or_false]at h;show (decide (l.length<32)&&(He b&&l.all (fun c=>He c||H5 c)))=false;rw [h];simp
  | succ k=>
   simp only [List.getElem_cons_succ]at h;have hk':k<l.length:=by simpa using hk
   have h2:l.all (fun c=>He c||H5 c)=false:=by rw [List.all_eq_false];exact⟨l[k],List.getElem_mem hk',by simpa using h⟩
   show (decide (l.length<32)&&(He b&&l.all (fun c=>He c||H5 c)))=false;rw [h2];simp
theorem l8{l:Bs}(h0:l≠[])(h1:l.length<=32)(h:∀k (hk:k<l.length),G4 k l[k]=true):nameB l=true:=by
 cases l with
 | nil=>exact absurd rfl h0
 | cons b l=>
  unfold nameB;rw [Bool.and_eq_true,Bool.and_eq_true];refine⟨decide_eq_true (by simp only [List.length_cons]at h1;omega),?_,?_⟩
  ·have:=h 0 (by simp)
   simpa [G4]using this
  ·rw [List.all_eq_true];intro c hc;obtain⟨j,hj,rfl⟩:=List.getElem_of_mem hc;have:=h (j+1) (by simpa using hj)
   simpa [G4]using this
end Kl
namespace Go.Proofs.YtnddllipjippnaaGreatDoor
open Go.RowKit Kl
theorem js(l:Bs)(hl:l.length<1000000)(w:World) :
  Calls Tryz.prog 34 #[S l] w (BF (nameB l) w):=by
 obtain⟨W,c,hcv,hx,hcell⟩:=Alo w l;by_cases h0:l = []
 ·subst h0;clear hcv hcell;go_enter Tryz.func34,Tryz.ntmps34;go_wp2;go_ret;exact⟨JB rfl,Ab.refl _⟩
 ·have e1:(l == [])=false:=beq_false_of_ne h0
  have e2:l.isEmpty=false:=by cases l with|nil=>exact absurd rfl h0|cons a b=>rfl
  have H0:=Ao4 h0;by_cases h1:32<l.length
  ·have ho:nameB l=false:=by
    cases l with
    | nil=>rfl
    | cons b l=>show (decide (l.length < 32) && _)=false;rw [decide_eq_false (by simp only [List.length_cons]at h1;omega)];rfl
   have HO:=Ao4 ho;have h1':(32:Int)<(l.length:Int):=(by omega);clear ho hcv hcell;go_enter Tryz.func34,Tryz.ntmps34;go_wp2;go_ret;exact⟨JB (by rw [HO.out]),Ab.refl _⟩
  ·have h1':¬((32:Int)<(l.length:Int)):=(by omega);have Am5:(l.length:Int)<=32:=(by omega);have HC:=Ao4 hcell;have HX:=Ao4 hx;obtain⟨r,hr0⟩:=Ao3 (nameB l);rw [←hr0];have HR:=Ao4 hr0;clear hcell hx hr0;obtain⟨bw,Dd⟩:=Ao3 w.heap.size;rw [←Dd]at hcv;have yn:=Ao4 Dd;clear Dd;go_enter Tryz.func34,Tryz.ntmps34
   go_upto_region 4 with fail
   go_loopw [17] (fun kv wr=>∃(k:Nat),kv=.int .i64 (k:Nat)/\k<=l.length/\(∀i (h:i<l.length),i<k→G4 i l[i]=true)/\wr=W) (fun kv _=>l.length-(intOf kv).toNat)
   case atStart=>exact⟨0,rfl,by omega,by intro i _ h;omega,rfl⟩
   case round=>
    obtain⟨k,rfl,hk,I9,rfl⟩:=hrel;have Rx:=Ao4 I9;clear I9;by_cases hkn:k<l.length
    ·have hk0:(0:Int)<=(k:Int):=(by omega);have DX:(k:Int)<(l.length:Int):=(by omega);have v1:IntKind.wrap .i64 ((k:Int)+1)=(k:Int)+1:=AoD _ (by omega);have hg:=HC.out k hkn;rw [←yn.out]at hg;have hg0:wr.cell? ⟨bw,0+k,none⟩=some (.int .u8 (l[k].toNat:Nat)):=(by rw [Nat.zero_add];exact hg);obtain⟨b,hb⟩:=Ao3 (l[k]);rw [←hb]at hg hg0;have HB:=Ao4 hb;clear hb
     go_upto_region 6 with fail
     go_cut [5] (fun v wx=>v=.bool (He b)/\wx=wr)
     case first=>
      by_cases a1:97<=b.toNat<;>by_cases a2:b.toNat<=122<;>by_cases a3:65<=b.toNat<;>by_cases a4:b.toNat<=90
      all_goals
       have hv:He b=((decide (97<=b.toNat)&&decide (b.toNat<=122))||(decide (65<=b.toNat)&&decide (b.toNat<=90))):=rfl;simp only [a1,a2,a3,a4,decide_true,decide_false,Bool.and_true,Bool.and_false,Bool.or_true,Bool.or_false]at hv;have HV:=Ao4 hv;clear hv;go_wp2
       all_goals go_meet
       all_goals exact⟨by rw [HV.out];try (first|rfl|(congr 1;rw [Bool.eq_iff_iff];simp;omega)),rfl⟩
     case rest=>
      obtain⟨rfl,rfl⟩:=hcut;obtain⟨lt,hlt⟩:=Ao3 (He b);rw [←hlt];have nI:=Ao4 hlt;clear hlt
      go_upto_region 7 with fail
      go_cut [6] (fun v wx=>v=.bool (H5 b)/\wx=wc)
      case first=>
       have c95:((b.toNat:Int) == 95)=decide (b.toNat=95):=by rw [Bool.eq_iff_iff,beq_iff_eq,decide_eq_true_iff];omega
       by_cases a1:48<=b.toNat<;>by_cases a2:b.toNat<=57<;>by_cases a3:b.toNat=95
       all_goals
        have hv:H5 b=((decide (48<=b.toNat)&&decide (b.toNat<=57))||decide (b.toNat=95)):=rfl;simp only [a1,a2,a3,decide_true,decide_false,Bool.and_true,Bool.and_false,Bool.or_true,Bool.or_false]at hv;have HV:=Ao4 hv;clear hv;go_wp2
        all_goals go_meet
        all_goals exact⟨by rw [HV.out];try (first|rfl|(congr 1;rw [Bool.eq_iff_iff];simp;omega)),rfl⟩
      case rest=>
       obtain⟨rfl,rfl⟩:=hcut;obtain⟨dt,Lv⟩:=Ao3 (H5 b);rw [←Lv];have yy:=Ao4 Lv;clear Lv;have Fc:G4 k b=(lt||(decide (k≠0)&&dt)):=(by rw [nI.out,yy.out];rfl);have Hn:=Ao4 Fc;clear Fc
       have good:G4 k b=true→∀i (h:i<l.length),i<k+1→G4 i l[i]=true:=by
        intro hg i hi hik;by_cases e:i=k
        ·subst e;rw [←HB.out];exact hg
        ·exact Rx.out i hi (by omega)
       have bad:G4 k b=false→r=false:=fun h=>(by rw [HR.out];exact lz hkn (by rw [←HB.out];exact h));have HG:=Ao4 good;have Po:=Ao4 bad;clear good bad
       cases lt
       ·by_cases Ju:k=0
        ·subst Ju;have hr:r=false:=Po.out (by rw [Hn.out];rfl);have Ey:=Ao4 hr;clear hr;go_wp2;go_ret;exact⟨JB (by rw [Ey.out]),HX.out⟩
        ·have t0:((k:Int) == 0)=false:=beq_false_of_ne (by omega)
         cases dt
         ·have hr:r=false:=Po.out (by rw [Hn.out];simp);have Ey:=Ao4 hr;clear hr Ju;go_wp2;go_ret;exact⟨JB (by rw [Ey.out]),HX.out⟩
         ·have hg2:=Ao4 (HG.out (by rw [Hn.out];simp [Ju]));clear Ju;go_wp2;go_roundw
          case rel=>exact⟨k+1,by go_num,hkn,hg2.out,by trivial⟩
          case measure=>simp [intOf];omega
       ·have hg2:=Ao4 (HG.out (by rw [Hn.out];simp));go_wp2;go_roundw
        case rel=>exact⟨k+1,by go_num,hkn,hg2.out,by trivial⟩
        case measure=>simp [intOf];omega
    ·have CO:k=l.length:=(by omega);subst CO;have hr:r=true:=(by rw [HR.out];exact l8 H0.out (by omega) (fun i hi=>Rx.out i hi hi));have Ey:=Ao4 hr;clear hr;go_wp2;go_ret;exact⟨JB (by rw [Ey.out]),HX.out⟩
def Bz(k:Int)(a b p:Bs×Bs)(u:Bs):Value:=.agg #[.int .i64 k,S a.1,S a.2,S b.1,S b.2,S p.1,S p.2,S u]
noncomputable def AU(t:Bs×Bs):Bool:=@decide (Dj t.1/\Dj t.2) (Classical.propDecidable _)
theorem Hh(t:Bs×Bs):AU t=true↔Dj t.1/\Dj t.2:=by unfold AU;exact @decide_eq_true_iff _ (Classical.propDecidable _)
def rO(k:Int):Nat:=if k=1 then 1 else if k=5 then 3 else 2
def Ain(k:Int):Bool:=k == 1||k == 2
noncomputable def Do(k:Int)(a b p:Bs×Bs)(u:Bs):Int:=
 if k<1∨5<k then 12 else if ([a,b,p].take (rO k)).all AU=false then 2
 else if (Ain k && !(u == []) && !nameB u)=true then 8 else if (!Ain k && !(u == [])||([a,b,p].drop (rO k)).any Bi)=true then 7 else 0
structure FV(a b p:Bs×Bs)(u:Bs):Prop where
 a1:a.1.length<=40
 a2:a.2.length<=40
 b1:b.1.length<=40
 b2:b.2.length<=40
 p1:p.1.length<=40
 p2:p.2.length<=40
 u:u.length<=40
theorem FV.pt{a b p:Bs×Bs}{u:Bs}(h:FV a b p u):∀t∈[a,b,p],t.1.length<100000/\t.2.length<100000:=by
 obtain⟨h1,h2,h3,h4,h5,h6,-⟩:=h;intro t ht;simp only [List.mem_cons,AoI,or_false]at ht
 rcases ht with rfl|rfl|rfl<;>constructor<;>omega
theorem QI{w:World}{b:Nat}(x y z:Bs×Bs)(h:w.heap[b]?=some (.cells #[S x.1,S x.2,S y.1,S y.2,S z.1,S z.2] 24)):Af w (some ⟨b,0,none⟩) (flat [x,y,z]):=by
 refine⟨fun _=>⟨b,0,rfl,fun j hj=>?_⟩⟩;have zL:j<6:=hj;obtain rfl|rfl|rfl|rfl|rfl|rfl:j=0∨j=1∨j=2∨j=3∨j=4∨j=5:=by omega
 all_goals exact Aa h rfl
theorem VP{w:World}{b:Nat}{l:List (Bs×Bs)}(h:Af w (some ⟨b,0,none⟩) (flat l))(k:Nat):Af w (some ⟨b,k*2,none⟩) (flat (l.drop k)):=by
 refine⟨fun h0=>?_⟩;rw [flat_length]at h0;have hl:(l.drop k).length=l.length-k:=List.length_drop;obtain⟨b',o,e,hc⟩:=h.ad (by rw [flat_length];omega);simp only [AoB,Addr.mk.injEq]at e;obtain⟨rfl,rfl,-⟩:=e;refine⟨b,k*2,rfl,fun j hj=>?_⟩;rw [flat_length]at hj;have:=hc (k*2+j) (by rw [flat_length];omega);rw [Nat.zero_add]at this;rw [this];have hd:flat l=flat (l.take k)++flat (l.drop k):=(by unfold flat;rw [←List.flatMap_append,List.take_append_drop]);have hk:(flat (l.take k)).length=k*2:=(by rw [flat_length,List.length_take];omega);simp only [hd];rw [List.getElem_append_right (by omega)];simp only [hk]
 congr 2
 omega
theorem rK{k:Int}(h:k<1∨5<k)(a b p:Bs×Bs)(u:Bs):Do k a b p u=12:=by unfold Do;rw [if_pos h]
theorem Ak4(k:Int)(hk:k<1∨5<k)(a b p:Bs×Bs)(u:Bs)(w:World):Calls Tryz.prog 9 #[Bz k a b p u] w (AI (Do k a b p u) w):=by
 rw [rK hk];have hE:=(Ab.refl w).alloc (.cells #[.int .i64 k,S a.1,S a.2,S b.1,S b.2,S p.1,S p.2,S u] 26);have hq:=Ao6 w (.cells #[.int .i64 k,S a.1,S a.2,S b.1,S b.2,S p.1,S p.2,S u] 26);unfold Bz;go_enter Tryz.func9,Tryz.ntmps9
 go_upto_region 1 with fail
 have q0:=Aa (o:=0) hq rfl;by_cases h1:k<1
 ·clear hk;go_wp2;go_ret;exact⟨rfl,hE⟩
 ·have h5:5<k:=(by omega);clear hk;go_wp2;go_ret;exact⟨rfl,hE⟩
theorem rH(a b p:Bs×Bs)(u:Bs):Do 1 a b p u=if ([a,b,p].take 1).all AU=false then 2 else if (true && !(u == []) && !nameB u)=true then 8 else if (!true && !(u == [])||([a,b,p].drop 1).any Bi)=true then 7 else 0:=rfl
theorem Akz(a b p:Bs×Bs)(u:Bs)(hs:FV a b p u)(w:World)(hw:Am w):Calls Tryz.prog 9 #[Bz 1 a b p u] w (AI (Do 1 a b p u) w):=by
 rw [rH];have hsp:=hs.pt;have hsu:=hs.u;obtain⟨z,hz⟩:=Ao3 ((if ([a,b,p].take 1).all AU=false then (2:Int)else if (true && !(u == []) && !nameB u)=true then 8 else if (!true && !(u == [])||([a,b,p].drop 1).any Bi)=true then 7 else 0));rw [←hz];have HZ:=Ao4 hz;clear hz hs;have hE:=(Ab.refl w).alloc (.cells #[.int .i64 1,S a.1,S a.2,S b.1,S b.2,S p.1,S p.2,S u] 26);have hq:=Ao6 w (.cells #[.int .i64 1,S a.1,S a.2,S b.1,S b.2,S p.1,S p.2,S u] 26);unfold Bz;go_enter Tryz.func9,Tryz.ntmps9
 go_upto_region 1 with fail
 generalize w.alloc (.cells #[.int .i64 1,S a.1,S a.2,S b.1,S b.2,S p.1,S p.2,S u] 26)=V at *;obtain⟨bx,As⟩:=Ao3 w.heap.size;rw [←As]at hq ⊢;clear As;have q0:V.cell? ⟨bx,0,none⟩=some (.int .i64 1):=Aa hq rfl;have q1:V.cell? ⟨bx,1,none⟩=some (S a.1):=Aa hq rfl;have q2:V.cell? ⟨bx,2,none⟩=some (S a.2):=Aa hq rfl;have q3:V.cell? ⟨bx,3,none⟩=some (S b.1):=Aa hq rfl;have q4:V.cell? ⟨bx,4,none⟩=some (S b.2):=Aa hq rfl;have q5:V.cell? ⟨bx,5,none⟩=some (S p.1):=Aa hq rfl;have q6:V.cell? ⟨bx,6,none⟩=some (S p.2):=Aa hq rfl
 go_upto_region 5 with fail
 have hp:=Ao6 V (.cells #[S a.1,S a.2,S b.1,S b.2,S p.1,S p.2] 24);have hx1:=(Ab.refl V).alloc (.cells #[S a.1,S a.2,S b.1,S b.2,S p.1,S p.2] 24);generalize V.alloc (.cells #[S a.1,S a.2,S b.1,S b.2,S p.1,S p.2] 24)=V1 at *;obtain⟨bp,Au⟩:=Ao3 V.heap.size;rw [←Au]at hp ⊢;clear Au;replace hq:=(hx1.block _ (Ao5 hq)).trans hq;replace hE:=hE.trans hx1;clear q0 q1 q2 q3 q4 q5 q6 hx1;have q0:V1.cell? ⟨bx,0,none⟩=some (.int .i64 1):=Aa hq rfl;have al:∀O,(V1.alloc O).cell? ⟨bx,0,none⟩=some (.int .i64 1):=fun O=>((Ab.refl V1).alloc O).cellS q0
 go_upto_region 7 with fail
 clear al q0;generalize hV2:V1.alloc _=V2;have hx2:Ab V1 V2:=hV2▸(Ab.refl V1).alloc _;replace hq:=(hx2.block _ (Ao5 hq)).trans hq;replace hp:=(hx2.block _ (Ao5 hp)).trans hp;replace hE:=hE.trans hx2;clear hV2 hx2;have HP:=QI a b p hp
 go_loopw [40] (fun i wr=>∃j:Nat,i=.int .i64 (j:Nat)/\j<=1/\(∀q∈[a,b,p].take j,AU q=true)/\Ab V2 wr) (fun i _=>1-(intOf i).toNat)
 case atStart=>exact⟨0,rfl,by omega,by simp,Ab.refl _⟩
 case round=>
  obtain⟨j,rfl,hj,Ai,Ac⟩:=hrel;have HO:=Ao4 Ai;clear Ai;by_cases hlt:j<1
  ·have hlt3:j < [a,b,p].length:=(by show j<3;omega);obtain⟨bb,o,e,hg1,hg2⟩:=J9 (HP.ext Ac) hlt3;simp only [AoB,Addr.mk.injEq]at e;obtain⟨rfl,rfl,-⟩:=e;rw [Nat.zero_add]at hg1 hg2;have Bp:=hsp _ (Ao8 hlt3);obtain⟨q,BC⟩:=Ao3 ([a,b,p][j]);rw [←BC]at hg1 hg2 Bp;have hj0:(0:Int)<=(j:Int):=(by omega);have Bc:(j:Int)<1:=(by omega);have hnew:=fun O=>(Ab.refl wr).alloc O;have cp:=fun W (h:Ab w W)=>GF q.1 q.2 (AU q) (Hh q) Bp.1 Bp.2 W (hw.ext h);have BM:=hE.trans Ac;have HQ:=Ao4 BC;clear BC Bp
   cases e0:AU q
   ·have HE:=Ao4 e0
    have hall:([a,b,p].take 1).all AU=false:=by rw [List.all_eq_false];exact⟨q,by rw [HQ.out];exact List.mem_take_iff_getElem.2 ⟨j,by show j<min 1 3;omega,rfl⟩,by rw [e0];simp⟩
    rw [e0,Gm]at cp;clear e0;have hz2:z=2:=(by rw [HZ.out,if_pos hall]);clear hall;subst hz2;have c1:=cp _ (BM.trans (hnew (.cells #[S q.1,S q.2] 24)));(go_wp2_with fail);(with_reducible refine c1.mono ?_);rintro e w2 ⟨rfl,hx2⟩;go_wp2;go_ret;exact⟨rfl,(BM.trans (hnew _)).trans hx2⟩
   ·have HE:=Ao4 e0;rw [e0,Ek]at cp;clear e0;have c1:=cp _ (BM.trans (hnew (.cells #[S q.1,S q.2] 24)));(go_wp2_with fail);(with_reducible refine c1.mono ?_);rintro e w2 ⟨rfl,hx2⟩;go_wp2;go_roundw
    case rel=>
     refine⟨j+1,by go_num,hlt,?_,(Ac.trans (hnew _)).trans hx2⟩;intro x hx;rw [AoA hlt3,←HQ.out]at hx
     rcases List.mem_append.1 hx with h|h
     ·exact HO.out x h
     ·simp only [AoJ]at h;rw [h];exact HE.out
    case measure=>simp [intOf];omega
  ·obtain rfl:j=1:=(by omega);have hall:([a,b,p].take 1).all AU=true:=List.all_eq_true.2 HO.out;have hz1:=HZ.out;rw [hall,if_neg (by simp)]at hz1;have Bt:=Ao4 hz1;clear hall hz1 HZ HO hlt hj;replace hq:=(Ac.block _ (Ao5 hq)).trans hq;have hW:=hE.trans Ac;have HD:Af wr (some ⟨bp,2,none⟩) (flat ([a,b,p].drop 1)):=VP (HP.ext Ac) 1;clear HP hp Ac hE;have q7:wr.cell? ⟨bx,7,none⟩=some (S u):=Aa hq rfl;have hnil:¬u = []→u.isEmpty=false:=fun h=>by cases u<;>simp_all
   have ay:∀W,Ab wr W→Calls Tryz.prog 35 #[.slice (some ⟨bp,2,none⟩) 2 2,.func (.func 36) #[] #[]] W (BF (([a,b,p].drop 1).any Bi) W):=fun W h=>RV Sy Bi ([a,b,p].drop 1) _ 2 W (HD.ext h) (Ao7 _) (by decide) (fun e _ W _=>Si e W)
   have nx:=fun W=>js u (by omega) W;by_cases hu:u = []
   ·have hz2:=Bt.out;rw [hu]at hz2 q7;rw [if_neg (by simp)]at hz2;clear Bt nx hnil
    cases e2:([a,b,p].drop 1).any Bi
    ·rw [e2,if_neg (by simp)]at hz2;have a1:=ay wr (Ab.refl wr);rw [e2]at a1;clear e2;subst hz2;(go_wp2_with fail);(with_reducible refine a1.mono ?_);rintro e w3 ⟨rfl,hx3⟩;go_wp2;go_ret;exact⟨rfl,hW.trans hx3⟩
    ·rw [e2,if_pos (by simp)]at hz2;have a1:=ay wr (Ab.refl wr);rw [e2]at a1;clear e2;subst hz2;(go_wp2_with fail);(with_reducible refine a1.mono ?_);rintro e w3 ⟨rfl,hx3⟩;go_wp2;go_ret;exact⟨rfl,hW.trans hx3⟩
   ·have hu2:=hnil hu
    have hb:(u == [])=false:=by cases u with|nil=>exact absurd rfl hu|cons x y=>rfl
    have hz2:=Bt.out;rw [hb]at hz2;clear Bt hnil
    cases e1:nameB u
    ·rw [e1,if_pos (by simp)]at hz2;have n1:=nx wr;rw [e1]at n1;clear e1;subst hz2;(go_wp2_with fail);(with_reducible refine n1.mono ?_);rintro e w3 ⟨rfl,hx3⟩;go_wp2;go_ret;exact⟨rfl,hW.trans hx3⟩
    ·rw [e1,if_neg (by simp)]at hz2;have n1:=nx wr;rw [e1]at n1;clear e1
     cases e2:([a,b,p].drop 1).any Bi
     ·rw [e2,if_neg (by simp)]at hz2;rw [e2]at ay;clear e2;subst hz2;(go_wp2_with fail);(with_reducible refine n1.mono ?_);rintro e w3 ⟨rfl,hx3⟩;have a1:=ay w3 hx3;(go_wp2_with fail);(with_reducible refine a1.mono ?_);rintro e w4 ⟨rfl,Ag⟩;go_wp2;go_ret;exact⟨rfl,(hW.trans hx3).trans Ag⟩
     ·rw [e2,if_pos (by simp)]at hz2;rw [e2]at ay;clear e2;subst hz2;(go_wp2_with fail);(with_reducible refine n1.mono ?_);rintro e w3 ⟨rfl,hx3⟩;have a1:=ay w3 hx3;(go_wp2_with fail);(with_reducible refine a1.mono ?_);rintro e w4 ⟨rfl,Ag⟩;go_wp2;go_ret;exact⟨rfl,(hW.trans hx3).trans Ag⟩
theorem ZF(a b p:Bs×Bs)(u:Bs):Do 2 a b p u=if ([a,b,p].take 2).all AU=false then 2 else if (true && !(u == []) && !nameB u)=true then 8 else if (!true && !(u == [])||([a,b,p].drop 2).any Bi)=true then 7 else 0:=rfl
theorem Ak0(a b p:Bs×Bs)(u:Bs)(hs:FV a b p u)(w:World)(hw:Am w):Calls Tryz.prog 9 #[Bz 2 a b p u] w (AI (Do 2 a b p u) w):=by
 rw [ZF];have hsp:=hs.pt;have hsu:=hs.u;obtain⟨z,hz⟩:=Ao3 ((if ([a,b,p].take 2).all AU=false then (2:Int)else if (true && !(u == []) && !nameB u)=true then 8 else if (!true && !(u == [])||([a,b,p].drop 2).any Bi)=true then 7 else 0));rw [←hz];have HZ:=Ao4 hz;clear hz hs;have hE:=(Ab.refl w).alloc (.cells #[.int .i64 2,S a.1,S a.2,S b.1,S b.2,S p.1,S p.2,S u] 26);have hq:=Ao6 w (.cells #[.int .i64 2,S a.1,S a.2,S b.1,S b.2,S p.1,S p.2,S u] 26);unfold Bz;go_enter Tryz.func9,Tryz.ntmps9
 go_upto_region 1 with fail
 generalize w.alloc (.cells #[.int .i64 2,S a.1,S a.2,S b.1,S b.2,S p.1,S p.2,S u] 26)=V at *;obtain⟨bx,As⟩:=Ao3 w.heap.size;rw [←As]at hq ⊢;clear As;have q0:V.cell? ⟨bx,0,none⟩=some (.int .i64 2):=Aa hq rfl;have q1:V.cell? ⟨bx,1,none⟩=some (S a.1):=Aa hq rfl;have q2:V.cell? ⟨bx,2,none⟩=some (S a.2):=Aa hq rfl;have q3:V.cell? ⟨bx,3,none⟩=some (S b.1):=Aa hq rfl;have q4:V.cell? ⟨bx,4,none⟩=some (S b.2):=Aa hq rfl;have q5:V.cell? ⟨bx,5,none⟩=some (S p.1):=Aa hq rfl;have q6:V.cell? ⟨bx,6,none⟩=some (S p.2):=Aa hq rfl
 go_upto_region 5 with fail
 have hp:=Ao6 V (.cells #[S a.1,S a.2,S b.1,S b.2,S p.1,S p.2] 24);have hx1:=(Ab.refl V).alloc (.cells #[S a.1,S a.2,S b.1,S b.2,S p.1,S p.2] 24);generalize V.alloc (.cells #[S a.1,S a.2,S b.1,S b.2,S p.1,S p.2] 24)=V1 at *;obtain⟨bp,Au⟩:=Ao3 V.heap.size;rw [←Au]at hp ⊢;clear Au;replace hq:=(hx1.block _ (Ao5 hq)).trans hq;replace hE:=hE.trans hx1;clear q0 q1 q2 q3 q4 q5 q6 hx1;have q0:V1.cell? ⟨bx,0,none⟩=some (.int .i64 2):=Aa hq rfl;have al:∀O,(V1.alloc O).cell? ⟨bx,0,none⟩=some (.int .i64 2):=fun O=>((Ab.refl V1).alloc O).cellS q0
 go_upto_region 7 with fail
 clear al q0;generalize hV2:V1.alloc _=V2;have hx2:Ab V1 V2:=hV2▸(Ab.refl V1).alloc _;replace hq:=(hx2.block _ (Ao5 hq)).trans hq;replace hp:=(hx2.block _ (Ao5 hp)).trans hp;replace hE:=hE.trans hx2;clear hV2 hx2;have HP:=QI a b p hp
 go_loopw [40] (fun i wr=>∃j:Nat,i=.int .i64 (j:Nat)/\j<=2/\(∀q∈[a,b,p].take j,AU q=true)/\Ab V2 wr) (fun i _=>2-(intOf i).toNat)
 case atStart=>exact⟨0,rfl,by omega,by simp,Ab.refl _⟩
 case round=>
  obtain⟨j,rfl,hj,Ai,Ac⟩:=hrel;have HO:=Ao4 Ai;clear Ai;by_cases hlt:j<2
  ·have hlt3:j < [a,b,p].length:=(by show j<3;omega);obtain⟨bb,o,e,hg1,hg2⟩:=J9 (HP.ext Ac) hlt3;simp only [AoB,Addr.mk.injEq]at e;obtain⟨rfl,rfl,-⟩:=e;rw [Nat.zero_add]at hg1 hg2;have Bp:=hsp _ (Ao8 hlt3);obtain⟨q,BC⟩:=Ao3 ([a,b,p][j]);rw [←BC]at hg1 hg2 Bp;have hj0:(0:Int)<=(j:Int):=(by omega);have Bc:(j:Int)<2:=(by omega);have hnew:=fun O=>(Ab.refl wr).alloc O;have cp:=fun W (h:Ab w W)=>GF q.1 q.2 (AU q) (Hh q) Bp.1 Bp.2 W (hw.ext h);have BM:=hE.trans Ac;have HQ:=Ao4 BC;clear BC Bp
   cases e0:AU q
   ·have HE:=Ao4 e0
    have hall:([a,b,p].take 2).all AU=false:=by rw [List.all_eq_false];exact⟨q,by rw [HQ.out];exact List.mem_take_iff_getElem.2 ⟨j,by show j<min 2 3;omega,rfl⟩,by rw [e0];simp⟩
    rw [e0,Gm]at cp;clear e0;have hz2:z=2:=(by rw [HZ.out,if_pos hall]);clear hall;subst hz2;have c1:=cp _ (BM.trans (hnew (.cells #[S q.1,S q.2] 24)));(go_wp2_with fail);(with_reducible refine c1.mono ?_);rintro e w2 ⟨rfl,hx2⟩;go_wp2;go_ret;exact⟨rfl,(BM.trans (hnew _)).trans hx2⟩
   ·have HE:=Ao4 e0;rw [e0,Ek]at cp;clear e0;have c1:=cp _ (BM.trans (hnew (.cells #[S q.1,S q.2] 24)));(go_wp2_with fail);(with_reducible refine c1.mono ?_);rintro e w2 ⟨rfl,hx2⟩;go_wp2;go_roundw
    case rel=>
     refine⟨j+1,by go_num,hlt,?_,(Ac.trans (hnew _)).trans hx2⟩;intro x hx;rw [AoA hlt3,←HQ.out]at hx
     rcases List.mem_append.1 hx with h|h
     ·exact HO.out x h
     ·simp only [AoJ]at h;rw [h];exact HE.out
    case measure=>simp [intOf];omega
  ·obtain rfl:j=2:=(by omega);have hall:([a,b,p].take 2).all AU=true:=List.all_eq_true.2 HO.out;have hz1:=HZ.out;rw [hall,if_neg (by simp)]at hz1;have Bt:=Ao4 hz1;clear hall hz1 HZ HO hlt hj;replace hq:=(Ac.block _ (Ao5 hq)).trans hq;have hW:=hE.trans Ac;have HD:Af wr (some ⟨bp,4,none⟩) (flat ([a,b,p].drop 2)):=VP (HP.ext Ac) 2;clear HP hp Ac hE;have q7:wr.cell? ⟨bx,7,none⟩=some (S u):=Aa hq rfl;have hnil:¬u = []→u.isEmpty=false:=fun h=>by cases u<;>simp_all
   have ay:∀W,Ab wr W→Calls Tryz.prog 35 #[.slice (some ⟨bp,4,none⟩) 1 1,.func (.func 36) #[] #[]] W (BF (([a,b,p].drop 2).any Bi) W):=fun W h=>RV Sy Bi ([a,b,p].drop 2) _ 1 W (HD.ext h) (Ao7 _) (by decide) (fun e _ W _=>Si e W)
   have nx:=fun W=>js u (by omega) W;by_cases hu:u = []
   ·have hz2:=Bt.out;rw [hu]at hz2 q7;rw [if_neg (by simp)]at hz2;clear Bt nx hnil
    cases e2:([a,b,p].drop 2).any Bi
    ·rw [e2,if_neg (by simp)]at hz2;have a1:=ay wr (Ab.refl wr);rw [e2]at a1;clear e2;subst hz2;(go_wp2_with fail);(with_reducible refine a1.mono ?_);rintro e w3 ⟨rfl,hx3⟩;go_wp2;go_ret;exact⟨rfl,hW.trans hx3⟩
    ·rw [e2,if_pos (by simp)]at hz2;have a1:=ay wr (Ab.refl wr);rw [e2]at a1;clear e2;subst hz2;(go_wp2_with fail);(with_reducible refine a1.mono ?_);rintro e w3 ⟨rfl,hx3⟩;go_wp2;go_ret;exact⟨rfl,hW.trans hx3⟩
   ·have hu2:=hnil hu
    have hb:(u == [])=false:=by cases u with|nil=>exact absurd rfl hu|cons x y=>rfl
    have hz2:=Bt.out;rw [hb]at hz2;clear Bt hnil
    cases e1:nameB u
    ·rw [e1,if_pos (by simp)]at hz2;have n1:=nx wr;rw [e1]at n1;clear e1;subst hz2;(go_wp2_with fail);(with_reducible refine n1.mono ?_);rintro e w3 ⟨rfl,hx3⟩;go_wp2;go_ret;exact⟨rfl,hW.trans hx3⟩
    ·rw [e1,if_neg (by simp)]at hz2;have n1:=nx wr;rw [e1]at n1;clear e1
     cases e2:([a,b,p].drop 2).any Bi
     ·rw [e2,if_neg (by simp)]at hz2;rw [e2]at ay;clear e2;subst hz2;(go_wp2_with fail);(with_reducible refine n1.mono ?_);rintro e w3 ⟨rfl,hx3⟩;have a1:=ay w3 hx3;(go_wp2_with fail);(with_reducible refine a1.mono ?_);rintro e w4 ⟨rfl,Ag⟩;go_wp2;go_ret;exact⟨rfl,(hW.trans hx3).trans Ag⟩
     ·rw [e2,if_pos (by simp)]at hz2;rw [e2]at ay;clear e2;subst hz2;(go_wp2_with fail);(with_reducible refine n1.mono ?_);rintro e w3 ⟨rfl,hx3⟩;have a1:=ay w3 hx3;(go_wp2_with fail);(with_reducible refine a1.mono ?_);rintro e w4 ⟨rfl,Ag⟩;go_wp2;go_ret;exact⟨rfl,(hW.trans hx3).trans Ag⟩
theorem ZG(a b p:Bs×Bs)(u:Bs):Do 3 a b p u=if ([a,b,p].take 2).all AU=false then 2 else if (false && !(u == []) && !nameB u)=true then 8 else if (!false && !(u == [])||([a,b,p].drop 2).any Bi)=true then 7 else 0:=rfl
theorem Ak1(a b p:Bs×Bs)(u:Bs)(hs:FV a b p u)(w:World)(hw:Am w):Calls Tryz.prog 9 #[Bz 3 a b p u] w (AI (Do 3 a b p u) w):=by
 rw [ZG];have hsp:=hs.pt;have hsu:=hs.u;obtain⟨z,hz⟩:=Ao3 ((if ([a,b,p].take 2).all AU=false then (2:Int)else if (false && !(u == []) && !nameB u)=true then 8 else if (!false && !(u == [])||([a,b,p].drop 2).any Bi)=true then 7 else 0));rw [←hz];have HZ:=Ao4 hz;clear hz hs;have hE:=(Ab.refl w).alloc (.cells #[.int .i64 3,S a.1,S a.2,S b.1,S b.2,S p.1,S p.2,S u] 26);have hq:=Ao6 w (.cells #[.int .i64 3,S a.1,S a.2,S b.1,S b.2,S p.1,S p.2,S u] 26);unfold Bz;go_enter Tryz.func9,Tryz.ntmps9
 go_upto_region 1 with fail
 generalize w.alloc (.cells #[.int .i64 3,S a.1,S a.2,S b.1,S b.2,S p.1,S p.2,S u] 26)=V at *;obtain⟨bx,As⟩:=Ao3 w.heap.size;rw [←As]at hq ⊢;clear As;have q0:V.cell? ⟨bx,0,none⟩=some (.int .i64 3):=Aa hq rfl;have q1:V.cell? ⟨bx,1,none⟩=some (S a.1):=Aa hq rfl;have q2:V.cell? ⟨bx,2,none⟩=some (S a.2):=Aa hq rfl;have q3:V.cell? ⟨bx,3,none⟩=some (S b.1):=Aa hq rfl;have q4:V.cell? ⟨bx,4,none⟩=some (S b.2):=Aa hq rfl;have q5:V.cell? ⟨bx,5,none⟩=some (S p.1):=Aa hq rfl;have q6:V.cell? ⟨bx,6,none⟩=some (S p.2):=Aa hq rfl
 go_upto_region 5 with fail
 have hp:=Ao6 V (.cells #[S a.1,S a.2,S b.1,S b.2,S p.1,S p.2] 24);have hx1:=(Ab.refl V).alloc (.cells #[S a.1,S a.2,S b.1,S b.2,S p.1,S p.2] 24);generalize V.alloc (.cells #[S a.1,S a.2,S b.1,S b.2,S p.1,S p.2] 24)=V1 at *;obtain⟨bp,Au⟩:=Ao3 V.heap.size;rw [←Au]at hp ⊢;clear Au;replace hq:=(hx1.block _ (Ao5 hq)).trans hq;replace hE:=hE.trans hx1;clear q0 q1 q2 q3 q4 q5 q6 hx1;have q0:V1.cell? ⟨bx,0,none⟩=some (.int .i64 3):=Aa hq rfl;have al:∀O,(V1.alloc O).cell? ⟨bx,0,none⟩=some (.int .i64 3):=fun O=>((Ab.refl V1).alloc O).cellS q0
 go_upto_region 7 with fail
 clear al q0;generalize hV2:V1.alloc _=V2;have hx2:Ab V1 V2:=hV2▸(Ab.refl V1).alloc _;replace hq:=(hx2.block _ (Ao5 hq)).trans hq;replace hp:=(hx2.block _ (Ao5 hp)).trans hp;replace hE:=hE.trans hx2;clear hV2 hx2;have HP:=QI a b p hp
 go_loopw [40] (fun i wr=>∃j:Nat,i=.int .i64 (j:Nat)/\j<=2/\(∀q∈[a,b,p].take j,AU q=true)/\Ab V2 wr) (fun i _=>2-(intOf i).toNat)
 case atStart=>exact⟨0,rfl,by omega,by simp,Ab.refl _⟩
 case round=>
  obtain⟨j,rfl,hj,Ai,Ac⟩:=hrel;have HO:=Ao4 Ai;clear Ai;by_cases hlt:j<2
  ·have hlt3:j < [a,b,p].length:=(by show j<3;omega);obtain⟨bb,o,e,hg1,hg2⟩:=J9 (HP.ext Ac) hlt3;simp only [AoB,Addr.mk.injEq]at e;obtain⟨rfl,rfl,-⟩:=e;rw [Nat.zero_add]at hg1 hg2;have Bp:=hsp _ (Ao8 hlt3);obtain⟨q,BC⟩:=Ao3 ([a,b,p][j]);rw [←BC]at hg1 hg2 Bp;have hj0:(0:Int)<=(j:Int):=(by omega);have Bc:(j:Int)<2:=(by omega);have hnew:=fun O=>(Ab.refl wr).alloc O;have cp:=fun W (h:Ab w W)=>GF q.1 q.2 (AU q) (Hh q) Bp.1 Bp.2 W (hw.ext h);have BM:=hE.trans Ac;have HQ:=Ao4 BC;clear BC Bp
   cases e0:AU q
   ·have HE:=Ao4 e0
    have hall:([a,b,p].take 2).all AU=false:=by rw [List.all_eq_false];exact⟨q,by rw [HQ.out];exact List.mem_take_iff_getElem.2 ⟨j,by show j<min 2 3;omega,rfl⟩,by rw [e0];simp⟩
    rw [e0,Gm]at cp;clear e0;have hz2:z=2:=(by rw [HZ.out,if_pos hall]);clear hall;subst hz2;have c1:=cp _ (BM.trans (hnew (.cells #[S q.1,S q.2] 24)));(go_wp2_with fail);(with_reducible refine c1.mono ?_);rintro e w2 ⟨rfl,hx2⟩;go_wp2;go_ret;exact⟨rfl,(BM.trans (hnew _)).trans hx2⟩
   ·have HE:=Ao4 e0;rw [e0,Ek]at cp;clear e0;have c1:=cp _ (BM.trans (hnew (.cells #[S q.1,S q.2] 24)));(go_wp2_with fail);(with_reducible refine c1.mono ?_);rintro e w2 ⟨rfl,hx2⟩;go_wp2;go_roundw
    case rel=>
     refine⟨j+1,by go_num,hlt,?_,(Ac.trans (hnew _)).trans hx2⟩;intro x hx;rw [AoA hlt3,←HQ.out]at hx
     rcases List.mem_append.1 hx with h|h
     ·exact HO.out x h
     ·simp only [AoJ]at h;rw [h];exact HE.out
    case measure=>simp [intOf];omega
  ·obtain rfl:j=2:=(by omega);have hall:([a,b,p].take 2).all AU=true:=List.all_eq_true.2 HO.out;have hz1:=HZ.out;rw [hall,if_neg (by simp)]at hz1;have Bt:=Ao4 hz1;clear hall hz1 HZ HO hlt hj;replace hq:=(Ac.block _ (Ao5 hq)).trans hq;have hW:=hE.trans Ac;have HD:Af wr (some ⟨bp,4,none⟩) (flat ([a,b,p].drop 2)):=VP (HP.ext Ac) 2;clear HP hp Ac hE;have q7:wr.cell? ⟨bx,7,none⟩=some (S u):=Aa hq rfl;have hnil:¬u = []→u.isEmpty=false:=fun h=>by cases u<;>simp_all
   have ay:∀W,Ab wr W→Calls Tryz.prog 35 #[.slice (some ⟨bp,4,none⟩) 1 1,.func (.func 36) #[] #[]] W (BF (([a,b,p].drop 2).any Bi) W):=fun W h=>RV Sy Bi ([a,b,p].drop 2) _ 1 W (HD.ext h) (Ao7 _) (by decide) (fun e _ W _=>Si e W)
   by_cases hu:u = []
   ·have hz2:=Bt.out;rw [hu]at hz2 q7;rw [if_neg (by simp)]at hz2;clear Bt hnil
    cases e2:([a,b,p].drop 2).any Bi
    ·rw [e2,if_neg (by simp)]at hz2;have a1:=ay wr (Ab.refl wr);rw [e2]at a1;clear e2;subst hz2;(go_wp2_with fail);(with_reducible refine a1.mono ?_);rintro e w3 ⟨rfl,hx3⟩;go_wp2;go_ret;exact⟨rfl,hW.trans hx3⟩
    ·rw [e2,if_pos (by simp)]at hz2;have a1:=ay wr (Ab.refl wr);rw [e2]at a1;clear e2;subst hz2;(go_wp2_with fail);(with_reducible refine a1.mono ?_);rintro e w3 ⟨rfl,hx3⟩;go_wp2;go_ret;exact⟨rfl,hW.trans hx3⟩
   ·have hu2:=hnil hu
    have hb:(u == [])=false:=by cases u with|nil=>exact absurd rfl hu|cons x y=>rfl
    have hz2:=Bt.out;rw [hb,if_neg (by simp),if_pos (by simp)]at hz2;clear Bt hnil ay;subst hz2;go_wp2;go_ret;exact⟨rfl,hW⟩
theorem rI(a b p:Bs×Bs)(u:Bs):Do 4 a b p u=if ([a,b,p].take 2).all AU=false then 2 else if (false && !(u == []) && !nameB u)=true then 8 else if (!false && !(u == [])||([a,b,p].drop 2).any Bi)=true then 7 else 0:=rfl
theorem Ak2(a b p:Bs×Bs)(u:Bs)(hs:FV a b p u)(w:World)(hw:Am w):Calls Tryz.prog 9 #[Bz 4 a b p u] w (AI (Do 4 a b p u) w):=by
 rw [rI];have hsp:=hs.pt;have hsu:=hs.u;obtain⟨z,hz⟩:=Ao3 ((if ([a,b,p].take 2).all AU=false then (2:Int)else if (false && !(u == []) && !nameB u)=true then 8 else if (!false && !(u == [])||([a,b,p].drop 2).any Bi)=true then 7 else 0));rw [←hz];have HZ:=Ao4 hz;clear hz hs;have hE:=(Ab.refl w).alloc (.cells #[.int .i64 4,S a.1,S a.2,S b.1,S b.2,S p.1,S p.2,S u] 26);have hq:=Ao6 w (.cells #[.int .i64 4,S a.1,S a.2,S b.1,S b.2,S p.1,S p.2,S u] 26);unfold Bz;go_enter Tryz.func9,Tryz.ntmps9
 go_upto_region 1 with fail
 generalize w.alloc (.cells #[.int .i64 4,S a.1,S a.2,S b.1,S b.2,S p.1,S p.2,S u] 26)=V at *;obtain⟨bx,As⟩:=Ao3 w.heap.size;rw [←As]at hq ⊢;clear As;have q0:V.cell? ⟨bx,0,none⟩=some (.int .i64 4):=Aa hq rfl;have q1:V.cell? ⟨bx,1,none⟩=some (S a.1):=Aa hq rfl;have q2:V.cell? ⟨bx,2,none⟩=some (S a.2):=Aa hq rfl;have q3:V.cell? ⟨bx,3,none⟩=some (S b.1):=Aa hq rfl;have q4:V.cell? ⟨bx,4,none⟩=some (S b.2):=Aa hq rfl;have q5:V.cell? ⟨bx,5,none⟩=some (S p.1):=Aa hq rfl;have q6:V.cell? ⟨bx,6,none⟩=some (S p.2):=Aa hq rfl
 go_upto_region 5 with fail
 have hp:=Ao6 V (.cells #[S a.1,S a.2,S b.1,S b.2,S p.1,S p.2] 24);have hx1:=(Ab.refl V).alloc (.cells #[S a.1,S a.2,S b.1,S b.2,S p.1,S p.2] 24);generalize V.alloc (.cells #[S a.1,S a.2,S b.1,S b.2,S p.1,S p.2] 24)=V1 at *;obtain⟨bp,Au⟩:=Ao3 V.heap.size;rw [←Au]at hp ⊢;clear Au;replace hq:=(hx1.block _ (Ao5 hq)).trans hq;replace hE:=hE.trans hx1;clear q0 q1 q2 q3 q4 q5 q6 hx1;have q0:V1.cell? ⟨bx,0,none⟩=some (.int .i64 4):=Aa hq rfl;have al:∀O,(V1.alloc O).cell? ⟨bx,0,none⟩=some (.int .i64 4):=fun O=>((Ab.refl V1).alloc O).cellS q0
 go_upto_region 7 with fail
 clear al q0;generalize hV2:V1.alloc _=V2;have hx2:Ab V1 V2:=hV2▸(Ab.refl V1).alloc _;replace hq:=(hx2.block _ (Ao5 hq)).trans hq;replace hp:=(hx2.block _ (Ao5 hp)).trans hp;replace hE:=hE.trans hx2;clear hV2 hx2;have HP:=QI a b p hp
 go_loopw [40] (fun i wr=>∃j:Nat,i=.int .i64 (j:Nat)/\j<=2/\(∀q∈[a,b,p].take j,AU q=true)/\Ab V2 wr) (fun i _=>2-(intOf i).toNat)
 case atStart=>exact⟨0,rfl,by omega,by simp,Ab.refl _⟩
 case round=>
  obtain⟨j,rfl,hj,Ai,Ac⟩:=hrel;have HO:=Ao4 Ai;clear Ai;by_cases hlt:j<2
  ·have hlt3:j < [a,b,p].length:=(by show j<3;omega);obtain⟨bb,o,e,hg1,hg2⟩:=J9 (HP.ext Ac) hlt3;simp only [AoB,Addr.mk.injEq]at e;obtain⟨rfl,rfl,-⟩:=e;rw [Nat.zero_add]at hg1 hg2;have Bp:=hsp _ (Ao8 hlt3);obtain⟨q,BC⟩:=Ao3 ([a,b,p][j]);rw [←BC]at hg1 hg2 Bp;have hj0:(0:Int)<=(j:Int):=(by omega);have Bc:(j:Int)<2:=(by omega);have hnew:=fun O=>(Ab.refl wr).alloc O;have cp:=fun W (h:Ab w W)=>GF q.1 q.2 (AU q) (Hh q) Bp.1 Bp.2 W (hw.ext h);have BM:=hE.trans Ac;have HQ:=Ao4 BC;clear BC Bp
   cases e0:AU q
   ·have HE:=Ao4 e0
    have hall:([a,b,p].take 2).all AU=false:=by rw [List.all_eq_false];exact⟨q,by rw [HQ.out];exact List.mem_take_iff_getElem.2 ⟨j,by show j<min 2 3;omega,rfl⟩,by rw [e0];simp⟩
    rw [e0,Gm]at cp;clear e0;have hz2:z=2:=(by rw [HZ.out,if_pos hall]);clear hall;subst hz2;have c1:=cp _ (BM.trans (hnew (.cells #[S q.1,S q.2] 24)));(go_wp2_with fail);(with_reducible refine c1.mono ?_);rintro e w2 ⟨rfl,hx2⟩;go_wp2;go_ret;exact⟨rfl,(BM.trans (hnew _)).trans hx2⟩
   ·have HE:=Ao4 e0;rw [e0,Ek]at cp;clear e0;have c1:=cp _ (BM.trans (hnew (.cells #[S q.1,S q.2] 24)));(go_wp2_with fail);(with_reducible refine c1.mono ?_);rintro e w2 ⟨rfl,hx2⟩;go_wp2;go_roundw
    case rel=>
     refine⟨j+1,by go_num,hlt,?_,(Ac.trans (hnew _)).trans hx2⟩;intro x hx;rw [AoA hlt3,←HQ.out]at hx
     rcases List.mem_append.1 hx with h|h
     ·exact HO.out x h
     ·simp only [AoJ]at h;rw [h];exact HE.out
    case measure=>simp [intOf];omega
  ·obtain rfl:j=2:=(by omega);have hall:([a,b,p].take 2).all AU=true:=List.all_eq_true.2 HO.out;have hz1:=HZ.out;rw [hall,if_neg (by simp)]at hz1;have Bt:=Ao4 hz1;clear hall hz1 HZ HO hlt hj;replace hq:=(Ac.block _ (Ao5 hq)).trans hq;have hW:=hE.trans Ac;have HD:Af wr (some ⟨bp,4,none⟩) (flat ([a,b,p].drop 2)):=VP (HP.ext Ac) 2;clear HP hp Ac hE;have q7:wr.cell? ⟨bx,7,none⟩=some (S u):=Aa hq rfl;have hnil:¬u = []→u.isEmpty=false:=fun h=>by cases u<;>simp_all
   have ay:∀W,Ab wr W→Calls Tryz.prog 35 #[.slice (some ⟨bp,4,none⟩) 1 1,.func (.func 36) #[] #[]] W (BF (([a,b,p].drop 2).any Bi) W):=fun W h=>RV Sy Bi ([a,b,p].drop 2) _ 1 W (HD.ext h) (Ao7 _) (by decide) (fun e _ W _=>Si e W)
   by_cases hu:u = []
   ·have hz2:=Bt.out;rw [hu]at hz2 q7;rw [if_neg (by simp)]at hz2;clear Bt hnil
    cases e2:([a,b,p].drop 2).any Bi
    ·rw [e2,if_neg (by simp)]at hz2;have a1:=ay wr (Ab.refl wr);rw [e2]at a1;clear e2;subst hz2;(go_wp2_with fail);(with_reducible refine a1.mono ?_);rintro e w3 ⟨rfl,hx3⟩;go_wp2;go_ret;exact⟨rfl,hW.trans hx3⟩
    ·rw [e2,if_pos (by simp)]at hz2;have a1:=ay wr (Ab.refl wr);rw [e2]at a1;clear e2;subst hz2;(go_wp2_with fail);(with_reducible refine a1.mono ?_);rintro e w3 ⟨rfl,hx3⟩;go_wp2;go_ret;exact⟨rfl,hW.trans hx3⟩
   ·have hu2:=hnil hu
    have hb:(u == [])=false:=by cases u with|nil=>exact absurd rfl hu|cons x y=>rfl
    have hz2:=Bt.out;rw [hb,if_neg (by simp),if_pos (by simp)]at hz2;clear Bt hnil ay;subst hz2;go_wp2;go_ret;exact⟨rfl,hW⟩
theorem rJ(a b p:Bs×Bs)(u:Bs):Do 5 a b p u=if ([a,b,p].take 3).all AU=false then 2 else if (false && !(u == []) && !nameB u)=true then 8 else if (!false && !(u == [])||([a,b,p].drop 3).any Bi)=true then 7 else 0:=rfl
theorem Ak3(a b p:Bs×Bs)(u:Bs)(hs:FV a b p u)(w:World)(hw:Am w):Calls Tryz.prog 9 #[Bz 5 a b p u] w (AI (Do 5 a b p u) w):=by
 rw [rJ];have hsp:=hs.pt;have hsu:=hs.u;obtain⟨z,hz⟩:=Ao3 ((if ([a,b,p].take 3).all AU=false then (2:Int)else if (false && !(u == []) && !nameB u)=true then 8 else if (!false && !(u == [])||([a,b,p].drop 3).any Bi)=true then 7 else 0));rw [←hz];have HZ:=Ao4 hz;clear hz hs;have hE:=(Ab.refl w).alloc (.cells #[.int .i64 5,S a.1,S a.2,S b.1,S b.2,S p.1,S p.2,S u] 26);have hq:=Ao6 w (.cells #[.int .i64 5,S a.1,S a.2,S b.1,S b.2,S p.1,S p.2,S u] 26);unfold Bz;go_enter Tryz.func9,Tryz.ntmps9
 go_upto_region 1 with fail
 generalize w.alloc (.cells #[.int .i64 5,S a.1,S a.2,S b.1,S b.2,S p.1,S p.2,S u] 26)=V at *;obtain⟨bx,As⟩:=Ao3 w.heap.size;rw [←As]at hq ⊢;clear As;have q0:V.cell? ⟨bx,0,none⟩=some (.int .i64 5):=Aa hq rfl;have q1:V.cell? ⟨bx,1,none⟩=some (S a.1):=Aa hq rfl;have q2:V.cell? ⟨bx,2,none⟩=some (S a.2):=Aa hq rfl;have q3:V.cell? ⟨bx,3,none⟩=some (S b.1):=Aa hq rfl;have q4:V.cell? ⟨bx,4,none⟩=some (S b.2):=Aa hq rfl;have q5:V.cell? ⟨bx,5,none⟩=some (S p.1):=Aa hq rfl;have q6:V.cell? ⟨bx,6,none⟩=some (S p.2):=Aa hq rfl
 go_upto_region 5 with fail
 have hp:=Ao6 V (.cells #[S a.1,S a.2,S b.1,S b.2,S p.1,S p.2] 24);have hx1:=(Ab.refl V).alloc (.cells #[S a.1,S a.2,S b.1,S b.2,S p.1,S p.2] 24);generalize V.alloc (.cells #[S a.1,S a.2,S b.1,S b.2,S p.1,S p.2] 24)=V1 at *;obtain⟨bp,Au⟩:=Ao3 V.heap.size;rw [←Au]at hp ⊢;clear Au;replace hq:=(hx1.block _ (Ao5 hq)).trans hq;replace hE:=hE.trans hx1;clear q0 q1 q2 q3 q4 q5 q6 hx1;have q0:V1.cell? ⟨bx,0,none⟩=some (.int .i64 5):=Aa hq rfl;have al:∀O,(V1.alloc O).cell? ⟨bx,0,none⟩=some (.int .i64 5):=fun O=>((Ab.refl V1).alloc O).cellS q0
 go_upto_region 7 with fail
 clear al q0;generalize hV2:V1.alloc _=V2;have hx2:Ab V1 V2:=hV2▸(Ab.refl V1).alloc _;replace hq:=(hx2.block _ (Ao5 hq)).trans hq;replace hp:=(hx2.block _ (Ao5 hp)).trans hp;replace hE:=hE.trans hx2;clear hV2 hx2;have HP:=QI a b p hp
 go_loopw [40] (fun i wr=>∃j:Nat,i=.int .i64 (j:Nat)/\j<=3/\(∀q∈[a,b,p].take j,AU q=true)/\Ab V2 wr) (fun i _=>3-(intOf i).toNat)
 case atStart=>exact⟨0,rfl,by omega,by simp,Ab.refl _⟩
 case round=>
  obtain⟨j,rfl,hj,Ai,Ac⟩:=hrel;have HO:=Ao4 Ai;clear Ai;by_cases hlt:j<3
  ·have hlt3:j < [a,b,p].length:=(by show j<3;omega);obtain⟨bb,o,e,hg1,hg2⟩:=J9 (HP.ext Ac) hlt3;simp only [AoB,Addr.mk.injEq]at e;obtain⟨rfl,rfl,-⟩:=e;rw [Nat.zero_add]at hg1 hg2;have Bp:=hsp _ (Ao8 hlt3);obtain⟨q,BC⟩:=Ao3 ([a,b,p][j]);rw [←BC]at hg1 hg2 Bp;have hj0:(0:Int)<=(j:Int):=(by omega);have Bc:(j:Int)<3:=(by omega);have hnew:=fun O=>(Ab.refl wr).alloc O;have cp:=fun W (h:Ab w W)=>GF q.1 q.2 (AU q) (Hh q) Bp.1 Bp.2 W (hw.ext h);have BM:=hE.trans Ac;have HQ:=Ao4 BC;clear BC Bp
   cases e0:AU q
   ·have HE:=Ao4 e0
    have hall:([a,b,p].take 3).all AU=false:=by rw [List.all_eq_false];exact⟨q,by rw [HQ.out];exact List.mem_take_iff_getElem.2 ⟨j,by show j<min 3 3;omega,rfl⟩,by rw [e0];simp⟩
    rw [e0,Gm]at cp;clear e0;have hz2:z=2:=(by rw [HZ.out,if_pos hall]);clear hall;subst hz2;have c1:=cp _ (BM.trans (hnew (.cells #[S q.1,S q.2] 24)));(go_wp2_with fail);(with_reducible refine c1.mono ?_);rintro e w2 ⟨rfl,hx2⟩;go_wp2;go_ret;exact⟨rfl,(BM.trans (hnew _)).trans hx2⟩
   ·have HE:=Ao4 e0;rw [e0,Ek]at cp;clear e0;have c1:=cp _ (BM.trans (hnew (.cells #[S q.1,S q.2] 24)));(go_wp2_with fail);(with_reducible refine c1.mono ?_);rintro e w2 ⟨rfl,hx2⟩;go_wp2;go_roundw
    case rel=>
     refine⟨j+1,by go_num,hlt,?_,(Ac.trans (hnew _)).trans hx2⟩;intro x hx;rw [AoA hlt3,←HQ.out]at hx
     rcases List.mem_append.1 hx with h|h
     ·exact HO.out x h
     ·simp only [AoJ]at h;rw [h];exact HE.out
    case measure=>simp [intOf];omega
  ·obtain rfl:j=3:=(by omega);have hall:([a,b,p].take 3).all AU=true:=List.all_eq_true.2 HO.out;have hz1:=HZ.out;rw [hall,if_neg (by simp)]at hz1;have Bt:=Ao4 hz1;clear hall hz1 HZ HO hlt hj;replace hq:=(Ac.block _ (Ao5 hq)).trans hq;have hW:=hE.trans Ac;have HD:Af wr (some ⟨bp,0,none⟩) (flat ([a,b,p].drop 3)):=⟨fun h=>absurd h (Nat.lt_irrefl 0)⟩;clear HP hp Ac hE;have q7:wr.cell? ⟨bx,7,none⟩=some (S u):=Aa hq rfl;have hnil:¬u = []→u.isEmpty=false:=fun h=>by cases u<;>simp_all
   have ay:∀W,Ab wr W→Calls Tryz.prog 35 #[.slice (some ⟨bp,0,none⟩) 0 0,.func (.func 36) #[] #[]] W (BF (([a,b,p].drop 3).any Bi) W):=fun W h=>RV Sy Bi ([a,b,p].drop 3) _ 0 W (HD.ext h) (Ao7 _) (by decide) (fun e _ W _=>Si e W)
   by_cases hu:u = []
   ·have hz2:=Bt.out;rw [hu]at hz2 q7;rw [if_neg (by simp)]at hz2;clear Bt hnil
    cases e2:([a,b,p].drop 3).any Bi
    ·rw [e2,if_neg (by simp)]at hz2;have a1:=ay wr (Ab.refl wr);rw [e2]at a1;clear e2;subst hz2;(go_wp2_with fail);(with_reducible refine a1.mono ?_);rintro e w3 ⟨rfl,hx3⟩;go_wp2;go_ret;exact⟨rfl,hW.trans hx3⟩
    ·rw [e2,if_pos (by simp)]at hz2;have a1:=ay wr (Ab.refl wr);rw [e2]at a1;clear e2;subst hz2;(go_wp2_with fail);(with_reducible refine a1.mono ?_);rintro e w3 ⟨rfl,hx3⟩;go_wp2;go_ret;exact⟨rfl,hW.trans hx3⟩
   ·have hu2:=hnil hu
    have hb:(u == [])=false:=by cases u with|nil=>exact absurd rfl hu|cons x y=>rfl
    have hz2:=Bt.out;rw [hb,if_neg (by simp),if_pos (by simp)]at hz2;clear Bt hnil ay;subst hz2;go_wp2;go_ret;exact⟨rfl,hW⟩
theorem lM(k:Int)(a b p:Bs×Bs)(u:Bs)(hs:FV a b p u)(w:World)(hw:Am w):Calls Tryz.prog 9 #[Bz k a b p u] w (AI (Do k a b p u) w):=by
 by_cases h:k<1∨5<k
 ·exact Ak4 k h a b p u w
 ·obtain rfl|rfl|rfl|rfl|rfl:k=1∨k=2∨k=3∨k=4∨k=5:=by omega
  ·exact Akz a b p u hs w hw
  ·exact Ak0 a b p u hs w hw
  ·exact Ak1 a b p u hs w hw
  ·exact Ak2 a b p u hs w hw
  ·exact Ak3 a b p u hs w hw
end Go.Proofs.YtnddllipjippnaaGreatDoor
