/- W20. -/
import Derived.Test.YtnfedbopbcegjaaGreatDoorW18
import Derived.Test.YtnfedbopbcegjaaGreatDoorW19
set_option maxRecDepth 100000
set_option maxHeartbeats 8000000
namespace Go.Proofs.YtnfedbopbcegjaaGreatDoor
open Go.RowKit Kl
def Hr(k:Int)(a b p:Bs×Bs)(u:Bs):Value:=.agg #[.int .i64 k,S a.1,S a.2,S b.1,S b.2,S p.1,S p.2,S u]
noncomputable def Is(t:Bs×Bs):Bool:=@decide (CP t.1/\CP t.2) (Classical.propDecidable _)
theorem vQ(t:Bs×Bs):Is t=true↔CP t.1/\CP t.2:=by unfold Is;exact @decide_eq_true_iff _ (Classical.propDecidable _)
def iG(k:Int):Nat:=if k=1 then 1 else if k=5 then 3 else 2
def Ae1(k:Int):Bool:=k == 1||k == 2
noncomputable def Wg(k:Int)(a b p:Bs×Bs)(u:Bs):Int:=
 if k<1∨5<k then 12 else if ([a,b,p].take (iG k)).all Is=false then 2
 else if (Ae1 k && !(u == []) && !nameB u)=true then 8 else if (!Ae1 k && !(u == [])||([a,b,p].drop (iG k)).any IK)=true then 7 else 0
structure VK(a b p:Bs×Bs)(u:Bs):Prop where
 a1:a.1.length<=17
 a2:a.2.length<=17
 b1:b.1.length<=17
 b2:b.2.length<=17
 p1:p.1.length<=17
 p2:p.2.length<=17
 u:u.length<=17
theorem VK.pt{a b p:Bs×Bs}{u:Bs}(h:VK a b p u):∀t∈[a,b,p],t.1.length<=17/\t.2.length<=17:=by
 obtain⟨h1,h2,h3,h4,h5,h6,-⟩:=h;intro t ht;simp only [List.mem_cons,AjY,or_false]at ht
 rcases ht with rfl|rfl|rfl<;>constructor<;>omega
theorem AdQ{w:World}{b:Nat}(x y z:Bs×Bs)(h:w.heap[b]?=some (.cells #[S x.1,S x.2,S y.1,S y.2,S z.1,S z.2] 28)):Ad w (some ⟨b,0,none⟩) (flat [x,y,z]):=by
 refine⟨fun _=>⟨b,0,rfl,fun j hj=>?_⟩⟩;have hj6:j<6:=hj;obtain rfl|rfl|rfl|rfl|rfl|rfl:j=0∨j=1∨j=2∨j=3∨j=4∨j=5:=by omega
 all_goals exact Ab h rfl
theorem ym{w:World}{b:Nat}{l:List (Bs×Bs)}(h:Ad w (some ⟨b,0,none⟩) (flat l))(k:Nat):Ad w (some ⟨b,k*2,none⟩) (flat (l.drop k)):=by
 refine⟨fun h0=>?_⟩;rw [flat_length]at h0;have hl:(l.drop k).length=l.length-k:=List.length_drop;obtain⟨b',o,e,hc⟩:=h.ad (by rw [flat_length];omega);simp only [AjR,Addr.mk.injEq]at e;obtain⟨rfl,rfl,-⟩:=e;refine⟨b,k*2,rfl,fun j hj=>?_⟩;rw [flat_length]at hj;have:=hc (k*2+j) (by rw [flat_length];omega);rw [Nat.zero_add]at this;rw [this];have hd:flat l=flat (l.take k)++flat (l.drop k):=(by unfold flat;rw [←List.flatMap_append,List.take_append_drop]);have hk:(flat (l.take k)).length=k*2:=(by rw [flat_length,List.length_take];omega);simp only [hd];rw [List.getElem_append_right (by omega)];simp only [hk]
 congr 2
 omega
theorem gW(a b p:Bs×Bs)(u:Bs):Wg 1 a b p u=if ([a,b,p].take 1).all Is=false then 2 else if (true && !(u == []) && !nameB u)=true then 8 else if (!true && !(u == [])||([a,b,p].drop 1).any IK)=true then 7 else 0:=rfl
theorem Ag1(a b p:Bs×Bs)(u:Bs)(hs:VK a b p u)(w:World)(hw:Ak w):Calls Tryz.prog 87 #[Hr 1 a b p u] w (AB (Wg 1 a b p u) w):=by
 rw [gW];have hsp:=hs.pt;have hsu:=hs.u;obtain⟨z,hz⟩:=AjJ ((if ([a,b,p].take 1).all Is=false then (2:Int)else if (true && !(u == []) && !nameB u)=true then 8 else if (!true && !(u == [])||([a,b,p].drop 1).any IK)=true then 7 else 0));rw [←hz];have HZ:=AjK hz;clear hz hs;have hE:=(Aa.refl w).alloc (.cells #[.int .i64 1,S a.1,S a.2,S b.1,S b.2,S p.1,S p.2,S u] 35);have hq:=AjM w (.cells #[.int .i64 1,S a.1,S a.2,S b.1,S b.2,S p.1,S p.2,S u] 35);unfold Hr;go_enter Tryz.func87,Tryz.ntmps87
 go_upto_region 1 with fail
 generalize w.alloc (.cells #[.int .i64 1,S a.1,S a.2,S b.1,S b.2,S p.1,S p.2,S u] 35)=V at *;obtain⟨bx,As⟩:=AjJ w.heap.size;rw [←As]at hq ⊢;clear As;have q0:V.cell? ⟨bx,0,none⟩=some (.int .i64 1):=Ab hq rfl;have q1:V.cell? ⟨bx,1,none⟩=some (S a.1):=Ab hq rfl;have q2:V.cell? ⟨bx,2,none⟩=some (S a.2):=Ab hq rfl;have q3:V.cell? ⟨bx,3,none⟩=some (S b.1):=Ab hq rfl;have q4:V.cell? ⟨bx,4,none⟩=some (S b.2):=Ab hq rfl;have q5:V.cell? ⟨bx,5,none⟩=some (S p.1):=Ab hq rfl;have q6:V.cell? ⟨bx,6,none⟩=some (S p.2):=Ab hq rfl
 go_upto_region 5 with fail
 have hp:=AjM V (.cells #[S a.1,S a.2,S b.1,S b.2,S p.1,S p.2] 28);have hx1:=(Aa.refl V).alloc (.cells #[S a.1,S a.2,S b.1,S b.2,S p.1,S p.2] 28);generalize V.alloc (.cells #[S a.1,S a.2,S b.1,S b.2,S p.1,S p.2] 28)=V1 at *;obtain⟨bp,Aw⟩:=AjJ V.heap.size;rw [←Aw]at hp ⊢;clear Aw;replace hq:=(hx1.block _ (AjL hq)).trans hq;replace hE:=hE.trans hx1;clear q0 q1 q2 q3 q4 q5 q6 hx1;have q0:V1.cell? ⟨bx,0,none⟩=some (.int .i64 1):=Ab hq rfl;have al:∀O,(V1.alloc O).cell? ⟨bx,0,none⟩=some (.int .i64 1):=fun O=>((Aa.refl V1).alloc O).cellS q0
 go_upto_region 7 with fail
 clear al q0;generalize hV2:V1.alloc _=V2;have hx2:Aa V1 V2:=hV2▸(Aa.refl V1).alloc _;replace hq:=(hx2.block _ (AjL hq)).trans hq;replace hp:=(hx2.block _ (AjL hp)).trans hp;replace hE:=hE.trans hx2;clear hV2 hx2;have HP:=AdQ a b p hp
 go_loopw [40] (fun i wr=>∃j:Nat,i=.int .i64 (j:Nat)/\j<=1/\(∀q∈[a,b,p].take j,Is q=true)/\Aa V2 wr) (fun i _=>1-(intOf i).toNat)
 case atStart=>exact⟨0,rfl,by omega,by simp,Aa.refl _⟩
 case round=>
  obtain⟨j,rfl,hj,Ai,Ae⟩:=hrel;have HO:=AjK Ai;clear Ai;by_cases hlt:j<1
  ·have hlt3:j < [a,b,p].length:=(by show j<3;omega);obtain⟨bb,o,e,hg1,hg2⟩:=xQ (HP.ext Ae) hlt3;simp only [AjR,Addr.mk.injEq]at e;obtain⟨rfl,rfl,-⟩:=e;rw [Nat.zero_add]at hg1 hg2;have EC:=hsp _ (AjO hlt3);obtain⟨q,YP⟩:=AjJ ([a,b,p][j]);rw [←YP]at hg1 hg2 EC;have hj0:(0:Int)<=(j:Int):=(by omega);have Ay:(j:Int)<1:=(by omega);have hnew:=fun O=>(Aa.refl wr).alloc O;have cp:=fun W (h:Aa w W)=>S2 q.1 q.2 (Is q) (vQ q) EC.1 EC.2 W (hw.ext h);have Xt:=hE.trans Ae;have HQ:=AjK YP;clear YP EC
   cases e0:Is q
   ·have HE:=AjK e0
    have hall:([a,b,p].take 1).all Is=false:=by rw [List.all_eq_false];exact⟨q,by rw [HQ.out];exact List.mem_take_iff_getElem.2 ⟨j,by show j<min 1 3;omega,rfl⟩,by rw [e0];simp⟩
    rw [e0,N2]at cp;clear e0;have hz2:z=2:=(by rw [HZ.out,if_pos hall]);clear hall;subst hz2;have c1:=cp _ (Xt.trans (hnew (.cells #[S q.1,S q.2] 28)));(go_wp2_with fail);(with_reducible refine c1.mono ?_);rintro e w2 ⟨rfl,hx2⟩;go_wp2;go_ret;exact⟨rfl,(Xt.trans (hnew _)).trans hx2⟩
   ·have HE:=AjK e0;rw [e0,Gg]at cp;clear e0;have c1:=cp _ (Xt.trans (hnew (.cells #[S q.1,S q.2] 28)));(go_wp2_with fail);(with_reducible refine c1.mono ?_);rintro e w2 ⟨rfl,hx2⟩;go_wp2;go_roundw
    case rel=>
     refine⟨j+1,by go_num,hlt,?_,(Ae.trans (hnew _)).trans hx2⟩;intro x hx;rw [AjQ hlt3,←HQ.out]at hx
     rcases List.mem_append.1 hx with h|h
     ·exact HO.out x h
     ·simp only [AjZ]at h;rw [h];exact HE.out
    case measure=>simp [intOf];omega
  ·obtain rfl:j=1:=(by omega);have hall:([a,b,p].take 1).all Is=true:=List.all_eq_true.2 HO.out;have hz1:=HZ.out;rw [hall,if_neg (by simp)]at hz1;have RV:=AjK hz1;clear hall hz1 HZ HO hlt hj;replace hq:=(Ae.block _ (AjL hq)).trans hq;have hW:=hE.trans Ae;have HD:Ad wr (some ⟨bp,2,none⟩) (flat ([a,b,p].drop 1)):=ym (HP.ext Ae) 1;clear HP hp Ae hE;have q7:wr.cell? ⟨bx,7,none⟩=some (S u):=Ab hq rfl;have hnil:¬u = []→u.isEmpty=false:=fun h=>by cases u<;>simp_all
   have ay:∀W,Aa wr W→Calls Tryz.prog 84 #[.slice (some ⟨bp,2,none⟩) 2 2,.func (.func 154) #[] #[]] W (BE (([a,b,p].drop 1).any IK) W):=fun W h=>pu Aac IK ([a,b,p].drop 1) _ 2 W (HD.ext h) (AjN _) (by decide) (fun e _ W _=>uw e W)
   have nx:=fun W=>Zr u (by omega) W;by_cases hu:u = []
   ·have hz2:=RV.out;rw [hu]at hz2 q7;rw [if_neg (by simp)]at hz2;clear RV nx hnil
    cases e2:([a,b,p].drop 1).any IK
    ·rw [e2,if_neg (by simp)]at hz2;have a1:=ay wr (Aa.refl wr);rw [e2]at a1;clear e2;subst hz2;(go_wp2_with fail);(with_reducible refine a1.mono ?_);rintro e w3 ⟨rfl,hx3⟩;go_wp2;go_ret;exact⟨rfl,hW.trans hx3⟩
    ·rw [e2,if_pos (by simp)]at hz2;have a1:=ay wr (Aa.refl wr);rw [e2]at a1;clear e2;subst hz2;(go_wp2_with fail);(with_reducible refine a1.mono ?_);rintro e w3 ⟨rfl,hx3⟩;go_wp2;go_ret;exact⟨rfl,hW.trans hx3⟩
   ·have hu2:=hnil hu
    have hb:(u == [])=false:=by cases u with|nil=>exact absurd rfl hu|cons x y=>rfl
    have hz2:=RV.out;rw [hb]at hz2;clear RV hnil
    cases e1:nameB u
    ·rw [e1,if_pos (by simp)]at hz2;have n1:=nx wr;rw [e1]at n1;clear e1;subst hz2;(go_wp2_with fail);(with_reducible refine n1.mono ?_);rintro e w3 ⟨rfl,hx3⟩;go_wp2;go_ret;exact⟨rfl,hW.trans hx3⟩
    ·rw [e1,if_neg (by simp)]at hz2;have n1:=nx wr;rw [e1]at n1;clear e1
     cases e2:([a,b,p].drop 1).any IK
     ·rw [e2,if_neg (by simp)]at hz2;rw [e2]at ay;clear e2;subst hz2;(go_wp2_with fail);(with_reducible refine n1.mono ?_);rintro e w3 ⟨rfl,hx3⟩;have a1:=ay w3 hx3;(go_wp2_with fail);(with_reducible refine a1.mono ?_);rintro e w4 ⟨rfl,Aj⟩;go_wp2;go_ret;exact⟨rfl,(hW.trans hx3).trans Aj⟩
     ·rw [e2,if_pos (by simp)]at hz2;rw [e2]at ay;clear e2;subst hz2;(go_wp2_with fail);(with_reducible refine n1.mono ?_);rintro e w3 ⟨rfl,hx3⟩;have a1:=ay w3 hx3;(go_wp2_with fail);(with_reducible refine a1.mono ?_);rintro e w4 ⟨rfl,Aj⟩;go_wp2;go_ret;exact⟨rfl,(hW.trans hx3).trans Aj⟩
structure VG(l:List Hf)(h y:Hf):Prop where
 two:Gh l h.b=2
 src:y.a=h.b
 nb:y.b≠h.a
 left:y.l=h.l
 line:Ar h.a h.b y.b=0
theorem Af3{p q:Pt}(h:Ah p q=false):p≠q:=fun e=>by rw [BN.2 e]at h;cases h
theorem Ag7{q:Rat}(h:AV q=0):q=0:=by
 unfold AV at h
 grind
theorem Aew(l:List Hf)(hl:eC l)(hlen:l.length<=100000)(i:Nat)(hi:i<l.length)(A:Option Addr)(c:Nat)(w:World)(hw:Ak w)(hr:Ad w A (AO l))(hc:l.length<=c)(hcm:c<=9223372036854775807) :
  Calls Tryz.prog 132 #[.slice A l.length c,.int .i64 (i:Nat)] w fun e w'=>∃k:Int,e=.returned (.int .i64 k)/\Aa w w'/\(k<0∨∃kk,∃h:kk<l.length,k=(kk:Int)/\VG l l[i] l[kk]):=by
 have pe:=OH;have pn:=Rr;obtain⟨h0,Qr⟩:=AjJ (l[i]);have hs0:=hl _ (AjO hi);rw [←Qr]at hs0;have HH0:=AjK Qr;have HL:=AjK hl;rw [←Qr];have Oi:(0:Int)<=(i:Int):=(by omega);have JU:(i:Int)<(l.length:Int):=by omega
 have hat:∀wr,Aa w wr→∃b o,A=some ⟨b,o,none⟩/\Md wr b (o+i*5) h0:=fun wr hx=>by obtain⟨b,o,e,h⟩:=Kn (hr.ext hx) hi;exact⟨b,o,e,by rw [Qr];exact h⟩
 clear hl Qr;obtain⟨bA,oA,rfl,-⟩:=hat w (Aa.refl w)
 have hat':∀wr,Aa w wr→Md wr bA (oA+i*5) h0:=fun wr hx=>by obtain⟨b,o,e,h⟩:=hat wr hx;simp only [AjR,Addr.mk.injEq,and_true]at e;obtain⟨rfl,rfl⟩:=e;exact h
 clear hat;go_enter Tryz.func132,Tryz.ntmps132
 go_upto_region 3 with fail
 go_loopw [5,6,7] (fun cv nv iv wr=>∃(j:Nat) (nx:Int),iv=.int .i64 (j:Nat)/\cv=.int .i64 ((Gh (l.take j) h0.b:Nat):Int)/\nv=.int .i64 nx/\j<=l.length/\Aa w wr/\(nx = -1∨∃kk:Nat,∃hk:kk<l.length,nx=(kk:Int)/\l[kk].a=h0.b/\l[kk].b≠h0.a)) (fun _ _ iv _=>l.length-(intOf iv).toNat)
 case atStart=>exact⟨0,-1,rfl,rfl,rfl,by omega,Aa.refl _,.inl rfl⟩
 case round=>
  obtain⟨j,nx,rfl,rfl,rfl,hj,Ae,Cj⟩:=hrel;have HN:=AjK Cj;have Mq:=hat' wr Ae;obtain⟨a0,a1,a2,a3,a4⟩:=Mq;have b0:∀q:Ac wr,q.w.cell? ⟨bA,oA+i*5,none⟩=some (S (R h0.a.x)):=Ac.cell a0;have b1:∀q:Ac wr,q.w.cell? ⟨bA,oA+i*5+1,none⟩=some (S (R h0.a.y)):=Ac.cell a1;have b2:∀q:Ac wr,q.w.cell? ⟨bA,oA+i*5+2,none⟩=some (S (R h0.b.x)):=Ac.cell a2;have b3:∀q:Ac wr,q.w.cell? ⟨bA,oA+i*5+3,none⟩=some (S (R h0.b.y)):=Ac.cell a3;have b4:∀q:Ac wr,q.w.cell? ⟨bA,oA+i*5+4,none⟩=some (.int .i64 h0.l):=Ac.cell a4;clear Cj;by_cases hlt:j<l.length
  ·obtain⟨Ss,UG,e,f0,f1,f2,f3,f4⟩:=Kn (hr.ext Ae) hlt;simp only [AjR,Addr.mk.injEq,and_true]at e;obtain⟨rfl,rfl⟩:=e;obtain⟨x,hx⟩:=AjJ (l[j]);rw [←hx]at f0 f1 f2 f3 f4;have j0:∀q:Ac wr,q.w.cell? ⟨bA,oA+j*5,none⟩=some (S (R x.a.x)):=Ac.cell f0;have j1:∀q:Ac wr,q.w.cell? ⟨bA,oA+j*5+1,none⟩=some (S (R x.a.y)):=Ac.cell f1;have j2:∀q:Ac wr,q.w.cell? ⟨bA,oA+j*5+2,none⟩=some (S (R x.b.x)):=Ac.cell f2;have j3:∀q:Ac wr,q.w.cell? ⟨bA,oA+j*5+3,none⟩=some (S (R x.b.y)):=Ac.cell f3;have hj0:(0:Int)<=(j:Int):=(by omega);have Ay:(j:Int)<(l.length:Int):=by omega
   have Bo:Gh (l.take (j+1)) h0.b=Gh (l.take j) h0.b+if Ah x.a h0.b=true then 1 else 0:=by unfold Gh;rw [AjQ hlt,List.countP_append,←hx,List.countP_singleton]
   have AbG:Gh (l.take j) h0.b<=l.length:=AjX List.countP_le_length (by rw [List.length_take];omega);have hcw:IntKind.wrap .i64 (((Gh (l.take j) h0.b:Nat):Int)+1)=((Gh (l.take j) h0.b:Nat):Int)+1:=AjT _ (by omega);clear f0 f1 f2 f3 f4 a0 a1 a2 a3 a4;obtain⟨cn,nU⟩:=AjJ (Gh (l.take j) h0.b);rw [←nU]at Bo hcw ⊢;have HC:=AjK Bo;have HX:=AjK hx;clear Bo nU hx AbG
   cases e0:Ah x.a h0.b
   ·go_upto_region 5 with fail
    refine Bh (by kernel_rfl) (by kernel_rfl) ?_
    repeat (go_big_quiet_step (fail))
    refine wpQuiet_nil ?_;rintro _ ⟨q,rfl⟩;go_wp2;go_roundw
    case rel=>exact⟨j+1,nx,by go_num,by rw [HC.out,e0];rfl,rfl,hlt,Ae.trans q.h,HN.out⟩
    case measure=>simp [intOf];omega
   ·have ie:=AjK (BN.1 e0)
    cases e1:Ah x.b h0.a
    ·have ig:=AjK (Af3 e1)
     go_upto_region 5 with fail
     refine Bh (by kernel_rfl) (by kernel_rfl) ?_
     repeat (go_big_quiet_step (fail))
     refine wpQuiet_nil ?_;rintro _ ⟨q,rfl⟩
     go_upto_region 7 with fail
     obtain⟨W1,hx1⟩:=q;have i0:∀q:Ac W1,q.w.cell? ⟨bA,oA+i*5,none⟩=some (S (R h0.a.x)):=fun q=>b0 ⟨q.w,hx1.trans q.h⟩;have i1:∀q:Ac W1,q.w.cell? ⟨bA,oA+i*5+1,none⟩=some (S (R h0.a.y)):=fun q=>b1 ⟨q.w,hx1.trans q.h⟩;have i2:∀q:Ac W1,q.w.cell? ⟨bA,oA+j*5+2,none⟩=some (S (R x.b.x)):=fun q=>j2 ⟨q.w,hx1.trans q.h⟩;have i3:∀q:Ac W1,q.w.cell? ⟨bA,oA+j*5+3,none⟩=some (S (R x.b.y)):=fun q=>j3 ⟨q.w,hx1.trans q.h⟩;clear b0 b1 b2 b3 b4 j0 j1 j2 j3;refine Bh (by kernel_rfl) (by kernel_rfl) ?_
     repeat (go_big_quiet_step (fail))
     refine wpQuiet_nil ?_;rintro _ ⟨q,rfl⟩;go_wp2;go_roundw
     case rel=>exact⟨j+1,(j:Int),by go_num,by rw [HC.out,e0];go_num,rfl,hlt,Ae.trans (hx1.trans q.h),.inr ⟨j,hlt,rfl,by rw [←HX.out];exact ie.out,by rw [←HX.out];exact ig.out⟩⟩
     case measure=>simp [intOf];omega
    ·go_upto_region 5 with fail
     refine Bh (by kernel_rfl) (by kernel_rfl) ?_
     repeat (go_big_quiet_step (fail))
     refine wpQuiet_nil ?_;rintro _ ⟨q,rfl⟩
     go_upto_region 7 with fail
     obtain⟨W1,hx1⟩:=q;have i0:∀q:Ac W1,q.w.cell? ⟨bA,oA+i*5,none⟩=some (S (R h0.a.x)):=fun q=>b0 ⟨q.w,hx1.trans q.h⟩;have i1:∀q:Ac W1,q.w.cell? ⟨bA,oA+i*5+1,none⟩=some (S (R h0.a.y)):=fun q=>b1 ⟨q.w,hx1.trans q.h⟩;have i2:∀q:Ac W1,q.w.cell? ⟨bA,oA+j*5+2,none⟩=some (S (R x.b.x)):=fun q=>j2 ⟨q.w,hx1.trans q.h⟩;have i3:∀q:Ac W1,q.w.cell? ⟨bA,oA+j*5+3,none⟩=some (S (R x.b.y)):=fun q=>j3 ⟨q.w,hx1.trans q.h⟩;clear b0 b1 b2 b3 b4 j0 j1 j2 j3;refine Bh (by kernel_rfl) (by kernel_rfl) ?_
     repeat (go_big_quiet_step (fail))
     refine wpQuiet_nil ?_;rintro _ ⟨q,rfl⟩;go_wp2;go_roundw
     case rel=>exact⟨j+1,nx,by go_num,by rw [HC.out,e0];go_num,rfl,hlt,Ae.trans (hx1.trans q.h),HN.out⟩
     case measure=>simp [intOf];omega
  ·have Ek:j=l.length:=(by omega);subst Ek;have hnl:(l.length:Int)<=(l.length:Int):=(by omega);obtain⟨cn,Bo⟩:=AjJ (Gh (l.take l.length) h0.b);rw [←Bo];have Vq:=AjK (show cn=Gh l h0.b by rw [Bo,List.take_length]);clear Bo;by_cases h2:cn=2
   ·subst h2
    rcases HN.out with rfl|⟨kk,C3,rfl,hka,hkb⟩
    ·go_upto_region 9 with fail
     refine Bh (by kernel_rfl) (by kernel_rfl) ?_
     repeat (go_big_quiet_step (fail))
     refine wpQuiet_nil ?_;rintro _ ⟨q,rfl⟩;go_wp2;go_ret;exact⟨-1,rfl,Ae.trans q.h,.inl (by omega)⟩
    ·obtain⟨Ss,UG,e,f0,f1,f2,f3,f4⟩:=Kn (hr.ext Ae) C3;simp only [AjR,Addr.mk.injEq,and_true]at e;obtain⟨rfl,rfl⟩:=e;have IZ:=HL.out _ (AjO C3);obtain⟨y,hy⟩:=AjJ (l[kk]);rw [←hy]at f0 f1 f2 f3 f4 IZ;have HY:=AjK hy;rw [←hy]at hka hkb;have HK:=AjK (And.intro hka hkb);clear hka hkb;have j2:∀q:Ac wr,q.w.cell? ⟨bA,oA+kk*5+2,none⟩=some (S (R y.b.x)):=Ac.cell f2;have j3:∀q:Ac wr,q.w.cell? ⟨bA,oA+kk*5+3,none⟩=some (S (R y.b.y)):=Ac.cell f3;have j4:∀q:Ac wr,q.w.cell? ⟨bA,oA+kk*5+4,none⟩=some (.int .i64 y.l):=Ac.cell f4;have hk0:(0:Int)<=(kk:Int):=(by omega);have El:(kk:Int)<(l.length:Int):=(by omega);have Yt:decide ((kk:Int)<0)=false:=decide_eq_false (by omega);clear hy f0 f1 f2 f3 f4 a0 a1 a2 a3 a4;by_cases QM:y.l=h0.l
     ·have lm:=AjK QM;have hyn:(y.l != h0.l)=false:=by rw [QM];simp
      go_upto_region 9 with fail
      refine Bh (by kernel_rfl) (by kernel_rfl) ?_
      repeat (go_big_quiet_step (fail))
      refine wpQuiet_nil ?_;rintro W1 ⟨q,hq⟩;have hx1:Aa wr W1:=hq▸q.h;clear hq q;have i0:∀q:Ac W1,q.w.cell? ⟨bA,oA+i*5,none⟩=some (S (R h0.a.x)):=fun q=>b0 ⟨q.w,hx1.trans q.h⟩;have i1:∀q:Ac W1,q.w.cell? ⟨bA,oA+i*5+1,none⟩=some (S (R h0.a.y)):=fun q=>b1 ⟨q.w,hx1.trans q.h⟩;have i2:∀q:Ac W1,q.w.cell? ⟨bA,oA+i*5+2,none⟩=some (S (R h0.b.x)):=fun q=>b2 ⟨q.w,hx1.trans q.h⟩;have i3:∀q:Ac W1,q.w.cell? ⟨bA,oA+i*5+3,none⟩=some (S (R h0.b.y)):=fun q=>b3 ⟨q.w,hx1.trans q.h⟩;have k2:∀q:Ac W1,q.w.cell? ⟨bA,oA+kk*5+2,none⟩=some (S (R y.b.x)):=fun q=>j2 ⟨q.w,hx1.trans q.h⟩;have k3:∀q:Ac W1,q.w.cell? ⟨bA,oA+kk*5+3,none⟩=some (S (R y.b.y)):=fun q=>j3 ⟨q.w,hx1.trans q.h⟩;have hw1:=hw.ext (Ae.trans hx1);have tc:=fun (q:Ac W1)=>Ah8 h0.a h0.b y.b hs0.1.sz2 hs0.2.sz2 IZ.2.sz2 q.w (hw1.ext q.h);obtain⟨sg,FR⟩:=AjJ (AV (Ar h0.a h0.b y.b));have dU:=AjK FR;rw [←FR]at tc;unfold Ag xY at tc;clear b0 b1 b2 b3 b4 j2 j3 j4 FR
      go_upto_region 11 with fail
      refine Bh (by kernel_rfl) (by kernel_rfl) ?_
      repeat (go_big_quiet_step (with_reducible refine Aak (tc _)))
      refine wpQuiet_nil ?_;rintro W2 ⟨q,hq⟩;have hx2:Aa W1 W2:=hq▸q.h;clear hq q;have n0:∀q:Ac W2,q.w.cell? ⟨bA,oA+i*5,none⟩=some (S (R h0.a.x)):=fun q=>i0 ⟨q.w,hx2.trans q.h⟩;have n1:∀q:Ac W2,q.w.cell? ⟨bA,oA+i*5+1,none⟩=some (S (R h0.a.y)):=fun q=>i1 ⟨q.w,hx2.trans q.h⟩;have n2:∀q:Ac W2,q.w.cell? ⟨bA,oA+kk*5+2,none⟩=some (S (R y.b.x)):=fun q=>k2 ⟨q.w,hx2.trans q.h⟩;have n3:∀q:Ac W2,q.w.cell? ⟨bA,oA+kk*5+3,none⟩=some (S (R y.b.y)):=fun q=>k3 ⟨q.w,hx2.trans q.h⟩;clear i0 i1 i2 i3 k2 k3 tc;have Bu:=Ae.trans (hx1.trans hx2);by_cases hs:sg=0
      ·have fy:=AjK (Ag7 (by rw [←dU.out];exact hs));clear dU;subst hs
       cases e1:Ah h0.a y.b
       ·go_upto_region 12 with fail
        refine Bh (by kernel_rfl) (by kernel_rfl) ?_
        repeat (go_big_quiet_step (fail))
        refine wpQuiet_nil ?_;rintro _ ⟨q,rfl⟩;go_wp2;go_ret;exact⟨(kk:Int),rfl,Bu.trans q.h,.inr ⟨kk,C3,rfl,by rw [←HY.out];exact⟨Vq.out.symm,HK.out.1,HK.out.2,lm.out,fy.out⟩⟩⟩
       ·go_upto_region 12 with fail
        refine Bh (by kernel_rfl) (by kernel_rfl) ?_
        repeat (go_big_quiet_step (fail))
        refine wpQuiet_nil ?_;rintro _ ⟨q,rfl⟩;go_wp2;go_ret;exact⟨-1,rfl,Bu.trans q.h,.inl (by omega)⟩
      ·have DU:(sg != 0)=true:=by rw [bne,beq_false_of_ne hs];rfl
       go_upto_region 12 with fail
       refine Bh (by kernel_rfl) (by kernel_rfl) ?_
       repeat (go_big_quiet_step (fail))
       refine wpQuiet_nil ?_;rintro _ ⟨q,rfl⟩;go_wp2;go_ret;exact⟨-1,rfl,Bu.trans q.h,.inl (by omega)⟩
     ·have hyn:(y.l != h0.l)=true:=by rw [bne,beq_false_of_ne QM];rfl
      go_upto_region 9 with fail
      refine Bh (by kernel_rfl) (by kernel_rfl) ?_
      repeat (go_big_quiet_step (fail))
      refine wpQuiet_nil ?_;rintro _ ⟨q,rfl⟩;go_wp2;go_ret;exact⟨-1,rfl,Ae.trans q.h,.inl (by omega)⟩
   ·have kB:¬((cn:Int)=2):=(by omega);have h2n:((cn:Int) != 2)=true:=(by rw [bne,beq_false_of_ne kB];rfl);clear a0 a1 a2 a3 a4
    go_upto_region 9 with fail
    refine Bh (by kernel_rfl) (by kernel_rfl) ?_
    repeat (go_big_quiet_step (fail))
    refine wpQuiet_nil ?_;rintro _ ⟨q,rfl⟩;go_wp2;go_ret;exact⟨-1,rfl,Ae.trans q.h,.inl (by omega)⟩
section
open Go.ChangeMaps (setBlock)
def J6(l:List (Int×Int)):List MapEntry:=l.mapIdx fun i e=>⟨.int .i64 e.1,.int .i64 e.2,i⟩
theorem Aaf(l:List (Int×Int))(e:Int×Int):J6 (l ++ [e])=J6 l ++ [⟨.int .i64 e.1,.int .i64 e.2,l.length⟩]:=by simp [J6,List.mapIdx_append]
def C7(k:Int)(l:List (Int×Int)):Option Int:=(l.find? (fun e=>k == e.1)).map (·.2)
theorem jP(k:Int):∀(l:List (Int×Int)) (i j:Nat),∃x,Instr.findNow (.int .i64) (.int .i64 k) (l.mapIdx fun i e=>⟨.int .i64 e.1,.int .i64 e.2,i+j⟩) i=some x/\x.map (·.2)=(C7 k l).map (fun z=>Value.int .i64 z)
 | [],i,j=>⟨none,by simp [Instr.findNow],by simp [C7]⟩
 | e::l,i,j=>by
  rw [List.mapIdx_cons];by_cases h:k=e.1
  ·refine⟨some (i,.int .i64 e.2),?_,?_⟩
   ·simp [Instr.findNow,Instr.sameNow,h]
   ·simp [C7,h]
  ·obtain⟨x,h1,h2⟩:=jP k l (i+1) (j+1);have hh:(k == e.1)=false:=(by simpa using h);refine⟨x,?_,?_⟩
   ·simp only [Instr.findNow,Instr.sameNow,if_pos,hh]
    simpa only [Nat.add_assoc,Nat.add_comm 1 j]using h1
   ·rw [h2];simp [C7,hh]
theorem WG(k:Int)(l:List (Int×Int))(W:World):∃x,(Instr.findKey 3 (.int .i64 k) (J6 l)).run Tryz.prog W=.ok x W/\x.map (·.2)=(C7 k l).map (fun z=>Value.int .i64 z):=by
 obtain⟨x,h1,h2⟩:=jP k l 0 0;exact⟨x,MapKept.run_findKey Tryz.underlying3 h1,h2⟩
theorem aJ(k:Int)(l:List (Int×Int)){b clock:Nat}{W:World}(hb:W.heap[b]?=some (.map (J6 l).toArray clock)) :
  (Instr.lookup 206 (.map (some b)) (.int .i64 k) true).run Tryz.prog W=.ok (.tuple #[.int .i64 ((C7 k l).getD 0),.bool (C7 k l).isSome]) W:=by
 obtain⟨x,h1,h2⟩:=WG k l W;have hz:(zeroValue 3).run Tryz.prog W=.ok (.int .i64 0) W:=(by simp [go_sem]);have hc:∀b,(Instr.checkKey b 10000 3 (.int .i64 k)).run Tryz.prog W=.ok () W:=fun b=>MapKept.run_checkKey (k:=.int .i64 k) Tryz.underlying3 (by simp [MapKept.IsKey]) b 9999;have hm:=run_underlying (w:=W) Tryz.underlying206
 cases h:C7 k l with
 | none=>
  rw [h]at h2;have hx:x=none:=(by simpa using h2);subst hx;simp [Instr.lookup,hm,MapKept.run_getObj_map hb,hc,h1,hz,Result.andThen]
 | some z=>rw [h]at h2;obtain⟨⟨i,v⟩,rfl,hv⟩:=Option.map_eq_some_iff.1 h2;simp only at hv;subst hv;simp [Instr.lookup,hm,MapKept.run_getObj_map hb,hc,h1,Result.andThen]
theorem Agv(k z:Int)(l:List (Int×Int))(hno:C7 k l=none){b:Nat}{W:World}(hb:W.heap[b]?=some (.map (J6 l).toArray l.length)) :
  (Instr.mapUpdate 206 (.map (some b)) (.int .i64 k) (.int .i64 z)).run Tryz.prog W=.ok () (setBlock W b (.map (J6 (l ++ [(k,z)])).toArray (l.length+1))):=by
 obtain⟨x,h1,h2⟩:=WG k l W;have hc:∀b,(Instr.checkKey b 10000 3 (.int .i64 k)).run Tryz.prog W=.ok () W:=fun b=>MapKept.run_checkKey (k:=.int .i64 k) Tryz.underlying3 (by simp [MapKept.IsKey]) b 9999;have hm:=run_underlying (w:=W) Tryz.underlying206;rw [hno]at h2;have hx:x=none:=(by simpa using h2);subst hx;rw [Aaf];simp [Instr.mapUpdate,hm,MapKept.run_getObj_map hb,hc,h1,MapKept.run_setObj_map _ hb,Result.andThen,setBlock]
def EW(W:World)(b:Nat)(l:List (Int×Int)):Prop:=W.heap[b]?=some (.map (J6 l).toArray l.length)
theorem EW.put{W:World}{b:Nat}{l:List (Int×Int)}(h:EW W b l)(k z:Int)(hno:C7 k l=none) :
  ∃W',(Instr.mapUpdate 206 (.map (some b)) (.int .i64 k) (.int .i64 z)).run Tryz.prog W=.ok () W'/\EW W' b (l ++ [(k,z)])/\W.grownBy W' (some b)/\W'.heap.size=W.heap.size:=by
 refine⟨_,Agv k z l hno h,?_,J9 h,by simp [setBlock]⟩;unfold EW;rw [Kr h];simp
/-! ### Bools in a row -/
def Ge(l:List Bool):List Value:=l.map Value.bool
theorem fM(l:List Bool):(Ge l).length=l.length:=by simp [Ge]
theorem AfU{w:World}{A:Option Addr}{l:List Bool}(hr:Ad w A (Ge l)){j:Nat}(h:j<l.length):∃b o,A=some ⟨b,o,none⟩/\w.cell? ⟨b,o+j,none⟩=some (.bool l[j]):=by
 obtain⟨b,o,e,hc⟩:=hr.ad (by rw [fM];omega);refine⟨b,o,e,?_⟩;rw [hc j (by rw [fM];exact h)];simp [Ge]
def Kg(l:List Bool)(x:Bool):Int:=match l.findIdx? (x == ·)with|some j=>(j:Int)|none=>-1
theorem Adf{l:List Bool}{x:Bool}{j:Nat}(h:j<l.length)(hno:∀q∈l.take j,(x == q)=false)(he:(x == l[j])=true):Kg l x=(j:Int):=by
 unfold Kg
 have:l.findIdx? (x == ·)=some j:=by rw [List.findIdx?_eq_some_iff_getElem];exact⟨h,he,fun i hi=>by rw [hno l[i] (by rw [List.mem_take_iff_getElem];exact⟨i,by omega,rfl⟩)];simp⟩
 rw [this]
theorem tI{l:List Bool}{x:Bool}(hno:∀q∈l,(x == q)=false):Kg l x = -1:=by
 unfold Kg;rw [List.findIdx?_eq_none_iff.2 hno]
theorem Ade(l:List Bool)(x:Bool):decide (0<=Kg l x)=l.contains x:=by
 by_cases h:∃q∈l,(x == q)=true
 ·obtain⟨q,hq,he⟩:=h;have e:x=q:=(by simpa using he);subst e;have h2:l.contains x=true:=(by simpa using hq);rw [h2];unfold Kg
  cases hf:l.findIdx? (x == ·)with
  | none=>
   rw [List.findIdx?_eq_none_iff]at hf;have:=hf x hq;simp at this
  | some j=>simp
 ·have hn:∀q∈l,(x == q)=false:=fun q hq=>by rw [Bool.eq_false_iff];exact fun he=>h ⟨q,hq,he⟩
  rw [tI hn];have:x∉l:=fun hx=>(by have:=hn x hx;simp at this);simp [this]
theorem Adt(l:List Bool)(x:Bool)(A:Option Addr)(c:Nat)(w:World)(hr:Ad w A (Ge l))(hc:l.length<=c)(hcm:c<=9223372036854775807) :
  Calls Tryz.prog 214 #[.slice A l.length c,.bool x] w (AB (Kg l x) w):=by
 obtain⟨r,hr0⟩:=AjJ (Kg l x);rw [←hr0];have HR:=AjK hr0;clear hr0;go_enter Tryz.func214,Tryz.ntmps214
 go_upto_region 2 with fail
 go_loopw [8] (fun i wr=>∃j:Nat,i=.int .i64 (j:Nat)/\j<=l.length/\(∀q∈l.take j,(x == q)=false)/\Aa w wr) (fun i _=>l.length-(intOf i).toNat)
 case atStart=>exact⟨0,rfl,by omega,by simp,Aa.refl _⟩
 case round=>
  obtain⟨j,rfl,hj,Ai,Ae⟩:=hrel;have HO:=AjK Ai;clear Ai;by_cases hlt:j<l.length
  ·obtain⟨b,o,rfl,hg⟩:=AfU (hr.ext Ae) hlt;obtain⟨q,hq⟩:=AjJ (l[j]);rw [←hq]at hg;have hj0:(0:Int)<=(j:Int):=(by omega);have Ay:(j:Int)<(l.length:Int):=(by omega);have HQ:=AjK hq;clear hq
   cases x<;>cases q
   case false.true|true.false=>
    have HE:=AjK (show ∀y∈l.take (j+1),_ from by
     intro y hy;rw [AjQ hlt,←HQ.out]at hy
     rcases List.mem_append.1 hy with h|h
     ·exact HO.out y h
     ·simp only [AjZ]at h;rw [h];rfl)
    go_wp2;go_roundw
    case rel=>exact⟨j+1,by go_num,hlt,HE.out,Ae⟩
    case measure=>simp [intOf];omega
   case false.false|true.true=>have Cu:r=(j:Int):=(by rw [HR.out];exact Adf hlt HO.out (by rw [←HQ.out];rfl));subst Cu;go_wp2;go_ret;exact⟨rfl,Ae⟩
  ·have hle:(l.length:Int)<=(j:Int):=(by omega);have Cu:r = -1:=(by rw [HR.out];exact tI (by have:=HO.out;rw [AjV (by omega)]at this;exact this));subst Cu;go_wp2;go_ret;exact⟨rfl,Ae⟩
theorem ww(l:List Bool)(x:Bool)(A:Option Addr)(c:Nat)(w:World)(hr:Ad w A (Ge l))(hc:l.length<=c)(hcm:c<=9223372036854775807) :
  Calls Tryz.prog 153 #[.slice A l.length c,.bool x] w (BE (l.contains x) w):=by
 have ix:=Adt l x A c w hr hc hcm;have ha:=Ade l x;obtain⟨r,hr0⟩:=AjJ (l.contains x);rw [←hr0]at ha ⊢;obtain⟨n,hn⟩:=AjJ (Kg l x);rw [←hn]at ix ha;have HA:=AjK ha;clear hr0 hn ha;go_enter Tryz.func153,Tryz.ntmps153;(go_wp2_with fail);(with_reducible refine ix.mono ?_);rintro e w2 ⟨rfl,hx2⟩;go_wp2;go_ret;exact⟨by rw [←HA.out];rfl,hx2⟩
end
theorem Adv{B:Nat}{w:World}{r b1 b2:Nat}{L:List (Sg×Int)}{E:List (Pt×Value×Nat)}{R0:List (Pt×List Pt)}(h:Bn B w r b1 b2 L E R0)(bn:Nat)(BP:w.cell? ⟨bn,0,none⟩=some (.pointer (some ⟨r,0,none⟩)))(l:List Pt)(A:Option Addr)(c:Nat)(hr:Ad w A (flat (Aq l)))(hc:l.length<=c)(hcm:c<=9223372036854775807) :
  Calls Tryz.prog 149 #[.slice A l.length c,.func (.func 85) #[] #[.pointer (some ⟨bn,0,none⟩)]] w fun e w'=>∃n:Int,e=.returned (.int .i64 n)/\(0<=n↔∃p∈l,decide (IG R0 p<2)=true)/\Aa w w':=by
 have fw:=fun (w1:World) (hx:Aa w w1) (p:Pt)=>Aaw (h.ext hx) bn (hx.cellS BP) p;clear h BP;go_enter Tryz.func149,Tryz.ntmps149;go_wp2
 go_loopw [8] (fun i wr=>∃j:Nat,i=.int .i64 (j:Nat)/\j<=l.length/\(∀p∈l.take j,decide (IG R0 p<2)=false)/\Aa w wr) (fun i _=>l.length-(intOf i).toNat)
 case atStart=>exact⟨0,rfl,by omega,by simp,Aa.refl _⟩
 case round=>
  obtain⟨j,rfl,hj,Ai,Ae⟩:=hrel;have HO:=AjK Ai;clear Ai;by_cases hlt:j<l.length
  ·obtain⟨b,o,rfl,hg1,hg2⟩:=CX (hr.ext Ae) hlt;obtain⟨p,hp⟩:=AjJ (l[j]);rw [←hp]at hg1 hg2;have hmem:p∈l:=(by rw [hp];exact AjO hlt);have HX:=AjK hp;clear hp;have hj0:(0:Int)<=(j:Int):=(by omega);have Ay:(j:Int)<(l.length:Int):=(by omega);have bf:=fw wr Ae p;unfold Ag at bf
   cases hL:decide (IG R0 p<2)
   ·rw [hL]at bf;have I3:=AjK hL;clear hL fw;(go_wp2_with fail);(with_reducible refine bf.mono ?_);rintro e w2 ⟨rfl,hx2⟩;go_wp2;go_roundw
    case rel=>
     refine⟨j+1,by go_num,hlt,?_,Ae.trans hx2⟩;intro q hq;rw [AjQ hlt,←HX.out]at hq
     rcases List.mem_append.1 hq with h|h
     ·exact HO.out q h
     ·simp only [AjZ]at h;rw [h];exact I3.out
    case measure=>simp [intOf];omega
   ·rw [hL]at bf;have I3:=AjK hL;clear hL fw;(go_wp2_with fail);(with_reducible refine bf.mono ?_);rintro e w2 ⟨rfl,hx2⟩;go_wp2;go_ret;exact⟨j,rfl,⟨fun _=>⟨_,hmem,I3.out⟩,fun _=>by omega⟩,Ae.trans hx2⟩
  ·have hle:(l.length:Int)<=(j:Int):=(by omega);clear fw;go_wp2;go_ret;refine⟨-1,rfl,⟨fun h=>by omega,?_⟩,Ae⟩;rintro⟨p,hp,h⟩;have:=HO.out p (by rw [AjV (by omega)];exact hp);rw [this]at h;cases h
def PK(R0:List (Pt×List Pt))(l:List Pt):Bool:=l.any (fun p=>decide (IG R0 p<2))
theorem pq{B:Nat}{w:World}{r b1 b2:Nat}{L:List (Sg×Int)}{E:List (Pt×Value×Nat)}{R0:List (Pt×List Pt)}(h:Bn B w r b1 b2 L E R0)(bn:Nat)(BP:w.cell? ⟨bn,0,none⟩=some (.pointer (some ⟨r,0,none⟩)))(l:List Pt)(A:Option Addr)(c:Nat)(hr:Ad w A (flat (Aq l)))(hc:l.length<=c)(hcm:c<=9223372036854775807) :
  Calls Tryz.prog 84 #[.slice A l.length c,.func (.func 85) #[] #[.pointer (some ⟨bn,0,none⟩)]] w (BE (PK R0 l) w):=by
 have ix:=Adv h bn BP l A c hr hc hcm;clear h BP hr;go_enter Tryz.func84,Tryz.ntmps84;(go_wp2_with fail);(with_reducible refine ix.mono ?_);rintro e w2 ⟨n,rfl,hn,hx2⟩
 have hd:PK R0 l=decide (0<=n):=by
  unfold PK;by_cases h0:0<=n
  ·rw [decide_eq_true h0,List.any_eq_true];exact hn.1 h0
  ·rw [decide_eq_false h0,List.any_eq_false];intro x hx hh;exact h0 (hn.2 ⟨x,hx,hh⟩)
 have HD:=AjK hd;clear hd hn;go_wp2;go_ret;exact⟨by rw [HD.out];rfl,hx2⟩
end Go.Proofs.YtnfedbopbcegjaaGreatDoor
