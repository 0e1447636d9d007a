/- I21: ShQ8 ShQ9 ShQD ShQDP. -/
import Derived.Test.YtnddllipjippnaaGreatDoorI20
set_option maxRecDepth 100000
set_option maxHeartbeats 16000000
namespace Go.Proofs.YtnddllipjippnaaGreatDoor
open Go.RowKit Kl
theorem AC(w:World)(o1 o2 o3:Obj):(((w.alloc o1).alloc o2).alloc o3).drew.heap[w.heap.size]?=some o1/\(((w.alloc o1).alloc o2).alloc o3).drew.heap[w.heap.size+1]?=some o2/\(((w.alloc o1).alloc o2).alloc o3).drew.heap[w.heap.size+1+1]?=some o3/\Ab w (((w.alloc o1).alloc o2).alloc o3).drew:=by
 obtain⟨W,rfl,hE,h1,h2,h3⟩:=J9 w o1 o2 o3;exact⟨h1,h2,h3,hE.drew⟩
theorem Yn(h:Hf):(Bn [h]).toArray=#[.string ⟨(R h.a.x).toArray⟩,.string ⟨(R h.a.y).toArray⟩,.string ⟨(R h.b.x).toArray⟩,.string ⟨(R h.b.y).toArray⟩,.int .i64 h.l]:=rfl
theorem AiR(h k:Hf):(Bn [h,k]).toArray=#[.string ⟨(R h.a.x).toArray⟩,.string ⟨(R h.a.y).toArray⟩,.string ⟨(R h.b.x).toArray⟩,.string ⟨(R h.b.y).toArray⟩,.int .i64 h.l,.string ⟨(R k.a.x).toArray⟩,.string ⟨(R k.a.y).toArray⟩,.string ⟨(R k.b.x).toArray⟩,.string ⟨(R k.b.y).toArray⟩,.int .i64 k.l]:=rfl
def C2(b:Pt)(h:Hf):Bool:=!Aq h.a b && !Aq h.b b
def Jt(l:List Hf)(x y:Hf):List Hf:=l.filter (C2 x.b) ++ [⟨x.a,y.b,x.l⟩,⟨y.b,x.a,C4 l x⟩]
theorem AkU(l:List Hf)(hlen:l.length<=100000)(i k:Nat)(hi:i<l.length)(hk:k<l.length)(A:Option Addr)(c:Nat)(w:World)(hr:Ad w A (Bn l))(hc:l.length<=c)(hcm:c<=9223372036854775807) :
  Calls Tryz.prog 144 #[.slice A l.length c,.int .i64 (i:Nat),.int .i64 (k:Nat)] w fun e w'=>∃v,e=.returned v/\w'.ownsRow w.heap.size 156 5 v (Jt l l[i] l[k]).length (Bn (Jt l l[i] l[k]))/\Ab w w':=by
 have pe:=PY;have pn:=Sq;obtain⟨x,hx⟩:=Asw (l[i]);obtain⟨y,hy⟩:=Asw (l[k]);rw [←hx,←hy];have EW:(0:Int)<=(i:Int):=(by omega);have Ji:(i:Int)<(l.length:Int):=(by omega);have hk0:(0:Int)<=(k:Int):=(by omega);have D3:(k:Int)<(l.length:Int):=by omega
 have mS:∀wr,Ab w wr→∃b o,A=some ⟨b,o,none⟩/\OH wr b (o+i*5) x:=fun wr hE=>by obtain⟨b,o,e,h⟩:=ME (hr.ext hE) hi;exact⟨b,o,e,by rw [hx];exact h⟩
 have wq:∀wr,Ab w wr→∃b o,A=some ⟨b,o,none⟩/\OH wr b (o+k*5) y:=fun wr hE=>by obtain⟨b,o,e,h⟩:=ME (hr.ext hE) hk;exact⟨b,o,e,by rw [hy];exact h⟩
 obtain⟨bA,oA,rfl,-⟩:=mS w (Ab.refl w)
 have hx':∀wr,Ab w wr→OH wr bA (oA+i*5) x:=fun wr hx=>by obtain⟨b,o,e,h⟩:=mS wr hx;simp only [As4,Addr.mk.injEq,and_true]at e;obtain⟨rfl,rfl⟩:=e;exact h
 have hy':∀wr,Ab w wr→OH wr bA (oA+k*5) y:=fun wr hx=>by obtain⟨b,o,e,h⟩:=wq wr hx;simp only [As4,Addr.mk.injEq,and_true]at e;obtain⟨rfl,rfl⟩:=e;exact h
 have bc:=fun (w1:World) (h1:Ab w w1)=>Xe l x (some ⟨bA,oA,none⟩) c w1 (hr.ext h1) hc hcm;obtain⟨ot,lO⟩:=Asw (C4 l x);rw [←lO]at bc;have hJ:Jt l x y=l.filter (C2 x.b) ++ [⟨x.a,y.b,x.l⟩,⟨y.b,x.a,ot⟩]:=(by rw [lO];rfl);rw [hJ];have hbA:bA<w.heap.size:=World.block_lt_of_cell? w _ (hx' w (Ab.refl w)).c0;have hl0:(0:Int)<=(l.length:Int):=(by omega);clear hx hy mS wq lO hJ;have H0:=hx' w (Ab.refl w);have H1:=hy' w (Ab.refl w);obtain⟨a0,a1,a2,a3,a4⟩:=H0;obtain⟨b0,b1,b2,b3,b4⟩:=H1;have X:Ab w w:=Ab.refl w
 have SO:∀w',Ab w w'→(w'.cell? ⟨bA,oA+i*5,none⟩=some (S (R x.a.x))/\w'.cell? ⟨bA,oA+i*5+1,none⟩=some (S (R x.a.y))/\w'.cell? ⟨bA,oA+i*5+2,none⟩=some (S (R x.b.x))/\w'.cell? ⟨bA,oA+i*5+3,none⟩=some (S (R x.b.y))/\w'.cell? ⟨bA,oA+k*5+2,none⟩=some (S (R y.b.x))/\w'.cell? ⟨bA,oA+k*5+3,none⟩=some (S (R y.b.y))):=fun w' h=>⟨h.cellS a0,h.cellS a1,h.cellS a2,h.cellS a3,h.cellS b2,h.cellS b3⟩
 go_enter Tryz.func144,Tryz.ntmps144
 go_upto_region 2 with fail
 go_cut [8,9,10] (fun v8 v9 v10 wx=>∃p q r,v8=.pointer (some ⟨p,0,none⟩)/\v9=.pointer (some ⟨q,0,none⟩)/\v10=.pointer (some ⟨r,0,none⟩)/\wx.heap[p]?=some (.cells #[S (R x.a.x),S (R x.a.y)] 24)/\wx.heap[q]?=some (.cells #[S (R x.b.x),S (R x.b.y)] 24)/\wx.heap[r]?=some (.cells #[S (R y.b.x),S (R y.b.y)] 24)/\w.heap.size<=p/\w.heap.size<=q/\w.heap.size<=r/\Ab w wx)
 case first=>
  go_region_held3 (fun w'=>w'.cell? ⟨bA,oA+i*5,none⟩=some (S (R x.a.x))/\w'.cell? ⟨bA,oA+i*5+1,none⟩=some (S (R x.a.y))/\w'.cell? ⟨bA,oA+i*5+2,none⟩=some (S (R x.b.x))/\w'.cell? ⟨bA,oA+i*5+3,none⟩=some (S (R x.b.y))/\w'.cell? ⟨bA,oA+k*5+2,none⟩=some (S (R y.b.x))/\w'.cell? ⟨bA,oA+k*5+3,none⟩=some (S (R y.b.y)))
   ((refine SO _ ?_;repeat (first|exact X|(with_reducible refine Ab.drew ?_)|(with_reducible refine Ab.alloc ?_ _)|(with_reducible refine Ab.setCell ?_ (by simp) _))))
   (fail)
  all_goals go_wp2
  all_goals go_meet
  all_goals (
   refine⟨_,_,_,rfl,rfl,rfl,?_,?_,?_,by omega,by omega,by omega,?_⟩
   all_goals try unfold S
   all_goals first
    | with_reducible exact(AC _ _ _ _).1
    | with_reducible exact(AC _ _ _ _).2.1
    | with_reducible exact(AC _ _ _ _).2.2.1
    | with_reducible exact(AC _ _ _ _).2.2.2)
 case rest=>
  obtain⟨p,q,r,rfl,rfl,rfl,hp,hq,H9,lp,lq,lr,hX⟩:=hcut;obtain⟨wx,rfl⟩:=Li hX;have c0:=hX.cellS a0;have c1:=hX.cellS a1;have c2:=hX.cellS a2;have c3:=hX.cellS a3;have c4:=hX.cellS a4;have bx:=bc wx hX;unfold GL at bx;clear SO X a0 a1 a2 a3 b0 b1 b2 b3 b4 bc;(go_wp2_with fail);(with_reducible refine bx.mono ?_);rintro e w1 ⟨rfl,hx1⟩;have Dz:=hX.trans hx1;have GO:=(hx1.block _ (Asy hp)).trans hp;have Bl:=(hx1.block _ (Asy hq)).trans hq;have hr1:=(hx1.block _ (Asy H9)).trans H9;clear hp hq H9 c0 c1 c2 c3 c4 bx
  go_upto_region 5 with fail
  go_loopw [7,37] (fun ov iv wr=>∃j:Nat,iv=.int .i64 (j:Nat)/\j<=l.length/\wr.ownsRow w1.heap.size 156 5 ov ((l.take j).filter (C2 x.b)).length (Bn ((l.take j).filter (C2 x.b)))/\Ab w1 wr) (fun _ iv _=>l.length-(intOf iv).toNat)
  case atStart=>exact⟨0,rfl,by omega,⟨rfl,.inl ⟨rfl,rfl⟩⟩,Ab.refl _⟩
  case round=>
   obtain⟨j,rfl,hj,hown,Ae⟩:=hrel;by_cases hlt:j<l.length
   ·obtain⟨Xb,Zt,e,f0,f1,f2,f3,f4⟩:=ME (hr.ext (Dz.trans Ae)) hlt;simp only [As4,Addr.mk.injEq,and_true]at e;obtain⟨rfl,rfl⟩:=e;obtain⟨h,hh⟩:=Asw (l[j]);rw [←hh]at f0 f1 f2 f3 f4
    have EY:(l.take (j+1)).filter (C2 x.b)=(l.take j).filter (C2 x.b)++(if C2 x.b h=true then [h] else []):=by rw [As3 hlt,List.filter_append,←hh];simp [List.filter_cons]
    have P0:((l.take j).filter (C2 x.b)).length<200000:=by have:=List.length_filter_le (C2 x.b) (l.take j);rw [List.length_take]at this;omega
    have hj0:(0:Int)<=(j:Int):=(by omega);have Ay:(j:Int)<(l.length:Int):=(by omega);have HT:=Asx EY;generalize (l.take j).filter (C2 x.b)=lj at *;clear hh EY;have Ax:=Asz wr (.cells #[S (R h.a.x),S (R h.a.y),S (R h.b.x),S (R h.b.y),.int .i64 h.l] 156);have E4:=(Ab.refl wr).alloc (.cells #[S (R h.a.x),S (R h.a.y),S (R h.b.x),S (R h.b.y),.int .i64 h.l] 156);have Oc:=((Ae.trans E4).block _ (Asy Bl)).trans Bl;have Le:=An hown E4;have CJ:=Ae.trans E4
    go_upto_region 7 with fail
    unfold S at Ax E4 Oc Le CJ;generalize (wr.alloc (.cells #[.string ⟨(R h.a.x).toArray⟩,.string ⟨(R h.a.y).toArray⟩,.string ⟨(R h.b.x).toArray⟩,.string ⟨(R h.b.y).toArray⟩,.int .i64 h.l] 156))=W4 at *;obtain⟨bh,Do⟩:=Asw wr.heap.size;rw [←Do]at Ax ⊢;clear Do f0 f1 f2 f3 f4 E4;have z0:=Aa (o:=0) Ax rfl;have z1:=Aa (o:=1) Ax rfl;have z2:=Aa (o:=2) Ax rfl;have z3:=Aa (o:=3) Ax rfl;have z4:=Aa (o:=4) Ax rfl;have y0:=Aa (o:=0) Oc rfl;have y1:=Aa (o:=1) Oc rfl
    cases e1:Aq h.a x.b
    ·cases e2:Aq h.b x.b
     ·have hk:C2 x.b h=true:=(by unfold C2;rw [e1,e2];rfl);have HK:=Asx (show (l.take (j+1)).filter (C2 x.b)=lj ++ [h] by rw [HT.out,if_pos hk]);have hbase:w1.heap.size<=W4.heap.size:=CJ.size;obtain⟨Zu,oc,rfl,-,-,-⟩:=Ad.of_own' (by omega) Le
      go_wp2_with (at_builtin;go_loud (refine dD rfl _ _ rfl _ w1.heap.size (.slice Zu lj.length oc) lj.length lj [h] rfl (An Le ((Ab.refl W4).alloc _)) P0 (by simp) W4.heap.size 1 rfl (by rw [Yn];exact Asz W4 _) rfl (by simp;omega) ?_);intro v7 w7 CU GK DJ)
      have Cl:=GK w1 (CJ.trans ((Ab.refl W4).alloc _)) (As0 _);clear DJ GK z0 z1 z2 z3 z4 y0 y1;go_wp2;go_roundw
      case rel=>exact⟨j+1,by go_num,hlt,by rw [HK.out,List.length_append];exact CU,Cl⟩
      case measure=>simp [intOf];omega
     ·have hk:C2 x.b h=false:=(by unfold C2;rw [e1,e2];rfl);have HK:=Asx (show (l.take (j+1)).filter (C2 x.b)=lj by rw [HT.out,hk];simp);go_wp2;go_roundw
      case rel=>exact⟨j+1,by go_num,hlt,by rw [HK.out];exact Le,CJ⟩
      case measure=>simp [intOf];omega
    ·have hk:C2 x.b h=false:=(by unfold C2;rw [e1];rfl);have HK:=Asx (show (l.take (j+1)).filter (C2 x.b)=lj by rw [HT.out,hk];simp);go_wp2;go_roundw
     case rel=>exact⟨j+1,by go_num,hlt,by rw [HK.out];exact Le,CJ⟩
     case measure=>simp [intOf];omega
   ·have D2:j=l.length:=(by omega);subst D2;rw [List.take_length]at hown
    have P0:(l.filter (C2 x.b)).length<200000:=by have:=List.length_filter_le (C2 x.b) l;omega
    obtain⟨lj,Py⟩:=Asw (l.filter (C2 x.b));rw [←Py]at hown P0;have HLJ:=Asx Py;clear Py;have Kb:=(Ae.block _ (Asy GO)).trans GO;have hr2:=(Ae.block _ (Asy hr1)).trans hr1;obtain⟨-,-,-,-,c4⟩:=hx' wr (Dz.trans Ae);have y0:=Aa (o:=0) Kb rfl;have y1:=Aa (o:=1) Kb rfl;have y2:=Aa (o:=0) hr2 rfl;have y3:=Aa (o:=1) hr2 rfl;have hbase:w1.heap.size<=wr.heap.size:=Ae.size;have BR:=Dz.trans Ae;have hnl:(l.length:Int)<=(l.length:Int):=(by omega);obtain⟨Zu,oc,rfl,-,-,-⟩:=Ad.of_own' (by omega) hown;have p1':=Ae;obtain⟨-,-,-,-,d4⟩:=hx' w1 Dz;have X:=Ae
    have SO:∀w',Ab w1 w'→(w'.cell? ⟨p,0,none⟩=some (S (R x.a.x))/\w'.cell? ⟨p,1,none⟩=some (S (R x.a.y))/\w'.cell? ⟨r,0,none⟩=some (S (R y.b.x))/\w'.cell? ⟨r,1,none⟩=some (S (R y.b.y))/\w'.cell? ⟨bA,oA+i*5+4,none⟩=some (.int .i64 x.l)):=fun w' h=>⟨h.cellS (Aa GO rfl),h.cellS (Aa GO rfl),h.cellS (Aa hr1 rfl),h.cellS (Aa hr1 rfl),h.cellS d4⟩
    clear GO Bl hr1 Kb hr2 p1'
    go_upto_region 10 with fail
    go_region_held3 (fun w'=>w'.cell? ⟨p,0,none⟩=some (S (R x.a.x))/\w'.cell? ⟨p,1,none⟩=some (S (R x.a.y))/\w'.cell? ⟨r,0,none⟩=some (S (R y.b.x))/\w'.cell? ⟨r,1,none⟩=some (S (R y.b.y))/\w'.cell? ⟨bA,oA+i*5+4,none⟩=some (.int .i64 x.l))
     (first|with_reducible exact SO _ X|with_reducible exact SO _ X.drew|with_reducible exact SO _ (X.alloc _)|with_reducible exact SO _ (X.alloc _).drew|with_reducible exact SO _ (X.drew.alloc _))
     (first|(refine Acl rfl _ _ rfl _ w1.heap.size (.slice Zu lj.length oc) lj.length lj [⟨x.a,y.b,x.l⟩,⟨y.b,x.a,ot⟩] rfl (An hown ((Ab.refl wr).alloc _).drew) P0 (by simp) wr.heap.size 2 rfl (by rw [AiR];exact Asz wr _) rfl (by simp;omega) ?_;intro v7 w7 CU GK DJ;replace X:=GK w1 (X.alloc _).drew (As0 _)))
    go_wp2;go_ret;have AQ:=Ef CU (AsA Dz.size (As0 _));exact⟨v7,rfl,by rw [List.length_append,←HLJ.out];exact AQ,Dz.trans X⟩
def Ej(n:Nat)(l:List Hf):Prop:=∀h∈l,CB h.a/\CB h.b/\h.a≠h.b/\-1<=h.l/\h.l<(n:Int)
theorem Ej.ok{n:Nat}{l:List Hf}(h:Ej n l):tL l:=fun x hx=>⟨(h x hx).1,(h x hx).2.1⟩
theorem Ej.back{n:Nat}{l:List Hf}(h:Ej n l)(x:Hf):-1<=C4 l x/\C4 l x<(n:Int):=by
 rcases Af9 l x with e|⟨y,hy,e⟩
 ·rw [e];omega
 ·rw [e];exact⟨(h y hy).2.2.2.1,(h y hy).2.2.2.2⟩
theorem Z9{p q:Pt}(h:Aq p q=false):p≠q:=by
 rintro rfl;rw [Ca.2 rfl]at h
 cases h
theorem AkS{n:Nat}{l:List Hf}(h:Ej n l){x y:Hf}(hx:x∈l)(hy:y∈l)(hne:Aq x.a y.b=false):Ej n (Jt l x y):=by
 intro z hz;unfold Jt at hz
 rcases List.mem_append.1 hz with hz|hz
 ·exact h z (List.mem_filter.1 hz).1
 ·have h1:=h x hx;have h2:=h y hy;have h3:=h.back x;have h4:=Z9 hne;simp only [List.mem_cons,AsB,or_false]at hz
  rcases hz with rfl|rfl
  ·exact⟨h1.1,h2.2.1,h4,h1.2.2.2.1,h1.2.2.2.2⟩
  ·exact⟨h2.2.1,h1.1,h4.symm,h3.1,h3.2⟩
theorem xB{α:Type}{p q:α→Bool} : ∀{l:List α},(∀x∈l,p x=true→q x=true)→(∃x∈l,q x=true/\p x=false)→l.countP p<l.countP q
 | [],_,h=>by obtain⟨x,hx,_⟩:=h;cases hx
 | a::l,h1,h2=>by
  have hle:l.countP p<=l.countP q:=List.countP_mono_left (fun x hx=>h1 x (List.mem_cons_of_mem _ hx));obtain⟨x,hx,hq,hp⟩:=h2
  rcases List.mem_cons.1 hx with rfl|hx
  ·rw [List.countP_cons,List.countP_cons,hq,hp];simp;omega
  ·have:=xB (fun x hx=>h1 x (List.mem_cons_of_mem _ hx)) ⟨x,hx,hq,hp⟩;have ha:=h1 a List.mem_cons_self;rw [List.countP_cons,List.countP_cons]
   cases FA:p a
   ·cases q a<;>simp<;>omega
   ·rw [ha FA];simp;omega
theorem AkR{n:Nat}{l:List Hf}(h:Ej n l){x y:Hf}(hx:x∈l)(hc:IY l x.b=2):(Jt l x y).length<l.length:=by
 have h1:2<l.countP (fun z=>!C2 x.b z):=by
  rw [←hc];refine xB (fun z _ hz=>?_) ⟨x,hx,?_,?_⟩
  ·unfold C2;rw [hz];simp
  ·unfold C2;rw [Ca.2 (rfl:x.b=x.b)];simp
  ·rw [Bool.eq_false_iff];exact fun k=>(h x hx).2.2.1 (Ca.1 k)
 have h2:=List.length_eq_countP_add_countP (C2 x.b) (l:=l)
 have h3:l.countP (fun a=>decide ¬C2 x.b a=true)=l.countP (fun z=>!C2 x.b z):=by congr 1;funext a;cases C2 x.b a<;>rfl
 rw [h3]at h2;unfold Jt;rw [List.length_append,←List.countP_eq_length_filter];simp only [List.length_cons,List.length_nil];omega
def IO(a b q:Pt):Prop:=Kv a.x b.x q.x=true/\Kv a.y b.y q.y=true
theorem within_iff(a b x:Rat):Kv a b x=true↔(a<=x∨b<=x)/\(x<=a∨x<=b):=by
 unfold Kv Km Kk;simp only [Bool.and_eq_true,decide_eq_true_eq];constructor
 ·rintro⟨h1,h2⟩;constructor
  ·split at h1<;>grind
  ·split at h2<;>grind
 ·rintro⟨h1,h2⟩;constructor
  ·split<;>grind
  ·split<;>grind
def dst(p q:Pt):Nat:=((p.x*2).floor-(q.x*2).floor).natAbs+((p.y*2).floor-(q.y*2).floor).natAbs
theorem AhB(a:Int):((a:Rat)/2*2).floor=a:=by
 have:(a:Rat)/2*2=(a:Rat):=(by grind);rw [this];exact Rat.floor_intCast a
theorem eH(u v:Int×Int):dst (gp u) (gp v)=(u.1-v.1).natAbs+(u.2-v.2).natAbs:=by
 unfold dst gp;simp only [AhB]
theorem yE{p q:Pt}(hp:CB p)(hq:CB q):dst p q<=12:=by
 obtain⟨u,hu,rfl⟩:=hp;obtain⟨v,hv,rfl⟩:=hq;rw [eH];have:=hu.x0;have:=hu.x1;have:=hu.y0;have:=hu.y1;have:=hv.x0;have:=hv.x1;have:=hv.y0;have:=hv.y1;omega
theorem Ak9{u v t:Int×Int} : IO (gp u) (gp v) (gp t)↔((u.1<=t.1∨v.1<=t.1)/\(t.1<=u.1∨t.1<=v.1))/\((u.2<=t.2∨v.2<=t.2)/\(t.2<=u.2∨t.2<=v.2)):=by
 unfold IO gp;simp only [within_iff,AiA]
theorem AgR{a b q:Pt}(ha:CB a)(hb:CB b)(hq:CB q)(h:IO a b q)(hne:q≠a):dst q b<dst a b:=by
 obtain⟨u,hu,rfl⟩:=ha;obtain⟨v,hv,rfl⟩:=hb;obtain⟨t,ht,rfl⟩:=hq;rw [Ak9]at h;rw [eH,eH];have hn:¬(t.1=u.1/\t.2=u.2):=fun k=>hne (by rw [show t=u from Prod.ext k.1 k.2]);omega
theorem AkA(a b:Pt):IO a b b:=by
 unfold IO;rw [within_iff,within_iff]
 grind
theorem AkB{a b n q:Pt}(h1:IO a b n)(h2:IO a n q):IO a b q:=by
 unfold IO at *;rw [within_iff,within_iff]at *
 grind
def Ko(a nx q:Pt):Pt:=if KF a nx q=true then (if Aq q a=true then nx else q)else nx
def VB(a nx:Pt)(e:List Pt×Bs):Pt:=e.1.foldl (Ko a) nx
def Zs(P:List (List Pt×Bs))(a b:Pt):Pt:=P.foldl (VB a) b
def JC(P:List (List Pt×Bs))(i:Int):Nat→Pt→Pt→List Hf
 | 0,_,_=>[]
 | f+1,a,b=>if Aq a b=true then [] else ⟨a,Zs P a b,i⟩::JC P i f (Zs P a b) b
def LK(P:List (List Pt×Bs))(i:Nat)(pg:List Pt)(k:Nat):List Hf:=JC P (i:Int) 13 (pg.getD k ⟨0,0⟩) (pg.getD ((k+1)%pg.length) ⟨0,0⟩)
def JD(P:List (List Pt×Bs))(i:Nat):List Hf:=(List.range (P.getD i ([],[])).1.length).flatMap (LK P i (P.getD i ([],[])).1)
def MK(P:List (List Pt×Bs)):List Hf:=(List.range P.length).flatMap (JD P)
theorem Amh{a nx q b:Pt}{l:List Pt}{u:Nat}(hu:u<l.length)(hq:q=l[u])(hn:nx=(l.take u).foldl (Ko a) b):Ko a nx q=(l.take (u+1)).foldl (Ko a) b:=by
 rw [As3 hu,List.foldl_append,←hn,hq];rfl
theorem Ame{P:List (List Pt×Bs)}{a nx b:Pt}{s:Nat}(hs:s<P.length){pg:List Pt}(hp:pg=P[s].1)(hn:nx=(pg.take pg.length).foldl (Ko a) ((P.take s).foldl (VB a) b)):nx=(P.take (s+1)).foldl (VB a) b:=by
 rw [List.take_length]at hn;rw [As3 hs,List.foldl_append,hn,hp];rfl
theorem Ag9{P:List (List Pt×Bs)}{i:Nat}(hi:i<P.length){pg:List Pt}(hp:pg=P[i].1):(List.range pg.length).flatMap (LK P i pg)=JD P i:=by
 unfold JD;rw [List.getD_eq_getElem?_getD,As5 hi,Option.getD_some,←hp]
theorem AgA{P:List (List Pt×Bs)}{i:Nat}{pg:List Pt}{k q:Nat}{a b:Pt}(hk:k<pg.length)(hq:q=(k+1)%pg.length)(hl:q<pg.length)(ha:a=pg[k])(hb:b=pg[q]):LK P i pg k=JC P (i:Int) 13 a b:=by
 unfold LK;rw [←hq,List.getD_eq_getElem?_getD,List.getD_eq_getElem?_getD,As5 hk,As5 hl,Option.getD_some,Option.getD_some,←ha,←hb]
theorem Amf{a nx q:Pt}(h:KF a nx q=false):Ko a nx q=nx:=if_neg (by rw [h];exact Bool.false_ne_true)
theorem Ami{a nx q:Pt}(h:KF a nx q=true)(h2:Aq q a=false):Ko a nx q=q:=by
 unfold Ko;rw [if_pos h,if_neg (by rw [h2];exact Bool.false_ne_true)]
theorem Amg{a nx q:Pt}(h:KF a nx q=true)(h2:Aq q a=true):Ko a nx q=nx:=by
 unfold Ko;rw [if_pos h,if_pos h2]
theorem eV{α:Type}(g:Nat→List α)(k:Nat):(List.range (k+1)).flatMap g=(List.range k).flatMap g++g k:=by
 rw [List.range_succ,List.flatMap_append,List.flatMap_singleton]
theorem AgC{P:List (List Pt×Bs)}{i:Int}{f:Nat}{a b:Pt}(hf:0<f)(h:Aq a b=true):JC P i f a b = []:=by
 obtain⟨g,rfl⟩:∃g,f=g+1:=⟨f-1,by omega⟩;exact if_pos h
theorem AgD{P:List (List Pt×Bs)}{i:Int}{f:Nat}{a b nx:Pt}(h:Aq a b=false)(hn:nx=Zs P a b):JC P i (f+1) a b=⟨a,nx,i⟩::JC P i f nx b:=by
 rw [hn];exact if_neg (by rw [h];exact Bool.false_ne_true)
theorem AfS{a b q:Pt}(h:KF a b q=true):IO a b q:=by
 unfold KF at h;simp only [Bool.and_eq_true]at h;exact h.2
def PW(l:List Hf)(fs:List Int)(x:Hf):Int:=if 0<=C4 l x then fs.getD (C4 l x).toNat 0 else -1
structure IS(w:World)(A:Option Addr)(c:Nat)(P:List (List Pt×Bs)):Prop where
 c1:P.length<=c
 c2:c<=9223372036854775807
 row:∀j (h:j<P.length),∃b o A' c',A=some ⟨b,o,none⟩/\w.cell? ⟨b,o+j*3,none⟩=some (.slice A' P[j].1.length c')/\w.cell? ⟨b,o+j*3+1,none⟩=some (S P[j].2)/\w.cell? ⟨b,o+j*3+2,none⟩=some (.slice none 0 0)/\Ad w A' (flat (Ag P[j].1))/\P[j].1.length<=c'/\c'<=9223372036854775807
theorem IS.ext{w w':World}{A:Option Addr}{c:Nat}{P:List (List Pt×Bs)}(h:IS w A c P)(hx:Ab w w'):IS w' A c P:=
 ⟨h.c1,h.c2,fun j hj=>by
  obtain⟨b,o,A',c',h1,h2,h3,h4,h5,h6,h7⟩:=h.row j hj
  exact⟨b,o,A',c',h1,hx.cellS h2,hx.cellS h3,hx.cellS h4,h5.ext hx,h6,h7⟩⟩
structure Tj(P:List (List Pt×Bs)):Prop where
 len:P.length<=18
 pts:∀e∈P,(∀p∈e.1,CB p)/\e.1.length<=4
 un:∀e∈P,∃n:Nat,e.2=Bt n
structure Pl where
 c:Nat
 r:Nat
 k:List Nat
structure Pl.Ok(p:Pl):Prop where
 c:p.c<256
 r:p.r<256
 len:p.k.length=27
 k:∀n∈p.k,n<256
def Qt(x y:Nat)(a0 a1 a2 a3 lo hi:Pt):Prop:=a0=gp (2*x,2*y)/\a1=gp (2*x+2,2*y)/\a2=gp (2*x+2,2*y+2)/\a3=gp (2*x,2*y+2)/\lo=gp (2*x,2*y+1)/\hi=gp (2*x+2,2*y+1)
def JA(kd ua ub x y:Nat):List (List Pt×Bs):=
 match kd%4 with
 | 0=>[([gp (2*x,2*y),gp (2*x+2,2*y),gp (2*x+2,2*y+2),gp (2*x,2*y+2)],Bt ua)]
 | 1=>[([gp (2*x,2*y),gp (2*x+2,2*y),gp (2*x+2,2*y+2)],Bt ua),([gp (2*x,2*y),gp (2*x+2,2*y+2),gp (2*x,2*y+2)],Bt ub)]
 | 2=>[([gp (2*x,2*y),gp (2*x+2,2*y),gp (2*x,2*y+2)],Bt ua),([gp (2*x,2*y+2),gp (2*x+2,2*y),gp (2*x+2,2*y+2)],Bt ub)]
 | _=>[([gp (2*x,2*y),gp (2*x+2,2*y),gp (2*x+2,2*y+1),gp (2*x,2*y+1)],Bt ua),([gp (2*x,2*y+1),gp (2*x+2,2*y+1),gp (2*x+2,2*y+2),gp (2*x,2*y+2)],Bt ub)]
section
variable {kd ua ub x y : Nat} {a0 a1 a2 a3 lo hi : Pt}
theorem AfX(hr:0=kd%4)(h:Qt x y a0 a1 a2 a3 lo hi):JA kd ua ub x y = [([a0,a1,a2,a3],Bt ua)]:=by
 obtain⟨rfl,rfl,rfl,rfl,rfl,rfl⟩:=h;unfold JA;rw [←hr];rfl
theorem AfY(hr:1=kd%4)(h:Qt x y a0 a1 a2 a3 lo hi):JA kd ua ub x y = [([a0,a1,a2],Bt ua),([a0,a2,a3],Bt ub)]:=by
 obtain⟨rfl,rfl,rfl,rfl,rfl,rfl⟩:=h;unfold JA;rw [←hr];rfl
theorem AfZ(hr:2=kd%4)(h:Qt x y a0 a1 a2 a3 lo hi):JA kd ua ub x y = [([a0,a1,a3],Bt ua),([a3,a1,a2],Bt ub)]:=by
 obtain⟨rfl,rfl,rfl,rfl,rfl,rfl⟩:=h;unfold JA;rw [←hr];rfl
theorem Aga(hr:3=kd%4)(h:Qt x y a0 a1 a2 a3 lo hi):JA kd ua ub x y = [([a0,a1,hi,lo],Bt ua),([lo,hi,a2,a3],Bt ub)]:=by
 obtain⟨rfl,rfl,rfl,rfl,rfl,rfl⟩:=h;unfold JA;rw [←hr];rfl
end
def Oz(p:Pl)(k:Nat):List (List Pt×Bs):=JA (p.k.getD (k*3) 0) (p.k.getD (k*3+1) 0) (p.k.getD (k*3+2) 0) (k%(1+p.c%3)) (k/(1+p.c%3))
def Se(p:Pl):List (List Pt×Bs):=(List.range ((1+p.c%3)*(1+p.r%3))).flatMap (Oz p)
end Go.Proofs.YtnddllipjippnaaGreatDoor
