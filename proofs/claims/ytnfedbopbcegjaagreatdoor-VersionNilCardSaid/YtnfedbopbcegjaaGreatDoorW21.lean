/- W21. -/
import Derived.Test.YtnfedbopbcegjaaGreatDoorW18
set_option maxRecDepth 100000
set_option maxHeartbeats 16000000
namespace Go.Proofs.YtnfedbopbcegjaaGreatDoor
open Go.RowKit Kl
theorem Av(w:World)(o1 o2 o3:Obj):(((w.alloc o1).alloc o2).alloc o3).drew.heap[w.heap.size]?=some o1/\(((w.alloc o1).alloc o2).alloc o3).drew.heap[w.heap.size+1]?=some o2/\(((w.alloc o1).alloc o2).alloc o3).drew.heap[w.heap.size+1+1]?=some o3/\Aa w (((w.alloc o1).alloc o2).alloc o3).drew:=by
 obtain⟨W,rfl,hE,h1,h2,h3⟩:=IA w o1 o2 o3;exact⟨h1,h2,h3,hE.drew⟩
theorem TM(h:Hf):(AO [h]).toArray=#[.string ⟨(R h.a.x).toArray⟩,.string ⟨(R h.a.y).toArray⟩,.string ⟨(R h.b.x).toArray⟩,.string ⟨(R h.b.y).toArray⟩,.int .i64 h.l]:=rfl
theorem AbF(h k:Hf):(AO [h,k]).toArray=#[.string ⟨(R h.a.x).toArray⟩,.string ⟨(R h.a.y).toArray⟩,.string ⟨(R h.b.x).toArray⟩,.string ⟨(R h.b.y).toArray⟩,.int .i64 h.l,.string ⟨(R k.a.x).toArray⟩,.string ⟨(R k.a.y).toArray⟩,.string ⟨(R k.b.x).toArray⟩,.string ⟨(R k.b.y).toArray⟩,.int .i64 k.l]:=rfl
def Cv(b:Pt)(h:Hf):Bool:=!Ah h.a b && !Ah h.b b
def Jd(l:List Hf)(x y:Hf):List Hf:=l.filter (Cv x.b) ++ [⟨x.a,y.b,x.l⟩,⟨y.b,x.a,BO l x⟩]
theorem Ad3(l:List Hf)(hlen:l.length<=100000)(i k:Nat)(hi:i<l.length)(hk:k<l.length)(A:Option Addr)(c:Nat)(w:World)(hr:Ad w A (AO l))(hc:l.length<=c)(hcm:c<=9223372036854775807) :
  Calls Tryz.prog 133 #[.slice A l.length c,.int .i64 (i:Nat),.int .i64 (k:Nat)] w fun e w'=>∃v,e=.returned v/\w'.ownsRow w.heap.size 145 5 v (Jd l l[i] l[k]).length (AO (Jd l l[i] l[k]))/\Aa w w':=by
 have pe:=OH;have pn:=Rr;obtain⟨x,hx⟩:=AjJ (l[i]);obtain⟨y,hy⟩:=AjJ (l[k]);rw [←hx,←hy];have Oi:(0:Int)<=(i:Int):=(by omega);have JU:(i:Int)<(l.length:Int):=(by omega);have hk0:(0:Int)<=(k:Int):=(by omega);have El:(k:Int)<(l.length:Int):=by omega
 have Zf:∀wr,Aa w wr→∃b o,A=some ⟨b,o,none⟩/\Md wr b (o+i*5) x:=fun wr hE=>by obtain⟨b,o,e,h⟩:=Kn (hr.ext hE) hi;exact⟨b,o,e,by rw [hx];exact h⟩
 have tA:∀wr,Aa w wr→∃b o,A=some ⟨b,o,none⟩/\Md wr b (o+k*5) y:=fun wr hE=>by obtain⟨b,o,e,h⟩:=Kn (hr.ext hE) hk;exact⟨b,o,e,by rw [hy];exact h⟩
 obtain⟨bA,oA,rfl,-⟩:=Zf w (Aa.refl w)
 have hx':∀wr,Aa w wr→Md wr bA (oA+i*5) x:=fun wr hx=>by obtain⟨b,o,e,h⟩:=Zf wr hx;simp only [AjR,Addr.mk.injEq,and_true]at e;obtain⟨rfl,rfl⟩:=e;exact h
 have hy':∀wr,Aa w wr→Md wr bA (oA+k*5) y:=fun wr hx=>by obtain⟨b,o,e,h⟩:=tA wr hx;simp only [AjR,Addr.mk.injEq,and_true]at e;obtain⟨rfl,rfl⟩:=e;exact h
 have bc:=fun (w1:World) (h1:Aa w w1)=>Su l x (some ⟨bA,oA,none⟩) c w1 (hr.ext h1) hc hcm;obtain⟨ot,YF⟩:=AjJ (BO l x);rw [←YF]at bc;have hJ:Jd l x y=l.filter (Cv x.b) ++ [⟨x.a,y.b,x.l⟩,⟨y.b,x.a,ot⟩]:=(by rw [YF];rfl);rw [hJ];have hbA:bA<w.heap.size:=World.block_lt_of_cell? w _ (hx' w (Aa.refl w)).c0;have hl0:(0:Int)<=(l.length:Int):=(by omega);clear hx hy Zf tA YF hJ;have H0:=hx' w (Aa.refl w);have H1:=hy' w (Aa.refl w);obtain⟨a0,a1,a2,a3,a4⟩:=H0;obtain⟨b0,b1,b2,b3,b4⟩:=H1;have X:Aa w w:=Aa.refl w
 have SO:∀w',Aa w w'→(w'.cell? ⟨bA,oA+i*5,none⟩=some (S (R x.a.x))/\w'.cell? ⟨bA,oA+i*5+1,none⟩=some (S (R x.a.y))/\w'.cell? ⟨bA,oA+i*5+2,none⟩=some (S (R x.b.x))/\w'.cell? ⟨bA,oA+i*5+3,none⟩=some (S (R x.b.y))/\w'.cell? ⟨bA,oA+k*5+2,none⟩=some (S (R y.b.x))/\w'.cell? ⟨bA,oA+k*5+3,none⟩=some (S (R y.b.y))):=fun w' h=>⟨h.cellS a0,h.cellS a1,h.cellS a2,h.cellS a3,h.cellS b2,h.cellS b3⟩
 go_enter Tryz.func133,Tryz.ntmps133
 go_upto_region 2 with fail
 go_cut [8,9,10] (fun v8 v9 v10 wx=>∃p q r,v8=.pointer (some ⟨p,0,none⟩)/\v9=.pointer (some ⟨q,0,none⟩)/\v10=.pointer (some ⟨r,0,none⟩)/\wx.heap[p]?=some (.cells #[S (R x.a.x),S (R x.a.y)] 28)/\wx.heap[q]?=some (.cells #[S (R x.b.x),S (R x.b.y)] 28)/\wx.heap[r]?=some (.cells #[S (R y.b.x),S (R y.b.y)] 28)/\w.heap.size<=p/\w.heap.size<=q/\w.heap.size<=r/\Aa w wx)
 case first=>
  go_region_held3 (fun w'=>w'.cell? ⟨bA,oA+i*5,none⟩=some (S (R x.a.x))/\w'.cell? ⟨bA,oA+i*5+1,none⟩=some (S (R x.a.y))/\w'.cell? ⟨bA,oA+i*5+2,none⟩=some (S (R x.b.x))/\w'.cell? ⟨bA,oA+i*5+3,none⟩=some (S (R x.b.y))/\w'.cell? ⟨bA,oA+k*5+2,none⟩=some (S (R y.b.x))/\w'.cell? ⟨bA,oA+k*5+3,none⟩=some (S (R y.b.y)))
   ((refine SO _ ?_;repeat (first|exact X|(with_reducible refine Aa.drew ?_)|(with_reducible refine Aa.alloc ?_ _)|(with_reducible refine Aa.setCell ?_ (by simp) _))))
   (fail)
  all_goals go_wp2
  all_goals go_meet
  all_goals (
   refine⟨_,_,_,rfl,rfl,rfl,?_,?_,?_,by omega,by omega,by omega,?_⟩
   all_goals try unfold S
   all_goals first
    | with_reducible exact(Av _ _ _ _).1
    | with_reducible exact(Av _ _ _ _).2.1
    | with_reducible exact(Av _ _ _ _).2.2.1
    | with_reducible exact(Av _ _ _ _).2.2.2)
 case rest=>
  obtain⟨p,q,r,rfl,rfl,rfl,hp,hq,FQ,lp,lq,lr,hX⟩:=hcut;obtain⟨wx,rfl⟩:=MU hX;have c0:=hX.cellS a0;have c1:=hX.cellS a1;have c2:=hX.cellS a2;have c3:=hX.cellS a3;have c4:=hX.cellS a4;have bx:=bc wx hX;unfold Fl at bx;clear SO X a0 a1 a2 a3 b0 b1 b2 b3 b4 bc;(go_wp2_with fail);(with_reducible refine bx.mono ?_);rintro e w1 ⟨rfl,hx1⟩;have B8:=hX.trans hx1;have DT:=(hx1.block _ (AjL hp)).trans hp;have D2:=(hx1.block _ (AjL hq)).trans hq;have hr1:=(hx1.block _ (AjL FQ)).trans FQ;clear hp hq FQ c0 c1 c2 c3 c4 bx
  go_upto_region 5 with fail
  go_loopw [7,37] (fun ov iv wr=>∃j:Nat,iv=.int .i64 (j:Nat)/\j<=l.length/\wr.ownsRow w1.heap.size 145 5 ov ((l.take j).filter (Cv x.b)).length (AO ((l.take j).filter (Cv x.b)))/\Aa w1 wr) (fun _ iv _=>l.length-(intOf iv).toNat)
  case atStart=>exact⟨0,rfl,by omega,⟨rfl,.inl ⟨rfl,rfl⟩⟩,Aa.refl _⟩
  case round=>
   obtain⟨j,rfl,hj,hown,Ae⟩:=hrel;by_cases hlt:j<l.length
   ·obtain⟨Ss,UG,e,f0,f1,f2,f3,f4⟩:=Kn (hr.ext (B8.trans Ae)) hlt;simp only [AjR,Addr.mk.injEq,and_true]at e;obtain⟨rfl,rfl⟩:=e;obtain⟨h,hh⟩:=AjJ (l[j]);rw [←hh]at f0 f1 f2 f3 f4
    have Ja:(l.take (j+1)).filter (Cv x.b)=(l.take j).filter (Cv x.b)++(if Cv x.b h=true then [h] else []):=by rw [AjQ hlt,List.filter_append,←hh];simp [List.filter_cons]
    have Em:((l.take j).filter (Cv x.b)).length<200000:=by have:=List.length_filter_le (Cv x.b) (l.take j);rw [List.length_take]at this;omega
    have hj0:(0:Int)<=(j:Int):=(by omega);have Ay:(j:Int)<(l.length:Int):=(by omega);have HT:=AjK Ja;generalize (l.take j).filter (Cv x.b)=lj at *;clear hh Ja;have As:=AjM wr (.cells #[S (R h.a.x),S (R h.a.y),S (R h.b.x),S (R h.b.y),.int .i64 h.l] 145);have E4:=(Aa.refl wr).alloc (.cells #[S (R h.a.x),S (R h.a.y),S (R h.b.x),S (R h.b.y),.int .i64 h.l] 145);have Oo:=((Ae.trans E4).block _ (AjL D2)).trans D2;have IY:=Am hown E4;have BB:=Ae.trans E4
    go_upto_region 7 with fail
    unfold S at As E4 Oo IY BB;generalize (wr.alloc (.cells #[.string ⟨(R h.a.x).toArray⟩,.string ⟨(R h.a.y).toArray⟩,.string ⟨(R h.b.x).toArray⟩,.string ⟨(R h.b.y).toArray⟩,.int .i64 h.l] 145))=W4 at *;obtain⟨bh,Dj⟩:=AjJ wr.heap.size;rw [←Dj]at As ⊢;clear Dj f0 f1 f2 f3 f4 E4;have z0:=Ab (o:=0) As rfl;have z1:=Ab (o:=1) As rfl;have z2:=Ab (o:=2) As rfl;have z3:=Ab (o:=3) As rfl;have z4:=Ab (o:=4) As rfl;have y0:=Ab (o:=0) Oo rfl;have y1:=Ab (o:=1) Oo rfl
    cases e1:Ah h.a x.b
    ·cases e2:Ah h.b x.b
     ·have hk:Cv x.b h=true:=(by unfold Cv;rw [e1,e2];rfl);have HK:=AjK (show (l.take (j+1)).filter (Cv x.b)=lj ++ [h] by rw [HT.out,if_pos hk]);have hbase:w1.heap.size<=W4.heap.size:=BB.size;obtain⟨UH,oc,rfl,-,-,-⟩:=Ad.of_own' (by omega) IY
      go_wp2_with (at_builtin;go_loud (refine VQ rfl _ _ rfl _ w1.heap.size (.slice UH lj.length oc) lj.length lj [h] rfl (Am IY ((Aa.refl W4).alloc _)) Em (by simp) W4.heap.size 1 rfl (by rw [TM];exact AjM W4 _) rfl (by simp;omega) ?_);intro v7 w7 C4 Fj BM)
      have BU:=Fj w1 (BB.trans ((Aa.refl W4).alloc _)) (AjN _);clear BM Fj z0 z1 z2 z3 z4 y0 y1;go_wp2;go_roundw
      case rel=>exact⟨j+1,by go_num,hlt,by rw [HK.out,List.length_append];exact C4,BU⟩
      case measure=>simp [intOf];omega
     ·have hk:Cv x.b h=false:=(by unfold Cv;rw [e1,e2];rfl);have HK:=AjK (show (l.take (j+1)).filter (Cv x.b)=lj by rw [HT.out,hk];simp);go_wp2;go_roundw
      case rel=>exact⟨j+1,by go_num,hlt,by rw [HK.out];exact IY,BB⟩
      case measure=>simp [intOf];omega
    ·have hk:Cv x.b h=false:=(by unfold Cv;rw [e1];rfl);have HK:=AjK (show (l.take (j+1)).filter (Cv x.b)=lj by rw [HT.out,hk];simp);go_wp2;go_roundw
     case rel=>exact⟨j+1,by go_num,hlt,by rw [HK.out];exact IY,BB⟩
     case measure=>simp [intOf];omega
   ·have Ek:j=l.length:=(by omega);subst Ek;rw [List.take_length]at hown
    have Em:(l.filter (Cv x.b)).length<200000:=by have:=List.length_filter_le (Cv x.b) l;omega
    obtain⟨lj,Yy⟩:=AjJ (l.filter (Cv x.b));rw [←Yy]at hown Em;have jd:=AjK Yy;clear Yy;have MK:=(Ae.block _ (AjL DT)).trans DT;have hr2:=(Ae.block _ (AjL hr1)).trans hr1;obtain⟨-,-,-,-,c4⟩:=hx' wr (B8.trans Ae);have y0:=Ab (o:=0) MK rfl;have y1:=Ab (o:=1) MK rfl;have y2:=Ab (o:=0) hr2 rfl;have y3:=Ab (o:=1) hr2 rfl;have hbase:w1.heap.size<=wr.heap.size:=Ae.size;have Bu:=B8.trans Ae;have hnl:(l.length:Int)<=(l.length:Int):=(by omega);obtain⟨UH,oc,rfl,-,-,-⟩:=Ad.of_own' (by omega) hown;have p1':=Ae;obtain⟨-,-,-,-,d4⟩:=hx' w1 B8;have X:=Ae
    have SO:∀w',Aa w1 w'→(w'.cell? ⟨p,0,none⟩=some (S (R x.a.x))/\w'.cell? ⟨p,1,none⟩=some (S (R x.a.y))/\w'.cell? ⟨r,0,none⟩=some (S (R y.b.x))/\w'.cell? ⟨r,1,none⟩=some (S (R y.b.y))/\w'.cell? ⟨bA,oA+i*5+4,none⟩=some (.int .i64 x.l)):=fun w' h=>⟨h.cellS (Ab DT rfl),h.cellS (Ab DT rfl),h.cellS (Ab hr1 rfl),h.cellS (Ab hr1 rfl),h.cellS d4⟩
    clear DT D2 hr1 MK hr2 p1'
    go_upto_region 10 with fail
    go_region_held3 (fun w'=>w'.cell? ⟨p,0,none⟩=some (S (R x.a.x))/\w'.cell? ⟨p,1,none⟩=some (S (R x.a.y))/\w'.cell? ⟨r,0,none⟩=some (S (R y.b.x))/\w'.cell? ⟨r,1,none⟩=some (S (R y.b.y))/\w'.cell? ⟨bA,oA+i*5+4,none⟩=some (.int .i64 x.l))
     (first|with_reducible exact SO _ X|with_reducible exact SO _ X.drew|with_reducible exact SO _ (X.alloc _)|with_reducible exact SO _ (X.alloc _).drew|with_reducible exact SO _ (X.drew.alloc _))
     (first|(refine zR rfl _ _ rfl _ w1.heap.size (.slice UH lj.length oc) lj.length lj [⟨x.a,y.b,x.l⟩,⟨y.b,x.a,ot⟩] rfl (Am hown ((Aa.refl wr).alloc _).drew) Em (by simp) wr.heap.size 2 rfl (by rw [AbF];exact AjM wr _) rfl (by simp;omega) ?_;intro v7 w7 C4 Fj BM;replace X:=Fj w1 (X.alloc _).drew (AjN _)))
    go_wp2;go_ret;have AU:=FV C4 (AjX B8.size (AjN _));exact⟨v7,rfl,by rw [List.length_append,←jd.out];exact AU,B8.trans X⟩
def Dn(n:Nat)(l:List Hf):Prop:=∀h∈l,Cg h.a/\Cg h.b/\h.a≠h.b/\-1<=h.l/\h.l<(n:Int)
theorem Dn.ok{n:Nat}{l:List Hf}(h:Dn n l):eC l:=fun x hx=>⟨(h x hx).1,(h x hx).2.1⟩
theorem Dn.back{n:Nat}{l:List Hf}(h:Dn n l)(x:Hf):-1<=BO l x/\BO l x<(n:Int):=by
 rcases ry l x with e|⟨y,hy,e⟩
 ·rw [e];omega
 ·rw [e];exact⟨(h y hy).2.2.2.1,(h y hy).2.2.2.2⟩
theorem ZZ{p q:Pt}(h:Ah p q=false):p≠q:=by
 rintro rfl;rw [BN.2 rfl]at h
 cases h
theorem Ad2{n:Nat}{l:List Hf}(h:Dn n l){x y:Hf}(hx:x∈l)(hy:y∈l)(hne:Ah x.a y.b=false):Dn n (Jd l x y):=by
 intro z hz;unfold Jd at hz
 rcases List.mem_append.1 hz with hz|hz
 ·exact h z (List.mem_filter.1 hz).1
 ·have h1:=h x hx;have h2:=h y hy;have h3:=h.back x;have h4:=ZZ hne;simp only [List.mem_cons,AjY,or_false]at hz
  rcases hz with rfl|rfl
  ·exact⟨h1.1,h2.2.1,h4,h1.2.2.2.1,h1.2.2.2.2⟩
  ·exact⟨h2.2.1,h1.1,h4.symm,h3.1,h3.2⟩
theorem iH{α:Type}{p q:α→Bool} : ∀{l:List α},(∀x∈l,p x=true→q x=true)→(∃x∈l,q x=true/\p x=false)→l.countP p<l.countP q
 | [],_,h=>by obtain⟨x,hx,_⟩:=h;cases hx
 | a::l,h1,h2=>by
  have hle:l.countP p<=l.countP q:=List.countP_mono_left (fun x hx=>h1 x (List.mem_cons_of_mem _ hx));obtain⟨x,hx,hq,hp⟩:=h2
  rcases List.mem_cons.1 hx with rfl|hx
  ·rw [List.countP_cons,List.countP_cons,hq,hp];simp;omega
  ·have:=iH (fun x hx=>h1 x (List.mem_cons_of_mem _ hx)) ⟨x,hx,hq,hp⟩;have ha:=h1 a List.mem_cons_self;rw [List.countP_cons,List.countP_cons]
   cases FO:p a
   ·cases q a<;>simp<;>omega
   ·rw [ha FO];simp;omega
theorem Ad1{n:Nat}{l:List Hf}(h:Dn n l){x y:Hf}(hx:x∈l)(hc:Gh l x.b=2):(Jd l x y).length<l.length:=by
 have h1:2<l.countP (fun z=>!Cv x.b z):=by
  rw [←hc];refine iH (fun z _ hz=>?_) ⟨x,hx,?_,?_⟩
  ·unfold Cv;rw [hz];simp
  ·unfold Cv;rw [BN.2 (rfl:x.b=x.b)];simp
  ·rw [Bool.eq_false_iff];exact fun k=>(h x hx).2.2.1 (BN.1 k)
 have h2:=List.length_eq_countP_add_countP (Cv x.b) (l:=l)
 have h3:l.countP (fun a=>decide ¬Cv x.b a=true)=l.countP (fun z=>!Cv x.b z):=by congr 1;funext a;cases Cv x.b a<;>rfl
 rw [h3]at h2;unfold Jd;rw [List.length_append,←List.countP_eq_length_filter];simp only [List.length_cons,List.length_nil];omega
def G2(a b q:Pt):Prop:=Ix a.x b.x q.x=true/\Ix a.y b.y q.y=true
theorem within_iff(a b x:Rat):Ix a b x=true↔(a<=x∨b<=x)/\(x<=a∨x<=b):=by
 unfold Ix Io Im;simp only [Bool.and_eq_true,decide_eq_true_eq];constructor
 ·rintro⟨h1,h2⟩;constructor
  ·split at h1<;>grind
  ·split at h2<;>grind
 ·rintro⟨h1,h2⟩;constructor
  ·split<;>grind
  ·split<;>grind
def dst(p q:Pt):Nat:=((p.x*2).floor-(q.x*2).floor).natAbs+((p.y*2).floor-(q.y*2).floor).natAbs
theorem Aa1(a:Int):((a:Rat)/2*2).floor=a:=by
 have:(a:Rat)/2*2=(a:Rat):=(by grind);rw [this];exact Rat.floor_intCast a
theorem Wu(u v:Int×Int):dst (gp u) (gp v)=(u.1-v.1).natAbs+(u.2-v.2).natAbs:=by
 unfold dst gp;simp only [Aa1]
theorem jB{p q:Pt}(hp:Cg p)(hq:Cg q):dst p q<=12:=by
 obtain⟨u,hu,rfl⟩:=hp;obtain⟨v,hv,rfl⟩:=hq;rw [Wu];have:=hu.x0;have:=hu.x1;have:=hu.y0;have:=hu.y1;have:=hv.x0;have:=hv.x1;have:=hv.y0;have:=hv.y1;omega
theorem Adq{u v t:Int×Int} : G2 (gp u) (gp v) (gp t)↔((u.1<=t.1∨v.1<=t.1)/\(t.1<=u.1∨t.1<=v.1))/\((u.2<=t.2∨v.2<=t.2)/\(t.2<=u.2∨t.2<=v.2)):=by
 unfold G2 gp;simp only [within_iff,Ab0]
theorem yn{a b q:Pt}(ha:Cg a)(hb:Cg b)(hq:Cg q)(h:G2 a b q)(hne:q≠a):dst q b<dst a b:=by
 obtain⟨u,hu,rfl⟩:=ha;obtain⟨v,hv,rfl⟩:=hb;obtain⟨t,ht,rfl⟩:=hq;rw [Adq]at h;rw [Wu,Wu];have hn:¬(t.1=u.1/\t.2=u.2):=fun k=>hne (by rw [show t=u from Prod.ext k.1 k.2]);omega
theorem Adr(a b:Pt):G2 a b b:=by
 unfold G2;rw [within_iff,within_iff]
 grind
theorem Ads{a b n q:Pt}(h1:G2 a b n)(h2:G2 a n q):G2 a b q:=by
 unfold G2 at *;rw [within_iff,within_iff]at *
 grind
def Ir(a nx q:Pt):Pt:=if IB a nx q=true then (if Ah q a=true then nx else q)else nx
def QY(a nx:Pt)(e:List Pt×Bs):Pt:=e.1.foldl (Ir a) nx
def ZG(P:List (List Pt×Bs))(a b:Pt):Pt:=P.foldl (QY a) b
def KU(P:List (List Pt×Bs))(i:Int):Nat→Pt→Pt→List Hf
 | 0,_,_=>[]
 | f+1,a,b=>if Ah a b=true then [] else ⟨a,ZG P a b,i⟩::KU P i f (ZG P a b) b
def KW(P:List (List Pt×Bs))(i:Nat)(pg:List Pt)(k:Nat):List Hf:=KU P (i:Int) 13 (pg.getD k ⟨0,0⟩) (pg.getD ((k+1)%pg.length) ⟨0,0⟩)
def KV(P:List (List Pt×Bs))(i:Nat):List Hf:=(List.range (P.getD i ([],[])).1.length).flatMap (KW P i (P.getD i ([],[])).1)
def OJ(P:List (List Pt×Bs)):List Hf:=(List.range P.length).flatMap (KV P)
theorem AeA{a nx q b:Pt}{l:List Pt}{u:Nat}(hu:u<l.length)(hq:q=l[u])(hn:nx=(l.take u).foldl (Ir a) b):Ir a nx q=(l.take (u+1)).foldl (Ir a) b:=by
 rw [AjQ hu,List.foldl_append,←hn,hq];rfl
theorem Ae7{P:List (List Pt×Bs)}{a nx b:Pt}{s:Nat}(hs:s<P.length){pg:List Pt}(hp:pg=P[s].1)(hn:nx=(pg.take pg.length).foldl (Ir a) ((P.take s).foldl (QY a) b)):nx=(P.take (s+1)).foldl (QY a) b:=by
 rw [List.take_length]at hn;rw [AjQ hs,List.foldl_append,hn,hp];rfl
theorem xi{P:List (List Pt×Bs)}{i:Nat}(hi:i<P.length){pg:List Pt}(hp:pg=P[i].1):(List.range pg.length).flatMap (KW P i pg)=KV P i:=by
 unfold KV;rw [List.getD_eq_getElem?_getD,AjS hi,Option.getD_some,←hp]
theorem xj{P:List (List Pt×Bs)}{i:Nat}{pg:List Pt}{k q:Nat}{a b:Pt}(hk:k<pg.length)(hq:q=(k+1)%pg.length)(hl:q<pg.length)(ha:a=pg[k])(hb:b=pg[q]):KW P i pg k=KU P (i:Int) 13 a b:=by
 unfold KW;rw [←hq,List.getD_eq_getElem?_getD,List.getD_eq_getElem?_getD,AjS hk,AjS hl,Option.getD_some,Option.getD_some,←ha,←hb]
theorem Ae8{a nx q:Pt}(h:IB a nx q=false):Ir a nx q=nx:=if_neg (by rw [h];exact Bool.false_ne_true)
theorem AeB{a nx q:Pt}(h:IB a nx q=true)(h2:Ah q a=false):Ir a nx q=q:=by
 unfold Ir;rw [if_pos h,if_neg (by rw [h2];exact Bool.false_ne_true)]
theorem Ae9{a nx q:Pt}(h:IB a nx q=true)(h2:Ah q a=true):Ir a nx q=nx:=by
 unfold Ir;rw [if_pos h,if_pos h2]
theorem WI{α:Type}(g:Nat→List α)(k:Nat):(List.range (k+1)).flatMap g=(List.range k).flatMap g++g k:=by
 rw [List.range_succ,List.flatMap_append,List.flatMap_singleton]
theorem xm{P:List (List Pt×Bs)}{i:Int}{f:Nat}{a b:Pt}(hf:0<f)(h:Ah a b=true):KU P i f a b = []:=by
 obtain⟨g,rfl⟩:∃g,f=g+1:=⟨f-1,by omega⟩;exact if_pos h
theorem xn{P:List (List Pt×Bs)}{i:Int}{f:Nat}{a b nx:Pt}(h:Ah a b=false)(hn:nx=ZG P a b):KU P i (f+1) a b=⟨a,nx,i⟩::KU P i f nx b:=by
 rw [hn];exact if_neg (by rw [h];exact Bool.false_ne_true)
theorem ud{a b q:Pt}(h:IB a b q=true):G2 a b q:=by
 unfold IB at h;simp only [Bool.and_eq_true]at h;exact h.2
def Na(l:List Hf)(fs:List Int)(x:Hf):Int:=if 0<=BO l x then fs.getD (BO l x).toNat 0 else -1
structure KC(w:World)(A:Option Addr)(c:Nat)(P:List (List Pt×Bs)):Prop where
 c1:P.length<=c
 c2:c<=9223372036854775807
 row:∀j (h:j<P.length),∃b o A' c',A=some ⟨b,o,none⟩/\w.cell? ⟨b,o+j*3,none⟩=some (.slice A' P[j].1.length c')/\w.cell? ⟨b,o+j*3+1,none⟩=some (S P[j].2)/\w.cell? ⟨b,o+j*3+2,none⟩=some (.slice none 0 0)/\Ad w A' (flat (Aq P[j].1))/\P[j].1.length<=c'/\c'<=9223372036854775807
theorem KC.ext{w w':World}{A:Option Addr}{c:Nat}{P:List (List Pt×Bs)}(h:KC w A c P)(hx:Aa w w'):KC w' A c P:=
 ⟨h.c1,h.c2,fun j hj=>by
  obtain⟨b,o,A',c',h1,h2,h3,h4,h5,h6,h7⟩:=h.row j hj
  exact⟨b,o,A',c',h1,hx.cellS h2,hx.cellS h3,hx.cellS h4,h5.ext hx,h6,h7⟩⟩
structure Pq(P:List (List Pt×Bs)):Prop where
 len:P.length<=18
 pts:∀e∈P,(∀p∈e.1,Cg p)/\e.1.length<=4
 un:∀e∈P,∃n:Nat,e.2=AY n
structure Pl where
 c:Nat
 r:Nat
 k:List Nat
structure Pl.Ok(p:Pl):Prop where
 c:p.c<256
 r:p.r<256
 len:p.k.length=27
 k:∀n∈p.k,n<256
def Nv(x y:Nat)(a0 a1 a2 a3 lo hi:Pt):Prop:=a0=gp (2*x,2*y)/\a1=gp (2*x+2,2*y)/\a2=gp (2*x+2,2*y+2)/\a3=gp (2*x,2*y+2)/\lo=gp (2*x,2*y+1)/\hi=gp (2*x+2,2*y+1)
def Hq(kd ua ub x y:Nat):List (List Pt×Bs):=
 match kd%4 with
 | 0=>[([gp (2*x,2*y),gp (2*x+2,2*y),gp (2*x+2,2*y+2),gp (2*x,2*y+2)],AY ua)]
 | 1=>[([gp (2*x,2*y),gp (2*x+2,2*y),gp (2*x+2,2*y+2)],AY ua),([gp (2*x,2*y),gp (2*x+2,2*y+2),gp (2*x,2*y+2)],AY ub)]
 | 2=>[([gp (2*x,2*y),gp (2*x+2,2*y),gp (2*x,2*y+2)],AY ua),([gp (2*x,2*y+2),gp (2*x+2,2*y),gp (2*x+2,2*y+2)],AY ub)]
 | _=>[([gp (2*x,2*y),gp (2*x+2,2*y),gp (2*x+2,2*y+1),gp (2*x,2*y+1)],AY ua),([gp (2*x,2*y+1),gp (2*x+2,2*y+1),gp (2*x+2,2*y+2),gp (2*x,2*y+2)],AY ub)]
section
variable {kd ua ub x y : Nat} {a0 a1 a2 a3 lo hi : Pt}
theorem uh(hr:0=kd%4)(h:Nv x y a0 a1 a2 a3 lo hi):Hq kd ua ub x y = [([a0,a1,a2,a3],AY ua)]:=by
 obtain⟨rfl,rfl,rfl,rfl,rfl,rfl⟩:=h;unfold Hq;rw [←hr];rfl
theorem ui(hr:1=kd%4)(h:Nv x y a0 a1 a2 a3 lo hi):Hq kd ua ub x y = [([a0,a1,a2],AY ua),([a0,a2,a3],AY ub)]:=by
 obtain⟨rfl,rfl,rfl,rfl,rfl,rfl⟩:=h;unfold Hq;rw [←hr];rfl
theorem uj(hr:2=kd%4)(h:Nv x y a0 a1 a2 a3 lo hi):Hq kd ua ub x y = [([a0,a1,a3],AY ua),([a3,a1,a2],AY ub)]:=by
 obtain⟨rfl,rfl,rfl,rfl,rfl,rfl⟩:=h;unfold Hq;rw [←hr];rfl
theorem ul(hr:3=kd%4)(h:Nv x y a0 a1 a2 a3 lo hi):Hq kd ua ub x y = [([a0,a1,hi,lo],AY ua),([lo,hi,a2,a3],AY ub)]:=by
 obtain⟨rfl,rfl,rfl,rfl,rfl,rfl⟩:=h;unfold Hq;rw [←hr];rfl
end
def LM(p:Pl)(k:Nat):List (List Pt×Bs):=Hq (p.k.getD (k*3) 0) (p.k.getD (k*3+1) 0) (p.k.getD (k*3+2) 0) (k%(1+p.c%3)) (k/(1+p.c%3))
def LN(p:Pl):List (List Pt×Bs):=(List.range ((1+p.c%3)*(1+p.r%3))).flatMap (LM p)
end Go.Proofs.YtnfedbopbcegjaaGreatDoor
