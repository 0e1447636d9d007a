/- U23: ShQ8 ShQ9 ShQD ShBB. -/
import Derived.Test.YtbejphgbbpplbaaGreatDoorU21
import Derived.Test.YtbejphgbbpplbaaGreatDoorU22
import Derived.Sort.MapsRangeIn
set_option maxRecDepth 100000
set_option maxHeartbeats 16000000
namespace Go.Proofs.YtbejphgbbpplbaaGreatDoor
open Go.RowKit Kl
theorem AC(w:World)(o1 o2 o3:Obj):(((w.alloc o1).alloc o2).alloc o3).drew.heap[w.heap.size]?=some o1/\(((w.alloc o1).alloc o2).alloc o3).drew.heap[w.heap.size+1]?=some o2/\(((w.alloc o1).alloc o2).alloc o3).drew.heap[w.heap.size+1+1]?=some o3/\Aa w (((w.alloc o1).alloc o2).alloc o3).drew:=by
 obtain⟨W,rfl,hE,h1,h2,h3⟩:=Je w o1 o2 o3;exact⟨h1,h2,h3,hE.drew⟩
theorem WY(h:Hf):(Bd [h]).toArray=#[.string ⟨(R h.a.x).toArray⟩,.string ⟨(R h.a.y).toArray⟩,.string ⟨(R h.b.x).toArray⟩,.string ⟨(R h.b.y).toArray⟩,.int .i64 h.l]:=rfl
theorem AhN(h k:Hf):(Bd [h,k]).toArray=#[.string ⟨(R h.a.x).toArray⟩,.string ⟨(R h.a.y).toArray⟩,.string ⟨(R h.b.x).toArray⟩,.string ⟨(R h.b.y).toArray⟩,.int .i64 h.l,.string ⟨(R k.a.x).toArray⟩,.string ⟨(R k.a.y).toArray⟩,.string ⟨(R k.b.x).toArray⟩,.string ⟨(R k.b.y).toArray⟩,.int .i64 k.l]:=rfl
def CJ(b:Pt)(h:Hf):Bool:=!An h.a b && !An h.b b
def NE(l:List Hf)(x y:Hf):List Hf:=l.filter (CJ x.b) ++ [⟨x.a,y.b,x.l⟩,⟨y.b,x.a,Ek l x⟩]
theorem AjN(l:List Hf)(hlen:l.length<=100000)(i k:Nat)(hi:i<l.length)(hk:k<l.length)(A:Option Addr)(c:Nat)(w:World)(hr:Ae w A (Bd l))(hc:l.length<=c)(hcm:c<=9223372036854775807) :
  Calls Tryz.prog 194 #[.slice A l.length c,.int .i64 (i:Nat),.int .i64 (k:Nat)] w fun e w'=>∃v,e=.returned v/\w'.ownsRow w.heap.size 176 5 v (NE l l[i] l[k]).length (Bd (NE l l[i] l[k]))/\Aa w w':=by
 have pe:=Px;have pn:=RA;obtain⟨x,hx⟩:=ArV (l[i]);obtain⟨y,hy⟩:=ArV (l[k]);rw [←hx,←hy];have GR:(0:Int)<=(i:Int):=(by omega);have Jw:(i:Int)<(l.length:Int):=(by omega);have hk0:(0:Int)<=(k:Int):=(by omega);have BX:(k:Int)<(l.length:Int):=by omega
 have kN:∀wr,Aa w wr→∃b o,A=some ⟨b,o,none⟩/\JS wr b (o+i*5) x:=fun wr hE=>by obtain⟨b,o,e,h⟩:=Mj (hr.ext hE) hi;exact⟨b,o,e,by rw [hx];exact h⟩
 have qd:∀wr,Aa w wr→∃b o,A=some ⟨b,o,none⟩/\JS wr b (o+k*5) y:=fun wr hE=>by obtain⟨b,o,e,h⟩:=Mj (hr.ext hE) hk;exact⟨b,o,e,by rw [hy];exact h⟩
 obtain⟨bA,oA,rfl,-⟩:=kN w (Aa.refl w)
 have hx':∀wr,Aa w wr→JS wr bA (oA+i*5) x:=fun wr hx=>by obtain⟨b,o,e,h⟩:=kN wr hx;simp only [Ase,Addr.mk.injEq,and_true]at e;obtain⟨rfl,rfl⟩:=e;exact h
 have hy':∀wr,Aa w wr→JS wr bA (oA+k*5) y:=fun wr hx=>by obtain⟨b,o,e,h⟩:=qd wr hx;simp only [Ase,Addr.mk.injEq,and_true]at e;obtain⟨rfl,rfl⟩:=e;exact h
 have bc:=fun (w1:World) (h1:Aa w w1)=>VJ l x (some ⟨bA,oA,none⟩) c w1 (hr.ext h1) hc hcm;obtain⟨ot,jM⟩:=ArV (Ek l x);rw [←jM]at bc;have hJ:NE l x y=l.filter (CJ x.b) ++ [⟨x.a,y.b,x.l⟩,⟨y.b,x.a,ot⟩]:=(by rw [jM];rfl);rw [hJ];have hbA:bA<w.heap.size:=World.block_lt_of_cell? w _ (hx' w (Aa.refl w)).c0;have hl0:(0:Int)<=(l.length:Int):=(by omega);clear hx hy kN qd jM hJ;have H0:=hx' w (Aa.refl w);have H1:=hy' w (Aa.refl w);obtain⟨a0,a1,a2,a3,a4⟩:=H0;obtain⟨b0,b1,b2,b3,b4⟩:=H1;have X:Aa w w:=Aa.refl w
 have SO:∀w',Aa w w'→(w'.cell? ⟨bA,oA+i*5,none⟩=some (S (R x.a.x))/\w'.cell? ⟨bA,oA+i*5+1,none⟩=some (S (R x.a.y))/\w'.cell? ⟨bA,oA+i*5+2,none⟩=some (S (R x.b.x))/\w'.cell? ⟨bA,oA+i*5+3,none⟩=some (S (R x.b.y))/\w'.cell? ⟨bA,oA+k*5+2,none⟩=some (S (R y.b.x))/\w'.cell? ⟨bA,oA+k*5+3,none⟩=some (S (R y.b.y))):=fun w' h=>⟨h.cellS a0,h.cellS a1,h.cellS a2,h.cellS a3,h.cellS b2,h.cellS b3⟩
 go_enter Tryz.func194,Tryz.ntmps194
 go_upto_region 2 with fail
 go_cut [8,9,10] (fun v8 v9 v10 wx=>∃p q r,v8=.pointer (some ⟨p,0,none⟩)/\v9=.pointer (some ⟨q,0,none⟩)/\v10=.pointer (some ⟨r,0,none⟩)/\wx.heap[p]?=some (.cells #[S (R x.a.x),S (R x.a.y)] 94)/\wx.heap[q]?=some (.cells #[S (R x.b.x),S (R x.b.y)] 94)/\wx.heap[r]?=some (.cells #[S (R y.b.x),S (R y.b.y)] 94)/\w.heap.size<=p/\w.heap.size<=q/\w.heap.size<=r/\Aa w wx)
 case first=>
  go_region_held3 (fun w'=>w'.cell? ⟨bA,oA+i*5,none⟩=some (S (R x.a.x))/\w'.cell? ⟨bA,oA+i*5+1,none⟩=some (S (R x.a.y))/\w'.cell? ⟨bA,oA+i*5+2,none⟩=some (S (R x.b.x))/\w'.cell? ⟨bA,oA+i*5+3,none⟩=some (S (R x.b.y))/\w'.cell? ⟨bA,oA+k*5+2,none⟩=some (S (R y.b.x))/\w'.cell? ⟨bA,oA+k*5+3,none⟩=some (S (R y.b.y)))
   ((refine SO _ ?_;repeat (first|exact X|(with_reducible refine Aa.drew ?_)|(with_reducible refine Aa.alloc ?_ _)|(with_reducible refine Aa.setCell ?_ (by simp) _))))
   (fail)
  all_goals go_wp2
  all_goals go_meet
  all_goals (
   refine⟨_,_,_,rfl,rfl,rfl,?_,?_,?_,by omega,by omega,by omega,?_⟩
   all_goals try unfold S
   all_goals first
    | with_reducible exact(AC _ _ _ _).1
    | with_reducible exact(AC _ _ _ _).2.1
    | with_reducible exact(AC _ _ _ _).2.2.1
    | with_reducible exact(AC _ _ _ _).2.2.2)
 case rest=>
  obtain⟨p,q,r,rfl,rfl,rfl,hp,hq,GX,lp,lq,lr,hX⟩:=hcut;obtain⟨wx,rfl⟩:=J9 hX;have c0:=hX.cellS a0;have c1:=hX.cellS a1;have c2:=hX.cellS a2;have c3:=hX.cellS a3;have c4:=hX.cellS a4;have bx:=bc wx hX;unfold Gw at bx;clear SO X a0 a1 a2 a3 b0 b1 b2 b3 b4 bc;(go_wp2_with fail);(with_reducible refine bx.mono ?_);rintro e w1 ⟨rfl,hx1⟩;have Fb:=hX.trans hx1;have ED:=(hx1.block _ (ArX hp)).trans hp;have Bg:=(hx1.block _ (ArX hq)).trans hq;have hr1:=(hx1.block _ (ArX GX)).trans GX;clear hp hq GX c0 c1 c2 c3 c4 bx
  go_upto_region 5 with fail
  go_loopw [7,37] (fun ov iv wr=>∃j:Nat,iv=.int .i64 (j:Nat)/\j<=l.length/\wr.ownsRow w1.heap.size 176 5 ov ((l.take j).filter (CJ x.b)).length (Bd ((l.take j).filter (CJ x.b)))/\Aa w1 wr) (fun _ iv _=>l.length-(intOf iv).toNat)
  case atStart=>exact⟨0,rfl,by omega,⟨rfl,.inl ⟨rfl,rfl⟩⟩,Aa.refl _⟩
  case round=>
   obtain⟨j,rfl,hj,hown,Ad⟩:=hrel;by_cases hlt:j<l.length
   ·obtain⟨VH,Yu,e,f0,f1,f2,f3,f4⟩:=Mj (hr.ext (Fb.trans Ad)) hlt;simp only [Ase,Addr.mk.injEq,and_true]at e;obtain⟨rfl,rfl⟩:=e;obtain⟨h,hh⟩:=ArV (l[j]);rw [←hh]at f0 f1 f2 f3 f4
    have G0:(l.take (j+1)).filter (CJ x.b)=(l.take j).filter (CJ x.b)++(if CJ x.b h=true then [h] else []):=by rw [Asd hlt,List.filter_append,←hh];simp [List.filter_cons]
    have OV:((l.take j).filter (CJ x.b)).length<200000:=by have:=List.length_filter_le (CJ x.b) (l.take j);rw [List.length_take]at this;omega
    have hj0:(0:Int)<=(j:Int):=(by omega);have A7:(j:Int)<(l.length:Int):=(by omega);have HT:=ArW G0;generalize (l.take j).filter (CJ x.b)=lj at *;clear hh G0;have Ap:=ArY wr (.cells #[S (R h.a.x),S (R h.a.y),S (R h.b.x),S (R h.b.y),.int .i64 h.l] 176);have E4:=(Aa.refl wr).alloc (.cells #[S (R h.a.x),S (R h.a.y),S (R h.b.x),S (R h.b.y),.int .i64 h.l] 176);have QQ:=((Ad.trans E4).block _ (ArX Bg)).trans Bg;have IF:=Ao hown E4;have Cl:=Ad.trans E4
    go_upto_region 7 with fail
    unfold S at Ap E4 QQ IF Cl;generalize (wr.alloc (.cells #[.string ⟨(R h.a.x).toArray⟩,.string ⟨(R h.a.y).toArray⟩,.string ⟨(R h.b.x).toArray⟩,.string ⟨(R h.b.y).toArray⟩,.int .i64 h.l] 176))=W4 at *;obtain⟨bh,DG⟩:=ArV wr.heap.size;rw [←DG]at Ap ⊢;clear DG f0 f1 f2 f3 f4 E4;have z0:=Ab (o:=0) Ap rfl;have z1:=Ab (o:=1) Ap rfl;have z2:=Ab (o:=2) Ap rfl;have z3:=Ab (o:=3) Ap rfl;have z4:=Ab (o:=4) Ap rfl;have y0:=Ab (o:=0) QQ rfl;have y1:=Ab (o:=1) QQ rfl
    cases e1:An h.a x.b
    ·cases e2:An h.b x.b
     ·have hk:CJ x.b h=true:=(by unfold CJ;rw [e1,e2];rfl);have HK:=ArW (show (l.take (j+1)).filter (CJ x.b)=lj ++ [h] by rw [HT.out,if_pos hk]);have hbase:w1.heap.size<=W4.heap.size:=Cl.size;obtain⟨Yv,oc,rfl,-,-,-⟩:=Ae.of_own' (by omega) IF
      go_wp2_with (at_builtin;go_loud (refine aE rfl _ _ rfl _ w1.heap.size (.slice Yv lj.length oc) lj.length lj [h] rfl (Ao IF ((Aa.refl W4).alloc _)) OV (by simp) W4.heap.size 1 rfl (by rw [WY];exact ArY W4 _) rfl (by simp;omega) ?_);intro v7 w7 Dm Ia EB)
      have BP:=Ia w1 (Cl.trans ((Aa.refl W4).alloc _)) (ArZ _);clear EB Ia z0 z1 z2 z3 z4 y0 y1;go_wp2;go_roundw
      case rel=>exact⟨j+1,by go_num,hlt,by rw [HK.out,List.length_append];exact Dm,BP⟩
      case measure=>simp [intOf];omega
     ·have hk:CJ x.b h=false:=(by unfold CJ;rw [e1,e2];rfl);have HK:=ArW (show (l.take (j+1)).filter (CJ x.b)=lj by rw [HT.out,hk];simp);go_wp2;go_roundw
      case rel=>exact⟨j+1,by go_num,hlt,by rw [HK.out];exact IF,Cl⟩
      case measure=>simp [intOf];omega
    ·have hk:CJ x.b h=false:=(by unfold CJ;rw [e1];rfl);have HK:=ArW (show (l.take (j+1)).filter (CJ x.b)=lj by rw [HT.out,hk];simp);go_wp2;go_roundw
     case rel=>exact⟨j+1,by go_num,hlt,by rw [HK.out];exact IF,Cl⟩
     case measure=>simp [intOf];omega
   ·have Dl:j=l.length:=(by omega);subst Dl;rw [List.take_length]at hown
    have OV:(l.filter (CJ x.b)).length<200000:=by have:=List.length_filter_le (CJ x.b) l;omega
    obtain⟨lj,jA⟩:=ArV (l.filter (CJ x.b));rw [←jA]at hown OV;have HLJ:=ArW jA;clear jA;have J2:=(Ad.block _ (ArX ED)).trans ED;have hr2:=(Ad.block _ (ArX hr1)).trans hr1;obtain⟨-,-,-,-,c4⟩:=hx' wr (Fb.trans Ad);have y0:=Ab (o:=0) J2 rfl;have y1:=Ab (o:=1) J2 rfl;have y2:=Ab (o:=0) hr2 rfl;have y3:=Ab (o:=1) hr2 rfl;have hbase:w1.heap.size<=wr.heap.size:=Ad.size;have BN:=Fb.trans Ad;have hnl:(l.length:Int)<=(l.length:Int):=(by omega);obtain⟨Yv,oc,rfl,-,-,-⟩:=Ae.of_own' (by omega) hown;have p1':=Ad;obtain⟨-,-,-,-,d4⟩:=hx' w1 Fb;have X:=Ad
    have SO:∀w',Aa w1 w'→(w'.cell? ⟨p,0,none⟩=some (S (R x.a.x))/\w'.cell? ⟨p,1,none⟩=some (S (R x.a.y))/\w'.cell? ⟨r,0,none⟩=some (S (R y.b.x))/\w'.cell? ⟨r,1,none⟩=some (S (R y.b.y))/\w'.cell? ⟨bA,oA+i*5+4,none⟩=some (.int .i64 x.l)):=fun w' h=>⟨h.cellS (Ab ED rfl),h.cellS (Ab ED rfl),h.cellS (Ab hr1 rfl),h.cellS (Ab hr1 rfl),h.cellS d4⟩
    clear ED Bg hr1 J2 hr2 p1'
    go_upto_region 10 with fail
    go_region_held3 (fun w'=>w'.cell? ⟨p,0,none⟩=some (S (R x.a.x))/\w'.cell? ⟨p,1,none⟩=some (S (R x.a.y))/\w'.cell? ⟨r,0,none⟩=some (S (R y.b.x))/\w'.cell? ⟨r,1,none⟩=some (S (R y.b.y))/\w'.cell? ⟨bA,oA+i*5+4,none⟩=some (.int .i64 x.l))
     (first|with_reducible exact SO _ X|with_reducible exact SO _ X.drew|with_reducible exact SO _ (X.alloc _)|with_reducible exact SO _ (X.alloc _).drew|with_reducible exact SO _ (X.drew.alloc _))
     (first|(refine Abd rfl _ _ rfl _ w1.heap.size (.slice Yv lj.length oc) lj.length lj [⟨x.a,y.b,x.l⟩,⟨y.b,x.a,ot⟩] rfl (Ao hown ((Aa.refl wr).alloc _).drew) OV (by simp) wr.heap.size 2 rfl (by rw [AhN];exact ArY wr _) rfl (by simp;omega) ?_;intro v7 w7 Dm Ia EB;replace X:=Ia w1 (X.alloc _).drew (ArZ _)))
    go_wp2;go_ret;have Ay:=NP Dm (Asl Fb.size (ArZ _));exact⟨v7,rfl,by rw [List.length_append,←HLJ.out];exact Ay,Fb.trans X⟩
def DT(n:Nat)(l:List Hf):Prop:=∀h∈l,C3 h.a/\C3 h.b/\h.a≠h.b/\-1<=h.l/\h.l<(n:Int)
theorem DT.ok{n:Nat}{l:List Hf}(h:DT n l):qW l:=fun x hx=>⟨(h x hx).1,(h x hx).2.1⟩
theorem DT.back{n:Nat}{l:List Hf}(h:DT n l)(x:Hf):-1<=Ek l x/\Ek l x<(n:Int):=by
 rcases AdZ l x with e|⟨y,hy,e⟩
 ·rw [e];omega
 ·rw [e];exact⟨(h y hy).2.2.2.1,(h y hy).2.2.2.2⟩
theorem mT{p q:Pt}(h:An p q=false):p≠q:=by
 rintro rfl;rw [BY.2 rfl]at h
 cases h
theorem AjM{n:Nat}{l:List Hf}(h:DT n l){x y:Hf}(hx:x∈l)(hy:y∈l)(hne:An x.a y.b=false):DT n (NE l x y):=by
 intro z hz;unfold NE at hz
 rcases List.mem_append.1 hz with hz|hz
 ·exact h z (List.mem_filter.1 hz).1
 ·have h1:=h x hx;have h2:=h y hy;have h3:=h.back x;have h4:=mT hne;simp only [List.mem_cons,Asm,or_false]at hz
  rcases hz with rfl|rfl
  ·exact⟨h1.1,h2.2.1,h4,h1.2.2.2.1,h1.2.2.2.2⟩
  ·exact⟨h2.2.1,h1.1,h4.symm,h3.1,h3.2⟩
theorem uV{α:Type}{p q:α→Bool} : ∀{l:List α},(∀x∈l,p x=true→q x=true)→(∃x∈l,q x=true/\p x=false)→l.countP p<l.countP q
 | [],_,h=>by obtain⟨x,hx,_⟩:=h;cases hx
 | a::l,h1,h2=>by
  have hle:l.countP p<=l.countP q:=List.countP_mono_left (fun x hx=>h1 x (List.mem_cons_of_mem _ hx));obtain⟨x,hx,hq,hp⟩:=h2
  rcases List.mem_cons.1 hx with rfl|hx
  ·rw [List.countP_cons,List.countP_cons,hq,hp];simp;omega
  ·have:=uV (fun x hx=>h1 x (List.mem_cons_of_mem _ hx)) ⟨x,hx,hq,hp⟩;have ha:=h1 a List.mem_cons_self;rw [List.countP_cons,List.countP_cons]
   cases DK:p a
   ·cases q a<;>simp<;>omega
   ·rw [ha DK];simp;omega
theorem AjL{n:Nat}{l:List Hf}(h:DT n l){x y:Hf}(hx:x∈l)(hc:I2 l x.b=2):(NE l x y).length<l.length:=by
 have h1:2<l.countP (fun z=>!CJ x.b z):=by
  rw [←hc];refine uV (fun z _ hz=>?_) ⟨x,hx,?_,?_⟩
  ·unfold CJ;rw [hz];simp
  ·unfold CJ;rw [BY.2 (rfl:x.b=x.b)];simp
  ·rw [Bool.eq_false_iff];exact fun k=>(h x hx).2.2.1 (BY.1 k)
 have h2:=List.length_eq_countP_add_countP (CJ x.b) (l:=l)
 have h3:l.countP (fun a=>decide ¬CJ x.b a=true)=l.countP (fun z=>!CJ x.b z):=by congr 1;funext a;cases CJ x.b a<;>rfl
 rw [h3]at h2;unfold NE;rw [List.length_append,←List.countP_eq_length_filter];simp only [List.length_cons,List.length_nil];omega
def It(a b q:Pt):Prop:=JH a.x b.x q.x=true/\JH a.y b.y q.y=true
theorem within_iff(a b x:Rat):JH a b x=true↔(a<=x∨b<=x)/\(x<=a∨x<=b):=by
 unfold JH II IH;simp only [Bool.and_eq_true,decide_eq_true_eq];constructor
 ·rintro⟨h1,h2⟩;constructor
  ·split at h1<;>grind
  ·split at h2<;>grind
 ·rintro⟨h1,h2⟩;constructor
  ·split<;>grind
  ·split<;>grind
def dst(p q:Pt):Nat:=((p.x*2).floor-(q.x*2).floor).natAbs+((p.y*2).floor-(q.y*2).floor).natAbs
theorem Ag5(a:Int):((a:Rat)/2*2).floor=a:=by
 have:(a:Rat)/2*2=(a:Rat):=(by grind);rw [this];exact Rat.floor_intCast a
theorem bT(u v:Int×Int):dst (gp u) (gp v)=(u.1-v.1).natAbs+(u.2-v.2).natAbs:=by
 unfold dst gp;simp only [Ag5]
theorem AfA{p q:Pt}(hp:C3 p)(hq:C3 q):dst p q<=12:=by
 obtain⟨u,hu,rfl⟩:=hp;obtain⟨v,hv,rfl⟩:=hq;rw [bT];have:=hu.x0;have:=hu.x1;have:=hu.y0;have:=hu.y1;have:=hv.x0;have:=hv.x1;have:=hv.y0;have:=hv.y1;omega
theorem Aj8{u v t:Int×Int} : It (gp u) (gp v) (gp t)↔((u.1<=t.1∨v.1<=t.1)/\(t.1<=u.1∨t.1<=v.1))/\((u.2<=t.2∨v.2<=t.2)/\(t.2<=u.2∨t.2<=v.2)):=by
 unfold It gp;simp only [within_iff,Ah6]
theorem AfB{a b q:Pt}(ha:C3 a)(hb:C3 b)(hq:C3 q)(h:It a b q)(hne:q≠a):dst q b<dst a b:=by
 obtain⟨u,hu,rfl⟩:=ha;obtain⟨v,hv,rfl⟩:=hb;obtain⟨t,ht,rfl⟩:=hq;rw [Aj8]at h;rw [bT,bT];have hn:¬(t.1=u.1/\t.2=u.2):=fun k=>hne (by rw [show t=u from Prod.ext k.1 k.2]);omega
theorem Aj9(a b:Pt):It a b b:=by
 unfold It;rw [within_iff,within_iff]
 grind
theorem AjA{a b n q:Pt}(h1:It a b n)(h2:It a n q):It a b q:=by
 unfold It at *;rw [within_iff,within_iff]at *
 grind
theorem Aer{a b q:Pt}(h:PZ a b q=true):It a b q:=by
 unfold PZ at h;simp only [Bool.and_eq_true]at h;exact h.2
structure G9(w:World)(A:Option Addr)(c:Nat)(P:List (List Pt×Bs)):Prop where
 c1:P.length<=c
 c2:c<=9223372036854775807
 row:∀j (h:j<P.length),∃b o A' c',A=some ⟨b,o,none⟩/\w.cell? ⟨b,o+j*3,none⟩=some (.slice A' P[j].1.length c')/\w.cell? ⟨b,o+j*3+1,none⟩=some (S P[j].2)/\w.cell? ⟨b,o+j*3+2,none⟩=some (.slice none 0 0)/\Ae w A' (flat (Ak P[j].1))/\P[j].1.length<=c'/\c'<=9223372036854775807
theorem G9.ext{w w':World}{A:Option Addr}{c:Nat}{P:List (List Pt×Bs)}(h:G9 w A c P)(hx:Aa w w'):G9 w' A c P:=
 ⟨h.c1,h.c2,fun j hj=>by
  obtain⟨b,o,A',c',h1,h2,h3,h4,h5,h6,h7⟩:=h.row j hj
  exact⟨b,o,A',c',h1,hx.cellS h2,hx.cellS h3,hx.cellS h4,h5.ext hx,h6,h7⟩⟩
structure Sw(P:List (List Pt×Bs)):Prop where
 len:P.length<=18
 pts:∀e∈P,(∀p∈e.1,C3 p)/\e.1.length<=4
 un:∀e∈P,∃n:Nat,e.2=Bi n
theorem AnE{α β:Type}(E:List (α×β)){seen:List Nat}(Cr:seen.Nodup)(hlt:∀i∈seen,i<E.length)(hlen:seen.length=E.length):(seen.filterMap (fun i=>E[i]?.map (·.1))).Perm (E.map (·.1)):=by
 have hmem:∀i,i<E.length→i∈seen:=by
  intro i hi;refine Classical.byContradiction fun hn=>?_;have h1:(i::seen).Nodup:=List.nodup_cons.2 ⟨hn,Cr⟩
  have h2:(i::seen) ⊆ List.range E.length:=by
   intro j hj
   rcases List.mem_cons.1 hj with rfl|hj
   ·simpa using hi
   ·simpa using hlt j hj
  have:=h1.length_le_of_subset h2;simp at this;omega
 have hp:seen.Perm (List.range E.length):=by
  rw [List.perm_iff_count];intro i;rw [Cr.count,(List.nodup_range).count];by_cases hi:i<E.length
  ·rw [if_pos (hmem i hi),if_pos (by simpa using hi)]
  ·rw [if_neg (fun h=>hi (hlt i h)),if_neg (by simpa using hi)]
 refine(hp.filterMap _).trans ?_;have e1:(List.range E.length).filterMap (fun i=>E[i]?.map (·.1))=((List.range E.length).filterMap (fun i=>E[i]?)).map (·.1):=(by rw [List.map_filterMap]);rw [e1,Aam E]
theorem rx(mb:Option Nat)(w:World) :
  Calls Tryz.prog 186 #[.map mb] w fun e w'=>e=.returned (.func (.func 263) #[] #[.pointer (some ⟨w.heap.size,0,none⟩)])/\w'=w.alloc (.cells #[.map mb] 132):=by
 go_enter Tryz.func186,Tryz.ntmps186;go_wp2;go_ret;exact⟨rfl,rfl⟩
theorem AjR(F:Fence)(n:Nat)(h10:F.fn 263)(hro:F.round=none)(hn:1<=n)(l Bm b:Nat)(E:List (Pt×Value×Nat))(hst:∀i (h:i<E.length),E[i].2.2=i)(J:List Pt→World→Prop)
  (hY:∀pre x W,J pre W→pre.length<E.length→YieldAt F (n-1) Tryz.prog l #[Af x] W fun e W'=>e=.returned (.bool true)/\J (pre ++ [x]) W'/\KeepsWalks W W')
  (W:World) (hJ:AbidesFrom W.heap.size J) (hm:W.cell? ⟨Bm,0,none⟩=some (.map (some b))) (hb:W.heap[b]?=some (.map (AG Af E).toArray E.length)) (h0:J [] W) :
  CallsIn F n Tryz.prog 263 #[.func (.yield l) #[] #[],.pointer (some ⟨Bm,0,none⟩)] W fun e W'=>(∃v,e=.returned v)/\∃ss:List Pt,ss.Perm (E.map (·.1))/\J ss W':=by
 have hlt:=ArX hb;obtain⟨hr1,hr2⟩:=CX.range (enc:=Af) (E:=E) (t:=132) Tryz.underlying132 (W:=W) (b:=b) hb;have hG:=(Aa.refl W).alloc (.mapIter (some b) E.length #[] E.length);have hJ1:=hJ [] W _ none h0 (GG hG none) (fun r e=>by cases e);have hb1:=(hG.block b hlt).trans hb;refine callsIn_of_wp Tryz.func263 rfl h10 ?_ hro;simp only [Tryz.ntmps263,List.size_toArray,List.length_cons,List.length_nil,Nat.reduceAdd,Nat.reduceSub,Array.replicate_succ,Array.replicate_zero,List.push_toArray,List.append_toArray,List.nil_append,List.cons_append];gi_wp2;generalize W.alloc (.mapIter (some b) E.length #[] E.length)=V at *;obtain⟨r,hr⟩:=ArV W.heap.size;rw [←hr]at hr2 hlt hJ ⊢;clear hr hr1 hG hb hm h0
 gi_loopw [3] (fun _ wr=>∃seen:List Nat,CX wr r b E seen/\wr.heap[b]?=some (.map (AG Af E).toArray E.length)/\J (seen.filterMap (fun i=>E[i]?.map (·.1))) wr)
  (fun _ wr=>E.length-(wr.iterSeen r).size)
 case atStart=>exact⟨[],hr2,hb1,hJ1⟩
 case round=>
  obtain⟨seen,hI,hbr,hJs⟩:=hrel
  rcases CX.next Af hI hbr hst (by omega) 0 with⟨hlen,hrun⟩|⟨i,hi,Ep,W1,Gp,hG1,hs1,hrun,hen⟩
  ·have hP:=AnE E hI.nd hI.lt hlen;gi_wp2
   go_end0
   exact⟨⟨_,rfl⟩,_,hP,hJs⟩
  ·have LC:=hi
   have hstep:(seen ++ [i]).filterMap (fun i=>E[i]?.map (·.1))=seen.filterMap (fun i=>E[i]?.map (·.1)) ++ [(E[i]).1]:=by rw [List.filterMap_append];simp only [List.filterMap_cons,List.filterMap_nil,Asf LC,Option.map_some]
   have hlen':seen.length<E.length:=by
    have h2:(i::seen) ⊆ List.range E.length:=by
     intro j hj
     rcases List.mem_cons.1 hj with rfl|hj
     ·simpa using LC
     ·simpa using hI.lt j hj
    have:=(List.nodup_cons.2 ⟨Ep,hI.nd⟩).length_le_of_subset h2;simp at this;omega
   have CB:=Fi hI;have hJ2:=hJ _ wr W1 (some r) hJs hG1 (fun r' e=>by cases e;exact⟨ArZ _,_,hI.it,rfl⟩);have hb2:=(hG1.block b (ArX hbr) (by simp;omega)).trans hbr;have GP:=hen W1 rfl rfl;obtain⟨s,hs⟩:=ArV ((E[i]).1);obtain⟨z,hz⟩:=ArV ((E[i]).2.1);rw [←hs,←hz]at GP hrun;rw [←hs]at hstep;have E3:=(Aa.refl W1).alloc (.cells #[S (R s.x),S (R s.y)] 94);have Fa:=ArY W1 (.cells #[S (R s.x),S (R s.y)] 94);have Tn:=hJ _ W1 _ none hJ2 (GG E3 none) (fun r' e=>by cases e);have hpl:(seen.filterMap (fun i=>E[i]?.map (·.1))).length<E.length:=Nat.lt_of_le_of_lt (List.length_filterMap_le _ _) hlen';obtain⟨fn,tmps,assign,body,hy,hR⟩:=hY _ s _ Tn hpl;have DD:=Gp.keep (E3.block r (ArX Gp.it));have hb4:=(E3.block b (ArX hb2)).trans hb2;have g0:=Ab (o:=0) Fa rfl;have g1:=Ab (o:=1) Fa rfl;clear hs1 hen hs hz Fa E3 Tn hJ2;unfold Af at GP hrun hy;unfold S at hy GP hrun g0 g1 DD hb4 hR;gi_wp2;refine hR.mono ?_;rintro e W3 ⟨rfl,hJ3,hk3⟩;gi_wp2;go_roundw
   case rel=>exact⟨seen ++ [i],⟨hk3.same r _ DD.it rfl,DD.nd,DD.lt⟩,hk3.same b _ hb4 rfl,by rw [hstep];exact hJ3⟩
   case measure=>rw [CB,Fi (W:=W3) (b:=b) (E:=E) (seen:=seen ++ [i]) ⟨hk3.same r _ DD.it rfl,DD.nd,DD.lt⟩,List.length_append,List.length_singleton];omega
theorem AjS(F:Fence)(n:Nat)(h10:F.fn 263)(hro:F.round=none)(hn:1<=n)(Bm b:Nat)(E:List (Pt×Value×Nat))(hst:∀i (h:i<E.length),E[i].2.2=i)(w:World)(hBm:Bm<w.heap.size)
  (hm:w.cell? ⟨Bm,0,none⟩=some (.map (some b))) (hb:w.heap[b]?=some (.map (AG Af E).toArray E.length)) :
  SeqGives F n Tryz.prog 263 #[.pointer (some ⟨Bm,0,none⟩)] Af (fun ss=>ss.Perm (E.map (·.1))) E.length w:=fun l J W hW hJ hY h0=>
 AjR F n h10 hro hn l Bm b E hst J hY W hJ ((hW.cell (p:=⟨Bm,0,none⟩) hBm).trans hm) ((hW.block b (ArX hb)).trans hb) h0
end Go.Proofs.YtbejphgbbpplbaaGreatDoor
