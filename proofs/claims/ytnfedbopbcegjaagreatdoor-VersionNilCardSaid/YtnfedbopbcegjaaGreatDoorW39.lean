/- W39. -/
import Derived.Test.YtnfedbopbcegjaaGreatDoorW38
set_option maxRecDepth 100000
set_option maxHeartbeats 16000000
namespace Go.Proofs.YtnfedbopbcegjaaGreatDoor
open Go.RowKit Kl
def Fe(n k:Nat):List Int:=(List.range n).map (fun i=>if i<k then (i:Int)else 0)
theorem Aas(n:Nat):Fe n 0=zn (List.replicate n 0):=by
 unfold Fe zn;apply List.ext_getElem
 ·simp
 ·intro i h1 h2;simp
theorem WB(n k:Nat):(Fe n k).length=n:=by simp [Fe]
theorem Aar{n k:Nat} : (Fe n k).set k (k:Int)=Fe n (k+1):=by
 unfold Fe;apply List.ext_getElem
 ·simp
 ·intro i h1 h2;by_cases h:k=i
  ·subst h;simp
  ·rw [List.getElem_set_ne h];have:(i<k+1)↔i<k:=(by omega);simp [this]
theorem Aaq(n:Nat):∀z∈Fe n n,0<=z/\z<(n:Int):=by
 intro z hz;unfold Fe at hz;rw [List.mem_map]at hz;obtain⟨i,hi,rfl⟩:=hz;rw [List.mem_range]at hi;rw [if_pos hi];omega
theorem zY:∀(l:List Int) (k:Nat) (z:Int) (h:k<l.length),z<l[k]→(l.set k z).sum<l.sum
 | a::l,0,z,_,h=>by simp at h ⊢;omega
 | a::l,k+1,z,hk,h=>by have:=zY l k z (by simpa using hk) (by simpa using h);simp only [List.set_cons_succ,List.sum_cons];omega
theorem zX:∀(l:List Int),(∀z∈l,0<=z)→0<=l.sum
 | [],_=>by simp
 | a::l,h=>by have h1:=zX l (fun z hz=>h z (List.mem_cons_of_mem _ hz));have h2:=h a List.mem_cons_self;simp only [List.sum_cons];omega
theorem Aap(P:List (List Pt×Bs))(l:List Hf)(n:Nat):K2 P l (Fe n n):=by
 intro g _ z hz;rw [WB]at hz
 have:(Fe n n).getD z 0=(z:Int):=by rw [List.getD_eq_getElem?_getD,AjS (by rw [WB];exact hz)];simp [Fe,hz]
 rw [this]
def aY(w:World)(b n:Nat):Nat:=(((List.range n).map (fun i=>match w.cell? ⟨b,i,none⟩with|some (.int _ z)=>z|_=>0)).sum).toNat
theorem zW{w:World}{B b n:Nat}{fs:List Int}(h:w.ownsRow B 3 1 (.slice (some ⟨b,0,none⟩) n n) n (zs fs))(hl:fs.length=n):aY w b n=fs.sum.toNat:=by
 unfold aY
 congr 2
 apply List.ext_getElem
 ·simp [hl]
 ·intro i h1 h2;simp only [List.getElem_map,List.getElem_range];rw [h.cellAt i (by omega)];simp [zs,h2]
theorem AaL(P:List (List Pt×Bs))(hP:Pq P)(A:Option Addr)(c:Nat)(w:World)(hw:Ak w)(h:KC w A c P) :
  Calls Tryz.prog 42 #[.slice A P.length c] w (fu w P):=by
 obtain⟨n,hn⟩:=AjJ P.length;rw [←hn];have HN:=AjK hn;have hlen:n<=18:=(by rw [hn];exact hP.len);have HA:=AjK h;have Dy:=AjM w (.cells #[.slice none 0 0,.slice none 0 0,.slice none 0 0] 44);have E1:=(Aa.refl w).alloc (.cells #[.slice none 0 0,.slice none 0 0,.slice none 0 0] 44);have sd:=AgC P hP A c _ (hw.ext E1) (h.ext E1);rw [←hn]at sd;have EB:(0:Int)<=(n:Int):=(by omega);clear hn hP h;go_enter Tryz.func42,Tryz.ntmps42;(go_wp2_with fail);(with_reducible refine sd.mono ?_);rintro e w1 ⟨v,l,rfl,hv,hl,JW,hx1,Q3⟩;have RJ:=AjK Q3;clear Q3;obtain⟨vA,vc,rfl,C5,sM,sN⟩:=Ad.of_own' (by omega) hv;have HL:=AjK hl;have Ll:=(hx1.block _ (AjL Dy)).trans Dy;have hmk:=Z6 n (by omega) (n:Int) rfl (w1.alloc (.cells #[.slice vA l.length vc] 142));have hbl:=AjM w1 (.cells #[.slice vA l.length vc] 142);have E2:=(Aa.refl w1).alloc (.cells #[.slice vA l.length vc] 142);have E3:=(Aa.refl (w1.alloc (.cells #[.slice vA l.length vc] 142))).alloc (.cells (madeCells #[.int .i64 0] n) 3);have E4:=(Aa.refl ((w1.alloc (.cells #[.slice vA l.length vc] 142)).alloc (.cells (madeCells #[.int .i64 0] n) 3))).alloc (.cells #[.slice (some ⟨w1.heap.size+1,0,none⟩) n n] 51);have IX:=Am (ZU (w1.alloc (.cells #[.slice vA l.length vc] 142)) 0 n (Nat.zero_le _) (by omega)) E4;rw [AjU]at IX;have Gk:=AjM ((w1.alloc (.cells #[.slice vA l.length vc] 142)).alloc (.cells (madeCells #[.int .i64 0] n) 3)) (.cells #[.slice (some ⟨w1.heap.size+1,0,none⟩) n n] 51);rw [AjU,AjU]at Gk;have TI:=((E3.trans E4).block _ (AjL hbl)).trans hbl;have OX:=E2.trans (E3.trans E4);have TD:=(OX.block _ (AjL Ll)).trans Ll;have BB:=(E1.trans hx1).trans OX;have hv4:=Am hv OX;rw [←Aas]at IX;have Ajm:=(E1.trans hx1).size;have Ab6:=Ll;clear hl sd E2 E3 E4 hbl Ll Dy
 go_upto_region 4 with fail
 clear hmk;generalize ((w1.alloc (.cells #[.slice vA l.length vc] 142)).alloc (.cells (madeCells #[.int .i64 0] n) 3)).alloc (.cells #[.slice (some ⟨w1.heap.size+1,0,none⟩) n n] 51)=V at *;obtain⟨bl,nB⟩:=AjJ w1.heap.size;rw [←nB]at IX Gk TI ⊢;have Ajp:w.heap.size<=bl:=(by omega);have Ajl:w1.heap.size<=bl:=(by omega);clear nB
 go_loopw [5] (fun iv wr=>∃i:Nat,iv=.int .i64 (i:Nat)/\i<=n/\wr.ownsRow 0 3 1 (.slice (some ⟨bl+1,0,none⟩) n n) n (zs (Fe n i))/\Al (fun q=>q=bl+1) V wr) (fun iv _=>n-(intOf iv).toNat)
 case atStart=>exact⟨0,rfl,by omega,IX,Al.refl _ _⟩
 case round=>
  obtain⟨i,rfl,hi,ho,hB⟩:=hrel;have Qc:=hB.cells Gk (by omega);by_cases hin:i<n
  ·have k0:=Ab (o:=0) Qc rfl
   have hce:wr.cell? ⟨bl+1,i,none⟩=some (.int .i64 0):=by rw [ho.cellAt i (by omega)];simp [zs,Fe,hin]
   have Qo:=ho.frozenAt i;have hst:=ho.stored i (.int .i64 (i:Int));rw [bW,Aar]at hst;have hB2:=hB.grown hst.2 (fun q e=>by cases e;exact .inl rfl);have Oi:(0:Int)<=(i:Int):=(by omega);have JU:(i:Int)<(n:Int):=(by omega);have HS:=AjK (And.intro hst.1 hB2);clear hst hB2;go_wp2;go_roundw
   case rel=>exact⟨i+1,by go_num,hin,HS.out.1,HS.out.2⟩
   case measure=>simp [intOf];omega
  ·have Yp:i=n:=(by omega);subst Yp;have AiK:(i:Int)<=(i:Int):=(by omega);have il:=AjK (WB i i);have Vt:=AjK (Aaq i);have ik:=AjK (Aap P l i);generalize Fe i i=fs0 at *
   go_upto_region 8 with fail
   go_loopw [6] (fun bv wr=>∃(fs:List Int) (b:Bool),bv=.bool b/\fs.length=i/\(∀z∈fs,0<=z/\z<(i:Int))/\K2 P l fs/\(b=false→Jr P l fs l.length)/\wr.ownsRow 0 3 1 (.slice (some ⟨bl+1,0,none⟩) i i) i (zs fs)/\Al (fun q=>q=bl+1) V wr) (fun bv wr=>match bv with | .bool true=>aY wr (bl+1) i+1|_=>0)
   case atStart=>exact⟨fs0,true,rfl,il.out,Vt.out,ik.out,(fun h=>by cases h),ho,hB⟩
   case round=>
    obtain⟨fs,b,rfl,H6,hfr,pD,JS,ho2,hB2⟩:=hrel;have Vu:=AjK (And.intro pD JS);clear pD JS;have HF:=AjK (And.intro H6 hfr);have If:=zW ho2 H6;clear H6 hfr
    cases b
    ·have TG:=hB2.cells TI (by omega);have Qc:=hB2.cells Gk (by omega);have y0:=Ab (o:=0) TG rfl;have Om:∀(fn:Fn) (first cap:Array Value) (w:World),(Instr.makeFunc fn first cap).run Tryz.prog w=.ok (.func fn first cap) w:=fun _ _ _ _=>rfl;have Acl:(0:Int)<=(l.length:Int):=(by omega);have B8:Aa w1 wr:=hB2.toExt OX (fun q e=>by subst e;omega);have Dh:Aa w wr:=hB2.toExt BB (fun q e=>by subst e;omega);have TE:=hB2.cells TD (by have:=AjL Ab6;omega);have rJ:=C5.ext B8;obtain⟨oF,cF,oD,hrF,-,-⟩:=Ad.of_own' (by omega) ho2;simp only [Value.slice.injEq,true_and]at oD;obtain⟨rfl,rfl⟩:=oD;have hHF:=HF.out.1;have rt:=fun (W':World) (h:Aa wr W') (x:Hf)=>Agk l x fs (by rw [HF.out.1];exact HL.out.inn) vA (some ⟨bl+1,0,none⟩) vc i bl (bl+1+1) W' (h.cellS (Ab TG rfl)) (rJ.ext h) sM sN (by rw [HF.out.1];exact h.cellS (Ab Qc rfl)) (hrF.ext h);have Np:=AjK rt;clear rt hHF If;obtain⟨W8,rfl⟩:=MU Dh
     go_upto_region 20 with fail
     clear y0
     go_loopw [10,81] (fun ov jv wr=>∃(ed:List Hf) (j:Nat),jv=.int .i64 (j:Nat)/\j<=l.length/\wr.ownsRow W8.heap.size 145 5 ov ed.length (AO ed)/\Dn i ed/\ed.length<=2*j/\ed=(l.take j).flatMap (Lb l fs)/\Aa W8 wr) (fun _ jv _=>l.length-(intOf jv).toNat)
     case atStart=>exact⟨[],0,rfl,by omega,⟨rfl,.inl ⟨rfl,rfl⟩⟩,(fun h hh=>by cases hh),by simp,rfl,Aa.refl _⟩
     case round=>
      obtain⟨ed,j,rfl,hj,On,hin,hel,oL,Ae⟩:=hrel;have Pe:=AjK hin;have cT:=AjK oL;clear hin oL;by_cases Ay:j<l.length
      ·obtain⟨eA,ec,rfl⟩:=Jj (by omega) On;obtain⟨b',o',rfl,f0,f1,f2,f3',f4⟩:=Kn (rJ.ext Ae) Ay;have MD:=AjO Ay;obtain⟨x,hx⟩:=AjJ (l[j]);rw [←hx]at f0 f1 f2 f3' f4 MD;have hj0:(0:Int)<=(j:Int):=(by omega);have FI:(j:Int)<(l.length:Int):=(by omega);have MQ:=HL.out.inn x MD;have hxn:=HL.out.nn x MD;obtain⟨q,hq⟩:∃q:Nat,x.l=(q:Int):=⟨x.l.toNat,by omega⟩;have YN:q<i:=(by have:=MQ.2.2.2.2;omega);have HQ:=AjK hq;have HST:=AjK (AaJ Ay hx cT.out);clear hq;have H6:fs.length=i:=HF.out.1;have cq:=ho2.cellAt q (by omega);have Og:(zs fs)[q]?=some (.int .i64 (fs.getD q 0)):=by simp [zs,List.getD_eq_getElem?_getD,AjS (show q<fs.length by omega)]
       have hgr:0<=fs.getD q 0/\fs.getD q 0<(i:Int):=by rw [List.getD_eq_getElem?_getD,AjS (by omega)];exact HF.out.2 _ (AjO _)
       rw [Og]at cq;generalize tD:fs.getD q 0=zf at *;have lu:=AjK tD;clear tD;have gB:W8.cell? ⟨bl+1+1,0,none⟩=some (.slice (some ⟨bl+1,0,none⟩) i i):=Ab Qc rfl;have Wc:=ho2.cellAt q (by omega);rw [Og]at Wc;have RG:=AjK (And.intro gB Wc);clear gB Wc;have As:=AjM wr (.cells #[S (R x.a.x),S (R x.a.y),S (R x.b.x),S (R x.b.y),.int .i64 x.l] 145);have E6:=(Aa.refl wr).alloc (.cells #[S (R x.a.x),S (R x.a.y),S (R x.b.x),S (R x.b.y),.int .i64 x.l] 145);have Uq:=Am On E6;have Bp:=Ae.trans E6;clear hx Og
       go_upto_region 22 with fail
       unfold S at As Uq Bp;generalize (wr.alloc (.cells #[.string ⟨(R x.a.x).toArray⟩,.string ⟨(R x.a.y).toArray⟩,.string ⟨(R x.b.x).toArray⟩,.string ⟨(R x.b.y).toArray⟩,.int .i64 x.l] 145))=W6 at *;obtain⟨bh,Dj⟩:=AjJ wr.heap.size;have Q8:(Value.slice eA ed.length ec).ownBlock≠some bh:=fun k=>(by have:=(On.lt bh k).2;omega);rw [←Dj]at As ⊢;clear Dj f0 f1 f2 f3' f4 E6 On Ae;have Kp:=fun (z:Ac W6)=>Np.out z.w (Bp.trans z.h) x;obtain⟨zr,Zl⟩:=AjJ (Na l fs x);have Ro:=fun (W':World) (h:Aa W8 W')=>Np.out W' h x;have Vv:=AjK (AaI Zl lu.out HQ.out);rw [←Zl]at Kp Ro;unfold Fl at Kp Ro;have c0:W6.cell? ⟨bh,0,none⟩=some (S (R x.a.x)):=Ab As rfl;have c1:W6.cell? ⟨bh,1,none⟩=some (S (R x.a.y)):=Ab As rfl;have c2:W6.cell? ⟨bh,2,none⟩=some (S (R x.b.x)):=Ab As rfl;have c3:W6.cell? ⟨bh,3,none⟩=some (S (R x.b.y)):=Ab As rfl;have c4:W6.cell? ⟨bh,4,none⟩=some (.int .i64 x.l):=Ab As rfl;have c5:W6.cell? ⟨bl+1+1,0,none⟩=some (.slice (some ⟨bl+1,0,none⟩) i i):=Bp.cellS (Ab Qc rfl);have c6:=Bp.cellS cq;rw [HQ.out]at Kp Ro c4;have q0:∀z:Ac W6,z.w.cell? ⟨bh,0,none⟩=some (S (R x.a.x)):=Ac.cell c0;have q1:∀z:Ac W6,z.w.cell? ⟨bh,1,none⟩=some (S (R x.a.y)):=Ac.cell c1;have q2:∀z:Ac W6,z.w.cell? ⟨bh,2,none⟩=some (S (R x.b.x)):=Ac.cell c2;have q3:∀z:Ac W6,z.w.cell? ⟨bh,3,none⟩=some (S (R x.b.y)):=Ac.cell c3;have q4:∀z:Ac W6,z.w.cell? ⟨bh,4,none⟩=some (.int .i64 (q:Int)):=Ac.cell c4;have q5:∀z:Ac W6,z.w.cell? ⟨bl+1+1,0,none⟩=some (.slice (some ⟨bl+1,0,none⟩) i i):=Ac.cell c5;have q6:∀z:Ac W6,z.w.cell? ⟨bl+1,q,none⟩=some (.int .i64 zf):=Ac.cell c6;have n0:(0:Int)<=(q:Int):=(by omega);have n1:(q:Int)<(i:Int):=(by omega);clear Zl cq
       go_upto_region 22 with fail
       by_cases QO:zr=zf
       ·have hzb:(zr != zf)=false:=(by rw [QO];simp);refine Bh (by kernel_rfl) (by kernel_rfl) ?_
        repeat (go_big_quiet_step (first|(with_reducible refine DI (Kp _))|(go_simp;with_reducible refine DI (Kp _))))
        refine wpQuiet_nil ?_;rintro W7 ⟨z,hz⟩;have AQ:Aa W6 W7:=hz▸z.h;have Bj:=Am Uq AQ;have BU:=Bp.trans AQ;clear hz z q0 q1 q2 q3 q4 q5 q6 Kp;go_wp2;go_roundw
        case rel=>exact⟨ed,j+1,by go_num,Ay,Bj,Pe.out,by omega,(by have h:=HST.out;rw [Vv.out,if_pos QO,List.append_nil]at h;exact h),BU⟩
        case measure=>simp [intOf];omega
       ·have hzb:(zr != zf)=true:=(by rw [bne,beq_false_of_ne QO];rfl);refine Bh (by kernel_rfl) (by kernel_rfl) ?_
        repeat (go_big_quiet_step (first|(with_reducible refine DI (Kp _))|(go_simp;with_reducible refine DI (Kp _))))
        refine wpQuiet_nil ?_;rintro W7 ⟨z,hz⟩;have AQ:Aa W6 W7:=hz▸z.h;have Bj:=Am Uq AQ;have BU:=Bp.trans AQ;have DO:=(AQ.block _ (AjL As)).trans As;replace c5:=AQ.cellS c5;replace c6:=AQ.cellS c6;have hbase:W8.heap.size<=W7.heap.size:=BU.size;have Em:ed.length<200000:=(by omega);have e0:W7.cell? ⟨bh,0,none⟩=some (S (R x.a.x)):=Ab DO rfl;have e1:W7.cell? ⟨bh,1,none⟩=some (S (R x.a.y)):=Ab DO rfl;have e2:W7.cell? ⟨bh,2,none⟩=some (S (R x.b.x)):=Ab DO rfl;have e3:W7.cell? ⟨bh,3,none⟩=some (S (R x.b.y)):=Ab DO rfl;have e4:W7.cell? ⟨bh,4,none⟩=some (.int .i64 (q:Int)):=by rw [←HQ.out];exact Ab DO rfl
        have TT:∀(N W9:World),Aa W7 N→N.grownBy W9 (Value.slice eA ed.length ec).ownBlock→W9.heap[bh]?=some (.cells #[.string ⟨(R x.a.x).toArray⟩,.string ⟨(R x.a.y).toArray⟩,.string ⟨(R x.b.x).toArray⟩,.string ⟨(R x.b.y).toArray⟩,.int .i64 x.l] 145):=fun N W9 hN hg=>(hg.block bh (AjW (AjL DO) hN.size) (fun e=>Q8 e.symm)).trans ((hN.block bh (AjL DO)).trans DO)
        have kq:=AjK TT;clear hz z q0 q1 q2 q3 q4 q5 q6 Kp c0 c1 c2 c3 c4 TT Uq Bp AQ;have X:Aa W7 W7:=Aa.refl W7;have Y:=BU
        have SO:∀w',Aa W7 w'→(w'.cell? ⟨bh,0,none⟩=some (S (R x.a.x))/\w'.cell? ⟨bh,1,none⟩=some (S (R x.a.y))/\w'.cell? ⟨bh,2,none⟩=some (S (R x.b.x))/\w'.cell? ⟨bh,3,none⟩=some (S (R x.b.y))/\w'.cell? ⟨bh,4,none⟩=some (.int .i64 (q:Int))/\w'.cell? ⟨bl+1+1,0,none⟩=some (.slice (some ⟨bl+1,0,none⟩) i i)/\w'.cell? ⟨bl+1,q,none⟩=some (.int .i64 zf)):=fun w' h=>⟨h.cellS e0,h.cellS e1,h.cellS e2,h.cellS e3,h.cellS e4,h.cellS c5,h.cellS c6⟩
        clear DO
        go_upto_region 23 with fail
        go_region_held3 (fun w'=>w'.cell? ⟨bh,0,none⟩=some (S (R x.a.x))/\w'.cell? ⟨bh,1,none⟩=some (S (R x.a.y))/\w'.cell? ⟨bh,2,none⟩=some (S (R x.b.x))/\w'.cell? ⟨bh,3,none⟩=some (S (R x.b.y))/\w'.cell? ⟨bh,4,none⟩=some (.int .i64 (q:Int))/\w'.cell? ⟨bl+1+1,0,none⟩=some (.slice (some ⟨bl+1,0,none⟩) i i)/\w'.cell? ⟨bl+1,q,none⟩=some (.int .i64 zf))
         (first|exact SS|with_reducible exact SO _ X|with_reducible exact SO _ X.drew|with_reducible exact SO _ (X.alloc _)|with_reducible exact SO _ (X.alloc _).drew|with_reducible exact SO _ (X.drew.alloc _))
         (first|(refine zR rfl _ _ rfl _ W8.heap.size (.slice eA ed.length ec) ed.length ed [⟨x.a,x.b,zf⟩] rfl (Am Bj ((Aa.refl W7).alloc _).drew) Em (by simp) W7.heap.size 1 rfl (by rw [TM];exact AjM W7 _) rfl (by simp;omega) ?_;intro v9 w9 Br CV AM;replace Y:=CV W8 (Y.alloc _).drew (AjN _);have T9:=kq.out _ _ ((Aa.refl W7).alloc _).drew AM;have SS:w9.cell? ⟨bh,0,none⟩=some (S (R x.a.x))/\w9.cell? ⟨bh,1,none⟩=some (S (R x.a.y))/\w9.cell? ⟨bh,2,none⟩=some (S (R x.b.x))/\w9.cell? ⟨bh,3,none⟩=some (S (R x.b.y))/\w9.cell? ⟨bh,4,none⟩=some (.int .i64 (q:Int))/\w9.cell? ⟨bl+1+1,0,none⟩=some (.slice (some ⟨bl+1,0,none⟩) i i)/\w9.cell? ⟨bl+1,q,none⟩=some (.int .i64 zf):=⟨Ab T9 rfl,Ab T9 rfl,Ab T9 rfl,Ab T9 rfl,by rw [←HQ.out];exact Ab T9 rfl,Y.cellS RG.out.1,Y.cellS RG.out.2⟩))
        clear SO SS X e0 e1 e2 e3 e4 c5 c6 Bj BU hbase;have yC:=Ro w9 Y;have e0:w9.cell? ⟨bh,0,none⟩=some (S (R x.a.x)):=Ab T9 rfl;have e1:w9.cell? ⟨bh,1,none⟩=some (S (R x.a.y)):=Ab T9 rfl;have e2:w9.cell? ⟨bh,2,none⟩=some (S (R x.b.x)):=Ab T9 rfl;have e3:w9.cell? ⟨bh,3,none⟩=some (S (R x.b.y)):=Ab T9 rfl;have e4:w9.cell? ⟨bh,4,none⟩=some (.int .i64 (q:Int)):=by rw [←HQ.out];exact Ab T9 rfl
        have pN:Dn i (ed ++ [⟨x.a,x.b,zf⟩]):=by
         intro h hh
         rcases List.mem_append.1 hh with e|e
         ·exact Pe.out h e
         ·simp only [AjZ]at e;rw [e];exact⟨MQ.1,MQ.2.1,MQ.2.2.1,by show (-1:Int)<=zf;omega,by show zf<(i:Int);omega⟩
        have dD:=AjK pN;clear pN CV AM Ro
        go_upto_region 24 with fail
        (go_wp2_with fail);(with_reducible refine yC.mono ?_);rintro e wa ⟨rfl,Ig⟩;have TP:wa.heap[bh]?=_:=(Ig.block _ (AjL T9)).trans T9;have YB:=Am Br Ig;have Xw:=Y.trans Ig;clear e0 e1 e2 e3 e4 yC Br;by_cases U5:zr<0
        ·have hdz:decide (zr<0)=true:=decide_eq_true U5;have a0:wa.cell? ⟨bh,0,none⟩=some (S (R x.a.x)):=Ab TP rfl;have a1:wa.cell? ⟨bh,1,none⟩=some (S (R x.a.y)):=Ab TP rfl;have a2:wa.cell? ⟨bh,2,none⟩=some (S (R x.b.x)):=Ab TP rfl;have a3:wa.cell? ⟨bh,3,none⟩=some (S (R x.b.y)):=Ab TP rfl;have hbase:W8.heap.size<=wa.heap.size:=Xw.size;obtain⟨fA,fc,rfl⟩:=Jj (by omega) YB
         go_wp2_with (at_builtin;go_loud (refine VQ rfl _ _ rfl _ W8.heap.size (.slice fA (ed.length+1) fc) (ed.length+1) (ed ++ [⟨x.a,x.b,zf⟩]) [⟨x.b,x.a,-1⟩] rfl (Am YB ((Aa.refl wa).alloc _)) (by omega) (by simp) wa.heap.size 1 rfl (by rw [TM];exact AjM wa _) rfl (by simp;omega) ?_);intro vb wb hob hextb hgb)
         have hYb:=hextb W8 (Xw.alloc _) (AjN _)
         have pO:Dn i ((ed ++ [⟨x.a,x.b,zf⟩]) ++ [⟨x.b,x.a,-1⟩]):=by
          intro h hh
          rcases List.mem_append.1 hh with e|e
          ·exact dD.out h e
          ·simp only [AjZ]at e;rw [e];exact⟨MQ.2.1,MQ.1,fun e=>MQ.2.2.1 e.symm,by show (-1:Int)<=-1;omega,by show (-1:Int)<(i:Int);omega⟩
         have iy:=AjK pO;clear pO hextb hgb;go_wp2;go_roundw
         case rel=>exact⟨(ed ++ [⟨x.a,x.b,zf⟩]) ++ [⟨x.b,x.a,-1⟩],j+1,by go_num,Ay,by rw [List.length_append,List.length_append];exact hob,iy.out,by rw [List.length_append,List.length_append];simp;omega,(by have h:=HST.out;rw [Vv.out,if_neg QO,if_pos U5]at h;rw [←h,List.append_assoc];rfl),hYb⟩
         case measure=>simp [intOf];omega
        ·have hdz:decide (zr<0)=false:=decide_eq_false U5;go_wp2;go_roundw
         case rel=>exact⟨ed ++ [⟨x.a,x.b,zf⟩],j+1,by go_num,Ay,by rw [List.length_append];exact YB,dD.out,by rw [List.length_append];simp;omega,(by have h:=HST.out;rw [Vv.out,if_neg QO,if_neg (show ¬zr<0 by omega)]at h;exact h),Xw⟩
         case measure=>simp [intOf];omega
      ·have Ek:j=l.length:=(by omega);subst Ek;have Acj:(l.length:Int)<=(l.length:Int):=(by omega);have hmk:=Aep i (by omega) (i:Int) rfl wr;have Q9:=Afd wr 0 i (Nat.zero_le _) (by omega);have E9:=(Aa.refl wr).alloc (.cells (madeCells #[S []] i) 9);have PY:=Ae.trans E9;have YC:=Am On E9;obtain⟨eA,ec,rfl⟩:=Jj (by omega) On;have Tt:(P.map (·.2)).length=i:=(by rw [List.length_map];exact HN.out.symm);have HU:=AjK Tt;obtain⟨us,U3⟩:=AjJ (P.map (·.2));have hz0:=Ahs us;rw [U3,HU.out,←U3]at hz0;rw [←hz0]at Q9;have RS:=AjK U3;have Aiy:w.heap.size<=wr.heap.size:=(Dh.trans Ae).size;clear U3 hz0 Tt
       go_upto_region 29 with fail
       clear hmk;generalize (wr.alloc (.cells (madeCells #[S []] i) 9))=W9 at *;obtain⟨bu,JP⟩:=AjJ wr.heap.size;rw [←JP]at Q9 ⊢;have AbD:W8.heap.size<=bu:=(by have:=Ae.size;omega);clear JP
       go_loopw [15] (fun iv wz=>∃k:Nat,iv=.int .i64 (k:Nat)/\k<=i/\wz.ownsRow 0 9 1 (.slice (some ⟨bu,0,none⟩) i i) i ((Jp us k).map S)/\Al (fun q=>q=bu) W9 wz) (fun iv _=>i-(intOf iv).toNat)
       case atStart=>exact⟨0,rfl,by omega,Q9,Al.refl _ _⟩
       case round=>
        obtain⟨k,rfl,hk,Ai,Tf⟩:=hrel;have Cd:us.length=i:=(by rw [RS.out];exact HU.out);by_cases Oj:k<i
        ·obtain⟨bA,oA,A1,c1,rfl,-,um,-,-,-,-⟩:=HA.out.row k (by rw [←HN.out];exact Oj);have lJ:P[k].2=us[k]:=(by simp [RS.out]);rw [lJ]at um;have hXk:Aa w wr:=Tf.toExt (Dh.trans PY) (fun q e=>by subst e;have:=Dh.size;omega);replace um:=hXk.cellS um;have hst:=Ai.stored k (S us[k]);rw [←List.map_set,Ahr]at hst;obtain⟨uk,sF⟩:=AjJ (us[k]);rw [←sF]at um hst;have Qo:=Ai.frozenAt k;have hce:=Ai.cellAt k (by omega);have Qp:((Jp us k).map S)[k]?=some (S []):=(by simp [Jp,Cd,Oj]);rw [Qp]at hce;have kF:=Tf.grown hst.2 (fun q e=>by cases e;exact .inl rfl);have hk0:(0:Int)<=(k:Int):=(by omega);have El:(k:Int)<(i:Int):=(by omega);have HS:=AjK (And.intro hst.1 kF);clear hst kF lJ Qp sF;go_wp2;go_roundw
         case rel=>exact⟨k+1,by go_num,Oj,HS.out.1,HS.out.2⟩
         case measure=>simp [intOf];omega
        ·have C3:k=i:=(by omega);subst C3;have AiM:(k:Int)<=(k:Int):=(by omega);rw [←Cd,Ahq,Cd]at Ai;have NP:Aa W8 wr:=Tf.toExt PY (fun q e=>by subst e;exact AbD)
         have AcO:(Value.slice eA ed.length ec).ownBlock≠some bu:=fun e=>by have h1:=Ip Q9;obtain⟨cur,h1⟩:=h1;exact Ap YC h1 (by decide) e
         have qN:=Bf YC Tf (fun q hq e=>by subst e;exact AcO hq);have oc:=AeX (KA ed) (fun _ _ _ a b c d=>KA.step a b c d) (w0:=W8) (w:=wr) (hw.ext Dh) NP (n:=k) (by omega) ed Pe.out KA.refl (by omega) (.slice eA ed.length ec) qN us Cd (some ⟨bu,0,none⟩) k Ai (AjN _) (by omega);have mM:=(NP.block _ (AjL TE)).trans TE;have HBR:=AjK mM;have hXX:=Dh.trans NP;clear mM Q9 Ai YC qN;(go_wp2_with fail);(with_reducible refine oc.mono ?_);rintro e wf ⟨A9,B9,F9,c9,d9,g9,m9,Mo,rfl,hM9,JL,hfr9,hox9⟩;have jq:=AjK hox9;clear hox9;unfold AE;have Ln:=(JL.block _ (AjL TE)).trans TE;have hst:=uT hM9 (Dh.trans JL) Ln (AjN _) (.slice A9 m9.pts.length c9) (.slice B9 m9.eds.length d9) (.slice F9 m9.nf g9);have r0:wf.cell? ⟨w.heap.size,0,none⟩=some (.slice none 0 0):=Ab Ln rfl;have r1:wf.cell? ⟨w.heap.size,1,none⟩=some (.slice none 0 0):=Ab Ln rfl;have r2:wf.cell? ⟨w.heap.size,2,none⟩=some (.slice none 0 0):=Ab Ln rfl;have r3:=Ao (o:=0) Ln;have r4:=Ao (o:=1) Ln;have r5:=Ao (o:=2) Ln;have t1:=Ab (o:=0) hst.2.2 rfl;have t2:=Ab (o:=1) hst.2.2 rfl;have t3:=Ab (o:=2) hst.2.2 rfl;have HST:=AjK hst;clear hst Ln hM9;go_wp2;refine bodyPost_ret (v:=.agg #[.slice A9 m9.pts.length c9,.slice B9 m9.eds.length d9,.slice F9 m9.nf g9]) (by simp [results,Tryz.results42,go_sem,t1,t2,t3]) rfl ?_;refine⟨A9,B9,F9,c9,d9,g9,m9,Mo,rfl,?_,HST.out.2.1,hfr9.mono Dh.size,?_⟩
         ·rw [←RS.out,←HN.out];exact HST.out.1
         ·refine⟨fs,?_⟩;rw [←RJ.out,←RS.out];refine⟨⟨HF.out.1.trans HN.out,fun z hz=>by rw [←HN.out];exact HF.out.2 z hz,Vu.out.1,Vu.out.2 (by first|exact trivial|rfl)⟩,?_⟩;have h:=cT.out;rw [List.take_length]at h;rw [←h];exact jq.out
    ·have TG:=hB2.cells TI (by omega);have y0:=Ab (o:=0) TG rfl;have Acl:(0:Int)<=(l.length:Int):=(by omega);have dX:=AjK If;clear If
     go_upto_region 11 with fail
     clear y0
     go_loopw [6,34] (fun bv jv wr=>∃(f3:List Int) (b:Bool) (j:Nat),bv=.bool b/\jv=.int .i64 (j:Nat)/\j<=l.length/\f3.length=i/\(∀z∈f3,0<=z/\z<(i:Int))/\K2 P l f3/\(b=false→Jr P l f3 j)/\wr.ownsRow 0 3 1 (.slice (some ⟨bl+1,0,none⟩) i i) i (zs f3)/\Al (fun q=>q=bl+1) V wr/\(b=false→f3.sum=fs.sum)/\(b=true→f3.sum<fs.sum)) (fun _ jv _=>l.length-(intOf jv).toNat)
     case atStart=>exact⟨fs,false,0,rfl,rfl,by omega,HF.out.1,HF.out.2,Vu.out.1,(fun _ x hx=>by cases hx),ho2,hB2,fun _=>rfl,(fun h=>by cases h)⟩
     case round=>
      obtain⟨f3,b,j,rfl,rfl,hj,oQ,oR,pE,pJ,FN,Cq,mU,nI⟩:=hrel;have I2:=AjK (And.intro pE pJ);clear pE pJ;have H3:=AjK (And.intro oQ (And.intro oR (And.intro mU nI)));clear oQ oR mU nI;by_cases Ay:j<l.length
      ·have Dh:Aa w wr:=Cq.toExt BB (fun q e=>by subst e;omega);have B8:Aa w1 wr:=Cq.toExt OX (fun q e=>by subst e;omega);obtain⟨b',o',rfl,f0,f1,f2,f3',f4⟩:=Kn (C5.ext B8) Ay;have MD:=AjO Ay;obtain⟨x,hx⟩:=AjJ (l[j]);rw [←hx]at f0 f1 f2 f3' f4 MD;have hj0:(0:Int)<=(j:Int):=(by omega);have FI:(j:Int)<(l.length:Int):=(by omega);have HX:=AjK hx;clear hx;have As:=AjM wr (.cells #[S (R x.a.x),S (R x.a.y),S (R x.b.x),S (R x.b.y),.int .i64 x.l] 145);have E6:=(Aa.refl wr).alloc (.cells #[S (R x.a.x),S (R x.a.y),S (R x.b.x),S (R x.b.y),.int .i64 x.l] 145);have YA:=Am FN E6;have Hu:=Cq.ext E6;have Bp:=B8.trans E6;have Xv:=Dh.trans E6
       go_upto_region 13 with fail
       unfold S at As YA Hu Bp Xv;generalize (wr.alloc (.cells #[.string ⟨(R x.a.x).toArray⟩,.string ⟨(R x.a.y).toArray⟩,.string ⟨(R x.b.x).toArray⟩,.string ⟨(R x.b.y).toArray⟩,.int .i64 x.l] 145))=W6 at *;obtain⟨bh,Dj⟩:=AjJ wr.heap.size;rw [←Dj]at As ⊢;clear Dj f0 f1 f2 f3' f4 E6 FN Cq B8 Dh;have nA:=Hu.cells TI (by omega);have z5:=Ab (o:=0) nA rfl;have z0:=Ab (o:=0) As rfl;have z1:=Ab (o:=1) As rfl;have z2:=Ab (o:=2) As rfl;have z3:=Ab (o:=3) As rfl;have z4:=Ab (o:=4) As rfl;have bk:=Su l x _ vc W6 (C5.ext Bp) sM sN;have hbr:=HL.out.inn.back x;have Ih:=HL.out.nn x MD;have Zg:=(HL.out.inn x MD).2.2.2.2;unfold Fl at bk;generalize mZ:BO l x=r at *;have Nm:=AjK mZ;clear mZ;(go_wp2_with fail);(with_reducible refine bk.mono ?_);rintro e W7 ⟨rfl,AQ⟩;have Bj:=Am YA AQ;have ND:=Hu.ext AQ;have lV:=Xv.trans AQ;have DO:=(AQ.block _ (AjL As)).trans As;have mV:=ND.cells Gk (by omega);clear z0 z1 z2 z3 z4 z5 bk YA Hu Bp Xv nA As AQ;by_cases hr0:r<0
       ·have hd:decide (0<=r)=false:=decide_eq_false (by omega)
        go_upto_region 14 with fail
        refine Bh (by kernel_rfl) (by kernel_rfl) ?_
        repeat (go_big_quiet_step (fail))
        refine wpQuiet_nil ?_;rintro W8 ⟨z,hz⟩;have ED:Aa W7 W8:=hz▸z.h;clear hz z;have Ka:=Am Bj ED;have Fg:=ND.ext ED;have Pd:=AjK (show b=false→Jr P l f3 (j+1)from fun e=>(I2.out.2 e).next Ay HX.out (fun hs=>by have h:=hs.1;rw [Nm.out]at h;omega));go_wp2;go_roundw
        case rel=>exact⟨f3,b,j+1,rfl,by go_num,Ay,H3.out.1,H3.out.2.1,I2.out.1,Pd.out,Ka,Fg,H3.out.2.2.1,H3.out.2.2.2⟩
        case measure=>simp [intOf];omega
       ·obtain⟨m,rfl⟩:∃m:Nat,r=(m:Int):=⟨r.toNat,by omega⟩;obtain⟨q,hq⟩:∃q:Nat,x.l=(q:Int):=⟨x.l.toNat,by omega⟩;have hm:m<i:=(by omega);have YN:q<i:=(by omega);obtain⟨bA,oA,A1,c1,rfl,-,um,-,-,-,-⟩:=HA.out.row m (by rw [←HN.out];exact hm);obtain⟨Ss,UG,A2,c2,he,-,uq,-,-,-,-⟩:=HA.out.row q (by rw [←HN.out];exact YN);simp only [AjR,Addr.mk.injEq,and_true]at he;obtain⟨rfl,rfl⟩:=he;have qC:m<P.length:=(by rw [←HN.out];exact hm);have rD:q<P.length:=(by rw [←HN.out];exact YN);have pK:(P.getD m ([],[])).2=P[m].2:=(by rw [List.getD_eq_getElem?_getD,AjS qC,Option.getD_some]);have pL:(P.getD q ([],[])).2=P[q].2:=(by rw [List.getD_eq_getElem?_getD,AjS rD,Option.getD_some]);generalize P[m].2=u1 at *;generalize P[q].2=u2 at *
        have dW:=AjK (show Mf P l x↔u1=u2 by
         unfold Mf;rw [Nm.out,hq,Int.toNat_natCast,Int.toNat_natCast,pK,pL]
         exact⟨fun h=>h.2,fun h=>⟨by omega,h⟩⟩)
        have dS:=AjK hq;clear pK pL qC rD;replace um:=lV.cellS um;replace uq:=lV.cellS uq;have IW:f3.length=i:=H3.out.1;have cm:=Bj.cellAt m (by omega);have cq:=Bj.cellAt q (by omega);have pG:(zs f3)[m]?=some (.int .i64 (f3.getD m 0)):=(by simp [zs,List.getD_eq_getElem?_getD,AjS (show m<f3.length by omega)]);have Og:(zs f3)[q]?=some (.int .i64 (f3.getD q 0)):=(by simp [zs,List.getD_eq_getElem?_getD,AjS (show q<f3.length by omega)]);rw [pG]at cm;rw [Og]at cq;obtain⟨zm,Zj⟩:=AjJ (f3.getD m 0);obtain⟨zq,Zk⟩:=AjJ (f3.getD q 0);rw [←Zj]at cm;rw [←Zk]at cq;have HZ:=AjK (And.intro Zj Zk);have z4:W7.cell? ⟨bh,4,none⟩=some (.int .i64 (q:Int)):=(by rw [←hq];exact Ab DO rfl);have z5:W7.cell? ⟨bl+2,0,none⟩=some (.slice (some ⟨bl+1,0,none⟩) i i):=Ab mV rfl;have q0:∀z:Ac W7,z.w.cell? ⟨bA,oA+m*3+1,none⟩=some (S u1):=Ac.cell um;have q1:∀z:Ac W7,z.w.cell? ⟨bA,oA+q*3+1,none⟩=some (S u2):=Ac.cell uq;have q2:∀z:Ac W7,z.w.cell? ⟨bl+1,m,none⟩=some (.int .i64 zm):=Ac.cell cm;have q3:∀z:Ac W7,z.w.cell? ⟨bl+1,q,none⟩=some (.int .i64 zq):=Ac.cell cq;have q4:∀z:Ac W7,z.w.cell? ⟨bh,4,none⟩=some (.int .i64 (q:Int)):=Ac.cell z4;have q5:∀z:Ac W7,z.w.cell? ⟨bl+1+1,0,none⟩=some (.slice (some ⟨bl+1,0,none⟩) i i):=Ac.cell z5;have m0:(0:Int)<=(m:Int):=(by omega);have m1:(m:Int)<(i:Int):=(by omega);have n0:(0:Int)<=(q:Int):=(by omega);have n1:(q:Int)<(i:Int):=(by omega);clear Zj Zk pG Og hr0 hbr Ih Zg hq DO mV um uq;have skip:∀W8,Aa W7 W8→W8.ownsRow 0 3 1 (.slice (some ⟨bl+1,0,none⟩) i i) i (zs f3)/\Al (fun q=>q=bl+1) V W8:=fun W8 h=>⟨Am Bj h,ND.ext h⟩;have SK:=AjK skip;clear skip
        go_upto_region 14 with fail
        cases hU:(u1 == u2)
        ·refine Bh (by kernel_rfl) (by kernel_rfl) ?_
         repeat (go_big_quiet_step (fail))
         refine wpQuiet_nil ?_;rintro W8 ⟨z,hz⟩;obtain⟨Ka,Fg⟩:=SK.out W8 (hz▸z.h);have Pd:=AjK (show b=false→Jr P l f3 (j+1)from fun e=>(I2.out.2 e).next Ay HX.out (fun hs=>absurd (dW.out.1 hs) (fun e=>by rw [e]at hU;simp at hU)));clear hz z q0 q1 q2 q3 q4 q5;go_wp2;go_roundw
         case rel=>exact⟨f3,b,j+1,rfl,by go_num,Ay,H3.out.1,H3.out.2.1,I2.out.1,Pd.out,Ka,Fg,H3.out.2.2.1,H3.out.2.2.2⟩
         case measure=>simp [intOf];omega
        ·by_cases hlt:zm<zq
         ·have H5:decide (zm<zq)=true:=decide_eq_true hlt;refine Bh (by kernel_rfl) (by kernel_rfl) ?_
          repeat (go_big_quiet_step (fail))
          refine wpQuiet_nil ?_;rintro W8 ⟨z,hz⟩;have ED:Aa W7 W8:=hz▸z.h;obtain⟨Ka,Fg⟩:=SK.out W8 ED;clear hz z;replace cm:=ED.cellS cm;replace cq:=ED.cellS cq;replace z4:=ED.cellS z4;have z6:W8.cell? ⟨bl+1+1,0,none⟩=some (.slice (some ⟨bl+1,0,none⟩) i i):=ED.cellS z5;have Qo:=Ka.frozenAt q;have hst:=Ka.stored q (.int .i64 zm);rw [bW]at hst;have Hv:=Fg.grown hst.2 (fun q e=>by cases e;exact .inl rfl);have D4:=zY f3 q zm (by omega) (by have:=HZ.out.2;rw [List.getD_eq_getElem?_getD,AjS (by omega)]at this;simp only [Option.getD_some]at this;omega)
          have hrg:∀z∈f3.set q zm,0<=z/\z<(i:Int):=by
           intro z hz
           rcases List.mem_or_eq_of_mem_set hz with e|e
           ·exact H3.out.2.1 z e
           ·rw [e];refine H3.out.2.1 zm ?_;have:=HZ.out.1;rw [List.getD_eq_getElem?_getD,AjS (by omega)]at this;simp only [Option.getD_some]at this;rw [this];exact AjO _
          have Dp:(f3.set q zm).sum<fs.sum:=by
           cases b
           ·have:=H3.out.2.2.1 rfl;omega
           ·have:=H3.out.2.2.2 rfl;omega
          have HST:=AjK (And.intro hst.1 (And.intro Hv (And.intro hrg Dp)))
          have ir:=AjK (show K2 P l (f3.set q zm)by
           rw [HZ.out.1]
           exact I2.out.1.set (by rw [HX.out];exact AjO _) (dW.out.2 (eq_of_beq hU)) dS.out Nm.out (by omega))
          clear hst Hv hrg Dp D4 q0 q1 q2 q3 q4 q5 ED z5
          go_upto_region 15 with fail
          go_region
          all_goals (
           have o9:=Am HST.out.1 (Aa.refl _).drew;have b9:=HST.out.2.1.ext (Aa.refl _).drew;clear cm cq z4 z6 Qo Ka Fg;go_wp2;go_roundw
           case rel=>exact⟨f3.set q zm,true,j+1,rfl,by go_num,Ay,by rw [List.length_set];exact H3.out.1,HST.out.2.2.1,ir.out,(fun h=>by cases h),o9,b9,(fun h=>by cases h),fun _=>HST.out.2.2.2⟩
           case measure=>simp [intOf];omega)
         ·have H5:decide (zm<zq)=false:=decide_eq_false hlt;refine Bh (by kernel_rfl) (by kernel_rfl) ?_
          repeat (go_big_quiet_step (fail))
          refine wpQuiet_nil ?_;rintro W8 ⟨z,hz⟩;obtain⟨Ka,Fg⟩:=SK.out W8 (hz▸z.h);have Pd:=AjK (show b=false→Jr P l f3 (j+1)from fun e=>(I2.out.2 e).next Ay HX.out (fun _=>by rw [Nm.out,dS.out,Int.toNat_natCast,Int.toNat_natCast,←HZ.out.1,←HZ.out.2];exact hlt));clear hz z q0 q1 q2 q3 q4 q5;go_wp2;go_roundw
          case rel=>exact⟨f3,b,j+1,rfl,by go_num,Ay,H3.out.1,H3.out.2.1,I2.out.1,Pd.out,Ka,Fg,H3.out.2.2.1,H3.out.2.2.2⟩
          case measure=>simp [intOf];omega
      ·have Ek:j=l.length:=(by omega);subst Ek;have Uh:(l.length:Int)<=(l.length:Int):=by omega
       cases b
       ·go_wp2;go_roundw
        case rel=>exact⟨f3,false,rfl,H3.out.1,H3.out.2.1,I2.out.1,I2.out.2,FN,Cq⟩
        case measure=>rw [dX.out];simp
       ·have hs3:=zW FN H3.out.1;have hlt:=H3.out.2.2.2 rfl;have FK:=zX f3 (fun z hz=>(H3.out.2.1 z hz).1);have Pg:=AjK (And.intro hs3 (And.intro hlt FK));clear hs3 hlt FK;go_wp2;go_roundw
        case rel=>exact⟨f3,true,rfl,H3.out.1,H3.out.2.1,I2.out.1,(fun h=>by cases h),FN,Cq⟩
        case measure=>rw [dX.out,Pg.out.1];have:=Pg.out.2;simp only [];omega
end Go.Proofs.YtnfedbopbcegjaaGreatDoor
