/- Z47: QG. -/
import Derived.Test.YtdaefncphfeaeaaGreatDoorZ46
set_option maxRecDepth 100000
set_option maxHeartbeats 16000000
namespace Go.Proofs.YtdaefncphfeaeaaGreatDoor
open Go.RowKit Kl
def Jg(n k:Nat):List Int:=(List.range n).map (fun i=>if i<k then (i:Int)else 0)
theorem Ag4(n:Nat):Jg n 0=zn (List.replicate n 0):=by
 unfold Jg zn;apply List.ext_getElem
 ·simp
 ·intro i h1 h2;simp
theorem Ag1(n k:Nat):(Jg n k).length=n:=by simp [Jg]
theorem Ag3{n k:Nat} : (Jg n k).set k (k:Int)=Jg n (k+1):=by
 unfold Jg;apply List.ext_getElem
 ·simp
 ·intro i h1 h2;by_cases h:k=i
  ·subst h;simp
  ·rw [List.getElem_set_ne h];have:(i<k+1)↔i<k:=(by omega);simp [this]
theorem Ag2(n:Nat):∀z∈Jg n n,0<=z/\z<(n:Int):=by
 intro z hz;unfold Jg at hz;rw [List.mem_map]at hz;obtain⟨i,hi,rfl⟩:=hz;rw [List.mem_range]at hi;rw [if_pos hi];omega
theorem Abu:∀(l:List Int) (k:Nat) (z:Int) (h:k<l.length),z<l[k]→(l.set k z).sum<l.sum
 | a::l,0,z,_,h=>by simp at h ⊢;omega
 | a::l,k+1,z,hk,h=>by have:=Abu l k z (by simpa using hk) (by simpa using h);simp only [List.set_cons_succ,List.sum_cons];omega
theorem Abt:∀(l:List Int),(∀z∈l,0<=z)→0<=l.sum
 | [],_=>by simp
 | a::l,h=>by have h1:=Abt l (fun z hz=>h z (List.mem_cons_of_mem _ hz));have h2:=h a List.mem_cons_self;simp only [List.sum_cons];omega
def pA(w:World)(b n:Nat):Nat:=(((List.range n).map (fun i=>match w.cell? ⟨b,i,none⟩with|some (.int _ z)=>z|_=>0)).sum).toNat
theorem Abr{w:World}{B b n:Nat}{fs:List Int}(h:w.ownsRow B 3 1 (.slice (some ⟨b,0,none⟩) n n) n (zs fs))(hl:fs.length=n):pA w b n=fs.sum.toNat:=by
 unfold pA
 congr 2
 apply List.ext_getElem
 ·simp [hl]
 ·intro i h1 h2;simp only [List.getElem_map,List.getElem_range];rw [h.cellAt i (by omega)];simp [zs,h2]
theorem AgW(P:List (List Pt×Bs))(hP:S2 P)(A:Option Addr)(c:Nat)(w:World)(hw:Ai w)(h:MP w A c P) :
  Calls Tryz.prog 25 #[.slice A P.length c] w (rS w P.length (P.map (·.2))):=by
 obtain⟨n,hn⟩:=AcG P.length;rw [←hn];have HN:=Asb hn;have hlen:n<=18:=(by rw [hn];exact hP.len);have HA:=Asb h;have EU:=Ase w (.cells #[.slice none 0 0,.slice none 0 0,.slice none 0 0] 43);have E1:=(Aa.refl w).alloc (.cells #[.slice none 0 0,.slice none 0 0,.slice none 0 0] 43);have sd:=AnX P hP A c _ (hw.ext E1) (h.ext E1);rw [←hn]at sd;have FS:(0:Int)<=(n:Int):=(by omega);clear hn hP h;go_enter Tryz.func25,Tryz.ntmps25;(go_wp2_with fail);(with_reducible refine sd.mono ?_);rintro e w1 ⟨v,l,rfl,hv,hl,EX,hx1⟩;obtain⟨vA,vc,rfl,AU,rf,rh⟩:=Am.of_own' (by omega) hv;have HL:=Asb hl;have Nu:=(hx1.block _ (Asd EU)).trans EU;have hmk:=UX n (by omega) (n:Int) rfl (w1.alloc (.cells #[.slice vA l.length vc] 133));have hbl:=Ase w1 (.cells #[.slice vA l.length vc] 133);have E2:=(Aa.refl w1).alloc (.cells #[.slice vA l.length vc] 133);have E3:=(Aa.refl (w1.alloc (.cells #[.slice vA l.length vc] 133))).alloc (.cells (madeCells #[.int .i64 0] n) 3);have E4:=(Aa.refl ((w1.alloc (.cells #[.slice vA l.length vc] 133)).alloc (.cells (madeCells #[.int .i64 0] n) 3))).alloc (.cells #[.slice (some ⟨w1.heap.size+1,0,none⟩) n n] 135);have Mg:=Ap (Vo (w1.alloc (.cells #[.slice vA l.length vc] 133)) 0 n (Nat.zero_le _) (by omega)) E4;rw [Asn]at Mg;have GG:=Ase ((w1.alloc (.cells #[.slice vA l.length vc] 133)).alloc (.cells (madeCells #[.int .i64 0] n) 3)) (.cells #[.slice (some ⟨w1.heap.size+1,0,none⟩) n n] 135);rw [Asn,Asn]at GG;have XW:=((E3.trans E4).block _ (Asd hbl)).trans hbl;have So:=E2.trans (E3.trans E4);have XR:=(So.block _ (Asd Nu)).trans Nu;have Dv:=(E1.trans hx1).trans So;have hv4:=Ap hv So;rw [←Ag4]at Mg;have Arw:=(E1.trans hx1).size;have AhM:=Nu;clear hl sd E2 E3 E4 hbl Nu EU
 go_upto_region 4 with fail
 clear hmk;generalize ((w1.alloc (.cells #[.slice vA l.length vc] 133)).alloc (.cells (madeCells #[.int .i64 0] n) 3)).alloc (.cells #[.slice (some ⟨w1.heap.size+1,0,none⟩) n n] 135)=V at *;obtain⟨bl,av⟩:=AcG w1.heap.size;rw [←av]at Mg GG XW ⊢;have Ary:w.heap.size<=bl:=(by omega);have Arv:w1.heap.size<=bl:=(by omega);clear av
 go_loopw [5] (fun iv wr=>∃i:Nat,iv=.int .i64 (i:Nat)/\i<=n/\wr.ownsRow 0 3 1 (.slice (some ⟨bl+1,0,none⟩) n n) n (zs (Jg n i))/\AH (fun q=>q=bl+1) V wr) (fun iv _=>n-(intOf iv).toNat)
 case atStart=>exact⟨0,rfl,by omega,Mg,AH.refl _ _⟩
 case round=>
  obtain⟨i,rfl,hi,ho,hB⟩:=hrel;have TG:=hB.cells GG (by omega);by_cases hin:i<n
  ·have k0:=Ab (o:=0) TG rfl
   have hce:wr.cell? ⟨bl+1,i,none⟩=some (.int .i64 0):=by rw [ho.cellAt i (by omega)];simp [zs,Jg,hin]
   have Jp:=ho.frozenAt i;have hst:=ho.stored i (.int .i64 (i:Int));rw [pQ,Ag3]at hst;have hB2:=hB.grown hst.2 (fun q e=>by cases e;exact .inl rfl);have KR:(0:Int)<=(i:Int):=(by omega);have Pg:(i:Int)<(n:Int):=(by omega);have HS:=Asb (And.intro hst.1 hB2);clear hst hB2;go_wp2;go_roundw
   case rel=>exact⟨i+1,by go_num,hin,HS.out.1,HS.out.2⟩
   case measure=>simp [intOf];omega
  ·have I9:i=n:=(by omega);subst I9;have AqA:(i:Int)<=(i:Int):=(by omega);have HFL:=Asb (Ag1 i i);have bE:=Asb (Ag2 i);generalize Jg i i=fs0 at *
   go_upto_region 8 with fail
   go_loopw [6] (fun bv wr=>∃(fs:List Int) (b:Bool),bv=.bool b/\fs.length=i/\(∀z∈fs,0<=z/\z<(i:Int))/\wr.ownsRow 0 3 1 (.slice (some ⟨bl+1,0,none⟩) i i) i (zs fs)/\AH (fun q=>q=bl+1) V wr) (fun bv wr=>match bv with | .bool true=>pA wr (bl+1) i+1|_=>0)
   case atStart=>exact⟨fs0,true,rfl,HFL.out,bE.out,ho,hB⟩
   case round=>
    obtain⟨fs,b,rfl,QJ,hfr,ho2,hB2⟩:=hrel;have HF:=Asb (And.intro QJ hfr);have Cy:=Abr ho2 QJ;clear QJ hfr
    cases b
    ·have Q9:=hB2.cells XW (by omega);have TG:=hB2.cells GG (by omega);have y0:=Ab (o:=0) Q9 rfl;have Kc:∀(fn:Fn) (first cap:Array Value) (w:World),(Instr.makeFunc fn first cap).run Tryz.prog w=.ok (.func fn first cap) w:=fun _ _ _ _=>rfl;have AiI:(0:Int)<=(l.length:Int):=(by omega);have D9:Aa w1 wr:=hB2.toExt So (fun q e=>by subst e;omega);have Fo:Aa w wr:=hB2.toExt Dv (fun q e=>by subst e;omega);have XS:=hB2.cells XR (by have:=Asd AhM;omega);have U0:=AU.ext D9;obtain⟨oF,cF,fj,hrF,-,-⟩:=Am.of_own' (by omega) ho2;simp only [Value.slice.injEq,true_and]at fj;obtain⟨rfl,rfl⟩:=fj;have hHF:=HF.out.1;have rt:=fun (W':World) (h:Aa wr W') (x:Hf)=>An0 l x fs (by rw [HF.out.1];exact HL.out.inn) vA (some ⟨bl+1,0,none⟩) vc i bl (bl+1+1) W' (h.cellS (Ab Q9 rfl)) (U0.ext h) rf rh (by rw [HF.out.1];exact h.cellS (Ab TG rfl)) (hrF.ext h);have PX:=Asb rt;clear rt hHF Cy;obtain⟨W8,rfl⟩:=GN Fo
     go_upto_region 20 with fail
     clear y0
     go_loopw [10,81] (fun ov jv wr=>∃(ed:List Hf) (j:Nat),jv=.int .i64 (j:Nat)/\j<=l.length/\wr.ownsRow W8.heap.size 137 5 ov ed.length (Bl ed)/\Ey i ed/\ed.length<=2*j/\Aa W8 wr) (fun _ jv _=>l.length-(intOf jv).toNat)
     case atStart=>exact⟨[],0,rfl,by omega,⟨rfl,.inl ⟨rfl,rfl⟩⟩,(fun h hh=>by cases hh),by simp,Aa.refl _⟩
     case round=>
      obtain⟨ed,j,rfl,hj,QT,hin,hel,Ac⟩:=hrel;have Sr:=Asb hin;clear hin;by_cases AG:j<l.length
      ·obtain⟨eA,ec,rfl⟩:=IL (by omega) QT;obtain⟨b',o',rfl,f0,f1,f2,f3',f4⟩:=M6 (U0.ext Ac) AG;have Pf:=Asg AG;obtain⟨x,hx⟩:=AcG (l[j]);rw [←hx]at f0 f1 f2 f3' f4 Pf;have hj0:(0:Int)<=(j:Int):=(by omega);have DD:(j:Int)<(l.length:Int):=(by omega);have Mo:=HL.out.inn x Pf;have Eu:=HL.out.nn x Pf;obtain⟨q,hq⟩:∃q:Nat,x.l=(q:Int):=⟨x.l.toNat,by omega⟩;have m8:q<i:=(by have:=Mo.2.2.2.2;omega);have HQ:=Asb hq;clear hq;have QJ:fs.length=i:=HF.out.1;have cq:=ho2.cellAt q (by omega);have Jq:(zs fs)[q]?=some (.int .i64 (fs.getD q 0)):=by simp [zs,List.getD_eq_getElem?_getD,Asl (show q<fs.length by omega)]
       have hgr:0<=fs.getD q 0/\fs.getD q 0<(i:Int):=by rw [List.getD_eq_getElem?_getD,Asl (by omega)];exact HF.out.2 _ (Asg _)
       rw [Jq]at cq;generalize fs.getD q 0=zf at *;have tV:W8.cell? ⟨bl+1+1,0,none⟩=some (.slice (some ⟨bl+1,0,none⟩) i i):=Ab TG rfl;have dQ:=ho2.cellAt q (by omega);rw [Jq]at dQ;have VP:=Asb (And.intro tV dQ);clear tV dQ;have As:=Ase wr (.cells #[S (R x.a.x),S (R x.a.y),S (R x.b.x),S (R x.b.y),.int .i64 x.l] 137);have E6:=(Aa.refl wr).alloc (.cells #[S (R x.a.x),S (R x.a.y),S (R x.b.x),S (R x.b.y),.int .i64 x.l] 137);have Y7:=Ap QT E6;have BI:=Ac.trans E6;clear hx Jq
       go_upto_region 22 with fail
       unfold S at As Y7 BI;generalize (wr.alloc (.cells #[.string ⟨(R x.a.x).toArray⟩,.string ⟨(R x.a.y).toArray⟩,.string ⟨(R x.b.x).toArray⟩,.string ⟨(R x.b.y).toArray⟩,.int .i64 x.l] 137))=W6 at *;obtain⟨bh,El⟩:=AcG wr.heap.size;have Y0:(Value.slice eA ed.length ec).ownBlock≠some bh:=fun k=>(by have:=(QT.lt bh k).2;omega);rw [←El]at As ⊢;clear El f0 f1 f2 f3' f4 E6 QT Ac;have M8:=fun (z:Ad W6)=>PX.out z.w (BI.trans z.h) x;obtain⟨zr,ul⟩:=AcG (ZN l fs x);have Vx:=fun (W':World) (h:Aa W8 W')=>PX.out W' h x;rw [←ul]at M8 Vx;unfold Jo at M8 Vx;have c0:W6.cell? ⟨bh,0,none⟩=some (S (R x.a.x)):=Ab As rfl;have c1:W6.cell? ⟨bh,1,none⟩=some (S (R x.a.y)):=Ab As rfl;have c2:W6.cell? ⟨bh,2,none⟩=some (S (R x.b.x)):=Ab As rfl;have c3:W6.cell? ⟨bh,3,none⟩=some (S (R x.b.y)):=Ab As rfl;have c4:W6.cell? ⟨bh,4,none⟩=some (.int .i64 x.l):=Ab As rfl;have c5:W6.cell? ⟨bl+1+1,0,none⟩=some (.slice (some ⟨bl+1,0,none⟩) i i):=BI.cellS (Ab TG rfl);have c6:=BI.cellS cq;rw [HQ.out]at M8 Vx c4;have q0:∀z:Ad W6,z.w.cell? ⟨bh,0,none⟩=some (S (R x.a.x)):=Ad.cell c0;have q1:∀z:Ad W6,z.w.cell? ⟨bh,1,none⟩=some (S (R x.a.y)):=Ad.cell c1;have q2:∀z:Ad W6,z.w.cell? ⟨bh,2,none⟩=some (S (R x.b.x)):=Ad.cell c2;have q3:∀z:Ad W6,z.w.cell? ⟨bh,3,none⟩=some (S (R x.b.y)):=Ad.cell c3;have q4:∀z:Ad W6,z.w.cell? ⟨bh,4,none⟩=some (.int .i64 (q:Int)):=Ad.cell c4;have q5:∀z:Ad W6,z.w.cell? ⟨bl+1+1,0,none⟩=some (.slice (some ⟨bl+1,0,none⟩) i i):=Ad.cell c5;have q6:∀z:Ad W6,z.w.cell? ⟨bl+1,q,none⟩=some (.int .i64 zf):=Ad.cell c6;have n0:(0:Int)<=(q:Int):=(by omega);have n1:(q:Int)<(i:Int):=(by omega);clear ul cq
       go_upto_region 22 with fail
       by_cases ui:zr=zf
       ·have hzb:(zr != zf)=false:=(by rw [ui];simp);refine Bi (by kernel_rfl) (by kernel_rfl) ?_
        repeat (go_big_quiet_step (first|(with_reducible refine D7 (M8 _))|(go_simp;with_reducible refine D7 (M8 _))))
        refine wpQuiet_nil ?_;rintro W7 ⟨z,hz⟩;have Aj:Aa W6 W7:=hz▸z.h;have BC:=Ap Y7 Aj;have BW:=BI.trans Aj;clear hz z q0 q1 q2 q3 q4 q5 q6 M8;go_wp2;go_roundw
        case rel=>exact⟨ed,j+1,by go_num,AG,BC,Sr.out,by omega,BW⟩
        case measure=>simp [intOf];omega
       ·have hzb:(zr != zf)=true:=(by rw [bne,beq_false_of_ne ui];rfl);refine Bi (by kernel_rfl) (by kernel_rfl) ?_
        repeat (go_big_quiet_step (first|(with_reducible refine D7 (M8 _))|(go_simp;with_reducible refine D7 (M8 _))))
        refine wpQuiet_nil ?_;rintro W7 ⟨z,hz⟩;have Aj:Aa W6 W7:=hz▸z.h;have BC:=Ap Y7 Aj;have BW:=BI.trans Aj;have GH:=(Aj.block _ (Asd As)).trans As;replace c5:=Aj.cellS c5;replace c6:=Aj.cellS c6;have hbase:W8.heap.size<=W7.heap.size:=BW.size;have FQ:ed.length<200000:=(by omega);have e0:W7.cell? ⟨bh,0,none⟩=some (S (R x.a.x)):=Ab GH rfl;have e1:W7.cell? ⟨bh,1,none⟩=some (S (R x.a.y)):=Ab GH rfl;have e2:W7.cell? ⟨bh,2,none⟩=some (S (R x.b.x)):=Ab GH rfl;have e3:W7.cell? ⟨bh,3,none⟩=some (S (R x.b.y)):=Ab GH rfl;have e4:W7.cell? ⟨bh,4,none⟩=some (.int .i64 (q:Int)):=by rw [←HQ.out];exact Ab GH rfl
        have TT:∀(N W9:World),Aa W7 N→N.grownBy W9 (Value.slice eA ed.length ec).ownBlock→W9.heap[bh]?=some (.cells #[.string ⟨(R x.a.x).toArray⟩,.string ⟨(R x.a.y).toArray⟩,.string ⟨(R x.b.x).toArray⟩,.string ⟨(R x.b.y).toArray⟩,.int .i64 x.l] 137):=fun N W9 hN hg=>(hg.block bh (Asp (Asd GH) hN.size) (fun e=>Y0 e.symm)).trans ((hN.block bh (Asd GH)).trans GH)
        have rG:=Asb TT;clear hz z q0 q1 q2 q3 q4 q5 q6 M8 c0 c1 c2 c3 c4 TT Y7 BI Aj;have X:Aa W7 W7:=Aa.refl W7;have Y:=BW
        have SO:∀w',Aa W7 w'→(w'.cell? ⟨bh,0,none⟩=some (S (R x.a.x))/\w'.cell? ⟨bh,1,none⟩=some (S (R x.a.y))/\w'.cell? ⟨bh,2,none⟩=some (S (R x.b.x))/\w'.cell? ⟨bh,3,none⟩=some (S (R x.b.y))/\w'.cell? ⟨bh,4,none⟩=some (.int .i64 (q:Int))/\w'.cell? ⟨bl+1+1,0,none⟩=some (.slice (some ⟨bl+1,0,none⟩) i i)/\w'.cell? ⟨bl+1,q,none⟩=some (.int .i64 zf)):=fun w' h=>⟨h.cellS e0,h.cellS e1,h.cellS e2,h.cellS e3,h.cellS e4,h.cellS c5,h.cellS c6⟩
        clear GH
        go_upto_region 23 with fail
        go_region_held3 (fun w'=>w'.cell? ⟨bh,0,none⟩=some (S (R x.a.x))/\w'.cell? ⟨bh,1,none⟩=some (S (R x.a.y))/\w'.cell? ⟨bh,2,none⟩=some (S (R x.b.x))/\w'.cell? ⟨bh,3,none⟩=some (S (R x.b.y))/\w'.cell? ⟨bh,4,none⟩=some (.int .i64 (q:Int))/\w'.cell? ⟨bl+1+1,0,none⟩=some (.slice (some ⟨bl+1,0,none⟩) i i)/\w'.cell? ⟨bl+1,q,none⟩=some (.int .i64 zf))
         (first|exact SS|with_reducible exact SO _ X|with_reducible exact SO _ X.drew|with_reducible exact SO _ (X.alloc _)|with_reducible exact SO _ (X.alloc _).drew|with_reducible exact SO _ (X.drew.alloc _))
         (first|(refine Abo rfl _ _ rfl _ W8.heap.size (.slice eA ed.length ec) ed.length ed [⟨x.a,x.b,zf⟩] rfl (Ap BC ((Aa.refl W7).alloc _).drew) FQ (by simp) W7.heap.size 1 rfl (by rw [Yb];exact Ase W7 _) rfl (by simp;omega) ?_;intro v9 w9 BN CG Bh;replace Y:=CG W8 (Y.alloc _).drew (Asf _);have T9:=rG.out _ _ ((Aa.refl W7).alloc _).drew Bh;have SS:w9.cell? ⟨bh,0,none⟩=some (S (R x.a.x))/\w9.cell? ⟨bh,1,none⟩=some (S (R x.a.y))/\w9.cell? ⟨bh,2,none⟩=some (S (R x.b.x))/\w9.cell? ⟨bh,3,none⟩=some (S (R x.b.y))/\w9.cell? ⟨bh,4,none⟩=some (.int .i64 (q:Int))/\w9.cell? ⟨bl+1+1,0,none⟩=some (.slice (some ⟨bl+1,0,none⟩) i i)/\w9.cell? ⟨bl+1,q,none⟩=some (.int .i64 zf):=⟨Ab T9 rfl,Ab T9 rfl,Ab T9 rfl,Ab T9 rfl,by rw [←HQ.out];exact Ab T9 rfl,Y.cellS VP.out.1,Y.cellS VP.out.2⟩))
        clear SO SS X e0 e1 e2 e3 e4 c5 c6 BC BW hbase;have rt9:=Vx w9 Y;have e0:w9.cell? ⟨bh,0,none⟩=some (S (R x.a.x)):=Ab T9 rfl;have e1:w9.cell? ⟨bh,1,none⟩=some (S (R x.a.y)):=Ab T9 rfl;have e2:w9.cell? ⟨bh,2,none⟩=some (S (R x.b.x)):=Ab T9 rfl;have e3:w9.cell? ⟨bh,3,none⟩=some (S (R x.b.y)):=Ab T9 rfl;have e4:w9.cell? ⟨bh,4,none⟩=some (.int .i64 (q:Int)):=by rw [←HQ.out];exact Ab T9 rfl
        have ja:Ey i (ed ++ [⟨x.a,x.b,zf⟩]):=by
         intro h hh
         rcases List.mem_append.1 hh with e|e
         ·exact Sr.out h e
         ·simp only [Ass]at e;rw [e];exact⟨Mo.1,Mo.2.1,Mo.2.2.1,by show (-1:Int)<=zf;omega,by show zf<(i:Int);omega⟩
        have qP:=Asb ja;clear ja CG Bh Vx
        go_upto_region 24 with fail
        (go_wp2_with fail);(with_reducible refine rt9.mono ?_);rintro e wa ⟨rfl,Ay⟩;have Yf:wa.heap[bh]?=_:=(Ay.block _ (Asd T9)).trans T9;have kJ:=Ap BN Ay;have gB:=Y.trans Ay;clear e0 e1 e2 e3 e4 rt9 BN;by_cases Mq:zr<0
        ·have N7:decide (zr<0)=true:=decide_eq_true Mq;have a0:wa.cell? ⟨bh,0,none⟩=some (S (R x.a.x)):=Ab Yf rfl;have a1:wa.cell? ⟨bh,1,none⟩=some (S (R x.a.y)):=Ab Yf rfl;have a2:wa.cell? ⟨bh,2,none⟩=some (S (R x.b.x)):=Ab Yf rfl;have a3:wa.cell? ⟨bh,3,none⟩=some (S (R x.b.y)):=Ab Yf rfl;have hbase:W8.heap.size<=wa.heap.size:=gB.size;obtain⟨fA,fc,rfl⟩:=IL (by omega) kJ
         go_wp2_with (at_builtin;go_loud (refine dD rfl _ _ rfl _ W8.heap.size (.slice fA (ed.length+1) fc) (ed.length+1) (ed ++ [⟨x.a,x.b,zf⟩]) [⟨x.b,x.a,-1⟩] rfl (Ap kJ ((Aa.refl wa).alloc _)) (by omega) (by simp) wa.heap.size 1 rfl (by rw [Yb];exact Ase wa _) rfl (by simp;omega) ?_);intro vb wb QS hextb hgb)
         have hYb:=hextb W8 (gB.alloc _) (Asf _)
         have jb:Ey i ((ed ++ [⟨x.a,x.b,zf⟩]) ++ [⟨x.b,x.a,-1⟩]):=by
          intro h hh
          rcases List.mem_append.1 hh with e|e
          ·exact qP.out h e
          ·simp only [Ass]at e;rw [e];exact⟨Mo.2.1,Mo.1,fun e=>Mo.2.2.1 e.symm,by show (-1:Int)<=-1;omega,by show (-1:Int)<(i:Int);omega⟩
         have Ac7:=Asb jb;clear jb hextb hgb;go_wp2;go_roundw
         case rel=>exact⟨(ed ++ [⟨x.a,x.b,zf⟩]) ++ [⟨x.b,x.a,-1⟩],j+1,by go_num,AG,by rw [List.length_append,List.length_append];exact QS,Ac7.out,by rw [List.length_append,List.length_append];simp;omega,hYb⟩
         case measure=>simp [intOf];omega
        ·have N7:decide (zr<0)=false:=decide_eq_false Mq;go_wp2;go_roundw
         case rel=>exact⟨ed ++ [⟨x.a,x.b,zf⟩],j+1,by go_num,AG,by rw [List.length_append];exact kJ,qP.out,by rw [List.length_append];simp;omega,gB⟩
         case measure=>simp [intOf];omega
      ·have FO:j=l.length:=(by omega);subst FO;have AiG:(l.length:Int)<=(l.length:Int):=(by omega);have hmk:=Ala i (by omega) (i:Int) rfl wr;have Uw:=AlM wr 0 i (Nat.zero_le _) (by omega);have E9:=(Aa.refl wr).alloc (.cells (madeCells #[S []] i) 9);have H8:=Ac.trans E9;have kK:=Ap QT E9;obtain⟨eA,ec,rfl⟩:=IL (by omega) QT;have XI:(P.map (·.2)).length=i:=(by rw [List.length_map];exact HN.out.symm);have HU:=Asb XI;obtain⟨us,YT⟩:=AcG (P.map (·.2));have hz0:=AoL us;rw [YT,HU.out,←YT]at hz0;rw [←hz0]at Uw;have bY:=Asb YT;have Aqc:w.heap.size<=wr.heap.size:=(Fo.trans Ac).size;clear YT hz0 XI
       go_upto_region 29 with fail
       clear hmk;generalize (wr.alloc (.cells (madeCells #[S []] i) 9))=W9 at *;obtain⟨bu,QA⟩:=AcG wr.heap.size;rw [←QA]at Uw ⊢;have AhU:W8.heap.size<=bu:=(by have:=Ac.size;omega);clear QA
       go_loopw [15] (fun iv wz=>∃k:Nat,iv=.int .i64 (k:Nat)/\k<=i/\wz.ownsRow 0 9 1 (.slice (some ⟨bu,0,none⟩) i i) i ((Lx us k).map S)/\AH (fun q=>q=bu) W9 wz) (fun iv _=>i-(intOf iv).toNat)
       case atStart=>exact⟨0,rfl,by omega,Uw,AH.refl _ _⟩
       case round=>
        obtain⟨k,rfl,hk,Au,Xv⟩:=hrel;have Hm:us.length=i:=(by rw [bY.out];exact HU.out);by_cases Kb:k<i
        ·obtain⟨bA,oA,A1,c1,rfl,-,um,-,-,-,-⟩:=HA.out.row k (by rw [←HN.out];exact Kb);have yN:P[k].2=us[k]:=(by simp [bY.out]);rw [yN]at um;have hXk:Aa w wr:=Xv.toExt (Fo.trans H8) (fun q e=>by subst e;have:=Fo.size;omega);replace um:=hXk.cellS um;have hst:=Au.stored k (S us[k]);rw [←List.map_set,AoK]at hst;obtain⟨uk,qp⟩:=AcG (us[k]);rw [←qp]at um hst;have Jp:=Au.frozenAt k;have hce:=Au.cellAt k (by omega);have Ic:((Lx us k).map S)[k]?=some (S []):=(by simp [Lx,Hm,Kb]);rw [Ic]at hce;have xE:=Xv.grown hst.2 (fun q e=>by cases e;exact .inl rfl);have hk0:(0:Int)<=(k:Int):=(by omega);have Bv:(k:Int)<(i:Int):=(by omega);have HS:=Asb (And.intro hst.1 xE);clear hst xE yN Ic qp;go_wp2;go_roundw
         case rel=>exact⟨k+1,by go_num,Kb,HS.out.1,HS.out.2⟩
         case measure=>simp [intOf];omega
        ·have Dd:k=i:=(by omega);subst Dd;have AqC:(k:Int)<=(k:Int):=(by omega);rw [←Hm,AoJ,Hm]at Au;have JQ:Aa W8 wr:=Xv.toExt H8 (fun q e=>by subst e;exact AhU)
         have Aj9:(Value.slice eA ed.length ec).ownBlock≠some bu:=fun e=>by have h1:=Kk Uw;obtain⟨cur,h1⟩:=h1;exact AL kK h1 (by decide) e
         have li:=DG kK Xv (fun q hq e=>by subst e;exact Aj9 hq);have oc:=AlH (w0:=W8) (w:=wr) (hw.ext Fo) JQ (n:=k) (by omega) ed Sr.out (by omega) (.slice eA ed.length ec) li us Hm (some ⟨bu,0,none⟩) k Au (Asf _) (by omega);have zV:=(JQ.block _ (Asd XS)).trans XS;have ME:=Asb zV;have fZ:=Fo.trans JQ;clear zV Uw Au kK li;(go_wp2_with fail);(with_reducible refine oc.mono ?_);rintro e wf ⟨A9,B9,F9,c9,d9,g9,m9,Xj,rfl,H6,GE,hfr9⟩;unfold Dh;have Nw:=(GE.block _ (Asd XS)).trans XS;have hst:=xh H6 (Fo.trans GE) Nw (Asf _) (.slice A9 m9.pts.length c9) (.slice B9 m9.eds.length d9) (.slice F9 m9.nf g9);have r0:wf.cell? ⟨w.heap.size,0,none⟩=some (.slice none 0 0):=Ab Nw rfl;have r1:wf.cell? ⟨w.heap.size,1,none⟩=some (.slice none 0 0):=Ab Nw rfl;have r2:wf.cell? ⟨w.heap.size,2,none⟩=some (.slice none 0 0):=Ab Nw rfl;have r3:=An (o:=0) Nw;have r4:=An (o:=1) Nw;have r5:=An (o:=2) Nw;have t1:=Ab (o:=0) hst.2.2 rfl;have t2:=Ab (o:=1) hst.2.2 rfl;have t3:=Ab (o:=2) hst.2.2 rfl;have HST:=Asb hst;clear hst Nw H6;go_wp2;refine bodyPost_ret (v:=.agg #[.slice A9 m9.pts.length c9,.slice B9 m9.eds.length d9,.slice F9 m9.nf g9]) (by simp [results,Tryz.results25,go_sem,t1,t2,t3]) rfl ?_;exact⟨A9,B9,F9,c9,d9,g9,m9,Xj,rfl,by rw [←bY.out];exact HST.out.1,HST.out.2.1,hfr9.mono Fo.size⟩
    ·have Q9:=hB2.cells XW (by omega);have y0:=Ab (o:=0) Q9 rfl;have AiI:(0:Int)<=(l.length:Int):=(by omega);have rE:=Asb Cy;clear Cy
     go_upto_region 11 with fail
     clear y0
     go_loopw [6,34] (fun bv jv wr=>∃(f3:List Int) (b:Bool) (j:Nat),bv=.bool b/\jv=.int .i64 (j:Nat)/\j<=l.length/\f3.length=i/\(∀z∈f3,0<=z/\z<(i:Int))/\wr.ownsRow 0 3 1 (.slice (some ⟨bl+1,0,none⟩) i i) i (zs f3)/\AH (fun q=>q=bl+1) V wr/\(b=false→f3.sum=fs.sum)/\(b=true→f3.sum<fs.sum)) (fun _ jv _=>l.length-(intOf jv).toNat)
     case atStart=>exact⟨fs,false,0,rfl,rfl,by omega,HF.out.1,HF.out.2,ho2,hB2,fun _=>rfl,(fun h=>by cases h)⟩
     case round=>
      obtain⟨f3,b,j,rfl,rfl,hj,gu,gw,Dl,BV,aj,bi⟩:=hrel;have H3:=Asb (And.intro gu (And.intro gw (And.intro aj bi)));clear gu gw aj bi;by_cases AG:j<l.length
      ·have Fo:Aa w wr:=BV.toExt Dv (fun q e=>by subst e;omega);have D9:Aa w1 wr:=BV.toExt So (fun q e=>by subst e;omega);obtain⟨b',o',rfl,f0,f1,f2,f3',f4⟩:=M6 (AU.ext D9) AG;have Pf:=Asg AG;obtain⟨x,hx⟩:=AcG (l[j]);rw [←hx]at f0 f1 f2 f3' f4 Pf;have hj0:(0:Int)<=(j:Int):=(by omega);have DD:(j:Int)<(l.length:Int):=(by omega);clear hx;have As:=Ase wr (.cells #[S (R x.a.x),S (R x.a.y),S (R x.b.x),S (R x.b.y),.int .i64 x.l] 137);have E6:=(Aa.refl wr).alloc (.cells #[S (R x.a.x),S (R x.a.y),S (R x.b.x),S (R x.b.y),.int .i64 x.l] 137);have QR:=Ap Dl E6;have JM:=BV.ext E6;have BI:=D9.trans E6;have gA:=Fo.trans E6
       go_upto_region 13 with fail
       unfold S at As QR JM BI gA;generalize (wr.alloc (.cells #[.string ⟨(R x.a.x).toArray⟩,.string ⟨(R x.a.y).toArray⟩,.string ⟨(R x.b.x).toArray⟩,.string ⟨(R x.b.y).toArray⟩,.int .i64 x.l] 137))=W6 at *;obtain⟨bh,El⟩:=AcG wr.heap.size;rw [←El]at As ⊢;clear El f0 f1 f2 f3' f4 E6 Dl BV D9 Fo;have au:=JM.cells XW (by omega);have z5:=Ab (o:=0) au rfl;have z0:=Ab (o:=0) As rfl;have z1:=Ab (o:=1) As rfl;have z2:=Ab (o:=2) As rfl;have z3:=Ab (o:=3) As rfl;have z4:=Ab (o:=4) As rfl;have bk:=WE l x _ vc W6 (AU.ext BI) rf rh;have hbr:=HL.out.inn.back x;have Lc:=HL.out.nn x Pf;have mA:=(HL.out.inn x Pf).2.2.2.2;unfold Jo at bk;generalize Ez l x=r at *;(go_wp2_with fail);(with_reducible refine bk.mono ?_);rintro e W7 ⟨rfl,Aj⟩;have BC:=Ap QR Aj;have Q0:=JM.ext Aj;have zB:=gA.trans Aj;have GH:=(Aj.block _ (Asd As)).trans As;have ak:=Q0.cells GG (by omega);clear z0 z1 z2 z3 z4 z5 bk QR JM BI gA au As Aj;by_cases hr0:r<0
       ·have hd:decide (0<=r)=false:=decide_eq_false (by omega)
        go_upto_region 14 with fail
        refine Bi (by kernel_rfl) (by kernel_rfl) ?_
        repeat (go_big_quiet_step (fail))
        refine wpQuiet_nil ?_;rintro W8 ⟨z,hz⟩;have AE:Aa W7 W8:=hz▸z.h;clear hz z;have Jt:=Ap BC AE;have I4:=Q0.ext AE;go_wp2;go_roundw
        case rel=>exact⟨f3,b,j+1,rfl,by go_num,AG,H3.out.1,H3.out.2.1,Jt,I4,H3.out.2.2.1,H3.out.2.2.2⟩
        case measure=>simp [intOf];omega
       ·obtain⟨m,rfl⟩:∃m:Nat,r=(m:Int):=⟨r.toNat,by omega⟩;obtain⟨q,hq⟩:∃q:Nat,x.l=(q:Int):=⟨x.l.toNat,by omega⟩;have hm:m<i:=(by omega);have m8:q<i:=(by omega);obtain⟨bA,oA,A1,c1,rfl,-,um,-,-,-,-⟩:=HA.out.row m (by rw [←HN.out];exact hm);obtain⟨dH,mV,A2,c2,he,-,uq,-,-,-,-⟩:=HA.out.row q (by rw [←HN.out];exact m8);simp only [Asj,Addr.mk.injEq,and_true]at he;obtain⟨rfl,rfl⟩:=he;generalize P[m].2=u1 at *;generalize P[q].2=u2 at *;replace um:=zB.cellS um;replace uq:=zB.cellS uq;have Dk:f3.length=i:=H3.out.1;have cm:=BC.cellAt m (by omega);have cq:=BC.cellAt q (by omega);have JZ:(zs f3)[m]?=some (.int .i64 (f3.getD m 0)):=(by simp [zs,List.getD_eq_getElem?_getD,Asl (show m<f3.length by omega)]);have Jq:(zs f3)[q]?=some (.int .i64 (f3.getD q 0)):=(by simp [zs,List.getD_eq_getElem?_getD,Asl (show q<f3.length by omega)]);rw [JZ]at cm;rw [Jq]at cq;obtain⟨zm,Ev⟩:=AcG (f3.getD m 0);obtain⟨zq,IF⟩:=AcG (f3.getD q 0);rw [←Ev]at cm;rw [←IF]at cq;have HZ:=Asb (And.intro Ev IF);have z4:W7.cell? ⟨bh,4,none⟩=some (.int .i64 (q:Int)):=(by rw [←hq];exact Ab GH rfl);have z5:W7.cell? ⟨bl+2,0,none⟩=some (.slice (some ⟨bl+1,0,none⟩) i i):=Ab ak rfl;have q0:∀z:Ad W7,z.w.cell? ⟨bA,oA+m*3+1,none⟩=some (S u1):=Ad.cell um;have q1:∀z:Ad W7,z.w.cell? ⟨bA,oA+q*3+1,none⟩=some (S u2):=Ad.cell uq;have q2:∀z:Ad W7,z.w.cell? ⟨bl+1,m,none⟩=some (.int .i64 zm):=Ad.cell cm;have q3:∀z:Ad W7,z.w.cell? ⟨bl+1,q,none⟩=some (.int .i64 zq):=Ad.cell cq;have q4:∀z:Ad W7,z.w.cell? ⟨bh,4,none⟩=some (.int .i64 (q:Int)):=Ad.cell z4;have q5:∀z:Ad W7,z.w.cell? ⟨bl+1+1,0,none⟩=some (.slice (some ⟨bl+1,0,none⟩) i i):=Ad.cell z5;have m0:(0:Int)<=(m:Int):=(by omega);have m1:(m:Int)<(i:Int):=(by omega);have n0:(0:Int)<=(q:Int):=(by omega);have n1:(q:Int)<(i:Int):=(by omega);clear Ev IF JZ Jq hr0 hbr Lc mA hq GH ak um uq;have skip:∀W8,Aa W7 W8→W8.ownsRow 0 3 1 (.slice (some ⟨bl+1,0,none⟩) i i) i (zs f3)/\AH (fun q=>q=bl+1) V W8:=fun W8 h=>⟨Ap BC h,Q0.ext h⟩;have SK:=Asb skip;clear skip
        go_upto_region 14 with fail
        cases hU:(u1 == u2)
        ·refine Bi (by kernel_rfl) (by kernel_rfl) ?_
         repeat (go_big_quiet_step (fail))
         refine wpQuiet_nil ?_;rintro W8 ⟨z,hz⟩;obtain⟨Jt,I4⟩:=SK.out W8 (hz▸z.h);clear hz z q0 q1 q2 q3 q4 q5;go_wp2;go_roundw
         case rel=>exact⟨f3,b,j+1,rfl,by go_num,AG,H3.out.1,H3.out.2.1,Jt,I4,H3.out.2.2.1,H3.out.2.2.2⟩
         case measure=>simp [intOf];omega
        ·by_cases hlt:zm<zq
         ·have FM:decide (zm<zq)=true:=decide_eq_true hlt;refine Bi (by kernel_rfl) (by kernel_rfl) ?_
          repeat (go_big_quiet_step (fail))
          refine wpQuiet_nil ?_;rintro W8 ⟨z,hz⟩;have AE:Aa W7 W8:=hz▸z.h;obtain⟨Jt,I4⟩:=SK.out W8 AE;clear hz z;replace cm:=AE.cellS cm;replace cq:=AE.cellS cq;replace z4:=AE.cellS z4;have z6:W8.cell? ⟨bl+1+1,0,none⟩=some (.slice (some ⟨bl+1,0,none⟩) i i):=AE.cellS z5;have Jp:=Jt.frozenAt q;have hst:=Jt.stored q (.int .i64 zm);rw [pQ]at hst;have JO:=I4.grown hst.2 (fun q e=>by cases e;exact .inl rfl);have Fw:=Abu f3 q zm (by omega) (by have:=HZ.out.2;rw [List.getD_eq_getElem?_getD,Asl (by omega)]at this;simp only [Option.getD_some]at this;omega)
          have hrg:∀z∈f3.set q zm,0<=z/\z<(i:Int):=by
           intro z hz
           rcases List.mem_or_eq_of_mem_set hz with e|e
           ·exact H3.out.2.1 z e
           ·rw [e];refine H3.out.2.1 zm ?_;have:=HZ.out.1;rw [List.getD_eq_getElem?_getD,Asl (by omega)]at this;simp only [Option.getD_some]at this;rw [this];exact Asg _
          have Em:(f3.set q zm).sum<fs.sum:=by
           cases b
           ·have:=H3.out.2.2.1 rfl;omega
           ·have:=H3.out.2.2.2 rfl;omega
          have HST:=Asb (And.intro hst.1 (And.intro JO (And.intro hrg Em)));clear hst JO hrg Em Fw q0 q1 q2 q3 q4 q5 AE z5
          go_upto_region 15 with fail
          go_region
          all_goals (
           have o9:=Ap HST.out.1 (Aa.refl _).drew;have b9:=HST.out.2.1.ext (Aa.refl _).drew;clear cm cq z4 z6 Jp Jt I4;go_wp2;go_roundw
           case rel=>exact⟨f3.set q zm,true,j+1,rfl,by go_num,AG,by rw [List.length_set];exact H3.out.1,HST.out.2.2.1,o9,b9,(fun h=>by cases h),fun _=>HST.out.2.2.2⟩
           case measure=>simp [intOf];omega)
         ·have FM:decide (zm<zq)=false:=decide_eq_false hlt;refine Bi (by kernel_rfl) (by kernel_rfl) ?_
          repeat (go_big_quiet_step (fail))
          refine wpQuiet_nil ?_;rintro W8 ⟨z,hz⟩;obtain⟨Jt,I4⟩:=SK.out W8 (hz▸z.h);clear hz z q0 q1 q2 q3 q4 q5;go_wp2;go_roundw
          case rel=>exact⟨f3,b,j+1,rfl,by go_num,AG,H3.out.1,H3.out.2.1,Jt,I4,H3.out.2.2.1,H3.out.2.2.2⟩
          case measure=>simp [intOf];omega
      ·have FO:j=l.length:=(by omega);subst FO;have Yr:(l.length:Int)<=(l.length:Int):=by omega
       cases b
       ·go_wp2;go_roundw
        case rel=>exact⟨f3,false,rfl,H3.out.1,H3.out.2.1,Dl,BV⟩
        case measure=>rw [rE.out];simp
       ·have hs3:=Abr Dl H3.out.1;have hlt:=H3.out.2.2.2 rfl;have FT:=Abt f3 (fun z hz=>(H3.out.2.1 z hz).1);have rB:=Asb (And.intro hs3 (And.intro hlt FT));clear hs3 hlt FT;go_wp2;go_roundw
        case rel=>exact⟨f3,true,rfl,H3.out.1,H3.out.2.1,Dl,BV⟩
        case measure=>rw [rE.out,rB.out.1];have:=rB.out.2;simp only [];omega
end Go.Proofs.YtdaefncphfeaeaaGreatDoor
