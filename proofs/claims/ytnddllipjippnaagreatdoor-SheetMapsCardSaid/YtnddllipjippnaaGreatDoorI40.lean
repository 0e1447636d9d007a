/- I40: ShQG. -/
import Derived.Test.YtnddllipjippnaaGreatDoorI35
set_option maxRecDepth 100000
set_option maxHeartbeats 16000000
namespace Go.Proofs.YtnddllipjippnaaGreatDoor
open Go.RowKit Kl
def GE(n k:Nat):List Int:=(List.range n).map (fun i=>if i<k then (i:Int)else 0)
theorem Ah0(n:Nat):GE n 0=zn (List.replicate n 0):=by
 unfold GE zn;apply List.ext_getElem
 ·simp
 ·intro i h1 h2;simp
theorem eP(n k:Nat):(GE n k).length=n:=by simp [GE]
theorem Ahz{n k:Nat} : (GE n k).set k (k:Int)=GE n (k+1):=by
 unfold GE;apply List.ext_getElem
 ·simp
 ·intro i h1 h2;by_cases h:k=i
  ·subst h;simp
  ·rw [List.getElem_set_ne h];have:(i<k+1)↔i<k:=(by omega);simp [this]
theorem Ahy(n:Nat):∀z∈GE n n,0<=z/\z<(n:Int):=by
 intro z hz;unfold GE at hz;rw [List.mem_map]at hz;obtain⟨i,hi,rfl⟩:=hz;rw [List.mem_range]at hi;rw [if_pos hi];omega
theorem Acu:∀(l:List Int) (k:Nat) (z:Int) (h:k<l.length),z<l[k]→(l.set k z).sum<l.sum
 | a::l,0,z,_,h=>by simp at h ⊢;omega
 | a::l,k+1,z,hk,h=>by have:=Acu l k z (by simpa using hk) (by simpa using h);simp only [List.set_cons_succ,List.sum_cons];omega
theorem Acs:∀(l:List Int),(∀z∈l,0<=z)→0<=l.sum
 | [],_=>by simp
 | a::l,h=>by have h1:=Acs l (fun z hz=>h z (List.mem_cons_of_mem _ hz));have h2:=h a List.mem_cons_self;simp only [List.sum_cons];omega
theorem Ahx(P:List (List Pt×Bs))(l:List Hf)(n:Nat):MX P l (GE n n):=by
 intro g _ z hz;rw [eP]at hz
 have:(GE n n).getD z 0=(z:Int):=by rw [List.getD_eq_getElem?_getD,As5 (by rw [eP];exact hz)];simp [GE,hz]
 rw [this]
def qM(w:World)(b n:Nat):Nat:=(((List.range n).map (fun i=>match w.cell? ⟨b,i,none⟩with|some (.int _ z)=>z|_=>0)).sum).toNat
theorem Acr{w:World}{B b n:Nat}{fs:List Int}(h:w.ownsRow B 3 1 (.slice (some ⟨b,0,none⟩) n n) n (zs fs))(hl:fs.length=n):qM w b n=fs.sum.toNat:=by
 unfold qM
 congr 2
 apply List.ext_getElem
 ·simp [hl]
 ·intro i h1 h2;simp only [List.getElem_map,List.getElem_range];rw [h.cellAt i (by omega)];simp [zs,h2]
theorem AhT(P:List (List Pt×Bs))(hP:Tj P)(A:Option Addr)(c:Nat)(w:World)(hw:Aj w)(h:IS w A c P) :
  Calls Tryz.prog 46 #[.slice A P.length c] w (AcU w P):=by
 obtain⟨n,hn⟩:=Asw P.length;rw [←hn];have HN:=Asx hn;have hlen:n<=18:=(by rw [hn];exact hP.len);have HA:=Asx h;have DX:=Asz w (.cells #[.slice none 0 0,.slice none 0 0,.slice none 0 0] 35);have E1:=(Ab.refl w).alloc (.cells #[.slice none 0 0,.slice none 0 0,.slice none 0 0] 35);have sd:=Ao7 P hP A c _ (hw.ext E1) (h.ext E1);rw [←hn]at sd;have DL:(0:Int)<=(n:Int):=(by omega);clear hn hP h;go_enter Tryz.func46,Tryz.ntmps46;(go_wp2_with fail);(with_reducible refine sd.mono ?_);rintro e w1 ⟨v,l,rfl,hv,hl,DK,hx1,UP⟩;have Wv:=Asx UP;clear UP;obtain⟨vA,vc,rfl,Bi,vg,vh⟩:=Ad.of_own' (by omega) hv;have HL:=Asx hl;have NH:=(hx1.block _ (Asy DX)).trans DX;have hmk:=nS n (by omega) (n:Int) rfl (w1.alloc (.cells #[.slice vA l.length vc] 153));have hbl:=Asz w1 (.cells #[.slice vA l.length vc] 153);have E2:=(Ab.refl w1).alloc (.cells #[.slice vA l.length vc] 153);have E3:=(Ab.refl (w1.alloc (.cells #[.slice vA l.length vc] 153))).alloc (.cells (madeCells #[.int .i64 0] n) 3);have E4:=(Ab.refl ((w1.alloc (.cells #[.slice vA l.length vc] 153)).alloc (.cells (madeCells #[.int .i64 0] n) 3))).alloc (.cells #[.slice (some ⟨w1.heap.size+1,0,none⟩) n n] 76);have YK:=An (Z4 (w1.alloc (.cells #[.slice vA l.length vc] 153)) 0 n (Nat.zero_le _) (by omega)) E4;rw [As7]at YK;have I4:=Asz ((w1.alloc (.cells #[.slice vA l.length vc] 153)).alloc (.cells (madeCells #[.int .i64 0] n) 3)) (.cells #[.slice (some ⟨w1.heap.size+1,0,none⟩) n n] 76);rw [As7,As7]at I4;have QX:=((E3.trans E4).block _ (Asy hbl)).trans hbl;have S7:=E2.trans (E3.trans E4);have Yc:=(S7.block _ (Asy NH)).trans NH;have CJ:=(E1.trans hx1).trans S7;have hv4:=An hv S7;rw [←Ah0]at YK;have ArC:=(E1.trans hx1).size;have AiG:=NH;clear hl sd E2 E3 E4 hbl NH DX
 go_upto_region 4 with fail
 clear hmk;generalize ((w1.alloc (.cells #[.slice vA l.length vc] 153)).alloc (.cells (madeCells #[.int .i64 0] n) 3)).alloc (.cells #[.slice (some ⟨w1.heap.size+1,0,none⟩) n n] 76)=V at *;obtain⟨bl,ji⟩:=Asw w1.heap.size;rw [←ji]at YK I4 QX ⊢;have ArG:w.heap.size<=bl:=(by omega);have ArB:w1.heap.size<=bl:=(by omega);clear ji
 go_loopw [5] (fun iv wr=>∃i:Nat,iv=.int .i64 (i:Nat)/\i<=n/\wr.ownsRow 0 3 1 (.slice (some ⟨bl+1,0,none⟩) n n) n (zs (GE n i))/\Ak (fun q=>q=bl+1) V wr) (fun iv _=>n-(intOf iv).toNat)
 case atStart=>exact⟨0,rfl,by omega,YK,Ak.refl _ _⟩
 case round=>
  obtain⟨i,rfl,hi,ho,hB⟩:=hrel;have Ux:=hB.cells I4 (by omega);by_cases hin:i<n
  ·have k0:=Aa (o:=0) Ux rfl
   have hce:wr.cell? ⟨bl+1,i,none⟩=some (.int .i64 0):=by rw [ho.cellAt i (by omega)];simp [zs,GE,hin]
   have Gv:=ho.frozenAt i;have hst:=ho.stored i (.int .i64 (i:Int));rw [ZW,Ahz]at hst;have hB2:=hB.grown hst.2 (fun q e=>by cases e;exact .inl rfl);have EW:(0:Int)<=(i:Int):=(by omega);have Ji:(i:Int)<(n:Int):=(by omega);have HS:=Asx (And.intro hst.1 hB2);clear hst hB2;go_wp2;go_roundw
   case rel=>exact⟨i+1,by go_num,hin,HS.out.1,HS.out.2⟩
   case measure=>simp [intOf];omega
  ·have Mp:i=n:=(by omega);subst Mp;have Ari:(i:Int)<=(i:Int):=(by omega);have aK:=Asx (eP i i);have SD:=Asx (Ahy i);have HFC:=Asx (Ahx P l i);generalize GE i i=fs0 at *
   go_upto_region 8 with fail
   go_loopw [6] (fun bv wr=>∃(fs:List Int) (b:Bool),bv=.bool b/\fs.length=i/\(∀z∈fs,0<=z/\z<(i:Int))/\MX P l fs/\(b=false→L2 P l fs l.length)/\wr.ownsRow 0 3 1 (.slice (some ⟨bl+1,0,none⟩) i i) i (zs fs)/\Ak (fun q=>q=bl+1) V wr) (fun bv wr=>match bv with | .bool true=>qM wr (bl+1) i+1|_=>0)
   case atStart=>exact⟨fs0,true,rfl,aK.out,SD.out,HFC.out,(fun h=>by cases h),ho,hB⟩
   case round=>
    obtain⟨fs,b,rfl,C5,hfr,UC,Rn,ho2,hB2⟩:=hrel;have aM:=Asx (And.intro UC Rn);clear UC Rn;have HF:=Asx (And.intro C5 hfr);have mC:=Acr ho2 C5;clear C5 hfr
    cases b
    ·have Yg:=hB2.cells QX (by omega);have Ux:=hB2.cells I4 (by omega);have y0:=Aa (o:=0) Yg rfl;have Rt:∀(fn:Fn) (first cap:Array Value) (w:World),(Instr.makeFunc fn first cap).run Tryz.prog w=.ok (.func fn first cap) w:=fun _ _ _ _=>rfl;have Ajx:(0:Int)<=(l.length:Int):=(by omega);have Dz:Ab w1 wr:=hB2.toExt S7 (fun q e=>by subst e;omega);have B8:Ab w wr:=hB2.toExt CJ (fun q e=>by subst e;omega);have Yd:=hB2.cells Yc (by have:=Asy AiG;omega);have si:=Bi.ext Dz;obtain⟨oF,cF,lm,hrF,-,-⟩:=Ad.of_own' (by omega) ho2;simp only [Value.slice.injEq,true_and]at lm;obtain⟨rfl,rfl⟩:=lm;have hHF:=HF.out.1;have rt:=fun (W':World) (h:Ab wr W') (x:Hf)=>AnV l x fs (by rw [HF.out.1];exact HL.out.inn) vA (some ⟨bl+1,0,none⟩) vc i bl (bl+1+1) W' (h.cellS (Aa Yg rfl)) (si.ext h) vg vh (by rw [HF.out.1];exact h.cellS (Aa Ux rfl)) (hrF.ext h);have Qo:=Asx rt;clear rt hHF mC;obtain⟨W8,rfl⟩:=Li B8
     go_upto_region 20 with fail
     clear y0
     go_loopw [10,81] (fun ov jv wr=>∃(ed:List Hf) (j:Nat),jv=.int .i64 (j:Nat)/\j<=l.length/\wr.ownsRow W8.heap.size 156 5 ov ed.length (Bn ed)/\Ej i ed/\ed.length<=2*j/\ed=(l.take j).flatMap (KJ l fs)/\Ab W8 wr) (fun _ jv _=>l.length-(intOf jv).toNat)
     case atStart=>exact⟨[],0,rfl,by omega,⟨rfl,.inl ⟨rfl,rfl⟩⟩,(fun h hh=>by cases hh),by simp,rfl,Ab.refl _⟩
     case round=>
      obtain⟨ed,j,rfl,hj,Rw,hin,hel,l5,Ae⟩:=hrel;have SI:=Asx hin;have rR:=Asx l5;clear hin l5;by_cases Ay:j<l.length
      ·obtain⟨eA,ec,rfl⟩:=Fb (by omega) Rw;obtain⟨b',o',rfl,f0,f1,f2,f3',f4⟩:=ME (si.ext Ae) Ay;have Pv:=As1 Ay;obtain⟨x,hx⟩:=Asw (l[j]);rw [←hx]at f0 f1 f2 f3' f4 Pv;have hj0:(0:Int)<=(j:Int):=(by omega);have FS:(j:Int)<(l.length:Int):=(by omega);have Ke:=HL.out.inn x Pv;have Oj:=HL.out.nn x Pv;obtain⟨q,hq⟩:∃q:Nat,x.l=(q:Int):=⟨x.l.toNat,by omega⟩;have YP:q<i:=(by have:=Ke.2.2.2.2;omega);have HQ:=Asx hq;have HST:=Asx (AhS Ay hx rR.out);clear hq;have C5:fs.length=i:=HF.out.1;have cq:=ho2.cellAt q (by omega);have Rl:(zs fs)[q]?=some (.int .i64 (fs.getD q 0)):=by simp [zs,List.getD_eq_getElem?_getD,As5 (show q<fs.length by omega)]
       have hgr:0<=fs.getD q 0/\fs.getD q 0<(i:Int):=by rw [List.getD_eq_getElem?_getD,As5 (by omega)];exact HF.out.2 _ (As1 _)
       rw [Rl]at cq;generalize PL:fs.getD q 0=zf at *;have HZF:=Asx PL;clear PL;have vS:W8.cell? ⟨bl+1+1,0,none⟩=some (.slice (some ⟨bl+1,0,none⟩) i i):=Aa Ux rfl;have dO:=ho2.cellAt q (by omega);rw [Rl]at dO;have Wr:=Asx (And.intro vS dO);clear vS dO;have Ax:=Asz wr (.cells #[S (R x.a.x),S (R x.a.y),S (R x.b.x),S (R x.b.y),.int .i64 x.l] 156);have E6:=(Ab.refl wr).alloc (.cells #[S (R x.a.x),S (R x.a.y),S (R x.b.x),S (R x.b.y),.int .i64 x.l] 156);have YJ:=An Rw E6;have BY:=Ae.trans E6;clear hx Rl
       go_upto_region 22 with fail
       unfold S at Ax YJ BY;generalize (wr.alloc (.cells #[.string ⟨(R x.a.x).toArray⟩,.string ⟨(R x.a.y).toArray⟩,.string ⟨(R x.b.x).toArray⟩,.string ⟨(R x.b.y).toArray⟩,.int .i64 x.l] 156))=W6 at *;obtain⟨bh,Do⟩:=Asw wr.heap.size;have US:(Value.slice eA ed.length ec).ownBlock≠some bh:=fun k=>(by have:=(Rw.lt bh k).2;omega);rw [←Do]at Ax ⊢;clear Do f0 f1 f2 f3' f4 E6 Rw Ae;have MG:=fun (z:Ac W6)=>Qo.out z.w (BY.trans z.h) x;obtain⟨zr,nC⟩:=Asw (PW l fs x);have VO:=fun (W':World) (h:Ab W8 W')=>Qo.out W' h x;have aN:=Asx (AhQ nC HZF.out HQ.out);rw [←nC]at MG VO;unfold GL at MG VO;have c0:W6.cell? ⟨bh,0,none⟩=some (S (R x.a.x)):=Aa Ax rfl;have c1:W6.cell? ⟨bh,1,none⟩=some (S (R x.a.y)):=Aa Ax rfl;have c2:W6.cell? ⟨bh,2,none⟩=some (S (R x.b.x)):=Aa Ax rfl;have c3:W6.cell? ⟨bh,3,none⟩=some (S (R x.b.y)):=Aa Ax rfl;have c4:W6.cell? ⟨bh,4,none⟩=some (.int .i64 x.l):=Aa Ax rfl;have c5:W6.cell? ⟨bl+1+1,0,none⟩=some (.slice (some ⟨bl+1,0,none⟩) i i):=BY.cellS (Aa Ux rfl);have c6:=BY.cellS cq;rw [HQ.out]at MG VO c4;have q0:∀z:Ac W6,z.w.cell? ⟨bh,0,none⟩=some (S (R x.a.x)):=Ac.cell c0;have q1:∀z:Ac W6,z.w.cell? ⟨bh,1,none⟩=some (S (R x.a.y)):=Ac.cell c1;have q2:∀z:Ac W6,z.w.cell? ⟨bh,2,none⟩=some (S (R x.b.x)):=Ac.cell c2;have q3:∀z:Ac W6,z.w.cell? ⟨bh,3,none⟩=some (S (R x.b.y)):=Ac.cell c3;have q4:∀z:Ac W6,z.w.cell? ⟨bh,4,none⟩=some (.int .i64 (q:Int)):=Ac.cell c4;have q5:∀z:Ac W6,z.w.cell? ⟨bl+1+1,0,none⟩=some (.slice (some ⟨bl+1,0,none⟩) i i):=Ac.cell c5;have q6:∀z:Ac W6,z.w.cell? ⟨bl+1,q,none⟩=some (.int .i64 zf):=Ac.cell c6;have n0:(0:Int)<=(q:Int):=(by omega);have n1:(q:Int)<(i:Int):=(by omega);clear nC cq
       go_upto_region 22 with fail
       by_cases Vp:zr=zf
       ·have hzb:(zr != zf)=false:=(by rw [Vp];simp);refine Bh (by kernel_rfl) (by kernel_rfl) ?_
        repeat (go_big_quiet_step (first|(with_reducible refine EN (MG _))|(go_simp;with_reducible refine EN (MG _))))
        refine wpQuiet_nil ?_;rintro W7 ⟨z,hz⟩;have Az:Ab W6 W7:=hz▸z.h;have BC:=An YJ Az;have Cl:=BY.trans Az;clear hz z q0 q1 q2 q3 q4 q5 q6 MG;go_wp2;go_roundw
        case rel=>exact⟨ed,j+1,by go_num,Ay,BC,SI.out,by omega,(by have h:=HST.out;rw [aN.out,if_pos Vp,List.append_nil]at h;exact h),Cl⟩
        case measure=>simp [intOf];omega
       ·have hzb:(zr != zf)=true:=(by rw [bne,beq_false_of_ne Vp];rfl);refine Bh (by kernel_rfl) (by kernel_rfl) ?_
        repeat (go_big_quiet_step (first|(with_reducible refine EN (MG _))|(go_simp;with_reducible refine EN (MG _))))
        refine wpQuiet_nil ?_;rintro W7 ⟨z,hz⟩;have Az:Ab W6 W7:=hz▸z.h;have BC:=An YJ Az;have Cl:=BY.trans Az;have ES:=(Az.block _ (Asy Ax)).trans Ax;replace c5:=Az.cellS c5;replace c6:=Az.cellS c6;have hbase:W8.heap.size<=W7.heap.size:=Cl.size;have P0:ed.length<200000:=(by omega);have e0:W7.cell? ⟨bh,0,none⟩=some (S (R x.a.x)):=Aa ES rfl;have e1:W7.cell? ⟨bh,1,none⟩=some (S (R x.a.y)):=Aa ES rfl;have e2:W7.cell? ⟨bh,2,none⟩=some (S (R x.b.x)):=Aa ES rfl;have e3:W7.cell? ⟨bh,3,none⟩=some (S (R x.b.y)):=Aa ES rfl;have e4:W7.cell? ⟨bh,4,none⟩=some (.int .i64 (q:Int)):=by rw [←HQ.out];exact Aa ES rfl
        have TT:∀(N W9:World),Ab W7 N→N.grownBy W9 (Value.slice eA ed.length ec).ownBlock→W9.heap[bh]?=some (.cells #[.string ⟨(R x.a.x).toArray⟩,.string ⟨(R x.a.y).toArray⟩,.string ⟨(R x.b.x).toArray⟩,.string ⟨(R x.b.y).toArray⟩,.int .i64 x.l] 156):=fun N W9 hN hg=>(hg.block bh (As9 (Asy ES) hN.size) (fun e=>US e.symm)).trans ((hN.block bh (Asy ES)).trans ES)
        have HTT:=Asx TT;clear hz z q0 q1 q2 q3 q4 q5 q6 MG c0 c1 c2 c3 c4 TT YJ BY Az;have X:Ab W7 W7:=Ab.refl W7;have Y:=Cl
        have SO:∀w',Ab W7 w'→(w'.cell? ⟨bh,0,none⟩=some (S (R x.a.x))/\w'.cell? ⟨bh,1,none⟩=some (S (R x.a.y))/\w'.cell? ⟨bh,2,none⟩=some (S (R x.b.x))/\w'.cell? ⟨bh,3,none⟩=some (S (R x.b.y))/\w'.cell? ⟨bh,4,none⟩=some (.int .i64 (q:Int))/\w'.cell? ⟨bl+1+1,0,none⟩=some (.slice (some ⟨bl+1,0,none⟩) i i)/\w'.cell? ⟨bl+1,q,none⟩=some (.int .i64 zf)):=fun w' h=>⟨h.cellS e0,h.cellS e1,h.cellS e2,h.cellS e3,h.cellS e4,h.cellS c5,h.cellS c6⟩
        clear ES
        go_upto_region 23 with fail
        go_region_held3 (fun w'=>w'.cell? ⟨bh,0,none⟩=some (S (R x.a.x))/\w'.cell? ⟨bh,1,none⟩=some (S (R x.a.y))/\w'.cell? ⟨bh,2,none⟩=some (S (R x.b.x))/\w'.cell? ⟨bh,3,none⟩=some (S (R x.b.y))/\w'.cell? ⟨bh,4,none⟩=some (.int .i64 (q:Int))/\w'.cell? ⟨bl+1+1,0,none⟩=some (.slice (some ⟨bl+1,0,none⟩) i i)/\w'.cell? ⟨bl+1,q,none⟩=some (.int .i64 zf))
         (first|exact SS|with_reducible exact SO _ X|with_reducible exact SO _ X.drew|with_reducible exact SO _ (X.alloc _)|with_reducible exact SO _ (X.alloc _).drew|with_reducible exact SO _ (X.drew.alloc _))
         (first|(refine Acl rfl _ _ rfl _ W8.heap.size (.slice eA ed.length ec) ed.length ed [⟨x.a,x.b,zf⟩] rfl (An BC ((Ab.refl W7).alloc _).drew) P0 (by simp) W7.heap.size 1 rfl (by rw [Yn];exact Asz W7 _) rfl (by simp;omega) ?_;intro v9 w9 Bo CY AP;replace Y:=CY W8 (Y.alloc _).drew (As0 _);have T9:=HTT.out _ _ ((Ab.refl W7).alloc _).drew AP;have SS:w9.cell? ⟨bh,0,none⟩=some (S (R x.a.x))/\w9.cell? ⟨bh,1,none⟩=some (S (R x.a.y))/\w9.cell? ⟨bh,2,none⟩=some (S (R x.b.x))/\w9.cell? ⟨bh,3,none⟩=some (S (R x.b.y))/\w9.cell? ⟨bh,4,none⟩=some (.int .i64 (q:Int))/\w9.cell? ⟨bl+1+1,0,none⟩=some (.slice (some ⟨bl+1,0,none⟩) i i)/\w9.cell? ⟨bl+1,q,none⟩=some (.int .i64 zf):=⟨Aa T9 rfl,Aa T9 rfl,Aa T9 rfl,Aa T9 rfl,by rw [←HQ.out];exact Aa T9 rfl,Y.cellS Wr.out.1,Y.cellS Wr.out.2⟩))
        clear SO SS X e0 e1 e2 e3 e4 c5 c6 BC Cl hbase;have rt9:=VO w9 Y;have e0:w9.cell? ⟨bh,0,none⟩=some (S (R x.a.x)):=Aa T9 rfl;have e1:w9.cell? ⟨bh,1,none⟩=some (S (R x.a.y)):=Aa T9 rfl;have e2:w9.cell? ⟨bh,2,none⟩=some (S (R x.b.x)):=Aa T9 rfl;have e3:w9.cell? ⟨bh,3,none⟩=some (S (R x.b.y)):=Aa T9 rfl;have e4:w9.cell? ⟨bh,4,none⟩=some (.int .i64 (q:Int)):=by rw [←HQ.out];exact Aa T9 rfl
        have nk:Ej i (ed ++ [⟨x.a,x.b,zf⟩]):=by
         intro h hh
         rcases List.mem_append.1 hh with e|e
         ·exact SI.out h e
         ·simp only [AsC]at e;rw [e];exact⟨Ke.1,Ke.2.1,Ke.2.2.1,by show (-1:Int)<=zf;omega,by show zf<(i:Int);omega⟩
        have rZ:=Asx nk;clear nk CY AP VO
        go_upto_region 24 with fail
        (go_wp2_with fail);(with_reducible refine rt9.mono ?_);rintro e wa ⟨rfl,FC⟩;have Ys:wa.heap[bh]?=_:=(FC.block _ (Asy T9)).trans T9;have lJ:=An Bo FC;have iO:=Y.trans FC;clear e0 e1 e2 e3 e4 rt9 Bo;by_cases Js:zr<0
        ·have hdz:decide (zr<0)=true:=decide_eq_true Js;have a0:wa.cell? ⟨bh,0,none⟩=some (S (R x.a.x)):=Aa Ys rfl;have a1:wa.cell? ⟨bh,1,none⟩=some (S (R x.a.y)):=Aa Ys rfl;have a2:wa.cell? ⟨bh,2,none⟩=some (S (R x.b.x)):=Aa Ys rfl;have a3:wa.cell? ⟨bh,3,none⟩=some (S (R x.b.y)):=Aa Ys rfl;have hbase:W8.heap.size<=wa.heap.size:=iO.size;obtain⟨fA,fc,rfl⟩:=Fb (by omega) lJ
         go_wp2_with (at_builtin;go_loud (refine dD rfl _ _ rfl _ W8.heap.size (.slice fA (ed.length+1) fc) (ed.length+1) (ed ++ [⟨x.a,x.b,zf⟩]) [⟨x.b,x.a,-1⟩] rfl (An lJ ((Ab.refl wa).alloc _)) (by omega) (by simp) wa.heap.size 1 rfl (by rw [Yn];exact Asz wa _) rfl (by simp;omega) ?_);intro vb wb hob hextb hgb)
         have hYb:=hextb W8 (iO.alloc _) (As0 _)
         have nl:Ej i ((ed ++ [⟨x.a,x.b,zf⟩]) ++ [⟨x.b,x.a,-1⟩]):=by
          intro h hh
          rcases List.mem_append.1 hh with e|e
          ·exact rZ.out h e
          ·simp only [AsC]at e;rw [e];exact⟨Ke.2.1,Ke.1,fun e=>Ke.2.2.1 e.symm,by show (-1:Int)<=-1;omega,by show (-1:Int)<(i:Int);omega⟩
         have Ad0:=Asx nl;clear nl hextb hgb;go_wp2;go_roundw
         case rel=>exact⟨(ed ++ [⟨x.a,x.b,zf⟩]) ++ [⟨x.b,x.a,-1⟩],j+1,by go_num,Ay,by rw [List.length_append,List.length_append];exact hob,Ad0.out,by rw [List.length_append,List.length_append];simp;omega,(by have h:=HST.out;rw [aN.out,if_neg Vp,if_pos Js]at h;rw [←h,List.append_assoc];rfl),hYb⟩
         case measure=>simp [intOf];omega
        ·have hdz:decide (zr<0)=false:=decide_eq_false Js;go_wp2;go_roundw
         case rel=>exact⟨ed ++ [⟨x.a,x.b,zf⟩],j+1,by go_num,Ay,by rw [List.length_append];exact lJ,rZ.out,by rw [List.length_append];simp;omega,(by have h:=HST.out;rw [aN.out,if_neg Vp,if_neg (show ¬zr<0 by omega)]at h;exact h),iO⟩
         case measure=>simp [intOf];omega
      ·have D2:j=l.length:=(by omega);subst D2;have Ajv:(l.length:Int)<=(l.length:Int):=(by omega);have hmk:=Aam i (by omega) (i:Int) rfl wr;have UV:=AaK wr 0 i (Nat.zero_le _) (by omega);have E9:=(Ab.refl wr).alloc (.cells (madeCells #[S []] i) 9);have Fz:=Ae.trans E9;have lK:=An Rw E9;obtain⟨eA,ec,rfl⟩:=Fb (by omega) Rw;have XU:(P.map (·.2)).length=i:=(by rw [List.length_map];exact HN.out.symm);have HU:=Asx XU;obtain⟨us,YV⟩:=Asw (P.map (·.2));have hz0:=Aps us;rw [YV,HU.out,←YV]at hz0;rw [←hz0]at UV;have WF:=Asx YV;have Aq7:w.heap.size<=wr.heap.size:=(B8.trans Ae).size;clear YV hz0 XU
       go_upto_region 29 with fail
       clear hmk;generalize (wr.alloc (.cells (madeCells #[S []] i) 9))=W9 at *;obtain⟨bu,Mg⟩:=Asw wr.heap.size;rw [←Mg]at UV ⊢;have AiP:W8.heap.size<=bu:=(by have:=Ae.size;omega);clear Mg
       go_loopw [15] (fun iv wz=>∃k:Nat,iv=.int .i64 (k:Nat)/\k<=i/\wz.ownsRow 0 9 1 (.slice (some ⟨bu,0,none⟩) i i) i ((Lz us k).map S)/\Ak (fun q=>q=bu) W9 wz) (fun iv _=>i-(intOf iv).toNat)
       case atStart=>exact⟨0,rfl,by omega,UV,Ak.refl _ _⟩
       case round=>
        obtain⟨k,rfl,hk,Ai,LU⟩:=hrel;have Dq:us.length=i:=(by rw [WF.out];exact HU.out);by_cases I8:k<i
        ·obtain⟨bA,oA,A1,c1,rfl,-,um,-,-,-,-⟩:=HA.out.row k (by rw [←HN.out];exact I8);have dr:P[k].2=us[k]:=(by simp [WF.out]);rw [dr]at um;have QU:Ab w wr:=LU.toExt (B8.trans Fz) (fun q e=>by subst e;have:=B8.size;omega);replace um:=QU.cellS um;have hst:=Ai.stored k (S us[k]);rw [←List.map_set,Apr]at hst;obtain⟨uk,PE⟩:=Asw (us[k]);rw [←PE]at um hst;have Gv:=Ai.frozenAt k;have hce:=Ai.cellAt k (by omega);have Eo:((Lz us k).map S)[k]?=some (S []):=(by simp [Lz,Dq,I8]);rw [Eo]at hce;have zT:=LU.grown hst.2 (fun q e=>by cases e;exact .inl rfl);have hk0:(0:Int)<=(k:Int):=(by omega);have D3:(k:Int)<(i:Int):=(by omega);have HS:=Asx (And.intro hst.1 zT);clear hst zT dr Eo PE;go_wp2;go_roundw
         case rel=>exact⟨k+1,by go_num,I8,HS.out.1,HS.out.2⟩
         case measure=>simp [intOf];omega
        ·have Ch:k=i:=(by omega);subst Ch;have Ark:(k:Int)<=(k:Int):=(by omega);rw [←Dq,Apq,Dq]at Ai;have Je:Ab W8 wr:=LU.toExt Fz (fun q e=>by subst e;exact AiP)
         have Akj:(Value.slice eA ed.length ec).ownBlock≠some bu:=fun e=>by have h1:=Ic UV;obtain⟨cur,h1⟩:=h1;exact Av lK h1 (by decide) e
         have qq:=AS lK LU (fun q hq e=>by subst e;exact Akj hq);have oc:=Am9 (LD ed) (fun _ _ _ a b c d=>LD.step a b c d) (w0:=W8) (w:=wr) (hw.ext B8) Je (n:=k) (by omega) ed SI.out LD.refl (by omega) (.slice eA ed.length ec) qq us Dq (some ⟨bu,0,none⟩) k Ai (As0 _) (by omega);have ic:=(Je.block _ (Asy Yd)).trans Yd;have HBR:=Asx ic;have hXX:=B8.trans Je;clear ic UV Ai lK qq;(go_wp2_with fail);(with_reducible refine oc.mono ?_);rintro e wf ⟨A9,B9,F9,c9,d9,g9,m9,OR,rfl,DG,KW,hfr9,hox9⟩;have HOX:=Asx hox9;clear hox9;unfold AH;have NJ:=(KW.block _ (Asy Yd)).trans Yd;have hst:=Aae DG (B8.trans KW) NJ (As0 _) (.slice A9 m9.pts.length c9) (.slice B9 m9.eds.length d9) (.slice F9 m9.nf g9);have r0:wf.cell? ⟨w.heap.size,0,none⟩=some (.slice none 0 0):=Aa NJ rfl;have r1:wf.cell? ⟨w.heap.size,1,none⟩=some (.slice none 0 0):=Aa NJ rfl;have r2:wf.cell? ⟨w.heap.size,2,none⟩=some (.slice none 0 0):=Aa NJ rfl;have r3:=Ah (o:=0) NJ;have r4:=Ah (o:=1) NJ;have r5:=Ah (o:=2) NJ;have t1:=Aa (o:=0) hst.2.2 rfl;have t2:=Aa (o:=1) hst.2.2 rfl;have t3:=Aa (o:=2) hst.2.2 rfl;have HST:=Asx hst;clear hst NJ DG;go_wp2;refine bodyPost_ret (v:=.agg #[.slice A9 m9.pts.length c9,.slice B9 m9.eds.length d9,.slice F9 m9.nf g9]) (by simp [results,Tryz.results46,go_sem,t1,t2,t3]) rfl ?_;refine⟨A9,B9,F9,c9,d9,g9,m9,OR,rfl,?_,HST.out.2.1,hfr9.mono B8.size,?_⟩
         ·rw [←WF.out,←HN.out];exact HST.out.1
         ·refine⟨fs,?_⟩;rw [←Wv.out,←WF.out];refine⟨⟨HF.out.1.trans HN.out,fun z hz=>by rw [←HN.out];exact HF.out.2 z hz,aM.out.1,aM.out.2 (by first|exact trivial|rfl)⟩,?_⟩;have h:=rR.out;rw [List.take_length]at h;rw [←h];exact HOX.out
    ·have Yg:=hB2.cells QX (by omega);have y0:=Aa (o:=0) Yg rfl;have Ajx:(0:Int)<=(l.length:Int):=(by omega);have tD:=Asx mC;clear mC
     go_upto_region 11 with fail
     clear y0
     go_loopw [6,34] (fun bv jv wr=>∃(f3:List Int) (b:Bool) (j:Nat),bv=.bool b/\jv=.int .i64 (j:Nat)/\j<=l.length/\f3.length=i/\(∀z∈f3,0<=z/\z<(i:Int))/\MX P l f3/\(b=false→L2 P l f3 j)/\wr.ownsRow 0 3 1 (.slice (some ⟨bl+1,0,none⟩) i i) i (zs f3)/\Ak (fun q=>q=bl+1) V wr/\(b=false→f3.sum=fs.sum)/\(b=true→f3.sum<fs.sum)) (fun _ jv _=>l.length-(intOf jv).toNat)
     case atStart=>exact⟨fs,false,0,rfl,rfl,by omega,HF.out.1,HF.out.2,aM.out.1,(fun _ x hx=>by cases hx),ho2,hB2,fun _=>rfl,(fun h=>by cases h)⟩
     case round=>
      obtain⟨f3,b,j,rfl,rfl,hj,l6,l7,mh,mr,GN,Cy,iu,jr⟩:=hrel;have Kz:=Asx (And.intro mh mr);clear mh mr;have H3:=Asx (And.intro l6 (And.intro l7 (And.intro iu jr)));clear l6 l7 iu jr;by_cases Ay:j<l.length
      ·have B8:Ab w wr:=Cy.toExt CJ (fun q e=>by subst e;omega);have Dz:Ab w1 wr:=Cy.toExt S7 (fun q e=>by subst e;omega);obtain⟨b',o',rfl,f0,f1,f2,f3',f4⟩:=ME (Bi.ext Dz) Ay;have Pv:=As1 Ay;obtain⟨x,hx⟩:=Asw (l[j]);rw [←hx]at f0 f1 f2 f3' f4 Pv;have hj0:(0:Int)<=(j:Int):=(by omega);have FS:(j:Int)<(l.length:Int):=(by omega);have HX:=Asx hx;clear hx;have Ax:=Asz wr (.cells #[S (R x.a.x),S (R x.a.y),S (R x.b.x),S (R x.b.y),.int .i64 x.l] 156);have E6:=(Ab.refl wr).alloc (.cells #[S (R x.a.x),S (R x.a.y),S (R x.b.x),S (R x.b.y),.int .i64 x.l] 156);have lI:=An GN E6;have JH:=Cy.ext E6;have BY:=Dz.trans E6;have iN:=B8.trans E6
       go_upto_region 13 with fail
       unfold S at Ax lI JH BY iN;generalize (wr.alloc (.cells #[.string ⟨(R x.a.x).toArray⟩,.string ⟨(R x.a.y).toArray⟩,.string ⟨(R x.b.x).toArray⟩,.string ⟨(R x.b.y).toArray⟩,.int .i64 x.l] 156))=W6 at *;obtain⟨bh,Do⟩:=Asw wr.heap.size;rw [←Do]at Ax ⊢;clear Do f0 f1 f2 f3' f4 E6 GN Cy Dz B8;have jh:=JH.cells QX (by omega);have z5:=Aa (o:=0) jh rfl;have z0:=Aa (o:=0) Ax rfl;have z1:=Aa (o:=1) Ax rfl;have z2:=Aa (o:=2) Ax rfl;have z3:=Aa (o:=3) Ax rfl;have z4:=Aa (o:=4) Ax rfl;have bk:=Xe l x _ vc W6 (Bi.ext BY) vg vh;have hbr:=HL.out.inn.back x;have mU:=HL.out.nn x Pv;have mW:=(HL.out.inn x Pv).2.2.2.2;unfold GL at bk;generalize jg:C4 l x=r at *;have Qj:=Asx jg;clear jg;(go_wp2_with fail);(with_reducible refine bk.mono ?_);rintro e W7 ⟨rfl,Az⟩;have BC:=An lI Az;have QE:=JH.ext Az;have fp:=iN.trans Az;have ES:=(Az.block _ (Asy Ax)).trans Ax;have iy:=QE.cells I4 (by omega);clear z0 z1 z2 z3 z4 z5 bk lI JH BY iN jh Ax Az;by_cases hr0:r<0
       ·have hd:decide (0<=r)=false:=decide_eq_false (by omega)
        go_upto_region 14 with fail
        refine Bh (by kernel_rfl) (by kernel_rfl) ?_
        repeat (go_big_quiet_step (fail))
        refine wpQuiet_nil ?_;rintro W8 ⟨z,hz⟩;have Be:Ab W7 W8:=hz▸z.h;clear hz z;have Mv:=An BC Be;have Fu:=QE.ext Be;have SH:=Asx (show b=false→L2 P l f3 (j+1)from fun e=>(Kz.out.2 e).next Ay HX.out (fun hs=>by have h:=hs.1;rw [Qj.out]at h;omega));go_wp2;go_roundw
        case rel=>exact⟨f3,b,j+1,rfl,by go_num,Ay,H3.out.1,H3.out.2.1,Kz.out.1,SH.out,Mv,Fu,H3.out.2.2.1,H3.out.2.2.2⟩
        case measure=>simp [intOf];omega
       ·obtain⟨m,rfl⟩:∃m:Nat,r=(m:Int):=⟨r.toNat,by omega⟩;obtain⟨q,hq⟩:∃q:Nat,x.l=(q:Int):=⟨x.l.toNat,by omega⟩;have hm:m<i:=(by omega);have YP:q<i:=(by omega);obtain⟨bA,oA,A1,c1,rfl,-,um,-,-,-,-⟩:=HA.out.row m (by rw [←HN.out];exact hm);obtain⟨Xb,Zt,A2,c2,he,-,uq,-,-,-,-⟩:=HA.out.row q (by rw [←HN.out];exact YP);simp only [As4,Addr.mk.injEq,and_true]at he;obtain⟨rfl,rfl⟩:=he;have pw:m<P.length:=(by rw [←HN.out];exact hm);have ru:q<P.length:=(by rw [←HN.out];exact YP);have mz:(P.getD m ([],[])).2=P[m].2:=(by rw [List.getD_eq_getElem?_getD,As5 pw,Option.getD_some]);have m7:(P.getD q ([],[])).2=P[q].2:=(by rw [List.getD_eq_getElem?_getD,As5 ru,Option.getD_some]);generalize P[m].2=u1 at *;generalize P[q].2=u2 at *
        have tC:=Asx (show Qs P l x↔u1=u2 by
         unfold Qs;rw [Qj.out,hq,Int.toNat_natCast,Int.toNat_natCast,mz,m7]
         exact⟨fun h=>h.2,fun h=>⟨by omega,h⟩⟩)
        have sY:=Asx hq;clear mz m7 pw ru;replace um:=fp.cellS um;replace uq:=fp.cellS uq;have I6:f3.length=i:=H3.out.1;have cm:=BC.cellAt m (by omega);have cq:=BC.cellAt q (by omega);have mj:(zs f3)[m]?=some (.int .i64 (f3.getD m 0)):=(by simp [zs,List.getD_eq_getElem?_getD,As5 (show m<f3.length by omega)]);have Rl:(zs f3)[q]?=some (.int .i64 (f3.getD q 0)):=(by simp [zs,List.getD_eq_getElem?_getD,As5 (show q<f3.length by omega)]);rw [mj]at cm;rw [Rl]at cq;obtain⟨zm,nB⟩:=Asw (f3.getD m 0);obtain⟨zq,M3⟩:=Asw (f3.getD q 0);rw [←nB]at cm;rw [←M3]at cq;have HZ:=Asx (And.intro nB M3);have z4:W7.cell? ⟨bh,4,none⟩=some (.int .i64 (q:Int)):=(by rw [←hq];exact Aa ES rfl);have z5:W7.cell? ⟨bl+2,0,none⟩=some (.slice (some ⟨bl+1,0,none⟩) i i):=Aa iy rfl;have q0:∀z:Ac W7,z.w.cell? ⟨bA,oA+m*3+1,none⟩=some (S u1):=Ac.cell um;have q1:∀z:Ac W7,z.w.cell? ⟨bA,oA+q*3+1,none⟩=some (S u2):=Ac.cell uq;have q2:∀z:Ac W7,z.w.cell? ⟨bl+1,m,none⟩=some (.int .i64 zm):=Ac.cell cm;have q3:∀z:Ac W7,z.w.cell? ⟨bl+1,q,none⟩=some (.int .i64 zq):=Ac.cell cq;have q4:∀z:Ac W7,z.w.cell? ⟨bh,4,none⟩=some (.int .i64 (q:Int)):=Ac.cell z4;have q5:∀z:Ac W7,z.w.cell? ⟨bl+1+1,0,none⟩=some (.slice (some ⟨bl+1,0,none⟩) i i):=Ac.cell z5;have m0:(0:Int)<=(m:Int):=(by omega);have m1:(m:Int)<(i:Int):=(by omega);have n0:(0:Int)<=(q:Int):=(by omega);have n1:(q:Int)<(i:Int):=(by omega);clear nB M3 mj Rl hr0 hbr mU mW hq ES iy um uq;have skip:∀W8,Ab W7 W8→W8.ownsRow 0 3 1 (.slice (some ⟨bl+1,0,none⟩) i i) i (zs f3)/\Ak (fun q=>q=bl+1) V W8:=fun W8 h=>⟨An BC h,QE.ext h⟩;have SK:=Asx skip;clear skip
        go_upto_region 14 with fail
        cases hU:(u1 == u2)
        ·refine Bh (by kernel_rfl) (by kernel_rfl) ?_
         repeat (go_big_quiet_step (fail))
         refine wpQuiet_nil ?_;rintro W8 ⟨z,hz⟩;obtain⟨Mv,Fu⟩:=SK.out W8 (hz▸z.h);have SH:=Asx (show b=false→L2 P l f3 (j+1)from fun e=>(Kz.out.2 e).next Ay HX.out (fun hs=>absurd (tC.out.1 hs) (fun e=>by rw [e]at hU;simp at hU)));clear hz z q0 q1 q2 q3 q4 q5;go_wp2;go_roundw
         case rel=>exact⟨f3,b,j+1,rfl,by go_num,Ay,H3.out.1,H3.out.2.1,Kz.out.1,SH.out,Mv,Fu,H3.out.2.2.1,H3.out.2.2.2⟩
         case measure=>simp [intOf];omega
        ·by_cases hlt:zm<zq
         ·have Pn:decide (zm<zq)=true:=decide_eq_true hlt;refine Bh (by kernel_rfl) (by kernel_rfl) ?_
          repeat (go_big_quiet_step (fail))
          refine wpQuiet_nil ?_;rintro W8 ⟨z,hz⟩;have Be:Ab W7 W8:=hz▸z.h;obtain⟨Mv,Fu⟩:=SK.out W8 Be;clear hz z;replace cm:=Be.cellS cm;replace cq:=Be.cellS cq;replace z4:=Be.cellS z4;have z6:W8.cell? ⟨bl+1+1,0,none⟩=some (.slice (some ⟨bl+1,0,none⟩) i i):=Be.cellS z5;have Gv:=Mv.frozenAt q;have hst:=Mv.stored q (.int .i64 zm);rw [ZW]at hst;have Gq:=Fu.grown hst.2 (fun q e=>by cases e;exact .inl rfl);have CV:=Acu f3 q zm (by omega) (by have:=HZ.out.2;rw [List.getD_eq_getElem?_getD,As5 (by omega)]at this;simp only [Option.getD_some]at this;omega)
          have hrg:∀z∈f3.set q zm,0<=z/\z<(i:Int):=by
           intro z hz
           rcases List.mem_or_eq_of_mem_set hz with e|e
           ·exact H3.out.2.1 z e
           ·rw [e];refine H3.out.2.1 zm ?_;have:=HZ.out.1;rw [List.getD_eq_getElem?_getD,As5 (by omega)]at this;simp only [Option.getD_some]at this;rw [this];exact As1 _
          have Bz:(f3.set q zm).sum<fs.sum:=by
           cases b
           ·have:=H3.out.2.2.1 rfl;omega
           ·have:=H3.out.2.2.2 rfl;omega
          have HST:=Asx (And.intro hst.1 (And.intro Gq (And.intro hrg Bz)))
          have aP:=Asx (show MX P l (f3.set q zm)by
           rw [HZ.out.1]
           exact Kz.out.1.set (by rw [HX.out];exact As1 _) (tC.out.2 (eq_of_beq hU)) sY.out Qj.out (by omega))
          clear hst Gq hrg Bz CV q0 q1 q2 q3 q4 q5 Be z5
          go_upto_region 15 with fail
          go_region
          all_goals (
           have o9:=An HST.out.1 (Ab.refl _).drew;have b9:=HST.out.2.1.ext (Ab.refl _).drew;clear cm cq z4 z6 Gv Mv Fu;go_wp2;go_roundw
           case rel=>exact⟨f3.set q zm,true,j+1,rfl,by go_num,Ay,by rw [List.length_set];exact H3.out.1,HST.out.2.2.1,aP.out,(fun h=>by cases h),o9,b9,(fun h=>by cases h),fun _=>HST.out.2.2.2⟩
           case measure=>simp [intOf];omega)
         ·have Pn:decide (zm<zq)=false:=decide_eq_false hlt;refine Bh (by kernel_rfl) (by kernel_rfl) ?_
          repeat (go_big_quiet_step (fail))
          refine wpQuiet_nil ?_;rintro W8 ⟨z,hz⟩;obtain⟨Mv,Fu⟩:=SK.out W8 (hz▸z.h);have SH:=Asx (show b=false→L2 P l f3 (j+1)from fun e=>(Kz.out.2 e).next Ay HX.out (fun _=>by rw [Qj.out,sY.out,Int.toNat_natCast,Int.toNat_natCast,←HZ.out.1,←HZ.out.2];exact hlt));clear hz z q0 q1 q2 q3 q4 q5;go_wp2;go_roundw
          case rel=>exact⟨f3,b,j+1,rfl,by go_num,Ay,H3.out.1,H3.out.2.1,Kz.out.1,SH.out,Mv,Fu,H3.out.2.2.1,H3.out.2.2.2⟩
          case measure=>simp [intOf];omega
      ·have D2:j=l.length:=(by omega);subst D2;have YB:(l.length:Int)<=(l.length:Int):=by omega
       cases b
       ·go_wp2;go_roundw
        case rel=>exact⟨f3,false,rfl,H3.out.1,H3.out.2.1,Kz.out.1,Kz.out.2,GN,Cy⟩
        case measure=>rw [tD.out];simp
       ·have hs3:=Acr GN H3.out.1;have hlt:=H3.out.2.2.2 rfl;have H7:=Acs f3 (fun z hz=>(H3.out.2.1 z hz).1);have Tb:=Asx (And.intro hs3 (And.intro hlt H7));clear hs3 hlt H7;go_wp2;go_roundw
        case rel=>exact⟨f3,true,rfl,H3.out.1,H3.out.2.1,Kz.out.1,(fun h=>by cases h),GN,Cy⟩
        case measure=>rw [tD.out,Tb.out.1];have:=Tb.out.2;simp only [];omega
end Go.Proofs.YtnddllipjippnaaGreatDoor
