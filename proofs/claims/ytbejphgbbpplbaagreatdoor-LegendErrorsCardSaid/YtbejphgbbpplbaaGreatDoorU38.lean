/- U38: ShQG ShT8A ShLO3 ShLO4 ShLO5 ShLO6 ShLO7 ShLO11. -/
import Derived.Test.YtbejphgbbpplbaaGreatDoorU33
import Derived.Test.YtbejphgbbpplbaaGreatDoorU37
set_option maxRecDepth 100000
set_option maxHeartbeats 16000000
namespace Go.Proofs.YtbejphgbbpplbaaGreatDoor
open Go.RowKit Kl
def I5(n k:Nat):List Int:=(List.range n).map (fun i=>if i<k then (i:Int)else 0)
theorem Agv(n:Nat):I5 n 0=zn (List.replicate n 0):=by
 unfold I5 zn;apply List.ext_getElem
 ·simp
 ·intro i h1 h2;simp
theorem Ags(n k:Nat):(I5 n k).length=n:=by simp [I5]
theorem Agu{n k:Nat} : (I5 n k).set k (k:Int)=I5 n (k+1):=by
 unfold I5;apply List.ext_getElem
 ·simp
 ·intro i h1 h2;by_cases h:k=i
  ·subst h;simp
  ·rw [List.getElem_set_ne h];have:(i<k+1)↔i<k:=(by omega);simp [this]
theorem Agt(n:Nat):∀z∈I5 n n,0<=z/\z<(n:Int):=by
 intro z hz;unfold I5 at hz;rw [List.mem_map]at hz;obtain⟨i,hi,rfl⟩:=hz;rw [List.mem_range]at hi;rw [if_pos hi];omega
theorem Abl:∀(l:List Int) (k:Nat) (z:Int) (h:k<l.length),z<l[k]→(l.set k z).sum<l.sum
 | a::l,0,z,_,h=>by simp at h ⊢;omega
 | a::l,k+1,z,hk,h=>by have:=Abl l k z (by simpa using hk) (by simpa using h);simp only [List.set_cons_succ,List.sum_cons];omega
theorem Abk:∀(l:List Int),(∀z∈l,0<=z)→0<=l.sum
 | [],_=>by simp
 | a::l,h=>by have h1:=Abk l (fun z hz=>h z (List.mem_cons_of_mem _ hz));have h2:=h a List.mem_cons_self;simp only [List.sum_cons];omega
def oJ(w:World)(b n:Nat):Nat:=(((List.range n).map (fun i=>match w.cell? ⟨b,i,none⟩with|some (.int _ z)=>z|_=>0)).sum).toNat
theorem Abj{w:World}{B b n:Nat}{fs:List Int}(h:w.ownsRow B 3 1 (.slice (some ⟨b,0,none⟩) n n) n (zs fs))(hl:fs.length=n):oJ w b n=fs.sum.toNat:=by
 unfold oJ
 congr 2
 apply List.ext_getElem
 ·simp [hl]
 ·intro i h1 h2;simp only [List.getElem_map,List.getElem_range];rw [h.cellAt i (by omega)];simp [zs,h2]
theorem AgO(P:List (List Pt×Bs))(hP:Sw P)(A:Option Addr)(c:Nat)(w:World)(hw:Al w)(h:G9 w A c P) :
  Calls Tryz.prog 54 #[.slice A P.length c] w (rD w P.length (P.map (·.2))):=by
 obtain⟨n,hn⟩:=ArV P.length;rw [←hn];have HN:=ArW hn;have hlen:n<=18:=(by rw [hn];exact hP.len);have HA:=ArW h;have Dw:=ArY w (.cells #[.slice none 0 0,.slice none 0 0,.slice none 0 0] 36);have E1:=(Aa.refl w).alloc (.cells #[.slice none 0 0,.slice none 0 0,.slice none 0 0] 36);have sd:=AnK P hP A c _ (hw.ext E1) (h.ext E1);rw [←hn]at sd;have Ef:(0:Int)<=(n:Int):=(by omega);clear hn hP h;go_enter Tryz.func54,Tryz.ntmps54;(go_wp2_with fail);(with_reducible refine sd.mono ?_);rintro e w1 ⟨v,l,rfl,hv,hl,Ce,hx1⟩;obtain⟨vA,vc,rfl,Bh,ow,ox⟩:=Ae.of_own' (by omega) hv;have HL:=ArW hl;have Nk:=(hx1.block _ (ArX Dw)).trans Dw;have hmk:=lL n (by omega) (n:Int) rfl (w1.alloc (.cells #[.slice vA l.length vc] 173));have hbl:=ArY w1 (.cells #[.slice vA l.length vc] 173);have E2:=(Aa.refl w1).alloc (.cells #[.slice vA l.length vc] 173);have E3:=(Aa.refl (w1.alloc (.cells #[.slice vA l.length vc] 173))).alloc (.cells (madeCells #[.int .i64 0] n) 3);have E4:=(Aa.refl ((w1.alloc (.cells #[.slice vA l.length vc] 173)).alloc (.cells (madeCells #[.int .i64 0] n) 3))).alloc (.cells #[.slice (some ⟨w1.heap.size+1,0,none⟩) n n] 69);have XD:=Ao (Y6 (w1.alloc (.cells #[.slice vA l.length vc] 173)) 0 n (Nat.zero_le _) (by omega)) E4;rw [Ash]at XD;have H9:=ArY ((w1.alloc (.cells #[.slice vA l.length vc] 173)).alloc (.cells (madeCells #[.int .i64 0] n) 3)) (.cells #[.slice (some ⟨w1.heap.size+1,0,none⟩) n n] 69);rw [Ash,Ash]at H9;have Q5:=((E3.trans E4).block _ (ArX hbl)).trans hbl;have RU:=E2.trans (E3.trans E4);have WQ:=(RU.block _ (ArX Nk)).trans Nk;have Cl:=(E1.trans hx1).trans RU;have hv4:=Ao hv RU;rw [←Agv]at XD;have Arv:=(E1.trans hx1).size;have AhB:=Nk;clear hl sd E2 E3 E4 hbl Nk Dw
 go_upto_region 4 with fail
 clear hmk;generalize ((w1.alloc (.cells #[.slice vA l.length vc] 173)).alloc (.cells (madeCells #[.int .i64 0] n) 3)).alloc (.cells #[.slice (some ⟨w1.heap.size+1,0,none⟩) n n] 69)=V at *;obtain⟨bl,di⟩:=ArV w1.heap.size;rw [←di]at XD H9 Q5 ⊢;have Arz:w.heap.size<=bl:=(by omega);have Aru:w1.heap.size<=bl:=(by omega);clear di
 go_loopw [5] (fun iv wr=>∃i:Nat,iv=.int .i64 (i:Nat)/\i<=n/\wr.ownsRow 0 3 1 (.slice (some ⟨bl+1,0,none⟩) n n) n (zs (I5 n i))/\Ar (fun q=>q=bl+1) V wr) (fun iv _=>n-(intOf iv).toNat)
 case atStart=>exact⟨0,rfl,by omega,XD,Ar.refl _ _⟩
 case round=>
  obtain⟨i,rfl,hi,ho,hB⟩:=hrel;have TB:=hB.cells H9 (by omega);by_cases hin:i<n
  ·have k0:=Ab (o:=0) TB rfl
   have hce:wr.cell? ⟨bl+1,i,none⟩=some (.int .i64 0):=by rw [ho.cellAt i (by omega)];simp [zs,I5,hin]
   have TP:=ho.frozenAt i;have hst:=ho.stored i (.int .i64 (i:Int));rw [Zf,Agu]at hst;have hB2:=hB.grown hst.2 (fun q e=>by cases e;exact .inl rfl);have GR:(0:Int)<=(i:Int):=(by omega);have Jw:(i:Int)<(n:Int):=(by omega);have HS:=ArW (And.intro hst.1 hB2);clear hst hB2;go_wp2;go_roundw
   case rel=>exact⟨i+1,by go_num,hin,HS.out.1,HS.out.2⟩
   case measure=>simp [intOf];omega
  ·have OP:i=n:=(by omega);subst OP;have AqS:(i:Int)<=(i:Int):=(by omega);have HFL:=ArW (Ags i i);have Zu:=ArW (Agt i);generalize I5 i i=fs0 at *
   go_upto_region 8 with fail
   go_loopw [6] (fun bv wr=>∃(fs:List Int) (b:Bool),bv=.bool b/\fs.length=i/\(∀z∈fs,0<=z/\z<(i:Int))/\wr.ownsRow 0 3 1 (.slice (some ⟨bl+1,0,none⟩) i i) i (zs fs)/\Ar (fun q=>q=bl+1) V wr) (fun bv wr=>match bv with | .bool true=>oJ wr (bl+1) i+1|_=>0)
   case atStart=>exact⟨fs0,true,rfl,HFL.out,Zu.out,ho,hB⟩
   case round=>
    obtain⟨fs,b,rfl,DJ,hfr,ho2,hB2⟩:=hrel;have HF:=ArW (And.intro DJ hfr);have LQ:=Abj ho2 DJ;clear DJ hfr
    cases b
    ·have WU:=hB2.cells Q5 (by omega);have TB:=hB2.cells H9 (by omega);have y0:=Ab (o:=0) WU rfl;have Xw:∀(fn:Fn) (first cap:Array Value) (w:World),(Instr.makeFunc fn first cap).run Tryz.prog w=.ok (.func fn first cap) w:=fun _ _ _ _=>rfl;have Aix:(0:Int)<=(l.length:Int):=(by omega);have Fb:Aa w1 wr:=hB2.toExt RU (fun q e=>by subst e;omega);have By:Aa w wr:=hB2.toExt Cl (fun q e=>by subst e;omega);have WR:=hB2.cells WQ (by have:=ArX AhB;omega);have mf:=Bh.ext Fb;obtain⟨oF,cF,gq,hrF,-,-⟩:=Ae.of_own' (by omega) ho2;simp only [Value.slice.injEq,true_and]at gq;obtain⟨rfl,rfl⟩:=gq;have hHF:=HF.out.1;have rt:=fun (W':World) (h:Aa wr W') (x:Hf)=>Anq l x fs (by rw [HF.out.1];exact HL.out.inn) vA (some ⟨bl+1,0,none⟩) vc i bl (bl+1+1) W' (h.cellS (Ab WU rfl)) (mf.ext h) ow ox (by rw [HF.out.1];exact h.cellS (Ab TB rfl)) (hrF.ext h);have PK:=ArW rt;clear rt hHF LQ;obtain⟨W8,rfl⟩:=J9 By
     go_upto_region 20 with fail
     clear y0
     go_loopw [10,81] (fun ov jv wr=>∃(ed:List Hf) (j:Nat),jv=.int .i64 (j:Nat)/\j<=l.length/\wr.ownsRow W8.heap.size 176 5 ov ed.length (Bd ed)/\DT i ed/\ed.length<=2*j/\Aa W8 wr) (fun _ jv _=>l.length-(intOf jv).toNat)
     case atStart=>exact⟨[],0,rfl,by omega,⟨rfl,.inl ⟨rfl,rfl⟩⟩,(fun h hh=>by cases hh),by simp,Aa.refl _⟩
     case round=>
      obtain⟨ed,j,rfl,hj,QN,hin,hel,Ad⟩:=hrel;have Sf:=ArW hin;clear hin;by_cases A7:j<l.length
      ·obtain⟨eA,ec,rfl⟩:=KC (by omega) QN;obtain⟨b',o',rfl,f0,f1,f2,f3',f4⟩:=Mj (mf.ext Ad) A7;have OO:=Asa A7;obtain⟨x,hx⟩:=ArV (l[j]);rw [←hx]at f0 f1 f2 f3' f4 OO;have hj0:(0:Int)<=(j:Int):=(by omega);have Fy:(j:Int)<(l.length:Int):=(by omega);have Ph:=HL.out.inn x OO;have NC:=HL.out.nn x OO;obtain⟨q,hq⟩:∃q:Nat,x.l=(q:Int):=⟨x.l.toNat,by omega⟩;have lh:q<i:=(by have:=Ph.2.2.2.2;omega);have HQ:=ArW hq;clear hq;have DJ:fs.length=i:=HF.out.1;have cq:=ho2.cellAt q (by omega);have QG:(zs fs)[q]?=some (.int .i64 (fs.getD q 0)):=by simp [zs,List.getD_eq_getElem?_getD,Asf (show q<fs.length by omega)]
       have hgr:0<=fs.getD q 0/\fs.getD q 0<(i:Int):=by rw [List.getD_eq_getElem?_getD,Asf (by omega)];exact HF.out.2 _ (Asa _)
       rw [QG]at cq;generalize fs.getD q 0=zf at *;have tP:W8.cell? ⟨bl+1+1,0,none⟩=some (.slice (some ⟨bl+1,0,none⟩) i i):=Ab TB rfl;have aR:=ho2.cellAt q (by omega);rw [QG]at aR;have Ve:=ArW (And.intro tP aR);clear tP aR;have Ap:=ArY wr (.cells #[S (R x.a.x),S (R x.a.y),S (R x.b.x),S (R x.b.y),.int .i64 x.l] 176);have E6:=(Aa.refl wr).alloc (.cells #[S (R x.a.x),S (R x.a.y),S (R x.b.x),S (R x.b.y),.int .i64 x.l] 176);have XC:=Ao QN E6;have BO:=Ad.trans E6;clear hx QG
       go_upto_region 22 with fail
       unfold S at Ap XC BO;generalize (wr.alloc (.cells #[.string ⟨(R x.a.x).toArray⟩,.string ⟨(R x.a.y).toArray⟩,.string ⟨(R x.b.x).toArray⟩,.string ⟨(R x.b.y).toArray⟩,.int .i64 x.l] 176))=W6 at *;obtain⟨bh,DG⟩:=ArV wr.heap.size;have Ue:(Value.slice eA ed.length ec).ownBlock≠some bh:=fun k=>(by have:=(QN.lt bh k).2;omega);rw [←DG]at Ap ⊢;clear DG f0 f1 f2 f3' f4 E6 QN Ad;have Ml:=fun (z:Ac W6)=>PK.out z.w (BO.trans z.h) x;obtain⟨zr,qi⟩:=ArV (YE l fs x);have UL:=fun (W':World) (h:Aa W8 W')=>PK.out W' h x;rw [←qi]at Ml UL;unfold Gw at Ml UL;have c0:W6.cell? ⟨bh,0,none⟩=some (S (R x.a.x)):=Ab Ap rfl;have c1:W6.cell? ⟨bh,1,none⟩=some (S (R x.a.y)):=Ab Ap rfl;have c2:W6.cell? ⟨bh,2,none⟩=some (S (R x.b.x)):=Ab Ap rfl;have c3:W6.cell? ⟨bh,3,none⟩=some (S (R x.b.y)):=Ab Ap rfl;have c4:W6.cell? ⟨bh,4,none⟩=some (.int .i64 x.l):=Ab Ap rfl;have c5:W6.cell? ⟨bl+1+1,0,none⟩=some (.slice (some ⟨bl+1,0,none⟩) i i):=BO.cellS (Ab TB rfl);have c6:=BO.cellS cq;rw [HQ.out]at Ml UL c4;have q0:∀z:Ac W6,z.w.cell? ⟨bh,0,none⟩=some (S (R x.a.x)):=Ac.cell c0;have q1:∀z:Ac W6,z.w.cell? ⟨bh,1,none⟩=some (S (R x.a.y)):=Ac.cell c1;have q2:∀z:Ac W6,z.w.cell? ⟨bh,2,none⟩=some (S (R x.b.x)):=Ac.cell c2;have q3:∀z:Ac W6,z.w.cell? ⟨bh,3,none⟩=some (S (R x.b.y)):=Ac.cell c3;have q4:∀z:Ac W6,z.w.cell? ⟨bh,4,none⟩=some (.int .i64 (q:Int)):=Ac.cell c4;have q5:∀z:Ac W6,z.w.cell? ⟨bl+1+1,0,none⟩=some (.slice (some ⟨bl+1,0,none⟩) i i):=Ac.cell c5;have q6:∀z:Ac W6,z.w.cell? ⟨bl+1,q,none⟩=some (.int .i64 zf):=Ac.cell c6;have n0:(0:Int)<=(q:Int):=(by omega);have n1:(q:Int)<(i:Int):=(by omega);clear qi cq
       go_upto_region 22 with fail
       by_cases qh:zr=zf
       ·have hzb:(zr != zf)=false:=(by rw [qh];simp);refine Bp (by kernel_rfl) (by kernel_rfl) ?_
        repeat (go_big_quiet_step (first|(with_reducible refine Di (Ml _))|(go_simp;with_reducible refine Di (Ml _))))
        refine wpQuiet_nil ?_;rintro W7 ⟨z,hz⟩;have AQ:Aa W6 W7:=hz▸z.h;have Br:=Ao XC AQ;have BP:=BO.trans AQ;clear hz z q0 q1 q2 q3 q4 q5 q6 Ml;go_wp2;go_roundw
        case rel=>exact⟨ed,j+1,by go_num,A7,Br,Sf.out,by omega,BP⟩
        case measure=>simp [intOf];omega
       ·have hzb:(zr != zf)=true:=(by rw [bne,beq_false_of_ne qh];rfl);refine Bp (by kernel_rfl) (by kernel_rfl) ?_
        repeat (go_big_quiet_step (first|(with_reducible refine Di (Ml _))|(go_simp;with_reducible refine Di (Ml _))))
        refine wpQuiet_nil ?_;rintro W7 ⟨z,hz⟩;have AQ:Aa W6 W7:=hz▸z.h;have Br:=Ao XC AQ;have BP:=BO.trans AQ;have Ez:=(AQ.block _ (ArX Ap)).trans Ap;replace c5:=AQ.cellS c5;replace c6:=AQ.cellS c6;have hbase:W8.heap.size<=W7.heap.size:=BP.size;have OV:ed.length<200000:=(by omega);have e0:W7.cell? ⟨bh,0,none⟩=some (S (R x.a.x)):=Ab Ez rfl;have e1:W7.cell? ⟨bh,1,none⟩=some (S (R x.a.y)):=Ab Ez rfl;have e2:W7.cell? ⟨bh,2,none⟩=some (S (R x.b.x)):=Ab Ez rfl;have e3:W7.cell? ⟨bh,3,none⟩=some (S (R x.b.y)):=Ab Ez rfl;have e4:W7.cell? ⟨bh,4,none⟩=some (.int .i64 (q:Int)):=by rw [←HQ.out];exact Ab Ez rfl
        have TT:∀(N W9:World),Aa W7 N→N.grownBy W9 (Value.slice eA ed.length ec).ownBlock→W9.heap[bh]?=some (.cells #[.string ⟨(R x.a.x).toArray⟩,.string ⟨(R x.a.y).toArray⟩,.string ⟨(R x.b.x).toArray⟩,.string ⟨(R x.b.y).toArray⟩,.int .i64 x.l] 176):=fun N W9 hN hg=>(hg.block bh (Asj (ArX Ez) hN.size) (fun e=>Ue e.symm)).trans ((hN.block bh (ArX Ez)).trans Ez)
        have HTT:=ArW TT;clear hz z q0 q1 q2 q3 q4 q5 q6 Ml c0 c1 c2 c3 c4 TT XC BO AQ;have X:Aa W7 W7:=Aa.refl W7;have Y:=BP
        have SO:∀w',Aa W7 w'→(w'.cell? ⟨bh,0,none⟩=some (S (R x.a.x))/\w'.cell? ⟨bh,1,none⟩=some (S (R x.a.y))/\w'.cell? ⟨bh,2,none⟩=some (S (R x.b.x))/\w'.cell? ⟨bh,3,none⟩=some (S (R x.b.y))/\w'.cell? ⟨bh,4,none⟩=some (.int .i64 (q:Int))/\w'.cell? ⟨bl+1+1,0,none⟩=some (.slice (some ⟨bl+1,0,none⟩) i i)/\w'.cell? ⟨bl+1,q,none⟩=some (.int .i64 zf)):=fun w' h=>⟨h.cellS e0,h.cellS e1,h.cellS e2,h.cellS e3,h.cellS e4,h.cellS c5,h.cellS c6⟩
        clear Ez
        go_upto_region 23 with fail
        go_region_held3 (fun w'=>w'.cell? ⟨bh,0,none⟩=some (S (R x.a.x))/\w'.cell? ⟨bh,1,none⟩=some (S (R x.a.y))/\w'.cell? ⟨bh,2,none⟩=some (S (R x.b.x))/\w'.cell? ⟨bh,3,none⟩=some (S (R x.b.y))/\w'.cell? ⟨bh,4,none⟩=some (.int .i64 (q:Int))/\w'.cell? ⟨bl+1+1,0,none⟩=some (.slice (some ⟨bl+1,0,none⟩) i i)/\w'.cell? ⟨bl+1,q,none⟩=some (.int .i64 zf))
         (first|exact SS|with_reducible exact SO _ X|with_reducible exact SO _ X.drew|with_reducible exact SO _ (X.alloc _)|with_reducible exact SO _ (X.alloc _).drew|with_reducible exact SO _ (X.drew.alloc _))
         (first|(refine Abd rfl _ _ rfl _ W8.heap.size (.slice eA ed.length ec) ed.length ed [⟨x.a,x.b,zf⟩] rfl (Ao Br ((Aa.refl W7).alloc _).drew) OV (by simp) W7.heap.size 1 rfl (by rw [WY];exact ArY W7 _) rfl (by simp;omega) ?_;intro v9 w9 Bc Bu Be;replace Y:=Bu W8 (Y.alloc _).drew (ArZ _);have T9:=HTT.out _ _ ((Aa.refl W7).alloc _).drew Be;have SS:w9.cell? ⟨bh,0,none⟩=some (S (R x.a.x))/\w9.cell? ⟨bh,1,none⟩=some (S (R x.a.y))/\w9.cell? ⟨bh,2,none⟩=some (S (R x.b.x))/\w9.cell? ⟨bh,3,none⟩=some (S (R x.b.y))/\w9.cell? ⟨bh,4,none⟩=some (.int .i64 (q:Int))/\w9.cell? ⟨bl+1+1,0,none⟩=some (.slice (some ⟨bl+1,0,none⟩) i i)/\w9.cell? ⟨bl+1,q,none⟩=some (.int .i64 zf):=⟨Ab T9 rfl,Ab T9 rfl,Ab T9 rfl,Ab T9 rfl,by rw [←HQ.out];exact Ab T9 rfl,Y.cellS Ve.out.1,Y.cellS Ve.out.2⟩))
        clear SO SS X e0 e1 e2 e3 e4 c5 c6 Br BP hbase;have rt9:=UL w9 Y;have e0:w9.cell? ⟨bh,0,none⟩=some (S (R x.a.x)):=Ab T9 rfl;have e1:w9.cell? ⟨bh,1,none⟩=some (S (R x.a.y)):=Ab T9 rfl;have e2:w9.cell? ⟨bh,2,none⟩=some (S (R x.b.x)):=Ab T9 rfl;have e3:w9.cell? ⟨bh,3,none⟩=some (S (R x.b.y)):=Ab T9 rfl;have e4:w9.cell? ⟨bh,4,none⟩=some (.int .i64 (q:Int)):=by rw [←HQ.out];exact Ab T9 rfl
        have i7:DT i (ed ++ [⟨x.a,x.b,zf⟩]):=by
         intro h hh
         rcases List.mem_append.1 hh with e|e
         ·exact Sf.out h e
         ·simp only [Asn]at e;rw [e];exact⟨Ph.1,Ph.2.1,Ph.2.2.1,by show (-1:Int)<=zf;omega,by show zf<(i:Int);omega⟩
        have qB:=ArW i7;clear i7 Bu Be UL
        go_upto_region 24 with fail
        (go_wp2_with fail);(with_reducible refine rt9.mono ?_);rintro e wa ⟨rfl,Fg⟩;have Xc:wa.heap[bh]?=_:=(Fg.block _ (ArX T9)).trans T9;have jH:=Ao Bc Fg;have fE:=Y.trans Fg;clear e0 e1 e2 e3 e4 rt9 Bc;by_cases J6:zr<0
        ·have hdz:decide (zr<0)=true:=decide_eq_true J6;have a0:wa.cell? ⟨bh,0,none⟩=some (S (R x.a.x)):=Ab Xc rfl;have a1:wa.cell? ⟨bh,1,none⟩=some (S (R x.a.y)):=Ab Xc rfl;have a2:wa.cell? ⟨bh,2,none⟩=some (S (R x.b.x)):=Ab Xc rfl;have a3:wa.cell? ⟨bh,3,none⟩=some (S (R x.b.y)):=Ab Xc rfl;have hbase:W8.heap.size<=wa.heap.size:=fE.size;obtain⟨fA,fc,rfl⟩:=KC (by omega) jH
         go_wp2_with (at_builtin;go_loud (refine aE rfl _ _ rfl _ W8.heap.size (.slice fA (ed.length+1) fc) (ed.length+1) (ed ++ [⟨x.a,x.b,zf⟩]) [⟨x.b,x.a,-1⟩] rfl (Ao jH ((Aa.refl wa).alloc _)) (by omega) (by simp) wa.heap.size 1 rfl (by rw [WY];exact ArY wa _) rfl (by simp;omega) ?_);intro vb wb hob hextb hgb)
         have hYb:=hextb W8 (fE.alloc _) (ArZ _)
         have ja:DT i ((ed ++ [⟨x.a,x.b,zf⟩]) ++ [⟨x.b,x.a,-1⟩]):=by
          intro h hh
          rcases List.mem_append.1 hh with e|e
          ·exact qB.out h e
          ·simp only [Asn]at e;rw [e];exact⟨Ph.2.1,Ph.1,fun e=>Ph.2.2.1 e.symm,by show (-1:Int)<=-1;omega,by show (-1:Int)<(i:Int);omega⟩
         have Acu:=ArW ja;clear ja hextb hgb;go_wp2;go_roundw
         case rel=>exact⟨(ed ++ [⟨x.a,x.b,zf⟩]) ++ [⟨x.b,x.a,-1⟩],j+1,by go_num,A7,by rw [List.length_append,List.length_append];exact hob,Acu.out,by rw [List.length_append,List.length_append];simp;omega,hYb⟩
         case measure=>simp [intOf];omega
        ·have hdz:decide (zr<0)=false:=decide_eq_false J6;go_wp2;go_roundw
         case rel=>exact⟨ed ++ [⟨x.a,x.b,zf⟩],j+1,by go_num,A7,by rw [List.length_append];exact jH,qB.out,by rw [List.length_append];simp;omega,fE⟩
         case measure=>simp [intOf];omega
      ·have Dl:j=l.length:=(by omega);subst Dl;have Aiu:(l.length:Int)<=(l.length:Int):=(by omega);have hmk:=vo i (by omega) (i:Int) rfl wr;have Uh:=yl wr 0 i (Nat.zero_le _) (by omega);have E9:=(Aa.refl wr).alloc (.cells (madeCells #[S []] i) 9);have Gq:=Ad.trans E9;have jI:=Ao QN E9;obtain⟨eA,ec,rfl⟩:=KC (by omega) QN;have WA:(P.map (·.2)).length=i:=(by rw [List.length_map];exact HN.out.symm);have HU:=ArW WA;obtain⟨us,QS⟩:=ArV (P.map (·.2));have hz0:=AoW us;rw [QS,HU.out,←QS]at hz0;rw [←hz0]at Uh;have ZG:=ArW QS;have Aqv:w.heap.size<=wr.heap.size:=(By.trans Ad).size;clear QS hz0 WA
       go_upto_region 29 with fail
       clear hmk;generalize (wr.alloc (.cells (madeCells #[S []] i) 9))=W9 at *;obtain⟨bu,L1⟩:=ArV wr.heap.size;rw [←L1]at Uh ⊢;have AhL:W8.heap.size<=bu:=(by have:=Ad.size;omega);clear L1
       go_loopw [15] (fun iv wz=>∃k:Nat,iv=.int .i64 (k:Nat)/\k<=i/\wz.ownsRow 0 9 1 (.slice (some ⟨bu,0,none⟩) i i) i ((KN us k).map S)/\Ar (fun q=>q=bu) W9 wz) (fun iv _=>i-(intOf iv).toNat)
       case atStart=>exact⟨0,rfl,by omega,Uh,Ar.refl _ _⟩
       case round=>
        obtain⟨k,rfl,hk,Ah,Lq⟩:=hrel;have D2:us.length=i:=(by rw [ZG.out];exact HU.out);by_cases Ku:k<i
        ·obtain⟨bA,oA,A1,c1,rfl,-,um,-,-,-,-⟩:=HA.out.row k (by rw [←HN.out];exact Ku);have yX:P[k].2=us[k]:=(by simp [ZG.out]);rw [yX]at um;have Q0:Aa w wr:=Lq.toExt (By.trans Gq) (fun q e=>by subst e;have:=By.size;omega);replace um:=Q0.cellS um;have hst:=Ah.stored k (S us[k]);rw [←List.map_set,AoV]at hst;obtain⟨uk,Pf⟩:=ArV (us[k]);rw [←Pf]at um hst;have TP:=Ah.frozenAt k;have hce:=Ah.cellAt k (by omega);have Ee:((KN us k).map S)[k]?=some (S []):=(by simp [KN,D2,Ku]);rw [Ee]at hce;have xU:=Lq.grown hst.2 (fun q e=>by cases e;exact .inl rfl);have hk0:(0:Int)<=(k:Int):=(by omega);have BX:(k:Int)<(i:Int):=(by omega);have HS:=ArW (And.intro hst.1 xU);clear hst xU yX Ee Pf;go_wp2;go_roundw
         case rel=>exact⟨k+1,by go_num,Ku,HS.out.1,HS.out.2⟩
         case measure=>simp [intOf];omega
        ·have Bf:k=i:=(by omega);subst Bf;have AqU:(k:Int)<=(k:Int):=(by omega);rw [←D2,AoU,D2]at Ah;have Km:Aa W8 wr:=Lq.toExt Gq (fun q e=>by subst e;exact AhL)
         have Ajl:(Value.slice eA ed.length ec).ownBlock≠some bu:=fun e=>by have h1:=Hd Uh;obtain⟨cur,h1⟩:=h1;exact A8 jI h1 (by decide) e
         have j7:=BG jI Lq (fun q hq e=>by subst e;exact Ajl hq);have oc:=AlU (w0:=W8) (w:=wr) (hw.ext By) Km (n:=k) (by omega) ed Sf.out (by omega) (.slice eA ed.length ec) j7 us D2 (some ⟨bu,0,none⟩) k Ah (ArZ _) (by omega);have ai:=(Km.block _ (ArX WR)).trans WR;have HBR:=ArW ai;have hXX:=By.trans Km;clear ai Uh Ah jI j7;(go_wp2_with fail);(with_reducible refine oc.mono ?_);rintro e wf ⟨A9,B9,F9,c9,d9,g9,m9,Tb,rfl,O8,Kn,hfr9⟩;unfold Bv;have Nm:=(Kn.block _ (ArX WR)).trans WR;have hst:=uz O8 (By.trans Kn) Nm (ArZ _) (.slice A9 m9.pts.length c9) (.slice B9 m9.eds.length d9) (.slice F9 m9.nf g9);have r0:wf.cell? ⟨w.heap.size,0,none⟩=some (.slice none 0 0):=Ab Nm rfl;have r1:wf.cell? ⟨w.heap.size,1,none⟩=some (.slice none 0 0):=Ab Nm rfl;have r2:wf.cell? ⟨w.heap.size,2,none⟩=some (.slice none 0 0):=Ab Nm rfl;have r3:=AB (o:=0) Nm;have r4:=AB (o:=1) Nm;have r5:=AB (o:=2) Nm;have t1:=Ab (o:=0) hst.2.2 rfl;have t2:=Ab (o:=1) hst.2.2 rfl;have t3:=Ab (o:=2) hst.2.2 rfl;have HST:=ArW hst;clear hst Nm O8;go_wp2;refine bodyPost_ret (v:=.agg #[.slice A9 m9.pts.length c9,.slice B9 m9.eds.length d9,.slice F9 m9.nf g9]) (by simp [results,Tryz.results54,go_sem,t1,t2,t3]) rfl ?_;exact⟨A9,B9,F9,c9,d9,g9,m9,Tb,rfl,by rw [←ZG.out];exact HST.out.1,HST.out.2.1,hfr9.mono By.size⟩
    ·have WU:=hB2.cells Q5 (by omega);have y0:=Ab (o:=0) WU rfl;have Aix:(0:Int)<=(l.length:Int):=(by omega);have qP:=ArW LQ;clear LQ
     go_upto_region 11 with fail
     clear y0
     go_loopw [6,34] (fun bv jv wr=>∃(f3:List Int) (b:Bool) (j:Nat),bv=.bool b/\jv=.int .i64 (j:Nat)/\j<=l.length/\f3.length=i/\(∀z∈f3,0<=z/\z<(i:Int))/\wr.ownsRow 0 3 1 (.slice (some ⟨bl+1,0,none⟩) i i) i (zs f3)/\Ar (fun q=>q=bl+1) V wr/\(b=false→f3.sum=fs.sum)/\(b=true→f3.sum<fs.sum)) (fun _ jv _=>l.length-(intOf jv).toNat)
     case atStart=>exact⟨fs,false,0,rfl,rfl,by omega,HF.out.1,HF.out.2,ho2,hB2,fun _=>rfl,(fun h=>by cases h)⟩
     case round=>
      obtain⟨f3,b,j,rfl,rfl,hj,ia,ic,Dc,BM,cj,ei⟩:=hrel;have H3:=ArW (And.intro ia (And.intro ic (And.intro cj ei)));clear ia ic cj ei;by_cases A7:j<l.length
      ·have By:Aa w wr:=BM.toExt Cl (fun q e=>by subst e;omega);have Fb:Aa w1 wr:=BM.toExt RU (fun q e=>by subst e;omega);obtain⟨b',o',rfl,f0,f1,f2,f3',f4⟩:=Mj (Bh.ext Fb) A7;have OO:=Asa A7;obtain⟨x,hx⟩:=ArV (l[j]);rw [←hx]at f0 f1 f2 f3' f4 OO;have hj0:(0:Int)<=(j:Int):=(by omega);have Fy:(j:Int)<(l.length:Int):=(by omega);clear hx;have Ap:=ArY wr (.cells #[S (R x.a.x),S (R x.a.y),S (R x.b.x),S (R x.b.y),.int .i64 x.l] 176);have E6:=(Aa.refl wr).alloc (.cells #[S (R x.a.x),S (R x.a.y),S (R x.b.x),S (R x.b.y),.int .i64 x.l] 176);have jG:=Ao Dc E6;have Jl:=BM.ext E6;have BO:=Fb.trans E6;have fD:=By.trans E6
       go_upto_region 13 with fail
       unfold S at Ap jG Jl BO fD;generalize (wr.alloc (.cells #[.string ⟨(R x.a.x).toArray⟩,.string ⟨(R x.a.y).toArray⟩,.string ⟨(R x.b.x).toArray⟩,.string ⟨(R x.b.y).toArray⟩,.int .i64 x.l] 176))=W6 at *;obtain⟨bh,DG⟩:=ArV wr.heap.size;rw [←DG]at Ap ⊢;clear DG f0 f1 f2 f3' f4 E6 Dc BM Fb By;have dh:=Jl.cells Q5 (by omega);have z5:=Ab (o:=0) dh rfl;have z0:=Ab (o:=0) Ap rfl;have z1:=Ab (o:=1) Ap rfl;have z2:=Ab (o:=2) Ap rfl;have z3:=Ab (o:=3) Ap rfl;have z4:=Ab (o:=4) Ap rfl;have bk:=VJ l x _ vc W6 (Bh.ext BO) ow ox;have hbr:=HL.out.inn.back x;have QW:=HL.out.nn x OO;have kP:=(HL.out.inn x OO).2.2.2.2;unfold Gw at bk;generalize Ek l x=r at *;(go_wp2_with fail);(with_reducible refine bk.mono ?_);rintro e W7 ⟨rfl,AQ⟩;have Br:=Ao jG AQ;have Qk:=Jl.ext AQ;have zO:=fD.trans AQ;have Ez:=(AQ.block _ (ArX Ap)).trans Ap;have cz:=Qk.cells H9 (by omega);clear z0 z1 z2 z3 z4 z5 bk jG Jl BO fD dh Ap AQ;by_cases hr0:r<0
       ·have hd:decide (0<=r)=false:=decide_eq_false (by omega)
        go_upto_region 14 with fail
        refine Bp (by kernel_rfl) (by kernel_rfl) ?_
        repeat (go_big_quiet_step (fail))
        refine wpQuiet_nil ?_;rintro W8 ⟨z,hz⟩;have Ch:Aa W7 W8:=hz▸z.h;clear hz z;have LJ:=Ao Br Ch;have EX:=Qk.ext Ch;go_wp2;go_roundw
        case rel=>exact⟨f3,b,j+1,rfl,by go_num,A7,H3.out.1,H3.out.2.1,LJ,EX,H3.out.2.2.1,H3.out.2.2.2⟩
        case measure=>simp [intOf];omega
       ·obtain⟨m,rfl⟩:∃m:Nat,r=(m:Int):=⟨r.toNat,by omega⟩;obtain⟨q,hq⟩:∃q:Nat,x.l=(q:Int):=⟨x.l.toNat,by omega⟩;have hm:m<i:=(by omega);have lh:q<i:=(by omega);obtain⟨bA,oA,A1,c1,rfl,-,um,-,-,-,-⟩:=HA.out.row m (by rw [←HN.out];exact hm);obtain⟨VH,Yu,A2,c2,he,-,uq,-,-,-,-⟩:=HA.out.row q (by rw [←HN.out];exact lh);simp only [Ase,Addr.mk.injEq,and_true]at he;obtain⟨rfl,rfl⟩:=he;generalize P[m].2=u1 at *;generalize P[q].2=u2 at *;replace um:=zO.cellS um;replace uq:=zO.cellS uq;have OJ:f3.length=i:=H3.out.1;have cm:=Br.cellAt m (by omega);have cq:=Br.cellAt q (by omega);have io:(zs f3)[m]?=some (.int .i64 (f3.getD m 0)):=(by simp [zs,List.getD_eq_getElem?_getD,Asf (show m<f3.length by omega)]);have QG:(zs f3)[q]?=some (.int .i64 (f3.getD q 0)):=(by simp [zs,List.getD_eq_getElem?_getD,Asf (show q<f3.length by omega)]);rw [io]at cm;rw [QG]at cq;obtain⟨zm,kS⟩:=ArV (f3.getD m 0);obtain⟨zq,LU⟩:=ArV (f3.getD q 0);rw [←kS]at cm;rw [←LU]at cq;have HZ:=ArW (And.intro kS LU);have z4:W7.cell? ⟨bh,4,none⟩=some (.int .i64 (q:Int)):=(by rw [←hq];exact Ab Ez rfl);have z5:W7.cell? ⟨bl+2,0,none⟩=some (.slice (some ⟨bl+1,0,none⟩) i i):=Ab cz rfl;have q0:∀z:Ac W7,z.w.cell? ⟨bA,oA+m*3+1,none⟩=some (S u1):=Ac.cell um;have q1:∀z:Ac W7,z.w.cell? ⟨bA,oA+q*3+1,none⟩=some (S u2):=Ac.cell uq;have q2:∀z:Ac W7,z.w.cell? ⟨bl+1,m,none⟩=some (.int .i64 zm):=Ac.cell cm;have q3:∀z:Ac W7,z.w.cell? ⟨bl+1,q,none⟩=some (.int .i64 zq):=Ac.cell cq;have q4:∀z:Ac W7,z.w.cell? ⟨bh,4,none⟩=some (.int .i64 (q:Int)):=Ac.cell z4;have q5:∀z:Ac W7,z.w.cell? ⟨bl+1+1,0,none⟩=some (.slice (some ⟨bl+1,0,none⟩) i i):=Ac.cell z5;have m0:(0:Int)<=(m:Int):=(by omega);have m1:(m:Int)<(i:Int):=(by omega);have n0:(0:Int)<=(q:Int):=(by omega);have n1:(q:Int)<(i:Int):=(by omega);clear kS LU io QG hr0 hbr QW kP hq Ez cz um uq;have skip:∀W8,Aa W7 W8→W8.ownsRow 0 3 1 (.slice (some ⟨bl+1,0,none⟩) i i) i (zs f3)/\Ar (fun q=>q=bl+1) V W8:=fun W8 h=>⟨Ao Br h,Qk.ext h⟩;have SK:=ArW skip;clear skip
        go_upto_region 14 with fail
        cases hU:(u1 == u2)
        ·refine Bp (by kernel_rfl) (by kernel_rfl) ?_
         repeat (go_big_quiet_step (fail))
         refine wpQuiet_nil ?_;rintro W8 ⟨z,hz⟩;obtain⟨LJ,EX⟩:=SK.out W8 (hz▸z.h);clear hz z q0 q1 q2 q3 q4 q5;go_wp2;go_roundw
         case rel=>exact⟨f3,b,j+1,rfl,by go_num,A7,H3.out.1,H3.out.2.1,LJ,EX,H3.out.2.2.1,H3.out.2.2.2⟩
         case measure=>simp [intOf];omega
        ·by_cases hlt:zm<zq
         ·have L2:decide (zm<zq)=true:=decide_eq_true hlt;refine Bp (by kernel_rfl) (by kernel_rfl) ?_
          repeat (go_big_quiet_step (fail))
          refine wpQuiet_nil ?_;rintro W8 ⟨z,hz⟩;have Ch:Aa W7 W8:=hz▸z.h;obtain⟨LJ,EX⟩:=SK.out W8 Ch;clear hz z;replace cm:=Ch.cellS cm;replace cq:=Ch.cellS cq;replace z4:=Ch.cellS z4;have z6:W8.cell? ⟨bl+1+1,0,none⟩=some (.slice (some ⟨bl+1,0,none⟩) i i):=Ch.cellS z5;have TP:=LJ.frozenAt q;have hst:=LJ.stored q (.int .i64 zm);rw [Zf]at hst;have FV:=EX.grown hst.2 (fun q e=>by cases e;exact .inl rfl);have Do:=Abl f3 q zm (by omega) (by have:=HZ.out.2;rw [List.getD_eq_getElem?_getD,Asf (by omega)]at this;simp only [Option.getD_some]at this;omega)
          have hrg:∀z∈f3.set q zm,0<=z/\z<(i:Int):=by
           intro z hz
           rcases List.mem_or_eq_of_mem_set hz with e|e
           ·exact H3.out.2.1 z e
           ·rw [e];refine H3.out.2.1 zm ?_;have:=HZ.out.1;rw [List.getD_eq_getElem?_getD,Asf (by omega)]at this;simp only [Option.getD_some]at this;rw [this];exact Asa _
          have Fc:(f3.set q zm).sum<fs.sum:=by
           cases b
           ·have:=H3.out.2.2.1 rfl;omega
           ·have:=H3.out.2.2.2 rfl;omega
          have HST:=ArW (And.intro hst.1 (And.intro FV (And.intro hrg Fc)));clear hst FV hrg Fc Do q0 q1 q2 q3 q4 q5 Ch z5
          go_upto_region 15 with fail
          go_region
          all_goals (
           have o9:=Ao HST.out.1 (Aa.refl _).drew;have b9:=HST.out.2.1.ext (Aa.refl _).drew;clear cm cq z4 z6 TP LJ EX;go_wp2;go_roundw
           case rel=>exact⟨f3.set q zm,true,j+1,rfl,by go_num,A7,by rw [List.length_set];exact H3.out.1,HST.out.2.2.1,o9,b9,(fun h=>by cases h),fun _=>HST.out.2.2.2⟩
           case measure=>simp [intOf];omega)
         ·have L2:decide (zm<zq)=false:=decide_eq_false hlt;refine Bp (by kernel_rfl) (by kernel_rfl) ?_
          repeat (go_big_quiet_step (fail))
          refine wpQuiet_nil ?_;rintro W8 ⟨z,hz⟩;obtain⟨LJ,EX⟩:=SK.out W8 (hz▸z.h);clear hz z q0 q1 q2 q3 q4 q5;go_wp2;go_roundw
          case rel=>exact⟨f3,b,j+1,rfl,by go_num,A7,H3.out.1,H3.out.2.1,LJ,EX,H3.out.2.2.1,H3.out.2.2.2⟩
          case measure=>simp [intOf];omega
      ·have Dl:j=l.length:=(by omega);subst Dl;have Xs:(l.length:Int)<=(l.length:Int):=by omega
       cases b
       ·go_wp2;go_roundw
        case rel=>exact⟨f3,false,rfl,H3.out.1,H3.out.2.1,Dc,BM⟩
        case measure=>rw [qP.out];simp
       ·have hs3:=Abj Dc H3.out.1;have hlt:=H3.out.2.2.2 rfl;have GV:=Abk f3 (fun z hz=>(H3.out.2.1 z hz).1);have qN:=ArW (And.intro hs3 (And.intro hlt GV));clear hs3 hlt GV;go_wp2;go_roundw
        case rel=>exact⟨f3,true,rfl,H3.out.1,H3.out.2.1,Dc,BM⟩
        case measure=>rw [qP.out,qN.out.1];have:=qN.out.2;simp only [];omega
def rB(w:World)(e:Ending)(w':World):Prop:=
 ∃(n:Nat) (units:List Bs) (A B F:Option Addr) (c d g:Nat) (m:Bz) (Ag:List Bs),n<=18/\e=.returned (Bv A B F m c d g)/\MapAt w' n units A B F c d g m Ag/\Aa w w'/\PE w.heap.size A B F/\∀u∈units,∃n:Nat,u=Bi n
theorem yx{p:Pl}(h:p.Ok):(NS p).length=29:=by simp [NS,h.len]
section
variable {P : Program} {ops : Array Oper} {rest : List Oper} {o : Oper} {a : Act} {Q : Exit → Act → World → Prop}
theorem Akx(hgd:o.guard=none)(ty:TypeId)(x:Operand)(ho:o.op=.load ty x)(w:World)
  (g:Nat) (hx:a.eval x=.pointer (some ⟨g,0,none⟩)) (t:TypeId) (cs:Array Value) (d:TypeDesc) (hg:w.heap[g]?=some (.cells cs t))
  (hu:P.underlying ty=some d) (hd:(match d with | .struct _ | .array _ _=>true|_=>false)=true) (hi:(P.info? ty).map (·.size)=some cs.size)
  (h:wpList P ops Q rest (a.put o.dst (.agg cs)) w):wpList P ops Q (o::rest) a w:=
 wpList_plain hgd fun _ hK=>wp_load_row ty x ho g hx t cs (0,0) d hg hu hd hi (hK _ _ h)
end
theorem yy:(Tryz.prog.info? 51).map (·.size)=some 29:=by kernel_rfl
theorem AkE(p:Pl)(hp:p.Ok)(w:World)(hw:Al w):Calls Tryz.prog 14 #[NT p] w (rB w):=by
 have pc:=fun (w':World) (h:Al w')=>Amq p hp w' h;obtain⟨cs,hcs⟩:=ArV ((NS p).toArray);have hV:NT p=.agg cs:=(by rw [hcs];rfl);have hsz:cs.size=29:=(by rw [hcs];exact yx hp);have hin:(Tryz.prog.info? 51).map (·.size)=some cs.size:=(by rw [hsz];exact yy);simp only [hV]at pc ⊢
 obtain⟨V,zF,EV,Q3,Dw⟩:∃V,V=(w.alloc (.cells cs 51)).alloc (.cells #[.slice none 0 0,.slice none 0 0,.slice none 0 0] 36)/\Aa w V/\V.heap[w.heap.size]?=some (.cells cs 51)/\V.heap[w.heap.size+1]?=some (.cells #[.slice none 0 0,.slice none 0 0,.slice none 0 0] 36):=by
  refine⟨_,rfl,((Aa.refl _).alloc _).alloc _,(Below.heap_alloc _ _ _ (by simp)).trans (ArY w _),?_⟩;have h:=ArY (w.alloc (.cells cs 51)) (.cells #[.slice none 0 0,.slice none 0 0,.slice none 0 0] 36)
  rwa [Ash]at h
 clear hcs hV hp hsz;go_enter Tryz.func14,Tryz.ntmps14
 go_upto_region 1 with fail
 rw [←zF];clear zF;obtain⟨bP,ah⟩:=ArV w.heap.size;have AhA:w.heap.size<=bP:=(by omega);rw [←ah]at Q3 Dw ⊢;clear ah
 go_wp2_with (first|(refine Akx rfl 51 (.tmp 1) rfl V bP rfl 51 cs _ Q3 Tryz.underlying51 rfl hin ?_)|((with_reducible refine(pc _ (hw.ext EV)).mono ?_);rintro e w1 ⟨A,c,P,rfl,hP,hat,hx1⟩))
 have gl:=AgO P hP A c w1 (hw.ext (EV.trans hx1)) hat;have yT:=hP.len
 have Sp:=ArW (show ∀u∈P.map (·.2),∃n:Nat,u=Bi n from fun u hu=>by
  obtain⟨e,he,rfl⟩:=List.mem_map.1 hu
  exact hP.un e he)
 have CG:=EV.trans hx1;have Nk:=(hx1.block _ (ArX Dw)).trans Dw;clear pc hat hP Dw Q3;(go_wp2_with fail);(with_reducible refine gl.mono ?_);rintro e w2 ⟨A9,B9,F9,c9,d9,g9,m9,Tb,rfl,O8,hx2,hfr⟩;unfold Bv;have Nl:=(hx2.block _ (ArX Nk)).trans Nk;have hst:=uz O8 (CG.trans hx2) Nl (by omega) (.slice A9 m9.pts.length c9) (.slice B9 m9.eds.length d9) (.slice F9 m9.nf g9);have hfr2:=hfr.mono CG.size;have r0:w2.cell? ⟨bP+1,0,none⟩=some (.slice none 0 0):=Ab Nl rfl;have r1:w2.cell? ⟨bP+1,1,none⟩=some (.slice none 0 0):=Ab Nl rfl;have r2:w2.cell? ⟨bP+1,2,none⟩=some (.slice none 0 0):=Ab Nl rfl;have r3:=AB (o:=0) Nl;have r4:=AB (o:=1) Nl;have r5:=AB (o:=2) Nl;have t1:=Ab (o:=0) hst.2.2 rfl;have t2:=Ab (o:=1) hst.2.2 rfl;have t3:=Ab (o:=2) hst.2.2 rfl;have HST:=ArW (And.intro hst (And.intro hfr2 yT));clear hst Nl O8 hfr hfr2 yT Nk gl;go_wp2;refine bodyPost_ret (v:=.agg #[.slice A9 m9.pts.length c9,.slice B9 m9.eds.length d9,.slice F9 m9.nf g9]) (by simp [results,Tryz.results14,go_sem,t1,t2,t3]) rfl ?_;exact⟨P.length,P.map (·.2),A9,B9,F9,c9,d9,g9,m9,Tb,HST.out.2.2,rfl,HST.out.1.1,HST.out.1.2.1,HST.out.2.1,Sp.out⟩
section
open Go.Sort Go.Shelf
def cO(e:En):List Value:=[S e.u,S e.s,.int .i64 e.p,S e.t]
theorem wH(x:En):∀v∈cO x,v.oneCell'=true:=by
 intro v hv;simp only [cO,List.mem_cons,Asm,or_false]at hv
 rcases hv with rfl|rfl|rfl|rfl<;>rfl
instance instInhEn:Inhabited En:=⟨⟨[],[],0,[]⟩⟩
def Ji(c:List La)(x y:En):Int:=Cz c x.u y.u
theorem RG(c:List La):SWO (ltOf (Ji c)) where
 irrefl x:=(YW c).irrefl x.u
 trans x y z:=(YW c).trans x.u y.u z.u
 ntrans x y z:=(YW c).ntrans x.u y.u z.u
def Mp(c:List La)(l:List En):List En:=l.mergeSort (fun x y=>!decide (Cz c y.u x.u<0))
theorem AaT(c:List La)(l:List En):(Mp c l).Perm l:=List.mergeSort_perm _ _
theorem AnV(c:List La)(l:List En):(Mp c l).Pairwise (fun x y=>ltOf (Ji c) y x=false):=by
 have tr:∀x y z:En,(!decide (Cz c y.u x.u<0))=true→(!decide (Cz c z.u y.u<0))=true→(!decide (Cz c z.u x.u<0))=true:=by intro x y z h1 h2;have:=(RG c).ntrans z y x;unfold ltOf Ji at this;simp only [Bool.not_eq_true',decide_eq_false_iff_not]at *;exact this h2 h1
 have UQ:∀x y:En,((!decide (Cz c y.u x.u<0))||(!decide (Cz c x.u y.u<0)))=true:=by
  intro x y;have i1:=(RG c).irrefl x;have i2:=(RG c).trans x y x;unfold ltOf Ji at i1 i2;simp only [Bool.or_eq_true,Bool.not_eq_true',decide_eq_false_iff_not,decide_eq_true_iff]at *;by_cases h:Cz c y.u x.u<0
  ·exact .inr fun h'=>i1 (i2 h' h)
  ·exact .inl h
 have h:=List.pairwise_mergeSort tr UQ l;refine h.imp ?_;intro a b hab;unfold ltOf Ji
 simpa using hab
def NZ(l:List En):Prop:=∀x∈l,∀y∈l,x.u=y.u→x=y
theorem AnU{c:List La}{l m:List En}(ha:NZ l)(hp:m.Perm l)(hs:m.Pairwise (fun x y=>ltOf (Ji c) y x=false)):m=Mp c l:=by
 refine List.Perm.eq_of_pairwise (le:=fun x y=>ltOf (Ji c) y x=false) ?_ hs (AnV c l) (hp.trans (AaT c l).symm);intro a b ha' hb' h1 h2;exact ha a (hp.mem_iff.1 ha') b ((AaT c l).mem_iff.1 hb') (Abv c a.u b.u h2 h1)
end
section
open Go.Sort Go.Shelf
abbrev EnS:={e:En // e.u.length<=1000000}
instance instInhEnS:Inhabited EnS:=⟨⟨⟨[],[],0,[]⟩,by simp⟩⟩
def Kf(e:EnS):List Value:=cO e.1
theorem cL(x:EnS):(Kf x).length=4:=rfl
theorem AfK(x:EnS):∀v∈Kf x,v.oneCell'=true:=wH x.1
theorem wG(m:List EnS):m.flatMap Kf=AN (m.map (·.1)):=by
 induction m with
 | nil=>rfl
 | cons x m ih=>rw [List.flatMap_cons,ih];rfl
theorem AfI{l:List En}(h:∀e∈l,e.u.length<=1000000):∃d:Array EnS,d.toList.map (·.1)=l:=
 ⟨(l.attachWith (fun e=>e.u.length<=1000000) h).toArray,by simp⟩
theorem Am6{c:List La}{lt:EnS→EnS→Bool}(GM:∀x y:EnS,lt x y=ltOf (Ji c) x.1 y.1){d:Array EnS}(h:SortedIn lt 0 d.size d):(d.toList.map (·.1)).Pairwise (fun x y=>ltOf (Ji c) y x=false):=by
 rw [List.pairwise_map,List.pairwise_iff_getElem];intro i j hi hj Bn;have:=h i j (by omega) Bn (by simpa using hj);rw [GM]at this;rw [Array.length_toList]at hi hj;rw [getElem!_pos d i hi,getElem!_pos d j hj]at this
 simpa using this
theorem AnZ{g:FuncId}{cb:Array Value}(eg:∀args w,(callFunc g args).run Tryz.prog w=.ok (.enter g args) w)(c:List La)(cf:EnS→EnS→Int)(GM:∀x y:EnS,ltOf cf x y=ltOf (Ji c) x.1 y.1){w0 w:World}(hx:Aa w0 w)
  (TG:∀W,Aa w0 W→∀x y:EnS,Calls Tryz.prog g (#[Ew x.1,Ew y.1]++cb) W (Av (cf x y) W))
  (blk cap:Nat) (h0:w0.heap.size<=blk) (d:Array EnS) (hH:HoldsK Kf 4 w blk 0 d) (hblk:blk<w.heap.size) (hsz:d.size<1000000) (ha:NZ (d.toList.map (·.1))) :
  Calls Tryz.prog 87 #[.slice (some ⟨blk,0,none⟩) d.size cap,.func (.func g) #[] cb] w fun e w'=>
   e=.returned (.tuple #[])/\∃(d':Array EnS) (n:Nat) (os:Array Obj),d'.size=d.size/\d'.toList.map (·.1)=Mp c (d.toList.map (·.1))/\w'=sortWorldK Kf 4 w blk 0 n d' os:=by
 have swo:SWO (ltOf cf):=⟨fun x=>by rw [GM];exact(RG c).irrefl _,fun x y z=>by rw [GM,GM,GM];exact(RG c).trans _ _ _,fun x y z=>by rw [GM,GM,GM];exact(RG c).ntrans _ _ _⟩;have ly:CmpLays Tryz.prog g cb Kf 4 cf blk 0 d.size w:=XY fun W hg x y=>TG W (MQ hx hg h0) x y;refine(AnyQ.slices_SortFunc Tryz.laysSortEn 4 Tryz.isAgg40 Tryz.sizeOf40 Kf cL AfK cf swo g cb blk 0 cap d w eg ly hH hblk (by omega)).mono ?_;rintro e w' ⟨he,d',n,os,h1,h2,hw'⟩;obtain⟨hs,-,hp⟩:=h1;refine⟨he,d',n,os,hs,?_,hw'⟩
 have hp':d'.toList.Perm d.toList:=by have e1:d'.extract 0 d.size=d':=(by rw [←hs];simp);have e2:d.extract 0 d.size=d:=(by simp);rw [e1,e2]at hp;exact hp
 rw [←hs]at h2;exact AnU ha (hp'.map _) (Am6 GM h2)
theorem AnY{g:FuncId}{cb:Array Value}(eg:∀args w,(callFunc g args).run Tryz.prog w=.ok (.enter g args) w)(c:List La)(cf:EnS→EnS→Int)(GM:∀x y:EnS,ltOf cf x y=ltOf (Ji c) x.1 y.1){w0 w:World}(hx:Aa w0 w)
  (TG:∀W,Aa w0 W→∀x y:EnS,Calls Tryz.prog g (#[Ew x.1,Ew y.1]++cb) W (Av (cf x y) W))
  {B:Nat} (hB:w0.heap.size<=B) (l:List En) (hl:∀e∈l,e.u.length<=1000000) (ha:NZ l) (hlen:l.length<1000000) {v:Value} (hv:w.ownsRow B 40 4 v l.length (AN l)) :
  Calls Tryz.prog 87 #[v,.func (.func g) #[] cb] w fun e w'=>
   e=.returned (.tuple #[])/\w.grownBy w' v.ownBlock/\w'.ownsRow B 40 4 v l.length (AN (Mp c l)):=by
 obtain⟨d,hd⟩:=AfI hl;have Dk:d.size=l.length:=(by rw [←hd];simp);by_cases hn:v=.slice none 0 0
 ·subst hn
  have h0:l = []:=by
   rcases hv.2 with⟨_,h0⟩|⟨g,cap,cur,h,_⟩
   ·exact List.eq_nil_of_length_eq_zero h0
   ·cases h
  subst h0;refine(AnyF.slices_SortFunc_none {Tryz.laysSortEn with} none 0 _ w).mono ?_;rintro e w' ⟨rfl,rfl⟩;have e0:Mp c [] = []:=(by unfold Mp;simp);rw [e0];exact⟨rfl,dC _ _,hv⟩
 ·have hv':w.ownsRow B 40 4 v d.size (d.toList.flatMap Kf):=by rw [wG,hd,Dk];exact hv
  obtain⟨gb,cap,rfl,hgb,OM,hH,hown⟩:∃g cap,v=.slice (some ⟨g,0,none⟩) d.size cap/\B<=g/\g<w.heap.size/\HoldsK Kf 4 w g 0 d/\v.ownBlock=some g:=by
   by_cases Cp:0<d.size
   ·exact XF cL (by omega) hv' Cp
   ·rcases hv'.2 with⟨h,_⟩|⟨g,cap,cur,h,hb,_⟩
    ·exact absurd h hn
    ·exact⟨g,cap,h,hb,(hv'.lt g (by rw [h];rfl)).2,fun j hj=>by rw [size_flatK]at hj;omega,by rw [h];rfl⟩
  refine(AnZ eg c cf GM hx TG gb cap (by omega) d hH OM (by omega) (by rw [hd];exact ha)).mono ?_;rintro e w' ⟨he,d',n,os,hs,hm,rfl⟩;refine⟨he,Oz Kf 4 w gb 0 n _ os,?_⟩;have ho:=Rq cL (by omega) hv' hs n os;rw [wG,hm,hd,Dk]at ho;rw [Dk];exact ho
end
section
open Go.Sort Go.Shelf
theorem AlP(c:List La)(A:Option Addr)(cc bc:Nat)(w:World)(hb:w.cell? ⟨bc,0,none⟩=some (.slice A c.length cc))(hr:Ae w A (Cj c))(h1:c.length<=cc)(h2:cc<=9223372036854775807)(x y:En) :
  Calls Tryz.prog 88 #[Ew x,Ew y,.pointer (some ⟨bc,0,none⟩)] w (Av (Cz c x.u y.u) w):=by
 have CG:=(Aa.refl w).alloc (.cells #[S x.u,S x.s,.int .i64 x.p,S x.t] 40);have Em:=CG.alloc (.cells #[S y.u,S y.s,.int .i64 y.p,S y.t] 40);have j2:=Em.cellS hb;have cu:=bH c A cc _ (hr.ext Em) h1 h2 x.u y.u;generalize Cz c x.u y.u=z at *;unfold Ew;clear hr hb;go_enter Tryz.func88,Tryz.ntmps88;(go_wp2_with fail);(with_reducible refine cu.mono ?_);rintro e w1 ⟨rfl,hx⟩;go_wp2;go_ret;exact⟨rfl,Em.trans hx⟩
theorem AfZ:∀args w,(callFunc 88 args).run Tryz.prog w=.ok (.enter 88 args) w:=enters_of Tryz.func88 (by kernel_rfl) rfl
def cfU(c:List La)(x y:EnS):Int:=Cz c x.1.u y.1.u
theorem AnX(c:List La)(A:Option Addr)(cc bc:Nat){w0 w:World}(hx:Aa w0 w)(hb:w0.cell? ⟨bc,0,none⟩=some (.slice A c.length cc))(hr:Ae w0 A (Cj c))(h1:c.length<=cc)(h2:cc<=9223372036854775807)
  {B:Nat} (hB:w0.heap.size<=B) (l:List En) (hl:∀e∈l,e.u.length<=1000000) (ha:NZ l) (hlen:l.length<1000000) {v:Value} (hv:w.ownsRow B 40 4 v l.length (AN l)) :
  Calls Tryz.prog 87 #[v,.func (.func 88) #[] #[.pointer (some ⟨bc,0,none⟩)]] w fun e w'=>e=.returned (.tuple #[])/\w.grownBy w' v.ownBlock/\w'.ownsRow B 40 4 v l.length (AN (Mp c l)):=
 AnY (cb:=#[.pointer (some ⟨bc,0,none⟩)]) AfZ c (cfU c) (fun _ _=>rfl) hx (fun W hW x y=>by exact AlP c A cc bc W (hW.cellS hb) (hr.ext hW) h1 h2 x.1 y.1) hB l hl ha hlen hv
end
section
open Go.Sort Go.Shelf
theorem AeO(l:List En)(A:Option Addr)(cc:Nat)(w:World)(hr:Ae w A (AN l))(hlen:l.length<=100000) :
  Calls Tryz.prog 86 #[.slice A l.length cc] w (fun e w'=>∃v,e=.returned v/\w'.ownsRow w.heap.size 40 4 v l.length (AN l)/\Aa w w'):=by
 cases A with
 | none=>
  have h0:l = []:=by
   refine Classical.byContradiction fun h=>?_;obtain⟨b,o,e,_⟩:=hr.ad (by rw [cQ];have:=List.length_pos_iff.2 h;omega)
   cases e
  subst h0;have hq:=fun W=>Lib.run_eql_slice_nil (P:=Tryz.prog) W 26 40 none 0 cc 0 0 Tryz.underlying26;clear hr;go_enter Tryz.func86,Tryz.ntmps86;go_wp2;go_ret;exact⟨_,rfl,⟨rfl,.inl ⟨rfl,rfl⟩⟩,Aa.refl _⟩
 | some a=>
  have hrow:=World.ownsRow_lit (base:=w.heap.size) (e:=40) (size:=4) w #[] 0 (ArZ _) (by unfold maxLen;omega) rfl;have hE:=(Aa.refl w).alloc (.cells #[] 40)
  have hnews:∀j u,(AN l)[j]?=some u→(w.alloc (.cells #[] 40)).cell? (a.add j)=some u:=by
   intro j u hu;obtain⟨hj,QR⟩:=List.getElem?_eq_some_iff.1 hu;obtain⟨b,o,e,hc⟩:=(hr.ext hE).ad (by omega)
   cases e;rw [Addr.add_lit,←QR];exact hc j hj
  have h1c:∀u∈AN l,u.oneCell'=true:=by intro u hu;unfold AN at hu;obtain⟨x,-,hx⟩:=List.mem_flatMap.1 hu;exact wH x u hx
  obtain⟨i0,hi,hz0,hz1,hz2⟩:=info_parts Tryz.infoEn;have hq:=fun W=>Lib.run_eql_slice_nil (P:=Tryz.prog) W 26 40 (some a) l.length cc 0 0 Tryz.underlying26;clear hr;have HW:=ArW hrow;have HE:=ArW hE;have HN:=ArW hnews;clear hrow hE hnews;go_enter Tryz.func86,Tryz.ntmps86
  go_wp2_with (at_builtin;go_loud (refine wpList_append_own _ rfl _ _ 26 rfl w.heap.size 40 i0 (.agg #[S [],S [],.int .i64 0,S []]) 4 56 Tryz.underlying26 hi hz0 hz1 hz2 rfl (by omega) (.slice (some ⟨w.heap.size,0,none⟩) 0 0) 0 [] rfl HW.out a l.length cc (AN l) rfl (cQ l) HN.out h1c (by unfold maxLen;omega) (by omega) HE.out.size ?_);intro v9 w9 Bc Be hnil9)
  go_ret;rw [Nat.zero_add,List.nil_append]at Bc;exact⟨_,rfl,Bc,HE.out.grown Be fun k hk=>by simp only [Value.ownBlock,Ase]at hk;omega⟩
end
section
open Go.Sort Go.Shelf
theorem Agr{w0 w w':World}{B:Nat}{e:TypeId}{s n:Nat}{v:Value}{xs:List Value}(hv:w.ownsRow B e s v n xs)(hx:Aa w0 w)(hB:w0.heap.size<=B)(hg:w.grownBy w' v.ownBlock):Aa w0 w':=
 hx.grown hg fun k hk=>by have:=(hv.lt k hk).1;omega
theorem Aoj(l:List En)(A:Option Addr)(cc:Nat)(c:List La)(B:Option Addr)(d:Nat)(w:World)(hr:Ae w A (AN l))(XJ:Ae w B (Cj c))(h1:c.length<=d)(h2:d<=9223372036854775807)
  (hl:∀e∈l,e.u.length<=1000000) (ha:NZ l) (hlen:l.length<=100000)
  (op:∀W,Aa w W→Calls Tryz.prog 85 #[.slice A l.length cc,.slice B c.length d] W (Av 0 W)) :
  Calls Tryz.prog 35 #[.slice A l.length cc,.slice B c.length d] w (fun e w'=>∃v,e=.returned (.tuple #[v,.int .i64 0])/\w'.ownsRow w.heap.size 40 4 v l.length (AN (Mp c l))/\Aa w w'):=by
 have hE:=(Aa.refl w).alloc (.cells #[.slice B c.length d] 32);have hB:=ArY w (.cells #[.slice B c.length d] 32);obtain⟨w0,hw0⟩:=ArV (w.alloc (.cells #[.slice B c.length d] 32));have Yz:=op _ hE;rw [←hw0]at hE hB Yz;have cl:=fun W (hx:Aa w0 W)=>AeO l A cc W ((hr.ext hE).ext hx) hlen;have so:=fun (W W1:World) (hx:Aa w0 W1) (hs:w0.heap.size<=W.heap.size) (v:Value) (hv:W1.ownsRow W.heap.size 40 4 v l.length (AN l))=>AnX c B d w.heap.size hx (Ab (o:=0) hB rfl) (XJ.ext hE) h1 h2 hs l hl ha (by omega) hv;have HE:=ArW hE;clear hr XJ op hB hE;subst hw0;go_enter Tryz.func35,Tryz.ntmps35;(go_wp2_with fail);(with_reducible refine Yz.mono ?_);rintro e w1 ⟨rfl,hx1⟩;have cl1:=cl w1 hx1;(go_wp2_with fail);(with_reducible refine cl1.mono ?_);rintro e w2 ⟨v,rfl,hv,hx2⟩;have X:=hx1.trans hx2;have so1:=so w1 w2 X hx1.size v hv;(go_wp2_with fail);(with_reducible refine so1.mono ?_);rintro e w3 ⟨rfl,hg,hv3⟩;have X3:=Agr hv (HE.out.trans X) (Asl HE.out.size hx1.size) hg;go_wp2;go_ret2;exact⟨_,rfl,NP hv3 (Asl HE.out.size hx1.size),X3⟩
end
end Go.Proofs.YtbejphgbbpplbaaGreatDoor
namespace Kl
open Go.Proofs.YtbejphgbbpplbaaGreatDoor
open Go.Proofs (ltOf)
theorem AdK{l:List En}(h:l.Pairwise Mx):NZ l:=by
 induction l with
 | nil=>intro x hx;cases hx
 | cons a l ih=>
  rw [List.pairwise_cons]at h;intro x hx y hy e
  rcases List.mem_cons.1 hx with rfl|hx'<;>rcases List.mem_cons.1 hy with rfl|hy'
  ·rfl
  ·exact absurd e (h.1 y hy').1
  ·exact absurd e.symm (h.1 x hx').1
  ·exact ih h.2 x hx' y hy' e
end Kl
