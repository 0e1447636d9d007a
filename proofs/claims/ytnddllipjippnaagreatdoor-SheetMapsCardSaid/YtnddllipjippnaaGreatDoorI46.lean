/- I46: ShKK1 ShKI2. -/
import Derived.Test.YtnddllipjippnaaGreatDoorI44
set_option maxRecDepth 100000
set_option maxHeartbeats 8000000
namespace Go.Proofs.YtnddllipjippnaaGreatDoor
open Go.RowKit Kl
theorem pZ{g:Nat}{t:TypeId} : ∀(vs:List Value) (o:Nat) (w:World) (cur:Array Value),w.heap[g]?=some (.cells cur t)→o+vs.length<=cur.size→
  ∃cur',(w.setCells g o vs).heap[g]?=some (.cells cur' t)/\cur'.size=cur.size/\cur'.toList=cur.toList.take o++vs++cur.toList.drop (o+vs.length)
 | [],o,w,cur,h,_=>⟨cur,h,rfl,by simp⟩
 | v::r,o,w,cur,h,hl=>by
  simp only [List.length_cons]at hl
  have h1:(w.setCell ⟨g,o,none⟩ v).heap[g]?=some (.cells (cur.setIfInBounds o v) t):=by simp only [World.setCell,Array.getElem?_modify,h];simp
  obtain⟨cur',e1,e2,e3⟩:=pZ r (o+1) (w.setCell ⟨g,o,none⟩ v) _ h1 (by simp;omega);refine⟨cur',e1,by rw [e2];simp,?_⟩;have ho:o<cur.toList.length:=by simp;omega
  have t1:∀A B:List Value,A.length=o→(A++v::B).take (o+1)=A ++ [v]:=fun A B h=>by rw [show A++v::B=(A ++ [v])++B by simp,List.take_left' (by simp [h])]
  have t2:∀(A B:List Value) (k:Nat),A.length=o→(A++v::B).drop (o+1+k)=B.drop k:=fun A B k h=>by rw [show A++v::B=(A ++ [v])++B by simp,←List.drop_drop,List.drop_left' (by simp [h])]
  have hlt:(cur.toList.take o).length=o:=(by rw [List.length_take];omega);rw [e3,Array.toList_setIfInBounds,List.set_eq_take_append_cons_drop,if_pos ho,t1 _ _ hlt,t2 _ _ _ hlt,List.drop_drop,show o+(v::r).length=o+1+r.length by rw [List.length_cons];omega];simp
def aB(base:Nat)(l:List EdZ)(g cap i:Nat)(w:World)(e:Ending)(w':World):Prop:=
 e=.returned (.slice (some ⟨g,0,none⟩) (l.length-1) cap)/\w'.ownsRow base 51 4 (.slice (some ⟨g,0,none⟩) (l.length-1) cap) (l.length-1) (Ar (l.take i++l.drop (i+1)))/\Ak (fun q=>q=g) w w'
theorem Ak.setCells{K:Nat→Prop}{w:World}(b:Nat)(hb:K b):∀(vs:List Value) (o:Nat) (w':World),Ak K w w'→Ak K w (w'.setCells b o vs)
 | [],_,_,h=>h
 | v::r,o,_,h=>Ak.setCells b hb r (o+1) _ (h.setCell (p:=⟨b,o,none⟩) (.inl hb) v)
theorem AgG(base:Nat)(l:List EdZ)(g cap i:Nat)(w:World)(hown:w.ownsRow base 51 4 (.slice (some ⟨g,0,none⟩) l.length cap) l.length (Ar l))(hi:i<l.length)(hl:l.length<=100000) :
  Calls Tryz.prog 18 #[.slice (some ⟨g,0,none⟩) l.length cap,.int .i64 (i:Nat),.int .i64 ((i:Int)+1)] w (aB base l g cap i w):=by
 obtain⟨i0,EW,hz0,hz1,hz2⟩:=info_parts Tryz.infoEd;have u1:=Tryz.underlying32;obtain⟨A',c',e',hr,hc1,hc2⟩:=Ad.of_own' (by omega) hown;simp only [Value.slice.injEq,true_and]at e';obtain⟨rfl,rfl⟩:=e';obtain⟨n,hn⟩:=Asw l.length;obtain⟨j,hj⟩:=Asw (i+1:Nat);rw [show (i:Int)+1=(j:Nat)by omega];have YC:(Ar l).length=n*4:=by rw [Ny,hn]
 rcases hown.2 with⟨h',_⟩|⟨g',cap',cur,hv',hbase,hb,h1,h2,h3,h4⟩
 ·cases h'
 simp only [Value.slice.injEq,As4,Addr.mk.injEq,and_true,true_and]at hv';obtain⟨rfl,rfl⟩:=hv';rw [←hn]at hi hl hc1 h1 h4 ⊢;have UB:∀k,w.frozen? ⟨g,k,none⟩=false:=fun k=>Ah hb
 have hcell:∀k,k<n*4→w.cell? ⟨g,k,none⟩=(Ar l)[k]?:=by intro k hk;have:=hown.cellAt k (by rw [←hn];exact hk);exact this
 obtain⟨news,hnews⟩:=Asw ((Ar l).drop (j*4));have hlen:news.length=(n-j)*4:=by rw [hnews,List.length_drop,YC];omega
 obtain⟨A,hA,AjZ⟩:∃A:Addr,(if cap=j then some (⟨g,0,none⟩:Addr)else some ⟨g,j*4,none⟩)=some A/\Hid (∀t u,news[t]?=some u→w.drew.cell? (A.add t)=some u):=by
  by_cases h:cap=j
  ·refine⟨⟨g,0,none⟩,by simp [h],fun t u hu=>?_⟩;have h0:news.length=0:=(by rw [hlen];omega);rw [List.length_eq_zero_iff.1 h0]at hu;simp at hu
  ·refine⟨⟨g,j*4,none⟩,by simp [h],fun t u hu=>?_⟩
   have ht:t<(n-j)*4:=by
    have:=(List.getElem?_eq_some_iff.1 hu).1
    rwa [hlen]at this
   rw [hnews,List.getElem?_drop]at hu;rw [Addr.add_lit];exact(hcell (j*4+t) (by omega)).trans hu
 have s1:Hid (news.length=(n-j)*4):=hlen
 have s2:Hid (∀u∈news,u.oneCell'=true):=by intro u hu;rw [hnews]at hu;obtain⟨k,hk,rfl⟩:=List.getElem_of_mem (List.mem_of_mem_drop hu);obtain⟨s,h⟩:=Nx hk;rw [h];rfl
 have s3:Hid (∀t,t<news.length→(w.drew.cell? ⟨g,0+i*4+t,none⟩).isSome=true/\w.drew.frozen? ⟨g,0+i*4+t,none⟩=false):=by
  intro t ht;rw [hlen]at ht;refine⟨?_,UB _⟩;show (w.cell? _).isSome=true;rw [hcell _ (by omega),As5 (by rw [YC];omega)]
  rfl
 obtain⟨W1,hW1⟩:=Asw (w.drew.setCells g (0+i*4) news);obtain⟨Ag4,k1,k2,k3⟩:=pZ news (0+i*4) w.drew cur hb (by rw [h3,hlen];omega);rw [←hW1]at k1;have hm:i+(n-j)=n-1:=(by omega);obtain⟨vs,vo,kg⟩:=Ab9 W1 g ((n-1)*4) 1 (cap-(n-1)) (by omega) (fun k hk=>by rw [Aa (o:=(n-1)*4+k) k1 (by rw [Array.getElem?_eq_getElem (by rw [k2,h3];omega)])];rfl) (fun k _=>Ah k1)
 have hcl:∀ty,(Builtin.clear_ #[32] ty #[.slice (some ⟨g,(i+(n-j))*4,none⟩) (n-(i+(n-j))) (cap-(i+(n-j)))]).run Tryz.prog W1=.ok (.tuple #[]) (W1.setCells g ((n-1)*4) vs):=by intro ty;rw [hm,show n-(n-1)=1 by omega];exact kg ty
 obtain⟨Ag5,q1,q2,q3⟩:=pZ vs ((n-1)*4) W1 Ag4 k1 (by rw [k2,h3,vo];omega)
 have AQ:aB base l g cap i w (.returned (.slice (some ⟨g,0,none⟩) (n-1) cap)) (W1.setCells g ((n-1)*4) vs):=by
  refine⟨by rw [hn],⟨?_,.inr ⟨g,cap,Ag5,rfl,hbase,q1,by omega,h2,by rw [q2,k2,h3],?_⟩⟩,?_⟩
  ·rw [Ny];simp;omega
  ·have hc0:cur.toList.take (i*4)=(Ar l).take (i*4):=by rw [←h4,List.take_take,Nat.min_eq_left (by omega)]
   have hd:Ar (l.take i++l.drop (i+1))=(Ar l).take (i*4)++(Ar l).drop (j*4):=by
    have e1:Ar (l.take i++l.drop (i+1))=Ar (l.take i)++Ar (l.drop (i+1)):=by unfold Ar;rw [List.flatMap_append]
    have e2:Ar l=Ar (l.take (i+1))++Ar (l.drop (i+1)):=by
     have:Ar (l.take (i+1)++l.drop (i+1))=Ar (l.take (i+1))++Ar (l.drop (i+1)):=by unfold Ar;rw [List.flatMap_append]
     rwa [List.take_append_drop]at this
    have e3:(Ar l).drop (j*4)=Ar (l.drop (i+1)):=by have e4:(Ar (l.take (i+1))).length=j*4:=(by rw [Ny,List.length_take];omega);rw [e2,List.drop_left' e4]
    rw [e1,eK,e3]
   rw [hd,q3,k3,←hnews,Nat.zero_add,hc0,←hn]
   have hA1:((Ar l).take (i*4)++news).length=(n-1)*4:=by rw [List.length_append,List.length_take,YC,hlen];omega
   rw [List.take_left' hA1,List.append_assoc,List.take_left' hA1]
  ·rw [hW1];have hb0:Ak (fun q=>q=g) w w.drew:=⟨rfl,rfl,rfl,As0 _,fun _ _ _=>rfl⟩;exact Ak.setCells (K:=fun q=>q=g) g rfl _ _ _ (Ak.setCells (K:=fun q=>q=g) g rfl _ _ _ hb0)
 have Bf:=Asx AQ;have hW:Hid (W1=w.drew.setCells g (0+i*4) news):=hW1;have JU:i<=cap:=(by omega);have Arn:i<=j:=(by omega);have BB:¬cap=i+(n-j):=(by omega);have Aro:j<=n:=(by omega);have nw:j<=cap:=(by omega);have Bj:((i:Int) == (j:Int))=false:=(by rw [beq_eq_false_iff_ne];omega);clear AQ q1 q2 q3 k1 k2 k3 kg hcell UB hnews hlen YC hW1 h4 hb hown hr vo;have HN:=Asx hn;have HJ:=Asx hj;have HM:=Asx hm;clear hn hj hm;go_enter Tryz.func18,Tryz.ntmps18;(go_wp2_with fail)
 go_region_law (refine step_append_room rfl (.tmp 22) (.tmp 25) 32 rfl 51 i0 4 u1 EW hz1 g 0 i cap (by simp [Act.eval,Act.put]) A (n-j) (cap-j) news (by simp [Act.eval,Act.put]) s1.out AjZ.out s2.out (by omega) s3.out ?_;rw [←hW.out])
 simp only [Act.put,List.getElem_toArray,List.getElem_cons_succ,List.getElem_cons_zero,List.setIfInBounds_toArray,List.set_cons_zero];go_wp2;go_ret;have hq:aB base l g cap i w (.returned (.slice (some ⟨g,0,none⟩) (i+(n-j)) cap)) (W1.setCells g ((n-1)*4) vs):=(by rw [HM.out];exact Bf.out);exact hq
theorem Tt(x y:Int)(hx:x.natAbs<10000000)(hy:y.natAbs<10000000)(w:World)(hw:Aj w) :
  Calls Tryz.prog 20 #[.int .i64 x,.int .i64 y] w (BA (Af ⟨x,y⟩) w):=by
 have o1:∀W,Aj W→Calls Tryz.prog 54 #[.int .i64 x,.int .i64 1] W (BW (R (x:Rat)) W):=fun W hW=>by have:=Abz x 1 (by omega) hx (by omega) W hW;rw [Aaj]at this;exact this
 have o2:∀W,Aj W→Calls Tryz.prog 54 #[.int .i64 y,.int .i64 1] W (BW (R (y:Rat)) W):=fun W hW=>by have:=Abz y 1 (by omega) hy (by omega) W hW;rw [Aaj]at this;exact this
 have hb:=Asz w (.cells #[S [],S []] 24);have hE:=(Ab.refl w).alloc (.cells #[S [],S []] 24);unfold Af;clear hx hy;go_enter Tryz.func20,Tryz.ntmps20;(go_wp2_with fail);rw [show (⟨#[]⟩:ByteArray)=⟨([]:Bs).toArray⟩from rfl];(with_reducible refine(o1 _ (hw.ext hE)).mono ?_);rintro e w1 ⟨rfl,hx⟩;replace hb:=(hx.block _ (Asy hb)).trans hb;replace hE:=hE.trans hx;(go_wp2_with fail);(with_reducible refine(o2 _ (hw.ext hE)).mono ?_);rintro e w2 ⟨rfl,hx2⟩;replace hb:=(hx2.block _ (Asy hb)).trans hb;replace hE:=hE.trans hx2;have g1:=Aa (o:=0) hb rfl;have g2:=Aa (o:=1) hb rfl;have g3:=Ah (o:=0) hb;have g4:=Ah (o:=1) hb;obtain⟨e1,e2⟩:=set2 (S (R (x:Rat))) (S (R (y:Rat))) g1 g2;go_wp2;refine bodyPost_ret (v:=.agg #[S (R (x:Rat)),S (R (y:Rat))]) (by simp [results,Tryz.results20,go_sem,e1,e2]) rfl ?_;exact⟨rfl,(hE.setCell (As0 _) _).setCell (As0 _) _⟩
def p46:List (List Pt×Bs):=[([⟨0,0⟩,⟨4,0⟩,⟨4,4⟩,⟨0,4⟩],[97])]
theorem AmH:VJ p46=true:=by decide +kernel
theorem AmI:Zl (He p46) (LL p46) p46.length=true:=by decide +kernel
theorem AmJ:uH p46=true:=by decide +kernel
theorem AaL:Aad p46=AL/\(VU p46).fa = [[97]]:=by decide +kernel
theorem AnE{W:World}{bp:Nat}(h:W.heap[bp]?=some (.cells #[S (R 0),S (R 0),S (R 4),S (R 0),S (R 4),S (R 4),S (R 0),S (R 4)] 24)):Ad W (some ⟨bp,0,none⟩) (flat (Ag [⟨0,0⟩,⟨4,0⟩,⟨4,4⟩,⟨0,4⟩])):=by
 refine⟨fun _=>⟨bp,0,rfl,fun j hj=>?_⟩⟩;have hj8:j<8:=hj;obtain rfl|rfl|rfl|rfl|rfl|rfl|rfl|rfl:j=0∨j=1∨j=2∨j=3∨j=4∨j=5∨j=6∨j=7:=by omega
 all_goals exact Aa h rfl
theorem AmM{W:World}{bp bq:Nat}(h:W.heap[bp]?=some (.cells #[S (R 0),S (R 0),S (R 4),S (R 0),S (R 4),S (R 4),S (R 0),S (R 4)] 24))(h2:W.heap[bq]?=some (.cells #[.slice (some ⟨bp,0,none⟩) 4 4,S [97],.slice none 0 0] 84)):IS W (some ⟨bq,0,none⟩) 1 p46:=by
 refine⟨by decide,by decide,fun j hj=>?_⟩;have FS:j<1:=hj;obtain rfl:j=0:=(by omega);exact⟨bq,0,some ⟨bp,0,none⟩,4,rfl,Aa h2 rfl,Aa h2 rfl,Aa h2 rfl,AnE h,As0 4,by decide⟩
def AeL(w:World)(e:Ending)(w':World):Prop:=
 ∃A Bk F c d g,e=.returned (AH A Bk F AL c d g)/\Db AL c d g/\Ad w' A (flat (Ag AL.pts))/\Ad w' Bk (Ar AL.eds)/\Ad w' F ([[97]].map S)/\Ab w w'
theorem Aci(w:World)(hw:Aj w):Calls Tryz.prog 11 #[] w (AeL w):=by
 have a0:∀W,Aj W→Calls Tryz.prog 20 #[.int .i64 0,.int .i64 0] W (BA (.agg #[S (R 0),S (R 0)]) W):=fun W h=>by have h1:=Tt 0 0 (by decide) (by decide) W h;unfold Af at h1;rw [show ((0:Int):Rat)=0 from rfl]at h1;exact h1
 have a1:∀W,Aj W→Calls Tryz.prog 20 #[.int .i64 4,.int .i64 0] W (BA (.agg #[S (R 4),S (R 0)]) W):=fun W h=>by have h1:=Tt 4 0 (by decide) (by decide) W h;unfold Af at h1;rw [show ((4:Int):Rat)=4 from rfl,show ((0:Int):Rat)=0 from rfl]at h1;exact h1
 have a2:∀W,Aj W→Calls Tryz.prog 20 #[.int .i64 4,.int .i64 4] W (BA (.agg #[S (R 4),S (R 4)]) W):=fun W h=>by have h1:=Tt 4 4 (by decide) (by decide) W h;unfold Af at h1;rw [show ((4:Int):Rat)=4 from rfl]at h1;exact h1
 have a3:∀W,Aj W→Calls Tryz.prog 20 #[.int .i64 0,.int .i64 4] W (BA (.agg #[S (R 0),S (R 4)]) W):=fun W h=>by have h1:=Tt 0 4 (by decide) (by decide) W h;unfold Af at h1;rw [show ((0:Int):Rat)=0 from rfl,show ((4:Int):Rat)=4 from rfl]at h1;exact h1
 have hb:=Asz w (.cells #[.slice none 0 0,.slice none 0 0,.slice none 0 0] 35);have hE:=(Ab.refl w).alloc (.cells #[.slice none 0 0,.slice none 0 0,.slice none 0 0] 35);go_enter Tryz.func11,Tryz.ntmps11
 go_upto_region 1 with fail
 (go_wp2_with fail);(with_reducible refine(a0 _ (hw.ext hE)).mono ?_);rintro e w1 ⟨rfl,hx1⟩;replace hb:=(hx1.block _ (Asy hb)).trans hb;replace hE:=hE.trans hx1;clear hx1;(go_wp2_with fail);(with_reducible refine(a1 _ (hw.ext hE)).mono ?_);rintro e w2 ⟨rfl,hx2⟩;replace hb:=(hx2.block _ (Asy hb)).trans hb;replace hE:=hE.trans hx2;clear hx2;(go_wp2_with fail);(with_reducible refine(a2 _ (hw.ext hE)).mono ?_);rintro e w3 ⟨rfl,hx3⟩;replace hb:=(hx3.block _ (Asy hb)).trans hb;replace hE:=hE.trans hx3;clear hx3;(go_wp2_with fail);(with_reducible refine(a3 _ (hw.ext hE)).mono ?_);rintro e w4 ⟨rfl,Ao⟩;replace hb:=(Ao.block _ (Asy hb)).trans hb;replace hE:=hE.trans Ao;clear Ao;clear a0 a1 a2 a3;(go_wp2_with fail);have P1:=Asz w4 (.cells #[S (R 0),S (R 0),S (R 4),S (R 0),S (R 4),S (R 4),S (R 0),S (R 4)] 24);have P2:=Asz (w4.alloc (.cells #[S (R 0),S (R 0),S (R 4),S (R 0),S (R 4),S (R 4),S (R 0),S (R 4)] 24)) (.cells #[.slice (some ⟨w4.heap.size,0,none⟩) 4 4,S [97],.slice none 0 0] 84);rw [As7]at P2;have E1:=(Ab.refl w4).alloc (.cells #[S (R 0),S (R 0),S (R 4),S (R 0),S (R 4),S (R 4),S (R 0),S (R 4)] 24);have E2:=(Ab.refl (w4.alloc (.cells #[S (R 0),S (R 0),S (R 4),S (R 0),S (R 4),S (R 4),S (R 0),S (R 4)] 24))).alloc (.cells #[.slice (some ⟨w4.heap.size,0,none⟩) 4 4,S [97],.slice none 0 0] 84);have bd:=AfU p46 AmH AmI AmJ (some ⟨w4.heap.size+1,0,none⟩) 1 _ (hw.ext (hE.trans (E1.trans E2))) (AmM ((E2.block _ (Asy P1)).trans P1) P2);rw [AaL.1,AaL.2,show p46.length=1 from rfl]at bd;(with_reducible refine bd.mono ?_);rintro e w6 ⟨A,Bk,F,c,d,g,rfl,AW,r1,r2,r3,-,AX⟩;have By:=(((E1.trans E2).trans AX).block _ (Asy hb)).trans hb;have LV:=hE.trans ((E1.trans E2).trans AX);clear bd P1 P2 E1 E2 hE hb AX;have HR:=Asx (And.intro AW (And.intro r1 (And.intro r2 r3)));clear AW r1 r2 r3;unfold AH
 go_upto_region 2 with fail
 have hq:=Asz w6 (.cells #[.slice A AL.pts.length c,.slice Bk AL.eds.length d,.slice F AL.nf g] 35);have Az:=(Ab.refl w6).alloc (.cells #[.slice A AL.pts.length c,.slice Bk AL.eds.length d,.slice F AL.nf g] 35);have Dm:=(Az.block _ (Asy By)).trans By;have TY:=LV.trans Az;have bT:=Asx Az;generalize w6.alloc (.cells #[.slice A AL.pts.length c,.slice Bk AL.eds.length d,.slice F AL.nf g] 35)=W7 at *;have q0:=Aa (o:=0) hq rfl;have q1:=Aa (o:=1) hq rfl;have q2:=Aa (o:=2) hq rfl;have g0:=Aa (o:=0) Dm rfl;have g1:=Aa (o:=1) Dm rfl;have g2:=Aa (o:=2) Dm rfl;have g3:=Ah (o:=0) Dm;have g4:=Ah (o:=1) Dm;have g5:=Ah (o:=2) Dm;have AA:=Dd (.slice A AL.pts.length c) (.slice Bk AL.eds.length d) (.slice F AL.nf g) Dm;have t1:=Aa (o:=0) AA rfl;have t2:=Aa (o:=1) AA rfl;have t3:=Aa (o:=2) AA rfl;have Co:=(((Ak.refl (fun q=>q=w.heap.size) W7).setCell (p:=⟨w.heap.size,0,none⟩) (.inl rfl) (.slice A AL.pts.length c)).setCell (p:=⟨w.heap.size,1,none⟩) (.inl rfl) (.slice Bk AL.eds.length d)).setCell (p:=⟨w.heap.size,2,none⟩) (.inl rfl) (.slice F AL.nf g);have z1:=FI (HR.out.2.1.ext bT.out) Co Dm (fun j hj=>by obtain⟨s,h⟩:=OS hj;rw [h];simp);have z2:=FI (HR.out.2.2.1.ext bT.out) Co Dm (fun j hj=>by obtain⟨s,h⟩:=Nx hj;rw [h];simp);have z3:=FI (HR.out.2.2.2.ext bT.out) Co Dm (fun j hj=>by rw [List.getElem_map];simp);have HF:=Asx (And.intro z1 (And.intro z2 (And.intro z3 (CQ TY (As0 _) (.slice A AL.pts.length c) (.slice Bk AL.eds.length d) (.slice F AL.nf g)))));clear z1 z2 z3 Co AA TY LV By Dm hq Az;go_wp2;refine bodyPost_ret (v:=.agg #[.slice A AL.pts.length c,.slice Bk AL.eds.length d,.slice F AL.nf g]) (by simp [results,Tryz.results11,go_sem,t1,t2,t3]) rfl ?_;exact⟨A,Bk,F,c,d,g,rfl,HR.out.1,HF.out.1,HF.out.2.1,HF.out.2.2.1,HF.out.2.2.2⟩
end Go.Proofs.YtnddllipjippnaaGreatDoor
