/- W44. -/
import Derived.Test.YtnfedbopbcegjaaGreatDoorW35
import Derived.Test.YtnfedbopbcegjaaGreatDoorW39
import Derived.Test.YtnfedbopbcegjaaGreatDoorW43
set_option maxRecDepth 100000
set_option maxHeartbeats 4000000
namespace Go.Proofs.YtnfedbopbcegjaaGreatDoor
open Go.RowKit Kl
def mh(f:MapZ→List Bs→Prop)(w:World)(e:Ending)(w':World):Prop:=
 ∃(n:Nat) (units:List Bs) (A B F:Option Addr) (c d g:Nat) (m:MapZ) (faces:List Bs),n<=18/\e=.returned (AE A B F m c d g)/\MapAt w' n units A B F c d g m faces/\Aa w w'/\LY w.heap.size A B F/\(∀u∈units,∃n:Nat,u=AY n)/\f m faces
theorem Aft{p:Pl}(h:p.Ok):(LO p).length=29:=by simp [LO,h.len]
section
variable {P : Program} {ops : Array Oper} {rest : List Oper} {o : Oper} {a : Act} {Q : Exit → Act → World → Prop}
theorem uN(hgd:o.guard=none)(ty:TypeId)(x:Operand)(ho:o.op=.load ty x)(w:World)
  (g:Nat) (hx:a.eval x=.pointer (some ⟨g,0,none⟩)) (t:TypeId) (cs:Array Value) (d:TypeDesc) (hg:w.heap[g]?=some (.cells cs t))
  (hu:P.underlying ty=some d) (hd:(match d with | .struct _ | .array _ _=>true|_=>false)=true) (hi:(P.info? ty).map (·.size)=some cs.size)
  (h:wpList P ops Q rest (a.put o.dst (.agg cs)) w):wpList P ops Q (o::rest) a w:=
 wpList_plain hgd fun _ hK=>wp_load_row ty x ho g hx t cs (0,0) d hg hu hd hi (hK _ _ h)
end
theorem wQ:(Tryz.prog.info? 71).map (·.size)=some 29:=by kernel_rfl
theorem Aej(f:MapZ→List Bs→Prop)(p:Pl)(hp:p.Ok)(hf:∀(m:MapZ) (faces:List Bs),RB (LN p) m faces→(LN p).length<=18→(∀e∈LN p,e.1.length<=4)→m.nf=faces.length→faces.length<=18→f m faces)(w:World)(hw:Ak w):Calls Tryz.prog 21 #[O6 p] w (mh f w):=by
 have pc:=fun (w':World) (h:Ak w')=>Afr p hp w' h;obtain⟨cs,hcs⟩:=AjJ ((LO p).toArray);have hV:O6 p=.agg cs:=(by rw [hcs];rfl);have hsz:cs.size=29:=(by rw [hcs];exact Aft hp);have hin:(Tryz.prog.info? 71).map (·.size)=some cs.size:=(by rw [hsz];exact wQ);simp only [hV]at pc ⊢
 obtain⟨V,Li,EV,NR,Dy⟩:∃V,V=(w.alloc (.cells cs 71)).alloc (.cells #[.slice none 0 0,.slice none 0 0,.slice none 0 0] 44)/\Aa w V/\V.heap[w.heap.size]?=some (.cells cs 71)/\V.heap[w.heap.size+1]?=some (.cells #[.slice none 0 0,.slice none 0 0,.slice none 0 0] 44):=by
  refine⟨_,rfl,((Aa.refl _).alloc _).alloc _,(Below.heap_alloc _ _ _ (by simp)).trans (AjM w _),?_⟩;have h:=AjM (w.alloc (.cells cs 71)) (.cells #[.slice none 0 0,.slice none 0 0,.slice none 0 0] 44)
  rwa [AjU]at h
 have HF:=AjK hf;clear hcs hV hp hsz hf;go_enter Tryz.func21,Tryz.ntmps21
 go_upto_region 1 with fail
 rw [←Li];clear Li;obtain⟨bP,mL⟩:=AjJ w.heap.size;have Ab5:w.heap.size<=bP:=(by omega);rw [←mL]at NR Dy ⊢;clear mL
 go_wp2_with (first|(refine uN rfl 71 (.tmp 1) rfl V bP rfl 71 cs _ NR Tryz.underlying71 rfl hin ?_)|((with_reducible refine(pc _ (hw.ext EV)).mono ?_);rintro e w1 ⟨A,c,P,rfl,hP,hat,hx1,L8⟩;have K7:=AjK L8;clear L8))
 have gl:=AaL P hP A c w1 (hw.ext (EV.trans hx1)) hat;have Xc:=hP.len;have jr:=AjK (fun e he=>(hP.pts e he).2)
 have Pj:=AjK (show ∀u∈P.map (·.2),∃n:Nat,u=AY n from fun u hu=>by
  obtain⟨e,he,rfl⟩:=List.mem_map.1 hu
  exact hP.un e he)
 have BA:=EV.trans hx1;have Ll:=(hx1.block _ (AjL Dy)).trans Dy;clear pc hat hP Dy NR;(go_wp2_with fail);(with_reducible refine gl.mono ?_);rintro e w2 ⟨A9,B9,F9,c9,d9,g9,m9,Mo,rfl,hM9,hx2,hfr,hgx⟩;have Yk:RB (LN p) m9 Mo:=(by rw [←K7.out];exact hgx);have Vp:=AjK (HF.out m9 Mo Yk (by rw [←K7.out];exact Xc) (by rw [←K7.out];exact jr.out) hM9.nf (by have:=hM9.le;omega));clear hgx Yk;unfold AE;have Lm:=(hx2.block _ (AjL Ll)).trans Ll;have hst:=uT hM9 (BA.trans hx2) Lm (by omega) (.slice A9 m9.pts.length c9) (.slice B9 m9.eds.length d9) (.slice F9 m9.nf g9);have hfr2:=hfr.mono BA.size;have r0:w2.cell? ⟨bP+1,0,none⟩=some (.slice none 0 0):=Ab Lm rfl;have r1:w2.cell? ⟨bP+1,1,none⟩=some (.slice none 0 0):=Ab Lm rfl;have r2:w2.cell? ⟨bP+1,2,none⟩=some (.slice none 0 0):=Ab Lm rfl;have r3:=Ao (o:=0) Lm;have r4:=Ao (o:=1) Lm;have r5:=Ao (o:=2) Lm;have t1:=Ab (o:=0) hst.2.2 rfl;have t2:=Ab (o:=1) hst.2.2 rfl;have t3:=Ab (o:=2) hst.2.2 rfl;have HST:=AjK (And.intro hst (And.intro hfr2 Xc));clear hst Lm hM9 hfr hfr2 Xc Ll gl;go_wp2;refine bodyPost_ret (v:=.agg #[.slice A9 m9.pts.length c9,.slice B9 m9.eds.length d9,.slice F9 m9.nf g9]) (by simp [results,Tryz.results21,go_sem,t1,t2,t3]) rfl ?_;exact⟨P.length,P.map (·.2),A9,B9,F9,c9,d9,g9,m9,Mo,HST.out.2.2,rfl,HST.out.1.1,HST.out.1.2.1,HST.out.2.1,Pj.out,Vp.out⟩
instance decHf:DecidableEq Hf:=fun x y=>if h:x.a=y.a/\x.b=y.b/\x.l=y.l then .isTrue (by obtain⟨xa,xb,xl⟩:=x;obtain⟨ya,yb,yl⟩:=y;obtain⟨rfl,rfl,rfl⟩:=h;rfl)else .isFalse (fun e=>h (by rw [e];exact⟨rfl,rfl,rfl⟩))
instance decEdV:DecidableEq Au:=fun x y=>if h:x.f=y.f/\x.t=y.t/\x.l=y.l/\x.r=y.r then .isTrue (by obtain⟨xa,xb,xl,xr⟩:=x;obtain⟨ya,yb,yl,yr⟩:=y;obtain⟨rfl,rfl,rfl,rfl⟩:=h;rfl)else .isFalse (fun e=>h (by rw [e];exact⟨rfl,rfl,rfl,rfl⟩))
def p47:Pl:=⟨1,0,[0,0,0,0,1,0]++List.replicate 21 0⟩
def Af:MapZ:=⟨[⟨0,0⟩,⟨0,1⟩,⟨1,0⟩,⟨1,1⟩,⟨2,0⟩,⟨2,1⟩],[⟨0,1,-1,0⟩,⟨0,2,0,-1⟩,⟨1,3,-1,0⟩,⟨2,3,0,1⟩,⟨2,4,1,-1⟩,⟨3,5,-1,1⟩,⟨4,5,1,-1⟩],2⟩
def JC:List Hf:=[⟨⟨0,0⟩,⟨1,0⟩,0⟩,⟨⟨1,0⟩,⟨0,0⟩,-1⟩,⟨⟨1,0⟩,⟨1,1⟩,0⟩,⟨⟨1,1⟩,⟨0,1⟩,0⟩,⟨⟨0,1⟩,⟨1,1⟩,-1⟩,⟨⟨0,1⟩,⟨0,0⟩,0⟩,⟨⟨0,0⟩,⟨0,1⟩,-1⟩,⟨⟨1,0⟩,⟨2,0⟩,1⟩,⟨⟨2,0⟩,⟨1,0⟩,-1⟩,⟨⟨2,0⟩,⟨2,1⟩,1⟩,⟨⟨2,1⟩,⟨2,0⟩,-1⟩,⟨⟨2,1⟩,⟨1,1⟩,1⟩,⟨⟨1,1⟩,⟨2,1⟩,-1⟩,⟨⟨1,1⟩,⟨1,0⟩,1⟩]
def t47:List Hf:=[⟨⟨0,0⟩,⟨0,1⟩,-1⟩,⟨⟨0,0⟩,⟨1,0⟩,0⟩,⟨⟨0,1⟩,⟨0,0⟩,0⟩,⟨⟨0,1⟩,⟨1,1⟩,-1⟩,⟨⟨1,0⟩,⟨0,0⟩,-1⟩,⟨⟨1,0⟩,⟨1,1⟩,0⟩,⟨⟨1,0⟩,⟨2,0⟩,1⟩,⟨⟨1,1⟩,⟨0,1⟩,0⟩,⟨⟨1,1⟩,⟨1,0⟩,1⟩,⟨⟨1,1⟩,⟨2,1⟩,-1⟩,⟨⟨2,0⟩,⟨1,0⟩,-1⟩,⟨⟨2,0⟩,⟨2,1⟩,1⟩,⟨⟨2,1⟩,⟨1,1⟩,1⟩,⟨⟨2,1⟩,⟨2,0⟩,-1⟩]
def Sb:List (List Pt×Bs):=[([⟨0,0⟩,⟨1,0⟩,⟨1,1⟩,⟨0,1⟩],[97]),([⟨1,0⟩,⟨2,0⟩,⟨2,1⟩,⟨1,1⟩],[98])]
def Nt:List Hf:=[⟨⟨0,0⟩,⟨1,0⟩,0⟩,⟨⟨1,0⟩,⟨1,1⟩,0⟩,⟨⟨1,1⟩,⟨0,1⟩,0⟩,⟨⟨0,1⟩,⟨0,0⟩,0⟩,⟨⟨1,0⟩,⟨2,0⟩,1⟩,⟨⟨2,0⟩,⟨2,1⟩,1⟩,⟨⟨2,1⟩,⟨1,1⟩,1⟩,⟨⟨1,1⟩,⟨1,0⟩,1⟩]
theorem ml:LN p47=Sb:=by decide +kernel
theorem nh:OJ Sb=Nt:=by decide +kernel
theorem AaR:Nt.flatMap (Lb Nt [0,1])=JC:=by decide +kernel
theorem Ae2:∀x∈Nt,¬(0<=BO Nt x/\(Sb.getD (BO Nt x).toNat ([],[])).2=(Sb.getD x.l.toNat ([],[])).2):=by decide +kernel
theorem AdF:∀x∈JC,∀y∈JC,Ij y x=false→Ij x y=false→x=y:=by decide +kernel
theorem AgY:t47.Pairwise (fun x y=>Ij y x=false):=by decide +kernel
theorem wX:t47.Perm JC:=by decide +kernel
theorem Af4:Iu t47=Af.pts:=by decide +kernel
theorem zi:t47.foldl (J4 [[97],[98]] (Iu t47) t47) (zn (List.replicate 2 0),[],[])=([1,2],[[97],[98]],Af.eds):=by decide +kernel
theorem Ae5:∀x∈JC,∀y∈JC,¬(Gh JC x.b=2/\y.a=x.b/\y.b≠x.a/\y.l=x.l/\Ar x.a x.b y.b=0):=by decide +kernel
theorem Ad0{l:List Hf}(h:KA JC l):l=JC:=by
 induction h with
 | refl=>rfl
 | step hx hy _ hn ih=>subst ih;exact absurd ⟨hn.two,hn.src,hn.nb,hn.left,hn.line⟩ (Ae5 _ hx _ hy)
theorem AaK{m:MapZ}{faces:List Bs}(h:RB (LN p47) m faces)(Cb:m.nf=faces.length):m=Af/\faces = [[97],[98]]:=by
 obtain⟨fs,hg,hx⟩:=h;rw [ml]at hg hx;rw [nh]at hg hx
 have Ye:fs = [0,1]:=by
  have hl:fs.length=2:=hg.len;have hc:=hg.con (fun z=>z) (fun x hx hs=>absurd hs (by unfold Mf;exact Ae2 x hx))
  match fs,hl with
  | [a,b],_=>have h0:=hc 0 (by simp);have h1:=hc 1 (by simp);simp at h0 h1;rw [←h0,←h1]
 subst Ye;rw [AaR]at hx;obtain⟨l0,l3,nums,hj,hp,hs,MM,AbR⟩:=hx;have e0:=Ad0 hj;subst e0
 have e3:l3=t47:=by refine List.Perm.eq_of_pairwise (le:=GW) (fun a b ha hb h1 h2=>?_) hs AgY (hp.trans wX.symm);exact AdF a (hp.mem_iff.1 ha) b (wX.mem_iff.1 hb) h1 h2
 subst e3;have he:(nums,faces,m.eds)=([1,2],[[97],[98]],Af.eds):=AbR.trans zi;simp only [Prod.mk.injEq]at he;obtain⟨-,rfl,Fi⟩:=he;refine⟨?_,rfl⟩;obtain⟨mp,me,mn⟩:=m;simp only at MM Fi Cb;rw [MM,Af4,Fi,Cb]
 rfl
theorem Aff:p47.Ok:=⟨by decide,by decide,by decide,by decide⟩
theorem vp:Mk Af=true:=by decide +kernel
theorem Sy:J1 Af=true:=by decide +kernel
instance decPt47:DecidableEq MapZ:=fun x y=>if h:x.pts=y.pts/\x.eds=y.eds/\x.nf=y.nf then .isTrue (by obtain⟨xa,xb,xl⟩:=x;obtain⟨ya,yb,yl⟩:=y;obtain⟨rfl,rfl,rfl⟩:=h;rfl)else .isFalse (fun e=>h (by rw [e];exact⟨rfl,rfl,rfl⟩))
theorem S1(x:UInt8)(h:x=97∨x=99∨x=100):P7 Af [[x],[98]]=Af/\(Dc Af [[x],[98]]).fa = [[x],[98]]:=by
 rcases h with rfl|rfl|rfl<;>decide +kernel
theorem AdV:Z0 Af ⟨1/2,1/2⟩ 0=true:=by decide +kernel
def mg(w:World)(e:Ending)(w':World):Prop:=
 ∃A B F c d g,e=.returned (AE A B F Af c d g)/\Cf Af c d g/\Ad w' A (flat (Aq Af.pts))/\Ad w' B (AA Af.eds)/\Ad w' F ([[97],[98]].map S)/\Aa w w'
theorem Aek(w:World)(hw:Ak w):Calls Tryz.prog 21 #[O6 p47] w (mg w):=by
 refine(Aej (fun m faces=>m=Af/\faces = [[97],[98]]) p47 Aff (fun m faces h _ _ hn _=>AaK h hn) w hw).mono ?_;rintro e w' ⟨n,units,A,B,F,c,d,g,m,faces,-,rfl,h3,h4,-,-,rfl,rfl⟩;exact⟨A,B,F,c,d,g,rfl,h3.cap,h3.pts,h3.eds,h3.fac,h4⟩
def Nc(s:Sg):Rat:=s.a.x*s.b.y-s.a.y*s.b.x
def DD(l:List Rat)(e:Sg×Int):List Rat:=if 0<=e.2 then l.set e.2.toNat (l.getD e.2.toNat 0+Nc e.1)else l
theorem Aai{l:List Rat}{i j:Nat}(h:i≠j)(x:Rat):(l.set i x).getD j 0=l.getD j 0:=by simp [List.getD_eq_getElem?_getD,List.getElem?_set_ne h]
theorem Aah{l:List Rat}{i:Nat}(h:i<l.length)(x:Rat):(l.set i x).getD i 0=x:=by simp [List.getD_eq_getElem?_getD,h]
theorem qs(l:List Rat)(e f:Sg×Int):DD (DD l e) f=DD (DD l f) e:=by
 unfold DD;by_cases he:0<=e.2<;>by_cases hf:0<=f.2<;>simp only [he,hf,if_true,if_false];by_cases h:e.2.toNat=f.2.toNat
 ·rw [←h];by_cases hl:e.2.toNat<l.length
  ·rw [Aah hl,Aah hl,List.set_set,List.set_set,Rat.add_assoc,Rat.add_assoc,Rat.add_comm (Nc e.1)]
  ·rw [List.set_eq_of_length_le (by simp;omega),List.set_eq_of_length_le (by omega),List.set_eq_of_length_le (by simp;omega),List.set_eq_of_length_le (by omega)]
 ·rw [Aai h,Aai (fun x=>h x.symm),List.set_comm _ _ h]
theorem Aa9{L M:List (Sg×Int)}(h:L.Perm M):∀l:List Rat,L.foldl DD l=M.foldl DD l:=by
 induction h with
 | nil=>intro l;rfl
 | cons x _ ih=>intro l;exact ih _
 | swap x y L=>intro l;simp only [List.foldl_cons];rw [qs]
 | trans _ _ i1 i2=>intro l;rw [i1,i2]
theorem qw{L:List (Sg×Int)}(h:L.Perm (AN Af.pts Af.eds)):L.foldl DD [0,0] = [2,2]:=by
 rw [Aa9 h]
 decide +kernel
def Mg(N:Nat)(l:List Rat):Prop:=∀x∈l,∃z:Int,x=(z:Rat)/\z.natAbs<=N
theorem AgG{N t:Nat}{l:List Rat}(h:Mg N l){e:Sg×Int}(he:0<=e.2→∃z:Int,Nc e.1=(z:Rat)/\z.natAbs<=t):Mg (N+t) (DD l e):=by
 have sJ:∀x,(∃z:Int,x=(z:Rat)/\z.natAbs<=N)→∃z:Int,x=(z:Rat)/\z.natAbs<=N+t:=fun x ⟨y,h1,h2⟩=>⟨y,h1,by omega⟩;unfold DD
 split
 next h0=>
  obtain⟨z,hz,hzt⟩:=he h0;intro x hx
  rcases List.mem_or_eq_of_mem_set hx with hx|rfl
  ·exact sJ x (h x hx)
  ·have hg:∃y:Int,l.getD e.2.toNat 0=(y:Rat)/\y.natAbs<=N:=by
    rw [List.getD_eq_getElem?_getD]
    rcases hq:l[e.2.toNat]? with _|q
    ·exact⟨0,by simp,by simp⟩
    ·exact h q (List.mem_of_getElem? hq)
   obtain⟨y,h1,h2⟩:=hg;exact⟨y+z,by rw [h1,hz,Rat.intCast_add],by omega⟩
 next=>intro x hx;exact sJ x (h x hx)
def tB(e:Sg×Int):Nat:=if 0<=e.2 then (Nc e.1).num.natAbs else 0
theorem zE:∀(L:List (Sg×Int)) (N:Nat) (l:List Rat),Mg N l→(∀e∈L,(Nc e.1).den=1)→Mg (N+(L.map (fun e=>tB e)).sum) (L.foldl DD l)
 | [],N,l,h,_=>by simpa using h
 | e::L,N,l,h,hd=>by
  have h1:=zE L (N+tB e) (DD l e) (AgG h (fun h0=>⟨(Nc e.1).num,Rat.ext (by simp) (by simpa using hd e (by simp)),by unfold tB;rw [if_pos h0];exact AjN _⟩)) (fun x hx=>hd x (by simp [hx]))
  simpa [Nat.add_assoc]using h1
theorem xz:∀e∈AN Af.pts Af.eds,(Nc e.1).den=1:=by decide +kernel
theorem Ahf:((AN Af.pts Af.eds).map (fun e=>tB e)).sum<=6:=by decide +kernel
theorem Ahg(l:List Nat)(k:Nat):(l.take k).sum<=l.sum:=by
 have:=List.take_append_drop k l
 calc (l.take k).sum<=(l.take k).sum+(l.drop k).sum:=Nat.le_add_right _ _
  _=l.sum:=by rw [←List.sum_append,this]
theorem Afh{L:List (Sg×Int)}(h:L.Perm (AN Af.pts Af.eds))(k:Nat):Mg 6 ((L.take k).foldl DD [0,0]):=by
 have h1:=zE (L.take k) 0 [0,0] (by intro x hx;exact⟨0,by simp at hx;simpa using hx,by simp⟩) (fun e he=>xz e (h.mem_iff.1 (List.mem_of_mem_take he)))
 have h2:((L.take k).map (fun e=>tB e)).sum<=6:=by rw [List.map_take];refine AjX (Ahg _ k) ?_;rw [(h.map (fun e=>tB e)).sum_nat];exact Ahf
 intro x hx;obtain⟨z,a,b⟩:=h1 x hx;exact⟨z,a,by omega⟩
end Go.Proofs.YtnfedbopbcegjaaGreatDoor
