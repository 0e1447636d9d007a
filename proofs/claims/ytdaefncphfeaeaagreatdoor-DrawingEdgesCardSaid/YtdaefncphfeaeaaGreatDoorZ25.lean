/- Z25: L4A D2A H5 H6 H7. -/
import Derived.LaidMore
import Derived.Stop.LaidErr
import Derived.Deep.DeepHandedRow
import Derived.Test.YtdaefncphfeaeaaGreatDoorZ24
set_option maxRecDepth 100000
set_option maxHeartbeats 16000000
namespace Go.Proofs.YtdaefncphfeaeaaGreatDoor
open Go.RowKit Kl Go.ChangeShapes Go.WideShapes
theorem own:ownKnob Tryz.prog.godebug=none:=by kernel_rfl
theorem laidOut:laidOutB Tryz.prog=true:=by kernel_rfl
def UQ:List (String×DataW Unit):=("math/bits.deBruijn32tab",Rows.laid_math_bits_deBruijn32tab)::("math/bits.deBruijn64tab",Rows.laid_math_bits_deBruijn64tab)::("internal/strconv.uint64pow10",Rows.laid_internal_strconv_uint64pow10)::("strconv.ErrRange",Rows.laid_strconv_ErrRange)::("strconv.ErrSyntax",Rows.laid_strconv_ErrSyntax) :: []
theorem AgR:Tryz.prog.globalNamed "internal/strconv.uint64pow10" = some 3:=by kernel_rfl
theorem AgT:Tryz.prog.globalNamed "strconv.ErrRange" = some 1:=by kernel_rfl
theorem AgU:Tryz.prog.globalNamed "strconv.ErrSyntax" = some 0:=by kernel_rfl
theorem star : "*" ++ "errors.errorString" = "*errors.errorString":=by decide
theorem AaI(u:TypeId)(h:Tryz.prog.typeName? 3 u=some "*errors.errorString"):u=313:=
 typeName_ptr_named (nm:= "errors.errorString") (by rw [star];kernel_rfl) (by kernel_rfl) (by decide) u (by rw [star];exact h)
theorem AlA{W:World}(hs:W.ShapedOpen Tryz.prog)(hL:laidMetH Tryz.prog UQ W):Ai W:=by
 rw [MakeChecks.laidMetH_plain _ _ _ (by kernel_rfl)]at hL;have h3:=hL.tail.tail;obtain⟨a0,t0,hv0,_⟩:=laid_sentinel (g:=1) h3.tail AgT (by kernel_rfl) Tryz.underlying116 AaI Tryz.underlying313 Tryz.underlying315 rfl rfl Tryz.underlying9 (by kernel_rfl) (by kernel_rfl);obtain⟨a1,t1,Ih,_⟩:=laid_sentinel (g:=0) h3.tail.tail AgU (by kernel_rfl) Tryz.underlying116 AaI Tryz.underlying313 Tryz.underlying315 rfl rfl Tryz.underlying9 (by kernel_rfl) (by kernel_rfl);exact⟨hs,Lib.tabIs_of_head (t:=319) (e:=230) (n:=20) AgR (by kernel_rfl) Tryz.underlying319 Tryz.underlying230 (by kernel_rfl) (by kernel_rfl) h3,⟨_,_,Ih⟩,⟨_,_,hv0⟩⟩
/-! ### The arguments -/
theorem O9{w:World}{base:Nat}{t:TypeId}{k:IntKind}{v:Value}(ht:Tryz.prog.underlying t=some (.int k))(h:Cell.okWide Tryz.prog w .any base t v):∃n,v=.int k n/\k.has n:=by
 simp only [Cell.okWide,ht]at h
 cases v<;>simp_all [Cell.ok]
theorem Af4:Tryz.prog.cellTypes Tryz.prog.depth 26=some [22,22,5,5,5,5]:=by kernel_rfl
theorem Af2:Tryz.prog.cellsOf 26=6:=by kernel_rfl
theorem AlF{w:World}{base:Nat}{v:Value}(h:Value.okWide Tryz.prog w .any base 26 v):∃f:Fr,f.Ok/\v=Ng f:=by
 simp only [Value.okWide,Tryz.underlying26]at h;obtain⟨cs,rfl,hsz,ts,UA,_,hall⟩:=h;rw [Af4]at UA;obtain rfl:=Option.some.inj UA;rw [Af2]at hsz;obtain⟨l⟩:=cs
 match l,hsz with
 | [c0,c1,c2,c3,c4,c5],_=>obtain⟨u0,e0,k0⟩:=hall 0 c0 rfl;obtain⟨u1,e1,k1⟩:=hall 1 c1 rfl;obtain⟨u2,e2,k2⟩:=hall 2 c2 rfl;obtain⟨u3,e3,k3⟩:=hall 3 c3 rfl;obtain⟨u4,e4,k4⟩:=hall 4 c4 rfl;obtain⟨u5,e5,k5⟩:=hall 5 c5 rfl;obtain rfl:22=u0:=Option.some.inj e0;obtain rfl:22=u1:=Option.some.inj e1;obtain rfl:5=u2:=Option.some.inj e2;obtain rfl:5=u3:=Option.some.inj e3;obtain rfl:5=u4:=Option.some.inj e4;obtain rfl:5=u5:=Option.some.inj e5;obtain⟨n0,rfl,w0⟩:=O9 Tryz.underlying22 k0;obtain⟨n1,rfl,w1⟩:=O9 Tryz.underlying22 k1;obtain⟨n2,rfl,w2⟩:=O9 Tryz.underlying5 k2;obtain⟨n3,rfl,w3⟩:=O9 Tryz.underlying5 k3;obtain⟨n4,rfl,w4⟩:=O9 Tryz.underlying5 k4;obtain⟨n5,rfl,w5⟩:=O9 Tryz.underlying5 k5;have hb:∀n:Int,IntKind.has .i8 n→-128<=n/\n<=127:=fun n h=>h;have hu:∀n:Int,IntKind.has .u8 n→0<=n/\n<=255:=fun n h=>h;exact⟨⟨n0,n1,n2,n3,n4,n5⟩,⟨(hb _ w0).1,(hb _ w0).2,(hb _ w1).1,(hb _ w1).2,(hu _ w2).1,(hu _ w2).2,(hu _ w3).1,(hu _ w3).2,(hu _ w4).1,(hu _ w4).2,(hu _ w5).1,(hu _ w5).2⟩,rfl⟩
/-! ### What the row asks at its end -/
section
variable {H : Type} {enc : TypeId × Value → H} {P : Program}
theorem Amm{f:Func}{s:ChangeSpec}{apart fresh AhI again:Bool}{W W':World}{args:Array Value}{v:Value}{ds gs:List (DataW H)}{before pa pv:List MemPlace}
  (hW:DataW.Whole enc P f.params.toList s.vars apart W args.toList ds gs before)
  (hres:∀(b:Nat) (sp:Nat→Bool) (hd:Bool),DataW.TrodAll enc P W' b sp hd f.resultTypes.toList (v.resultList f.resultTypes.size) (s.fn H (ds++gs)).results [])
  (zL:∀sp:Nat→Bool,(∀p∈before,sp p.block=true)→DataW.TrodAll enc P W' 0 sp true f.params.toList args.toList (s.fn H (ds++gs)).args pa)
  (qy:∀sp:Nat→Bool,(∀p∈before,sp p.block=true)→DataW.TrodVars enc P W' sp s.vars (s.fn H (ds++gs)).vars pv)
  (Y9:before=pa++pv) (hb:Below W.heap.size W W')
  (Au:∀(j:Nat) (t:TypeId) (r:Value),f.resultTypes[j]?=some t→(v.resultList f.resultTypes.size)[j]?=some r→Value.okWide P W' .any 0 t r) :
  s.post enc P f apart fresh AhI again W args v W':=by
 have hlt:∀p∈before,p.block<W.heap.size:=fun p hp=>hW.lt p hp;have hold:∀p∈before,(fun b=>decide (b<W.heap.size)) p.block=true:=fun p hp=>(by simpa using hlt p hp);refine⟨ds,gs,before,[],pa,pv,hW,hres _ _ _,zL _ hold,qy _ hold,World.keptBut_mono (fun p hp=>⟨hp,?_⟩) (hb.frame (·∈before)),fun _=>?_⟩
 ·rw [Y9,List.mem_append]at hp;exact Or.inr hp
 ·obtain⟨_,_,_,_,_,hz,hn⟩:=hW;refine⟨Au,_,_,([]++pa)++pv,⟨[]++pa,pv,trodAll_append (zL _ (fun _ _=>rfl)) (hres _ _ _),qy _ (fun _ _=>rfl),rfl,?_,?_⟩,?_⟩
  ·intro b off hp;have hin:MemPlace.cell b off∈before:=(by rw [Y9];simpa using hp);rw [hb.frozen (hlt _ hin)];exact hz b off hin
  ·intro ha;have:=hn ha;rw [Y9]at this
   simpa using this
  ·intro p hp _;rw [Y9]
   simpa using hp
end
end Go.Proofs.YtdaefncphfeaeaaGreatDoor
namespace Go.Proofs.YtdaefncphfeaeaaGreatDoor
open Go.RowKit Kl
def Wk(q:Rat):Prop:=∃a:Int,a.natAbs<=1000000/\q=(a:Rat)/2
structure Gg(p:Pt):Prop where
 x:Wk p.x
 y:Wk p.y
structure MO(s:Sg):Prop where
 a:Gg s.a
 b:Gg s.b
def JG(n:Nat)(q:Rat):Prop:=∃a:Int,a.natAbs<=n/\q=(a:Rat)/4
theorem JG.sz{n K:Nat}{q:Rat}(h:JG n q)(hn:n<10^K)(hK:0<K):Sz K q:=by
 obtain⟨a,ha,rfl⟩:=h;have:(a:Rat)/4=mkRat a 4:=(by rw [Rat.mkRat_eq_div];rfl);rw [this];have h10:10^1<=10^K:=Nat.pow_le_pow_right (by omega) (by omega);exact Sz.mkRat (by omega) (by omega) (by omega)
theorem Wk.sz{K:Nat}{q:Rat}(h:Wk q)(hK:7<=K):Sz K q:=by
 obtain⟨a,ha,rfl⟩:=h;have:(a:Rat)/2=mkRat a 2:=(by rw [Rat.mkRat_eq_div];rfl);rw [this];have h10:10^7<=10^K:=Nat.pow_le_pow_right (by omega) (by omega);exact Sz.mkRat (by omega) (by omega) (by omega)
theorem Gg.sz{K:Nat}{p:Pt}(h:Gg p)(hK:7<=K):Aq K p:=⟨h.x.sz hK,h.y.sz hK⟩
theorem MO.sz{K:Nat}{s:Sg}(h:MO s)(hK:7<=K):DK K s:=⟨h.a.sz hK,h.b.sz hK⟩
theorem xw{x y:Int}{m n:Nat}(h1:x.natAbs<=m)(h2:y.natAbs<=n):(x*y).natAbs<=m*n:=by
 rw [Int.natAbs_mul];exact Nat.mul_le_mul h1 h2
theorem sV{p a b:Pt}(hp:Gg p)(ha:Gg a)(hb:Gg b):JG 8000000000000 (Aw p a b):=by
 obtain⟨⟨p1,Er,e1⟩,⟨p2,Ju,e2⟩⟩:=hp;obtain⟨⟨a1,ha1,e3⟩,⟨a2,ha2,e4⟩⟩:=ha;obtain⟨⟨b1,hb1,e5⟩,⟨b2,hb2,e6⟩⟩:=hb;refine⟨(a1-p1)*(b2-p2)-(a2-p2)*(b1-p1),?_,?_⟩
 ·have h1:=xw (x:=a1-p1) (y:=b2-p2) (m:=2000000) (n:=2000000) (by omega) (by omega);have h2:=xw (x:=a2-p2) (y:=b1-p1) (m:=2000000) (n:=2000000) (by omega) (by omega);generalize (a1-p1)*(b2-p2)=X at *;generalize (a2-p2)*(b1-p1)=Y at *;omega
 ·unfold Aw;rw [e1,e2,e3,e4,e5,e6];simp only [Rat.intCast_sub,Rat.intCast_mul]
  grind
theorem JG.add{m n:Nat}{p q:Rat}(hp:JG m p)(hq:JG n q):JG (m+n) (p+q):=by
 obtain⟨a,ha,rfl⟩:=hp;obtain⟨b,hb,rfl⟩:=hq;refine⟨a+b,by omega,?_⟩;rw [Rat.intCast_add];grind
theorem JG.mono{m n:Nat}{p:Rat}(hp:JG m p)(h:m<=n):JG n p:=by
 obtain⟨a,ha,rfl⟩:=hp;exact⟨a,by omega,rfl⟩
theorem tN{w:World}{b b':Nat}{x:Obj}(v0 v1:Value)(hn:b≠b')(h:w.heap[b']?=some x):((w.setCell ⟨b,0,none⟩ v0).setCell ⟨b,1,none⟩ v1).heap[b']?=some x:=by
 simp only [World.setCell,Array.getElem?_modify,h];simp [hn]
theorem Tryz.sizePt:(Tryz.prog.info? 35).map (·.size)=some 2:=by kernel_rfl
def CO(f:Pt→Pt→Pt):List Pt→Pt
 | []=>⟨0,0⟩
 | x::l=>l.foldl f x
theorem wO(f:Pt→Pt→Pt):∀{l:List Pt},l≠[]→∀x,CO f (l ++ [x])=f (CO f l) x
 | [],h,_=>absurd rfl h
 | _::_,_,_=>by simp [CO,List.foldl_append]
theorem Xm(f:Pt→Pt→Pt)(hf:∀x y,f x y=x∨f x y=y):∀(l:List Pt) (x:Pt),l.foldl f x=x∨l.foldl f x∈l
 | [],x=>Or.inl rfl
 | y::l,x=>by
  rw [List.foldl_cons]
  rcases Xm f hf l (f x y)with h|h
  ·rcases hf x y with e|e
   ·exact Or.inl (h.trans e)
   ·rw [h,e];exact Or.inr (List.mem_cons_self ..)
  ·exact Or.inr (List.mem_cons_of_mem _ h)
def Fy(m x:Pt):Pt:=if Bp x m<0 then x else m
theorem xl(x y:Pt):Fy x y=x∨Fy x y=y:=by unfold Fy;split<;>simp
theorem AkV(l:List Pt)(h0:0<l.length){k:Nat}(hk:0<k)(hk2:k<=400)(hz:∀q∈l,Aq k q)(A:Option Addr)(c:Nat)(w:World)(hw:Ai w)(hr:Am w A (flat (AI l)))(hc:l.length<=c)(hcm:c<=9223372036854775807) :
  Calls Tryz.prog 152 #[.slice A l.length c,.func (.func 92) #[] #[]] w (Bg (Ak (CO Fy l)) w):=by
 obtain⟨b,o,rfl,hg1,hg2⟩:=BO hr h0;rw [Nat.zero_mul,Nat.add_zero]at hg1 hg2;have hlen:(1:Int)<=(l.length:Int):=(by omega);have HZ:=Asb hz;obtain⟨rv,CH⟩:=AcG (CO Fy l);rw [←CH];have Hu:=Asb CH;obtain⟨p0,Be⟩:=AcG (l[0]);rw [←Be]at hg1 hg2
 have Dk:p0=CO Fy (l.take 1):=by
  rw [Be]
  match l,h0 with
  | x::l,_=>rfl
 have aY:=Asb Dk;have hx:=((Aa.refl w).alloc (.cells #[S [],S []] 35));have hbr:=Ase w (.cells #[S [],S []] 35)
 replace hbr:=((Aa.refl _).alloc (.cells #[S (R p0.x),S (R p0.y)] 35)).block _ (Asd hbr) |>.trans hbr
 have Cj:=Ase (w.alloc (.cells #[S [],S []] 35)) (.cells #[S (R p0.x),S (R p0.y)] 35);have g1:=hx.cellS hg1;have g2:=hx.cellS hg2;have hx2:=hx.alloc (.cells #[S (R p0.x),S (R p0.y)] 35);have hg:w.heap.size<(w.alloc (.cells #[S [],S []] 35)).heap.size:=(by rw [Asn];omega);clear hz CH Be Dk hg1 hg2;go_enter Tryz.func152,Tryz.ntmps152
 go_upto_region 3 with fail
 generalize w.alloc (.cells #[S [],S []] 35)=V at *;obtain⟨br,JV⟩:=AcG w.heap.size;rw [←JV]at hbr hg ⊢;have ME:=Asb JV;clear JV hx;go_wp2;clear g1 g2;obtain⟨bm,OY⟩:=AcG V.heap.size;generalize V.alloc (.cells #[S (R p0.x),S (R p0.y)] 35)=U at *;rw [←OY]at Cj hg ⊢;have HBM:=Asb OY;clear OY
 go_loopw [6] (fun i wr=>∃j:Nat,i=.int .i64 (j:Nat)/\1<=j/\j<=l.length/\(∃m,m=CO Fy (l.take j)/\wr.heap[bm]?=some (.cells #[S (R m.x),S (R m.y)] 35))/\wr.heap[br]?=some (.cells #[S [],S []] 35)/\Aa w wr) (fun i _=>l.length-(intOf i).toNat)
 case atStart=>exact⟨1,rfl,by omega,by omega,⟨p0,aY.out,Cj⟩,hbr,hx2⟩
 case round=>
  obtain⟨j,rfl,DD,hj,⟨m,hm,LS⟩,Fp,Ac⟩:=hrel;clear Cj hbr;have hne:l.take j≠[]:=by intro e;have:(l.take j).length=0:=(by rw [e];rfl);rw [List.length_take]at this;omega
  have Ev:Aq k m:=by
   rw [hm]
   match ht:l.take j,hne with
   | x::t,_=>
    have hm:∀y∈x::t,y∈l:=fun y hy=>List.mem_of_mem_take (by rw [ht];exact hy)
    rcases Xm Fy xl t x with h|h
    ·show Aq k (t.foldl Fy x);rw [h];exact HZ.out x (hm x (List.mem_cons_self ..))
    ·exact HZ.out _ (hm _ (List.mem_cons_of_mem _ h))
  have c3:=Ab (o:=0) LS rfl;have c4:=Ab (o:=1) LS rfl;by_cases hlt:j<l.length
  ·obtain⟨_,_,e1,hg1,hg2⟩:=BO (hr.ext Ac) hlt;simp only [Asj,Addr.mk.injEq,and_true]at e1;obtain⟨rfl,rfl⟩:=e1;have D2:=HZ.out l[j] (Asg hlt)
   have Cp:CO Fy (l.take (j+1))=Fy m l[j]:=by rw [Asi hlt,wO _ hne,hm]
   have cp:=Xf l[j] m D2 Ev hk hk2;obtain⟨x,hx⟩:=AcG (l[j]);rw [←hx]at cp hg1 hg2 Cp;obtain⟨r,hr0⟩:=AcG (Bp x m)
   have U5:CO Fy (l.take (j+1))=if (r<0)then x else m:=by rw [Cp,hr0];rfl
   rw [←hr0]at cp;have F6:=Asb U5;have hW:=hw.ext Ac;have hj0:(0:Int)<=(j:Int):=(by omega);have AG:(j:Int)<(l.length:Int):=(by omega);unfold Ak at cp;clear hx hm Ev D2 hne Cp U5 hr0
   go_upto_region 7 with fail
   go_region_held3 (fun w'=>w'.cell? ⟨b,o+j*2,none⟩=some (S (R x.x))/\w'.cell? ⟨b,o+j*2+1,none⟩=some (S (R x.y))/\w'.cell? ⟨bm,0,none⟩=some (S (R m.x))/\w'.cell? ⟨bm,1,none⟩=some (S (R m.y)))
    (go_keep)
    (first|((with_reducible refine(cp _ (hW.ext (Aa.refl wr).drew)).mono ?_);rintro e w5 ⟨rfl,Ae⟩;have X5:=(Aa.refl wr).drew.trans Ae;have d1:=X5.cellS c3;have d2:=X5.cellS c4;have d3:=X5.cellS hg1;have d4:=X5.cellS hg2))
   have LU:=(X5.block _ (Asd LS)).trans LS;have TK:=(X5.block _ (Asd Fp)).trans Fp;have C5:=Ac.trans X5;have hsz:=C5.size;have hge:w.heap.size<=bm:=(by have:=ME.out;omega);have k1:=An (o:=0) LU;have k2:=An (o:=1) LU;by_cases hlt2:r<0
   ·have HF:Hid (CO Fy (l.take (j+1))=x):=Asb (by rw [F6.out,if_pos hlt2]);clear hsz;go_wp2;go_roundw
    case rel=>exact⟨j+1,by go_num,by omega,hlt,⟨x,HF.out.symm,D6 _ _ LU⟩,tN _ _ (by omega) TK,(C5.setCell hge _).setCell hge _⟩
    case measure=>simp [intOf];omega
   ·have HF:Hid (CO Fy (l.take (j+1))=m):=Asb (by rw [F6.out,if_neg hlt2]);clear hsz;go_wp2;go_roundw
    case rel=>exact⟨j+1,by go_num,by omega,hlt,⟨m,HF.out.symm,LU⟩,TK,C5⟩
    case measure=>simp [intOf];omega
  ·have CH:m=rv:=(by rw [Hu.out,hm,Aso (by omega)]);have hle:(l.length:Int)<=(j:Int):=(by omega);subst CH;have k1:=An (o:=0) Fp;have k2:=An (o:=1) Fp;have k3:=Ab (o:=0) Fp rfl;have k4:=Ab (o:=1) Fp rfl;have hge:w.heap.size<=br:=(by have:=ME.out;omega);have AP:=D6 (S (R m.x)) (S (R m.y)) Fp;have q1:=Ab (o:=0) AP rfl;have q2:=Ab (o:=1) AP rfl;have Fj:=(Ac.setCell (p:=⟨br,0,none⟩) hge (S (R m.x))).setCell (p:=⟨br,1,none⟩) hge (S (R m.y));have Cz:=Asb AP;clear hm Ev hne AP hge;go_wp2
   (try simp only [Exit.inBlock,Exit.then])
   refine bodyPost_ret (results_cell_row rfl _ _ br 35 #[S (R m.x),S (R m.y)] (0,0) _ rfl Cz.out Tryz.underlying35 rfl Tryz.sizePt) rfl ?_;exact⟨rfl,Fj⟩
def Fx(m x:Pt):Pt:=if Bp x m>0 then x else m
theorem xi(x y:Pt):Fx x y=x∨Fx x y=y:=by unfold Fx;split<;>simp
theorem AkS(l:List Pt)(h0:0<l.length){k:Nat}(hk:0<k)(hk2:k<=400)(hz:∀q∈l,Aq k q)(A:Option Addr)(c:Nat)(w:World)(hw:Ai w)(hr:Am w A (flat (AI l)))(hc:l.length<=c)(hcm:c<=9223372036854775807) :
  Calls Tryz.prog 153 #[.slice A l.length c,.func (.func 92) #[] #[]] w (Bg (Ak (CO Fx l)) w):=by
 obtain⟨b,o,rfl,hg1,hg2⟩:=BO hr h0;rw [Nat.zero_mul,Nat.add_zero]at hg1 hg2;have hlen:(1:Int)<=(l.length:Int):=(by omega);have HZ:=Asb hz;obtain⟨rv,CH⟩:=AcG (CO Fx l);rw [←CH];have Hu:=Asb CH;obtain⟨p0,Be⟩:=AcG (l[0]);rw [←Be]at hg1 hg2
 have Dk:p0=CO Fx (l.take 1):=by
  rw [Be]
  match l,h0 with
  | x::l,_=>rfl
 have aY:=Asb Dk;have hx:=((Aa.refl w).alloc (.cells #[S [],S []] 35));have hbr:=Ase w (.cells #[S [],S []] 35)
 replace hbr:=((Aa.refl _).alloc (.cells #[S (R p0.x),S (R p0.y)] 35)).block _ (Asd hbr) |>.trans hbr
 have Cj:=Ase (w.alloc (.cells #[S [],S []] 35)) (.cells #[S (R p0.x),S (R p0.y)] 35);have g1:=hx.cellS hg1;have g2:=hx.cellS hg2;have hx2:=hx.alloc (.cells #[S (R p0.x),S (R p0.y)] 35);have hg:w.heap.size<(w.alloc (.cells #[S [],S []] 35)).heap.size:=(by rw [Asn];omega);clear hz CH Be Dk hg1 hg2;go_enter Tryz.func153,Tryz.ntmps153
 go_upto_region 3 with fail
 generalize w.alloc (.cells #[S [],S []] 35)=V at *;obtain⟨br,JV⟩:=AcG w.heap.size;rw [←JV]at hbr hg ⊢;have ME:=Asb JV;clear JV hx;go_wp2;clear g1 g2;obtain⟨bm,OY⟩:=AcG V.heap.size;generalize V.alloc (.cells #[S (R p0.x),S (R p0.y)] 35)=U at *;rw [←OY]at Cj hg ⊢;have HBM:=Asb OY;clear OY
 go_loopw [6] (fun i wr=>∃j:Nat,i=.int .i64 (j:Nat)/\1<=j/\j<=l.length/\(∃m,m=CO Fx (l.take j)/\wr.heap[bm]?=some (.cells #[S (R m.x),S (R m.y)] 35))/\wr.heap[br]?=some (.cells #[S [],S []] 35)/\Aa w wr) (fun i _=>l.length-(intOf i).toNat)
 case atStart=>exact⟨1,rfl,by omega,by omega,⟨p0,aY.out,Cj⟩,hbr,hx2⟩
 case round=>
  obtain⟨j,rfl,DD,hj,⟨m,hm,LS⟩,Fp,Ac⟩:=hrel;clear Cj hbr;have hne:l.take j≠[]:=by intro e;have:(l.take j).length=0:=(by rw [e];rfl);rw [List.length_take]at this;omega
  have Ev:Aq k m:=by
   rw [hm]
   match ht:l.take j,hne with
   | x::t,_=>
    have hm:∀y∈x::t,y∈l:=fun y hy=>List.mem_of_mem_take (by rw [ht];exact hy)
    rcases Xm Fx xi t x with h|h
    ·show Aq k (t.foldl Fx x);rw [h];exact HZ.out x (hm x (List.mem_cons_self ..))
    ·exact HZ.out _ (hm _ (List.mem_cons_of_mem _ h))
  have c3:=Ab (o:=0) LS rfl;have c4:=Ab (o:=1) LS rfl;by_cases hlt:j<l.length
  ·obtain⟨_,_,e1,hg1,hg2⟩:=BO (hr.ext Ac) hlt;simp only [Asj,Addr.mk.injEq,and_true]at e1;obtain⟨rfl,rfl⟩:=e1;have D2:=HZ.out l[j] (Asg hlt)
   have Cp:CO Fx (l.take (j+1))=Fx m l[j]:=by rw [Asi hlt,wO _ hne,hm]
   have cp:=Xf l[j] m D2 Ev hk hk2;obtain⟨x,hx⟩:=AcG (l[j]);rw [←hx]at cp hg1 hg2 Cp;obtain⟨r,hr0⟩:=AcG (Bp x m)
   have U5:CO Fx (l.take (j+1))=if (r>0)then x else m:=by rw [Cp,hr0];rfl
   rw [←hr0]at cp;have F6:=Asb U5;have hW:=hw.ext Ac;have hj0:(0:Int)<=(j:Int):=(by omega);have AG:(j:Int)<(l.length:Int):=(by omega);unfold Ak at cp;clear hx hm Ev D2 hne Cp U5 hr0
   go_upto_region 7 with fail
   go_region_held3 (fun w'=>w'.cell? ⟨b,o+j*2,none⟩=some (S (R x.x))/\w'.cell? ⟨b,o+j*2+1,none⟩=some (S (R x.y))/\w'.cell? ⟨bm,0,none⟩=some (S (R m.x))/\w'.cell? ⟨bm,1,none⟩=some (S (R m.y)))
    (go_keep)
    (first|((with_reducible refine(cp _ (hW.ext (Aa.refl wr).drew)).mono ?_);rintro e w5 ⟨rfl,Ae⟩;have X5:=(Aa.refl wr).drew.trans Ae;have d1:=X5.cellS c3;have d2:=X5.cellS c4;have d3:=X5.cellS hg1;have d4:=X5.cellS hg2))
   have LU:=(X5.block _ (Asd LS)).trans LS;have TK:=(X5.block _ (Asd Fp)).trans Fp;have C5:=Ac.trans X5;have hsz:=C5.size;have hge:w.heap.size<=bm:=(by have:=ME.out;omega);have k1:=An (o:=0) LU;have k2:=An (o:=1) LU;by_cases hlt2:r>0
   ·have HF:Hid (CO Fx (l.take (j+1))=x):=Asb (by rw [F6.out,if_pos hlt2]);clear hsz;go_wp2;go_roundw
    case rel=>exact⟨j+1,by go_num,by omega,hlt,⟨x,HF.out.symm,D6 _ _ LU⟩,tN _ _ (by omega) TK,(C5.setCell hge _).setCell hge _⟩
    case measure=>simp [intOf];omega
   ·have HF:Hid (CO Fx (l.take (j+1))=m):=Asb (by rw [F6.out,if_neg hlt2]);clear hsz;go_wp2;go_roundw
    case rel=>exact⟨j+1,by go_num,by omega,hlt,⟨m,HF.out.symm,LU⟩,TK,C5⟩
    case measure=>simp [intOf];omega
  ·have CH:m=rv:=(by rw [Hu.out,hm,Aso (by omega)]);have hle:(l.length:Int)<=(j:Int):=(by omega);subst CH;have k1:=An (o:=0) Fp;have k2:=An (o:=1) Fp;have k3:=Ab (o:=0) Fp rfl;have k4:=Ab (o:=1) Fp rfl;have hge:w.heap.size<=br:=(by have:=ME.out;omega);have AP:=D6 (S (R m.x)) (S (R m.y)) Fp;have q1:=Ab (o:=0) AP rfl;have q2:=Ab (o:=1) AP rfl;have Fj:=(Ac.setCell (p:=⟨br,0,none⟩) hge (S (R m.x))).setCell (p:=⟨br,1,none⟩) hge (S (R m.y));have Cz:=Asb AP;clear hm Ev hne AP hge;go_wp2
   (try simp only [Exit.inBlock,Exit.then])
   refine bodyPost_ret (results_cell_row rfl _ _ br 35 #[S (R m.x),S (R m.y)] (0,0) _ rfl Cz.out Tryz.underlying35 rfl Tryz.sizePt) rfl ?_;exact⟨rfl,Fj⟩
theorem Am.of_own'{w:World}{base:Nat}{e:TypeId}{size:Nat}(_:0<size){v:Value}{n:Nat}{xs:List Value}(h:w.ownsRow base e size v n xs) :
  ∃A c,v=.slice A n c/\Am w A xs/\n<=c/\c<=9223372036854775807:=by
 obtain⟨hl,h⟩:=h
 rcases h with⟨rfl,rfl⟩|⟨g,cap,cur,rfl,hb,hg,hn,hm,hs,ht⟩
 ·exact⟨none,0,rfl,⟨fun h1=>by omega⟩,by omega,by omega⟩
 ·refine⟨some ⟨g,0,none⟩,cap,rfl,⟨fun _=>⟨g,0,rfl,fun j hj=>?_⟩⟩,hn,by unfold maxLen at hm;omega⟩;have hh:w.ownsRow base e size (.slice (some ⟨g,0,none⟩) n cap) n xs:=⟨hl,.inr ⟨g,cap,cur,rfl,hb,hg,hn,hm,hs,ht⟩⟩;rw [Nat.zero_add,hh.cellAt j (by omega),Asl hj]
theorem VL{o:Oper}{a:Act}{K:Act→World→Prop}{Q:Exit→Act→World→Prop}(s x:Operand)(t:TypeId)(ho:o.op=.call {callee:=.builtin .append,args:=#[s,x],argTypes:=#[t,t]})
  (e:TypeId) (i:TypeInfo) (z:Value) (size bytes:Nat) (ht:Tryz.prog.underlying t=some (.slice e)) (hi:Tryz.prog.info? e=some i) (hz:i.zero=some z)
  (hsize:i.size=size) (hby:i.bytes=bytes) (hzs:z.cells.size=size) (hsz:0<size) (gK:bytes<=64)
  (wN:World) (base:Nat) (v:Value) (n:Nat) (xs:List Value) (hs:a.eval s=v) (hown:wN.ownsRow base e size v n xs) (hn:n<200000)
  (g:Nat) (cs:Array Value) (hb:wN.heap[g]?=some (.cells cs e)) (hcs:cs.size=size) (h1:∀u∈cs.toList,u.oneCell'=true)
  (hx:a.eval x=.slice (some ⟨g,0,none⟩) 1 1) (hbase:base<=wN.heap.size)
  (h:∀v' w',w'.ownsRow base e size v' (n+1) (xs++cs.toList)→(∀w0,Aa w0 wN→w0.heap.size<=base→Aa w0 w')→wN.grownBy w' v.ownBlock→K (a.put o.dst v') w') :
  o.wp Tryz.prog a wN K Q:=by
 have iH:(n+1)*bytes<=140737488355328:=Asq (Nat.mul_le_mul (show n+1<=200000 by omega) gK) (by omega);have De:n+1<=maxLen:=(by unfold maxLen;omega);refine wp_append_own _ s x t ho base e i z size bytes ht hi hz hsize hby hzs hsz v n xs hs hown ⟨g,0,none⟩ 1 1 cs.toList hx ?_ ?_ h1 De iH hbase ?_
 ·simp [hcs]
 ·intro j u hu;rw [Addr.add_lit,Nat.zero_add];refine Ab hb ?_;rw [←Array.getElem?_toList];exact hu
 ·intro v' w' h2 h3 _;refine h v' w' h2 (fun w0 he BA=>?_) h3
  exact he.grown h3 fun k hk=>by
   rcases hown.2 with⟨rfl,_⟩|⟨g,cap,cur,rfl,hb',_⟩
   ·cases hk
   ·simp only [Value.ownBlock,Asj]at hk;omega
def Cb(l:List Sg):List Value:=l.flatMap fun s=>[S (R s.a.x),S (R s.a.y),S (R s.b.x),S (R s.b.y)]
theorem oQ(l:List Sg)(d:Sg):Cb (l ++ [d])=Cb l ++ [S (R d.a.x),S (R d.a.y),S (R d.b.x),S (R d.b.y)]:=by unfold Cb;simp
theorem Aaq(l:List Pt)(d:Pt):flat (AI (l ++ [d]))=flat (AI l) ++ [S (R d.x),S (R d.y)]:=by unfold AI flat;simp [FW]
theorem AmE(l:List Rat)(d:Rat):GP (l ++ [d])=GP l ++ [S (R d)]:=by unfold GP;simp
theorem Tryz.infoPt:(Tryz.prog.info? 35).map (fun i=>(i.zero,i.size,i.bytes))=some (some (.agg #[S [],S []]),2,32):=by kernel_rfl
theorem Tryz.infoSeg:(Tryz.prog.info? 74).map (fun i=>(i.zero,i.size,i.bytes))=some (some (.agg #[S [],S [],S [],S []]),4,64):=by kernel_rfl
theorem Tryz.infoRt:(Tryz.prog.info? 33).map (fun i=>(i.zero,i.size,i.bytes))=some (some (S []),1,16):=by kernel_rfl
section
variable {ops : Array Oper} {rest : List Oper} {o : Oper} {a : Act} {K : Act → World → Prop} {Q : Exit → Act → World → Prop} {E : Prop}
theorem pL(s x:Operand)(ho:o.op=.call {callee:=.builtin .append,args:=#[s,x],argTypes:=#[39,39]})
  (wN:World) (base:Nat) (v:Value) (n:Nat) (l:List Pt) (hs:a.eval s=v) (hown:wN.ownsRow base 35 2 v n (flat (AI l))) (hn:n<200000) (d:Pt)
  (g:Nat) (hb:wN.heap[g]?=some (.cells #[S (R d.x),S (R d.y)] 35)) (hx:a.eval x=.slice (some ⟨g,0,none⟩) 1 1) (hbase:base<=wN.heap.size)
  (h:∀v' w',w'.ownsRow base 35 2 v' (n+1) (flat (AI (l ++ [d])))→(∀w0,Aa w0 wN→w0.heap.size<=base→Aa w0 w')→wN.grownBy w' v.ownBlock→K (a.put o.dst v') w') :
  o.wp Tryz.prog a wN K Q:=by
 obtain⟨i0,hi,hz0,hz1,hz2⟩:=info_parts Tryz.infoPt;refine VL s x 39 ho 35 i0 _ 2 32 Tryz.underlying39 hi hz0 hz1 hz2 rfl (by omega) (by omega) wN base v n _ hs hown hn g _ hb rfl ?_ hx hbase ?_
 ·intro u hu;simp only [List.mem_cons,Asr,or_false]at hu
  rcases hu with rfl|rfl<;>rfl
 ·intro v' w' h1 h2 h3;exact h v' w' (by rw [Aaq];exact h1) h2 h3
theorem Aeo(hgd:o.guard=none)(s x:Operand)(ho:o.op=.call {callee:=.builtin .append,args:=#[s,x],argTypes:=#[39,39]})
  (wN:World) (base:Nat) (v:Value) (n:Nat) (l:List Pt) (hs:a.eval s=v) (hown:wN.ownsRow base 35 2 v n (flat (AI l))) (hn:n<200000) (d:Pt)
  (g:Nat) (hb:wN.heap[g]?=some (.cells #[S (R d.x),S (R d.y)] 35)) (hx:a.eval x=.slice (some ⟨g,0,none⟩) 1 1) (hbase:base<=wN.heap.size)
  (h:∀v' w',w'.ownsRow base 35 2 v' (n+1) (flat (AI (l ++ [d])))→(∀w0,Aa w0 wN→w0.heap.size<=base→Aa w0 w')→wpList Tryz.prog ops Q rest (a.put o.dst v') w') :
  wpList Tryz.prog ops Q (o::rest) a wN:=
 wpList_plain hgd fun _ hK=>pL s x ho wN base v n l hs hown hn d g hb hx hbase fun v' w' h1 h2 _=>hK _ _ (h v' w' h1 h2)
theorem Aow(hgd:o.guard=none)(s x:Operand)(ho:o.op=.call {callee:=.builtin .append,args:=#[s,x],argTypes:=#[39,39]})
  (wN:World) (base:Nat) (v:Value) (n:Nat) (l:List Pt) (hs:a.eval s=v) (hown:wN.ownsRow base 35 2 v n (flat (AI l))) (hn:n<200000) (d:Pt)
  (g:Nat) (hb:wN.heap[g]?=some (.cells #[S (R d.x),S (R d.y)] 35)) (hx:a.eval x=.slice (some ⟨g,0,none⟩) 1 1) (hbase:base<=wN.heap.size)
  (h:∀v' w',w'.ownsRow base 35 2 v' (n+1) (flat (AI (l ++ [d])))→(∀w0,Aa w0 wN→w0.heap.size<=base→Aa w0 w')→wN.grownBy w' v.ownBlock→K (a.put o.dst v') w') :
  if Region.wanted o (yielded ops a.tmps)=true then Oper.wp Tryz.prog o a wN K Q else E:=by
 have hw:Region.wanted o (yielded ops a.tmps)=true:=(by simp [Region.wanted,hgd]);rw [if_pos hw];exact pL s x ho wN base v n l hs hown hn d g hb hx hbase h
theorem sP(hgd:o.guard=none)(s x:Operand)(ho:o.op=.call {callee:=.builtin .append,args:=#[s,x],argTypes:=#[125,125]})
  (wN:World) (base:Nat) (v:Value) (n:Nat) (l:List Rat) (hs:a.eval s=v) (hown:wN.ownsRow base 33 1 v n (GP l)) (hn:n<200000) (d:Rat)
  (g:Nat) (hb:wN.heap[g]?=some (.cells #[S (R d)] 33)) (hx:a.eval x=.slice (some ⟨g,0,none⟩) 1 1) (hbase:base<=wN.heap.size)
  (h:∀v' w',w'.ownsRow base 33 1 v' (n+1) (GP (l ++ [d]))→(∀w0,Aa w0 wN→w0.heap.size<=base→Aa w0 w')→wpList Tryz.prog ops Q rest (a.put o.dst v') w') :
  wpList Tryz.prog ops Q (o::rest) a wN:=by
 obtain⟨i0,hi,hz0,hz1,hz2⟩:=info_parts Tryz.infoRt;refine wpList_plain hgd fun K hK=>VL s x 125 ho 33 i0 _ 1 16 Tryz.underlying125 hi hz0 hz1 hz2 rfl (by omega) (by omega) wN base v n _ hs hown hn g _ hb rfl ?_ hx hbase ?_
 ·intro u hu;simp only [List.mem_cons,Asr,or_false]at hu
  rcases hu with rfl<;>rfl
 ·intro v' w' h1 h2 _;exact hK _ _ (h v' w' (by rw [AmE];exact h1) h2)
theorem Aer(hgd:o.guard=none)(s x:Operand)(ho:o.op=.call {callee:=.builtin .append,args:=#[s,x],argTypes:=#[75,75]})
  (wN:World) (base:Nat) (v:Value) (n:Nat) (l:List Sg) (hs:a.eval s=v) (hown:wN.ownsRow base 74 4 v n (Cb l)) (hn:n<200000) (d:Sg)
  (g:Nat) (hb:wN.heap[g]?=some (.cells #[S (R d.a.x),S (R d.a.y),S (R d.b.x),S (R d.b.y)] 74)) (hx:a.eval x=.slice (some ⟨g,0,none⟩) 1 1) (hbase:base<=wN.heap.size)
  (h:∀v' w',w'.ownsRow base 74 4 v' (n+1) (Cb (l ++ [d]))→(∀w0,Aa w0 wN→w0.heap.size<=base→Aa w0 w')→wpList Tryz.prog ops Q rest (a.put o.dst v') w') :
  wpList Tryz.prog ops Q (o::rest) a wN:=by
 obtain⟨i0,hi,hz0,hz1,hz2⟩:=info_parts Tryz.infoSeg;refine wpList_plain hgd fun K hK=>VL s x 75 ho 74 i0 _ 4 64 Tryz.underlying75 hi hz0 hz1 hz2 rfl (by omega) (by omega) wN base v n _ hs hown hn g _ hb rfl ?_ hx hbase ?_
 ·intro u hu;simp only [List.mem_cons,Asr,or_false]at hu
  rcases hu with rfl|rfl|rfl|rfl<;>rfl
 ·intro v' w' h1 h2 _;exact hK _ _ (h v' w' (by rw [oQ];exact h1) h2)
end
def px(p:List Pt)(i:Nat):Pt:=p.getD i ⟨0,0⟩
def bx(B:List Rat)(i:Nat):Rat:=B.getD i 0
def PM(B:List Rat)(i k:Nat):Rat:=bx B i/(bx B i-bx B k)
def SX(p:List Pt)(B:List Rat)(i k:Nat):Pt:=atR ⟨px p i,px p k⟩ (PM B i k)
def Zz(p:List Pt)(B:List Rat)(i:Nat):List Pt:=
 (if AN (bx B i)=0 then [px p i] else []) ++
 (if AN (bx B i)*AN (bx B ((i+1)%p.length))<0 then [SX p B i ((i+1)%p.length)] else [])
def Cq(p:List Pt)(B:List Rat)(n:Nat):List Pt:=(List.range n).flatMap (Zz p B)
theorem yw(p:List Pt)(B:List Rat)(n:Nat):Cq p B (n+1)=Cq p B n++Zz p B n:=by
 unfold Cq;rw [List.range_succ,List.flatMap_append];simp
theorem ZB{p:List Pt}{i:Nat}(h:i<p.length):px p i=p[i]:=by unfold px;rw [List.getD_eq_getElem?_getD,Asl h];rfl
theorem WQ{p:List Rat}{i:Nat}(h:i<p.length):bx p i=p[i]:=by unfold bx;rw [List.getD_eq_getElem?_getD,Asl h];rfl
theorem ZI{w:World}{A:Option Addr}{l:List Pt}(hr:Am w A (flat (AI l))){j:Nat}(h:j<l.length):∃b o,A=some ⟨b,o,none⟩/\w.cell? ⟨b,o+j*2,none⟩=some (S (R (px l j).x))/\w.cell? ⟨b,o+j*2+1,none⟩=some (S (R (px l j).y)):=by
 rw [ZB h];exact BO hr h
theorem ZH{w:World}{A:Option Addr}{l:List Rat}(hr:Am w A (GP l)){j:Nat}(h:j<l.length):∃b o,A=some ⟨b,o,none⟩/\w.cell? ⟨b,o+j,none⟩=some (S (R (bx l j))):=by
 obtain⟨b,o,e,hcs⟩:=hr.ad (by rw [RG];omega);have:=hcs j (by rw [RG];exact h);unfold GP at this;rw [List.getElem_map]at this;rw [WQ h];exact⟨b,o,e,this⟩
theorem oU(q:Rat):AN q = -1∨AN q=0∨AN q=1:=by unfold AN;split<;>(try split)<;>simp
theorem AnS{a b:Rat}(h:AN a*AN b<0):a-b≠0:=by
 intro e;have:a=b:=(by grind);subst this
 rcases oU a with h1|h1|h1<;>rw [h1]at h<;>omega
theorem AlC(p:List Pt)(B:List Rat)(i:Nat):(Zz p B i).length<=2:=by
 unfold Zz;rw [List.length_append];split<;>split<;>simp
theorem AlB(p:List Pt)(B:List Rat)(n:Nat):(Cq p B n).length<=2*n:=by
 induction n with
 | zero=>simp [Cq]
 | succ n ih=>rw [yw,List.length_append];have:=AlC p B n;omega
theorem AeP{w:World}{b:Nat}{a0 a1 a2 a3:Value}{t:TypeId}(v0 v1 v2 v3:Value)(h:w.heap[b]?=some (.cells #[a0,a1,a2,a3] t)) :
  ((((w.setCell ⟨b,0,none⟩ v0).setCell ⟨b,1,none⟩ v1).setCell ⟨b,2,none⟩ v2).setCell ⟨b,3,none⟩ v3).heap[b]?=some (.cells #[v0,v1,v2,v3] t):=by
 simp only [World.setCell,Array.getElem?_modify,h];simp
theorem Tryz.sizeSeg:(Tryz.prog.info? 74).map (·.size)=some 4:=by kernel_rfl
theorem AhJ(p:List Pt)(B:List Rat)(hn:B.length=p.length)(h0:0<p.length)(eO:p.length<=60){k kb kd km ko:Nat}(hz:∀q∈p,Aq k q)(hzb:∀q∈B,Sz kb q)
  (hzd:∀i<p.length,Sz kd (bx B i-bx B ((i+1)%p.length))) (Ev:∀i<p.length,Sz km (PM B i ((i+1)%p.length)))
  (Uv:Cq p B p.length≠[]) (uj:∀q∈Cq p B p.length,Aq ko q)
  (hk:0<k) (hkb:0<kb) (Ul:0<kd) (NC:0<km) (Yp:0<ko) (Ai7:3*k+km<=3900) (jV:kb<=1000) (Aq5:kd<=1000) (jg:ko<=400)
  (A A':Option Addr) (c c':Nat) (w:World) (hw:Ai w) (hr:Am w A (flat (AI p))) (hr':Am w A' (GP B)) :
  Calls Tryz.prog 79 #[.slice A p.length c,.slice A' p.length c'] w (Bg (Ax ⟨CO Fy (Cq p B p.length),CO Fx (Cq p B p.length)⟩) w):=by
 obtain⟨b,o,rfl,B8,BR⟩:=ZI hr h0;obtain⟨b',o',rfl,YB⟩:=ZH hr' (show 0<B.length by omega);have Gq:b<w.heap.size:=World.block_lt_of_cell? w _ B8;clear B8 BR YB;have HZ:=Asb hz;have rL:=Asb hzb;have HZD:=Asb hzd;have HZM:=Asb Ev;have HN:=Asb hn;have bQ:=Asb Uv;have rM:=Asb uj;have fW:=(Aa.refl w).alloc (.cells #[S [],S [],S [],S []] 74);have hbr:=Ase w (.cells #[S [],S [],S [],S []] 74);have XM:(w.alloc (.cells #[S [],S [],S [],S []] 74)).heap.size=w.heap.size+1:=Asn ..;clear hz hzb hzd Ev hn Uv uj;go_enter Tryz.func79,Tryz.ntmps79;go_wp2;generalize w.alloc (.cells #[S [],S [],S [],S []] 74)=V at *;obtain⟨br,JV⟩:=AcG w.heap.size;rw [←JV]at hbr ⊢;have ME:=Asb JV;have HVS:=Asb XM;clear JV XM
 go_loopw [5,15] (fun v i wr=>∃j:Nat,i=.int .i64 (j:Nat)/\j<=p.length/\wr.ownsRow V.heap.size 35 2 v (Cq p B j).length (flat (AI (Cq p B j)))/\Aa V wr) (fun _ i _=>p.length-(intOf i).toNat)
 case atStart=>exact⟨0,rfl,by omega,⟨rfl,.inl ⟨rfl,rfl⟩⟩,Aa.refl _⟩
 case round=>
  obtain⟨j,rfl,hj,hown,Ac⟩:=hrel;by_cases hlt:j<p.length
  ·obtain⟨kk,Dd⟩:=AcG ((j+1)%p.length);have Co:kk<p.length:=(by rw [Dd];exact Nat.mod_lt _ h0);have Kb:((j:Int)+1)%(p.length:Int)=(kk:Int):=(by rw [Dd];simp);have hX:=fW.trans Ac;obtain⟨_,_,e1,hg1,hg2⟩:=ZI (hr.ext hX) hlt;obtain⟨_,_,e2,hg3,hg4⟩:=ZI (hr.ext hX) Co;obtain⟨_,_,e3,ij⟩:=ZH (hr'.ext hX) (show j<B.length by rw [HN.out];exact hlt);obtain⟨_,_,e4,ik⟩:=ZH (hr'.ext hX) (show kk<B.length by rw [HN.out];exact Co);simp only [Asj,Addr.mk.injEq,and_true]at e1 e2 e3 e4;obtain⟨rfl,rfl⟩:=e1;obtain⟨e2,e2'⟩:=e2;subst e2 e2';obtain⟨rfl,rfl⟩:=e3;obtain⟨e4,e4'⟩:=e4;subst e4 e4';have D2:=HZ.out p[j] (Asg hlt);have P5:=HZ.out p[kk] (Asg Co);have XV:=rL.out (B[j]'(by rw [HN.out];exact hlt)) (Asg _);have H9:=rL.out (B[kk]'(by rw [HN.out];exact Co)) (Asg _);have lD:=HZD.out j hlt;have hsm:=HZM.out j hlt;rw [←Dd]at lD hsm;rw [←ZB]at D2 P5;rw [←WQ]at XV H9;have DL:=Qm ⟨px p j,px p kk⟩ (PM B j kk) ⟨D2,P5⟩ hsm hk NC Ai7;have sb1:=BS (bx B j) (bx B kk) (a:=kb) (b:=kb) ⟨XV,H9,hkb,hkb,by omega⟩;have Qy:bx B j-bx B kk≠0→∀w,Ai w→_:=fun h=>PI (bx B j) (bx B j-bx B kk) h (a:=kb) (b:=kd) ⟨XV,lD,hkb,Ul,by omega⟩;have hst:Cq p B (j+1)=Cq p B j++((if AN (bx B j)=0 then [px p j] else [])++(if AN (bx B j)*AN (bx B kk)<0 then [SX p B j kk] else [])):=(by rw [yw,Dd];rfl);have hlen2:=AlB p B j;have Cf:AN (bx B j)*AN (bx B kk)<0→bx B j-bx B kk≠0:=AnS;have hcr:SX p B j kk=atR ⟨px p j,px p kk⟩ (PM B j kk):=rfl;have Bf:PM B j kk=bx B j/(bx B j-bx B kk):=rfl;have Tj:=oU (bx B j);have Xq:=oU (bx B kk);have s1:=Lo (bx B j);have s2:=Lo (bx B kk);generalize px p j=pa at *;generalize px p kk=pb at *;generalize bx B j=x at *;generalize bx B kk=y at *;generalize hs:AN x=s at *;generalize ht:AN y=t at *;have HST:=Asb hst;have hj0:(0:Int)<=(j:Int):=(by omega);have AG:(j:Int)<(p.length:Int):=(by omega);have jd:(p.length:Int)<=60:=(by omega);have hk0:(0:Int)<=(kk:Int):=(by omega);have Ai6:(kk:Int)<(p.length:Int):=(by omega);have bI:=Asb Dd;have aW:=Asb hcr;have Iw:=Asb Bf;have HS:=Asb hs;have HT:=Asb ht;have hx1:=Ac.alloc (.cells #[S (R pa.x),S (R pa.y)] 35);have As:=Ase wr (.cells #[S (R pa.x),S (R pa.y)] 35);have hxx:=(Aa.refl wr).alloc (.cells #[S (R pa.x),S (R pa.y)] 35);have hg3':=hxx.cellS hg3;have QL:=hxx.cellS hg4;have jI:=hxx.cellS ij;have jJ:=hxx.cellS ik;have NH:=Ap hown hxx;have Px:∀g,u5.ownBlock=some g→V.heap.size<=g/\g<wr.heap.size:=hown.lt;have rH:=Asb Px;have qF:=Asb Qy;clear hs ht hst Dd hcr Bf Px Qy D2 P5 XV H9 lD hsm
   go_upto_region 6 with fail
   rw [Kb];clear Kb hg1 hg2 hg3 hg4 ij ik;generalize wr.alloc (.cells #[S (R pa.x),S (R pa.y)] 35)=U at *;obtain⟨bp,Hh⟩:=AcG wr.heap.size;rw [←Hh]at As ⊢;have VO:=Asb Hh;have Tx:=hxx.size;have hU:=hw.ext (fW.trans hx1);clear Hh hxx
   go_region_held3 (fun w'=>w'.cell? ⟨b',o'+j,none⟩=some (S (R x))/\w'.cell? ⟨b',o'+kk,none⟩=some (S (R y)))
    (go_keep)
    (first|((with_reducible refine(s1 _).mono ?_);rintro e w5 ⟨rfl,Ae⟩;have X5:Aa U w5:=(Aa.refl U).drew.trans Ae;have d1:=X5.cellS jI;have d2:=X5.cellS jJ)|((with_reducible refine(s2 _).mono ?_);rintro e w6 ⟨rfl,Ao⟩;have X6:Aa U w6:=X5.trans Ao;have f1:=X6.cellS jI;have f2:=X6.cellS jJ))
   have iG:=(X6.block _ (Asd As)).trans As;have e1:=X6.cellS hg3';have e2:=X6.cellS QL;have GL:=Ap NH X6;have c1:=Ab (o:=0) iG rfl;have c2:=Ab (o:=1) iG rfl;have Fj:Aa V w6:=hx1.trans X6;have NP:=hU.ext X6;have Pj:(Cq p B j).length<200000:=(by omega);have Jl:=Fj.size;clear jI jJ hg3' QL As hU NH hx1 hown Ac hX d1 d2 X5 Ae Ao;by_cases hs0:s=0
   ·have MG:Hid (Cq p B (j+1)=Cq p B j ++ [pa]):=Asb (by rw [HST.out,if_pos hs0,hs0];simp);clear HST Cf Tj;subst hs0
    go_wp2_with (at_builtin;go_loud (refine Aeo rfl _ _ rfl _ V.heap.size u5 _ (Cq p B j) rfl (Ap GL ((Aa.refl w6).alloc _)) Pj pa w6.heap.size (Ase w6 _) rfl (by simp;omega) ?_);intro v8 w8 IC AE)
    have HX8:=Asb (AE V (Fj.alloc _) (Asf _));clear AE;go_wp2;go_roundw
    case rel=>exact⟨j+1,by go_num,hlt,by rw [MG.out,List.length_append,List.length_singleton];exact IC,HX8.out⟩
    case measure=>simp [intOf];omega
   ·have KX:(s == 0)=false:=by rw [beq_eq_false_iff_ne];exact hs0
    have Pv:-1<=s*t:=by rcases Tj with h|h|h<;>rcases Xq with h'|h'|h'<;>rw [h,h']<;>omega
    have KZ:s*t<=1:=by rcases Tj with h|h|h<;>rcases Xq with h'|h'|h'<;>rw [h,h']<;>omega
    obtain⟨m,hm⟩:=AcG (s*t);have hmw:wrap64 (s*t)=m:=(by rw [hm];unfold wrap64;omega);by_cases hm0:s*t<0
    ·have MG:Hid (Cq p B (j+1)=Cq p B j ++ [SX p B j kk]):=Asb (by rw [HST.out,if_neg hs0,if_pos hm0];simp);have Qy:=qF.out (Cf hm0);rw [←Iw.out]at Qy;have Acu:=Asb aW.out;have hq:=aW.out;generalize SX p B j kk=q at *;generalize PM B j kk=sh at *;rw [←hq]at DL;unfold Ax Ak at DL;unfold GQ at Qy;have hm1:m<0:=(by omega);generalize x-y=xy at *;clear Pv KZ hm0 hm Cf Tj Xq hs0 hq aW Acu Iw qF HST
     go_upto_region 10 with fail
     go_region_held3 (fun w'=>w'.cell? ⟨b',o'+j,none⟩=some (S (R x))/\w'.cell? ⟨b',o'+kk,none⟩=some (S (R y)))
      (go_keep)
      (first|((with_reducible refine(sb1 _ (NP.ext (Aa.refl w6).drew)).mono ?_);rintro e w7 ⟨rfl,Aj⟩;have X7:Aa w6 w7:=(Aa.refl w6).drew.trans Aj;have k1:=X7.cellS f1;have k2:=X7.cellS f2)|((with_reducible refine(Qy _ (NP.ext X7)).mono ?_);rintro e w8 ⟨rfl,AE⟩;have X8:Aa w6 w8:=X7.trans AE;have l1:=X8.cellS f1;have l2:=X8.cellS f2))
     have r1:=X8.cellS c1;have r2:=X8.cellS c2;have r3:=X8.cellS e1;have r4:=X8.cellS e2;have Tq:=Fj.trans X8;have Py:=NP.ext X8;have BN:=Ap GL X8;have Arp:=Tq.size;have qz:u5.ownBlock≠some bp:=fun e=>(by have:=(rH.out _ e).2;have:=VO.out;omega);have q9:u5.ownBlock≠some b:=fun e=>(by have:=(rH.out _ e).1;have:=HVS.out;omega);have ri:=Asb (Ne.symm qz);have rj:=Asb (Ne.symm q9);have Aqf:bp<w8.heap.size:=World.block_lt_of_cell? w8 _ r1;have ET:b<w8.heap.size:=World.block_lt_of_cell? w8 _ r3;clear k1 k2 l1 l2 X7 Aj AE X8 f1 f2 Fj NP GL c1 c2 e1 e2 iG qz q9
     go_upto_region 11 with fail
     go_region_held3 (fun w'=>w'.cell? ⟨bp,0,none⟩=some (S (R pa.x))/\w'.cell? ⟨bp,1,none⟩=some (S (R pa.y))/\w'.cell? ⟨b,o+kk*2,none⟩=some (S (R pb.x))/\w'.cell? ⟨b,o+kk*2+1,none⟩=some (S (R pb.y)))
      (go_keep)
      (first|((with_reducible refine(DL _ (Py.ext (Aa.refl w8).drew)).mono ?_);rintro e w9 ⟨rfl,Az⟩;have X9:Aa w8 w9:=(Aa.refl w8).drew.trans Az;have m1:=X9.cellS r1;have m2:=X9.cellS r2;have m3:=X9.cellS r3;have m4:=X9.cellS r4;have Ajf:=Ap BN (X9.alloc (.cells #[S (R q.x),S (R q.y)] 35));have hsA:=(X9.alloc (.cells #[S (R q.x),S (R q.y)] 35)).size)|(refine Aow rfl _ _ rfl (w9.alloc (.cells #[S (R q.x),S (R q.y)] 35)) V.heap.size u5 _ (Cq p B j) rfl Ajf Pj q w9.heap.size (Ase w9 _) rfl (by omega) ?_;intro v10 FZ Y8 C4 hgr;have XA:=X9.alloc (.cells #[S (R q.x),S (R q.y)] 35);have n1:=(World.cell?_of_block (a:=⟨bp,0,none⟩) (hgr.block bp (by omega) ri.out)).trans (XA.cellS r1);have n2:=(World.cell?_of_block (a:=⟨bp,1,none⟩) (hgr.block bp (by omega) ri.out)).trans (XA.cellS r2);have n3:=(World.cell?_of_block (a:=⟨b,o+kk*2,none⟩) (hgr.block b (by omega) rj.out)).trans (XA.cellS r3);have n4:=(World.cell?_of_block (a:=⟨b,o+kk*2+1,none⟩) (hgr.block b (by omega) rj.out)).trans (XA.cellS r4)))
     have Ado:=Asb (C4 V (Tq.trans XA) (Asf _));clear C4 hgr;go_wp2;go_roundw
     case rel=>exact⟨j+1,by go_num,hlt,by rw [MG.out,List.length_append,List.length_singleton];exact Y8,Ado.out⟩
     case measure=>simp [intOf];omega
    ·have MG:Hid (Cq p B (j+1)=Cq p B j):=Asb (by rw [HST.out,if_neg hs0,if_neg hm0];simp);have hm1:0<=m:=(by omega);clear Pv KZ hm0 hm Cf Tj Xq hs0;go_wp2;go_roundw
     case rel=>exact⟨j+1,by go_num,hlt,by rw [MG.out];exact GL,Fj⟩
     case measure=>simp [intOf];omega
  ·have BK:j=p.length:=(by omega);subst BK;obtain⟨A,ca,rfl,AU,Bv,hk2⟩:=Am.of_own' (by omega) hown;have FQ:0<(Cq p B p.length).length:=List.length_pos_iff.2 bQ.out;have mn:=AkV (Cq p B p.length) FQ Yp jg rM.out A ca;have mx:=AkS (Cq p B p.length) FQ Yp jg rM.out A ca;have hX:=fW.trans Ac;have Fp:=(Ac.block _ (Asd hbr)).trans hbr;have hwr:=hw.ext hX;have hge:w.heap.size<=br:=(by have:=ME.out;omega);generalize Cq p B p.length=on at *;have UY:=mn wr hwr AU Bv hk2;have Vb:=fun w' hx=>mx w' (hwr.ext hx) (AU.ext hx) Bv hk2;generalize CO Fy on=qa at *;generalize CO Fx on=qb at *;generalize on.length=no at *;unfold Ak at UY Vb;have Apu:=Asb Fp;clear mn mx AU hown hbr FQ hlt;(go_wp2_with fail);(with_reducible refine UY.mono ?_);rintro e w2 ⟨rfl,hx2⟩;(go_wp2_with fail);(with_reducible refine(Vb _ hx2).mono ?_);rintro e w3 ⟨rfl,hx3⟩;have UJ:=hx2.trans hx3;have Ia:=(UJ.block _ (Asd Fp)).trans Fp;have k1:=Ab (o:=0) Ia rfl;have k2:=Ab (o:=1) Ia rfl;have k3:=Ab (o:=2) Ia rfl;have k4:=Ab (o:=3) Ia rfl;have g1:=An (o:=0) Ia;have g2:=An (o:=1) Ia;have g3:=An (o:=2) Ia;have g4:=An (o:=3) Ia;have hE:=hX.trans UJ;have AP:=AeP (S (R qa.x)) (S (R qa.y)) (S (R qb.x)) (S (R qb.y)) Ia;have Fj:=(((hE.setCell (p:=⟨br,0,none⟩) hge (S (R qa.x))).setCell (p:=⟨br,1,none⟩) hge (S (R qa.y))).setCell (p:=⟨br,2,none⟩) hge (S (R qb.x))).setCell (p:=⟨br,3,none⟩) hge (S (R qb.y));have Cz:=Asb AP;clear Ia AP;go_wp2
   (try simp only [Exit.inBlock,Exit.then])
   refine bodyPost_ret (results_cell_row rfl _ _ br 74 #[S (R qa.x),S (R qa.y),S (R qb.x),S (R qb.y)] (0,0) _ rfl Cz.out Tryz.underlying74 rfl Tryz.sizeSeg) rfl ?_;exact⟨rfl,Fj⟩
end Go.Proofs.YtdaefncphfeaeaaGreatDoor
