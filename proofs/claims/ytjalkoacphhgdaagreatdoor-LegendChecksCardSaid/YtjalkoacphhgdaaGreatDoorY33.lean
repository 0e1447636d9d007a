/- Y33: LGH. -/
import Derived.Test.YtjalkoacphhgdaaGreatDoorY32
import Derived.Laws.Cover1
set_option maxRecDepth 100000
set_option maxHeartbeats 16000000
namespace Go.Proofs.YtjalkoacphhgdaaGreatDoor
open Go.RowKit Kl
theorem VW(a b:UInt8):Op.bytesLess [a] [b]=decide (a.toNat<b.toNat):=by
 simp [Op.bytesLess,UInt8.lt_iff_toNat_lt]
theorem Af3(y x:En)(b:Nat)(w:World)(hb:w.heap[b]?=some (.cells #[S x.u,S x.s,.int .i64 x.p,S x.t] 40)) :
  Calls Tryz.prog 67 #[Fq y,.pointer (some ⟨b,0,none⟩)] w (Br (y.s == x.s) w):=by
 have hx:=(Aa.refl w).alloc (.cells #[S y.u,S y.s,.int .i64 y.p,S y.t] 40);have j1:=hx.cellS (Ab (o:=1) hb rfl);unfold Fq;clear hb;go_enter Tryz.func67,Tryz.ntmps67;go_wp2;go_ret;exact⟨rfl,hx⟩
theorem AbC:∀args w,(callFunc 67 args).run Tryz.prog w=.ok (.enter 67 args) w:=enters_of Tryz.func67 (by kernel_rfl) rfl
theorem Af4(l:List En)(A:Option Addr)(c:Nat)(w:World)(hr:Ae w A (Bg l))(hc:l.length<=c)(hcm:c<=9223372036854775807)(hl:∀e∈l,If e) :
  Calls Tryz.prog 27 #[.slice A l.length c] w (Az (BK l) w):=by
 have HL:=Am9 hl;have EE:=Am9 hr;obtain⟨r,hr0⟩:=Am8 (BK l);rw [←hr0];have HR:=Am9 hr0;clear hl hr hr0;by_cases D8:20<l.length
 ·have HH:=Am9 (show r=4 by rw [HR.out];unfold BK;rw [if_pos D8]);have t2:(20:Int)<(l.length:Int):=(by omega);go_enter Tryz.func27,Tryz.ntmps27;go_wp2;go_ret;exact⟨AN HH.out,Aa.refl _⟩
 ·have HC:=Am9 (show r=Hn [] l by rw [HR.out];unfold BK;rw [if_neg D8]);have t2:¬(20:Int)<(l.length:Int):=(by omega);obtain⟨n,hn⟩:=Am8 l.length;rw [←hn]at hc D8 t2 ⊢;have HN:=Am9 hn;clear hn HR;go_enter Tryz.func27,Tryz.ntmps27
  go_upto_region 4 with fail
  go_loopw [11] (fun kv wr=>∃(k:Nat),kv=.int .i64 (k:Nat)/\k<=n/\r=Hn (l.take k) (l.drop k)/\Aa w wr) (fun kv _=>n-(intOf kv).toNat)
  case atStart=>exact⟨0,rfl,by omega,by rw [List.take_zero,List.drop_zero];exact HC.out,Aa.refl _⟩
  case round=>
   obtain⟨k,rfl,hk,hck,Ac⟩:=hrel;have LF:=Am9 hck;clear hck;by_cases hkn:k<n
   ·have Co:k<l.length:=(by rw [←HN.out];exact hkn);obtain⟨b,o,rfl,hg1,hg2,hg3,hg4⟩:=Qf (EE.out.ext Ac) Co;have hst:=nJ Co rfl;rw [←LF.out]at hst;have hlen:=HL.out l[k] (AmD Co);obtain⟨x,hx⟩:=Am8 (l[k]);rw [←hx]at hg1 hg2 hg3 hg4 hst hlen;have HST:=Am9 hst;have Dx:(l.take k).length=k:=(by rw [List.length_take];omega);have hk0:(0:Int)<=(k:Int):=(by omega);have Cb:(k:Int)<(n:Int):=(by omega);have hk2:(k:Int)<=(c:Int):=(by omega);have v1:IntKind.wrap .i64 ((k:Int)+1)=(k:Int)+1:=AmI _ (by omega);have hxb:=AmB wr (.cells #[S x.u,S x.s,.int .i64 x.p,S x.t] 40);have hx1:=(Aa.refl wr).alloc (.cells #[S x.u,S x.s,.int .i64 x.p,S x.t] 40);have hE:=Ac.trans hx1;obtain⟨hu,hs,ht⟩:=hlen;have nm:=Afp x.u hu;have kH:=Am9 (fun W (hx:Aa w W)=>(show Ae W (some ⟨b,o,none⟩) (Bg (l.take k))by rw [pJ];exact(EE.out.ext hx).take _));have YP:=fun W (hx:Aa w W)=>Af6 (l.take k) x.u (some ⟨b,o,none⟩) c W (kH.out W hx) (by omega) hcm;rw [Dx]at YP;have hz0:∀z,BL (l.take k) x=z→z≠0→r=z:=fun z h1 h2=>(by rw [HST.out,if_neg (by rw [h1];exact h2),h1]);have hz1:BL (l.take k) x=0→r=Hn (l.take (k+1)) (l.drop (k+1)):=fun h=>(by rw [HST.out,if_pos h]);have Ix:=Am9 hz0;have uv:=Am9 hz1;have ug:=Am9 Dx;clear hx hst Dx Ac hz0 hz1
    go_upto_region 6 with fail
    generalize wr.alloc (.cells #[S x.u,S x.s,.int .i64 x.p,S x.t] 40)=V at *;obtain⟨bx,Aw⟩:=Am8 wr.heap.size;rw [←Aw]at hxb ⊢;clear Aw hg1 hg2 hg3 hg4 hx1;have k1:=Ab (o:=0) hxb rfl;have SV:=nm V
    cases h1:nameB x.u
    ·rw [h1]at SV;have HH:=Am9 (Ix.out 8 (by unfold BL;rw [if_pos h1]) (by omega));clear h1;(go_wp2_with fail);(with_reducible refine SV.mono ?_);rintro e w1 ⟨rfl,hx1⟩;go_wp2;go_ret;exact⟨AN HH.out,hE.trans hx1⟩
    rw [h1]at SV;have H1:=Am9 (show ¬(nameB x.u=false)by rw [h1];simp);clear h1;(go_wp2_with fail);(with_reducible refine SV.mono ?_);rintro e w1 ⟨rfl,hx1⟩;have hB1:=(hx1.block _ (AmA hxb)).trans hxb;have X1:=hE.trans hx1;have Nh:=Am9 X1;have fd:=fun q:Af w1=>YP q.w (Nh.out.trans q.h);obtain⟨z,hz⟩:=Am8 (I5 (l.take k) x.u);rw [←hz]at fd;have kR:=Am9 hz;have f1:∀q:Af w1,q.w.cell? ⟨bx,0,none⟩=some (S x.u):=Af.cell (Ab hB1 rfl);clear nm SV k1 hx1 hz YP X1
    go_upto_region 8 with fail
    refine Fe (by kernel_rfl) (by kernel_rfl) ?_
    repeat (go_big_quiet_step (with_reducible refine DU (fd _)))
    refine wpQuiet_nil ?_;rintro _ ⟨q,rfl⟩;have hB2:=(q.h.block _ (AmA hB1)).trans hB1;have X2:=Nh.out.trans q.h;generalize q.w=w2 at *;have Gb:=Am9 X2;clear f1 fd;by_cases h2:0<=z
    ·have HH:=Am9 (Ix.out 9 (by unfold BL;rw [if_neg H1.out,if_pos (by rw [←kR.out];exact h2)]) (by omega));go_wp2;go_ret;exact⟨AN HH.out,Gb.out⟩
    have h2':=Int.not_le.1 h2;have H2:=Am9 (show I5 (l.take k) x.u<0 by rw [←kR.out];exact h2');clear h2;have k3:=Ab (o:=1) hB2 rfl;by_cases h3:x.s.length=1
    rotate_left
    ·have HH:=Am9 (Ix.out 7 (by unfold BL;rw [if_neg H1.out,if_neg (Int.not_le.2 H2.out),if_pos h3]) (by omega));have t1:((x.s.length:Int) != 1)=true:=(by rw [bne_iff_ne];omega);go_wp2;go_ret;exact⟨AN HH.out,Gb.out⟩
    obtain⟨y,hy⟩:∃y,x.s = [y]:=by
     match hm:x.s,h3 with
     | [y],_=>exact⟨y,rfl⟩
    have H3:=Am9 (show ¬(x.s.length≠1)from fun h=>h h3);have HY:=Am9 hy;rw [hy]at k3;clear h3 hy;have hout:x.s.any (BH 33)=BH 33 y:=(by rw [HY.out];simp);have Xy:=Am9 hout;clear hout;by_cases y1:y.toNat<33
    ·have t1:Op.bytesLess [y] [33]=true:=(by rw [VW];exact decide_eq_true y1);have HH:=Am9 (Ix.out 7 (by unfold BL;rw [if_neg H1.out,if_neg (Int.not_le.2 H2.out),if_neg H3.out,if_pos (by rw [Xy.out];unfold BH;rw [decide_eq_true y1];rfl)]) (by omega));clear y1;go_wp2;go_ret;exact⟨AN HH.out,Gb.out⟩
    have t1:Op.bytesLess [y] [33]=false:=(by rw [VW];exact decide_eq_false y1);by_cases y2:126<y.toNat
    ·have t2:Op.bytesLess [y] [126]=false:=by rw [VW];exact decide_eq_false (by show ¬y.toNat<126;omega)
     have t4:y≠126:=by intro h;subst h;exact absurd y2 (by decide)
     have t3:(y == 126)=false:=beq_false_of_ne t4;have HH:=Am9 (Ix.out 7 (by unfold BL;rw [if_neg H1.out,if_neg (Int.not_le.2 H2.out),if_neg H3.out,if_pos (by rw [Xy.out];unfold BH;rw [decide_eq_true y2,Bool.or_true])]) (by omega));clear y1 y2;go_wp2;go_ret;exact⟨AN HH.out,Gb.out⟩
    have t2:(!Op.bytesLess [y] [126] && !y == 126)=false:=by
     rw [VW];by_cases y3:y.toNat<126
     ·rw [decide_eq_true (by show y.toNat<126;exact y3)];rfl
     ·have:y=126:=(by apply UInt8.toNat_inj.1;show y.toNat=126;omega);subst this;rfl
    have H4:=Am9 (show ¬(x.s.any (BH 33)=true)by rw [Xy.out];unfold BH;rw [decide_eq_false y1,decide_eq_false y2];simp);clear y1 y2;have hat:=ug.out
    have an:=Yc (cb:=#[.pointer (some ⟨bx,0,none⟩)]) AbC (fun y=>y.s == x.s) (l.take k) (some ⟨b,o,none⟩) c w2 (kH.out w2 Gb.out) (by omega) hcm
     (fun y _ W hx=>Af3 y x bx W ((hx.block _ (AmA hB2)).trans hB2))
    rw [hat]at an;have jK:=Am9 hB2;clear hat
    cases h5:(l.take k).any (fun y=>y.s == x.s)
    rotate_left
    ·have HH:=Am9 (Ix.out 9 (by unfold BL;rw [if_neg H1.out,if_neg (Int.not_le.2 H2.out),if_neg H3.out,if_neg H4.out,if_pos h5]) (by omega));rw [h5]at an;clear h5 hB2;(go_wp2_with fail);(with_reducible refine an.mono ?_);rintro e w4 ⟨rfl,Ai⟩;go_wp2;go_ret;exact⟨AN HH.out,Gb.out.trans Ai⟩
    have H5:=Am9 (show ¬((l.take k).any (fun y=>y.s == x.s)=true)by rw [h5];simp);rw [h5]at an;clear h5 hB2;(go_wp2_with fail);(with_reducible refine an.mono ?_);rintro e w4 ⟨rfl,Ai⟩;have DV:=(Ai.block _ (AmA jK.out)).trans jK.out;have X4:=Gb.out.trans Ai;have Gc:=Am9 X4;have k4:=Ab (o:=2) DV rfl;have k5:=Ab (o:=3) DV rfl;clear an Ai k3 t1 t2 X4;by_cases h6:x.p<1
    ·have HH:=Am9 (Ix.out 12 (by unfold BL;rw [if_neg H1.out,if_neg (Int.not_le.2 H2.out),if_neg H3.out,if_neg H4.out,if_neg H5.out,if_pos h6]) (by omega));go_wp2;go_ret;exact⟨AN HH.out,Gc.out⟩
    by_cases h7:5<x.p
    ·have HH:=Am9 (Ix.out 12 (by unfold BL;rw [if_neg H1.out,if_neg (Int.not_le.2 H2.out),if_neg H3.out,if_neg H4.out,if_neg H5.out,if_neg h6,if_pos h7]) (by omega));go_wp2;go_ret;exact⟨AN HH.out,Gc.out⟩
    by_cases h8:80<x.t.length
    ·have HH:=Am9 (Ix.out 16 (by unfold BL;rw [if_neg H1.out,if_neg (Int.not_le.2 H2.out),if_neg H3.out,if_neg H4.out,if_neg H5.out,if_neg h6,if_neg h7,if_pos h8]) (by omega));have t2:(80:Int)<(x.t.length:Int):=(by omega);go_wp2;go_ret;exact⟨AN HH.out,Gc.out⟩
    have t2:¬(80:Int)<(x.t.length:Int):=(by omega);have H9:=Am9 (show ∀_:Nat,BL (l.take k) x=(if x.t.any (BH 32)=true then 15 else 0)from fun _=>by unfold BL;rw [if_neg H1.out,if_neg (Int.not_le.2 H2.out),if_neg H3.out,if_neg H4.out,if_neg H5.out,if_neg h6,if_neg h7,if_neg h8]);have HB4:=Am9 DV;clear DV
    go_upto_region 19 with fail
    clear k4
    go_loopw [67] (fun jv wi=>∃(j:Nat),jv=.int .i64 (j:Nat)/\j<=x.t.length/\(x.t.take j).any (BH 32)=false/\wi=w4) (fun jv _=>x.t.length-(intOf jv).toNat)
    case atStart=>exact⟨0,rfl,by omega,rfl,rfl⟩
    case round=>
     obtain⟨j,rfl,hj,sW,rfl⟩:=hrel;have jH:=Am9 sW;clear sW;by_cases hjn:j<x.t.length
     ·have hj0:(0:Int)<=(j:Int):=(by omega);have KL:(j:Int)<(x.t.length:Int):=(by omega);have v5:IntKind.wrap .i64 ((j:Int)+1)=(j:Int)+1:=AmI _ (by omega);obtain⟨bb,AZ⟩:=Am8 (x.t[j]);have hq:∀h:j<(⟨x.t.toArray⟩:ByteArray).size,((⟨x.t.toArray⟩:ByteArray)[j]'h)=bb:=fun h=>(by rw [AZ];rfl);have HT:=Am9 (show (x.t.take (j+1)).any (BH 32)=BH 32 bb by rw [AmF hjn,List.any_append,jH.out,←AZ];simp);have jJ:=Am9 (show BH 32 bb=true→x.t.any (BH 32)=true from fun h=>List.any_eq_true.2 ⟨bb,AZ▸AmD hjn,h⟩);clear AZ;by_cases c1:bb.toNat<32
      ·have HH:=Am9 (Ix.out 15 (by rw [H9.out 0,if_pos (jJ.out (by unfold BH;rw [decide_eq_true c1];rfl))]) (by omega));go_wp2;go_ret;exact⟨AN HH.out,Gc.out⟩
      ·by_cases c2:126<bb.toNat
       ·have HH:=Am9 (Ix.out 15 (by rw [H9.out 0,if_pos (jJ.out (by unfold BH;rw [decide_eq_true c2,Bool.or_true]))]) (by omega));go_wp2;go_ret;exact⟨AN HH.out,Gc.out⟩
       ·have HO:=Am9 (show (x.t.take (j+1)).any (BH 32)=false by rw [HT.out];unfold BH;rw [decide_eq_false c1,decide_eq_false c2];rfl);go_wp2;go_roundw
        case rel=>exact⟨j+1,by go_num,hjn,HO.out,by trivial⟩
        case measure=>simp [intOf];omega
     ·have H7:j=x.t.length:=(by omega);subst H7;have HH:=Am9 (uv.out (by rw [H9.out 0,if_neg (by have:=jH.out;rw [List.take_length]at this;rw [this];simp)]));go_wp2;go_roundw
      case rel=>exact⟨k+1,by go_num,hkn,HH.out,Gc.out⟩
      case measure=>simp [intOf];omega
   ·have Bw:k=n:=(by omega);subst Bw;have HH:=Am9 (show r=0 by rw [LF.out,HN.out,List.drop_length];rfl);go_wp2;go_ret;exact⟨AN HH.out,Ac⟩
end Go.Proofs.YtjalkoacphhgdaaGreatDoor
