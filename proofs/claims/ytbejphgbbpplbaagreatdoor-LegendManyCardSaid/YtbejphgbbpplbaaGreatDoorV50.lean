/- V50: LM1Z LMA. -/
import Derived.Test.YtbejphgbbpplbaaGreatDoorV49
import Derived.Test.YtbejphgbbpplbaaGreatDoorV48
import Derived.Test.YtbejphgbbpplbaaGreatDoorV46
import Derived.Test.YtbejphgbbpplbaaGreatDoorV47
import Derived.Test.YtbejphgbbpplbaaGreatDoorV45
set_option maxRecDepth 100000
set_option maxHeartbeats 16000000
namespace Go.Proofs.YtbejphgbbpplbaaGreatDoor
open Go.RowKit Kl
theorem oq{n:Nat}(h1:18<=n)(h2:n<=23):Jj (Cb n)=true/\I2 n=true:=by
 have:n=18∨n=19∨n=20∨n=21∨n=22∨n=23:=by omega
 rcases this with rfl|rfl|rfl|rfl|rfl|rfl
 ·exact⟨nv,nZ⟩
 ·exact⟨nw,oC⟩
 ·exact⟨ny,oD⟩
 ·exact⟨str21,oG⟩
 ·exact⟨nz,oH⟩
 ·exact⟨oh,oI⟩
theorem AaC(t:Bs):(⟨#[117]⟩++⟨t.toArray⟩:ByteArray)=⟨(117::t).toArray⟩:=by apply ByteArray.ext;apply Array.ext';simp
theorem AaD(h:Bs):(⟨([48,32,116,111,32]++h).toArray⟩:ByteArray)=(⟨#[48,32,116,111,32]⟩++⟨h.toArray⟩:ByteArray):=by apply ByteArray.ext;apply Array.ext';simp
def PM:Value→Nat
 | .string s=>s.size
 | _=>0
theorem Aga:∀e∈Cf,Wj e:=by
 intro y hy;simp only [Cf,List.mem_cons,Anj,or_false]at hy;subst hy;refine⟨?_,?_,?_⟩<;>decide
theorem Agb{k:Nat}(hk:k<200):∀e∈Fq k,Wj e:=by
 intro y hy;simp only [Fq,List.mem_cons,Anj,or_false]at hy;subst hy;refine⟨?_,?_,?_⟩
 ·show ([65]:Bs).length<1000000
  decide
 ·show ([48]:Bs).length<100000
  decide
 ·show (EX k).length<100000;rw [Vv];omega
theorem oQ(c:List La)(us:List Bs)(hck:I2 us.length=true)(NU:∀u∈us,u.length<1000000)(EZ:us.length<=1000)(hlc:∀e∈c,Wj e)(hce:Ht c=0)(A:Option Addr)(cc:Nat)(A1 B1 F1:Option Addr)(c1 d1 g1:Nat)(w:World)(hw:An w)(hr:Ae w A (Cr c))(h1:c.length<=cc)(h2:cc<=9223372036854775807)
  (B8:Jm (GV us.length) c1 d1 g1) (r1:Ae w A1 (flat (Ao (GV us.length).pts))) (r2:Ae w B1 (Bt (GV us.length).eds)) (r3:Ae w F1 (us.map S)) :
  Calls Tryz.prog 10 #[.slice A c.length cc,C2 A1 B1 F1 (GV us.length) c1 d1 g1] w (D3 c us w):=by
 obtain⟨hm1,Gv⟩:=AaY hck;refine oV c A cc (GV us.length) us A1 B1 F1 c1 d1 g1 w hr h1 h2 r3 rfl EZ NU (fun y hy=>⟨(hlc y hy).2.1,(hlc y hy).2.2⟩) (fun W hx=>?_) (fun W hx=>?_)
 ·have:=YH c A cc W (hw.ext hx) (hr.ext hx) h1 h2 hlc;rw [hce]at this;exact this
 ·have:=ji (GV us.length) Gv A1 B1 F1 c1 d1 g1 B8 W (hw.ext hx) (r1.ext hx) (r2.ext hx);rw [hm1]at this;exact this
theorem Aku{n:Nat}(hn:n<=1000):∀u∈Cb n,u.length<1000000:=by
 intro u hu;simp only [Cb,List.mem_map,List.mem_range]at hu;obtain⟨i,hi,rfl⟩:=hu;have h:Sz 7 ((i:Int):Rat):=Sz.int (by omega) (by rw [AmZ];have:(10:Nat)^7=10000000:=(by decide);omega);have:=Nk (by omega) h;simp only [List.length_cons];omega
theorem Abv{us:List Bs}{w w':World}{e:Ending}(hq:I5 Cf us=4)(h:D3 Cf us w e w'):∃A c,e=.returned (.tuple #[.slice A 0 c,.int .i64 4])/\Aa w w':=by
 unfold D3 at h;rw [hq,if_neg (by decide)]at h;obtain⟨A,c,h1,-,-,-,h5⟩:=h;exact⟨A,c,h1,h5⟩
theorem Abu{us:List Bs}{l:List En}{k:Nat}{w w':World}{e:Ending}(hq:I5 Cf us=0)(BX:Cg Cf (EC Cf (Cz us))=l)(hl:l.length=k)(h:D3 Cf us w e w'):∃A c,e=.returned (.tuple #[.slice A k c,.int .i64 0])/\Ae w' A (Bz l)/\k<=c/\c<=9223372036854775807/\Aa w w':=by
 unfold D3 at h;rw [hq,if_pos rfl,BX]at h;subst hl;exact h
theorem Abr{k:Nat}{w w':World}{e:Ending}(hq:75<k+1)(h:D3 (Fq k) [[65]] w e w'):∃A c,e=.returned (.tuple #[.slice A 0 c,.int .i64 16])/\Aa w w':=by
 unfold D3 at h;rw [qK,if_pos hq,if_neg (by decide)]at h;obtain⟨A,c,h1,-,-,-,h5⟩:=h;exact⟨A,c,h1,h5⟩
theorem Abq{k:Nat}{w w':World}{e:Ending}(hq:¬75<k+1)(h:D3 (Fq k) [[65]] w e w'):∃A c,e=.returned (.tuple #[.slice A 1 c,.int .i64 0])/\Ae w' A (Bz [⟨[65],[97],1,[48,32,116,111,32]++EX k⟩])/\1<=c/\Aa w w':=by
 unfold D3 at h;rw [qK,if_neg hq,if_pos rfl,oO]at h;obtain⟨A,c,h1,h2,h3,-,h5⟩:=h;exact⟨A,c,h1,h2,h3,h5⟩
theorem Ag9(n b:Nat)(hn:n<256)(hb:b<256)(w:World)(hw:An w) :
  Calls Tryz.prog 3 #[.int .u8 (n:Nat),.int .u8 (b:Nat)] w (BC true w):=by
 have kn:=AfN w hw;obtain⟨r,hr⟩:=AmT (n%6);obtain⟨d,hd⟩:=AmT (b%21);have cX:r<6:=(by omega);have AlJ:d<21:=(by omega);have hm1:((n:Int)).tmod 6=(r:Int):=(by rw [Int.tmod_eq_emod_of_nonneg (by omega)];omega);have Gv:((b:Int)).tmod 21=(d:Int):=(by rw [Int.tmod_eq_emod_of_nonneg (by omega)];omega);have w1:IntKind.i64.wrap (r:Int)=(r:Int):=Ane _ (by omega);obtain⟨N,hN⟩:=AmT (18+r);have Gm:18<=N:=(by omega);have IA:N<=23:=(by omega);have w2:IntKind.i64.wrap (18+(r:Int))=(N:Int):=(by rw [Ane _ (by omega)];omega);have w3:IntKind.i64.wrap (d:Int)=(d:Int):=Ane _ (by omega);have w4:IntKind.i64.wrap (70+(d:Int))=70+(d:Int):=Ane _ (by omega);generalize (n:Int)=ni at *;generalize (b:Int)=bi at *;clear hr hd hn hb hN;go_enter Tryz.func3,Tryz.ntmps3;(go_wp2_with fail);(with_reducible refine kn.mono ?_);rintro e wB ⟨rfl,hxB⟩;have hwB:=hw.ext hxB;clear kn
 go_upto_region 5 with fail
 go_loopw [5,18] (fun ov kv wr=>∃(k:Nat),kv=.int .i64 (k:Nat)/\k<=N/\wr.ownsRow wB.heap.size 9 1 ov k ((Cb k).map S)/\Aa wB wr) (fun _ kv _=>N-(intOf kv).toNat)
 case atStart=>exact⟨0,rfl,by omega,⟨rfl,.inl ⟨rfl,rfl⟩⟩,Aa.refl _⟩
 case round=>
  obtain⟨k,rfl,hk,hown,Ac⟩:=hrel;by_cases hkn:k<N
  ·have hk0:(0:Int)<=(k:Int):=(by omega);have Ci:(k:Int)<(N:Int):=(by omega);have v1:IntKind.wrap .i64 ((k:Int)+1)=(k:Int)+1:=Ane _ (by omega)
   have o1:Calls Tryz.prog 9 #[.int .i64 (k:Int),.int .i64 1] wr (Bc (R ((k:Int):Rat)) wr):=by have:=iG (k:Int) 1 (by omega) (by omega) (by omega) wr (hwB.ext Ac);rw [eQ]at this;exact this
   obtain⟨oP,oc,rfl⟩:=fZ (by omega) hown
   have Ef:(R ((k:Int):Rat)).length<=100:=by have h:Sz 7 ((k:Int):Rat):=Sz.int (by omega) (by rw [AmZ];have:(10:Nat)^7=10000000:=(by decide);omega);have:=Nk (by omega) h;omega
   obtain⟨t,ht⟩:=AmT (R ((k:Int):Rat));rw [←ht]at o1 Ef;have HT:=AmU ht;clear ht;(go_wp2_with fail);(with_reducible refine o1.mono ?_);rintro e w1 ⟨rfl,hx1⟩;have hown1:=AH hown hx1;have UW:=Ac.trans hx1;have hbase:=UW.size;have E3:=(Aa.refl w1).alloc (.cells #[S (117::t)] 9);clear o1
   go_wp2_with (at_builtin;go_loud (refine Yq rfl _ _ rfl _ wB.heap.size (.slice oP k oc) k (Cb k) rfl (AH hown1 ((Aa.refl w1).alloc _)) (by omega) (117::t) w1.heap.size ((AmW _ _).trans (Y0 _ (AaC t))) rfl (Ani hbase ((Aa.refl w1).alloc _).size) ?_);intro v9 w9 hown9 hext9)
   have hnew:=hext9 wB (UW.trans ((Aa.refl w1).alloc _)) (AmX _);rw [HT.out,←Akv]at hown9;have Cu:=AmU (And.intro hown9 hnew);clear hown9 hnew hext9 E3;go_wp2;go_roundw
   case rel=>exact⟨k+1,by go_num,hkn,Cu.out.1,Cu.out.2⟩
   case measure=>simp [intOf];omega
  ·have B6:k=N:=(by omega);subst B6;obtain⟨A9,c9,rfl,r9,s9,t9⟩:=Ae.of_own' (by omega) hown;have hX:=hxB.trans Ac;have hwr:=hw.ext hX;have KW:=(oq (n:=k) (by omega) (by omega)).1;have hck:=(oq (n:=k) (by omega) (by omega)).2;obtain⟨q1,q2,q3,q4⟩:=AgA (Ag8 (n:=k) (by omega) (by omega));have EZ:=Akt k;have Ie:=Aku (n:=k) (by omega);obtain⟨us,NU⟩:=AmT (Cb k);obtain⟨l,hl⟩:=AmT (SR k);have BX:Cg Cf (EC Cf (Cz us))=l:=(by rw [hl,NU];rfl);rw [←NU]at KW q1 EZ Ie r9;rw [←hl]at q2 q3 q4;clear NU hl hown;have hL:=AmW wr (.cells #[S [65],S [48],S []] 31);have EL:=(Aa.refl wr).alloc (.cells #[S [65],S [48],S []] 31);have RD:Ae (wr.alloc (.cells #[S [65],S [48],S []] 31)) (some ⟨wr.heap.size,0,none⟩) (Cr Cf):=Ae.lit wr #[S [65],S [48],S []] 31;have st:=ot (us:=us) (by omega) KW A9 c9 (wr.alloc (.cells #[S [65],S [48],S []] 31)) (hwr.ext EL) (r9.ext EL) (by omega) t9;rw [EZ]at st;have cp:=fun W2 (hx2:Aa (wr.alloc (.cells #[S [65],S [48],S []] 31)) W2) A1 B1 F1 c1 d1 g1 B8 r1 r2 r3=>oQ Cf us (by rw [EZ];exact hck) Ie (by omega) Aga Abh (some ⟨wr.heap.size,0,none⟩) 1 A1 B1 F1 c1 d1 g1 W2 ((hwr.ext EL).ext hx2) (RD.ext hx2) (by decide) (by omega) B8 r1 r2 r3;rw [EZ]at cp;have Ow:=AmU cp;have HQ:=AmU (And.intro q1 (And.intro q2 (And.intro q3 q4)));have kU:=AmU BX;have HX:=AmU (hX.trans EL);clear hL RD cp q1 q2 q3 q4 BX r9 KW hck hX Ie
   go_upto_region 9 with fail
   (go_wp2_with fail);(with_reducible refine st.mono ?_);rintro e w2 ⟨A2,B2,F2,c2,d2,g2,rfl,B8,r1,r2,r3,-,hx2⟩;have co:=Ow.out w2 hx2 A2 B2 F2 c2 d2 g2 B8 r1 r2 r3;have JG:=HX.out.trans hx2;have Amz:k<=c9:=(by omega);by_cases Dh:20<k
   case' pos=>have t1:(20:Int)<(k:Int):=(by omega);have Ek:=co.mono fun e w' h=>Abv (by rw [HQ.out.1,if_pos Dh]) h;have e1:Cf.length=1:=rfl;rw [e1]at Ek;unfold C2 at Ek ⊢;clear co r1 r2 r3 B8 Dh e1;(go_wp2_with fail);(with_reducible refine Ek.mono ?_);rintro e w3 ⟨A3,c3,rfl,hx3⟩;have NX:=JG.trans hx3;clear Ek hx3
   case' neg=>have t1:¬(20:Int)<(k:Int):=(by omega);have Ek:=co.mono fun e w' h=>Abu (by rw [HQ.out.1,if_neg Dh]) kU.out HQ.out.2.1 h;have ri:=AmU Dh;have e1:Cf.length=1:=rfl;rw [e1]at Ek;unfold C2 at Ek ⊢;clear co r1 r2 r3 B8 Dh e1;(go_wp2_with fail);(with_reducible refine Ek.mono ?_);rintro e w3 ⟨A3,c3,rfl,rl3,hc3,aE,hx3⟩;have ck:=YB l A3 c3 w3 rl3 (by have:=HQ.out.2.1;omega) aE HQ.out.2.2.2;rw [HQ.out.2.2.1 ri.out,HQ.out.2.1]at ck;clear Ek;(go_wp2_with fail);(with_reducible refine ck.mono ?_);rintro e w4 ⟨rfl,Ai⟩;have NX:=JG.trans (hx3.trans Ai);clear ck rl3 hx3 Ai
   all_goals
    obtain⟨W3,rfl⟩:=ei NX;have hw3:=hw.ext NX;clear st Ow HQ kU HX hx2 JG
    go_upto_region 16 with fail
    clear t1
    go_loopw [9] (fun hv wr=>∃(j:Nat),hv=S (EX j)/\j+1<=70+d/\Aa W3 wr) (fun hv _=>200-PM hv)
    case atStart=>exact⟨0,rfl,by omega,Aa.refl _⟩
    case round=>
     obtain⟨j,rfl,hj,Ac⟩:=hrel;obtain⟨h,hh⟩:=AmT (EX j);have Vu:h.length=j+1:=(by rw [hh,Vv]);rw [←hh];have HH:=AmU hh;clear hh;by_cases hjd:j+1<70+d
     ·have t2:(h.length:Int)<70+(d:Int):=(by omega);have HL:=AmU Vu;clear Vu;go_wp2;go_roundw
      case rel=>exact⟨j+1,congrArg Value.string (by rw [←wH,←HH.out];apply ByteArray.ext;simp),by omega,Ac⟩
      case measure=>
       have e:=HL.out;have e2:PM (.string ⟨h.toArray⟩)=h.length:=(by simp [PM,ByteArray.size]);have e3:PM (.string (⟨h.toArray⟩++⟨#[48]⟩))=h.length+1:=by simp [PM,ByteArray.size]
       first|(rw [e2,e3];omega)|(simp [PM,ByteArray.size];omega)
     ·have t2:¬(h.length:Int)<70+(d:Int):=(by omega);have Mv:j<200:=(by omega);have Fw:=NX.trans Ac;have zB:=hw.ext Fw
      have RD:Ae (wr.alloc (.cells #[S [65],S [48],S h] 31)) (some ⟨wr.heap.size,0,none⟩) (Cr (Fq j)):=by have e:Cr (Fq j) = [S [65],S [48],S h]:=(by rw [HH.out];rfl);rw [e];exact Ae.lit wr #[S [65],S [48],S h] 31
      have EL:=(Aa.refl wr).alloc (.cells #[S [65],S [48],S h] 31);have EA:=(Aa.refl (wr.alloc (.cells #[S [65],S [48],S h] 31))).alloc (.cells #[S [65]] 9);have st:=ot (us:=[[65]]) (by decide) om (some ⟨(wr.alloc (.cells #[S [65],S [48],S h] 31)).heap.size,0,none⟩) 1 ((wr.alloc (.cells #[S [65],S [48],S h] 31)).alloc (.cells #[S [65]] 9)) ((zB.ext EL).ext EA) (Ae.lit (wr.alloc (.cells #[S [65],S [48],S h] 31)) #[S [65]] 9) (by decide) (by omega);have cp:=fun W2 (hx2:Aa (wr.alloc (.cells #[S [65],S [48],S h] 31)) W2) A1 B1 F1 c1 d1 g1 B8 r1 r2 r3=>oQ (Fq j) [[65]] oJ (by decide) (by decide) (Agb Mv) (Abi Mv) (some ⟨wr.heap.size,0,none⟩) 1 A1 B1 F1 c1 d1 g1 W2 ((zB.ext EL).ext hx2) (RD.ext hx2) (AmX 1) (by omega) B8 r1 r2 r3;have Ow:=AmU cp;have HX:=AmU ((Fw.trans EL).trans EA);have s7:=AmU EA;have w5:IntKind.i64.wrap (5+(h.length:Int))=5+(h.length:Int):=Ane _ (by omega);simp only [List.length_cons,List.length_nil,Anf]at st;clear cp RD EL EA Fw Ac
      go_upto_region 18 with fail
      (go_wp2_with fail);(with_reducible refine st.mono ?_);rintro e w5 ⟨A5,B5,F5,c5,d5,g5,rfl,B8,r1,r2,r3,-,Ad⟩;have co:=Ow.out w5 (s7.out.trans Ad) A5 B5 F5 c5 d5 g5 B8 r1 r2 r3;have H5:=AmU (HX.out.trans Ad);by_cases U8:75<j+1
      ·have t3:(80:Int)<5+(h.length:Int):=(by omega);have Ek:=co.mono fun e w' hh=>Abr U8 hh;have e1:(Fq j).length=1:=rfl;have e2:([[65]]:List Bs).length=1:=rfl;rw [e1,e2]at Ek;unfold C2 at Ek ⊢;clear co r1 r2 r3 B8 st Ow Ad Vu U8;(go_wp2_with fail);(with_reducible refine Ek.mono ?_);rintro e w6 ⟨A6,c6,rfl,AC⟩;go_wp2;go_ret;exact⟨rfl,H5.out.trans AC⟩
      ·have t3:¬(80:Int)<5+(h.length:Int):=(by omega);have Ek:=co.mono fun e w' hh=>Abq U8 hh;have e1:(Fq j).length=1:=rfl;have e2:([[65]]:List Bs).length=1:=rfl;rw [e1,e2]at Ek;unfold C2 at Ek ⊢;clear co r1 r2 r3 B8 st Ow Ad Vu U8;(go_wp2_with fail);(with_reducible refine Ek.mono ?_);rintro e w6 ⟨A6,c6,rfl,rl,uX,AC⟩;obtain⟨b,o,rfl,hv⟩:=rl.ad (by simp [Bz])
       have q3:w6.cell? ⟨b,o+3,none⟩=some (.string (⟨#[48,32,116,111,32]⟩++⟨h.toArray⟩)):=(hv 3 (by simp [Bz])).trans (by
        rw [←HH.out]
        exact congrArg some (congrArg Value.string (AaD h)))
       have AlF:(0:Int)<(c6:Int):=(by omega);clear Ek rl hv;go_wp2;go_ret;exact⟨rfl,H5.out.trans AC⟩
end Go.Proofs.YtbejphgbbpplbaaGreatDoor
