/- X50: LO13 LGP. -/
import Derived.Test.YtjalkoacphhgdaaGreatDoorX48
import Derived.Test.YtjalkoacphhgdaaGreatDoorX45
set_option maxRecDepth 100000
set_option maxHeartbeats 16000000
namespace Go.Proofs.YtjalkoacphhgdaaGreatDoor
open Go.RowKit Kl Go.Sort Go.Shelf
def FZ(bs:Bs)(i:Nat):Nat×Nat:=((bs.getD (2*i) 0).toNat,(bs.getD (2*i+1) 0).toNat)
def N8(A:Option Addr)(n c:Nat)(bs:Bs):Value:=.agg #[.slice A n c,byV (bs.getD 0 0),byV (bs.getD 1 0),byV (bs.getD 2 0),byV (bs.getD 3 0),byV (bs.getD 4 0),byV (bs.getD 5 0),byV (bs.getD 6 0),byV (bs.getD 7 0)]
def AbI(c:List La)(w:World)(e:Ending)(w':World):Prop:=∃v,e=.returned v/\w'.ownsRow w.heap.size 31 3 v c.length (Bo c)/\Aa w w'
theorem Zo:∀a<8,(R (mkRat (a:Nat) 2)).length<=9:=by decide +kernel
theorem AcU(bs:Bs){w:World}{b:Nat}{v:Value}{b0 b1 b2 b3 b4 b5 b6 b7:UInt8}{t:TypeId}(h:w.heap[b]?=some (.cells #[v,.int .u8 (b0.toNat:Nat),.int .u8 (b1.toNat:Nat),.int .u8 (b2.toNat:Nat),.int .u8 (b3.toNat:Nat),.int .u8 (b4.toNat:Nat),.int .u8 (b5.toNat:Nat),.int .u8 (b6.toNat:Nat),.int .u8 (b7.toNat:Nat)] t))
  (hb:bs.getD 0 0=b0/\bs.getD 1 0=b1/\bs.getD 2 0=b2/\bs.getD 3 0=b3/\bs.getD 4 0=b4/\bs.getD 5 0=b5/\bs.getD 6 0=b6/\bs.getD 7 0=b7) :
  ∀j,j<4→w.cell? ⟨b,1+j*2,none⟩=some (.int .u8 ((FZ bs j).1:Nat))/\w.cell? ⟨b,1+j*2+1,none⟩=some (.int .u8 ((FZ bs j).2:Nat)):=by
 obtain⟨h0,h1,h2,h3,h4,h5,h6,h7⟩:=hb;intro j hj
 rcases(by omega:j=0∨j=1∨j=2∨j=3)with rfl|rfl|rfl|rfl
 ·exact⟨Ab (o:=1) h (by rw [←h0];rfl),Ab (o:=2) h (by rw [←h1];rfl)⟩
 ·exact⟨Ab (o:=3) h (by rw [←h2];rfl),Ab (o:=4) h (by rw [←h3];rfl)⟩
 ·exact⟨Ab (o:=5) h (by rw [←h4];rfl),Ab (o:=6) h (by rw [←h5];rfl)⟩
 ·exact⟨Ab (o:=7) h (by rw [←h6];rfl),Ab (o:=8) h (by rw [←h7];rfl)⟩
theorem AjB(us bs:Bs)(A:Option Addr)(c:Nat)(w:World)(hw:Am w)(hr:Ad w A (us.map byV))(hlen:us.length<=140737488351232) :
  Calls Tryz.prog 18 #[N8 A us.length c bs] w (AbI (mk22 (FZ bs) (us.map (·.toNat) ++ [0])) w):=by
 unfold N8 byV;generalize hb0:bs.getD 0 0=b0;generalize hb1:bs.getD 1 0=b1;generalize hb2:bs.getD 2 0=b2;generalize hb3:bs.getD 3 0=b3;generalize hb4:bs.getD 4 0=b4;generalize hb5:bs.getD 5 0=b5;generalize DC:bs.getD 6 0=b6;generalize Fg:bs.getD 7 0=b7;have HB:=AqH (And.intro hb0 (And.intro hb1 (And.intro hb2 (And.intro hb3 (And.intro hb4 (And.intro hb5 (And.intro DC Fg)))))));clear hb0 hb1 hb2 hb3 hb4 hb5 DC Fg;obtain⟨pc,Ts⟩:=AqG (#[.slice A us.length c,.int .u8 (b0.toNat:Nat),.int .u8 (b1.toNat:Nat),.int .u8 (b2.toNat:Nat),.int .u8 (b3.toNat:Nat),.int .u8 (b4.toNat:Nat),.int .u8 (b5.toNat:Nat),.int .u8 (b6.toNat:Nat),.int .u8 (b7.toNat:Nat)]:Array Value);have hE:=(Aa.refl w).alloc (.cells pc 56);have hB:=AqJ w (.cells pc 56);have cl:=AdA us A c _ (hr.ext hE) (by omega);have HE:=AqH hE;have JC:=AqH hB;clear hr hE hB;subst Ts;go_enter Tryz.func18,Tryz.ntmps18;(go_wp2_with fail);(with_reducible refine cl.mono ?_);rintro e w1 ⟨v,rfl,hown,hx1⟩;have Cf:=(Aa.refl w1).alloc (.cells #[.int .u8 0] 5);have hown1:=AC hown Cf;have hB1:=AqJ w1 (.cells #[.int .u8 0] 5);have X1:=HE.out.trans (hx1.trans Cf);have Fh:w.heap.size<=(w.alloc (.cells #[.slice A us.length c,.int .u8 (b0.toNat:Nat),.int .u8 (b1.toNat:Nat),.int .u8 (b2.toNat:Nat),.int .u8 (b3.toNat:Nat),.int .u8 (b4.toNat:Nat),.int .u8 (b5.toNat:Nat),.int .u8 (b6.toNat:Nat),.int .u8 (b7.toNat:Nat)] 56)).heap.size:=HE.out.size;have hbl:=JC.out;have yS:=((hx1.trans Cf).block _ (AqI hbl)).trans hbl;have OC:(w.alloc (.cells #[.slice A us.length c,.int .u8 (b0.toNat:Nat),.int .u8 (b1.toNat:Nat),.int .u8 (b2.toNat:Nat),.int .u8 (b3.toNat:Nat),.int .u8 (b4.toNat:Nat),.int .u8 (b5.toNat:Nat),.int .u8 (b6.toNat:Nat),.int .u8 (b7.toNat:Nat)] 56)).heap.size=w.heap.size+1:=(by rw [AqR]);have hown2:=kV hown1 (B':=w.heap.size+1) (by rw [OC];exact AqK _);have L9:=X1.size;have OD:w.heap.size+1<=(w1.alloc (.cells #[.int .u8 0] 5)).heap.size:=AqU (by rw [OC];exact AqK _) (hx1.trans Cf).size;obtain⟨i0,hi,hz0,hz1,hz2⟩:=info_parts Tryz.infoU8;have HO:=AqH hown2;have HX:=AqH X1;have HL:=AqH yS;have HS:=AqH OD
 have HN:=AqH (show ∀j u,[Value.int .u8 0][j]?=some u→(w1.alloc (.cells #[.int .u8 0] 5)).cell? ((⟨w1.heap.size,0,none⟩:Addr).add j)=some u from fun j u hu=>by
  rw [Addr.add_lit,Nat.zero_add]
  exact Ab hB1 (by rw [←Array.getElem?_toList];exact hu))
 clear hown hown1 hown2 hB1 X1 Fh hbl yS OC L9 OD Cf hx1 cl
 go_wp2_with (at_builtin;go_loud (refine wpList_append_own _ rfl _ _ 52 rfl (w.heap.size+1) 5 i0 (.int .u8 0) 1 1 Tryz.underlying52 hi hz0 hz1 hz2 rfl (by omega) v us.length (us.map byV) rfl HO.out ⟨w1.heap.size,0,none⟩ 1 1 [.int .u8 0] rfl rfl HN.out (by simp [Value.oneCell']) (by unfold maxLen;omega) (by omega) HS.out ?_);intro v9 w9 BQ FM fQ;obtain⟨oP,oc,rfl⟩:=Uc (by omega) BQ)
 have hlo:∀k,v.ownBlock=some k→w.heap.size+1<=k:=fun k hk=>(HO.out.lt k hk).1;have XW:Aa w w9:=HX.out.grown FM fun k hk=>(by have:=hlo k hk;omega);have hpl:=(FM.block _ (AqI HL.out) (fun e=>by have:=hlo _ e.symm;omega)).trans HL.out;obtain⟨ks,EH⟩:=AqG (us ++ [0]:Bs);have hkn:us.length+1=ks.length:=(by rw [EH];simp);have hkb:us.map byV ++ [.int .u8 0]=ks.map byV:=(by rw [EH,List.map_append];rfl);have Kg:us.map (·.toNat) ++ [0]=ks.map (·.toNat):=(by rw [EH,List.map_append];rfl);rw [hkb]at BQ;obtain⟨A9,c9,eF,AN,-,-⟩:=Ad.of_own' (by omega) BQ
 have ii:Ad w9 oP (ks.map byV):=by simp only [Value.slice.injEq]at eF;rw [eF.1];exact AN
 obtain⟨n,hn⟩:=AqG (us.length+1);rw [←hn];have G9:n=ks.length:=(by omega);have Nj:n<=140737488351233:=(by omega);rw [show (us.length:Int)+1=(n:Int)by omega];have YM:=AqH Kg;have FA:=AqH ii;have oV:=AqH hpl;have oQ:=AqH G9;have Zh:=AqH XW;clear hn hkn hkb Kg ii hpl G9 XW AN eF BQ FM fQ hlo HO HX HL HS HN HE JC EH
 go_loopw [3,15] (fun ov kv wr=>∃(k:Nat) (l:List La),kv=.int .i64 (k:Nat)/\k<=n/\l=mk22 (FZ bs) ((ks.take k).map (·.toNat))/\l.length<=4/\wr.ownsRow w9.heap.size 31 3 ov l.length (Bo l)/\Aa w9 wr) (fun _ kv _=>n-(intOf kv).toNat)
 case atStart=>exact⟨0,[],rfl,by omega,rfl,by simp,⟨rfl,.inl ⟨rfl,rfl⟩⟩,Aa.refl _⟩
 case round=>
  obtain⟨k,l,rfl,hk,hl,hl4,hown,Ac⟩:=hrel;have Rq:=AqH hl;clear hl;by_cases hkn:k<n
  ·obtain⟨TV,TW,rfl⟩:=Uc (by omega) hown;have Bt:k<ks.length:=(by rw [←oQ.out];exact hkn);obtain⟨b,o,rfl,hc1⟩:=(FA.out.ext Ac).ad (by rw [List.length_map];omega);have g1:=hc1 k (by rw [List.length_map];exact Bt);rw [List.getElem_map]at g1;unfold byV at g1;obtain⟨x,hx⟩:=AqG (ks[k]);rw [←hx]at g1;have HXK:=AqH hx;have hk0:(0:Int)<=(k:Int):=(by omega);have BH:(k:Int)<(n:Int):=(by omega);have v1:IntKind.wrap .i64 ((k:Int)+1)=(k:Int)+1:=AqQ _ (by omega);have n1:=Akb (x.toNat%6) (Nat.mod_lt _ (by omega)) wr;clear hx hc1
   go_upto_region 5 with fail
   have g1':=n1;(go_wp2_with fail);(with_reducible refine n1.mono ?_);rintro e w2 ⟨gN,rfl,hcN,hgN,hx2⟩;have f1:=hx2.cellS g1;clear n1 g1';obtain⟨u,hu⟩:=AqG (nm6 (x.toNat%6));rw [←hu]at hcN;have HU:=AqH hu;have Wg:=AqJ w2 (.cells #[S u] 9);have LD:=hx2.trans ((Aa.refl w2).alloc (.cells #[S u] 9));have fZ:=AC hown LD;obtain⟨A3,c3,Hw,hr3,V8,V9⟩:=Ad.of_own' (by omega) fZ;simp only [Value.slice.injEq]at Hw;obtain⟨rfl,-,rfl⟩:=Hw;have an:=Aci (cb:=#[.pointer (some ⟨w2.heap.size,0,none⟩)]) AeP (fun e=>e.u == u) l TV TW _ hr3 V8 V9 (fun e _ W hx'=>AjA e u _ W (Ab (o:=0) ((hx'.block _ (AqI Wg)).trans Wg) rfl));have UA:=AqH fZ;have YI:=AqH (Ac.trans LD);have nQ:=AqH Wg;clear hu Wg LD fZ hown hr3 Ac hx2
   go_upto_region 6 with fail
   have HST:=AqH (show mk22 (FZ bs) ((ks.take (k+1)).map (·.toNat))=Ic (FZ bs) l x.toNat by rw [AjL _ _ Bt,←Rq.out,←HXK.out]);generalize hV:w2.alloc (.cells #[S u] 9)=V at *;by_cases hL4:l.length=4
   ·have wW:(l.length:Int)=4:=(by omega);clear an hV;go_wp2;go_roundw
    case rel=>exact⟨k+1,l,by go_num,hkn,by rw [HST.out];exact(if_pos (.inl hL4)).symm,hl4,UA.out,YI.out⟩
    case measure=>simp [intOf];omega
   ·have wW:¬(l.length:Int)=4:=(by omega);by_cases We:(l.any fun e=>e.u == u)=true
    ·rw [We]at an;clear hV;(go_wp2_with fail);(with_reducible refine an.mono ?_);rintro e w5 ⟨rfl,Ae⟩;go_wp2;go_roundw
     case rel=>exact⟨k+1,l,by go_num,hkn,by rw [HST.out];exact(if_pos (.inr (by rw [←HU.out];exact We))).symm,hl4,AC UA.out Ae,YI.out.trans Ae⟩
     case measure=>simp [intOf];omega
    ·have dK:(l.any fun e=>e.u == u)=false:=(by simpa using We);rw [dK]at an;clear We;(go_wp2_with fail);(with_reducible refine an.mono ?_);rintro e w5 ⟨rfl,Ae⟩;have X5:Aa w9 w5:=YI.out.trans Ae;have hb5:=(X5.block _ (AqI oV.out)).trans oV.out;have fk:=AcU bs hb5 HB.out;obtain⟨q,hq⟩:=AqG (x.toNat%6);obtain⟨j,hj⟩:=AqG (q%4);have hq6:q<6:=(by omega);have hj4:j<4:=(by omega);obtain⟨p1,p2⟩:=fk j hj4;obtain⟨p,hp⟩:=AqG (FZ bs j);rw [←hp]at p1 p2;have hqi:(x.toNat:Int)%6=(q:Int):=(by omega);have O2:(q:Int)%4=(j:Int):=(by omega);have Nh:(q:Int).tmod 4=(j:Int):=(by rw [Int.tmod_eq_emod_of_nonneg (by omega)];exact O2);have gi:IntKind.wrap .i64 (q:Int)=q:=AqQ _ (by omega);have hjw:IntKind.wrap .i64 (j:Int)=j:=AqQ _ (by omega);have hj0:(0:Int)<=(j:Int):=(by omega);have Gh:(j:Int)<4:=(by omega);have zB:=(Ae.block _ (AqI nQ.out)).trans nQ.out;have HP:=AqH (And.intro hq (And.intro hj hp));have nR:=AqH zB;have KC:=AqH (show ¬(l.any fun e=>e.u == u)=true by rw [dK];simp);have Ru:=AqH X5;clear fk hq hj hp zB hb5 X5 an dK hL4 f1 hcN;have Aw:=(Aa.refl w5).alloc (.cells #[.int .u8 (p.1:Nat),.int .u8 (p.2:Nat)] 53);have Fg:=AqJ w5 (.cells #[.int .u8 (p.1:Nat),.int .u8 (p.2:Nat)] 53);have Pi:=AqH Aw;have nN:=AqH Fg;clear Aw Fg
     go_upto_region 8 with fail
     generalize hV7:w5.alloc (.cells #[.int .u8 (p.1:Nat),.int .u8 (p.2:Nat)] 53)=V7 at *;clear hV7;obtain⟨b7,Fg⟩:=AqG w5.heap.size;have YE:=AqH (show V7.heap[b7]?=_ from Fg▸nN.out);rw [←Fg];clear Fg nN;have q1:=Ab (o:=0) ((Pi.out.block _ (AqI nR.out)).trans nR.out) rfl;have q2:=Ab (o:=0) YE.out rfl;have q3:=Ab (o:=1) YE.out rfl;have ApL:=AqI YE.out;have Ahq:w2.heap.size<V7.heap.size:=World.block_lt_of_cell? V7 _ q1;obtain⟨a,ha⟩:=AqG (p.1%4);have hai:((p.1:Nat):Int)%4=(a:Int):=(by omega);have haw:IntKind.wrap .i64 (a:Int)=a:=AqQ _ (by omega);have Wc:a<4:=(by omega);have jo:Am V7:=hw.ext (Zh.out.trans (Ru.out.trans Pi.out));have hat:((p.1:Nat):Int).tmod 4=(a:Int):=(by rw [Int.tmod_eq_emod_of_nonneg (by omega)];exact hai);have oc:∀W,Am W→Calls Tryz.prog 9 #[.int .i64 (a:Int),.int .i64 2] W (Bg (R (mkRat (a:Int) 2)) W):=fun W h=>Yg (a:Int) 2 (by omega) (by omega) (by omega) W h;have HA:=AqH ha;clear ha;obtain⟨mn,hmn⟩:=AqG (mkRat (a:Int) 2);rw [←hmn]at oc;have YQ:=AqH hmn;clear hmn;obtain⟨bu,Ll⟩:=AqG w2.heap.size;rw [←Ll]at q1 Ahq ⊢;clear Ll
     go_cut [8] (fun v8 wx=>∃b8,v8=.pointer (some ⟨b8,0,none⟩)/\wx.heap[b8]?=some (.cells #[S u,S (R mn),S []] 31)/\V7.heap.size<=b8/\Aa V7 wx)
     case first=>
      go_region_held3 (fun w'=>w'.cell? ⟨bu,0,none⟩=some (S u)/\w'.cell? ⟨b7,0,none⟩=some (.int .u8 (p.1:Nat)))
       (first|go_keep|(refine⟨?_,?_⟩<;>(rw [World.cell?_setCell_far _ _ _ _ (by simp only [ne_eq];omega),World.cell?_setCell_far _ _ _ _ (by simp only [ne_eq];omega),World.cell?_setCell_far _ _ _ _ (by simp only [ne_eq];omega)];assumption)))
       (first|((with_reducible refine(oc _ ?_).mono ?_);(exact jo.ext (by first|exact(Aa.refl _).drew|exact((Aa.refl _).alloc _).drew));rintro e w6 ⟨rfl,Ay⟩;have X6:Aa V7 w6:=(by first|exact(Aa.refl _).drew.trans Ay|exact((Aa.refl _).alloc _).drew.trans Ay);have g1:=X6.cellS q1;have g2:=X6.cellS q2;have s6:=X6.size;(first|(have Z6:w6.heap[V7.heap.size]?=some (.cells #[S [],S [],S []] 31):=(Ay.block _ (by simp)).trans (AqJ V7 _);have z0:=Ab (o:=0) Z6 rfl;have z1:=Ab (o:=1) Z6 rfl;have z2:=Ab (o:=2) Z6 rfl;have y0:=AK (o:=0) Z6;have y1:=AK (o:=1) Z6;have y2:=AK (o:=2) Z6)|skip)))
      all_goals go_wp2
      all_goals go_meet
      all_goals first
       | exact⟨_,rfl,AqJ w6 _,by omega,X6.alloc _⟩
       | exact⟨_,rfl,Ve _ _ _ Z6,AqK _,((X6.setCell (AqK _) _).setCell (AqK _) _).setCell (AqK _) _⟩
     case rest=>
      obtain⟨b8,rfl,Du,ApM,Bd⟩:=hcut;obtain⟨W8,rfl⟩:=XF Bd;have r3:=Bd.cellS q3;have jp:=jo.ext Bd;have Zg:=AqH (Ru.out.trans (Pi.out.trans Bd));have HOW:=AqH (AC UA.out (Ae.trans (Pi.out.trans Bd)))
      have UF:∀mx,mx=(Q6 p.1 p.2).elim [] R→Hid (mk22 (FZ bs) ((ks.take (k+1)).map (·.toNat))=l ++ [⟨u,R mn,mx⟩]):=by
       intro mx hmx;refine AqH ?_;obtain⟨e1,e2,e3⟩:=HP.out;rw [HST.out];unfold Ic
       rw [if_neg (by
        rw [←HU.out];intro h
        rcases h with h|h
        ·exact wW (by rw [h];rfl)
        ·exact KC.out h)]
       unfold Q3;rw [←HU.out,←e1,←e2,←e3,←HA.out,←YQ.out,hmx]
      have Ahx:∀k,(Value.slice TV l.length TW).ownBlock=some k→k≠b8:=fun k hk e=>by have h1:=(UA.out.lt k hk).2;have h2:=Ae.size;have h3:=Pi.out.size;omega
      have Ag0:w9.heap.size<=b8:=by have h1:=Ru.out.size;have h2:=Pi.out.size;omega
      clear q1 q2 q3 oc Bd Ae;obtain⟨e,he⟩:=AqG (p.2%8);have hei:((p.2:Nat):Int)%8=(e:Int):=(by omega);have MZ:((p.2:Nat):Int).tmod 8=(e:Int):=(by rw [Int.tmod_eq_emod_of_nonneg (by omega)];exact hei);have Kd:IntKind.wrap .i64 (e:Int)=e:=AqQ _ (by omega);have he8:e<8:=(by omega);have HE:=AqH he;clear he;by_cases h7:e=7
      ·have Ih:=UF [] (by unfold Q6;rw [if_pos (by rw [←HE.out];exact h7)];rfl);have h7i:(e:Int)=7:=(by omega);have h7b:((e:Int) != 7)=false:=(by rw [h7i];rfl);have z0:=Ab (o:=0) Du rfl;have z1:=Ab (o:=1) Du rfl;have z2:=Ab (o:=2) Du rfl;clear UF
       go_wp2_with (at_builtin;go_loud (refine qS rfl _ _ rfl _ w9.heap.size (.slice TV l.length TW) l.length l rfl (AC HOW.out ((Aa.refl W8).alloc _)) (by omega) ⟨u,R mn,[]⟩ W8.heap.size (AqJ _ _) rfl (AqU Zg.out.size ((Aa.refl W8).alloc _).size) ?_);intro v10 w10 hown10 hext10)
       have hnew:=hext10 w9 (Zg.out.trans ((Aa.refl W8).alloc _)) (AqK _);have BN:=AqH (And.intro hown10 hnew);have hl3:(l ++ [(⟨u,R mn,[]⟩:La)]).length<=4:=(by rw [List.length_append,List.length_singleton];omega);clear hown10 hnew hext10 z0 z1 z2;go_wp2;go_roundw
       case rel=>exact⟨k+1,l ++ [⟨u,R mn,[]⟩],by go_num,hkn,Ih.out.symm,hl3,by rw [List.length_append];exact BN.out.1,BN.out.2⟩
       case measure=>simp [intOf];omega
      ·have h7b:((e:Int) != 7)=true:=by rw [bne,beq_false_of_ne (show ¬(e:Int)=7 by omega)];rfl
       have Ih:=UF (R (mn+mkRat (e:Int) 2)) (by unfold Q6;rw [if_neg (by rw [←HE.out];exact h7),←HA.out,←HE.out,YQ.out];rfl);have z1:=Ab (o:=1) Du rfl;have Ahp:=AqI Du;have qf:∀W,Am W→Calls Tryz.prog 9 #[.int .i64 (e:Int),.int .i64 2] W (Bg (R (mkRat (e:Int) 2)) W):=fun W h=>Yg (e:Int) 2 (by omega) (by omega) (by omega) W h;have l1:(R mn).length<=9:=(by rw [YQ.out];exact Zo a (by omega));have l2:(R (mkRat (e:Int) 2)).length<=9:=Zo e he8;obtain⟨qm,fq⟩:=AqG (mkRat (e:Int) 2);rw [←fq]at qf l2 Ih;have ad:=fun W (h:Am W)=>Amb mn qm l1 l2 W h;clear fq UF l1 l2;obtain⟨mx,hmx⟩:=AqG (R (mn+qm));rw [←hmx]at ad Ih;clear hmx
       go_upto_region 10 with fail
       go_cut [] (fun wx=>wx.heap[b8]?=some (.cells #[S u,S (R mn),S mx] 31)/\wx.ownsRow w9.heap.size 31 3 (.slice TV l.length TW) l.length (Bo l)/\Aa w9 wx)
       case first=>
        go_region_held3 (fun w'=>w'.cell? ⟨b8,1,none⟩=some (S (R mn))/\w'.cell? ⟨b7,1,none⟩=some (.int .u8 (p.2:Nat)))
         (first|go_keep|(refine⟨Ab (o:=1) (RI _ Z7) rfl,?_⟩;(rw [World.cell?_setCell_far _ _ _ _ (by simp only [ne_eq];omega)];assumption)))
         (first|((with_reducible refine(qf _ (jp.ext (Aa.refl W8).drew)).mono ?_);rintro e w6 ⟨rfl,Ay⟩;have X6:Aa W8 w6:=(Aa.refl W8).drew.trans Ay;have g1:=X6.cellS z1;have g2:=X6.cellS r3)|((with_reducible refine(ad _ (jp.ext X6)).mono ?_);rintro e w7 ⟨rfl,Aw⟩;have X7:=X6.trans Aw;have i1:=X7.cellS z1;have i2:=X7.cellS r3;have Z7:=(X7.block _ Ahp).trans Du;have y1:=Ab (o:=2) Z7 rfl;have y2:=AK (o:=2) Z7))
        all_goals go_wp2
        all_goals go_meet
        all_goals exact⟨RI _ Z7,CB (K:=fun q=>q=b8) (AC HOW.out X7) ((Au.refl (fun q=>q=b8) w7).setCell (p:=⟨b8,2,none⟩) (.inl rfl) _) (fun q hq e=>Ahx q hq e),(Zg.out.trans X7).setCell Ag0 _⟩
       case rest=>
        obtain⟨Ge,BQ,BM⟩:=hcut;obtain⟨W9,rfl⟩:=XF BM;have pG:=AqH BM;have z0:=Ab (o:=0) Ge rfl;have z1:=Ab (o:=1) Ge rfl;have z2:=Ab (o:=2) Ge rfl;clear BM
        go_wp2_with (at_builtin;go_loud (refine qS rfl _ _ rfl _ w9.heap.size (.slice TV l.length TW) l.length l rfl (AC BQ ((Aa.refl W9).alloc _)) (by omega) ⟨u,R mn,mx⟩ W9.heap.size (AqJ _ _) rfl (AqU pG.out.size ((Aa.refl W9).alloc _).size) ?_);intro v10 w10 hown10 hext10)
        have hnew:=hext10 w9 (pG.out.trans ((Aa.refl W9).alloc _)) (AqK _);have BN:=AqH (And.intro hown10 hnew);have hl3:(l ++ [(⟨u,R mn,mx⟩:La)]).length<=4:=(by rw [List.length_append,List.length_singleton];omega);clear hown10 hnew hext10 z0 z1 z2;go_wp2;go_roundw
        case rel=>exact⟨k+1,l ++ [⟨u,R mn,mx⟩],by go_num,hkn,Ih.out.symm,hl3,by rw [List.length_append];exact BN.out.1,BN.out.2⟩
        case measure=>simp [intOf];omega
  ·have hle:(n:Int)<=(k:Int):=(by omega);have hlk:l=mk22 (FZ bs) (us.map (·.toNat) ++ [0]):=(by rw [YM.out,Rq.out,AqS (by have:=oQ.out;omega)]);have Qc:=kV hown Zh.out.size;go_wp2;go_ret;subst hlk;exact⟨_,rfl,Qc,Zh.out.trans Ac⟩
end Go.Proofs.YtjalkoacphhgdaaGreatDoor
namespace Go.Proofs.YtjalkoacphhgdaaGreatDoor
open Go.RowKit Kl Go.ChangeShapes Go.WideShapes
theorem Aeb:Tryz.prog.cellTypes Tryz.prog.depth 56=some (52::List.replicate 8 5):=by kernel_rfl
theorem Aea:Tryz.prog.cellsOf 56=9:=by kernel_rfl
theorem Adn{w:World}{base:Nat}{v:Value}(h:Cell.okWide Tryz.prog w .any base 5 v):∃u:UInt8,v=.int .u8 (u.toNat:Nat):=by
 obtain⟨n,h1,h2⟩:=Adk Tryz.underlying5 h;have h3:0<=n/\n<=255:=h2;exact⟨UInt8.ofNat n.toNat,by rw [h1,UInt8.toNat_ofNat'];congr 1;omega⟩
section
variable {H : Type} {enc : TypeId × Value → H} {W : World} {sp : Nat → Bool} {held : Bool}
theorem AkL{n:Nat}{A:Option Addr}{len cap:Nat}{y:DataW H×List MemPlace}(hspot:∀a,A=some a→a.spot=none)(hf:DataW.trod enc Tryz.prog W 0 sp held n 52 [.slice A len cap]=some y) :
  ∃us:Bs,len=us.length/\Ad W A (us.map byV)/\(us.length=0∨∃e s,y.1=.slice e s/\e.length=us.length):=by
 have ht:=Tryz.underlying52
 rcases DataW.trod_slice ht hf with⟨hc,_⟩|⟨a,len',cap',elems,rest,n,_,hcs,hy,_,hl,hm,hlen,hel,Jr⟩
 ·simp at hc;obtain⟨rfl,rfl,rfl⟩:=hc;exact⟨[],rfl,⟨fun h=>by simp at h⟩,.inl rfl⟩
 ·simp at hcs;obtain⟨rfl,rfl,rfl⟩:=hcs;have hsp:=hspot a rfl;obtain⟨b,off,spt⟩:=a;simp only at hsp;subst hsp;have hc1:Tryz.prog.cellsOf 5=1:=by kernel_rfl
  have hall:∀i,i<len→∃u:UInt8,W.cell? ⟨b,off+i,none⟩=some (.int .u8 (u.toNat:Nat)):=by
   intro i hi;have h1:=hel i hi;rw [AqP (by omega),hc1,Nat.mul_one,Addr.add_lit]at h1;simp only [Option.bind_eq_some_iff]at h1;obtain⟨c1,hc1,hz⟩:=h1
   have h2:c1 = []∨∃x,c1 = [x]/\W.cell? ⟨b,off+i,none⟩=some x:=by
    unfold World.cells? at hc1;simp only [Nat.zero_le,if_true,List.range_succ,List.range_zero,List.nil_append,List.mapM_cons,List.mapM_nil,Addr.add_lit,Nat.add_zero]at hc1
    cases e0:W.cell? ⟨b,off+i,none⟩with
    | none=>simp [e0]at hc1
    | some x0=>simp [e0]at hc1;exact .inr ⟨x0,hc1.symm,rfl⟩
   obtain⟨s0,a0,_,b0⟩:=DataW.trod_int Tryz.underlying5 hz
   rcases h2 with h2|⟨x,h2,h3⟩
   ·rw [h2]at a0;cases a0
   ·rw [h2]at a0;simp at a0;subst a0;obtain⟨u,hu⟩:=Uv b0;exact⟨u,by rw [h3,hu]⟩
  have fL:∃l:Bs,l.length=len/\∀i (hi:i<l.length),W.cell? ⟨b,off+i,none⟩=some (.int .u8 (l[i].toNat:Nat)):=by
   clear hel hlen hl hm hf Jr hy
   induction len with
   | zero=>exact⟨[],rfl,by simp⟩
   | succ k ih=>
    obtain⟨l,hl,hc⟩:=ih (fun i hi=>hall i (by omega));obtain⟨p,h0⟩:=hall k (by omega);refine⟨l ++ [p],by simp [hl],fun i hi=>?_⟩;by_cases e:i<l.length
    ·rw [List.getElem_append_left e];exact hc i e
    ·have:i=k:=(by simp at hi;omega);subst this;rw [List.getElem_append_right (by omega)];simp only [hl,Nat.sub_self,List.getElem_cons_zero];exact h0
  obtain⟨l,rfl,hc⟩:=fL;refine⟨l,rfl,⟨fun _=>⟨b,off,rfl,fun j hj=>?_⟩⟩,.inr ⟨elems.map (·.1),rest.map (·.1),by rw [hy],by simp [hlen]⟩⟩;rw [List.getElem_map];exact hc j (by simpa using hj)
theorem AkK{b0:Nat}{v:Value}{d:DataW H}{ps:List MemPlace}(hval:Value.okWide Tryz.prog W .any b0 56 v)(h:DataW.Trod enc Tryz.prog W 0 sp held 56 v d ps)(hsz:∀n∈d.weights Tryz.prog 56,n<=reachBytes) :
  ∃(us bs:Bs) (A:Option Addr) (cap:Nat),v=N8 A us.length cap bs/\us.length<=140737488351232/\Ad W A (us.map byV):=by
 simp only [Value.okWide,Tryz.underlying56]at hval;obtain⟨cs,rfl,hsize,ts,Jt,_,hall⟩:=hval;rw [Aeb]at Jt;obtain rfl:=Option.some.inj Jt;rw [Aea]at hsize;obtain⟨l⟩:=cs;have hl:l.length=9:=hsize
 match l,hl with
 | [x0,x1,x2,x3,x4,x5,x6,x7,x8],_=>
  obtain⟨t0,e0,k0⟩:=hall 0 x0 rfl
  have u1:∀(j:Nat) (x:Value),1<=j→j<9→(#[x0,x1,x2,x3,x4,x5,x6,x7,x8]:Array Value)[j]?=some x→∃u:UInt8,x=.int .u8 (u.toNat:Nat):=by
   intro j x h1 h9 hx;obtain⟨t,e,k⟩:=hall j x hx
   have:t=5:=by
    have e':=e;rw [show (52::List.replicate 8 5:List Nat).length=9 from rfl,Nat.mod_eq_of_lt h9]at e';rw [show j=(j-1)+1 by omega,List.getElem?_cons_succ,List.getElem?_replicate]at e'
    split at e'
    ·exact(Option.some.inj e').symm
    ·cases e'
   subst this;exact Adn k
  obtain⟨b1,rfl⟩:=u1 1 x1 (by omega) (by omega) rfl;obtain⟨b2,rfl⟩:=u1 2 x2 (by omega) (by omega) rfl;obtain⟨b3,rfl⟩:=u1 3 x3 (by omega) (by omega) rfl;obtain⟨b4,rfl⟩:=u1 4 x4 (by omega) (by omega) rfl;obtain⟨b5,rfl⟩:=u1 5 x5 (by omega) (by omega) rfl;obtain⟨b6,rfl⟩:=u1 6 x6 (by omega) (by omega) rfl;obtain⟨b7,rfl⟩:=u1 7 x7 (by omega) (by omega) rfl;obtain⟨b8,rfl⟩:=u1 8 x8 (by omega) (by omega) rfl;have ht0:t0=52:=(Option.some.inj e0).symm;subst ht0
  have CN:∃A len cap,x0=.slice A len cap/\∀a,A=some a→a.spot=none:=by
   simp only [Cell.okWide,Tryz.underlying52,Cell.ok]at k0
   cases x0 with
   | slice A len cap=>
    refine⟨A,len,cap,rfl,fun a ha=>?_⟩;subst ha;exact k0.2.2.2.1
   | _=>simp_all
  obtain⟨A,len,cap,rfl,hspot⟩:=CN;obtain⟨fuel,hf⟩:=h;obtain⟨y0,y1,m,hd,-,q0,-⟩:=trod_struct2 Tryz.underlying56 hf;have c0:Tryz.prog.cellsOf 52=1:=(by kernel_rfl);simp only [c0]at q0;obtain⟨us,rfl,hr,hy⟩:=AkL hspot (show DataW.trod enc Tryz.prog W 0 sp held m 52 [.slice A len cap]=some y0 from q0);refine⟨us,[b1,b2,b3,b4,b5,b6,b7,b8],A,cap,rfl,?_,hr⟩
  rcases hy with hy|⟨e,s,hy,he⟩
  ·omega
  ·simp only [Prod.mk.injEq]at hd;rw [hd.1,hy]at hsz;have hb:Tryz.prog.bytesOf 5=1:=(by kernel_rfl);have:=hsz ((e.length+s.length)*Tryz.prog.bytesOf 5) (by simp [DataW.weights,Tryz.underlying56,Tryz.underlying52,DataW.weightsEach]);rw [hb]at this;unfold reachBytes at this;omega
end
end Go.Proofs.YtjalkoacphhgdaaGreatDoor
