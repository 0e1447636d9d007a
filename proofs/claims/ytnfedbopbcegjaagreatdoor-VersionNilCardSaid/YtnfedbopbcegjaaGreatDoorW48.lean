/- W48. -/
import Derived.Test.YtnfedbopbcegjaaGreatDoorW45
set_option maxRecDepth 100000
set_option maxHeartbeats 8000000
namespace Go.Proofs.YtnfedbopbcegjaaGreatDoor
open Go.RowKit Kl Go.Maps Go.Sort Go.Shelf
def J3:Bs:=[100,114,97,102,116]
def fp(w:World)(e:Ending)(w':World):Prop:=
 ∃base ba bm f,w.heap.size<=base/\e=.returned (.tuple #[Ch ba,.bool true])/\Aa w w'/\BR base ba bm [97,99] [((-1:Int),0,97),((0:Int),1,99)] 2 f w'/\f By=some 1/\f J3=some 0/\∀l,(f l).isSome=true↔l=J3∨l=By
theorem jR(w:World)(hw:Ak w):Calls Tryz.prog 6 #[] w (fp w):=by
 have mk:=fun W (h:Aa w W)=>Aek W (hw.ext h);have CM:=AjM w (.cells #[.int .u8 0,.int .u8 0,.int .u8 0,.int .u8 0,.int .u8 0,.int .u8 0,.int .u8 0,.int .u8 0,.int .u8 0,.int .u8 0,.int .u8 0,.int .u8 0,.int .u8 0,.int .u8 0,.int .u8 0,.int .u8 0,.int .u8 0,.int .u8 0,.int .u8 0,.int .u8 0,.int .u8 0,.int .u8 0,.int .u8 0,.int .u8 0,.int .u8 0,.int .u8 0,.int .u8 0,.int .u8 0,.int .u8 0] 71);have hx0:=(Aa.refl w).alloc (.cells #[.int .u8 0,.int .u8 0,.int .u8 0,.int .u8 0,.int .u8 0,.int .u8 0,.int .u8 0,.int .u8 0,.int .u8 0,.int .u8 0,.int .u8 0,.int .u8 0,.int .u8 0,.int .u8 0,.int .u8 0,.int .u8 0,.int .u8 0,.int .u8 0,.int .u8 0,.int .u8 0,.int .u8 0,.int .u8 0,.int .u8 0,.int .u8 0,.int .u8 0,.int .u8 0,.int .u8 0,.int .u8 0,.int .u8 0] 71);go_enter Tryz.func6,Tryz.ntmps6
 go_upto_region 2 with fail
 generalize w.alloc (.cells #[.int .u8 0,.int .u8 0,.int .u8 0,.int .u8 0,.int .u8 0,.int .u8 0,.int .u8 0,.int .u8 0,.int .u8 0,.int .u8 0,.int .u8 0,.int .u8 0,.int .u8 0,.int .u8 0,.int .u8 0,.int .u8 0,.int .u8 0,.int .u8 0,.int .u8 0,.int .u8 0,.int .u8 0,.int .u8 0,.int .u8 0,.int .u8 0,.int .u8 0,.int .u8 0,.int .u8 0,.int .u8 0,.int .u8 0] 71)=V0 at *;obtain⟨bp,Aw⟩:=AjJ w.heap.size;have hle:w.heap.size<=bp:=Nat.le_of_eq Aw.symm;rw [←Aw]at CM ⊢;clear Aw;have f0:=Ao (o:=0) CM;have g0:V0.cell? ⟨bp,0,none⟩=some (.int .u8 0):=Ab CM rfl;have hx1:=hx0.setCell (p:=⟨bp,0,none⟩) hle (.int .u8 1)
 have DT:(V0.setCell ⟨bp,0,none⟩ (.int .u8 1)).heap[bp]?=some (.cells #[.int .u8 1,.int .u8 0,.int .u8 0,.int .u8 0,.int .u8 0,.int .u8 0,.int .u8 0,.int .u8 0,.int .u8 0,.int .u8 0,.int .u8 0,.int .u8 0,.int .u8 0,.int .u8 0,.int .u8 0,.int .u8 0,.int .u8 0,.int .u8 0,.int .u8 0,.int .u8 0,.int .u8 0,.int .u8 0,.int .u8 0,.int .u8 0,.int .u8 0,.int .u8 0,.int .u8 0,.int .u8 0,.int .u8 0] 71):=by simp only [World.setCell,Array.getElem?_modify,CM];rfl
 clear CM hx0
 go_upto_region 3 with fail
 clear f0 g0;generalize V0.setCell ⟨bp,0,none⟩ (.int .u8 1)=V1 at *;have f0:=Ao (o:=6) DT;have g0:V1.cell? ⟨bp,6,none⟩=some (.int .u8 0):=Ab DT rfl;have hx2:=hx1.setCell (p:=⟨bp,6,none⟩) hle (.int .u8 1)
 have hp:(V1.setCell ⟨bp,6,none⟩ (.int .u8 1)).heap[bp]?=some (.cells #[.int .u8 1,.int .u8 0,.int .u8 0,.int .u8 0,.int .u8 0,.int .u8 0,.int .u8 1,.int .u8 0,.int .u8 0,.int .u8 0,.int .u8 0,.int .u8 0,.int .u8 0,.int .u8 0,.int .u8 0,.int .u8 0,.int .u8 0,.int .u8 0,.int .u8 0,.int .u8 0,.int .u8 0,.int .u8 0,.int .u8 0,.int .u8 0,.int .u8 0,.int .u8 0,.int .u8 0,.int .u8 0,.int .u8 0] 71):=by simp only [World.setCell,Array.getElem?_modify,DT];rfl
 clear DT hx1
 go_upto_region 4 with fail
 clear f0 g0;generalize V1.setCell ⟨bp,6,none⟩ (.int .u8 1)=V at *;obtain⟨cs,hcs⟩:=AjJ ((LO p47).toArray);have hV:O6 p47=.agg cs:=(by rw [hcs];rfl);have hin:(Tryz.prog.info? 71).map (·.size)=some cs.size:=(by rw [hcs];exact wQ);rw [hV]at mk;replace hp:V.heap[bp]?=some (.cells cs 71):=(by rw [hcs];exact hp);have m1:=mk V hx2;clear hcs hV mk
 go_wp2_with (first|(refine uN rfl 71 (.tmp 2) rfl V bp rfl 71 cs _ hp Tryz.underlying71 rfl hin ?_)|((with_reducible refine m1.mono ?_);rintro e w1 ⟨A,B,F,c,d,g,rfl,A7,r1,r2,r3,hx3⟩;unfold AE))
 have B8:=hx2.trans hx3;clear m1 hx2 hx3 hp hin;have bg:=sr A B F c d g w1 (hw.ext B8) A7 r1 r2 r3 (fun x hx=>by obtain⟨b,o,e,hc⟩:=r3.ad (by decide);rw [e]at hx;cases hx;have:=hc 0 (by decide);unfold World.cell? at this;rcases Nat.lt_or_ge b w1.heap.size with h'|h';exact h';simp [Array.getElem?_eq_none h']at this);unfold AE By at *;clear A7 r1 r2 r3;(go_wp2_with fail);(with_reducible refine bg.mono ?_);rintro e w2 ⟨ba,bm,rfl,hx2,hA⟩;have Bu:=B8.trans hx2;have el:=AjM w2 (.cells #[.int .i64 1,S (R (1/2)),S (R (1/2)),S [],S [],S [],S [],S [99]] 35);have ex:=(Aa.refl w2).alloc (.cells #[.int .i64 1,S (R (1/2)),S (R (1/2)),S [],S [],S [],S [],S [99]] 35);have cm:=iI (hw.ext (Bu.trans ex)) (hA.ext ex) 0 97 99 (by decide) (.inr (.inl rfl)) (by decide) rfl (by decide) (by rfl) rfl (some ⟨w2.heap.size,0,none⟩) 1 [110,101,119] (by decide) (Ad.blk el) (fun x hx=>by cases hx;exact⟨_,_,el⟩);unfold By at cm;rw [show R (1/2) = [49,47,50] by decide +kernel]at cm ex;have HX:=AjK B8;clear bg el hA B8;(go_wp2_with fail);(with_reducible refine cm.mono ?_);rintro e w3 ⟨rfl,hC,xC,-⟩;have br:=fV hC J3 (by decide) (by decide) (by decide) (by decide) (by decide);unfold J3 at br;have lh:=AjK (xC w (Bu.trans ex) HX.out.size);clear cm xC hC ex Bu hx2;(go_wp2_with fail);(with_reducible refine br.mono ?_);rintro e w4 ⟨h4,-,x4⟩;obtain⟨rfl,hD⟩:=h4 (by decide);have HF:=AjK (And.intro (x4 w lh.out HX.out.size) hD);clear br h4 x4 hD;go_wp2;go_ret2;refine⟨w1.heap.size,ba,bm,_,HX.out.size,rfl,HF.out.1,HF.out.2,by decide,by decide,fun l=>?_⟩;unfold J3;by_cases e1:l = [100,114,97,102,116]
 ·simp [e1]
 ·by_cases e2:l = [109,97,105,110]
  ·simp [e2,By]
  ·simp [e1,e2,By]
end Go.Proofs.YtnfedbopbcegjaaGreatDoor
