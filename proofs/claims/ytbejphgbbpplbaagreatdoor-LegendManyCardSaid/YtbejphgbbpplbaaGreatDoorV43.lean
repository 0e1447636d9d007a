/- V43: LM2. -/
import Derived.Test.YtbejphgbbpplbaaGreatDoorV42
namespace Kl
def Cb(n:Nat):List Bs:=(List.range n).map fun (i:Nat)=>(117:UInt8)::R ((i:Int):Rat)
theorem Akt(n:Nat):(Cb n).length=n:=by simp [Cb]
theorem Akv(n:Nat):Cb (n+1)=Cb n ++ [117::R ((n:Int):Rat)]:=by simp [Cb,List.range_succ]
def Cf:List La:=[⟨[65],[48],[]⟩]
def EX(k:Nat):Bs:=49::List.replicate k 48
def Fq(k:Nat):List La:=[⟨[65],[48],EX k⟩]
theorem Vv(k:Nat):(EX k).length=k+1:=by simp [EX]
theorem wH(k:Nat):EX k ++ [48]=EX (k+1):=by simp [EX,List.replicate_succ']
theorem jV(k:Nat):D (10^k)=EX k:=by
 induction k with
 | zero=>rw [EE (by decide)];rfl
 | succ k ih=>
  have h1:1<=10^k:=Nat.one_le_pow _ _ (by omega);have e:10^(k+1)=10^k*10:=Nat.pow_succ ..;rw [Ot (by omega),e,Nat.mul_div_cancel _ (by omega),Nat.mul_mod_left,ih,←wH]
  rfl
theorem lP(k:Nat):R (((10^k:Nat):Int):Rat)=EX k:=by rw [lN,DU,jV]
theorem Ah1{k:Nat}(hk:k<200):BK (R (((10^k:Nat):Int):Rat)):=by
 refine⟨_,rfl,?_,?_⟩
 ·rw [Rat.num_intCast,Int.natAbs_natCast,jV,Vv];omega
 ·rw [Rat.den_intCast];decide +kernel
theorem Abh:Ht Cf=0:=by
 have h1:colS [] ⟨[65],R 0,(none:Option Rat).elim [] R⟩=0:=QU fQ (by intro q h;cases h) (by decide +kernel) (by simp) (by decide +kernel);simp only [Option.elim_none]at h1;rw [XW]at h1;unfold Ht Cf;rw [if_neg (by decide),if_neg (by decide)];simp only [I4,h1,if_true]
theorem Abi{k:Nat}(hk:k<200):Ht (Fq k)=0:=by
 have h1:colS [] ⟨[65],R 0,(some ((((10^k:Nat):Int):Rat))).elim [] R⟩=0:=QU fQ (by
  rintro q ⟨rfl⟩;refine⟨Ah1 hk,?_,?_⟩
  ·rw [lP];simp [EX]
  ·exact Rat.intCast_nonneg.2 (Int.natCast_nonneg _)) (by decide +kernel) (by simp) (by decide +kernel)
 simp only [Option.elim_some]at h1;rw [XW,lP]at h1;unfold Ht Fq;rw [if_neg (by simp),if_neg (by simp)];simp only [I4,h1,if_true]
theorem qh:Cz [[65]] = [[65]]:=by rw [jJ];decide +kernel
theorem Ajw(c:List La):EC c [[65]] = [[65]]:=by rw [iZ];rfl
theorem AjX(k:Nat):textU (Fq k) [65] = [48,32,116,111,32]++EX k:=by
 unfold textU Fq;simp only [List.foldl_cons,List.foldl_nil,Gd,if_true,SV];rw [if_neg (by simp [EX])]
 rfl
theorem oO(k:Nat):Cg (Fq k) (EC (Fq k) (Cz [[65]])) = [⟨[65],[97],1,[48,32,116,111,32]++EX k⟩]:=by
 rw [qh,Ajw,←AjX];rfl
theorem qK(k:Nat):I5 (Fq k) [[65]]=if 75<k+1 then 16 else 0:=by
 have h1:(([[65]]:List Bs).any fun u=>!nameB u)=false:=(by decide);have h2:¬20<([[65]]:List Bs).length:=by decide
 have h3:([(⟨[65],[97],1,[48,32,116,111,32]++EX k⟩:En)].any fun x=>decide (80<x.t.length))=decide (75<k+1):=by simp only [List.any_cons,List.any_nil,Bool.or_false,List.length_append,Vv];exact decide_eq_decide.2 (by simp only [List.length_cons,List.length_nil];omega)
 unfold I5;rw [oO,qh,h1,h3];simp only [Bool.false_eq_true,if_false,if_neg h2,decide_eq_true_eq]
def uM(F:List Bs):List Bs:=Go.Lib.compact (DL (fun x y=>decide (x<=y)) F.length (F.filter (fun s=>s != [])))
def sM(c:List La)(l:List Bs):List Bs:=DL (fun x y=>!decide (DC c y x<0)) l.length l
def Li(n:Nat):Bool:=
 (uM (Cb n)).all nameB&&(decide ((uM (Cb n)).length=n)&&((Cg Cf (sM Cf (uM (Cb n)))).all (fun x=>decide (x.t.length<=80))&&((Cg Cf (sM Cf (uM (Cb n)))).all (fun e=>decide (e.u.length<1000000)&&(decide (e.s.length<1000000)&&decide (e.t.length<1000000)))&&(decide (20<n)||decide (EN (Cg Cf (sM Cf (uM (Cb n))))=0)))))
def SR(n:Nat):List En:=Cg Cf (EC Cf (Cz (Cb n)))
theorem AgA{n:Nat}(h:Li n=true):I5 Cf (Cb n)=(if 20<n then 4 else 0)/\(SR n).length=n/\(¬20<n→EN (SR n)=0)/\∀e∈SR n,e.u.length<1000000/\e.s.length<1000000/\e.t.length<1000000:=by
 have eu:uM (Cb n)=Cz (Cb n):=(jJ _).symm;have es:sM Cf (Cz (Cb n))=EC Cf (Cz (Cb n)):=(iZ _ _).symm;unfold Li at h;rw [eu,es]at h;simp only [Bool.and_eq_true,List.all_eq_true,decide_eq_true_eq,Bool.or_eq_true]at h;obtain⟨h1,h2,h3,h5,h4⟩:=h;refine⟨?_,?_,?_,fun e he=>?_⟩
 ·unfold I5
  have a1:(Cz (Cb n)).any (fun u=>!nameB u)=false:=by rw [List.any_eq_false];intro u hu;rw [h1 u hu];simp
  have a3:(Cg Cf (EC Cf (Cz (Cb n)))).any (fun x=>decide (80<x.t.length))=false:=by rw [List.any_eq_false];intro x hx;have:=h3 x hx;simp;omega
  rw [a1,a3,if_neg (by simp),h2];by_cases h:20<n
  ·rw [if_pos h,if_pos h]
  ·rw [if_neg h,if_neg h,if_neg (by simp)]
 ·unfold SR;rw [Nq];show (List.mergeSort _ _).length=n;rw [List.length_mergeSort,h2]
 ·intro h
  rcases h4 with k|k
  ·exact absurd k h
  ·exact k
 ·have:=h5 e he;exact⟨this.1,this.2.1,this.2.2⟩
theorem Ag2:Li 18=true:=by decide +kernel
theorem Ag3:Li 19=true:=by decide +kernel
theorem Ag4:Li 20=true:=by decide +kernel
theorem Ag5:Li 21=true:=by decide +kernel
theorem Ag6:Li 22=true:=by decide +kernel
theorem Ag7:Li 23=true:=by decide +kernel
theorem Ag8{n:Nat}(h1:18<=n)(h2:n<=23):Li n=true:=by
 have:n=18∨n=19∨n=20∨n=21∨n=22∨n=23:=by omega
 rcases this with rfl|rfl|rfl|rfl|rfl|rfl
 ·exact Ag2
 ·exact Ag3
 ·exact Ag4
 ·exact Ag5
 ·exact Ag6
 ·exact Ag7
end Kl
