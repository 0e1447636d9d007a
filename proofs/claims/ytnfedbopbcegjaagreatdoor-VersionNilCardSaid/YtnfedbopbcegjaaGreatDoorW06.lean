/- W06. -/
import Derived.Shelf.SlIter.Nil
import Derived.Shelf.SortM.Plain
import Derived.Shelf.SortM.SortNone
import Derived.Test.YtnfedbopbcegjaaGreatDoorProg
set_option maxHeartbeats 1000000
namespace Go.Proofs
open Go.Shelf
def Tryz.keys28_ren:Go.Shelf.Ren:=⟨fun|7=>28|10=>50|n=>n,fun|23=>77|26=>9|3=>3|28=>88|0=>0|27=>87|33=>84|4=>4|n=>n,fun|n=>n⟩
theorem Tryz.keys28:Go.Proofs.SlLaysZ.n7 Tryz.prog Tryz.keys28_ren:={
 mixed:=by kernel_rfl
 f7:=⟨Tryz.f28.name,by decide,Tryz.func28.trans (congrArg some (by kernel_rfl))⟩
 f10:=⟨Tryz.f50.name,by decide,Tryz.func50.trans (congrArg some (by kernel_rfl))⟩
 t0:=Tryz.underlying0
 a0:=Tryz.isAgg0
 z0:=Tryz.sizeOf0
 v0:=Tryz.zeroValue0
 t4:=Tryz.underlying4
 a4:=Tryz.isAgg4
 z4:=Tryz.sizeOf4
 v4:=Tryz.zeroValue4
 t23:=Tryz.underlying77
 a23:=Tryz.isAgg77
 z23:=Tryz.sizeOf77
 v23:=Tryz.zeroValue77
 t26:=Tryz.underlying9
 a26:=Tryz.isAgg9
 z26:=Tryz.sizeOf9
 v26:=Tryz.zeroValue9
 t27:=Tryz.underlying87
 a27:=Tryz.isAgg87
 z27:=Tryz.sizeOf87
 v27:=Tryz.zeroValue87
 t28:=Tryz.underlying88
 a28:=Tryz.isAgg88
 z28:=Tryz.sizeOf88
 v28:=Tryz.zeroValue88
 t33:=Tryz.underlying84
 a33:=Tryz.isAgg84
 z33:=Tryz.sizeOf84
 v33:=Tryz.zeroValue84}
def Tryz.sorted27_ren:Go.Shelf.Ren:=⟨fun|6=>27|8=>48|9=>49|11=>95|13=>97|12=>96|23=>175|24=>176|14=>166|15=>167|16=>168|17=>169|18=>170|19=>171|20=>172|21=>173|22=>174|25=>218|26=>219|27=>220|28=>221|29=>222|30=>223|31=>250|n=>n,fun|26=>9|28=>88|24=>33|0=>0|3=>3|37=>173|48=>259|50=>261|4=>4|40=>252|39=>251|45=>83|5=>5|9=>9|51=>301|55=>305|57=>323|58=>324|33=>84|n=>n,fun|n=>n⟩
theorem Tryz.sorted27:Go.Proofs.SlLaysZ.n6 Tryz.prog Tryz.sorted27_ren:={
 mixed:=by kernel_rfl
 f6:=⟨Tryz.f27.name,by decide,Tryz.func27.trans (congrArg some (by kernel_rfl))⟩
 f8:=⟨Tryz.f48.name,by decide,Tryz.func48.trans (congrArg some (by kernel_rfl))⟩
 f11:=⟨Tryz.f95.name,by decide,Tryz.func95.trans (congrArg some (by kernel_rfl))⟩
 t0:=Tryz.underlying0
 a0:=Tryz.isAgg0
 z0:=Tryz.sizeOf0
 v0:=Tryz.zeroValue0
 t24:=Tryz.underlying33
 a24:=Tryz.isAgg33
 z24:=Tryz.sizeOf33
 v24:=Tryz.zeroValue33
 t26:=Tryz.underlying9
 a26:=Tryz.isAgg9
 z26:=Tryz.sizeOf9
 v26:=Tryz.zeroValue9
 t28:=Tryz.underlying88
 a28:=Tryz.isAgg88
 z28:=Tryz.sizeOf88
 v28:=Tryz.zeroValue88
 i26:=by kernel_rfl}
def Tryz.sort49_ren:Go.Shelf.Ren:=⟨fun|6=>49|8=>97|9=>96|19=>175|20=>176|21=>166|22=>167|23=>168|24=>169|25=>170|26=>171|27=>172|28=>173|29=>174|36=>218|31=>219|32=>220|37=>221|38=>222|39=>223|41=>250|n=>n,fun|27=>33|29=>9|3=>3|32=>173|26=>33|0=>0|44=>259|46=>261|4=>4|36=>252|35=>251|41=>83|5=>5|9=>9|53=>301|57=>305|63=>323|64=>324|n=>n,fun|n=>n⟩
theorem Tryz.sort49:Go.Proofs.SlLaysM.n6 Tryz.prog Tryz.sort49_ren:={
 mixed:=by kernel_rfl
 f6:=⟨Tryz.f49.name,by decide,Tryz.func49.trans (congrArg some (by kernel_rfl))⟩
 f8:=Tryz.func97.trans (congrArg some (by kernel_rfl))
 f9:=⟨Tryz.f96.name,by decide,Tryz.func96.trans (congrArg some (by kernel_rfl))⟩
 f19:=Tryz.func175.trans (congrArg some (by kernel_rfl))
 f20:=Tryz.func176.trans (congrArg some (by kernel_rfl))
 f21:=⟨Tryz.f166.name,by decide,Tryz.func166.trans (congrArg some (by kernel_rfl))⟩
 f22:=⟨Tryz.f167.name,by decide,Tryz.func167.trans (congrArg some (by kernel_rfl))⟩
 f23:=⟨Tryz.f168.name,by decide,Tryz.func168.trans (congrArg some (by kernel_rfl))⟩
 f24:=⟨Tryz.f169.name,by decide,Tryz.func169.trans (congrArg some (by kernel_rfl))⟩
 f25:=⟨Tryz.f170.name,by decide,Tryz.func170.trans (congrArg some (by kernel_rfl))⟩
 f26:=⟨Tryz.f171.name,by decide,Tryz.func171.trans (congrArg some (by kernel_rfl))⟩
 f27:=⟨Tryz.f172.name,by decide,Tryz.func172.trans (congrArg some (by kernel_rfl))⟩
 f28:=⟨Tryz.f173.name,by decide,Tryz.func173.trans (congrArg some (by kernel_rfl))⟩
 f29:=⟨Tryz.f174.name,by decide,Tryz.func174.trans (congrArg some (by kernel_rfl))⟩
 f31:=Tryz.func219.trans (congrArg some (by kernel_rfl))
 f32:=Tryz.func220.trans (congrArg some (by kernel_rfl))
 f36:=⟨Tryz.f218.name,by decide,Tryz.func218.trans (congrArg some (by kernel_rfl))⟩
 f37:=⟨Tryz.f221.name,by decide,Tryz.func221.trans (congrArg some (by kernel_rfl))⟩
 f38:=⟨Tryz.f222.name,by decide,Tryz.func222.trans (congrArg some (by kernel_rfl))⟩
 f39:=⟨Tryz.f223.name,by decide,Tryz.func223.trans (congrArg some (by kernel_rfl))⟩
 f41:=⟨Tryz.f250.name,by decide,Tryz.func250.trans (congrArg some (by kernel_rfl))⟩
 t0:=Tryz.underlying0
 a0:=Tryz.isAgg0
 z0:=Tryz.sizeOf0
 v0:=Tryz.zeroValue0
 t3:=Tryz.underlying3
 a3:=Tryz.isAgg3
 z3:=Tryz.sizeOf3
 v3:=Tryz.zeroValue3
 t4:=Tryz.underlying4
 a4:=Tryz.isAgg4
 z4:=Tryz.sizeOf4
 v4:=Tryz.zeroValue4
 t5:=Tryz.underlying5
 a5:=Tryz.isAgg5
 z5:=Tryz.sizeOf5
 v5:=Tryz.zeroValue5
 t9:=Tryz.underlying9
 a9:=Tryz.isAgg9
 z9:=Tryz.sizeOf9
 v9:=Tryz.zeroValue9
 t26:=Tryz.underlying33
 a26:=Tryz.isAgg33
 z26:=Tryz.sizeOf33
 v26:=Tryz.zeroValue33
 t27:=Tryz.underlying33
 a27:=Tryz.isAgg33
 z27:=Tryz.sizeOf33
 v27:=Tryz.zeroValue33
 t29:=Tryz.underlying9
 a29:=Tryz.isAgg9
 z29:=Tryz.sizeOf9
 v29:=Tryz.zeroValue9
 t32:=Tryz.underlying173
 a32:=Tryz.isAgg173
 z32:=Tryz.sizeOf173
 v32:=Tryz.zeroValue173
 t35:=Tryz.underlying251
 a35:=Tryz.isAgg251
 z35:=Tryz.sizeOf251
 v35:=Tryz.zeroValue251
 t36:=Tryz.underlying252
 a36:=Tryz.isAgg252
 z36:=Tryz.sizeOf252
 v36:=Tryz.zeroValue252
 t41:=Tryz.underlying83
 a41:=Tryz.isAgg83
 z41:=Tryz.sizeOf83
 v41:=Tryz.zeroValue83
 t44:=Tryz.underlying259
 a44:=Tryz.isAgg259
 z44:=Tryz.sizeOf259
 v44:=Tryz.zeroValue259
 t46:=Tryz.underlying261
 a46:=Tryz.isAgg261
 z46:=Tryz.sizeOf261
 v46:=Tryz.zeroValue261
 t53:=Tryz.underlying301
 a53:=Tryz.isAgg301
 z53:=Tryz.sizeOf301
 v53:=Tryz.zeroValue301
 t57:=Tryz.underlying305
 a57:=Tryz.isAgg305
 z57:=Tryz.sizeOf305
 v57:=Tryz.zeroValue305
 t63:=Tryz.underlying323
 a63:=Tryz.isAgg323
 z63:=Tryz.sizeOf323
 v63:=Tryz.zeroValue323
 t64:=Tryz.underlying324
 a64:=Tryz.isAgg324
 z64:=Tryz.sizeOf324
 v64:=Tryz.zeroValue324}
def Tryz.keys36_ren:Go.Shelf.Ren:=⟨fun|7=>36|10=>65|n=>n,fun|23=>94|26=>9|3=>26|28=>88|0=>0|27=>87|33=>84|4=>4|n=>n,fun|n=>n⟩
theorem Tryz.keys36:Go.Proofs.SlLaysZ.n7 Tryz.prog Tryz.keys36_ren:={
 mixed:=by kernel_rfl
 f7:=⟨Tryz.f36.name,by decide,Tryz.func36.trans (congrArg some (by kernel_rfl))⟩
 f10:=⟨Tryz.f65.name,by decide,Tryz.func65.trans (congrArg some (by kernel_rfl))⟩
 t0:=Tryz.underlying0
 a0:=Tryz.isAgg0
 z0:=Tryz.sizeOf0
 v0:=Tryz.zeroValue0
 t4:=Tryz.underlying4
 a4:=Tryz.isAgg4
 z4:=Tryz.sizeOf4
 v4:=Tryz.zeroValue4
 t23:=Tryz.underlying94
 a23:=Tryz.isAgg94
 z23:=Tryz.sizeOf94
 v23:=Tryz.zeroValue94
 t26:=Tryz.underlying9
 a26:=Tryz.isAgg9
 z26:=Tryz.sizeOf9
 v26:=Tryz.zeroValue9
 t27:=Tryz.underlying87
 a27:=Tryz.isAgg87
 z27:=Tryz.sizeOf87
 v27:=Tryz.zeroValue87
 t28:=Tryz.underlying88
 a28:=Tryz.isAgg88
 z28:=Tryz.sizeOf88
 v28:=Tryz.zeroValue88
 t33:=Tryz.underlying84
 a33:=Tryz.isAgg84
 z33:=Tryz.sizeOf84
 v33:=Tryz.zeroValue84}
end Go.Proofs
namespace Go.Proofs
open Go.RowKit Go.Maps Go.Sort Go.Shelf
theorem Tryz.sorts27(m:Nat):AnyZ.SortsIn Tryz.prog Tryz.sorted27_ren Fence.wide m:=
 ⟨fun blk off cap ss W hH hblk hsz=>callsIn_wide.2 (AnyM.slices_Sort_string Tryz.sort49 blk off cap ss W hH hblk hsz),
  fun p cap W=>callsIn_wide.2 (AnyM.slices_Sort_string_none Tryz.sort49 p cap W)⟩
theorem Tryz.maps_Keys_28(mb:Option Nat)(W:World):CallsIn Fence.wide 5 Tryz.prog 28 #[.map mb] W fun e w'=>e=.returned (.func (.func 50) #[] #[.pointer (some ⟨W.heap.size,0,none⟩)])/\w'=W.alloc (.cells #[.map mb] 77):=
 AnyZ.keys_in Tryz.keys28 Fence.wide 5 trivial rfl mb W
theorem Tryz.slices_Sorted_keys_27_28{H:Type}(b nn:Nat)(D0:DataW H)(R:Value→Option (DataW H×List MemPlace))(w:World)(hown:w.ownsMap Tryz.prog 9 R b nn D0)(hmax:Maps.size D0<=maxLen)(hbytes:Maps.size D0*16<=140737488355328) :
  CallsIn Fence.wide 5 Tryz.prog 27 #[.func (.func 50) #[] #[.pointer (some ⟨w.heap.size,0,none⟩)]] (w.alloc (.cells #[.map (some b)] 77)) fun e w'=>∃(v:Value) (ss:List (List UInt8)),e=.returned v/\ss.Perm (strKeys D0)/\
   w'.ownsRow (w.alloc (.cells #[.map (some b)] 77)).heap.size 9 1 v ss.length ((ss.mergeSort (fun x y=>decide (x<=y))).map encStr)/\(v=.slice none 0 0↔ss = [])/\Below (w.alloc (.cells #[.map (some b)] 77)).heap.size (w.alloc (.cells #[.map (some b)] 77)) w':=by
 have hbl:=hown.lt
 have hseq:SeqGives Fence.wide 2 Tryz.prog 50 #[.pointer (some ⟨w.heap.size,0,none⟩)] encStr (fun ss=>ss.Perm (strKeys D0)) (Maps.size D0) (w.alloc (.cells #[.map (some b)] 77)):=
  AnyZ.keys_gives (ρ:=Tryz.keys28_ren) {Tryz.keys28 with} Fence.wide _ trivial rfl (by omega) w.heap.size b nn D0 _ (by simp) (by simp) (by
   obtain⟨es,clock,hb,Ft,hs,hD⟩:=hown
   exact⟨es,clock,(Below.heap_alloc _ _ b hbl).trans hb,Ft,hs,hD⟩)
 exact AnyZ.sorted_in Tryz.sorted27 Fence.wide 5 trivial trivial trivial trivial rfl (by omega) (Tryz.sorts27 _) (enters_of Tryz.func49 (by kernel_rfl) rfl) 50 #[.pointer (some ⟨w.heap.size,0,none⟩)] trivial (enters_of Tryz.func50 (by kernel_rfl) rfl) _ _ hmax hbytes _ hseq
theorem Tryz.maps_Keys_36(mb:Option Nat)(W:World):CallsIn Fence.wide 5 Tryz.prog 36 #[.map mb] W fun e w'=>e=.returned (.func (.func 65) #[] #[.pointer (some ⟨W.heap.size,0,none⟩)])/\w'=W.alloc (.cells #[.map mb] 94):=
 AnyZ.keys_in Tryz.keys36 Fence.wide 5 trivial rfl mb W
theorem Tryz.slices_Sorted_keys_27_36{H:Type}(b nn:Nat)(D0:DataW H)(R:Value→Option (DataW H×List MemPlace))(w:World)(hown:w.ownsMap Tryz.prog 9 R b nn D0)(hmax:Maps.size D0<=maxLen)(hbytes:Maps.size D0*16<=140737488355328) :
  CallsIn Fence.wide 5 Tryz.prog 27 #[.func (.func 65) #[] #[.pointer (some ⟨w.heap.size,0,none⟩)]] (w.alloc (.cells #[.map (some b)] 94)) fun e w'=>∃(v:Value) (ss:List (List UInt8)),e=.returned v/\ss.Perm (strKeys D0)/\
   w'.ownsRow (w.alloc (.cells #[.map (some b)] 94)).heap.size 9 1 v ss.length ((ss.mergeSort (fun x y=>decide (x<=y))).map encStr)/\(v=.slice none 0 0↔ss = [])/\Below (w.alloc (.cells #[.map (some b)] 94)).heap.size (w.alloc (.cells #[.map (some b)] 94)) w':=by
 have hbl:=hown.lt
 have hseq:SeqGives Fence.wide 2 Tryz.prog 65 #[.pointer (some ⟨w.heap.size,0,none⟩)] encStr (fun ss=>ss.Perm (strKeys D0)) (Maps.size D0) (w.alloc (.cells #[.map (some b)] 94)):=
  AnyZ.keys_gives (ρ:=Tryz.keys36_ren) {Tryz.keys36 with} Fence.wide _ trivial rfl (by omega) w.heap.size b nn D0 _ (by simp) (by simp) (by
   obtain⟨es,clock,hb,Ft,hs,hD⟩:=hown
   exact⟨es,clock,(Below.heap_alloc _ _ b hbl).trans hb,Ft,hs,hD⟩)
 exact AnyZ.sorted_in Tryz.sorted27 Fence.wide 5 trivial trivial trivial trivial rfl (by omega) (Tryz.sorts27 _) (enters_of Tryz.func49 (by kernel_rfl) rfl) 65 #[.pointer (some ⟨w.heap.size,0,none⟩)] trivial (enters_of Tryz.func65 (by kernel_rfl) rfl) _ _ hmax hbytes _ hseq
end Go.Proofs
