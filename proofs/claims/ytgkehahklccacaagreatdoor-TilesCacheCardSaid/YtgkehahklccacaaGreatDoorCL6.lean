import Derived.Test.YtgkehahklccacaaGreatDoorCL2
import Derived.Ground.GgzProg
import Derived.Ground.SlgmProg
namespace Go.Proofs
open Go.RowKit Go.Maps Go.Sort Go.Shelf
theorem Tryz.sorts36 (m:Nat):AnyZ.SortsIn Tryz.prog Tryz.sorted36_ren Fence.wide m :=
 ⟨fun blk off cap ss W hH hblk hsz=>callsIn_wide.2 (AnyM.slices_Sort_string Tryz.sort64 blk off cap ss W hH hblk hsz),
  fun p cap W=>callsIn_wide.2 (AnyM.slices_Sort_string_none Tryz.sort64 p cap W)⟩
theorem Tryz.maps_Keys_37 (mb:Option Nat) (W:World):CallsIn Fence.wide 5 Tryz.prog 87 #[.map mb] W fun e w'=>e=.returned (.func (.func 155) #[] #[.pointer (some ⟨W.heap.size,0,none⟩)])∧w'=W.alloc (.cells #[.map mb] 55) :=
 AnyZ.keys_in Tryz.keys37 Fence.wide 5 trivial rfl mb W
set_option maxHeartbeats 1000000 in
theorem Tryz.slices_Sorted_keys_36_37 {H:Type} (b nn:Nat) (D0:DataW H) (R:Value→Option (DataW H × List MemPlace)) (w:World) (hown:w.ownsMap Tryz.prog 9 R b nn D0) (hmax:Maps.size D0≤maxLen) (hbytes:Maps.size D0 * 16≤140737488355328) :
 CallsIn Fence.wide 5 Tryz.prog 86 #[.func (.func 155) #[] #[.pointer (some ⟨w.heap.size,0,none⟩)]] (w.alloc (.cells #[.map (some b)] 55)) fun e w'=>∃ (v:Value) (ss:List (List UInt8)),e=.returned v∧ss.Perm (strKeys D0) ∧
  w'.ownsRow (w.alloc (.cells #[.map (some b)] 55)).heap.size 9 1 v ss.length ((ss.mergeSort (fun x y=>decide (x≤y))).map encStr)∧(v=.slice none 0 0 ↔ ss=[])∧Below (w.alloc (.cells #[.map (some b)] 55)).heap.size (w.alloc (.cells #[.map (some b)] 55)) w':=by
 have hbl:=hown.lt
 have hseq:SeqGives Fence.wide 2 Tryz.prog 155 #[.pointer (some ⟨w.heap.size,0,none⟩)] encStr (fun ss=>ss.Perm (strKeys D0)) (Maps.size D0) (w.alloc (.cells #[.map (some b)] 55)) :=
  AnyZ.keys_gives (ρ:=Tryz.keys37_ren) { Tryz.keys37 with } Fence.wide _ trivial rfl (by omega) w.heap.size b nn D0 _ (by simp) (by simp) (by
   obtain ⟨es,clock,hb,Ft,hs,hD⟩:=hown
   exact ⟨es,clock,(Below.heap_alloc _ _ b hbl).trans hb,Ft,hs,hD⟩)
 exact AnyZ.sorted_in Tryz.sorted36 Fence.wide 5 trivial trivial trivial trivial rfl (by omega) (Tryz.sorts36 _) (enters_of Tryz.func154 (by kernel_rfl) rfl) 155 #[.pointer (some ⟨w.heap.size,0,none⟩)] trivial (enters_of Tryz.func155 (by kernel_rfl) rfl) _ _ hmax hbytes _ hseq
end Go.Proofs
