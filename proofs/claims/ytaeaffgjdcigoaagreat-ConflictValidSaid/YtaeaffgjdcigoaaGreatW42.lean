/- A part of the proof: KcN. -/
import Derived.Test.YtaeaffgjdcigoaaGreatW13
import Derived.Shelf.SlIterI.Nil
import Derived.Shelf.SortM.Plain
import Derived.Shelf.SortM.SortNone
import Derived.Test.YtaeaffgjdcigoaaGreatKy1
set_option linter.all false
namespace Go.Proofs
open Go.RowKit Go.Maps Go.Sort Go.Shelf
theorem Tryz.sortsA (m : Nat) : AnyZI.SortsIn Tryz.prog Tryz.sortedA_ren Fence.wide m :=
  ⟨fun blk off cap ss W hH hblk hsz => callsIn_wide.2 (AnyM.slices_Sort_int Tryz.sortA blk off cap ss W hH hblk hsz),
   fun p cap W => callsIn_wide.2 (AnyM.slices_Sort_int_none Tryz.sortA p cap W)⟩
set_option maxHeartbeats 1000000 in
theorem Tryz.sortedGo (b nn Bx:Nat)(D0:DataW Unit)(R:Value->Option (DataW Unit×List MemPlace))(w:World)(hBx:Bx<w.heap.size)(hm:w.cell? ⟨Bx,0,none⟩=some (.map (some b)))(hown:w.ownsMap Tryz.prog 3 R b nn D0)(hmax:Maps.size D0<=maxLen)(hbytes:Maps.size D0*8<=140737488355328):Calls Tryz.prog 56 #[.func (.func 125) #[] #[.pointer (some ⟨Bx,0,none⟩)]] w λe w'=>∃ (v:Value) (ss:List Int),e=.returned v/\ss.Perm (intKeys D0) /\ w'.ownsRow w.heap.size 3 1 v ss.length ((ss.mergeSort (λx y=>decide (x<=y))).map encZ)/\(v=.slice none 0 0↔ss=[])/\Below w.heap.size w w':=by
 refine (callsIn_wide (n:=5)).1 ?_;have hseq:SeqGives Fence.wide 2 Tryz.prog 125 #[.pointer (some ⟨Bx,0,none⟩)] encZ (λss=>ss.Perm (intKeys D0)) (Maps.size D0) w :=
  AnyZI.keys_gives (ρ:=Tryz.keysA_ren) { Tryz.keysA with } Fence.wide _ trivial rfl (by omega) Bx b nn D0 _ hBx hm hown
 exact AnyZI.sorted_in Tryz.sortedA Fence.wide 5 trivial trivial trivial trivial rfl (by omega) (Tryz.sortsA _) (enters_of Tryz.func124 (by kernel_rfl) rfl) 125 #[.pointer (some ⟨Bx,0,none⟩)] trivial (enters_of Tryz.func125 (by kernel_rfl) rfl) _ _ hmax hbytes _ hseq
end Go.Proofs
