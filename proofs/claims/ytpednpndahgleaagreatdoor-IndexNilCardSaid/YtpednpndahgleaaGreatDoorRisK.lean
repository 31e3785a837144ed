/- A set's keys, rising: the contract of the index's rising, by the library's contracts. -/
import Derived.Test.YtpednpndahgleaaGreatDoorShelfP
import Derived.Shelf.SlIterI.Nil
import Derived.Lib.SlKeysI
set_option linter.unusedSimpArgs false
set_option linter.unusedVariables false
namespace Go.Proofs.YtpednpndahgleaaGreatDoor.Av
open Go Go.Proofs Go.RowKit Go.Maps Go.Sort Go.Shelf
set_option maxRecDepth 100000

theorem ris_sorts (m : Nat) : AnyZI.SortsIn Tryz.prog Tryz.sortedA_ren Fence.wide m :=
  ⟨fun blk off cap ss W hH hblk hsz => callsIn_wide.2 (Tryz.slices_Sort_int blk off cap ss W hH hblk hsz),
   fun p cap W => callsIn_wide.2 (Tryz.slices_Sort_int_none p cap W)⟩

set_option maxHeartbeats 2000000 in
theorem ris_calls {H : Type} (b nn : Nat) (D0 : DataW H) (R : Value → Option (DataW H × List MemPlace)) (w : World) (hown : w.ownsMap Tryz.prog 3 R b nn D0) (hmax : Maps.size D0 ≤ maxLen) (hbytes : Maps.size D0 * 8 ≤ 140737488355328) :
    Calls Tryz.prog 47 #[.map (some b)] w fun e w' => ∃ (v : Value) (ss : List Int), e = .returned v ∧ ss.Perm (intKeys D0) ∧
      w'.ownsRow w.heap.size 3 1 v ss.length ((ss.mergeSort (fun x y => decide (x ≤ y))).map encZ) ∧ (v = .slice none 0 0 ↔ ss = []) ∧ Below w.heap.size w w' := by
  refine (callsIn_wide (n := 6)).1 ?_
  have hbl := hown.lt
  have hseq : SeqGives Fence.wide 2 Tryz.prog 117 #[.pointer (some ⟨w.heap.size, 0, none⟩)] encZ (fun ss => ss.Perm (intKeys D0)) (Maps.size D0) (w.alloc (.cells #[.map (some b)] 70)) :=
    AnyZI.keys_gives (ρ := Tryz.keysA_ren) { Tryz.keysA with } Fence.wide _ trivial rfl (by omega) w.heap.size b nn D0 _ (by simp) (by simp) (by
      obtain ⟨es, clock, hb, Ft, hs, hD⟩ := hown
      exact ⟨es, clock, (Below.heap_alloc _ _ b hbl).trans hb, Ft, hs, hD⟩)
  have cK : ∀ mb W, CallsIn Fence.wide 5 Tryz.prog 83 #[.map mb] W fun e w' => e = .returned (.func (.func 117) #[] #[.pointer (some ⟨W.heap.size, 0, none⟩)]) ∧ w' = W.alloc (.cells #[.map mb] 70) := fun mb W => AnyZI.keys_in Tryz.keysA Fence.wide 5 trivial rfl mb W
  have cS := AnyZI.sorted_in Tryz.sortedA Fence.wide 5 trivial trivial trivial trivial rfl (by omega) (ris_sorts _) (enters_of Tryz.func81 (by kernel_rfl) rfl) 117 #[.pointer (some ⟨w.heap.size, 0, none⟩)] trivial (enters_of Tryz.func117 (by kernel_rfl) rfl) _ _ hmax hbytes _ hseq
  change CallsIn _ _ Tryz.prog 45 _ _ _ at cS
  have hfK : Fence.wide.fn 83 := trivial
  have hfS : Fence.wide.fn 45 := trivial
  refine callsIn_of_wp Tryz.func47 rfl trivial ?_ rfl
  simp only [Tryz.ntmps47, List.size_toArray, List.length_cons, List.length_nil, Nat.reduceAdd, Nat.reduceSub, Array.replicate_succ, Array.replicate_zero, List.push_toArray, List.append_toArray, List.nil_append, List.cons_append]
  gi_wp2_with (first
    | (gi_at_call 83; refine (cK _ _).mono ?_; rintro e w' ⟨rfl, rfl⟩)
    | (gi_at_call 45; refine cS.mono ?_; rintro e w' ⟨v, ss, rfl, hS, hrow, hnil, hb⟩))
  go_ret
  exact ⟨v, ss, rfl, hS, ownsRow_base_a hrow (by simp), hnil, ((Below.refl _ w).alloc (Nat.le_refl _) _).trans (hb.mono (by simp))⟩

set_option maxHeartbeats 2000000 in
theorem ris_calls_nil (w : World) : Calls Tryz.prog 47 #[.map none] w fun e w' => e = .returned (.slice none 0 0) ∧ Below w.heap.size w w' := by
  refine (callsIn_wide (n := 6)).1 ?_
  have hseq : SeqGives Fence.wide 2 Tryz.prog 117 #[.pointer (some ⟨w.heap.size, 0, none⟩)] encZ (fun ss : List Int => ss = []) 0 (w.alloc (.cells #[.map none] 70)) :=
    AnyZI.keys_gives_nil (ρ := Tryz.keysA_ren) { Tryz.keysA with } Fence.wide _ trivial rfl w.heap.size _ (by simp) (by simp)
  have cK : ∀ mb W, CallsIn Fence.wide 5 Tryz.prog 83 #[.map mb] W fun e w' => e = .returned (.func (.func 117) #[] #[.pointer (some ⟨W.heap.size, 0, none⟩)]) ∧ w' = W.alloc (.cells #[.map mb] 70) := fun mb W => AnyZI.keys_in Tryz.keysA Fence.wide 5 trivial rfl mb W
  have cS := AnyZI.sorted_in Tryz.sortedA Fence.wide 5 trivial trivial trivial trivial rfl (by omega) (ris_sorts _) (enters_of Tryz.func81 (by kernel_rfl) rfl) 117 #[.pointer (some ⟨w.heap.size, 0, none⟩)] trivial (enters_of Tryz.func117 (by kernel_rfl) rfl) _ 0 (Nat.zero_le _) (by omega) _ hseq
  change CallsIn _ _ Tryz.prog 45 _ _ _ at cS
  have hfK : Fence.wide.fn 83 := trivial
  have hfS : Fence.wide.fn 45 := trivial
  refine callsIn_of_wp Tryz.func47 rfl trivial ?_ rfl
  simp only [Tryz.ntmps47, List.size_toArray, List.length_cons, List.length_nil, Nat.reduceAdd, Nat.reduceSub, Array.replicate_succ, Array.replicate_zero, List.push_toArray, List.append_toArray, List.nil_append, List.cons_append]
  gi_wp2_with (first
    | (gi_at_call 83; refine (cK _ _).mono ?_; rintro e w' ⟨rfl, rfl⟩)
    | (gi_at_call 45; refine cS.mono ?_; rintro e w' ⟨v, ss, rfl, rfl, hrow, hnil, hb⟩; obtain rfl : v = .slice none 0 0 := hnil.2 rfl))
  go_ret
  exact ⟨rfl, ((Below.refl _ w).alloc (Nat.le_refl _) _).trans (hb.mono (by simp))⟩
end Go.Proofs.YtpednpndahgleaaGreatDoor.Av
