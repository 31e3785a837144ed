/- Sorting, compacting, searching rows of numbers of the call's own: by the library's contracts. -/
import Derived.Test.YtpednpndahgleaaGreatDoorRisA
import Derived.Test.YtpednpndahgleaaGreatDoorAvQ
import Derived.Shelf.Spec.SlicesGrow
set_option linter.unusedSimpArgs false
set_option linter.unusedVariables false
namespace Go.Proofs.YtpednpndahgleaaGreatDoor.Av
open Go Go.Sort

theorem set_same' {L : List Blk} {i : Nat} {k : Blk} (h : L[i]? = some k) : L.set i k = L := by
  apply List.ext_getElem?
  intro j
  rw [List.getElem?_set]
  split
  · rename_i e; subst e
    have hi := (List.getElem?_eq_some_iff.1 h).1
    rw [if_pos hi, h]
  · rfl

/-- Numbers laid over the beginning of an owned row. -/
theorem Rel.putInts {w0 : World} {S0 : Nat → Prop} {E : Env} {L : List Blk} {w : World} (h : Rel w0 S0 E L w) {i : Nat} {xs d : List Int} {rest : List AV} {c : Loc} (hi : L[i]? = some (.cells (ints xs ++ rest))) (hc : E.loc i = some c) (hd : d.length = xs.length) (q : Nat) :
    Rel w0 S0 E (L.set i (.cells (ints d ++ rest))) (putRow (Value.int .i64) (Sort.ahead w q) c.blk c.off d.toArray) := by
  obtain ⟨c', cs, ty, fr, h1, h2, h3, h4, h5, h6⟩ := h.blk i _ hi
  rw [hc] at h1; cases h1
  have hlt : c.blk < w.heap.size := (Array.getElem?_eq_some_iff.1 h2).1
  have e1 : (putRow (Value.int .i64) (Sort.ahead w q) c.blk c.off d.toArray).heap[c.blk]? = some (.cells (putCells (Value.int .i64) c.off d.toArray cs) ty fr) := by
    simp [putRow, mapBlock, Sort.ahead, Array.getElem?_modify, h2, onCells]
  have hlen : (ints xs ++ rest).length = xs.length + rest.length := by simp
  refine h.turn (k' := .cells (ints d ++ rest)) hi rfl hc (by simp) (fun b hb => ?_) rfl rfl rfl ⟨c, _, ty, fr, hc, e1, by simp [putCells, h3], ?_, fun j a ha => ?_, h6⟩ (fun _ _ e => by cases e)
  · have : c.blk ≠ b := fun e => hb e.symm
    simp [putRow, mapBlock, Sort.ahead, Array.getElem?_modify, this]
  · rw [hlen] at h4
    simp only [List.length_append, List.length_map, hd]; omega
  · rw [hlen] at h4
    have hj : j < d.length + rest.length := by
      have := (List.getElem?_eq_some_iff.1 ha).1
      simpa using this
    have hcs : c.off + j < cs.size := by omega
    have ep : (putCells (Value.int .i64) c.off d.toArray cs)[c.off + j]? = some (if c.off ≤ c.off + j ∧ c.off + j < c.off + d.length then Value.int .i64 (d.toArray[c.off + j - c.off]!) else cs[c.off + j]) := by
      simp [putCells, hcs]
    by_cases hjd : j < d.length
    · have ea : a = .int .i64 d[j] := by
        rw [List.getElem?_append_left (by simpa using hjd)] at ha
        simpa [hjd] using ha.symm
      subst ea
      refine ⟨_, ep, ?_⟩
      rw [if_pos (by omega), show c.off + j - c.off = j by omega]
      simp [VR, hjd]
    · have ha' : (ints xs ++ rest)[j]? = some a := by
        rw [List.getElem?_append_right (by simp; omega)] at ha ⊢
        simpa [hd] using ha
      obtain ⟨v, g1, g2⟩ := h5 j a ha'
      refine ⟨v, ?_, g2⟩
      rw [ep, if_neg (by omega), ← g1]
      simp [hcs]

theorem row_holds {w0 : World} {S0 : Nat → Prop} {E : Env} {L : List Blk} {w : World} (h : Rel w0 S0 E L w) {i : Nat} {xs : List Int} {rest : List AV} {c : Loc} (hi : L[i]? = some (.cells (ints xs ++ rest))) (hc : E.loc i = some c) :
    Holds (Value.int .i64) w c.blk c.off xs.toArray ∧ c.blk < w.heap.size := by
  obtain ⟨c', cs, ty, fr, h1, h2, h3, h4, h5, h6⟩ := h.blk i _ hi
  rw [hc] at h1; cases h1
  refine ⟨fun j hj => ?_, (Array.getElem?_eq_some_iff.1 h2).1⟩
  have hj' : j < xs.length := by simpa using hj
  obtain ⟨v, g1, g2⟩ := h5 j (.int .i64 xs[j]) (by rw [List.getElem?_append_left (by simpa using hj')]; simp [hj'])
  simp only [VR] at g2
  subst g2
  refine ⟨by simp [World.cell?, h2, g1, hj'], ?_⟩
  have h7 := h6 (c.off + j) (by omega) (by simp only [List.length_append, List.length_map] at h4; omega)
  simp only [World.frozen?, h2]
  obtain ⟨f1, f2⟩ := fr
  simp only at h7
  simp only [Bool.and_eq_false_iff, decide_eq_false_iff_not]
  omega

theorem callFunc_enter {P : Program} {f : FuncId} {fn : Func} (hf : P.funcs[f]? = some fn) (hb : fn.body.isSome = true) (hn : (fn.name == "runtime.NumGoroutine") = false) (args : Array Value) (w : World) : (callFunc f args).run P w = .ok (.enter f args) w := by
  simp only [callFunc, Sem.run_bind, run_program, Result.andThen_ok, hf, hn]
  cases h : fn.body with
  | none => simp [h] at hb
  | some c => simp

theorem sort_k {xs : List Int} {i : Nat} {cp : Option Nat} {rest : List AV} {L : List Blk} {K : AV → List Blk → Prop} (hx : xs ≠ []) (hn : xs.length ≤ 1000000) (hL : L[i]? = some (.cells (ints xs ++ rest))) (h : K (.tup []) (L.set i (.cells (ints (isortI xs) ++ rest)))) :
    ACall Tryz.prog 81 [.lsl i 0 xs.length cp 1] L K := fun w0 S0 E w vs hR hv => by
  simp only [VRL, VR] at hv
  obtain ⟨_, _, rfl, ⟨c, rc, d, hc, rfl, hd, hle, _, _⟩, rfl⟩ := hv
  have hpos : 0 < xs.length := List.length_pos_iff.2 hx
  have hd' : d = c.off := by have := hd (by omega); omega
  subst hd'
  obtain ⟨hH, hlt⟩ := row_holds hR hL hc
  refine .inl ⟨callFunc_enter Tryz.func81 rfl (by kernel_rfl) _ _, (Tryz.slices_Sort_int c.blk c.off rc xs w hH hlt (by omega)).mono ?_⟩
  rintro e w' ⟨rfl, q, os, rfl⟩
  have r1 := hR.putInts hL hc (d := isortI xs) ((isortI_perm xs).length_eq) q
  rw [isortI_eq]
  refine ⟨E, _, _, _, rfl, .refl E, h, by simp [VR, VRL], r1.grown ?_⟩
  exact ⟨fun b hb => Array.getElem?_append_left hb, by simp [grow], rfl, rfl, rfl⟩

theorem sort0_k {cap : Option Nat} {L : List Blk} {K : AV → List Blk → Prop} (h : K (.tup []) L) : ACall Tryz.prog 81 [.sl [] 0 cap] L K :=
  ACall_lift Tryz.func81 rfl (by kernel_rfl) (fun w0 S0 E w vs hR hv => by
    simp only [VRL, VR] at hv
    obtain ⟨_, _, rfl, ⟨p, c, rfl, _⟩, rfl⟩ := hv
    exact (Tryz.slices_Sort_int_none p c w).mono fun e w' ⟨he, hw⟩ => ⟨_, he, by simp [VR, VRL], by subst hw; exact Grew.refl _⟩) h

/-- What stays of a row of numbers, compacted; and noughts behind it. -/
def cmpI' (xs : List Int) : List Int := Lib.compact xs
def zerosI (n : Nat) : List AV := ints (List.replicate n 0)
theorem cmp_le (xs : List Int) : (cmpI' xs).length ≤ xs.length := by
  unfold cmpI' Lib.compact Lib.compactUpTo
  rw [List.length_map]
  have := List.length_filter_le (Lib.keeps xs.toArray) (List.range xs.length)
  simpa using this

theorem compact_k {xs : List Int} {i : Nat} {rest : List AV} {L : List Blk} {K : AV → List Blk → Prop} (hx : xs ≠ []) (hn : xs.length ≤ 1000000) (hL : L[i]? = some (.cells (ints xs ++ rest))) (h : ∀ z, K (.lsl i 0 (cmpI' xs).length none 1) (L.set i (.cells (ints (cmpI' xs) ++ (zerosI z ++ rest))))) :
    ACall Tryz.prog 88 [.lsl i 0 xs.length none 1] L K := fun w0 S0 E w vs hR hv => by
  simp only [VRL, VR] at hv
  obtain ⟨_, _, rfl, ⟨c, rc, d, hc, rfl, hd, hle, _, hsz⟩, rfl⟩ := hv
  have hpos : 0 < xs.length := List.length_pos_iff.2 hx
  have hd' : d = c.off := by have := hd (by omega); omega
  subst hd'
  obtain ⟨hH, hlt⟩ := row_holds hR hL hc
  have hcl := cmp_le xs
  refine .inl ⟨callFunc_enter Tryz.func88 rfl (by kernel_rfl) _ _, (Tryz.slices_Compact_int c.blk c.off rc xs w hH (by omega) hle).mono ?_⟩
  rintro e w' ⟨rfl, q, rfl⟩
  have r1 := hR.putInts hL hc (d := Lib.compact xs ++ List.replicate (xs.length - (Lib.compact xs).length) 0) (by simp only [cmpI'] at hcl; simp; omega) q
  refine ⟨E, _, _, _, rfl, .refl E, h (xs.length - (Lib.compact xs).length), ?_, ?_⟩
  · simp only [VR]
    exact ⟨c, rc, c.off, hc, rfl, fun _ => by omega, by simp only [cmpI'] at hcl ⊢; omega, (fun k hk => by cases hk), hsz⟩
  · simpa [ints, zerosI, cmpI'] using r1

theorem compact0_k {cap : Option Nat} {L : List Blk} {K : AV → List Blk → Prop} (h : K (.sl [] 0 cap) L) : ACall Tryz.prog 88 [.sl [] 0 cap] L K :=
  ACall_lift Tryz.func88 rfl (by kernel_rfl) (fun w0 S0 E w vs hR hv => by
    simp only [VRL] at hv
    obtain ⟨v, _, rfl, hv, rfl⟩ := hv
    have hv' := hv
    simp only [VR] at hv
    obtain ⟨p, c, rfl, _⟩ := hv
    exact (Tryz.slices_Compact_int_empty p c w).mono fun e w' ⟨he, hw⟩ => ⟨_, he, hv', by subst hw; exact Grew.refl _⟩) h

theorem bs_k {ys : List Int} {x : Int} {cap : Option Nat} {L : List Blk} {K : AV → List Blk → Prop} (hn : ys.length ≤ 1000000) (hs : ys.Pairwise (· ≤ ·)) (h : K (.tup [.int .i64 (ys.countP (· < x) : Nat), .bool (ys.contains x)]) L) :
    ACall Tryz.prog 57 [.sl (ints ys) ys.length cap, .int .i64 x] L K :=
  ACall_lift Tryz.func57 rfl (by kernel_rfl) (fun w0 S0 E w vs hR hv => by
    simp only [VRL, VR] at hv
    obtain ⟨_, _, rfl, ⟨p, c, rfl, hle, _, hp⟩, _, _, rfl, rfl, rfl⟩ := hv
    by_cases hy : ys = []
    · subst hy
      exact (Tryz.slices_BinarySearch_int_empty p c x w).mono fun e w' ⟨he, hw⟩ => ⟨_, he, by simp [VR, VRL], by subst hw; exact Grew.refl _⟩
    · rcases hp with ⟨e0, _⟩ | ⟨b, o, rfl, hcells⟩
      · exact absurd (List.length_eq_zero_iff.1 e0) hy
      · refine (Tryz.slices_BinarySearch_int b o ys.length c ys x w (Nat.le_refl _) (by omega) (fun j hj => ?_) (by simpa using hs)).mono fun e w' ⟨he, q, hw⟩ => ⟨_, he, by simp [VR, VRL], by subst hw; exact ⟨fun _ _ => rfl, Nat.le_refl _, rfl, rfl, rfl⟩⟩
        obtain ⟨v, g1, g2⟩ := hcells.get (i := j) (a := .int .i64 ys[j]) (by simp [hj])
        simp only [VR] at g2
        subst g2
        have := hR.mem _ _ _ g1
        rw [this]; simp [hj]) h
end Go.Proofs.YtpednpndahgleaaGreatDoor.Av

set_option linter.unusedSimpArgs false
set_option linter.unusedVariables false
namespace Go.Proofs.YtpednpndahgleaaGreatDoor.Av
open Go Go.Sort Go.Proofs

theorem zc_size (z : Array Value) : ∀ k, (Builtin.zeroCells z k).size = k * z.size := by
  intro k
  simp [Builtin.zeroCells]

theorem info_int : ∃ i0, Tryz.prog.info? 3 = some i0 ∧ i0.zero = some (.int .i64 0) ∧ i0.size = 1 ∧ i0.bytes = 8 := by
  have h : (Tryz.prog.info? 3).map (fun i => (i.zero, i.size, i.bytes)) = some (some (.int .i64 0), 1, 8) := by kernel_rfl
  cases hi : Tryz.prog.info? 3 with
  | none => rw [hi] at h; cases h
  | some i0 =>
    rw [hi] at h
    simp only [Option.map_some, Option.some.injEq, Prod.mk.injEq] at h
    exact ⟨i0, rfl, h⟩

theorem grow0_k {L : List Blk} {K : AV → List Blk → Prop} (h : K (.sl [] 0 (some 0)) L) : ACall Tryz.prog 92 [.sl [] 0 (some 0), .int .i64 0] L K :=
  ACall_lift Tryz.func92 rfl (by kernel_rfl) (fun w0 S0 E w vs hR hv => by
    simp only [VRL] at hv
    obtain ⟨v, _, rfl, hv, _, _, rfl, h2, rfl⟩ := hv
    have hv' := hv
    simp only [VR] at hv h2
    obtain ⟨p, c, rfl, _, h3, _⟩ := hv
    have hc : c = 0 := h3 0 rfl
    subst hc
    subst h2
    exact (Any8.slices_Grow_room Tryz.growI p 0 0 0 w (Nat.le_refl _) (by omega) (by omega) (by omega)).mono fun e w' ⟨he, hw⟩ => ⟨_, he, hv', by subst hw; exact Grew.refl _⟩) h

theorem grow_k {n : Nat} (h0 : 0 < n) (hn : n ≤ 4000000) {L : List Blk} {K : AV → List Blk → Prop} (h : K (.lsl L.length 0 0 none 1) (L ++ [.cells []])) : ACall Tryz.prog 92 [.sl [] 0 (some 0), .int .i64 (n : Int)] L K := fun w0 S0 E w vs hR hv => by
  simp only [VRL, VR] at hv
  obtain ⟨_, _, rfl, ⟨p, c, rfl, _, h3, _⟩, _, _, rfl, rfl, rfl⟩ := hv
  have hc : c = 0 := h3 0 rfl
  subst hc
  obtain ⟨i0, i1, i2, i3, i4⟩ := info_int
  refine .inl ⟨callFunc_enter Tryz.func92 rfl (by kernel_rfl) _ _, (Any8.slices_Grow_grow Tryz.growI i0 (.int .i64 0) i1 i2 (by omega) p 0 0 n [] w (Nat.le_refl _) (by omega) (by rw [i4]; omega) (by omega) (by simp) (fun _ => rfl) (fun a _ j v hj => by simp at hj)).mono ?_⟩
  rintro e w' ⟨rfl, rfl⟩
  have r0 : Rel w0 S0 E L w.drew := hR.grown ⟨fun _ _ => rfl, Nat.le_refl _, rfl, rfl, rfl⟩
  let cs : Array Value := ([] : List Value).toArray ++ Builtin.zeroCells (Value.int .i64 0).cells (0 + n - 0) ++ Builtin.zeroCells (Value.int .i64 0).cells (grownCap w (0 + n) 0 3 - (0 + n))
  have hcs : cs.size = n + (grownCap w (0 + n) 0 3 - n) := by
    simp only [cs, Array.size_append, zc_size]
    have : (Value.int .i64 0).cells.size = 1 := rfl
    rw [this]
    simp
  have r1 := r0.push (.cells cs 3) (.cells []) ⟨w.heap.size, 0, cs.size⟩ rfl rfl ⟨⟨w.heap.size, 0, cs.size⟩, cs, 3, (0, 0), by simp, (show (w.heap.push (Obj.cells cs 3))[w.heap.size]? = some (Obj.cells cs 3 (0, 0)) by simp), rfl, by simp, (fun j a ha => by simp at ha), fun o _ _ => by omega⟩
  refine ⟨_, _, _, _, rfl, r1.1, h, ?_, r1.2⟩
  simp only [VR]
  exact ⟨⟨w.heap.size, 0, cs.size⟩, grownCap w (0 + n) 0 3, 0, by simp, rfl, fun _ => rfl, Nat.zero_le _, (fun k hk => by cases hk), by simp only [hcs]; omega⟩
end Go.Proofs.YtpednpndahgleaaGreatDoor.Av
