/- Each lowered operation does what it is said to do: all together. No program in sight. -/
import Derived.Test.YtpednpndahgleaaGreatDoorAvI
set_option linter.unusedSimpArgs false
set_option linter.unusedVariables false
namespace Go.Proofs.YtpednpndahgleaaGreatDoor.Av
open Go

section
variable {P : Program} {w0 : World} {S0 : Nat → Prop} {E : Env} {L : List Blk} {w : World} {T : Tm} {a : Act}

/-- What stands behind an operation: its value and the world. -/
def Done (P : Program) (w0 : World) (S0 : Nat → Prop) (E : Env) (L' : List Blk) (av : AV) (w : World) (s : Sem Next) : Prop :=
  ∃ E' v w', (s.run P w = .ok (.value v) w' ∨ (s.run P w = .ok .skip w' ∧ v = undef)) ∧ E.le E' ∧ VR E' av v ∧ Rel w0 S0 E' L' w'

theorem Good.done {L' : List Blk} {av : AV} {s : Sem Value} (h : Good P w0 S0 E L' av w s) : Done P w0 S0 E L' av w (do pure (.value (← s))) := by
  obtain ⟨E', v, w', h1, h2⟩ := h
  exact ⟨E', v, w', .inl (by simp [h1]), h2⟩

theorem evXs_sound : ∀ {xs : List Operand} {ys : List Opd} {l : List AV}, lowXs xs = some ys → evXs T ys = some l → TR E T a → VRL E l (xs.map a.eval)
  | [], ys, l, h, hv, _ => by
    simp [lowXs] at h; subst h
    simp [evXs] at hv; subst hv
    simp [VRL]
  | x :: xs, ys, l, h, hv, hT => by
    simp only [lowXs, List.mapM_cons] at h
    rcases h1 : lowX x with _ | y
    · simp [h1] at h
    · rcases h2 : xs.mapM lowX with _ | ys'
      · simp [h1, h2] at h
      · simp [h1, h2] at h; subst h
        simp only [evXs] at hv
        split at hv <;> simp at hv
        rename_i b m h3 h4
        subst hv
        exact ⟨_, _, rfl, evX_sound h1 h3 hT, evXs_sound (by simpa [lowXs] using h2) h4 hT⟩

theorem elems_first {sz : Nat} {x : AV} {v : Value} {c : Prop} {l : List AV} {n : Nat} (k : Nat) (hk : k ≤ n) (hR : Rel w0 S0 E L w) (hv : VR E x v) (h : elems L sz x = some (c, l, n)) (hc : c) :
    ∃ cs, VRL E (l.take (k * sz)) cs ∧ cs.length = k * sz ∧ (Builtin.firstCells sz k v).run P w = .ok ⟨cs⟩ w := by
  have hks : k * sz ≤ n * sz := Nat.mul_le_mul_right _ hk
  unfold elems at h
  split at h
  · simp only [Option.some.injEq, Prod.mk.injEq] at h; obtain ⟨rfl, rfl, rfl⟩ := h
    simp only [VR] at hv; subst hv
    have : k = 0 := by omega
    subst this
    exact ⟨[], by simp [VRL], by simp, by simp [Builtin.firstCells]⟩
  · rename_i l m cap
    simp only [Option.some.injEq, Prod.mk.injEq] at h; obtain ⟨rfl, rfl, rfl⟩ := h
    exact (sl_cells (P := P) hR hv hc hk).2
  · rename_i l m i s
    simp only [Option.some.injEq, Prod.mk.injEq] at h; obtain ⟨rfl, rfl, rfl⟩ := h
    subst hc
    exact (sl_cells (P := P) hR hv.gsl_sl.1 hv.gsl_sl.2 hk).2
  · rename_i i off m cap s
    split at h
    · rename_i l' hL
      simp only [Option.some.injEq, Prod.mk.injEq] at h; obtain ⟨rfl, rfl, rfl⟩ := h
      simp only [VR] at hv
      obtain ⟨q, rc, d, h1, rfl, h2, h3, h4, h5⟩ := hv
      obtain ⟨k', cs0, ty, fr, g1, g2, g3, g4, g5, g6⟩ := hR.blk i _ hL
      rw [h1] at g1; cases g1
      have hlen : (((l'.drop off).take (m * sz)).take (k * sz)).length = k * sz := by simp; omega
      rcases Nat.eq_zero_or_pos k with hm | hm
      · subst hm
        exact ⟨[], by simp [VRL], by simp, by simp [Builtin.firstCells, loadCells, loadCellsFrom]⟩
      · have hd := h2 (by omega)
        subst hd
        obtain ⟨cs, h6, h7⟩ := loadCells_ok (P := P) (w := w) (b := q.blk) (o := q.off + off) (l := ((l'.drop off).take (m * sz)).take (k * sz)) fun j a ha => by
          have hj : j < k * sz := by have := (List.getElem?_eq_some_iff.1 ha).1; omega
          rw [List.getElem?_take_of_lt hj, List.getElem?_take_of_lt (by omega), List.getElem?_drop] at ha
          obtain ⟨x, h8, h9⟩ := g5 _ _ ha
          refine ⟨x, ?_, h9⟩
          rw [← Nat.add_assoc] at h8
          simp [World.cell?, g2, h8]
        exact ⟨cs, h6, by rw [h6.length, hlen], by rw [hlen] at h7; simpa [Builtin.firstCells] using h7⟩
    · cases h
  · split at h
    · rename_i s hsz
      simp only [Option.some.injEq, Prod.mk.injEq] at h; obtain ⟨rfl, rfl, rfl⟩ := h
      simp only [VR] at hv; subst hv
      subst hsz
      refine ⟨(s.map fun b => Value.int .u8 b.toNat).take k, ?_, by simp; omega, ?_⟩
      · refine VRL.of_get (by simp [u8s]) fun i a ha => ?_
        have hj : i < k := by have := (List.getElem?_eq_some_iff.1 ha).1; simp at this; omega
        simp only [Nat.mul_one] at ha
        rw [List.getElem?_take_of_lt hj] at ha ⊢
        simp only [u8s, List.getElem?_map, Option.map_eq_some_iff] at ha ⊢
        obtain ⟨b, h1, rfl⟩ := ha
        exact ⟨_, ⟨b, h1, rfl⟩, rfl⟩
      · simp only [Builtin.firstCells, Sem.run_pure]
        congr 1
        apply Array.ext'
        simp
    · cases h
  · cases h

theorem good_copy {t u e ty : TypeId} {sz n : Nat} {x y : AV} {p v : Value} {c : Prop} {new : List AV} (hR : Rel w0 S0 E L w) (ht : P.underlying t = some (.slice e)) (hs : szOf P e = some sz) (hx : VR E x p) (hy : VR E y v) (hel : elems L sz y = some (c, new, n)) (hc : c) :
    (x = .nilsl → Good P w0 S0 E L (.int .i64 0) w (Builtin.copy_ #[t, u] ty #[p, v])) ∧
    (∀ i off m cap l, x = .lsl i off m cap sz → L[i]? = some (.cells l) → off + m * sz ≤ l.length → (new.take (min n m * sz)).all AV.one = true →
      Good P w0 S0 E (L.set i (.cells (splice l off (new.take (min n m * sz))))) (.int .i64 (min n m : Nat)) w (Builtin.copy_ #[t, u] ty #[p, v])) := by
  obtain ⟨h1, h2, _, _, _⟩ := elems_cells (P := P) hR hy hel hc
  refine ⟨fun ex => ?_, fun i off m cap l ex hL hlt hone => ?_⟩ <;> subst ex <;> simp only [VR] at hx
  · subst hx
    obtain ⟨cs', _, _, h5⟩ := elems_first (P := P) 0 (Nat.zero_le _) hR hy hel hc
    refine .same hR (v := .int .i64 0) ?_ (by simp [VR])
    simp [Builtin.copy_, run_underlying ht, h1, szOf_run hs, h5, goInt]
  · obtain ⟨cl, rc, d, g0, rfl, g1, g2, g3, g4⟩ := hx
    obtain ⟨cs', hrel, hcl, h6⟩ := elems_first (P := P) (min n m) (Nat.min_le_left _ _) hR hy hel hc
    have hmul : min n m * sz ≤ m * sz := Nat.mul_le_mul_right _ (Nat.min_le_right _ _)
    have hmul2 : min n m * sz ≤ n * sz := Nat.mul_le_mul_right _ (Nat.min_le_left _ _)
    have hlen : (new.take (min n m * sz)).length = min n m * sz := by simp; omega
    have hrun : (Builtin.copy_ #[t, u] ty #[.slice (some ⟨cl.blk, d, none⟩) m rc, v]).run P w = ((storeCells ⟨cl.blk, d, none⟩ cs').run P w).andThen fun _ w' => .ok (.int .i64 (min n m : Nat)) w' := by
      unfold Builtin.copy_
      simp only [List.getElem?_toArray, List.getElem?_cons_zero, List.getElem?_cons_succ, Sem.run_bind, run_underlying ht, Result.andThen_ok, szOf_run hs, h1, show Nat.min n m = min n m from rfl, h6]
      simp [goInt]
    by_cases hm : min n m * sz = 0
    · have hcs : cs' = [] := by rw [hm] at hcl; simpa using hcl
      subst hcs
      refine ⟨E, .int .i64 (min n m : Nat), w, by rw [hrun]; simp [storeCells], .refl E, by simp [VR], ?_⟩
      simp only [hm, List.take_zero]
      have : splice l off [] = l := by simp [splice]
      rw [this]
      have : L.set i (.cells l) = L := by
        apply List.ext_getElem?
        intro j
        rw [List.getElem?_set]
        split
        · rename_i e; subst e
          rw [hL]
          have := (List.getElem?_eq_some_iff.1 hL).1
          simp [this]
        · rfl
      rw [this]; exact hR
    · have hrc : rc ≠ 0 := by
        intro e; subst e
        have : m = 0 := by omega
        subst this; simp at hm
      have hd := g1 hrc
      subst hd
      obtain ⟨w', r1, r2⟩ := store_ok (P := P) (off := off) hR hL g0 hrel (fun x hx => List.all_eq_true.1 hone x hx) (by rw [hlen]; omega)
      exact ⟨E, .int .i64 (min n m : Nat), w', by rw [hrun, r1]; rfl, .refl E, by simp [VR], r2⟩

theorem replC_one {z : List AV} (h : ∀ a ∈ z, AV.one a = true) : ∀ n, ∀ a ∈ replC z n, AV.one a = true
  | 0, a, ha => by simp [replC] at ha
  | n + 1, a, ha => by
    simp only [replC, List.mem_append] at ha
    exact ha.elim (h a) (replC_one h n a)

theorem good_clear {t e ty : TypeId} {sz : Nat} {z : List AV} {x : AV} {p : Value} (hR : Rel w0 S0 E L w) (ht : P.underlying t = some (.slice e)) (hs : szOf P e = some sz) (hz : zOf P e = some z) (hzl : z.length = sz) (hx : VR E x p) :
    (x = .nilsl → Good P w0 S0 E L (.tup []) w (Builtin.clear_ #[t] ty #[p])) ∧
    (∀ i off m cap l, x = .lsl i off m cap sz → L[i]? = some (.cells l) → off + m * sz ≤ l.length →
      Good P w0 S0 E (L.set i (.cells (splice l off (replC z m)))) (.tup []) w (Builtin.clear_ #[t] ty #[p])) := by
  obtain ⟨zv, hz', hzr, hz1⟩ := zOf_run' (E := E) hz
  have hzs : zv.cells.size = sz := by have := hzr.length; simpa [hzl] using this
  refine ⟨fun ex => ?_, fun i off m cap l ex hL hlt => ?_⟩ <;> subst ex <;> simp only [VR] at hx
  · subst hx
    exact .same hR (v := .tuple #[]) (by simp [Builtin.clear_, run_underlying ht]) ⟨[], rfl, rfl⟩
  · obtain ⟨cl, rc, d, g0, rfl, g1, g2, g3, g4⟩ := hx
    rcases Nat.eq_zero_or_pos m with hm | hm
    · subst hm
      refine ⟨E, .tuple #[], w, by simp [Builtin.clear_, run_underlying ht], .refl E, ⟨[], rfl, rfl⟩, ?_⟩
      have : splice l off (replC z 0) = l := by simp [splice, replC]
      rw [this]
      have : L.set i (.cells l) = L := by
        apply List.ext_getElem?
        intro j
        rw [List.getElem?_set]
        split
        · rename_i e; subst e
          rw [hL]
          have := (List.getElem?_eq_some_iff.1 hL).1
          simp [this]
        · rfl
      rw [this]; exact hR
    · have hd := g1 (by omega)
      subst hd
      have hrep : VRL E (replC z m) (Builtin.zeroCells zv.cells m).toList := by
        have := repl_rel hzr m
        simpa [Builtin.zeroCells] using this
      obtain ⟨w', r1, r2⟩ := store_ok (P := P) (off := off) hR hL g0 hrep (replC_one hz1 m) (by rw [replC_length, hzl]; omega)
      refine ⟨E, .tuple #[], w', ?_, .refl E, ⟨[], rfl, rfl⟩, r2⟩
      cases m with
      | zero => omega
      | succ m =>
        unfold Builtin.clear_
        simp only [List.getElem?_toArray, List.getElem?_cons_zero, Sem.run_bind, run_underlying ht, Result.andThen_ok, hz', r1, Sem.run_pure]

end
end Go.Proofs.YtpednpndahgleaaGreatDoor.Av
