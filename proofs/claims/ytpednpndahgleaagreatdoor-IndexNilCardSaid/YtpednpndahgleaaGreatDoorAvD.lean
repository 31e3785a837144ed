/- Each lowered operation does what it is said to do. No program in sight. -/
import Derived.Test.YtpednpndahgleaaGreatDoorAvC
set_option linter.unusedSimpArgs false
set_option linter.unusedVariables false
namespace Go.Proofs.YtpednpndahgleaaGreatDoor.Av
open Go

def Good (P : Program) (w0 : World) (S0 : Nat → Prop) (E : Env) (L' : List Blk) (av : AV) (w : World) (s : Sem Value) : Prop :=
  ∃ E' v w', s.run P w = .ok v w' ∧ E.le E' ∧ VR E' av v ∧ Rel w0 S0 E' L' w'

section
variable {P : Program} {w0 : World} {S0 : Nat → Prop} {E : Env} {L : List Blk} {w : World}

theorem Good.same {av : AV} {v : Value} {s : Sem Value} (hR : Rel w0 S0 E L w) (h : s.run P w = .ok v w) (hv : VR E av v) : Good P w0 S0 E L av w s := ⟨E, v, w, h, .refl E, hv, hR⟩

theorem szOf_run {t : TypeId} {n : Nat} (h : szOf P t = some n) : (sizeOf t).run P w = .ok n w := by
  unfold szOf at h
  simp only [Option.map_eq_some_iff] at h
  obtain ⟨i, h1, rfl⟩ := h
  simp [sizeOf, typeInfo, h1]

theorem info_of_sz {t : TypeId} {n : Nat} (h : szOf P t = some n) : ∃ i, P.info? t = some i ∧ i.size = n := by
  unfold szOf at h
  simpa using h

theorem isAgg_run {t : TypeId} {g : Bool} (h : isAggT P t = some g) : (isAgg t).run P w = .ok g w := by
  unfold isAggT at h
  unfold isAgg
  split at h <;> simp at h <;> subst h
  · rename_i fs hd; simp [run_underlying hd]
  · rename_i n e hd; simp [run_underlying hd]
  · rename_i d h1 h2 hd
    simp only [Sem.run_bind, run_underlying hd, Result.andThen_ok]
    cases d <;> first | rfl | (exact absurd hd (h1 _)) | (exact absurd hd (h2 _ _))

theorem zOf_run' {t : TypeId} {z : List AV} (h : zOf P t = some z) : ∃ v, (∀ w, (zeroValue t).run P w = .ok v w) ∧ VRL E z v.cells.toList ∧ ∀ a ∈ z, AV.one a = true := by
  unfold zOf at h
  rcases h1 : P.info? t with _ | i
  · simp [h1] at h
  · rcases h2 : i.zero with _ | v
    · simp [h1, h2] at h
    · simp [h1, h2] at h
      exact ⟨v, fun w => by simp [zeroValue, typeInfo, h1, h2], lowZ_sound h⟩
theorem zOf_run {t : TypeId} {z : List AV} (h : zOf P t = some z) : ∃ v, (zeroValue t).run P w = .ok v w ∧ VRL E z v.cells.toList ∧ ∀ a ∈ z, AV.one a = true :=
  let ⟨v, h1, h2⟩ := zOf_run' (E := E) h
  ⟨v, h1 w, h2⟩

/-! loads -/
theorem good_load1 {t : TypeId} {p : AV} {v : Value} {l : List AV} {off : Nat} (hR : Rel w0 S0 E L w) (hg : isAggT P t = some false) (hr : row L p = some (l, off)) (hv : VR E p v) (hlt : off < l.length) :
    Good P w0 S0 E L (l.getD off .undef) w (Instr.loadAt t v) := by
  obtain ⟨b, o, rfl, hc⟩ := row_sound hR hr hv
  obtain ⟨x, h1, h2⟩ := hc off l[off] (List.getElem?_eq_getElem hlt)
  refine .same hR (v := x) ?_ (by rw [List.getD_eq_getElem?_getD, List.getElem?_eq_getElem hlt]; exact h2)
  simp [Instr.loadAt, Instr.sureAddr, loadVar, isAgg_run hg, h1]

theorem loadVar_agg {t : TypeId} {l : List AV} {b o : Nat} (hg : isAggT P t = some true) (hs : szOf P t = some l.length)
    (hc : ∀ (j : Nat) (a : AV), l[j]? = some a → ∃ x, w.cell? ⟨b, o + j, none⟩ = some x ∧ VR E a x) : ∃ cs, VRL E l cs ∧ (loadVar t ⟨b, o, none⟩).run P w = .ok (.agg ⟨cs⟩) w := by
  obtain ⟨cs, h1, h2⟩ := loadCells_ok (P := P) hc
  exact ⟨cs, h1, by simp [loadVar, isAgg_run hg, szOf_run hs, h2]⟩

theorem good_loadN {t : TypeId} {p : AV} {v : Value} {l : List AV} {off sz : Nat} (hR : Rel w0 S0 E L w) (hg : isAggT P t = some true) (hs : szOf P t = some sz) (hr : row L p = some (l, off)) (hv : VR E p v) (hlt : off + sz ≤ l.length) :
    Good P w0 S0 E L (.agg ((l.drop off).take sz)) w (Instr.loadAt t v) := by
  obtain ⟨b, o, rfl, hc⟩ := row_sound hR hr hv
  have hlen : ((l.drop off).take sz).length = sz := by simp; omega
  obtain ⟨cs, h1, h2⟩ := loadVar_agg (P := P) (w := w) (b := b) (o := o + off) (l := (l.drop off).take sz) hg (by rw [hlen]; exact hs) (fun j a ha => by
    have hj : j < sz := by have := (List.getElem?_eq_some_iff.1 ha).1; omega
    rw [List.getElem?_take_of_lt hj, List.getElem?_drop] at ha
    have := hc _ _ ha
    rwa [← Nat.add_assoc] at this)
  refine .same hR (v := .agg ⟨cs⟩) ?_ ⟨cs, rfl, h1⟩
  simpa [Instr.loadAt, Instr.sureAddr] using h2

/-! new blocks -/
theorem brel_new {l : List AV} {vs : List Value} {extra : List Value} {ty : TypeId} {fr : Nat × Nat} {E' : Env} {i : Nat} (hl : VRL E l vs) (hle : E.le E') (hloc : E'.loc i = some ⟨w.heap.size, 0, vs.length + extra.length⟩)
    (hfr : ∀ o, o < vs.length + extra.length → ¬ (fr.1 ≤ o ∧ o < fr.2)) :
    BRel E' { w with heap := w.heap.push (.cells ⟨vs ++ extra⟩ ty fr) } i (.cells l) := by
  refine ⟨_, ⟨vs ++ extra⟩, ty, fr, hloc, by simp, by simp, by have := hl.length; simp; omega, fun j a ha => ?_, fun o _ ho => hfr o ho⟩
  obtain ⟨v, h1, h2⟩ := hl.get ha
  have hj : j < vs.length := (List.getElem?_eq_some_iff.1 h1).1
  exact ⟨v, by simp [List.getElem?_append_left hj, h1], VR.mono hle _ _ h2⟩

theorem push_cells {l : List AV} {vs : List Value} (hR : Rel w0 S0 E L w) (hl : VRL E l vs) (extra : List Value) (ty : TypeId) (fr : Nat × Nat) (hfr : ∀ o, o < vs.length + extra.length → ¬ (fr.1 ≤ o ∧ o < fr.2)) :
    ∃ E', E.le E' ∧ E'.loc L.length = some ⟨w.heap.size, 0, vs.length + extra.length⟩ ∧ Rel w0 S0 E' (L ++ [.cells l]) { w with heap := w.heap.push (.cells ⟨vs ++ extra⟩ ty fr) } := by
  have hn : E.loc L.length = none := hR.fresh _ (Nat.le_refl _)
  have := hR.push (.cells ⟨vs ++ extra⟩ ty fr) (.cells l) ⟨w.heap.size, 0, vs.length + extra.length⟩ rfl rfl (brel_new hl (Env.le_loc _ hn) (by simp) hfr)
  exact ⟨_, this.1, by simp, this.2⟩

theorem good_newVar {t : TypeId} {v : Value} {l : List AV} (hR : Rel w0 S0 E L w) (hl : VRL E l v.cells.toList) :
    Good P w0 S0 E (L ++ [.cells l]) (.ptr L.length 0) w (do pure (.pointer (some (← newVar t v)))) := by
  obtain ⟨E', h1, h2, h3⟩ := push_cells hR hl [] t (0, 0) (by simp)
  refine ⟨E', .pointer (some ⟨w.heap.size, 0, none⟩), { w with heap := w.heap.push (.cells v.cells t) }, by simp [newVar, newRow], h1, ?_, by simpa using h3⟩
  simp only [VR]
  exact ⟨_, h2, rfl⟩

theorem good_alloc {t : TypeId} {z : List AV} (hR : Rel w0 S0 E L w) (hz : zOf P t = some z) : Good P w0 S0 E (L ++ [.cells z]) (.ptr L.length 0) w (Instr.alloc t true (.tuple #[])) := by
  obtain ⟨v, h1, h2, _⟩ := zOf_run (w := w) (E := E) hz
  obtain ⟨E', x, w', h3, h4⟩ := good_newVar (P := P) (t := t) hR h2
  exact ⟨E', x, w', by simpa [Instr.alloc, h1] using h3, h4⟩

/-! build -/
theorem foldl_set (cs : List Value) : ∀ (j off : Nat) (z : Array Value), off + j + cs.length ≤ z.size →
    ((cs.zipIdx j).foldl (fun a (x : Value × Nat) => a.setIfInBounds (off + x.2) x.1) z).size = z.size ∧
    ∀ k, ((cs.zipIdx j).foldl (fun a (x : Value × Nat) => a.setIfInBounds (off + x.2) x.1) z)[k]? = if off + j ≤ k ∧ k < off + j + cs.length then cs[k - (off + j)]? else z[k]? := by
  induction cs with
  | nil => intro j off z _; exact ⟨rfl, fun k => by rw [if_neg (by simp)]; rfl⟩
  | cons c cs ih =>
    intro j off z hz
    simp only [List.length_cons] at hz
    simp only [List.zipIdx_cons, List.foldl_cons, List.length_cons]
    have := ih (j + 1) off (z.setIfInBounds (off + j) c) (by rw [Array.size_setIfInBounds]; omega)
    refine ⟨by simpa using this.1, fun k => ?_⟩
    rw [this.2 k]
    by_cases h1 : off + (j + 1) ≤ k ∧ k < off + (j + 1) + cs.length
    · rw [if_pos h1, if_pos (by omega), show k - (off + j) = (k - (off + (j + 1))) + 1 by omega]
      simp
    · rw [if_neg h1]
      by_cases h2 : k = off + j
      · subst h2
        rw [if_pos (by omega)]
        have h3 : off + j < z.size := by omega
        simp [h3]
      · rw [if_neg (by omega), Array.getElem?_setIfInBounds_ne (by omega)]

theorem fill_ok {T : Tm} {a : Act} (hT : TR E T a) {place : Nat → Option (Nat × Nat)} {d : TypeDesc} (hp : ∀ i r, partAtT P d i = some r → place i = some r) : ∀ {ps : List (Nat × Operand)} {m : List (Nat × Nat × Opd)} {z l : List AV} {cells : Array Value},
    lowParts P d ps = some m → fillA T z m = some l → VRL E z cells.toList → ∃ cs, Instr.fill place cells (ps.map fun (i, x) => (i, a.eval x)) = some cs ∧ VRL E l cs.toList
  | [], m, z, l, cells, hm, hf, hz => by
    simp [lowParts] at hm; subst hm
    simp [fillA] at hf; subst hf
    exact ⟨cells, by simp [Instr.fill], hz⟩
  | (i, x) :: ps, m, z, l, cells, hm, hf, hz => by
    simp only [lowParts] at hm
    split at hm <;> simp at hm
    rename_i o s y m' h1 h2 h3
    subst hm
    simp only [fillA] at hf
    split at hf <;> try simp at hf
    rename_i vals h4
    obtain ⟨⟨h5, h6⟩, hf⟩ := hf
    rcases h7 : evX T y with _ | u
    · simp [h7] at h4
    · simp [h7] at h4
      have hu := evX_sound h2 h7 hT
      have hcs := cells?_sound h4 hu
      have hlen := hcs.length
      have hzl := hz.length
      have key := foldl_set (a.eval x).cells.toList 0 o cells (by simp at hlen hzl ⊢; omega)
      have hsp : VRL E (splice z o vals) (((a.eval x).cells.toList.zipIdx 0).foldl (fun a (x : Value × Nat) => a.setIfInBounds (o + x.2) x.1) cells).toList := by
        refine VRL.of_get (by rw [splice_length (by omega)]; simpa using key.1.trans (by simpa using hzl)) fun k b hb => ?_
        rw [splice_get (by omega)] at hb
        rw [Array.getElem?_toList, key.2 k]
        by_cases h8 : o ≤ k ∧ k < o + vals.length
        · rw [if_pos h8] at hb
          rw [if_pos (by omega)]
          exact hcs.get hb
        · rw [if_neg h8] at hb
          rw [if_neg (by omega)]
          simpa using hz.get hb
      obtain ⟨cs, r1, r2⟩ := fill_ok hT hp h3 hf hsp
      refine ⟨cs, ?_, r2⟩
      simp only [List.map_cons, Instr.fill, hp _ _ h1]
      rw [if_neg (by simp at hlen hzl ⊢; omega)]
      rw [← r1]
      rw [← Array.foldl_toList, Array.toList_zipIdx]

end
end Go.Proofs.YtpednpndahgleaaGreatDoor.Av
