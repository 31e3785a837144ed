/- The rule for a region in any order, with effects. No program in sight. -/
import Derived.Test.YtpednpndahgleaaGreatDoorAvX
set_option linter.unusedSimpArgs false
set_option linter.unusedVariables false
namespace Go.Proofs.YtpednpndahgleaaGreatDoor.Av
open Go

section
variable {P : Program} {w0 : World} {S0 : Nat → Prop} {N : Nat} {own : Nat → Nat} {ops : Array Oper} {L : List Blk}

theorem any_walk {los : List LOper} {n : Nat} (hlow : lowOps P N own ops (List.range ops.size) = some los) (hok : drawOk ops los n = true) {qk : List (LOper × Kd)} {ts : List LOper} (hsplit : los = qk.map (·.1) ++ ts) (hn : qk.length = n)
    (hk : kindsB (ctable ops.toList []) qk = true) {K : Tm → List Blk → Prop} {T : Tm} {Q : Exit → Act → World → Prop} {E0 : Env} (h : AG P (AOps P K ts) qk [L] [] T)
    (hQ : ∀ E' T' L' a' w', E0.le E' → K T' L' → St w0 S0 N E' T' L' a' w' → Q .normal a' w') (a : Act) (w : World) (E : Env) (hE : E0.le E) (hst : St w0 S0 N E T L a w) :
    wpAny P .any ops Q ops.size (Array.replicate ops.size false) a w := by
  obtain ⟨tr, X, g1, g2, -, g4, g5⟩ := AG_trace qk [L] [] T 0 h
  have rep0 : ∀ i, (Array.replicate ops.size false).getD i false = false := fun i => by
    rw [Array.getD_eq_getD_getElem?, Array.getElem?_replicate]
    split <;> rfl
  simp only [kindsB, Bool.and_eq_true] at hk
  obtain ⟨hk1, hk2⟩ := hk
  have hesl := effPos_length qk 0
  have hlt : ∀ e ∈ effPos qk 0, ∃ o, qk[e]? = some (o, .eff) := fun e he => by
    obtain ⟨i, o, rfl, h2⟩ := effPos_mem qk 0 e he
    exact ⟨o, by simpa using h2⟩
  have hlen : (X ++ [L]).length = neff qk + 1 := by simp [g2]
  refine any_soundG (T := T) (K := K) (qs := qk.map (·.1)) (ts := ts) (tr := tr) (es := effPos qk 0) (Ms := mem (X ++ [L])) hlow hok hsplit (by simpa using hn) (fun e he => ?_) (fun j j' e e' h1 h2 h3 => ?_) (by simpa using g1) (fun i o v ho hv => ?_) ?_ hQ ops.size _ a w E (by simp) (by simp [List.count_replicate]) (fun i o hi => by rw [rep0] at hi; cases hi) hE (fun i _ => rep0 i) ?_
  · obtain ⟨o, ho⟩ := hlt e he
    simpa using (List.getElem?_eq_some_iff.1 ho).1
  · have l2 : j' < (effPos qk 0).length := (List.getElem?_eq_some_iff.1 h2).1
    have := List.all_eq_true.1 (List.all_eq_true.1 hk1 j' (by simpa using l2)) j (by simpa using h3)
    have q1 : (effPos qk 0).getD j 0 = e := by rw [List.getD_eq_getElem?_getD, h1]; rfl
    have q2 : (effPos qk 0).getD j' 0 = e' := by rw [List.getD_eq_getElem?_getD, h2]; rfl
    rw [q1, q2] at this
    exact this
  · rw [List.getElem?_map, Option.map_eq_some_iff] at ho
    obtain ⟨⟨o', kd⟩, ho, rfl⟩ := ho
    have hs := g4 i o' kd v ho hv
    simp only [List.length_singleton, Nat.sub_self, Nat.zero_add] at hs
    have hkk := List.all_eq_true.1 hk2 ((o', kd), i) (by rw [List.mem_zipIdx_iff_getElem?]; simpa using ho)
    have notin : kd ≠ .eff → i ∉ effPos qk 0 := fun hne he => by
      obtain ⟨o2, h2⟩ := hlt i he
      rw [ho] at h2; cases h2; exact hne rfl
    cases kd with
    | eff =>
      refine .inl ⟨neff (qk.take i), ?_, hs⟩
      simpa using effPos_get qk 0 i o' ho
    | pure => exact .inr ⟨notin (by simp), fun m _ _ _ => pure_AQ (by simpa using hkk) hs⟩
    | read n f =>
      refine .inr ⟨notin (by simp), fun m hm p1 p2 => ?_⟩
      simp only at hkk
      have chk := fun j (hj : j < (effPos qk 0).length) => List.all_eq_true.1 hkk j (by simpa using hj)
      have cle : neff (qk.take i) ≤ (effPos qk 0).length := by
        have : ∀ (l : List (LOper × Kd)) (i : Nat), neff (l.take i) ≤ neff l := by
          intro l
          induction l with
          | nil => intro i; simp
          | cons q l ih =>
            intro i
            cases i with
            | zero => simp [neff]
            | succ i => obtain ⟨o, _ | _ | _⟩ := q <;> simp only [List.take_succ_cons, neff] <;> have := ih i <;> omega
        rw [hesl]; exact this qk i
      refine hs m ?_ ?_ (by rw [hlen]; omega)
      · rcases Nat.lt_or_ge m (neff (qk.take i) - n) with hlt2 | hge
        · have hme : m < (effPos qk 0).length := by omega
          have := chk m hme
          simp only [Bool.and_eq_true, Bool.or_eq_true, Bool.not_eq_true', decide_eq_false_iff_not] at this
          have e1 := p2 m _ (List.getElem?_eq_getElem hme) (Nat.le_refl _)
          rcases this.1 with c | c
          · exact absurd hlt2 c
          · rw [List.getD_eq_getElem?_getD (l := effPos qk 0), List.getElem?_eq_getElem hme] at c
            simp only [Option.getD_some] at c
            rw [e1] at c; cases c
        · exact hge
      · rcases Nat.lt_or_ge (neff (qk.take i) + f) m with hlt2 | hge
        · have hme : neff (qk.take i) + f < (effPos qk 0).length := by omega
          have := chk _ hme
          simp only [Bool.and_eq_true, Bool.or_eq_true, Bool.not_eq_true', decide_eq_false_iff_not] at this
          have e1 := p1 _ _ (List.getElem?_eq_getElem hme) hlt2
          rcases this.2 with c | c
          · exact absurd (Nat.le_refl _) c
          · rw [List.getD_eq_getElem?_getD (l := effPos qk 0), List.getElem?_eq_getElem hme] at c
            simp only [Option.getD_some] at c
            rw [e1] at c; cases c
        · exact hge
  · rw [hlen] at g5
    rw [hesl]
    simpa using g5
  · have e : TL T (qk.map (·.1)) tr 0 (fun j => (Array.replicate ops.size false).getD j false) = T := by
      refine Eq.trans (TL_ext (g := fun _ => false) fun j _ => rep0 _) (TL_false _ tr T 0)
    have e2 : done (effPos qk 0) (Array.replicate ops.size false) = 0 := List.countP_eq_zero.2 fun x _ => by rw [rep0]; simp
    rw [e, e2, mem_old (by simp)]
    simpa using hst
end
end Go.Proofs.YtpednpndahgleaaGreatDoor.Av
