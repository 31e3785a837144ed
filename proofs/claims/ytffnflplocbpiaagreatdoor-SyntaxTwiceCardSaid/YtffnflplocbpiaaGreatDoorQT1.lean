/- A prepared text is its own prepared text; what holds of its bytes; and it stays UTF-8. -/
import Derived.Test.YtffnflplocbpiaaGreatDoorQR3
import Derived.Test.YtffnflplocbpiaaGreatDoorQOctC
import Derived.Test.YtffnflplocbpiaaGreatDoorQR2
import Derived.Test.YtffnflplocbpiaaGreatDoorQSyR
set_option linter.unusedSimpArgs false
set_option linter.unusedVariables false
namespace Go.Proofs.YtffnflplocbpiaaGreatDoor.Av
open Go
set_option maxHeartbeats 8000000
set_option maxRecDepth 100000

theorem lowB_toNat (c : UInt8) : (lowB c).toNat = if 65 ≤ c.toNat ∧ c.toNat ≤ 90 then c.toNat + 32 else c.toNat := by
  by_cases h : 65 ≤ c.toNat ∧ c.toNat ≤ 90
  · have := lowB_up h.1 h.2
    rw [if_pos h]; omega
  · rw [lowB_not h, if_neg h]
theorem lowB_idem (c : UInt8) : lowB (lowB c) = lowB c := by
  refine lowB_not ?_
  rw [lowB_toNat]
  split <;> omega
theorem foldS_idem (s : List UInt8) : foldS (foldS s) = foldS s := by
  unfold foldS
  rw [List.map_map]
  exact List.map_congr_left fun c _ => lowB_idem c
theorem prepL_snoc (s : List UInt8) (c : UInt8) : prepL (s ++ [c]) = prepStep (prepL s) c := by simp [prepL]
theorem prepL_le (s : List UInt8) : (prepL s).length ≤ s.length := by
  have := prepL_len s s.length
  rwa [List.take_length] at this
theorem prepStep_fix {b : List UInt8} (c : UInt8) (h : prepL b = b) : prepL (prepStep b c) = prepStep b c := by
  by_cases hc : c = 32 ∧ endsB b = true
  · simp only [prepStep, if_pos hc]; exact h
  · simp only [prepStep, if_neg hc]
    rw [prepL_snoc, h, prepStep, if_neg hc]
theorem fold_fix : ∀ (s b : List UInt8), prepL b = b → prepL (s.foldl prepStep b) = s.foldl prepStep b
  | [], _, h => h
  | c :: s, b, h => fold_fix s (prepStep b c) (prepStep_fix c h)
theorem prepL_fix (s : List UInt8) : prepL (prepL s) = prepL s := fold_fix s [] rfl
theorem fix_pre {b : List UInt8} {c : UInt8} (h : prepL (b ++ [c]) = b ++ [c]) : prepL b = b ∧ ¬ (c = 32 ∧ endsB b = true) := by
  rw [prepL_snoc] at h
  unfold prepStep at h
  split at h
  · have := prepL_le b
    rw [h] at this
    simp at this
    omega
  · rename_i hc
    have := List.append_cancel_right h
    rw [this] at hc
    exact ⟨this, hc⟩
theorem trimB_fix {b : List UInt8} (h : prepL b = b) : prepL (trimB b) = trimB b ∧ trimB (trimB b) = trimB b := by
  rcases List.eq_nil_or_concat b with rfl | ⟨d, c, rfl⟩
  · simp [trimB, prepL]
  · rw [List.concat_eq_append] at h ⊢
    obtain ⟨h1, h2⟩ := fix_pre h
    rw [trimB_app]
    split
    · rename_i hc
      refine ⟨h1, ?_⟩
      have h3 : endsB d = false := by simpa [hc] using h2
      unfold trimB
      rw [if_neg]
      intro e
      simp [endsB, e] at h3
    · rename_i hc
      exact ⟨h, by rw [trimB_app, if_neg hc]⟩
theorem mem_prepStep {b : List UInt8} {c x : UInt8} (h : x ∈ prepStep b c) : x ∈ b ∨ x = c := by
  unfold prepStep at h
  split at h
  · exact .inl h
  · simpa using h
theorem mem_fold : ∀ (s b : List UInt8) {x : UInt8}, x ∈ s.foldl prepStep b → x ∈ b ∨ x ∈ s
  | [], _, _, h => .inl h
  | c :: s, b, x, h => by
    rcases mem_fold s (prepStep b c) h with h1 | h1
    · rcases mem_prepStep h1 with h2 | h2
      · exact .inl h2
      · exact .inr (by simp [h2])
    · exact .inr (by simp [h1])
theorem mem_trimB {b : List UInt8} {x : UInt8} (h : x ∈ trimB b) : x ∈ b := by
  unfold trimB at h
  split at h
  · exact (List.dropLast_sublist b).subset h
  · exact h
theorem mem_prepS {s : List UInt8} {x : UInt8} (h : x ∈ prepS s) : ∃ c ∈ s, x = lowB c := by
  rcases mem_fold _ _ (mem_trimB h) with h1 | h1
  · cases h1
  · obtain ⟨c, hc, rfl⟩ := List.mem_map.1 h1
    exact ⟨c, hc, rfl⟩
theorem foldS_prepS (s : List UInt8) : foldS (prepS s) = prepS s := by
  unfold foldS
  rw [List.map_congr_left (g := id) (fun x hx => ?_), List.map_id]
  obtain ⟨c, _, rfl⟩ := mem_prepS hx
  exact lowB_idem c
theorem prepS_idem (s : List UInt8) : prepS (prepS s) = prepS s := by
  have h1 : prepS (prepS s) = trimB (prepL (prepS s)) := by
    show trimB (prepL (foldS (prepS s))) = _
    rw [foldS_prepS]
  rw [h1]
  have h2 := trimB_fix (prepL_fix (foldS s))
  show trimB (prepL (trimB (prepL (foldS s)))) = trimB (prepL (foldS s))
  rw [h2.1, h2.2]

/-- Texts that are characters, one behind the other. -/
def Chr (q : List UInt8) : Prop := q ≠ [] ∧ (∀ s, Lib.validD (q ++ s) = Lib.validD s) ∧ ((∃ c : UInt8, q = [c] ∧ c.toNat < 128) ∨ ∀ c ∈ q, 128 ≤ c.toNat)
inductive Seg : List UInt8 → Prop
  | nil : Seg []
  | cons {q s : List UInt8} : Chr q → Seg s → Seg (q ++ s)
theorem validD_cons (b : UInt8) (t : List UInt8) : Lib.validD (b :: t) = if utfN (t.length + 1) b.toNat (t.getD 0 0).toNat (t.getD 1 0).toNat (t.getD 2 0).toNat = 0 then false else Lib.validD ((b :: t).drop (utfN (t.length + 1) b.toNat (t.getD 0 0).toNat (t.getD 1 0).toNat (t.getD 2 0).toNat)) := by
  rw [← utf_valid (t.length + 1) (b :: t) (by simp), utf_step]
  split
  · rfl
  · rename_i hn
    refine utf_valid _ _ ?_
    rw [List.length_drop, List.length_cons]
    omega
theorem Seg.valid {s : List UInt8} (h : Seg s) : Lib.validD s = true := by
  induction h with
  | nil => exact Lib.validD_nil
  | cons hq _ ih => rw [hq.2.1]; exact ih
theorem Seg.app {a b : List UInt8} (h : Seg a) (hb : Seg b) : Seg (a ++ b) := by
  induction h with
  | nil => exact hb
  | cons hq _ ih => rw [List.append_assoc]; exact .cons hq ih
theorem chr_one {c : UInt8} (h : c.toNat < 128) : Chr [c] := by
  refine ⟨by simp, fun s => ?_, .inl ⟨c, rfl, h⟩⟩
  rw [List.singleton_append, validD_cons]
  rw [show utfN (s.length + 1) c.toNat (s.getD 0 0).toNat (s.getD 1 0).toNat (s.getD 2 0).toNat = 1 by rw [utfN, if_pos h]]
  simp
theorem short2 {n b0 b1 b2 b3 : Nat} (h : n < 2) (hb : ¬ b0 < 128) : utfN n b0 b1 b2 b3 = 0 := by
  rw [utfN, if_neg hb, if_pos (show bad2 n b0 b1 from .inl h), if_pos (show bad3 n b0 b1 b2 from .inl (by omega)), if_pos (show bad4 n b0 b1 b2 b3 from .inl (by omega))]
  simp
theorem short3 {n b0 b1 b2 b3 : Nat} (h : n < 3) (hb : ¬ b0 < 224) : utfN n b0 b1 b2 b3 = 0 := by
  rw [utfN, if_neg (show ¬ b0 < 128 by omega), if_neg hb, if_pos (show bad3 n b0 b1 b2 from .inl h), if_pos (show bad4 n b0 b1 b2 b3 from .inl (by omega))]
  simp
theorem short4 {n b0 b1 b2 b3 : Nat} (h : n < 4) (hb : ¬ b0 < 240) : utfN n b0 b1 b2 b3 = 0 := by
  rw [utfN, if_neg (show ¬ b0 < 128 by omega), if_neg (show ¬ b0 < 224 by omega), if_neg hb, if_pos (show bad4 n b0 b1 b2 b3 from .inl h)]
  simp
theorem seg_of : ∀ (n : Nat) (s : List UInt8), s.length ≤ n → Lib.validD s = true → Seg s
  | _, [], _, _ => .nil
  | 0, _ :: _, h, _ => by simp at h
  | n + 1, b :: t, h, hv => by
    rw [validD_cons] at hv
    split at hv
    · cases hv
    rename_i hz
    by_cases h1 : b.toNat < 128
    · rw [show utfN (t.length + 1) b.toNat (t.getD 0 0).toNat (t.getD 1 0).toNat (t.getD 2 0).toNat = 1 by rw [utfN, if_pos h1]] at hv
      exact Seg.cons (q := [b]) (chr_one h1) (seg_of n t (by simpa using h) (by simpa using hv))
    have hbb := b.toNat_lt
    obtain ⟨k, hk⟩ : ∃ k, utfN (t.length + 1) b.toNat (t.getD 0 0).toNat (t.getD 1 0).toNat (t.getD 2 0).toNat = k := ⟨_, rfl⟩
    rw [hk] at hv hz
    rcases t with _ | ⟨x, t⟩
    · exfalso
      rw [short2 (by simp) (by assumption)] at hk
      exact hz hk.symm
    by_cases h2 : b.toNat < 224
    · have hA : 128 ≤ b.toNat ∧ Cn x.toNat ∧ 128 ≤ (b.toNat - 192) * 64 + x.toNat - 128 ∧ ¬ b.toNat < 192 ∧ k = 2 := by
        simp only [utfN, if_neg h1, if_pos h2, List.getD_cons_zero, bad2] at hk
        repeat' split at hk
        all_goals first | (exfalso; omega) | (unfold Cn; rename_i h5 h6; unfold Cn at h6; omega)
      obtain ⟨a1, a2, a3, a4, rfl⟩ := hA
      refine Seg.cons (q := [b, x]) ⟨by simp, fun s => ?_, .inr (List.forall_mem_cons.2 ⟨a1, List.forall_mem_cons.2 ⟨a2.1, fun _ h => nomatch h⟩⟩)⟩ (seg_of n t (by simp at h; omega) (by simpa using hv))
      show Lib.validD (b :: x :: s) = _
      rw [validD_cons]
      rw [show utfN ((x :: s).length + 1) b.toNat ((x :: s).getD 0 0).toNat ((x :: s).getD 1 0).toNat ((x :: s).getD 2 0).toNat = 2 by
        rw [utfN, if_neg h1, if_neg a4, if_pos h2, if_neg]
        simp only [bad2, List.getD_cons_zero, List.length_cons]
        rintro (e | e | e)
        · omega
        · exact e a2
        · omega]
      simp
    rcases t with _ | ⟨y, t⟩
    · exfalso
      rw [short3 (by simp) (by assumption)] at hk
      exact hz hk.symm
    by_cases h3 : b.toNat < 240
    · have hA : Cn x.toNat ∧ Cn y.toNat ∧ ¬ bad3 (t.length + 3) b.toNat x.toNat y.toNat ∧ k = 3 := by
        simp only [utfN, if_neg h1, if_neg h2, if_neg (show ¬ b.toNat < 192 by omega), if_pos h3, List.getD_cons_zero, List.getD_cons_succ, List.length_cons] at hk
        split at hk
        · exfalso; omega
        · rename_i h6
          refine ⟨?_, ?_, h6, hk.symm⟩
          · by_cases e : Cn x.toNat
            · exact e
            · exact absurd (.inr (.inl e)) h6
          · by_cases e : Cn y.toNat
            · exact e
            · exact absurd (.inr (.inr (.inl e))) h6
      obtain ⟨a1, a2, a3, rfl⟩ := hA
      refine Seg.cons (q := [b, x, y]) ⟨by simp, fun s => ?_, .inr (List.forall_mem_cons.2 ⟨(by omega), List.forall_mem_cons.2 ⟨a1.1, List.forall_mem_cons.2 ⟨a2.1, fun _ h => nomatch h⟩⟩⟩)⟩ (seg_of n t (by simp at h; omega) (by simpa using hv))
      show Lib.validD (b :: x :: y :: s) = _
      rw [validD_cons]
      rw [show utfN ((x :: y :: s).length + 1) b.toNat ((x :: y :: s).getD 0 0).toNat ((x :: y :: s).getD 1 0).toNat ((x :: y :: s).getD 2 0).toNat = 3 by
        rw [utfN, if_neg h1, if_neg (show ¬ b.toNat < 192 by omega), if_neg h2, if_pos h3, if_neg]
        simp only [List.getD_cons_zero, List.getD_cons_succ, List.length_cons]
        intro e
        apply a3
        rcases e with e | e
        · omega
        · exact .inr e]
      simp
    rcases t with _ | ⟨z, t⟩
    · exfalso
      rw [short4 (by simp) (by assumption)] at hk
      exact hz hk.symm
    have hA : Cn x.toNat ∧ Cn y.toNat ∧ Cn z.toNat ∧ ¬ bad4 (t.length + 4) b.toNat x.toNat y.toNat z.toNat ∧ k = 4 := by
      simp only [utfN, if_neg h1, if_neg h2, if_neg (show ¬ b.toNat < 192 by omega), if_neg h3, List.getD_cons_zero, List.getD_cons_succ, List.length_cons] at hk
      split at hk
      · exfalso; omega
      · rename_i h6
        refine ⟨?_, ?_, ?_, h6, hk.symm⟩
        · by_cases e : Cn x.toNat
          · exact e
          · exact absurd (.inr (.inl e)) h6
        · by_cases e : Cn y.toNat
          · exact e
          · exact absurd (.inr (.inr (.inl e))) h6
        · by_cases e : Cn z.toNat
          · exact e
          · exact absurd (.inr (.inr (.inr (.inl e)))) h6
    obtain ⟨a1, a2, a4, a3, rfl⟩ := hA
    refine Seg.cons (q := [b, x, y, z]) ⟨by simp, fun s => ?_, .inr (List.forall_mem_cons.2 ⟨(by omega), List.forall_mem_cons.2 ⟨a1.1, List.forall_mem_cons.2 ⟨a2.1, List.forall_mem_cons.2 ⟨a4.1, fun _ h => nomatch h⟩⟩⟩⟩)⟩ (seg_of n t (by simp at h; omega) (by simpa using hv))
    show Lib.validD (b :: x :: y :: z :: s) = _
    rw [validD_cons]
    rw [show utfN ((x :: y :: z :: s).length + 1) b.toNat ((x :: y :: z :: s).getD 0 0).toNat ((x :: y :: z :: s).getD 1 0).toNat ((x :: y :: z :: s).getD 2 0).toNat = 4 by
      rw [utfN, if_neg h1, if_neg (show ¬ b.toNat < 192 by omega), if_neg h2, if_neg h3, if_neg]
      simp only [List.getD_cons_zero, List.getD_cons_succ, List.length_cons]
      intro e
      apply a3
      rcases e with e | e
      · omega
      · exact .inr e]
    simp
theorem Seg.last {s : List UInt8} (h : Seg s) : ∀ d : List UInt8, s = d ++ [32] → Seg d := by
  induction h with
  | nil => intro d e; simp at e
  | @cons q s hq hs ih =>
    intro d e
    rcases List.eq_nil_or_concat s with rfl | ⟨s', c, rfl⟩
    · rw [List.append_nil] at e
      subst e
      rcases hq.2.2 with ⟨c, e2, _⟩ | h2
      · have : d = [] := by
          have := congrArg List.length e2
          simp at this
          exact this
        subst this
        exact .nil
      · have := h2 32 (by simp)
        exact absurd this (by decide)
    · rw [List.concat_eq_append] at *
      rw [← List.append_assoc] at e
      obtain ⟨e1, e2⟩ := List.append_inj' e rfl
      subst e1
      rw [e2] at ih hs
      exact .cons hq (ih s' rfl)
theorem fold_chr {q : List UInt8} (hq : ∀ c ∈ q, 128 ≤ c.toNat) : ∀ b, q.foldl prepStep b = b ++ q := by
  induction q with
  | nil => simp
  | cons c q ih =>
    intro b
    have hc := hq c (by simp)
    have h32 : ¬ (c = 32 ∧ endsB b = true) := by rintro ⟨rfl, _⟩; exact absurd hc (by decide)
    rw [List.foldl_cons, prepStep, if_neg h32, ih (fun c hc => hq c (by simp [hc]))]
    simp
theorem chr_low {q : List UInt8} (hq : Chr q) : Chr (foldS q) ∧ ((∃ c : UInt8, foldS q = [c] ∧ c.toNat < 128) ∨ ∀ c ∈ foldS q, 128 ≤ c.toNat) := by
  have h : Chr (foldS q) := by
    rcases hq.2.2 with ⟨c, rfl, hc⟩ | h2
    · refine chr_one (c := lowB c) ?_
      rw [lowB_toNat]; split <;> omega
    · have : foldS q = q := by
        unfold foldS
        rw [List.map_congr_left (g := id) (fun x hx => ?_), List.map_id]
        refine lowB_not ?_
        have := h2 x hx
        omega
      rw [this]; exact hq
  exact ⟨h, h.2.2⟩
theorem seg_fold {s : List UInt8} (h : Seg s) : ∀ b, Seg b → Seg ((foldS s).foldl prepStep b) := by
  induction h with
  | nil => exact fun b hb => hb
  | @cons q s hq hs ih =>
    intro b hb
    rw [show foldS (q ++ s) = foldS q ++ foldS s by simp [foldS], List.foldl_append]
    refine ih _ ?_
    obtain ⟨h1, ⟨c, e, hc⟩ | h2⟩ := chr_low hq
    · rw [e]
      simp only [List.foldl_cons, List.foldl_nil, prepStep]
      split
      · exact hb
      · exact hb.app (.cons (s := []) (chr_one hc) .nil)
    · rw [fold_chr h2]
      refine hb.app ?_
      have := Seg.cons h1 .nil
      rwa [List.append_nil] at this
theorem valid_prepS {s : List UInt8} (h : Lib.validD s = true) : Lib.validD (prepS s) = true := by
  have h1 := seg_fold (seg_of _ s (Nat.le_refl _) h) [] .nil
  refine Seg.valid ?_
  show Seg (trimB (prepL (foldS s)))
  unfold prepL
  obtain ⟨b, hb⟩ : ∃ b, (foldS s).foldl prepStep [] = b := ⟨_, rfl⟩
  rw [hb] at h1 ⊢
  rcases List.eq_nil_or_concat b with rfl | ⟨d, c, rfl⟩
  · exact .nil
  · rw [List.concat_eq_append] at h1 ⊢
    rw [trimB_app]
    split
    · rename_i hc
      subst hc
      exact h1.last d rfl
    · exact h1
end Go.Proofs.YtffnflplocbpiaaGreatDoor.Av

namespace Go.Proofs.YtffnflplocbpiaaGreatDoor.Av
open Go
set_option maxHeartbeats 8000000
set_option maxRecDepth 100000

theorem valL_wr (v : List UInt8) (rest : List UInt8) (hr : rest = [] ∨ ∃ c t, rest = c :: t ∧ (c = 44 ∨ c = 43)) : ∀ (s b : List UInt8) (bl : Bool), b ++ s = v → (s = [] → bl = false) → valL b bl (wrL v.length b.length s ++ rest) = some (v, rest, true)
  | [], b, bl, e, h => by
    rw [List.append_nil] at e
    subst e
    simp only [wrL, List.nil_append]
    rw [h rfl]
    rcases hr with rfl | ⟨c, t, rfl, hc⟩
    · exact valL_nil
    · exact valL_stop hc
  | c :: s, b, bl, e, h => by
    have ih := fun bl' (h' : s = [] → bl' = false) => valL_wr v rest hr s (b ++ [c]) bl' (by rw [← e]; simp) h'
    have hbl : (b ++ [c]).length = b.length + 1 := by simp
    rw [hbl] at ih
    have hvl : v.length = b.length + s.length + 1 := by rw [← e]; simp; omega
    rw [wrL, List.append_assoc]
    unfold wrB
    split
    · rename_i hc
      subst hc
      show valL b bl (92 :: 48 :: 48 :: (wrL v.length (b.length + 1) s ++ rest)) = _
      rw [valL_hex (by decide)]
      exact ih false (fun _ => rfl)
    · rename_i hc
      split
      · rename_i h2
        show valL b bl (92 :: c :: (wrL v.length (b.length + 1) s ++ rest)) = _
        rw [valL_esc1]
        · exact ih false (fun _ => rfl)
        · rcases h2 with ⟨_, rfl | rfl⟩ | ⟨_, rfl⟩ | h2
          · decide
          · decide
          · decide
          · simp only [List.mem_cons, List.not_mem_nil, or_false] at h2 ⊢
            rcases h2 with rfl | rfl | rfl | rfl | rfl | rfl | rfl <;> decide
      · rename_i h2
        show valL b bl (c :: (wrL v.length (b.length + 1) s ++ rest)) = _
        have h5 : ¬ c ∈ ([34, 43, 44, 59, 60, 62, 92] : List UInt8) := fun q => h2 (.inr (.inr q))
        simp only [List.mem_cons, List.not_mem_nil, or_false, not_or] at h5
        rw [valL_plain (fun q => q.elim (fun q => h5.2.2.1 q) (fun q => h5.2.1 q)) (fun q => h5.2.2.2.2.2.2 q)]
        rw [if_neg]
        · refine ih _ (fun hs => ?_)
          rw [decide_eq_false_iff_not]
          intro q
          refine h2 (.inr (.inl ⟨?_, q⟩))
          rw [hvl, hs]; simp
        · rintro (q | q | ⟨q1, q2⟩)
          · exact hc q
          · simp only [List.mem_cons, List.not_mem_nil, or_false] at q
            rcases q with q | q | q | q
            · exact h5.1 q
            · exact h5.2.2.2.1 q
            · exact h5.2.2.2.2.1 q
            · exact h5.2.2.2.2.2.1 q
          · exact h2 (.inl ⟨by rw [q1]; rfl, q2⟩)
theorem valL_writS (v : List UInt8) {rest : List UInt8} (hr : rest = [] ∨ ∃ c t, rest = c :: t ∧ (c = 44 ∨ c = 43)) : valL [] false (writS v ++ rest) = some (v, rest, true) :=
  valL_wr v rest hr v [] false rfl (fun _ => rfl)
theorem cutE_app : ∀ (t r : List UInt8), (∀ c ∈ t, c ≠ 61) → cutE (t ++ 61 :: r) = some (t, r)
  | [], r, _ => by simp [cutE]
  | c :: t, r, h => by
    rw [List.cons_append, cutE, if_neg (h c (by simp)), cutE_app t r (fun x hx => h x (by simp [hx]))]
theorem typ_no61 {t : List UInt8} (h : typS t = true) : ∀ c ∈ t, c ≠ 61 := by
  intro c hc e
  simp only [typS, Bool.and_eq_true, List.all_eq_true] at h
  have := h.2 c hc
  rw [e] at this
  exact absurd this (by decide)
theorem join_one (x sep : List UInt8) (xs : List (List UInt8)) : Lib.join (x :: xs) sep = x ++ xs.flatMap (fun y => sep ++ y) := by
  induction xs generalizing x with
  | nil => simp [Lib.join, List.intercalate]
  | cons y l ih =>
    have e : Lib.join (x :: y :: l) sep = x ++ (sep ++ Lib.join (y :: l) sep) := by simp [Lib.join, List.intercalate]
    rw [e, ih]
    simp
def avTail (t : Rdn) : List UInt8 := t.flatMap fun a => 43 :: avT false a
def rdTail (d : List Rdn) : List UInt8 := d.flatMap fun r => 44 :: rowT false r
theorem rowT_cons (a : Ava) (t : Rdn) : rowT false (a :: t) = avT false a ++ avTail t := by
  simp only [rowT, Bool.false_eq_true, if_false, List.map_cons, join_one, avTail]
  simp [List.flatMap_map]
theorem txtT_cons (r : Rdn) (d : List Rdn) : txtT false (r :: d) = rowT false r ++ rdTail d := by
  simp only [txtT, List.map_cons, join_one, rdTail]
  simp [List.flatMap_map]
theorem parF_txt : ∀ (f : Nat) (out : List Rdn) (now : Rdn) (a : Ava) (t : Rdn) (d : List Rdn), (avT false a ++ (avTail t ++ rdTail d)).length < f → out.length < 32 → chkRow now (a :: t) = 0 → chkD (out.length + 1) d = 0 →
    parF f out now (avT false a ++ (avTail t ++ rdTail d)) = (out ++ [now ++ a :: t] ++ d, 0)
  | 0, _, _, _, _, _, h, _, _, _ => by omega
  | f + 1, out, now, (ty, v), t, d, hf, ho, hc, hd => by
    unfold chkRow at hc
    split at hc
    · cases hc
    rename_i hn8
    split at hc
    · cases hc
    rename_i hty
    split at hc
    · cases hc
    rename_i hha
    simp only [Bool.not_eq_false] at hty
    have e1 : avT false (ty, v) ++ (avTail t ++ rdTail d) = ty ++ 61 :: (writS v ++ (avTail t ++ rdTail d)) := by simp [avT]
    rw [e1] at hf ⊢
    rw [parF, if_neg (by omega), cutE_app _ _ (typ_no61 hty)]
    simp only
    rw [if_neg (by simp [hty]), if_neg hha]
    rcases t with _ | ⟨a2, t⟩
    · rcases d with _ | ⟨r, d⟩
      · rw [show avTail [] ++ rdTail [] = ([] : List UInt8) from rfl]
        rw [valL_writS v (.inl rfl)]
        simp
      · rw [show avTail [] ++ rdTail (r :: d) = 44 :: (rowT false r ++ rdTail d) by simp [avTail, rdTail]] at hf ⊢
        rw [valL_writS v (.inr ⟨44, _, rfl, .inl rfl⟩)]
        simp only [Bool.true_eq_false, if_false, if_true]
        unfold chkD at hd
        split at hd
        · cases hd
        rename_i h32
        split at hd
        · cases hd
        rename_i hr0
        split at hd
        · rename_i h5; exact absurd hd h5
        rename_i h5
        simp only [ne_eq, Decidable.not_not] at h5
        rcases r with _ | ⟨a2, t⟩
        · exact absurd rfl hr0
        have ih := parF_txt f (out ++ [now ++ [(ty, v)]]) [] a2 t d
        rw [rowT_cons, List.append_assoc] at hf ⊢
        rw [ih (by simp only [List.length_append, List.length_cons] at hf ⊢; omega) (by simp; omega) h5 (by simpa using hd)]
        simp
    · rw [show avTail (a2 :: t) ++ rdTail d = 43 :: (avT false a2 ++ (avTail t ++ rdTail d)) by simp [avTail]] at hf ⊢
      rw [valL_writS v (.inr ⟨43, _, rfl, .inr rfl⟩)]
      simp only [Bool.true_eq_false, if_false, show ¬ ((43 : UInt8) = 44) by decide]
      have ih := parF_txt f out (now ++ [(ty, v)]) a2 t d
      rw [ih (by simp only [List.length_append, List.length_cons] at hf ⊢; omega) ho hc hd]
      simp
theorem parS_txt {d : List Rdn} (h : chkD 0 d = 0) (hl : (txtT false d).length ≤ 4096) : parS (txtT false d) = (d, 0) := by
  unfold parS
  rw [if_neg (by omega)]
  rcases d with _ | ⟨r, d⟩
  · simp [txtT, Lib.join]
  unfold chkD at h
  split at h
  · cases h
  split at h
  · cases h
  rename_i hr0
  split at h
  · rename_i h5; exact absurd h h5
  rename_i h5
  simp only [ne_eq, Decidable.not_not] at h5
  rcases r with _ | ⟨a, t⟩
  · exact absurd rfl hr0
  rw [txtT_cons, rowT_cons, List.append_assoc]
  rw [if_neg (by simp [avT])]
  have := parF_txt ((avT false a ++ (avTail t ++ rdTail d)).length + 1) [] [] a t d (by omega) (by simp) h5 h
  rw [this]
  simp
end Go.Proofs.YtffnflplocbpiaaGreatDoor.Av

namespace Go.Proofs.YtffnflplocbpiaaGreatDoor.Av
open Go
set_option maxHeartbeats 8000000
set_option maxRecDepth 100000

/-- Two pairs whose names differ, big or small. -/
def Dif (a b : Ava) : Prop := foldS a.1 ≠ foldS b.1
theorem hasT_app (r q : Rdn) (t : List UInt8) : hasT (r ++ q) t = (hasT r t || hasT q t) := by simp [hasT]
theorem hasT_no {r : Rdn} {t : List UInt8} : hasT r t = false ↔ ∀ a ∈ r, foldS a.1 ≠ foldS t := by simp [hasT]
theorem chkRow_iff : ∀ (t done : Rdn), done.length ≤ 8 → (chkRow done t = 0 ↔ done.length + t.length ≤ 8 ∧ (∀ a ∈ t, typS a.1 = true) ∧ (∀ a ∈ done, ∀ b ∈ t, Dif a b) ∧ t.Pairwise Dif)
  | [], done, h => by simp [chkRow, h]
  | a :: t, done, h => by
    unfold chkRow
    by_cases h8 : done.length = 8
    · rw [if_pos h8]
      simp only [List.length_cons]
      constructor
      · intro e; cases e
      · intro e; omega
    rw [if_neg h8]
    by_cases hty : typS a.1 = false
    · rw [if_pos hty]
      constructor
      · intro e; cases e
      · intro e
        have := e.2.1 a (by simp)
        rw [hty] at this; cases this
    rw [if_neg hty]
    by_cases hh : hasT done a.1 = true
    · rw [if_pos hh]
      constructor
      · intro e; cases e
      · intro e
        have : hasT done a.1 = false := hasT_no.2 fun b hb => e.2.2.1 b hb a (by simp)
        rw [hh] at this; cases this
    rw [if_neg hh, chkRow_iff t (done ++ [a]) (by simp; omega)]
    simp only [Bool.not_eq_false] at hty
    have hh2 := hasT_no.1 (by simpa using hh)
    simp only [List.length_append, List.length_cons, List.length_nil, List.mem_append, List.mem_singleton, List.mem_cons, List.not_mem_nil, or_false, forall_eq_or_imp, List.pairwise_cons]
    constructor
    · rintro ⟨e1, e2, e3, e4⟩
      refine ⟨by omega, ⟨hty, e2⟩, fun x hx => ⟨hh2 x hx, fun b hb => e3 x (.inl hx) b hb⟩, fun b hb => e3 a (.inr rfl) b hb, e4⟩
    · rintro ⟨e1, ⟨_, e2⟩, e3, e4, e5⟩
      refine ⟨by omega, e2, ?_, e5⟩
      rintro x (hx | rfl) b hb
      · exact (e3 x hx).2 b hb
      · exact e4 b hb
theorem typS_fold {t : List UInt8} (h : typS t = true) : typS (foldS t) = true := by
  simp only [typS, Bool.and_eq_true, List.all_eq_true, decide_eq_true_eq] at h ⊢
  obtain ⟨⟨⟨h1, h2⟩, h3⟩, h4⟩ := h
  have hlet : ∀ c : UInt8, isLet (c.toNat : Int) = true → isLet ((lowB c).toNat : Int) = true := by
    intro c hc
    have := lowB_toNat c
    split at this
    · rw [this]
      simp only [isLet, Bool.or_eq_true, Bool.and_eq_true, decide_eq_true_eq] at hc ⊢
      omega
    · rw [this]; exact hc
  refine ⟨⟨⟨by simpa [foldS] using h1, by simpa [foldS] using h2⟩, ?_⟩, ?_⟩
  · rcases t with _ | ⟨c, t⟩
    · simp at h1
    · simpa [foldS] using hlet c (by simpa using h3)
  · intro c hc
    obtain ⟨x, hx, rfl⟩ := List.mem_map.1 hc
    have := h4 x hx
    simp only [typC, Bool.or_eq_true] at this ⊢
    rcases this with (e | e) | e
    · exact .inl (.inl (hlet x e))
    · refine .inl (.inr ?_)
      simp only [Bool.and_eq_true, decide_eq_true_eq] at e ⊢
      rw [lowB_toNat, if_neg (by omega)]; exact e
    · refine .inr ?_
      simp only [decide_eq_true_eq] at e ⊢
      rw [lowB_toNat, if_neg (by omega)]; exact e
theorem plain_perm (r : Rdn) : (plainR r).Perm (r.map pavA) := by
  have := (fold_ins r [] List.Pairwise.nil).2
  rwa [List.nil_append] at this
theorem pavA_idem (a : Ava) : pavA (pavA a) = pavA a := by simp [pavA, foldS_idem, prepS_idem]
theorem chkRow_plain {r : Rdn} (h : chkRow [] r = 0) : chkRow [] (plainR r) = 0 := by
  rw [chkRow_iff _ _ (by simp)] at h ⊢
  obtain ⟨h1, h2, _, h4⟩ := h
  have hp := plain_perm r
  refine ⟨by simpa [plainR_len] using h1, fun a ha => ?_, fun a ha => (by cases ha), ?_⟩
  · obtain ⟨b, hb, rfl⟩ := List.mem_map.1 (hp.mem_iff.1 ha)
    exact typS_fold (h2 b hb)
  · refine (hp.pairwise_iff (fun {a b} e => Ne.symm e)).2 ?_
    rw [List.pairwise_map]
    refine h4.imp fun {a b} e => ?_
    simpa [Dif, pavA, foldS_idem] using e
theorem chkD_plain : ∀ (d : List Rdn) (i : Nat), chkD i d = 0 → chkD i (plainD d) = 0
  | [], _, h => h
  | r :: d, i, h => by
    unfold chkD at h
    show chkD i (plainR r :: plainD d) = 0
    unfold chkD
    split at h
    · cases h
    rename_i h32
    split at h
    · cases h
    rename_i hr
    split at h
    · rename_i h5; exact absurd h h5
    rename_i h5
    simp only [ne_eq, Decidable.not_not] at h5
    rw [if_neg h32, if_neg, if_neg (by simpa using chkRow_plain h5), chkD_plain d _ h]
    intro e
    have := congrArg List.length e
    rw [plainR_len] at this
    exact hr (List.length_eq_zero_iff.1 this)
/-- The weight of a byte as it is written: without its place. -/
def wtB (c : UInt8) : Nat := if c = 0 then 3 else if c ∈ ([34, 43, 44, 59, 60, 62, 92] : List UInt8) then 2 else 1
def wtS (s : List UInt8) : Nat := (s.map wtB).sum
theorem wtS_app (a b : List UInt8) : wtS (a ++ b) = wtS a + wtS b := by simp [wtS]
theorem wt_low : ∀ c : UInt8, wtB (lowB c) = wtB c := by
  intro c
  by_cases h : 65 ≤ c.toNat ∧ c.toNat ≤ 90
  · have h2 := lowB_toNat c
    rw [if_pos h] at h2
    have g : ∀ x : UInt8, 65 ≤ x.toNat → x.toNat ≠ 92 → wtB x = 1 := by
      intro x hx hn
      unfold wtB
      rw [if_neg (by rintro rfl; exact absurd hx (by decide)), if_neg]
      simp only [List.mem_cons, List.not_mem_nil, or_false]
      rintro (rfl | rfl | rfl | rfl | rfl | rfl | rfl)
      all_goals first | exact absurd hx (by decide) | exact absurd rfl hn
    rw [g c (by omega) (by omega), g _ (by omega) (by omega)]
  · rw [lowB_not h]
theorem wt_foldS (s : List UInt8) : wtS (foldS s) = wtS s := by
  simp only [wtS, foldS, List.map_map]
  rw [show (wtB ∘ lowB) = wtB from funext wt_low]
theorem wrB_wt (i n : Nat) (c : UInt8) : wtB c ≤ (wrB i n c).length := by
  unfold wtB wrB
  by_cases h0 : c = 0
  · rw [if_pos h0, if_pos h0]; simp
  · rw [if_neg h0, if_neg h0]
    by_cases h7 : c ∈ ([34, 43, 44, 59, 60, 62, 92] : List UInt8)
    · rw [if_pos h7, if_pos (.inr (.inr h7))]; simp
    · rw [if_neg h7]; split <;> simp
theorem wrL_wt (n : Nat) : ∀ (s : List UInt8) (i : Nat), wtS s ≤ (wrL n i s).length
  | [], _ => by simp [wtS]
  | c :: s, i => by
    have h1 := wrL_wt n s (i + 1)
    have h2 := wrB_wt i n c
    simp only [wrL, List.length_append, wtS, List.map_cons, List.sum_cons] at h1 ⊢
    omega
theorem wrB_in {i n : Nat} {c : UInt8} (hi : i ≠ 0) (hc : c ≠ 32) : (wrB i n c).length = wtB c := by
  unfold wtB wrB
  by_cases h0 : c = 0
  · rw [if_pos h0, if_pos h0]; simp
  · rw [if_neg h0, if_neg h0]
    by_cases h7 : c ∈ ([34, 43, 44, 59, 60, 62, 92] : List UInt8)
    · rw [if_pos h7, if_pos (.inr (.inr h7))]; simp
    · rw [if_neg h7, if_neg]; · simp
      rintro (e | e | e)
      · exact hi e.1
      · exact hc e.2
      · exact h7 e
theorem wrB_sp {i n : Nat} (hi : i ≠ 0) (hn : i + 1 ≠ n) : (wrB i n 32).length = wtB 32 := by
  have e : wrB i n 32 = [32] := by
    unfold wrB
    rw [if_neg (by decide), if_neg]
    rintro (e | e | e)
    · exact hi e.1
    · exact hn e.1
    · exact absurd e (by decide)
  rw [e]; decide
theorem wrL_in (n : Nat) : ∀ (s : List UInt8) (i : Nat), i ≠ 0 → n = i + s.length → s.getLast? ≠ some 32 → (wrL n i s).length = wtS s
  | [], _, _, _, _ => by simp [wrL, wtS]
  | c :: s, i, hi, hn, hl => by
    have h1 : s.getLast? ≠ some 32 := by
      rcases s with _ | ⟨x, s⟩
      · simp
      · rwa [List.getLast?_cons_cons] at hl
    have ih := wrL_in n s (i + 1) (by omega) (by simp at hn; omega) h1
    have h2 : (wrB i n c).length = wtB c := by
      by_cases hc : c = 32
      · subst hc
        refine wrB_sp hi fun e => ?_
        have : s = [] := List.length_eq_zero_iff.1 (by simp at hn; omega)
        subst this
        exact hl rfl
      · exact wrB_in hi hc
    rw [wrL, List.length_append, ih, h2]
    simp [wtS]
theorem writS_ge (s : List UInt8) : wtS s ≤ (writS s).length := wrL_wt _ _ _
theorem writS_hash (s : List UInt8) : wtS (35 :: s) + 1 ≤ (writS (35 :: s)).length := by
  have h1 := wrL_wt (s.length + 1) s 1
  have e : wrB 0 (s.length + 1) 35 = [92, 35] := by
    unfold wrB
    rw [if_neg (by decide), if_pos (.inl ⟨rfl, .inr rfl⟩)]
  show _ ≤ (wrB 0 (s.length + 1) 35 ++ wrL (s.length + 1) 1 s).length
  rw [e]
  have : wtB 35 = 1 := by decide
  simp only [wtS, List.map_cons, List.sum_cons, List.length_append, List.length_cons, List.length_nil] at h1 ⊢
  omega
/-- A text with no blank at either end: what it is written to. -/
theorem writS_in {c : UInt8} {s : List UInt8} (h1 : c ≠ 32) (h2 : (c :: s).getLast? ≠ some 32) : (writS (c :: s)).length = wtS (c :: s) + (if c = 35 then 1 else 0) := by
  have hs : s.getLast? ≠ some 32 := by
    rcases s with _ | ⟨x, s⟩
    · simp
    · rwa [List.getLast?_cons_cons] at h2
  have h3 := wrL_in (s.length + 1) s 1 (by omega) (by omega) hs
  show (wrB 0 (s.length + 1) c ++ wrL (s.length + 1) 1 s).length = _
  rw [List.length_append, h3]
  have h4 : (wrB 0 (s.length + 1) c).length = wtB c + (if c = 35 then 1 else 0) := by
    unfold wtB wrB
    by_cases h0 : c = 0
    · subst h0; rfl
    · rw [if_neg h0, if_neg h0]
      by_cases h7 : c ∈ ([34, 43, 44, 59, 60, 62, 92] : List UInt8)
      · rw [if_pos h7, if_pos (.inr (.inr h7)), if_neg]
        · rfl
        · rintro rfl; exact absurd h7 (by decide)
      · rw [if_neg h7]
        by_cases h35 : c = 35
        · rw [if_pos h35, if_pos (.inl ⟨rfl, .inr h35⟩)]; rfl
        · rw [if_neg h35, if_neg]; · rfl
          rintro (e | e | e)
          · rcases e.2 with e | e
            · exact h1 e
            · exact h35 e
          · exact h1 e.2
          · exact h7 e
  rw [h4]
  simp [wtS]
  omega
theorem wt_step (b : List UInt8) (c : UInt8) : wtS (prepStep b c) ≤ wtS b + wtB c := by
  unfold prepStep
  split
  · omega
  · rw [wtS_app]; simp [wtS]
theorem wt_fold : ∀ (s b : List UInt8), wtS (s.foldl prepStep b) ≤ wtS b + wtS s
  | [], b => by simp [wtS]
  | c :: s, b => by
    have h1 := wt_fold s (prepStep b c)
    have h2 := wt_step b c
    simp only [List.foldl_cons, wtS, List.map_cons, List.sum_cons] at h1 h2 ⊢
    omega
theorem wt_trim (b : List UInt8) : wtS (trimB b) ≤ wtS b := by
  rcases List.eq_nil_or_concat b with rfl | ⟨d, c, rfl⟩
  · simp [trimB]
  · rw [List.concat_eq_append, trimB_app]
    split
    · rw [wtS_app]; omega
    · omega
theorem head_fold : ∀ (s : List UInt8) (x : UInt8) (b : List UInt8), ∃ t, s.foldl prepStep (x :: b) = x :: t
  | [], x, b => ⟨b, rfl⟩
  | c :: s, x, b => by
    rw [List.foldl_cons, prepStep]
    split
    · exact head_fold s x b
    · exact head_fold s x (b ++ [c])
theorem wtB_pos (c : UInt8) : 1 ≤ wtB c := by unfold wtB; split; · omega
                                              split <;> omega
theorem last_prepS (s : List UInt8) : (prepS s).getLast? ≠ some 32 := by
  have h := trimB_fix (prepL_fix (foldS s))
  have e : trimB (prepS s) = prepS s := h.2
  intro hl
  rcases List.eq_nil_or_concat (prepS s) with q | ⟨d, c, q⟩
  · rw [q] at hl; cases hl
  · rw [q, List.concat_eq_append] at e hl
    rw [trimB_app, if_pos (by simpa using hl)] at e
    have := congrArg List.length e
    simp at this
theorem head_prepS {s : List UInt8} {c : UInt8} {t : List UInt8} (h : prepS s = c :: t) : c ≠ 32 := by
  have e : prepL (prepS s) = prepS s := (trimB_fix (prepL_fix (foldS s))).1
  rw [h] at e
  rintro rfl
  have := prepL_le t
  have e2 : prepL (32 :: t) = t.foldl prepStep [] := rfl
  rw [e2] at e
  have := congrArg List.length e
  have h3 : (t.foldl prepStep []).length ≤ t.length := prepL_le t
  simp at this
  omega
theorem writ_prep (s : List UInt8) : (writS (prepS s)).length ≤ (writS s).length := by
  have hge := writS_ge s
  have hw : wtS (prepS s) ≤ wtS s := by
    have h1 := wt_trim (prepL (foldS s))
    have h2 := wt_fold (foldS s) []
    have h3 := wt_foldS s
    have h4 : wtS (prepL (foldS s)) = wtS ((foldS s).foldl prepStep []) := rfl
    have h5 : wtS ([] : List UInt8) = 0 := rfl
    show wtS (trimB (prepL (foldS s))) ≤ _
    omega
  rcases hp : prepS s with _ | ⟨c, t⟩
  · simp [writS, wrL]
  have hl := last_prepS s
  rw [hp] at hl hw
  rw [writS_in (head_prepS hp) hl]
  split
  · rename_i h35
    subst h35
    rcases s with _ | ⟨x, s⟩
    · have : prepS [] = [] := rfl
      rw [this] at hp; cases hp
    · by_cases hx : x = 35
      · subst hx
        have := writS_hash s
        omega
      · by_cases hx2 : x = 32
        · subst hx2
          have e : prepS (32 :: s) = prepS s := rfl
          have h1 := wt_trim (prepL (foldS s))
          have h2 := wt_fold (foldS s) []
          have h3 := wt_foldS s
          have h4 : wtS (prepL (foldS s)) = wtS ((foldS s).foldl prepStep []) := rfl
          have h5 : wtS ([] : List UInt8) = 0 := rfl
          have h6 : wtS (prepS s) = wtS (trimB (prepL (foldS s))) := rfl
          rw [e] at hp
          rw [hp] at h6
          have h7 : wtS (32 :: s) = wtB 32 + wtS s := by simp [wtS]
          have h8 := wtB_pos 32
          omega
        · exfalso
          have hlx : ¬ (lowB x = 32) := by
            intro q
            have := lowB_toNat x
            rw [q] at this
            apply hx2
            have : x.toNat = 32 := by
              split at this
              · have h9 : (32 : UInt8).toNat = 32 := rfl
                omega
              · exact this.symm
            exact UInt8.toNat.inj this
          have hlx5 : ¬ (lowB x = 35) := by
            intro q
            have := lowB_toNat x
            rw [q] at this
            apply hx
            have : x.toNat = 35 := by
              split at this
              · have h9 : (35 : UInt8).toNat = 35 := rfl
                omega
              · exact this.symm
            exact UInt8.toNat.inj this
          have e1 : foldS (x :: s) = lowB x :: foldS s := rfl
          obtain ⟨u, hu⟩ := head_fold (foldS s) (lowB x) []
          have e2 : prepL (foldS (x :: s)) = lowB x :: u := by
            rw [e1, ← hu]
            show (foldS s).foldl prepStep (prepStep [] (lowB x)) = _
            rw [prepStep, if_neg (fun q => hlx q.1)]; rfl
          have e3 : trimB (lowB x :: u) = 35 :: t := by
            rw [← e2]; exact hp
          rcases List.eq_nil_or_concat u with rfl | ⟨d, y, rfl⟩
          · have : trimB ([] ++ [lowB x]) = [] ++ [lowB x] := by rw [trimB_app, if_neg hlx]
            rw [show [lowB x] = [] ++ [lowB x] from rfl, this] at e3
            exact hlx5 (by simpa using congrArg List.head? e3)
          · rw [List.concat_eq_append, ← List.cons_append, trimB_app] at e3
            split at e3
            · exact hlx5 (by simpa using congrArg List.head? e3)
            · exact hlx5 (by simpa using congrArg List.head? e3)
  · omega
theorem join_sum (xs : List (List UInt8)) (c : UInt8) : (Lib.join xs [c]).length + 1 = (xs.map List.length).sum + xs.length + (if xs = [] then 1 else 0) := by
  rcases xs with _ | ⟨x, xs⟩
  · simp [Lib.join]
  · rw [join_one, if_neg (by simp)]
    have : (xs.flatMap fun y => [c] ++ y).length = (xs.map List.length).sum + xs.length := by
      induction xs with
      | nil => rfl
      | cons y l ih => simp only [List.flatMap_cons, List.length_append, ih, List.map_cons, List.sum_cons, List.length_cons, List.length_nil]; omega
    simp only [List.length_append, this, List.map_cons, List.sum_cons, List.length_cons]
    omega
theorem sum_le {α : Type} {f g : α → Nat} : ∀ l : List α, (∀ a ∈ l, f a ≤ g a) → (l.map f).sum ≤ (l.map g).sum
  | [], _ => Nat.le_refl _
  | a :: l, h => by
    have h1 := sum_le l fun x hx => h x (by simp [hx])
    have h2 := h a (by simp)
    simp only [List.map_cons, List.sum_cons]; omega
theorem perm_sum {l m : List Nat} (h : l.Perm m) : l.sum = m.sum := by
  induction h with
  | nil => rfl
  | cons _ _ ih => simp only [List.sum_cons, ih]
  | swap a b l => simp only [List.sum_cons]; omega
  | trans _ _ a b => exact a.trans b
theorem rowT_key_le (r : Rdn) : (rowT true r).length ≤ (rowT false r).length := by
  have hs : (sortS (r.map (avT true))).Perm (r.map (avT true)) := List.mergeSort_perm _ _
  have h1 := join_sum (sortS (r.map (avT true))) 43
  have h2 := join_sum (r.map (avT false)) 43
  have h3 : ((sortS (r.map (avT true))).map List.length).sum = ((r.map (avT true)).map List.length).sum := perm_sum (hs.map _)
  have h4 : (sortS (r.map (avT true))).length = r.length := by rw [hs.length_eq]; simp
  have h5 : ((r.map (avT true)).map List.length).sum ≤ ((r.map (avT false)).map List.length).sum := by
    rw [List.map_map, List.map_map]
    refine sum_le r fun a _ => ?_
    have := writ_prep a.2
    simp only [Function.comp_apply, avT, if_true, Bool.false_eq_true, if_false, List.length_append, List.length_cons, List.length_nil]
    simp only [foldS, List.length_map]
    omega
  have h6 : (if sortS (r.map (avT true)) = [] then 1 else 0) = (if r.map (avT false) = [] then 1 else 0) := by
    have : sortS (r.map (avT true)) = [] ↔ r.map (avT false) = [] := by
      rw [← List.length_eq_zero_iff, ← List.length_eq_zero_iff, h4]; simp
    simp only [this]
  simp only [rowT, if_true, Bool.false_eq_true, if_false]
  rw [h3, h4, h6] at h1
  simp only [List.length_map] at h2
  omega
theorem txtT_key_le (d : List Rdn) : (txtT true d).length ≤ (txtT false d).length := by
  have h1 := join_sum (d.map (rowT true)) 44
  have h2 := join_sum (d.map (rowT false)) 44
  have h3 : ((d.map (rowT true)).map List.length).sum ≤ ((d.map (rowT false)).map List.length).sum := by
    rw [List.map_map, List.map_map]
    exact sum_le d fun r _ => rowT_key_le r
  have h6 : (if d.map (rowT true) = [] then 1 else 0) = (if d.map (rowT false) = [] then 1 else 0) := by
    simp only [List.map_eq_nil_iff]
  rw [h6] at h1
  simp only [List.length_map] at h1 h2
  unfold txtT
  omega
theorem sort_perm {xs ys : List (List UInt8)} (h : xs.Perm ys) : sortS xs = sortS ys := by
  have hs : ∀ zs : List (List UInt8), (sortS zs).Pairwise fun x y => x ≤ y := fun zs => by
    have := List.pairwise_mergeSort (le := fun x y : List UInt8 => decide (x ≤ y)) (fun a b c h1 h2 => by
      simp only [decide_eq_true_eq] at *
      exact List.le_trans h1 h2) (fun a b => by
      simp only [Bool.or_eq_true, decide_eq_true_eq]
      exact List.le_total a b) zs
    exact this.imp fun h => by simpa using h
  refine List.Perm.eq_of_pairwise (le := fun x y => x ≤ y) (fun a b _ _ => List.le_antisymm) (hs xs) (hs ys) ?_
  exact (List.mergeSort_perm _ _).trans (h.trans (List.mergeSort_perm _ _).symm)
theorem rowT_plain (r : Rdn) : rowT true (plainR r) = rowT true r := by
  simp only [rowT, if_true]
  congr 1
  refine sort_perm ?_
  refine ((plain_perm r).map _).trans ?_
  rw [List.map_map]
  rw [show (avT true ∘ pavA) = avT true from funext fun a => by simp only [Function.comp_apply, avT_key, pavA_idem]]
theorem txtT_plain (d : List Rdn) : txtT true (plainD d) = txtT true d := by
  unfold txtT plainD
  rw [List.map_map]
  rw [show (rowT true ∘ plainR) = rowT true from funext rowT_plain]
theorem keyS_twice {s : List UInt8} (h : (keyS s).2 = 0) : keyS (keyS s).1 = keyS s ∧ (keyS s).1.length ≤ 4096 := by
  unfold keyS at h
  split at h
  · rename_i h1; exact absurd h h1
  rename_i h1
  have hk : keyS s = nrmS (parS s).1 := by rw [keyS, if_neg h1]
  rw [hk]
  obtain ⟨d, hd⟩ : ∃ d, (parS s).1 = d := ⟨_, rfl⟩
  rw [hd] at h ⊢
  unfold nrmS at h
  split at h
  · rename_i h2; exact absurd h h2
  rename_i h2
  have hn : nrmS d = (txtT true d, 0) := by rw [nrmS, if_neg h2]
  rw [hn]
  simp only [ne_eq, Decidable.not_not] at h2
  have hp : chkD 0 d = 0 ∧ (txtT false d).length ≤ 4096 := by
    unfold prS at h2
    split at h2
    · rename_i h3; exact absurd h2 h3
    rename_i h3
    split at h2
    · cases h2
    split at h2
    · cases h2
    exact ⟨by simpa using h3, by omega⟩
  have hl := txtT_key_le d
  have ht := plain_text d
  have hc := chkD_plain d 0 hp.1
  have hl2 : (txtT false (plainD d)).length ≤ 4096 := by rw [ht]; omega
  refine ⟨?_, by simp only; omega⟩
  simp only
  rw [← ht]
  unfold keyS
  rw [parS_txt hc hl2]
  simp only
  rw [if_neg (by simp)]
  unfold nrmS
  have hpr : prS (plainD d) = (txtT false (plainD d), 0) := by
    unfold prS
    rw [if_neg (by simpa using hc), longD_no (siz_long (Nat.le_trans (txtT_ge _) hl2)), if_neg (by simp), if_neg (by omega)]
  rw [hpr]
  simp only
  rw [if_neg (by simp), txtT_plain, ht]
end Go.Proofs.YtffnflplocbpiaaGreatDoor.Av

namespace Go.Proofs.YtffnflplocbpiaaGreatDoor.Av
open Go
set_option maxHeartbeats 8000000
set_option maxRecDepth 100000

theorem ascS_prep {v : List UInt8} (h : ascS v = true) : ascS (prepS v) = true := by
  simp only [ascS, List.all_eq_true, decide_eq_true_eq] at h ⊢
  intro x hx
  obtain ⟨c, hc, rfl⟩ := mem_prepS hx
  have := h c hc
  have h2 := lowB_toNat c
  split at h2 <;> omega
theorem norm_twice {syn : Int} {v n : List UInt8} (h : normO syn v = some n) (hx : ¬ (n = [] ∧ syn = 1)) : normO syn n = some n := by
  unfold normO at h
  split at h
  · cases h
  rename_i hl
  have hpl := prepS_len v
  unfold normF at h
  split at h
  · rename_i hs
    split at h
    · cases h
    split at h
    · rename_i hv
      cases h
      unfold normO normF
      rw [if_neg (by omega), if_pos hs, if_neg (fun e => hx ⟨e, hs⟩), if_pos (valid_prepS hv), prepS_idem]
    · cases h
  split at h
  · rename_i h1 hs
    split at h
    · cases h
    rename_i h0
    split at h
    · rename_i hv
      cases h
      unfold normO normF
      rw [if_neg hl, if_neg h1, if_pos hs, if_neg h0, if_pos hv]
    · cases h
  split at h
  · rename_i h1 h2 hs
    split at h
    · rename_i ha
      cases h
      unfold normO normF
      rw [if_neg (by omega), if_neg h1, if_neg h2, if_pos hs, if_pos (ascS_prep ha), prepS_idem]
    · cases h
  split at h
  · rename_i h1 h2 h3 hs
    split at h
    · rename_i ha
      cases h
      unfold normO normF
      rw [if_neg hl, if_neg h1, if_neg h2, if_neg h3, if_pos hs, if_pos ha]
    · cases h
  split at h
  · rename_i h1 h2 h3 h4 hs
    split at h
    · rename_i ha
      cases h
      unfold normO normF
      rw [if_neg hl, if_neg h1, if_neg h2, if_neg h3, if_neg h4, if_pos hs, if_pos ha]
    · cases h
  split at h
  · rename_i h1 h2 h3 h4 h5 hs
    split at h
    · rename_i ha
      cases h
      have hk := keyS_twice ha
      unfold normO normF
      rw [if_neg (by omega), if_neg h1, if_neg h2, if_neg h3, if_neg h4, if_neg h5, if_pos hs, hk.1, if_pos ha]
    · cases h
  split at h
  · rename_i h1 h2 h3 h4 h5 h6 hs
    cases h
    unfold normO normF
    rw [if_neg hl, if_neg h1, if_neg h2, if_neg h3, if_neg h4, if_neg h5, if_neg h6, if_pos hs]
  split at h
  · rename_i h1 h2 h3 h4 h5 h6 h7 hs
    split at h
    · rename_i ha
      cases h
      unfold normO normF
      rw [if_neg hl, if_neg h1, if_neg h2, if_neg h3, if_neg h4, if_neg h5, if_neg h6, if_neg h7, if_pos hs, if_pos ha]
    · cases h
  · cases h

theorem twice_k {syn : Int} {v : List UInt8} {L : List Blk} {K : AV → List Blk → Prop} (h : K (.bool true) L) : ACall Tryz.prog 7 [.int .i64 syn, .str v] L K := by
  replace h := hid h
  refine ACall_fn c_law12_SyntaxTwice_eq (by simp [c_law12_SyntaxTwice]) ?_
  simp only [c_law12_SyntaxTwice, initT]
  by_cases la : (5000 : Int) < (v.length : Int)
  · have kk1 := @hid _ @@awake12_k
    refine wk ?_
    exact Fin_same h.out
  rcases hn : normO syn v with _ | n
  · have kk1 := @hid _ @@normG_k
    have kk2 := @hid _ @@awake12_k
    refine wk ?_
    exact Fin_same h.out
  by_cases hx : n = [] ∧ syn = 1
  · obtain ⟨rfl, rfl⟩ := hx
    have kk1 := @hid _ @@normG_k
    have kk2 := @hid _ @@awake12_k
    refine wk ?_
    exact Fin_same h.out
  have h2 := norm_twice hn hx
  obtain ⟨b0, hb0⟩ : ∃ b, decide (n = []) = b := ⟨_, rfl⟩
  obtain ⟨b1, hb1⟩ : ∃ b, decide (syn = 1) = b := ⟨_, rfl⟩
  have hbb : (b0 && b1) = false := by
    rw [← hb0, ← hb1]
    simpa using hx
  clear hx
  have kk1 := @hid _ @@normG_k
  have kk2 := @hid _ @@awake12_k
  refine wk ?_
  exact Fin_same h.out
end Go.Proofs.YtffnflplocbpiaaGreatDoor.Av
