import Derived.Test.YtafghkbedkjpmaaPolF
import Derived.Test.YtafghkbedkjpmaaPolH
set_option linter.unusedSimpArgs false
set_option linter.unusedVariables false
namespace Go.Proofs.Ytafghkbedkjpmaa.Av
open Go
set_option maxHeartbeats 4000000

/-- The times of the first i failures. -/
def fails (from0 step : Int) (i : Nat) : List Int := (List.range i).map fun (j : Nat) => from0 + step * (j : Int)

theorem fails_length (a s : Int) (i : Nat) : (fails a s i).length = i := by simp [fails]
theorem fails_succ (a s : Int) (i : Nat) : fails a s (i + 1) = fails a s i ++ [a + s * (i : Int)] := by simp [fails, List.range_succ]
theorem fails_mem {a s : Int} {i : Nat} {f : Int} (h : f ∈ fails a s i) : ∃ j : Nat, j < i ∧ f = a + s * (j : Int) := by
  simp only [fails, List.mem_map, List.mem_range] at h
  obtain ⟨j, h1, h2⟩ := h
  exact ⟨j, h1, h2.symm⟩

theorem runOk_app : ∀ (l : List Int) (p x : Int), runOk p (l ++ [x]) = (runOk p l && okTime x && decide (l.getLastD p ≤ x))
  | [], p, x => by simp [runOk]
  | y :: l, p, x => by
    simp only [List.cons_append, runOk, runOk_app l y x, List.getLastD_cons]
    cases okTime y <;> cases decide (p ≤ y) <;> cases runOk y l <;> simp

theorem fails_last {a s : Int} {i : Nat} (ha : 0 ≤ a) (hs : s = 0 ∨ s = 1) : (fails a s i).getLastD 0 ≤ a + s * (i : Int) := by
  cases i with
  | zero => rcases hs with rfl | rfl <;> simp [fails] <;> omega
  | succ i =>
    rw [fails_succ]
    simp only [List.getLastD_eq_getLast?, List.getLast?_append, List.getLast?_singleton, Option.some_or, Option.getD_some]
    rcases hs with rfl | rfl <;> omega

theorem fails_run {a s : Int} (ha : 0 ≤ a) (hb : a ≤ 1125899906842624) (hs : s = 0 ∨ s = 1) : ∀ {i : Nat}, i ≤ 100 → runOk 0 (fails a s i) = true
  | 0, _ => by simp [fails, runOk]
  | i + 1, h => by
    rw [fails_succ, runOk_app, fails_run ha hb hs (by omega)]
    have := @fails_last a s i ha hs
    have h2 : okTime (a + s * (i : Int)) = true := by
      simp only [okTime, Bool.and_eq_true, decide_eq_true_eq]
      rcases hs with rfl | rfl <;> omega
    simp only [h2, Bool.true_and, Bool.and_true, decide_eq_true_eq]; exact this

theorem fails_put {a s : Int} (hs : s = 0 ∨ s = 1) (i : Nat) : putIn (fails a s i) (a + s * (i : Int)) = fails a s (i + 1) := by
  rcases hs with rfl | rfl
  · have h1 : (fails a 0 i).filter (fun f => decide (f < a + 0 * (i : Int))) = [] := List.filter_eq_nil_iff.2 fun f hf => by
      obtain ⟨j, _, rfl⟩ := fails_mem hf
      simp
    have h2 : (fails a 0 i).filter (fun f => !decide (f < a + 0 * (i : Int))) = fails a 0 i := List.filter_eq_self.2 fun f hf => by
      obtain ⟨j, _, rfl⟩ := fails_mem hf
      simp
    rw [putIn, h1, h2, List.nil_append]
    have e : ∀ n, fails a 0 n = List.replicate n a := fun n => by
      rw [List.eq_replicate_iff]
      refine ⟨fails_length _ _ _, fun f hf => ?_⟩
      obtain ⟨j, _, rfl⟩ := fails_mem hf
      simp
    rw [e, e]; simp [List.replicate_succ]
  · have h1 : (fails a 1 i).filter (fun f => decide (f < a + 1 * (i : Int))) = fails a 1 i := List.filter_eq_self.2 fun f hf => by
      obtain ⟨j, _, rfl⟩ := fails_mem hf
      simp; omega
    have h2 : (fails a 1 i).filter (fun f => !decide (f < a + 1 * (i : Int))) = [] := List.filter_eq_nil_iff.2 fun f hf => by
      obtain ⟨j, _, rfl⟩ := fails_mem hf
      simp; omega
    rw [putIn, h1, h2, fails_succ]

theorem polOk_b {a b c d : Int} (h : polOk a b c d = true) : 0 ≤ a ∧ a ≤ 100 ∧ 0 ≤ b ∧ b ≤ 9007199254740991 ∧ 0 ≤ c ∧ c ≤ 9007199254740991 ∧ 0 ≤ d ∧ d ≤ 9007199254740991 := by
  simp only [polOk, okTime, Bool.and_eq_true, decide_eq_true_eq] at h
  omega

theorem lock_step {pf pw pl pa a s : Int} {i : Nat} (hp : polOk pf pw pl pa = true) (hw : pw = 0 ∨ 200 ≤ pw) (ha : 0 ≤ a) (hb : a ≤ 1125899906842624) (hs : s = 0 ∨ s = 1) (hi : (i : Int) < pf) :
    tryR pf pw pl pa (fails a s i) (-1) a (a + s * (i : Int)) false = if (i : Int) + 1 = pf then (([], a + s * (i : Int), a), 1) else ((fails a s (i + 1), -1, a), 1) := by
  have hb' := polOk_b hp
  have hr := @fails_run a s ha hb hs i (by omega)
  have hnow : okTime (a + s * (i : Int)) = true := by
    simp only [okTime, Bool.and_eq_true, decide_eq_true_eq]
    rcases hs with rfl | rfl <;> omega
  have hch : okTime a = true := by
    simp only [okTime, Bool.and_eq_true, decide_eq_true_eq]; omega
  have hst : stOk (fails a s i) (-1) a = true := by
    simp only [stOk, hr, hch, fails_length, decide_true, Bool.true_or, Bool.and_true, Bool.true_and, decide_eq_true_eq]
    omega
  have hf : (if (-1 : Int) < 0 then (fails a s i).filter (fun f => !oldB pw (a + s * (i : Int)) f) else []) = fails a s i := by
    rw [if_pos (by omega)]
    refine List.filter_eq_self.2 fun f hf => ?_
    obtain ⟨j, hj, rfl⟩ := fails_mem hf
    have e : IntKind.i64.wrap (a + s * (i : Int) - (a + s * (j : Int))) = a + s * (i : Int) - (a + s * (j : Int)) := by
      refine wrap64_in ?_ ?_ <;> rcases hs with rfl | rfl <;> omega
    simp only [oldB, e]
    rcases hw with rfl | hw
    · simp
    · have : ¬ (pw ≤ a + s * (i : Int) - (a + s * (j : Int))) := by rcases hs with rfl | rfl <;> omega
      simp [this]
  have hk : (if 100 < (putIn (fails a s i) (a + s * (i : Int))).length then (putIn (fails a s i) (a + s * (i : Int))).drop 1 else putIn (fails a s i) (a + s * (i : Int))) = fails a s (i + 1) := by
    rw [fails_put hs, if_neg (by rw [fails_length]; omega)]
  rw [tryR_wrong (by simp [hp, hst, hnow]) (by omega) rfl _ _ hf hk, fails_length]
  by_cases h : (i : Int) + 1 = pf
  · rw [if_pos h, if_pos (by omega)]
  · rw [if_neg h, if_neg (by omega)]

/-- The state behind k failures. -/
def lockSt (pf a s : Int) (k : Nat) : List Int × Int × Int := if (k : Int) = pf then ([], a + s * (pf - 1), a) else (fails a s k, -1, a)

theorem lock_stepS {pf pw pl pa a s : Int} {i : Nat} (hp : polOk pf pw pl pa = true) (hw : pw = 0 ∨ 200 ≤ pw) (ha : 0 ≤ a) (hb : a ≤ 1125899906842624) (hs : s = 0 ∨ s = 1) (hi : (i : Int) < pf) :
    tryR pf pw pl pa (lockSt pf a s i).1 (lockSt pf a s i).2.1 (lockSt pf a s i).2.2 (a + s * (i : Int)) false = (lockSt pf a s (i + 1), 1) := by
  rw [lockSt, if_neg (by omega), lock_step hp hw ha hb hs hi, lockSt]
  by_cases h : (i : Int) + 1 = pf
  · rw [if_pos h, if_pos (by omega)]
    congr 4; subst h; congr 2; omega
  · rw [if_neg h, if_neg (by omega)]

theorem lock_right {pf pw pl pa a t n : Int} (hp : polOk pf pw pl pa = true) (ha : 0 ≤ a) (hat : a ≤ t) (htn : t ≤ n) (hn : n ≤ 9007199254740991) :
    (tryR pf pw pl pa [] t a n true).2 = if pl = 0 ∨ n - t < pl then 2 else if 0 < pa ∧ pa ≤ n - a then 3 else 0 := by
  have e1 : IntKind.i64.wrap (n - t) = n - t := wrap64_in (by omega) (by omega)
  have e2 : IntKind.i64.wrap (n - a) = n - a := wrap64_in (by omega) (by omega)
  have h1 : (polOk pf pw pl pa && stOk [] t a && okTime n) = true := by
    have : okTime n = true := by simp only [okTime, Bool.and_eq_true, decide_eq_true_eq]; omega
    have h2 : okTime t = true := by simp only [okTime, Bool.and_eq_true, decide_eq_true_eq]; omega
    have h3 : okTime a = true := by simp only [okTime, Bool.and_eq_true, decide_eq_true_eq]; omega
    simp [stOk, runOk, hp, this, h2, h3]
  simp only [tryR, h1, e1, e2, Bool.true_eq_false, if_false]
  by_cases c1 : pl = 0 ∨ n - t < pl
  · rw [if_pos ⟨by omega, c1⟩, if_pos c1]
  · rw [if_neg (fun h => c1 h.2), if_neg c1]
    by_cases c2 : 0 < pa ∧ pa ≤ n - a
    · rw [if_pos ⟨trivial, c2⟩, if_pos c2]
    · rw [if_neg (fun h => c2 h.2), if_neg c2]; simp

theorem lock_wrong {pf pw pl pa a t n : Int} (hp : polOk pf pw pl pa = true) (ha : 0 ≤ a) (hat : a ≤ t) (htn : t ≤ n) (hn : n ≤ 9007199254740991) :
    (tryR pf pw pl pa [] t a n false).2 = if pl = 0 ∨ n - t < pl then 2 else 1 := by
  have e1 : IntKind.i64.wrap (n - t) = n - t := wrap64_in (by omega) (by omega)
  have h1 : (polOk pf pw pl pa && stOk [] t a && okTime n) = true := by
    have : okTime n = true := by simp only [okTime, Bool.and_eq_true, decide_eq_true_eq]; omega
    have h2 : okTime t = true := by simp only [okTime, Bool.and_eq_true, decide_eq_true_eq]; omega
    have h3 : okTime a = true := by simp only [okTime, Bool.and_eq_true, decide_eq_true_eq]; omega
    simp [stOk, runOk, hp, this, h2, h3]
  simp only [tryR, h1, e1, Bool.true_eq_false, if_false]
  by_cases c1 : pl = 0 ∨ n - t < pl
  · rw [if_pos ⟨by omega, c1⟩, if_pos c1]
  · rw [if_neg (fun h => c1 h.2), if_neg c1]
    simp only [Bool.false_eq_true, false_and, if_false]
    (repeat' split) <;> rfl
end Go.Proofs.Ytafghkbedkjpmaa.Av
