import Derived.Test.YtafghkbedkjpmaaDoorAvLf
import Derived.Lib.ItoaNum
set_option linter.unusedSimpArgs false
set_option linter.unusedVariables false
namespace Go.Proofs.YtafghkbedkjpmaaDoor.Av
open Go

/-- How many ahead of place i are the same. -/
def cnt (fs : List Int) (i : Nat) : Nat := ((fs.take i).filter (fun x => decide (x = fs.getD i 0))).length

theorem cnt_le (fs : List Int) (i : Nat) : cnt fs i ≤ i := by
  have := List.length_filter_le (fun x => decide (x = fs.getD i 0)) (fs.take i)
  simp only [cnt, List.length_take] at this ⊢; omega
theorem cnt_zero (fs : List Int) : cnt fs 0 = 0 := by simp [cnt]
theorem take_succ_getD {fs : List Int} {i : Nat} (h : i < fs.length) : fs.take (i + 1) = fs.take i ++ [fs.getD i 0] := by
  rw [List.take_succ_eq_append_getElem h]; simp [h]
theorem cnt_same {fs : List Int} {i : Nat} (h : i < fs.length) (e : fs.getD i 0 = fs.getD (i + 1) 0) : cnt fs (i + 1) = cnt fs i + 1 := by
  simp only [cnt, ← e]
  rw [take_succ_getD h, List.filter_append]
  simp
theorem cnt_diff {fs : List Int} {i : Nat} (hp : fs.Pairwise (· ≤ ·)) (h : i + 1 < fs.length) (e : fs.getD i 0 ≠ fs.getD (i + 1) 0) : cnt fs (i + 1) = 0 := by
  simp only [cnt]
  rw [List.length_eq_zero_iff, List.filter_eq_nil_iff]
  intro x hx
  obtain ⟨j, hj, rfl⟩ := List.getElem_of_mem hx
  simp only [List.length_take] at hj
  simp only [List.getElem_take, decide_eq_true_eq]
  have h1 : fs[i]'(by omega) ≤ fs[i + 1] := List.pairwise_iff_getElem.1 hp i (i + 1) (by omega) h (by omega)
  have h2 : fs[j]'(by omega) ≤ fs[i]'(by omega) := by
    rcases Nat.lt_or_ge j i with hji | hji
    · exact List.pairwise_iff_getElem.1 hp j i (by omega) (by omega) hji
    · have : j = i := by omega
      subst this; exact Int.le_refl _
  have e1 : fs.getD i 0 = fs[i]'(by omega) := by simp [show i < fs.length by omega]
  have e2 : fs.getD (i + 1) 0 = fs[i + 1] := by simp [h]
  rw [e1, e2] at e
  rw [e2]; omega

/-- How the failures are said. -/
def failVal (fs : List Int) (i : Nat) : List UInt8 := Lib.itoa (fs.getD i 0) ++ [46] ++ Lib.itoa (cnt fs i)
def failVals (fs : List Int) (k : Nat) : List (List UInt8) := (List.range k).map (failVal fs)
theorem failVals_succ (fs : List Int) (k : Nat) : failVals fs (k + 1) = failVals fs k ++ [failVal fs k] := by simp [failVals, List.range_succ]
theorem failVals_length (fs : List Int) (k : Nat) : (failVals fs k).length = k := by simp [failVals]

/-- How many are the same, told by a count: the law's other way. -/
def cntTo (fs : List Int) (f : Int) (k : Nat) : Nat := ((fs.take k).filter (fun x => decide (x = f))).length
theorem cntTo_succ {fs : List Int} {f : Int} {k : Nat} (h : k < fs.length) : cntTo fs f (k + 1) = if fs.getD k 0 = f then cntTo fs f k + 1 else cntTo fs f k := by
  simp only [cntTo]
  rw [take_succ_getD h, List.filter_append]
  have e2 : fs.getD k 0 = fs[k]?.getD 0 := by simp
  split <;> rename_i e <;> rw [e2] at e ⊢ <;> simp [e]
theorem cntTo_le (fs : List Int) (f : Int) (k : Nat) : cntTo fs f k ≤ k := by
  have := List.length_filter_le (fun x => decide (x = f)) (fs.take k)
  simp only [cntTo, List.length_take] at this ⊢; omega

theorem itoa_len {n : Int} (h0 : 0 ≤ n) (h1 : n ≤ 9223372036854775807) : (Lib.itoa n).length ≤ 20 := by
  have e : Lib.itoa n = Lib.decDigits n.toNat := by simp only [Lib.itoa]; rw [if_neg (by omega)]
  rw [e, Lib.decDigits_length]
  have : ∀ (k u : Nat), u < 10 ^ (k + 1) → Lib.nDigits u ≤ k + 1 := by
    intro k
    induction k with
    | zero => intro u hu; rw [Lib.nDigits_small (by omega)]; omega
    | succ k ih =>
      intro u hu
      rw [Lib.nDigits]
      split
      · omega
      · have := ih (u / 10) (by rw [Nat.pow_succ] at hu; omega)
        omega
  exact this 19 n.toNat (by omega)

theorem itoa_small {n : Int} (h0 : 0 ≤ n) (h : n < 10) : Lib.itoa n = [UInt8.ofNat (48 + n.toNat)] := by
  simp only [Lib.itoa]; rw [if_neg (by omega), Lib.decDigits_one (by omega)]
theorem itoa_big {n : Int} (h : 10 ≤ n) : Lib.itoa n = Lib.itoa (n / 10) ++ [UInt8.ofNat (48 + (n % 10).toNat)] := by
  simp only [Lib.itoa]
  rw [if_neg (by omega), if_neg (by omega), Lib.decDigits, dif_neg (by omega)]
  congr 2
  · congr 1; omega
  · congr 1; omega
end Go.Proofs.YtafghkbedkjpmaaDoor.Av
