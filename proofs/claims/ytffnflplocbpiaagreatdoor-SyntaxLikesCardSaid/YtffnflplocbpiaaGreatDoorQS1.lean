/- Syntaxes: whether a text is of bytes below 128; a moment. -/
import Derived.Test.YtffnflplocbpiaaGreatDoorQCodeH
import Derived.Test.YtffnflplocbpiaaGreatDoorQD1
import Derived.Test.YtffnflplocbpiaaGreatDoorQP5
import Derived.Test.YtffnflplocbpiaaGreatDoorQCodeI
import Derived.Test.YtffnflplocbpiaaGreatDoorQShelfP
import Derived.Sort.Walk0
import Derived.Test.YtffnflplocbpiaaGreatDoorQD2
set_option linter.unusedSimpArgs false
set_option linter.unusedVariables false
namespace Go.Proofs.YtffnflplocbpiaaGreatDoor.Av
open Go
set_option maxHeartbeats 8000000
set_option maxRecDepth 100000

theorem norm1_k {x : Int} {L : List Blk} {K : AV → List Blk → Prop} (h : K (.bool (decide ((128 : Int) ≤ x))) L) : ACall Tryz.prog 18 [.int .i32 x] L K := by
  replace h := hid h
  refine ACall_fn c_syntax_Norm_1_eq (by simp [c_syntax_Norm_1]) ?_
  simp only [c_syntax_Norm_1, initT]
  refine wk ?_
  exact Fin_same h.out
def ascS (s : List UInt8) : Bool := s.all fun c => decide (c.toNat < 128)
/-- Where a byte of 128 or more is first, or -1. -/
def ascI (s : List UInt8) : Int := if ascS s = true then -1 else 0
theorem idxF_k {s : List UInt8} (hs : s.length ≤ 1000000) {L : List Blk} {K : AV → List Blk → Prop} (hno : ascS s = true → K (.int .i64 (-1)) L) (hyes : ∀ k : Nat, ascS s = false → K (.int .i64 (k : Int)) L) :
    ACall Tryz.prog 39 [.str s, .func 18 [], .bool true] L K := by
  replace hno := hid hno
  replace hyes := hid hyes
  refine ACall_fn c_strings_indexFunc_eq (by simp [c_strings_indexFunc]) ?_
  simp only [c_strings_indexFunc, initT]
  refine wk ?_
  refine AW_loopT (fun n T' L' => ∃ p, n = s.length - p ∧ p ≤ s.length ∧ Hid (ascS (s.take p) = true) ∧ T' = [(10, .ptr L.length 0), (1, .func 18 []), (2, .bool true)] ∧ L' = L ++ [.siter s p]) (Cut_same (by repeat' first | exact SubT_nil | refine SubT_cons rfl rfl ?_ | refine SubT_consF rfl rfl ?_) (by simp)) ⟨0, rfl, Nat.zero_le _, hid rfl, rfl, rfl⟩ ?_
  rintro _ _ _ ⟨p, rfl, hp, hall, rfl, rfl⟩
  by_cases hlt : p < s.length
  · obtain ⟨c, hc⟩ : ∃ c, s.getD p 0 = c := ⟨_, rfl⟩
    have hr := c.toNat_lt
    have htk : s.take (p + 1) = s.take p ++ [c] := by rw [List.take_succ_eq_append_getElem hlt, ← hc]; simp [hlt]
    have hnext : ascS (s.take (p + 1)) = decide (c.toNat < 128) := by
      have := hall.out
      unfold ascS at this ⊢
      rw [htk, List.all_append, this]; simp
    by_cases ha : c.toNat < 128
    · have hd := decU_ascii hlt (by rw [hc]; exact ha)
      rw [hc] at hd
      have w0 : IntKind.i32.wrap (c.toNat : Int) = (c.toNat : Int) := wrapI32_in (by omega) (by omega)
      have f1 : ¬ (128 : Int) ≤ (c.toNat : Int) := by omega
      replace hnext := hid (hnext.trans (decide_eq_true ha))
      clear hc ha htk
      have kk1 := @hid _ @norm1_k
      refine wk ?_
      exact Nxt_mk _ _ _ (by omega) (Cut_same (by repeat' first | exact SubT_nil | refine SubT_cons rfl rfl ?_ | refine SubT_consF rfl rfl ?_) (by simp)) ⟨p + 1, rfl, hlt, hnext, rfl, rfl⟩
    · have hh := decU_high hlt (by rw [hc]; omega)
      obtain ⟨⟨x, wd⟩, hd⟩ : ∃ q, decU s p = q := ⟨_, rfl⟩
      rw [hd] at hh
      simp only at hh
      have f1 : (128 : Int) ≤ (x : Int) := by omega
      have hbad : ascS s = false := by
        rw [← Bool.not_eq_true]
        intro e
        have hm : c ∈ s := by rw [← hc]; simp [hlt]
        have := List.all_eq_true.1 e c hm
        simp at this; omega
      have h' := hid (hyes.out p hbad)
      clear hc ha htk hnext hbad
      have kk1 := @hid _ @norm1_k
      refine wk ?_
      exact Fin_pure rfl h'.out
  · have hke : p = s.length := by omega
    subst hke
    have h1 := hall.out
    rw [List.take_length] at h1
    have h' := hid (hno.out h1)
    clear h1
    refine wk ?_
    exact Fin_pure rfl h'.out
theorem indexF_k {s : List UInt8} (hs : s.length ≤ 1000000) {L : List Blk} {K : AV → List Blk → Prop} (hno : ascS s = true → K (.int .i64 (-1)) L) (hyes : ∀ k : Nat, ascS s = false → K (.int .i64 (k : Int)) L) :
    ACall Tryz.prog 17 [.str s, .func 18 []] L K := by
  replace hno := hid hno
  replace hyes := hid hyes
  refine ACall_fn c_strings_IndexFunc_eq (by simp [c_strings_IndexFunc]) ?_
  simp only [c_strings_IndexFunc, initT]
  refine wk ?_
  refine idxF_k hs (fun e => ?_) (fun k e => ?_)
  · have h' := hid (hno.out e)
    refine sk ?_
    refine wk ?_
    exact Fin_same h'.out
  · have h' := hid (hyes.out k e)
    refine sk ?_
    refine wk ?_
    exact Fin_same h'.out

/-! Moments. -/
def dig (v : List UInt8) (i : Nat) : Nat := (v.getD i 0).toNat - 48
def two (v : List UInt8) (i : Nat) : Nat := 10 * dig v i + dig v (i + 1)
def digC (c : UInt8) : Bool := decide (48 ≤ c.toNat) && decide (c.toNat ≤ 57)
def leapN (y : Nat) : Bool := decide (y % 4 = 0) && !decide (y % 100 = 0) || decide (y % 400 = 0)
def dayN (m : Nat) : Nat := if m = 2 then 28 else if m = 4 ∨ m = 6 ∨ m = 9 ∨ m = 11 then 30 else 31
def mostN (y m : Nat) : Nat := if m = 2 ∧ leapN y = true then dayN m + 1 else dayN m
def dateS (v : List UInt8) : Bool := decide ((1 ≤ two v 4 ∧ two v 4 ≤ 12) ∧ 1 ≤ two v 6 ∧ two v 8 ≤ 23 ∧ two v 10 ≤ 59 ∧ two v 12 ≤ 59) && decide (two v 6 ≤ mostN (two v 0 * 100 + two v 2) (two v 4))
def momS (v : List UInt8) : Bool := decide (v.length = 15) && decide (v.getD 14 0 = 90) && (v.take 14).all digC && dateS v

theorem two_k {v : List UInt8} {i p : Nat} {z : Int} (hz : z = (i : Int)) (hi : i + 1 < v.length) (hv : v.length ≤ 1000) (h1 : digC (v.getD i 0) = true) (h2 : digC (v.getD (i + 1) 0) = true) {L : List Blk} {K : AV → List Blk → Prop} (hL : L[p]? = some (.cells [.str v])) (h : K (.int .i64 (two v i : Nat)) L) :
    ACall Tryz.prog 44 [.int .i64 z, .ptr p 0] L K := by
  subst hz
  unfold two dig at h
  obtain ⟨a, ha⟩ : ∃ a, v.getD i 0 = a := ⟨_, rfl⟩
  obtain ⟨b, hb⟩ : ∃ b, v.getD (i + 1) 0 = b := ⟨_, rfl⟩
  rw [ha] at h1 h
  rw [hb] at h2 h
  simp only [digC, Bool.and_eq_true, decide_eq_true_eq] at h1 h2
  obtain ⟨x, hx⟩ : ∃ x : Nat, a.toNat = 48 + x := ⟨a.toNat - 48, by omega⟩
  obtain ⟨y, hy⟩ : ∃ y : Nat, b.toNat = 48 + y := ⟨b.toNat - 48, by omega⟩
  have hx9 : x ≤ 9 := by omega
  have hy9 : y ≤ 9 := by omega
  rw [show 10 * (a.toNat - 48) + (b.toNat - 48) = 10 * x + y by omega] at h
  have hxa : (a.toNat : Int) = 48 + (x : Int) := by omega
  have hyb : (b.toNat : Int) = 48 + (y : Int) := by omega
  have g1 : (i : Int) < (v.length : Int) := by omega
  have g2 : IntKind.i64.wrap ((i : Int) + 1) = (i : Int) + 1 := wrap64_in (by omega) (by omega)
  have g3 : (i : Int) + 1 < (v.length : Int) := by omega
  have g4 : ((i : Int) + 1).toNat = i + 1 := by omega
  have g5 : (0 : Int) ≤ (i : Int) + 1 := by omega
  have w1 : IntKind.u8.wrap (48 + (x : Int) - 48) = (x : Int) := by rw [wrapU8_in (by omega) (by omega)]; omega
  have w2 : IntKind.u8.wrap (48 + (y : Int) - 48) = (y : Int) := by rw [wrapU8_in (by omega) (by omega)]; omega
  have w3 : IntKind.i64.wrap (x : Int) = (x : Int) := wrap64_in (by omega) (by omega)
  have w4 : IntKind.i64.wrap (y : Int) = (y : Int) := wrap64_in (by omega) (by omega)
  have w5 : IntKind.i64.wrap ((x : Int) * 10) = (x : Int) * 10 := wrap64_in (by omega) (by omega)
  have w6 : IntKind.i64.wrap ((x : Int) * 10 + (y : Int)) = (x : Int) * 10 + (y : Int) := wrap64_in (by omega) (by omega)
  have hfin : K (.int .i64 ((x : Int) * 10 + (y : Int))) L := by
    rwa [show ((10 * x + y : Nat) : Int) = (x : Int) * 10 + (y : Int) by omega] at h
  replace hfin := hid hfin
  clear h h1 h2 hx hy
  refine ACall_fn c_syntax_moment_1_eq (by simp [c_syntax_moment_1]) ?_
  simp only [c_syntax_moment_1, initT]
  refine wk ?_
  exact Fin_same hfin.out
end Go.Proofs.YtffnflplocbpiaaGreatDoor.Av

namespace Go.Proofs.YtffnflplocbpiaaGreatDoor.Av
open Go
set_option maxHeartbeats 8000000
set_option maxRecDepth 100000

theorem day_tab {m : Nat} (h1 : 1 ≤ m) (h2 : m ≤ 12) {l : List AV} (hl : globOf 2 = some l) : l.getD (m - 1) .undef = .int .i64 (dayN m : Nat) ∧ l.length = 12 := by
  have e : globOf 2 = some [.int .i64 31, .int .i64 28, .int .i64 31, .int .i64 30, .int .i64 31, .int .i64 30, .int .i64 31, .int .i64 31, .int .i64 30, .int .i64 31, .int .i64 30, .int .i64 31] := by rfl
  rw [e] at hl
  cases hl
  have : m = 1 ∨ m = 2 ∨ m = 3 ∨ m = 4 ∨ m = 5 ∨ m = 6 ∨ m = 7 ∨ m = 8 ∨ m = 9 ∨ m = 10 ∨ m = 11 ∨ m = 12 := by omega
  rcases this with rfl | rfl | rfl | rfl | rfl | rfl | rfl | rfl | rfl | rfl | rfl | rfl <;> exact ⟨rfl, rfl⟩
theorem two_le {v : List UInt8} {i : Nat} (h1 : digC (v.getD i 0) = true) (h2 : digC (v.getD (i + 1) 0) = true) : two v i ≤ 99 := by
  simp only [digC, Bool.and_eq_true, decide_eq_true_eq] at h1 h2
  unfold two dig; omega
theorem moment_k {v : List UInt8} (hv : v.length ≤ 1000000) {L : List Blk} {K : AV → List Blk → Prop} (h : K (.bool (momS v)) L) : ACall Tryz.prog 21 [.str v] L K := by
  have no : momS v = false → K (.bool false) L := fun e => by rw [← e]; exact h
  replace no := hid no
  replace h := hid h
  refine ACall_fn c_syntax_moment_eq (by simp [c_syntax_moment]) ?_
  simp only [c_syntax_moment, initT]
  by_cases h15 : v.length = 15
  rotate_left
  · have f1 : ¬ (v.length : Int) = 15 := by omega
    have h' := hid (no.out (by simp [momS, h15]))
    clear h15
    refine wk ?_
    exact Fin_pure rfl h'.out
  have f1 : (v.length : Int) = 15 := by omega
  obtain ⟨z, hz⟩ : ∃ z, v.getD 14 0 = z := ⟨_, rfl⟩
  by_cases h90 : z = 90
  rotate_left
  · have f2 : ¬ (z.toNat : Int) = 90 := fun e => h90 ((u8_int z 90).1 e)
    have h' := hid (no.out (by simp [momS, ← hz] at h90 ⊢; simp [h90]))
    clear h90
    refine wk ?_
    exact Fin_pure rfl h'.out
  have f2 : (z.toNat : Int) = 90 := by rw [h90]; rfl
  obtain ⟨w, hw⟩ : ∃ w, v.take 14 = w := ⟨_, rfl⟩
  have hwl : w.length = 14 := by rw [← hw]; simp [h15]
  have f3 : (14 : Int) ≤ (v.length : Int) := by omega
  have hul : (u8s w).length = 14 := by simp [u8s, hwl]
  have hdall := hid (show w.all digC = false → K (.bool false) L from fun e => no.out (by simp [momS, hw, e]))
  replace hw := hid hw
  have hw' : v.take 14 = w := hw.out
  have f4 : (0 : Int) ≤ 14 := by omega
  refine wk ?_
  refine AW_loopT (fun n T' L' => ∃ i : Nat, n = 14 - i ∧ i ≤ 14 ∧ Hid ((w.take i).all digC = true) ∧ T' = [(22, .int .i64 (i : Int)), (21, .int .i64 14), (20, .sl (u8s w) 14 none), (1, .ptr L.length 0)] ∧ L' = L ++ [.cells [.str v]]) (Cut_same (by repeat' first | exact SubT_nil | refine SubT_cons rfl rfl ?_ | refine SubT_consF rfl rfl ?_) (by simp)) ⟨0, rfl, Nat.zero_le _, hid rfl, rfl, rfl⟩ ?_
  rintro _ _ _ ⟨i, rfl, hi, hall, rfl, rfl⟩
  by_cases hlt : i < 14
  · have g1 : (i : Int) < 14 := by omega
    have g2 : IntKind.i64.wrap ((i : Int) + 1) = (i : Int) + 1 := wrap64_in (by omega) (by omega)
    obtain ⟨c, hc⟩ : ∃ c, w.getD i 0 = c := ⟨_, rfl⟩
    have g3 : (u8s w).getD i .undef = .int .u8 c.toNat := by rw [← hc]; simp [u8s, show i < w.length by omega]
    have hm : c ∈ w := by rw [← hc]; simp [show i < w.length by omega]
    have htk : w.take (i + 1) = w.take i ++ [c] := by rw [List.take_succ_eq_append_getElem (by omega), ← hc]; simp [show i < w.length by omega]
    have bad := hid fun (e : digC c = false) => hdall.out (List.all_eq_false.2 ⟨c, hm, by rw [e]; simp⟩)
    have good := hid fun (e : digC c = true) => show (w.take (i + 1)).all digC = true by rw [htk, List.all_append, hall.out]; simp [e]
    clear hc hm htk hw' h15 hwl
    repeat' first
      | refine AW_seq ?_
      | (first | refine AW_sreg (by kernel_rfl) ?_ | refine AW_sdreg (by kernel_rfl) ?_ | refine AW_dregM ?_ | refine Nx_in ?_ | refine NxI_in (fun _ => ?_) | refine AW_region ?_ | refine AW_dreg ?_)
        simp (config := { maxSteps := 2000000 }) only [Kon, push_cast, reduceIte, Nat.reduceEqDiff, Nat.reduceAdd, Nat.reduceMul, Nat.reduceSub, Nat.reduceLT, Nat.reduceLeDiff, Int.reduceLT, Int.reduceLE, Int.reduceAdd, Int.reduceSub, Int.reduceNeg, Int.reduceToNat, Int.reduceEq, reduceCtorEq, *]
      | (first | refine SelK_mk (by kernel_rfl) ?_ | refine AW_skip ?_ | refine AW_exit ?_ | refine AW_ret (Back_retR ?_))
        simp only [push_cast, reduceIte, Nat.reduceEqDiff, Nat.reduceAdd, Nat.reduceMul, Nat.reduceSub, Nat.reduceLT, Nat.reduceLeDiff, Int.reduceLT, Int.reduceLE, Int.reduceAdd, Int.reduceSub, Int.reduceNeg, Int.reduceToNat, Int.reduceEq, reduceCtorEq, *]
      | exact IsB_mk
      | first | apply GQ_mkT | apply GQ_mkTN | apply GQ_mkF | apply GQ_mkFN | apply GQ_mkB | apply GQ_mkBF
      | refine AW_block ?_
      | first | refine AW_condT rfl ?_ | refine AW_condF rfl ?_ | refine AW_condAny rfl ?_ ?_ | refine AW_condB rfl (fun _ => ?_) (fun _ => ?_) | refine AW_condN rfl (fun _ => ?_) (fun _ => ?_)
      | ((first | refine ite_introN (fun _ => ?_) (fun _ => ?_) | refine ite_intro (fun _ => ?_) (fun _ => ?_)) <;> try simp (config := { maxSteps := 2000000 }) only [Kon, push_cast, reduceIte, Nat.reduceEqDiff, Nat.reduceAdd, Nat.reduceMul, Nat.reduceSub, Nat.reduceLT, Nat.reduceLeDiff, Int.reduceLT, Int.reduceLE, Int.reduceAdd, Int.reduceSub, Int.reduceNeg, Int.reduceToNat, Int.reduceEq, reduceCtorEq, *])
      | refine And.intro trivial ?_
      | refine And.intro (by omega) ?_
      | refine AW_cond rfl (fun _ => ?_) (fun _ => ?_)
      | refine And.intro ?_ ?_
    · rename_i hx
      refine Fin_pure rfl (bad.out ?_)
      simp only [digC, Bool.and_eq_false_iff, decide_eq_false_iff_not]
      omega
    · rename_i hx
      refine Nxt_mk _ _ _ (by omega) (Cut_same (by repeat' first | exact SubT_nil | refine SubT_cons rfl rfl ?_ | refine SubT_consF rfl rfl ?_ | refine SubT_cons rfl (congrArg (AV.int _) (by omega)) ?_ | refine SubT_cons rfl (by first | (simp_all; done) | (simp_all; omega) | (simp_all; intros; omega)) ?_) (by simp)) ⟨i + 1, rfl, by omega, hid (good.out ?_), rfl, rfl⟩
      simp only [digC, Bool.and_eq_true, decide_eq_true_eq]
      omega
  have hke : i = 14 := by omega
  subst hke
  have g1 : ¬ ((14 : Nat) : Int) < 14 := by omega
  have hda := hall.out
  rw [List.take_of_length_le (by omega)] at hda
  have hdv : ∀ i, i < 14 → digC (v.getD i 0) = true := fun i hi => by
    refine List.all_eq_true.1 hda _ ?_
    rw [← hw.out]
    have : v.getD i 0 = (v.take 14)[i]'(by simp; omega) := by simp [show i < v.length by omega]
    rw [this]; exact List.getElem_mem _
  have hdate : momS v = dateS v := by
    simp only [momS, h15, hz, h90, hw.out, hda]; simp
  have ct : ∀ i : Nat, i + 1 < 14 → ∀ (z : Int) (K : AV → List Blk → Prop), z = (i : Int) → K (.int .i64 (two v i : Nat)) (L ++ [.cells [.str v]]) → ACall Tryz.prog 44 [.int .i64 z, .ptr L.length 0] (L ++ [.cells [.str v]]) K := fun i hi z K hz h =>
    two_k hz (by omega) (by omega) (hdv i (by omega)) (hdv (i + 1) hi) (getApp0 _ _ _) h
  have b0 := two_le (hdv 0 (by omega)) (hdv 1 (by omega))
  have b2 := two_le (hdv 2 (by omega)) (hdv 3 (by omega))
  have b4 := two_le (hdv 4 (by omega)) (hdv 5 (by omega))
  have b6 := two_le (hdv 6 (by omega)) (hdv 7 (by omega))
  have b8 := two_le (hdv 8 (by omega)) (hdv 9 (by omega))
  have b10 := two_le (hdv 10 (by omega)) (hdv 11 (by omega))
  have b12 := two_le (hdv 12 (by omega)) (hdv 13 (by omega))
  have kk1 := @hid _ (fun {K : AV → List Blk → Prop} => ct 0 (by omega) 0 K rfl)
  have kk2 := @hid _ (fun {K : AV → List Blk → Prop} => ct 2 (by omega) 2 K rfl)
  have kk3 := @hid _ (fun {K : AV → List Blk → Prop} => ct 4 (by omega) 4 K rfl)
  have kk4 := @hid _ (fun {K : AV → List Blk → Prop} => ct 6 (by omega) 6 K rfl)
  have kk5 := @hid _ (fun {K : AV → List Blk → Prop} => ct 8 (by omega) 8 K rfl)
  have kk6 := @hid _ (fun {K : AV → List Blk → Prop} => ct 10 (by omega) 10 K rfl)
  have kk7 := @hid _ (fun {K : AV → List Blk → Prop} => ct 12 (by omega) 12 K rfl)
  have hfin := h.out
  rw [hdate] at hfin
  unfold dateS at hfin
  obtain ⟨Y, hY⟩ : ∃ n, two v 0 = n := ⟨_, rfl⟩
  obtain ⟨Y2, hY2⟩ : ∃ n, two v 2 = n := ⟨_, rfl⟩
  obtain ⟨M, hM⟩ : ∃ n, two v 4 = n := ⟨_, rfl⟩
  obtain ⟨D, hD⟩ : ∃ n, two v 6 = n := ⟨_, rfl⟩
  obtain ⟨H, hH⟩ : ∃ n, two v 8 = n := ⟨_, rfl⟩
  obtain ⟨I, hI⟩ : ∃ n, two v 10 = n := ⟨_, rfl⟩
  obtain ⟨S, hS⟩ : ∃ n, two v 12 = n := ⟨_, rfl⟩
  rw [hY] at b0 hfin kk1
  rw [hY2] at b2 hfin kk2
  rw [hM] at b4 hfin kk3
  rw [hD] at b6 hfin kk4
  rw [hH] at b8 hfin kk5
  rw [hI] at b10 hfin kk6
  rw [hS] at b12 hfin kk7
  clear hY hY2 hM hD hH hI hS ct hdate hdv hda hall hw' hw hdall h15 hwl hul hi hlt f1 f2 f3 f4 hv h90 hz no h
  have w1 : IntKind.i64.wrap ((Y : Int) * 100) = (Y : Int) * 100 := wrap64_in (by omega) (by omega)
  have w2 : IntKind.i64.wrap ((Y : Int) * 100 + (Y2 : Int)) = (Y : Int) * 100 + (Y2 : Int) := wrap64_in (by omega) (by omega)
  have hbad : ¬ ((1 ≤ M ∧ M ≤ 12) ∧ 1 ≤ D ∧ H ≤ 23 ∧ I ≤ 59 ∧ S ≤ 59) → K (.bool false) L := fun e => by
    rw [decide_eq_false e] at hfin; simpa using hfin
  replace hbad := hid hbad
  replace hfin := hid hfin
  by_cases m1 : (M : Int) < 1
  · refine wk ?_
    exact Fin_pure rfl (hbad.out (by omega))
  by_cases m2 : (12 : Int) < (M : Int)
  · refine wk ?_
    exact Fin_pure rfl (hbad.out (by omega))
  by_cases m3 : (D : Int) < 1
  · refine wk ?_
    exact Fin_pure rfl (hbad.out (by omega))
  by_cases m4 : (23 : Int) < (H : Int)
  · refine wk ?_
    exact Fin_pure rfl (hbad.out (by omega))
  by_cases m5 : (59 : Int) < (I : Int)
  · refine wk ?_
    exact Fin_pure rfl (hbad.out (by omega))
  by_cases m6 : (59 : Int) < (S : Int)
  · refine wk ?_
    exact Fin_pure rfl (hbad.out (by omega))
  have hgood := hid (show decide (D ≤ mostN (Y * 100 + Y2) M) = true ∨ decide (D ≤ mostN (Y * 100 + Y2) M) = false by cases decide (D ≤ mostN (Y * 100 + Y2) M) <;> simp)
  have hfin2 := hfin.out
  rw [show decide ((1 ≤ M ∧ M ≤ 12) ∧ 1 ≤ D ∧ H ≤ 23 ∧ I ≤ 59 ∧ S ≤ 59) = true by simp; omega, Bool.true_and] at hfin2
  unfold mostN leapN at hfin2
  obtain ⟨dn, hdn⟩ : ∃ n, dayN M = n := ⟨_, rfl⟩
  have hdb : dn ≤ 31 := by rw [← hdn]; unfold dayN; split <;> (try split) <;> omega
  obtain ⟨r4, hr4⟩ : ∃ r, (Y * 100 + Y2) % 4 = r := ⟨_, rfl⟩
  obtain ⟨r100, hr100⟩ : ∃ r, (Y * 100 + Y2) % 100 = r := ⟨_, rfl⟩
  obtain ⟨r400, hr400⟩ : ∃ r, (Y * 100 + Y2) % 400 = r := ⟨_, rfl⟩
  rw [hr4, hr100, hr400, hdn] at hfin2
  have t4 : Int.tmod ((Y : Int) * 100 + (Y2 : Int)) 4 = (r4 : Int) := by rw [Int.tmod_eq_emod_of_nonneg (by omega)]; omega
  have t100 : Int.tmod ((Y : Int) * 100 + (Y2 : Int)) 100 = (r100 : Int) := by rw [Int.tmod_eq_emod_of_nonneg (by omega)]; omega
  have t400 : Int.tmod ((Y : Int) * 100 + (Y2 : Int)) 400 = (r400 : Int) := by rw [Int.tmod_eq_emod_of_nonneg (by omega)]; omega
  have x1 : IntKind.i64.wrap ((M : Int) - 1) = (M : Int) - 1 := wrap64_in (by omega) (by omega)
  have x2 : ((M : Int) - 1).toNat = M - 1 := by omega
  have x3 : (0 : Int) ≤ (M : Int) - 1 := by omega
  have x4 : (M : Int) - 1 < 12 := by omega
  obtain ⟨x5, x6⟩ := day_tab (m := M) (by omega) (by omega) globOf_4
  rw [hdn] at x5
  have x7 : IntKind.i64.wrap ((dn : Int) + 1) = (dn : Int) + 1 := wrap64_in (by omega) (by omega)
  replace hfin2 := hid hfin2
  clear hr4 hr100 hr400 hdn hgood
  repeat' first
    | refine AW_seq ?_
    | (first | refine AW_sreg (by kernel_rfl) ?_ | refine AW_sdreg (by kernel_rfl) ?_ | refine AW_dregM ?_ | refine Nx_in ?_ | refine NxI_in (fun _ => ?_) | refine AW_region ?_ | refine AW_dreg ?_ | refine kk1.out ?_ | refine kk2.out ?_ | refine kk3.out ?_ | refine kk4.out ?_ | refine kk5.out ?_ | refine kk6.out ?_ | refine kk7.out ?_ | refine CalK2_mk (kk1.out ⟨rfl, rfl⟩) (kk1.out ⟨rfl, rfl⟩) ?_ | refine CalK2_mk (kk2.out ⟨rfl, rfl⟩) (kk2.out ⟨rfl, rfl⟩) ?_ | refine CalK2_mk (kk3.out ⟨rfl, rfl⟩) (kk3.out ⟨rfl, rfl⟩) ?_ | refine CalK2_mk (kk4.out ⟨rfl, rfl⟩) (kk4.out ⟨rfl, rfl⟩) ?_ | refine CalK2_mk (kk5.out ⟨rfl, rfl⟩) (kk5.out ⟨rfl, rfl⟩) ?_ | refine CalK2_mk (kk6.out ⟨rfl, rfl⟩) (kk6.out ⟨rfl, rfl⟩) ?_ | refine CalK2_mk (kk7.out ⟨rfl, rfl⟩) (kk7.out ⟨rfl, rfl⟩) ?_ | refine CalK_mk (kk1.out ⟨rfl, rfl⟩) ?_ | refine CalK_mk (kk2.out ⟨rfl, rfl⟩) ?_ | refine CalK_mk (kk3.out ⟨rfl, rfl⟩) ?_ | refine CalK_mk (kk4.out ⟨rfl, rfl⟩) ?_ | refine CalK_mk (kk5.out ⟨rfl, rfl⟩) ?_ | refine CalK_mk (kk6.out ⟨rfl, rfl⟩) ?_ | refine CalK_mk (kk7.out ⟨rfl, rfl⟩) ?_)
      simp (config := { maxSteps := 2000000 }) only [Kon, push_cast, reduceIte, Nat.reduceEqDiff, Nat.reduceAdd, Nat.reduceMul, Nat.reduceSub, Nat.reduceLT, Nat.reduceLeDiff, Int.reduceLT, Int.reduceLE, Int.reduceAdd, Int.reduceSub, Int.reduceNeg, Int.reduceToNat, Int.reduceEq, reduceCtorEq, *]
    | (first | refine SelK_mk (by kernel_rfl) ?_ | refine AW_skip ?_ | refine AW_exit ?_ | refine AW_ret (Back_retR ?_))
      simp only [push_cast, reduceIte, Nat.reduceEqDiff, Nat.reduceAdd, Nat.reduceMul, Nat.reduceSub, Nat.reduceLT, Nat.reduceLeDiff, Int.reduceLT, Int.reduceLE, Int.reduceAdd, Int.reduceSub, Int.reduceNeg, Int.reduceToNat, Int.reduceEq, reduceCtorEq, *]
    | exact IsB_mk
    | first | apply GQ_mkT | apply GQ_mkTN | apply GQ_mkF | apply GQ_mkFN | apply GQ_mkB | apply GQ_mkBF
    | refine AW_block ?_
    | first | refine AW_condT rfl ?_ | refine AW_condF rfl ?_ | refine AW_condAny rfl ?_ ?_ | refine AW_condB rfl (fun _ => ?_) (fun _ => ?_) | refine AW_condN rfl (fun _ => ?_) (fun _ => ?_)
    | ((first | refine ite_introN (fun _ => ?_) (fun _ => ?_) | refine ite_intro (fun _ => ?_) (fun _ => ?_)) <;> try simp (config := { maxSteps := 2000000 }) only [Kon, push_cast, reduceIte, Nat.reduceEqDiff, Nat.reduceAdd, Nat.reduceMul, Nat.reduceSub, Nat.reduceLT, Nat.reduceLeDiff, Int.reduceLT, Int.reduceLE, Int.reduceAdd, Int.reduceSub, Int.reduceNeg, Int.reduceToNat, Int.reduceEq, reduceCtorEq, *])
    | refine And.intro trivial ?_
    | refine And.intro (by omega) ?_
    | refine AW_cond rfl (fun _ => ?_) (fun _ => ?_)
    | refine And.intro ?_ ?_
  · rename_i hx
    refine Fin_pure rfl ?_
    have e := hfin2.out
    rw [if_pos ⟨by omega, by simp; omega⟩] at e
    rwa [show decide (D ≤ dn + 1) = decide ((D : Int) ≤ (dn : Int) + 1) by simp only [decide_eq_decide]; omega] at e
  · rename_i hx
    refine Fin_pure rfl ?_
    have e := hfin2.out
    rw [if_neg (fun ⟨e1, e2⟩ => hx ⟨by omega, by simp at e2; omega⟩)] at e
    rwa [show decide (D ≤ dn) = decide ((D : Int) ≤ (dn : Int)) by simp only [decide_eq_decide]; omega] at e
end Go.Proofs.YtffnflplocbpiaaGreatDoor.Av

namespace Go.Proofs.YtffnflplocbpiaaGreatDoor.Av
open Go
set_option maxHeartbeats 8000000
set_option maxRecDepth 100000

theorem pow_glob : globOf 6 = some (Lib.pow10Tab.map (AV.int .u64)) := by rfl
theorem pow_named : Tryz.prog.globalNamed "internal/strconv.uint64pow10" = some 6 := by kernel_rfl

theorem fmt_k {n : Int} (hn : I64 n) {L : List Blk} {K : AV → List Blk → Prop} (h : K (.str (Lib.itoa n)) L) : ACall Tryz.prog 41 [.int .i64 n, .int .i64 10] L K :=
  ACall_lift Tryz.func41 rfl (by kernel_rfl) (fun w0 S0 E w vs hR hv => by
    simp only [VRL, VR] at hv
    obtain ⟨_, _, rfl, rfl, _, _, rfl, rfl, rfl⟩ := hv
    refine (Tryz.strconv_FormatInt_10 n hn.1 hn.2 w (hR.table pow_named pow_glob (by simp [Lib.pow10Tab]))).mono fun e w' ⟨he, k, os, hw⟩ => ⟨_, he, by simp [VR], by subst hw; exact Grew.of_grow w k os⟩) h

theorem grew_below {w w' : World} (h : RowKit.Below w.heap.size w w') : Grew w w' := ⟨fun b hb => h.block b hb, h.size, h.os, h.tape, h.output⟩

theorem err_cell {w0 : World} {S0 : Nat → Prop} {E : Env} {L : List Blk} {w : World} (hR : Rel w0 S0 E L w) {g : Nat} {t : TypeId} (hp : globOf g = some [.iface t .undef]) : ∃ x, w.cell? ⟨g, 0, none⟩ = some (.iface t x) := by
  have hm := globOf_mem hp
  obtain ⟨v, h1, h2⟩ := (hR.glob.env hm).get (i := 0) (a := .iface t .undef) rfl
  simp only [VR] at h2
  obtain ⟨x, rfl, _⟩ := h2
  exact ⟨x, by simpa using hR.mem _ _ _ h1⟩

theorem parse_ok {l : List UInt8} {n : Int} (hl : (l.length : Int) ≤ 1000000) (hp : Lib.parseIntB 64 l = .ok n) {L : List Blk} {K : AV → List Blk → Prop} (h : K (.tup [.int .i64 n, .nilif]) L) : ACall Tryz.prog 40 [.str l, .int .i64 10, .int .i64 64] L K :=
  ACall_lift Tryz.func40 rfl (by kernel_rfl) (fun w0 S0 E w vs hR hv => by
    simp only [VRL, VR] at hv
    obtain ⟨_, _, rfl, rfl, _, _, rfl, rfl, _, _, rfl, rfl, rfl⟩ := hv
    refine (Tryz.strconv_ParseInt_10_at64_ok ⟨⟨l⟩⟩ (show l.length ≤ _ by omega) n hp w).mono fun e w' ⟨he, hw⟩ => ⟨_, he, by simp [VR, VRL], ?_⟩
    rcases hw with rfl | ⟨t, rfl⟩
    · exact Grew.refl _
    · exact grew_below (Lib.bytesWorld_below _ _ _)) h

theorem parse_no {l : List UInt8} (hl : (l.length : Int) ≤ 1000000) (hp : ∀ n, Lib.parseIntB 64 l ≠ .ok n) {L : List Blk} {K : AV → List Blk → Prop} (h : K (.tup [.int .i64 (numV l), .iface 108 .undef]) L) : ACall Tryz.prog 40 [.str l, .int .i64 10, .int .i64 64] L K :=
  ACall_lift Tryz.func40 rfl (by kernel_rfl) (fun w0 S0 E w vs hR hv => by
    simp only [VRL, VR] at hv
    obtain ⟨_, _, rfl, rfl, _, _, rfl, rfl, _, _, rfl, rfl, rfl⟩ := hv
    match hq : Lib.parseIntB 64 l with
    | .ok n => exact absurd hq (hp n)
    | .syntax =>
      obtain ⟨x, hx⟩ := err_cell hR (g := 4) rfl
      refine (Tryz.strconv_ParseInt_10_at64_syntax ⟨⟨l⟩⟩ (show l.length ≤ _ by omega) hq _ w hx (.inr ⟨_, _, rfl⟩)).mono fun e w' ⟨N, he, _, _, hw⟩ => ⟨_, he, ?_, grew_below hw⟩
      have e0 : numV l = 0 := by simp [numV, hq]
      rw [e0]
      simp [VR, VRL]
      exact ⟨_, _, ⟨rfl, rfl⟩, rfl, _, rfl, _, rfl⟩
    | .range =>
      obtain ⟨x, hx⟩ := err_cell hR (g := 5) rfl
      refine (Tryz.strconv_ParseInt_10_at64_range ⟨⟨l⟩⟩ (show l.length ≤ _ by omega) hq _ w hx (.inr ⟨_, _, rfl⟩)).mono fun e w' ⟨N, he, _, _, hw⟩ => ⟨_, he, ?_, grew_below hw⟩
      have e0 : numV l = Lib.intSat 64 l := by simp [numV, hq]
      rw [e0]
      simp [VR, VRL]
      exact ⟨_, _, ⟨rfl, rfl⟩, rfl, _, rfl, _, rfl⟩) h

theorem number_k {l : List UInt8} (hl : (l.length : Int) ≤ 1000000) {L : List Blk} {K : AV → List Blk → Prop} (h : K (.tup [.int .i64 (numV l), .bool (numOk l)]) L) : ACall Tryz.prog 19 [.str l] L K := by
  replace h := hid h
  refine ACall_fn c_syntax_number_eq (by simp [c_syntax_number]) ?_
  simp only [c_syntax_number, initT]
  by_cases hp : ∃ n, Lib.parseIntB 64 l = .ok n
  · obtain ⟨n, hp⟩ := hp
    have hr := hid (parse_range hp)
    have e1 := hid (show numV l = n by simp [numV, hp])
    have e2 := hid (show numOk l = decide (Lib.itoa n = l) by simp [numOk, hp])
    replace hp := hid hp
    have kk1 := @hid _ (fun L K => parse_ok hl hp.out (L := L) (K := K))
    have kk2 := @hid _ (fun L K => fmt_k hr.out (L := L) (K := K))
    refine wk ?_
    refine Fin_same ?_
    have h := h.out
    rw [e1.out, e2.out] at h
    exact h
  · have hp' := hid (show ∀ n, Lib.parseIntB 64 l ≠ .ok n from fun n e => hp ⟨n, e⟩)
    have e2 := hid (show numOk l = false by
      unfold numOk
      split
      · rename_i n hn; exact absurd ⟨n, hn⟩ hp
      · rfl)
    clear hp
    have kk1 := @hid _ (fun L K => parse_no hl hp'.out (L := L) (K := K))
    refine wk ?_
    refine Fin_same ?_
    have h := h.out
    rw [e2.out] at h
    exact h

theorem isNaN64_k {n : Int} {L : List Blk} {K : AV → List Blk → Prop} (h : K (.bool false) L) : ACall Tryz.prog 49 [.int .i64 n] L K := by
  replace h := hid h
  refine ACall_fn c_cmp_isNaN_int64_eq (by simp [c_cmp_isNaN_int64]) ?_
  simp only [c_cmp_isNaN_int64, initT]
  refine wk ?_
  refine Fin_same ?_
  exact h.out

def cmpI (m n : Int) : Int := if m < n then -1 else if n < m then 1 else 0
theorem cmp64_k {m n : Int} {L : List Blk} {K : AV → List Blk → Prop} (h : K (.int .i64 (cmpI m n)) L) : ACall Tryz.prog 27 [.int .i64 m, .int .i64 n] L K := by
  replace h := hid h
  refine ACall_fn c_cmp_Compare_int64_eq (by simp [c_cmp_Compare_int64]) ?_
  simp only [c_cmp_Compare_int64, initT]
  by_cases h1 : m < n
  · have e := hid (show cmpI m n = -1 by simp [cmpI, h1])
    have kk1 := @hid _ @isNaN64_k
    refine wk ?_
    refine Fin_same ?_
    have h := h.out
    rw [e.out] at h
    exact h
  · by_cases h2 : n < m
    · have e := hid (show cmpI m n = 1 by simp [cmpI, h1, h2])
      have kk1 := @hid _ @isNaN64_k
      refine wk ?_
      refine Fin_same ?_
      have h := h.out
      rw [e.out] at h
      exact h
    · have e := hid (show cmpI m n = 0 by simp [cmpI, h1, h2])
      have kk1 := @hid _ @isNaN64_k
      refine wk ?_
      refine Fin_same ?_
      have h := h.out
      rw [e.out] at h
      exact h

/-- The two tables of utf8, as the library's contracts ask for them. -/
theorem first_glob : globOf 0 = some ((List.range 256).map fun c => AV.int .u8 (Lib.firstT c : Int)) := by kernel_rfl
theorem acc_glob : globOf 1 = some ((List.range 16).flatMap fun i => [AV.int .u8 (Lib.accLo i : Int), AV.int .u8 (Lib.accHi i : Int)]) := by kernel_rfl
theorem glob_cell {w0 : World} {S0 : Nat → Prop} {E : Env} {L : List Blk} {w : World} (hR : Rel w0 S0 E L w) {g i : Nat} {l : List AV} {k : IntKind} {z : Int} (hp : globOf g = some l) (hi : l[i]? = some (.int k z)) : w.cell? ⟨g, i, none⟩ = some (.int k z) := by
  have hm := globOf_mem hp
  obtain ⟨v, h1, h2⟩ := (hR.glob.env hm).get (i := i) (a := .int k z) hi
  simp only [VR] at h2
  subst h2
  simpa using hR.mem _ _ _ h1
theorem utf8_tabs {w0 : World} {S0 : Nat → Prop} {E : Env} {L : List Blk} {w : World} (hR : Rel w0 S0 E L w) : Lib.Utf8Tabs 0 1 w := by
  refine ⟨fun c hc => glob_cell hR first_glob ?_, fun i hi => ⟨glob_cell hR acc_glob ?_, glob_cell hR acc_glob ?_⟩⟩
  · simp [hc]
  · have : ∀ i : _root_.Fin 16, ((List.range 16).flatMap fun i => [AV.int .u8 (Lib.accLo i : Int), AV.int .u8 (Lib.accHi i : Int)])[2 * i.val]? = some (.int .u8 (Lib.accLo i.val : Int)) := fun i => by
      match i with
      | ⟨0, _⟩ | ⟨1, _⟩ | ⟨2, _⟩ | ⟨3, _⟩ | ⟨4, _⟩ | ⟨5, _⟩ | ⟨6, _⟩ | ⟨7, _⟩ | ⟨8, _⟩ | ⟨9, _⟩ | ⟨10, _⟩ | ⟨11, _⟩ | ⟨12, _⟩ | ⟨13, _⟩ | ⟨14, _⟩ | ⟨15, _⟩ => rfl
      | ⟨n + 16, h⟩ => omega
    exact this ⟨i, hi⟩
  · have : ∀ i : _root_.Fin 16, ((List.range 16).flatMap fun i => [AV.int .u8 (Lib.accLo i : Int), AV.int .u8 (Lib.accHi i : Int)])[2 * i.val + 1]? = some (.int .u8 (Lib.accHi i.val : Int)) := fun i => by
      match i with
      | ⟨0, _⟩ | ⟨1, _⟩ | ⟨2, _⟩ | ⟨3, _⟩ | ⟨4, _⟩ | ⟨5, _⟩ | ⟨6, _⟩ | ⟨7, _⟩ | ⟨8, _⟩ | ⟨9, _⟩ | ⟨10, _⟩ | ⟨11, _⟩ | ⟨12, _⟩ | ⟨13, _⟩ | ⟨14, _⟩ | ⟨15, _⟩ => rfl
      | ⟨n + 16, h⟩ => omega
    exact this ⟨i, hi⟩
theorem valid_k {l : List UInt8} (hl : l.length ≤ 1000000) {L : List Blk} {K : AV → List Blk → Prop} (h : K (.bool (Lib.validD l)) L) : ACall Tryz.prog 16 [.str l] L K :=
  ACall_lift Tryz.func16 rfl (by kernel_rfl) (fun w0 S0 E w vs hR hv => by
    simp only [VRL, VR] at hv
    obtain ⟨_, _, rfl, rfl, rfl⟩ := hv
    exact (Any.utf8_ValidString Tryz.lays196 ⟨⟨l⟩⟩ w (show l.length ≤ _ by omega) (utf8_tabs hR)).mono fun e w' ⟨he, hw⟩ => ⟨_, he, by simp [VR], grew_below hw⟩) h

/-! Texts. -/
theorem scompare_k {a b : List UInt8} {L : List Blk} {K : AV → List Blk → Prop} (h : K (.int .i64 (Lib.compareBytes a b)) L) : ACall Tryz.prog 28 [.str a, .str b] L K :=
  ACall_lift Tryz.func28 rfl (by kernel_rfl) (fun w0 S0 E w vs hR hv => by
    simp only [VRL, VR] at hv
    obtain ⟨_, _, rfl, rfl, _, _, rfl, rfl, rfl⟩ := hv
    exact (Tryz.strings_Compare ⟨⟨a⟩⟩ ⟨⟨b⟩⟩ w).mono fun e w' ⟨he, hw⟩ => ⟨_, he, by simp [VR], by subst hw; exact Grew.refl _⟩) h
theorem sprefix_k {a b : List UInt8} {L : List Blk} {K : AV → List Blk → Prop} (h : K (.bool (Lib.hasPrefix a b)) L) : ACall Tryz.prog 33 [.str a, .str b] L K :=
  ACall_lift Tryz.func33 rfl (by kernel_rfl) (fun w0 S0 E w vs hR hv => by
    simp only [VRL, VR] at hv
    obtain ⟨_, _, rfl, rfl, _, _, rfl, rfl, rfl⟩ := hv
    exact (Tryz.strings_HasPrefix ⟨⟨a⟩⟩ ⟨⟨b⟩⟩ w).mono fun e w' ⟨he, hw⟩ => ⟨_, he, by simp [VR], by subst hw; exact Grew.refl _⟩) h
theorem ssuffix_k {a b : List UInt8} (ha : a.length ≤ 1000000) {L : List Blk} {K : AV → List Blk → Prop} (h : K (.bool (Lib.hasSuffix a b)) L) : ACall Tryz.prog 34 [.str a, .str b] L K :=
  ACall_lift Tryz.func34 rfl (by kernel_rfl) (fun w0 S0 E w vs hR hv => by
    simp only [VRL, VR] at hv
    obtain ⟨_, _, rfl, rfl, _, _, rfl, rfl, rfl⟩ := hv
    exact (Tryz.strings_HasSuffix ⟨⟨a⟩⟩ ⟨⟨b⟩⟩ w (show a.length ≤ _ by omega)).mono fun e w' ⟨he, hw⟩ => ⟨_, he, by simp [VR], by subst hw; exact Grew.refl _⟩) h
theorem sindex_k {a b : List UInt8} (ha : a.length ≤ 1000000) {L : List Blk} {K : AV → List Blk → Prop} (h : K (.int .i64 (Lib.index a b)) L) : ACall Tryz.prog 32 [.str a, .str b] L K :=
  ACall_lift Tryz.func32 rfl (by kernel_rfl) (fun w0 S0 E w vs hR hv => by
    simp only [VRL, VR] at hv
    obtain ⟨_, _, rfl, rfl, _, _, rfl, rfl, rfl⟩ := hv
    obtain ⟨z, hz⟩ := hR.glob.2 3 (by simp [openTab])
    exact (Tryz.strings_Index ⟨⟨a⟩⟩ ⟨⟨b⟩⟩ z w (show a.length < _ by omega) (hR.mem _ _ _ hz)).mono fun e w' ⟨he, hw⟩ => ⟨_, he, by simp [VR], by subst hw; exact Grew.refl _⟩) h
end Go.Proofs.YtffnflplocbpiaaGreatDoor.Av

namespace Go.Proofs.YtffnflplocbpiaaGreatDoor.Av
open Go
set_option maxHeartbeats 8000000
set_option maxRecDepth 100000

abbrev TRUEs : List UInt8 := [84, 82, 85, 69]
abbrev FALSEs : List UInt8 := [70, 65, 76, 83, 69]
/-- A value's normal form, by a syntax. -/
def normF (syn : Int) (v : List UInt8) : Option (List UInt8) :=
  if syn = 1 then (if v = [] then none else if Lib.validD v = true then some (prepS v) else none)
  else if syn = 2 then (if v = [] then none else if Lib.validD v = true then some v else none)
  else if syn = 3 then (if ascS v = true then some (prepS v) else none)
  else if syn = 4 then (if numOk v = true then some v else none)
  else if syn = 5 then (if v = TRUEs ∨ v = FALSEs then some v else none)
  else if syn = 6 then (if (keyS v).2 = 0 then some (keyS v).1 else none)
  else if syn = 7 then some v
  else if syn = 8 then (if momS v = true then some v else none)
  else none
def normO (syn : Int) (v : List UInt8) : Option (List UInt8) := if 4096 < v.length then none else normF syn v
def normA : Option (List UInt8) → AV
  | some n => .tup [.str n, .bool true]
  | none => .tup [.str [], .bool false]

theorem norm_syn_k {syn : Int} {v : List UInt8} {L : List Blk} {K : AV → List Blk → Prop} (h : K (normA (normO syn v)) L) : ACall Tryz.prog 9 [.int .i64 syn, .str v] L K := by
  unfold normO at h
  refine ACall_fn c_syntax_Norm_eq (by simp [c_syntax_Norm]) ?_
  simp only [c_syntax_Norm, initT]
  by_cases hl : 4096 < v.length
  · have f1 : (4096 : Int) < (v.length : Int) := by omega
    rw [if_pos hl] at h
    replace h := hid h
    clear hl
    refine wk ?_
    exact Fin_same h.out
  have f1 : ¬ (4096 : Int) < (v.length : Int) := by omega
  rw [if_neg hl] at h
  have vl1 : v.length ≤ 1000000 := by omega
  have vl2 : (v.length : Int) ≤ 100000 := by omega
  have vl3 : (v.length : Int) ≤ 1000000 := by omega
  unfold normF at h
  clear hl
  by_cases s1 : syn = 1
  · subst s1
    rw [if_pos rfl] at h
    by_cases hv : v = []
    · rw [if_pos hv] at h
      replace h := hid h
      subst hv
      have kk1 := @hid _ (fun L K => prep_k vl2 (L := L) (K := K))
      have kk2 := @hid _ (fun L K => valid_k vl1 (L := L) (K := K))
      refine wk ?_
      exact Fin_same h.out
    · rw [if_neg hv] at h
      cases hd : Lib.validD v with
      | true =>
        rw [hd, if_pos rfl] at h
        replace h := hid h
        have kk1 := @hid _ (fun L K => prep_k vl2 (L := L) (K := K))
        have kk2 := @hid _ (fun L K => valid_k vl1 (L := L) (K := K))
        refine wk ?_
        exact Fin_same h.out
      | false =>
        rw [hd, if_neg (by simp)] at h
        replace h := hid h
        have kk1 := @hid _ (fun L K => prep_k vl2 (L := L) (K := K))
        have kk2 := @hid _ (fun L K => valid_k vl1 (L := L) (K := K))
        refine wk ?_
        exact Fin_same h.out
  rw [if_neg s1] at h
  by_cases s2 : syn = 2
  · subst s2
    rw [if_pos rfl] at h
    by_cases hv : v = []
    · rw [if_pos hv] at h
      replace h := hid h
      have kk1 := @hid _ (fun L K => valid_k vl1 (L := L) (K := K))
      refine wk ?_
      exact Fin_same h.out
    · rw [if_neg hv] at h
      cases hd : Lib.validD v with
      | true =>
        rw [hd, if_pos rfl] at h
        replace h := hid h
        have kk1 := @hid _ (fun L K => valid_k vl1 (L := L) (K := K))
        refine wk ?_
        exact Fin_same h.out
      | false =>
        rw [hd, if_neg (by simp)] at h
        replace h := hid h
        have kk1 := @hid _ (fun L K => valid_k vl1 (L := L) (K := K))
        refine wk ?_
        exact Fin_same h.out
  rw [if_neg s2] at h
  by_cases s3 : syn = 3
  · subst s3
    rw [if_pos rfl] at h
    replace h := hid h
    have kk1 := @hid _ (fun L K => prep_k vl2 (L := L) (K := K))
    refine wk ?_
    refine indexF_k vl1 (fun e => ?_) (fun k e => ?_)
    · have h' := h.out
      rw [if_pos e] at h'
      replace h' := hid h'
      refine sk ?_
      refine wk ?_
      exact Fin_same h'.out
    · have h' := h.out
      rw [if_neg (by rw [e]; simp)] at h'
      replace h' := hid h'
      have k0 : ¬ (k : Int) < 0 := by omega
      refine sk ?_
      refine wk ?_
      exact Fin_same h'.out
  rw [if_neg s3] at h
  by_cases s4 : syn = 4
  · subst s4
    rw [if_pos rfl] at h
    cases hd : numOk v with
    | true =>
      rw [hd, if_pos rfl] at h
      replace h := hid h
      have kk1 := @hid _ (fun L K => number_k vl3 (L := L) (K := K))
      refine wk ?_
      exact Fin_same h.out
    | false =>
      rw [hd, if_neg (by simp)] at h
      replace h := hid h
      have kk1 := @hid _ (fun L K => number_k vl3 (L := L) (K := K))
      refine wk ?_
      exact Fin_same h.out
  rw [if_neg s4] at h
  by_cases s5 : syn = 5
  · subst s5
    rw [if_pos rfl] at h
    by_cases t1 : v = TRUEs
    · rw [if_pos (.inl t1)] at h
      replace h := hid h
      have c1 : (decide (v = [84, 82, 85, 69]) : Bool) = true := decide_eq_true t1
      subst t1
      refine wk ?_
      exact Fin_same h.out
    · by_cases t2 : v = FALSEs
      · rw [if_pos (.inr t2)] at h
        replace h := hid h
        subst t2
        have t3 : ¬ ([70, 65, 76, 83, 69] : List UInt8) = [84, 82, 85, 69] := by decide
        clear t1
        refine wk ?_
        exact Fin_same h.out
      · rw [if_neg (fun e => e.elim t1 t2)] at h
        replace h := hid h
        refine wk ?_
        exact Fin_same h.out
  rw [if_neg s5] at h
  by_cases s6 : syn = 6
  · subst s6
    rw [if_pos rfl] at h
    obtain ⟨⟨k, e⟩, hk⟩ : ∃ p, keyS v = p := ⟨_, rfl⟩
    rw [hk] at h
    simp only at h
    by_cases he : e = 0
    · subst he
      rw [if_pos rfl] at h
      replace h := hid h
      refine wk ?_
      refine key_k ?_
      rw [hk]
      simp only [strE]
      refine sk ?_
      refine wk ?_
      exact Fin_same h.out
    · rw [if_neg he] at h
      replace h := hid h
      refine wk ?_
      refine key_k ?_
      rw [hk]
      simp only [strE]
      refine sk ?_
      refine wk ?_
      exact Fin_same h.out
  rw [if_neg s6] at h
  by_cases s7 : syn = 7
  · subst s7
    rw [if_pos rfl] at h
    replace h := hid h
    refine wk ?_
    exact Fin_same h.out
  rw [if_neg s7] at h
  by_cases s8 : syn = 8
  · subst s8
    rw [if_pos rfl] at h
    cases hd : momS v with
    | true =>
      rw [hd, if_pos rfl] at h
      replace h := hid h
      have kk1 := @hid _ (fun L K => moment_k vl1 (L := L) (K := K))
      refine wk ?_
      exact Fin_same h.out
    | false =>
      rw [hd, if_neg (by simp)] at h
      replace h := hid h
      have kk1 := @hid _ (fun L K => moment_k vl1 (L := L) (K := K))
      refine wk ?_
      exact Fin_same h.out
  rw [if_neg s8] at h
  replace h := hid h
  refine wk ?_
  exact Fin_same h.out
end Go.Proofs.YtffnflplocbpiaaGreatDoor.Av

namespace Go.Proofs.YtffnflplocbpiaaGreatDoor.Av
open Go
set_option maxHeartbeats 8000000
set_option maxRecDepth 100000

def cmpS (syn : Int) (x y : List UInt8) : Int := if syn = 4 then cmpI (numV x) (numV y) else Lib.compareBytes x y
def ordO (syn : Int) (a b : List UInt8) : Option Int := match normO syn a, normO syn b with
  | some x, some y => if syn = 5 ∨ syn = 6 ∨ syn = 7 then none else some (cmpS syn x y)
  | _, _ => none
def ordA : Option Int → AV
  | some c => .tup [.int .i64 c, .bool true]
  | none => .tup [.int .i64 0, .bool false]
theorem normO_len {syn : Int} {v x : List UInt8} (h : normO syn v = some x) : v.length ≤ 4096 := by
  unfold normO at h
  split at h
  · cases h
  · omega
theorem normO_four {v x : List UInt8} (h : normO 4 v = some x) : x = v ∧ numOk v = true := by
  unfold normO at h
  split at h
  · cases h
  · have e : normF 4 v = if numOk v = true then some v else none := rfl
    rw [e] at h
    split at h
    · rename_i hn; exact ⟨(Option.some.inj h).symm, hn⟩
    · cases h
theorem order_syn_k {syn : Int} {a b : List UInt8} {L : List Blk} {K : AV → List Blk → Prop} (h : K (ordA (ordO syn a b)) L) : ACall Tryz.prog 11 [.int .i64 syn, .str a, .str b] L K := by
  unfold ordO at h
  refine ACall_fn c_syntax_Order_eq (by simp [c_syntax_Order]) ?_
  simp only [c_syntax_Order, initT]
  refine wk ?_
  refine norm_syn_k ?_
  rcases ha : normO syn a with _ | x
  · rw [ha] at h
    simp only [ordA] at h
    replace h := hid h
    simp only [normA]
    refine sk ?_
    refine wk ?_
    refine norm_syn_k ?_
    rcases normO syn b with _ | y
    · simp only [normA]
      refine sk ?_
      refine wk ?_
      exact Fin_same h.out
    · simp only [normA]
      refine sk ?_
      refine wk ?_
      exact Fin_same h.out
  rw [ha] at h
  simp only [normA]
  refine sk ?_
  refine wk ?_
  refine norm_syn_k ?_
  rcases hb : normO syn b with _ | y
  · rw [hb] at h
    simp only [ordA] at h
    replace h := hid h
    simp only [normA]
    refine sk ?_
    refine wk ?_
    exact Fin_same h.out
  rw [hb] at h
  simp only at h
  simp only [normA]
  by_cases h5 : syn = 5
  · rw [if_pos (.inl h5)] at h
    simp only [ordA] at h
    replace h := hid h
    refine sk ?_
    refine wk ?_
    exact Fin_same h.out
  by_cases h6 : syn = 6
  · rw [if_pos (.inr (.inl h6))] at h
    simp only [ordA] at h
    replace h := hid h
    refine sk ?_
    refine wk ?_
    exact Fin_same h.out
  by_cases h7 : syn = 7
  · rw [if_pos (.inr (.inr h7))] at h
    simp only [ordA] at h
    replace h := hid h
    refine sk ?_
    refine wk ?_
    exact Fin_same h.out
  rw [if_neg (by omega)] at h
  simp only [ordA, cmpS] at h
  by_cases h4 : syn = 4
  · subst h4
    rw [if_pos rfl] at h
    replace h := hid h
    obtain ⟨ex, _⟩ := normO_four ha
    obtain ⟨ey, _⟩ := normO_four hb
    have la := normO_len ha
    have lb := normO_len hb
    have lx : (x.length : Int) ≤ 1000000 := by rw [ex]; omega
    have ly : (y.length : Int) ≤ 1000000 := by rw [ey]; omega
    clear ha hb ex ey
    refine sk ?_
    have kk1 := @hid _ (fun L K => number_k lx (L := L) (K := K))
    have kk2 := @hid _ (fun L K => number_k ly (L := L) (K := K))
    have kk3 := @hid _ @cmp64_k
    refine wk ?_
    exact Fin_same h.out
  · rw [if_neg h4] at h
    replace h := hid h
    clear ha hb
    refine sk ?_
    have kk1 := @hid _ @scompare_k
    refine wk ?_
    exact Fin_same h.out
end Go.Proofs.YtffnflplocbpiaaGreatDoor.Av
