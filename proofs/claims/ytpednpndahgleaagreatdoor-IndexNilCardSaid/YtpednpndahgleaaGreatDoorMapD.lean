/- Entries of a map struck by a test, whichever comes first: the walk of maps.DeleteFunc. -/
import Derived.Test.YtpednpndahgleaaGreatDoorCodeV
import Derived.Test.YtpednpndahgleaaGreatDoorMapN
import Derived.Test.YtpednpndahgleaaGreatDoorAvV
import Derived.Test.YtpednpndahgleaaGreatDoorAvQ
set_option linter.unusedSimpArgs false
set_option linter.unusedVariables false
namespace Go.Proofs.YtpednpndahgleaaGreatDoor.Av
open Go
set_option maxHeartbeats 8000000
set_option maxRecDepth 100000

abbrev Ent := Int × Bool × Nat
def entA (p : Ent) : AV × AV × Nat := (.int .i64 p.1, .bool p.2.1, p.2.2)
abbrev entsA (xs : List Ent) : List (AV × AV × Nat) := xs.map entA

theorem entA_refs (q : Nat → Bool) (xs : List Ent) (ck : Nat) : Blk.refs q (.map (entsA xs) ck) = true := by
  simp [Blk.refs, entA, AV.refs]

theorem find_del : ∀ (xs : List Ent) (p : Ent) (k : Nat), (xs.map (·.1)).Nodup → p ∈ xs → ∃ j, mfind (.int .i64 p.1) (entsA xs) k = some (some (k + j, .bool p.2.1)) ∧ (entsA xs).eraseIdx j = entsA (xs.filter fun r => decide (r.1 ≠ p.1))
  | [], p, k, _, h => by cases h
  | x :: xs, p, k, hn, h => by
    rw [List.map_cons, List.nodup_cons] at hn
    by_cases hx : p.1 = x.1
    · have hp : p = x := by
        rcases List.mem_cons.1 h with h | h
        · exact h
        · exact absurd (List.mem_map.2 ⟨p, h, hx⟩) hn.1
      subst hp
      refine ⟨0, by simp [entsA, entA, mfind, keyq], ?_⟩
      have hf : xs.filter (fun r => decide (r.1 ≠ p.1)) = xs := List.filter_eq_self.2 fun r hr => by
        have : r.1 ≠ p.1 := fun e => hn.1 (List.mem_map.2 ⟨r, hr, e⟩)
        simpa using this
      simp only [List.map_cons, List.eraseIdx_zero, List.tail_cons, List.filter_cons, ne_eq, not_true_eq_false, decide_false, Bool.false_eq_true, if_false]
      simp only [ne_eq] at hf
      rw [hf]
    · have hm : p ∈ xs := by
        rcases List.mem_cons.1 h with h | h
        · exact absurd (by rw [h]) hx
        · exact h
      obtain ⟨j, h1, h2⟩ := find_del xs p (k + 1) hn.2 hm
      refine ⟨j + 1, ?_, ?_⟩
      · simp only [entsA, List.map_cons, entA, mfind, keyq, if_true, decide_eq_false hx]
        simp only [entsA] at h1
        rw [h1, show k + 1 + j = k + (j + 1) by omega]
      · have hx' : x.1 ≠ p.1 := fun e => hx e.symm
        simp only [entsA, List.map_cons, List.eraseIdx_cons_succ, List.filter_cons, hx', ne_eq, not_false_eq_true, decide_true, if_true]
        simp only [entsA, ne_eq] at h2
        rw [h2]

theorem mat_ent {xs : List Ent} {p : Ent} {ck : Nat} {seen : List Nat} (hb : (xs.map (·.2.2)).Nodup) (hp : p ∈ xs) : mat (entsA xs) ck (seen ++ [p.2.2]) ck = some (.int .i64 p.1, .bool p.2.1, p.2.2) := by
  have key : ∀ xs : List Ent, (xs.map (·.2.2)).Nodup → p ∈ xs → (entsA xs).find? (fun e => Nat.beq e.2.2 p.2.2) = some (entA p) := by
    intro xs
    induction xs with
    | nil => intro _ h; cases h
    | cons x xs ih =>
      intro hn h
      rw [List.map_cons, List.nodup_cons] at hn
      rcases List.mem_cons.1 h with h | h
      · subst h; simp [entsA, entA]
      · have hne : x.2.2 ≠ p.2.2 := fun e => hn.1 (List.mem_map.2 ⟨p, h, e.symm⟩)
        have hbq : Nat.beq x.2.2 p.2.2 = false := by
          cases hh : Nat.beq x.2.2 p.2.2 with
          | false => rfl
          | true => exact absurd (Nat.eq_of_beq_eq_true hh) hne
        simp only [entsA, List.map_cons, List.find?_cons]
        rw [show Nat.beq (entA x).2.2 p.2.2 = false from hbq]
        exact ih hn.2 h
  simp only [mat, List.getLast?_append, List.getLast?_singleton, Option.some_or, if_true]
  exact key xs hb hp

/-- A test of a map's entries, as a function value. -/
def TestM (f : FuncId) (caps : List AV) (ok : List Blk → Prop) (q : Int → Bool) : Prop := ∀ (L : List Blk) (x : Int) (b : Bool) (K : AV → List Blk → Prop), ok L → K (.bool (q x)) L → ACall Tryz.prog f ([.int .i64 x, .bool b] ++ caps) L K

def stay (xs : List Ent) (q : Int → Bool) (seen : List Nat) : List Ent := xs.filter fun p => !(seen.contains p.2.2 && q p.1)
theorem nodup_inj {X Y : Type} {f : X → Y} : ∀ {l : List X}, (l.map f).Nodup → ∀ {a b : X}, a ∈ l → b ∈ l → f a = f b → a = b
  | x :: l, h, a, b, ha, hb, e => by
    rw [List.map_cons, List.nodup_cons] at h
    rcases List.mem_cons.1 ha with h1 | h1
    · rcases List.mem_cons.1 hb with h2 | h2
      · rw [h1, h2]
      · exact absurd (List.mem_map.2 ⟨b, h2, by rw [← e, h1]⟩) h.1
    · rcases List.mem_cons.1 hb with h2 | h2
      · exact absurd (List.mem_map.2 ⟨a, h1, by rw [e, h2]⟩) h.1
      · exact nodup_inj h.2 h1 h2 e
theorem stay_yes {xs : List Ent} {q : Int → Bool} {seen : List Nat} {p : Ent} (hk : (xs.map (·.1)).Nodup) (hb : (xs.map (·.2.2)).Nodup) (hp : p ∈ xs) (hq : q p.1 = true) : (stay xs q seen).filter (fun r => decide (r.1 ≠ p.1)) = stay xs q (seen ++ [p.2.2]) := by
  unfold stay
  rw [List.filter_filter]
  refine List.filter_congr fun r hr => ?_
  by_cases e : r = p
  · subst e; simp [hq]
  · have e1 : r.1 ≠ p.1 := fun h => e (nodup_inj hk hr hp h)
    have e2 : r.2.2 ≠ p.2.2 := fun h => e (nodup_inj (f := fun x : Ent => x.2.2) hb hr hp h)
    simp [e1, e2]
theorem stay_no {xs : List Ent} {q : Int → Bool} {seen : List Nat} {p : Ent} (hb : (xs.map (·.2.2)).Nodup) (hp : p ∈ xs) (hq : q p.1 = false) : stay xs q (seen ++ [p.2.2]) = stay xs q seen := by
  unfold stay
  refine List.filter_congr fun r hr => ?_
  by_cases e : r = p
  · subst e; simp [hq]
  · have e2 : r.2.2 ≠ p.2.2 := fun h => e (nodup_inj (f := fun x : Ent => x.2.2) hb hr hp h)
    simp [e2]
theorem stay_all {xs : List Ent} {q : Int → Bool} {seen : List Nat} (h : ∀ e ∈ entsA (stay xs q seen), seen.contains e.2.2 = true) : stay xs q seen = xs.filter fun p => !q p.1 := by
  unfold stay at h ⊢
  refine List.filter_congr fun r hr => ?_
  cases hq : q r.1 with
  | false => simp
  | true =>
    have : seen.contains r.2.2 = true := by
      cases hs : seen.contains r.2.2 with
      | true => rfl
      | false =>
        have := h (entA r) (List.mem_map.2 ⟨r, List.mem_filter.2 ⟨hr, by simp only [hs, Bool.false_and, Bool.not_false]⟩, rfl⟩)
        rw [show (entA r).2.2 = r.2.2 from rfl, hs] at this
        exact this
    simp only [this, Bool.and_self]

theorem unseen_lt {xs : List Ent} {seen : List Nat} {p : Ent} (hp : p ∈ xs) (hs : seen.contains p.2.2 = false) : (xs.filter fun r => !(seen ++ [p.2.2]).contains r.2.2).length < (xs.filter fun r => !seen.contains r.2.2).length := by
  have e : (xs.filter fun r => !(seen ++ [p.2.2]).contains r.2.2) = (xs.filter fun r => !seen.contains r.2.2).filter (fun r => decide (r.2.2 ≠ p.2.2)) := by
    rw [List.filter_filter]
    refine List.filter_congr fun r _ => ?_
    by_cases h : r.2.2 = p.2.2 <;> simp [h]
  rw [e]
  refine List.length_filter_lt_length_iff_exists.2 ⟨p, List.mem_filter.2 ⟨hp, by rw [hs]; rfl⟩, by simp⟩

theorem mdelf_k {f : FuncId} {caps : List AV} {ok : List Blk → Prop} {q : Int → Bool} {xs : List Ent} {i ck : Nat} {L : List Blk} {K : AV → List Blk → Prop} (hq : TestM f caps ok q) (hok : ∀ l c y, ok (L.set i (.map l c) ++ [y])) (hk : (xs.map (·.1)).Nodup) (hb : (xs.map (·.2.2)).Nodup) (hc : ∀ p ∈ xs, p.2.2 < ck)
    (hi : L[i]? = some (.map (entsA xs) ck)) (h : K (.tup []) (L.set i (.map (entsA (xs.filter fun p => !q p.1)) ck))) :
    ACall Tryz.prog 50 [.lmap i, .func f caps] L K := by
  have hil : i < L.length := (List.getElem?_eq_some_iff.1 hi).1
  have hset : L.set i (.map (entsA xs) ck) = L := by
    apply List.ext_getElem?
    intro j
    rw [List.getElem?_set]
    split
    · rename_i e; subst e
      first | exact hi.symm | (rw [if_pos hil]; exact hi.symm)
    · rfl
  replace h := hid h
  replace hq := hid hq
  replace hok := hid hok
  replace hk := hid hk
  replace hb := hid hb
  replace hc := hid hc
  replace hset := hid hset
  refine ACall_fn c_maps_DeleteFunc_index_set_int_int_bool_eq (by simp [c_maps_DeleteFunc_index_set_int_int_bool]) ?_
  simp only [c_maps_DeleteFunc_index_set_int_int_bool, initT]
  repeat' first
    | refine AW_seq ?_
    | (first | refine AW_sreg (by kernel_rfl) ?_ | refine AW_sdreg (by kernel_rfl) ?_ | refine AW_dregM ?_ | refine Nx_in ?_ | refine NxI_in (fun _ => ?_) | refine AW_region ?_ | refine AW_dreg ?_)
      simp (config := { maxSteps := 2000000 }) only [Kon, push_cast, reduceIte, Nat.reduceEqDiff, Nat.reduceAdd, Nat.reduceMul, Nat.reduceSub, Nat.reduceLT, Nat.reduceLeDiff, Int.reduceLT, Int.reduceLE, Int.reduceAdd, Int.reduceSub, Int.reduceNeg, Int.reduceToNat, Int.reduceEq, reduceCtorEq, *]
    | (first | refine SelK_mk (by kernel_rfl) ?_ | refine AW_skip ?_ | refine AW_exit ?_ | refine AW_ret (Back_retR ?_))
      simp only [push_cast, reduceIte, Nat.reduceEqDiff, Nat.reduceAdd, Nat.reduceMul, Nat.reduceSub, Nat.reduceLT, Nat.reduceLeDiff, Int.reduceLT, Int.reduceLE, Int.reduceAdd, Int.reduceSub, Int.reduceNeg, Int.reduceToNat, Int.reduceEq, reduceCtorEq, *]
    | exact IsB_mk
    | first | apply GQ_mkT | apply GQ_mkTN | apply GQ_mkF | apply GQ_mkFN | apply GQ_mkB | apply GQ_mkBF
    | refine AW_block ?_
    | first | refine AW_condT rfl ?_ | refine AW_condF rfl ?_ | refine AW_condAny rfl ?_ ?_ | refine AW_condB rfl (fun _ => ?_) (fun _ => ?_) | refine AW_condN rfl (fun _ => ?_) (fun _ => ?_)
    | ((first | refine ite_introN (fun _ => ?_) (fun _ => ?_) | refine ite_intro (fun _ => ?_) (fun _ => ?_)) <;> try simp (config := { maxSteps := 2000000 }) only [Kon, push_cast, reduceIte, Nat.reduceEqDiff, Nat.reduceAdd, Nat.reduceMul, Nat.reduceSub, Nat.reduceLT, Nat.reduceLeDiff, Int.reduceLT, Int.reduceLE, Int.reduceAdd, Int.reduceSub, Int.reduceNeg, Int.reduceToNat, Int.reduceEq, reduceCtorEq, *])
    | refine And.intro trivial ?_
    | refine And.intro (by omega) ?_
    | refine AW_cond rfl (fun _ => ?_) (fun _ => ?_)
    | refine And.intro ?_ ?_
  have e0 : stay xs q [] = xs := by simp [stay]
  refine AW_loopT (fun n T' L' => ∃ (seen : List Nat), n = (xs.filter fun r => !seen.contains r.2.2).length ∧ T' = [(7, .ptr L.length 0), (0, .lmap i), (1, .func f caps)] ∧ L' = L.set i (.map (entsA (stay xs q seen)) ck) ++ [.miter (some i) ck seen ck]) (Cut_same (by repeat' first | exact SubT_nil | refine SubT_cons rfl rfl ?_ | refine SubT_consF rfl rfl ?_) (by simp)) ⟨[], rfl, rfl, by rw [e0, hset.out]⟩ ?_
  clear hi e0
  rintro _ _ _ ⟨seen, rfl, rfl, rfl⟩
  have i1 : ∀ A B, (L.set i A ++ [B])[L.length]? = some B := fun A B => by simp
  have i2 : ∀ A B, (L.set i A ++ [B])[i]? = some A := fun A B => by rw [List.getElem?_append_left (by simpa using hil)]; simp [hil]
  have i3 : ∀ A B C, (L.set i A ++ [B]).set L.length C = L.set i A ++ [C] := fun A B C => by
    have := setApp0 (L.set i A) B C []
    rwa [List.length_set] at this
  have i4 : ∀ A B C, (L.set i A ++ [B]).set i C = L.set i C ++ [B] := fun A B C => by
    rw [List.set_append_left _ _ (by simpa using hil), List.set_set]
  refine AW_seq ?_
  refine AW_next (i := L.length) (j := i) (es := entsA (stay xs q seen)) (by kernel_rfl) rfl (i1 _ _) (i2 _ _) (fun e he => ?_) (Nat.le_refl _) (fun hall => ?_) (fun e he hs => ?_)
  · obtain ⟨p, hp, rfl⟩ := List.mem_map.1 he
    exact hc.out p (List.mem_filter.1 hp).1
  · have hfin := h.out
    rw [← stay_all hall] at hfin
    replace hfin := hid hfin
    clear hall
    simp only [Kon, push_cast, reduceIte, Nat.reduceEqDiff, Nat.reduceAdd, Nat.reduceMul, Nat.reduceSub, Nat.reduceLT, Nat.reduceLeDiff, Int.reduceLT, Int.reduceLE, Int.reduceAdd, Int.reduceSub, Int.reduceNeg, Int.reduceToNat, Int.reduceEq, reduceCtorEq, *]
    repeat' first
      | refine AW_seq ?_
      | (first | refine AW_sreg (by kernel_rfl) ?_ | refine AW_sdreg (by kernel_rfl) ?_ | refine AW_dregM ?_ | refine Nx_in ?_ | refine NxI_in (fun _ => ?_) | refine AW_region ?_ | refine AW_dreg ?_)
        simp (config := { maxSteps := 2000000 }) only [Kon, push_cast, reduceIte, Nat.reduceEqDiff, Nat.reduceAdd, Nat.reduceMul, Nat.reduceSub, Nat.reduceLT, Nat.reduceLeDiff, Int.reduceLT, Int.reduceLE, Int.reduceAdd, Int.reduceSub, Int.reduceNeg, Int.reduceToNat, Int.reduceEq, reduceCtorEq, *]
      | (first | refine SelK_mk (by kernel_rfl) ?_ | refine AW_skip ?_ | refine AW_exit ?_ | refine AW_ret (Back_retR ?_))
        simp only [push_cast, reduceIte, Nat.reduceEqDiff, Nat.reduceAdd, Nat.reduceMul, Nat.reduceSub, Nat.reduceLT, Nat.reduceLeDiff, Int.reduceLT, Int.reduceLE, Int.reduceAdd, Int.reduceSub, Int.reduceNeg, Int.reduceToNat, Int.reduceEq, reduceCtorEq, *]
      | exact IsB_mk
      | first | apply GQ_mkT | apply GQ_mkTN | apply GQ_mkF | apply GQ_mkFN | apply GQ_mkB | apply GQ_mkBF
      | refine AW_block ?_
      | first | refine AW_condT rfl ?_ | refine AW_condF rfl ?_ | refine AW_condAny rfl ?_ ?_ | refine AW_condB rfl (fun _ => ?_) (fun _ => ?_) | refine AW_condN rfl (fun _ => ?_) (fun _ => ?_)
      | ((first | refine ite_introN (fun _ => ?_) (fun _ => ?_) | refine ite_intro (fun _ => ?_) (fun _ => ?_)) <;> try simp (config := { maxSteps := 2000000 }) only [Kon, push_cast, reduceIte, Nat.reduceEqDiff, Nat.reduceAdd, Nat.reduceMul, Nat.reduceSub, Nat.reduceLT, Nat.reduceLeDiff, Int.reduceLT, Int.reduceLE, Int.reduceAdd, Int.reduceSub, Int.reduceNeg, Int.reduceToNat, Int.reduceEq, reduceCtorEq, *])
      | refine And.intro trivial ?_
      | refine And.intro (by omega) ?_
      | refine AW_cond rfl (fun _ => ?_) (fun _ => ?_)
      | refine And.intro ?_ ?_
    exact .inl rfl
    refine ⟨True, [], rfl, trivial, ?_⟩
    refine Fin_keep (L0 := L) (L1 := L.set i (.map (entsA (stay xs q seen)) ck)) (by simp) (fun hw k hk' => ?_) rfl hfin.out
    rcases List.mem_or_eq_of_mem_set hk' with h1 | h1
    · exact hw k h1
    · rw [h1]; exact entA_refs _ _ _
  · obtain ⟨p, hp, rfl⟩ := List.mem_map.1 he
    clear he
    have hpx := (List.mem_filter.1 hp).1
    have hs' : seen.contains p.2.2 = false := hs
    have hlt := hid (unseen_lt hpx hs')
    have hsub : (stay xs q seen).Sublist xs := List.filter_sublist
    have hmat := mat_ent (ck := ck) (seen := seen) (List.Nodup.sublist (hsub.map (fun x : Ent => x.2.2)) hb.out) hp
    obtain ⟨jj, hj1, hj2⟩ := find_del (stay xs q seen) p 0 (List.Nodup.sublist (hsub.map (fun x : Ent => x.1)) hk.out) hp
    have hy := hid (fun hq' => stay_yes (seen := seen) hk.out hb.out hpx (q := q) hq')
    have hn := hid (fun hq' => stay_no (seen := seen) hb.out hpx (q := q) hq')
    rw [Nat.zero_add] at hj1
    obtain ⟨x, b, m⟩ := p
    simp only [entA] at *
    clear hs hs' hsub hp
    simp only [i3]
    have hkf : keyFit .int (.int .i64 x) = true := rfl
    have hle : (L ++ [Blk.miter (some i) ck [] ck]).length ≤ (L.set i (Blk.map (entsA (stay xs q seen)) ck) ++ [Blk.miter (some i) ck (seen ++ [m]) ck]).length := by simp
    replace hle := hid hle
    simp only [Kon, push_cast, reduceIte, Nat.reduceEqDiff, Nat.reduceAdd, Nat.reduceMul, Nat.reduceSub, Nat.reduceLT, Nat.reduceLeDiff, Int.reduceLT, Int.reduceLE, Int.reduceAdd, Int.reduceSub, Int.reduceNeg, Int.reduceToNat, Int.reduceEq, reduceCtorEq, *]
    repeat' first
      | refine AW_seq ?_
      | (first | refine AW_sreg (by kernel_rfl) ?_ | refine AW_sdreg (by kernel_rfl) ?_ | refine AW_dregM ?_ | refine Nx_in ?_ | refine NxI_in (fun _ => ?_) | refine AW_region ?_ | refine AW_dreg ?_)
        simp (config := { maxSteps := 2000000 }) only [Kon, push_cast, reduceIte, Nat.reduceEqDiff, Nat.reduceAdd, Nat.reduceMul, Nat.reduceSub, Nat.reduceLT, Nat.reduceLeDiff, Int.reduceLT, Int.reduceLE, Int.reduceAdd, Int.reduceSub, Int.reduceNeg, Int.reduceToNat, Int.reduceEq, reduceCtorEq, *]
      | (first | refine SelK_mk (by kernel_rfl) ?_ | refine AW_skip ?_ | refine AW_exit ?_ | refine AW_ret (Back_retR ?_))
        simp only [push_cast, reduceIte, Nat.reduceEqDiff, Nat.reduceAdd, Nat.reduceMul, Nat.reduceSub, Nat.reduceLT, Nat.reduceLeDiff, Int.reduceLT, Int.reduceLE, Int.reduceAdd, Int.reduceSub, Int.reduceNeg, Int.reduceToNat, Int.reduceEq, reduceCtorEq, *]
      | exact IsB_mk
      | first | apply GQ_mkT | apply GQ_mkTN | apply GQ_mkF | apply GQ_mkFN | apply GQ_mkB | apply GQ_mkBF
      | refine AW_block ?_
      | first | refine AW_condT rfl ?_ | refine AW_condF rfl ?_ | refine AW_condAny rfl ?_ ?_ | refine AW_condB rfl (fun _ => ?_) (fun _ => ?_) | refine AW_condN rfl (fun _ => ?_) (fun _ => ?_)
      | ((first | refine ite_introN (fun _ => ?_) (fun _ => ?_) | refine ite_intro (fun _ => ?_) (fun _ => ?_)) <;> try simp (config := { maxSteps := 2000000 }) only [Kon, push_cast, reduceIte, Nat.reduceEqDiff, Nat.reduceAdd, Nat.reduceMul, Nat.reduceSub, Nat.reduceLT, Nat.reduceLeDiff, Int.reduceLT, Int.reduceLE, Int.reduceAdd, Int.reduceSub, Int.reduceNeg, Int.reduceToNat, Int.reduceEq, reduceCtorEq, *])
      | refine And.intro trivial ?_
      | refine And.intro (by omega) ?_
      | refine AW_cond rfl (fun _ => ?_) (fun _ => ?_)
      | refine And.intro ?_ ?_
    refine hq.out _ _ _ _ (hok.out _ _ _) ?_
    simp only [Kon, push_cast, reduceIte, Nat.reduceEqDiff, Nat.reduceAdd, Nat.reduceMul, Nat.reduceSub, Nat.reduceLT, Nat.reduceLeDiff, Int.reduceLT, Int.reduceLE, Int.reduceAdd, Int.reduceSub, Int.reduceNeg, Int.reduceToNat, Int.reduceEq, reduceCtorEq, *]
    rcases hqx : q x with _ | _
    · have e1 := hid (hn.out hqx)
      repeat' first
        | refine AW_seq ?_
        | (first | refine AW_sreg (by kernel_rfl) ?_ | refine AW_sdreg (by kernel_rfl) ?_ | refine AW_dregM ?_ | refine Nx_in ?_ | refine NxI_in (fun _ => ?_) | refine AW_region ?_ | refine AW_dreg ?_)
          simp (config := { maxSteps := 2000000 }) only [Kon, push_cast, reduceIte, Nat.reduceEqDiff, Nat.reduceAdd, Nat.reduceMul, Nat.reduceSub, Nat.reduceLT, Nat.reduceLeDiff, Int.reduceLT, Int.reduceLE, Int.reduceAdd, Int.reduceSub, Int.reduceNeg, Int.reduceToNat, Int.reduceEq, reduceCtorEq, *]
        | (first | refine SelK_mk (by kernel_rfl) ?_ | refine AW_skip ?_ | refine AW_exit ?_ | refine AW_ret (Back_retR ?_))
          simp only [push_cast, reduceIte, Nat.reduceEqDiff, Nat.reduceAdd, Nat.reduceMul, Nat.reduceSub, Nat.reduceLT, Nat.reduceLeDiff, Int.reduceLT, Int.reduceLE, Int.reduceAdd, Int.reduceSub, Int.reduceNeg, Int.reduceToNat, Int.reduceEq, reduceCtorEq, *]
        | exact IsB_mk
        | first | apply GQ_mkT | apply GQ_mkTN | apply GQ_mkF | apply GQ_mkFN | apply GQ_mkB | apply GQ_mkBF
        | refine AW_block ?_
        | first | refine AW_condT rfl ?_ | refine AW_condF rfl ?_ | refine AW_condAny rfl ?_ ?_ | refine AW_condB rfl (fun _ => ?_) (fun _ => ?_) | refine AW_condN rfl (fun _ => ?_) (fun _ => ?_)
        | ((first | refine ite_introN (fun _ => ?_) (fun _ => ?_) | refine ite_intro (fun _ => ?_) (fun _ => ?_)) <;> try simp (config := { maxSteps := 2000000 }) only [Kon, push_cast, reduceIte, Nat.reduceEqDiff, Nat.reduceAdd, Nat.reduceMul, Nat.reduceSub, Nat.reduceLT, Nat.reduceLeDiff, Int.reduceLT, Int.reduceLE, Int.reduceAdd, Int.reduceSub, Int.reduceNeg, Int.reduceToNat, Int.reduceEq, reduceCtorEq, *])
        | refine And.intro trivial ?_
        | refine And.intro (by omega) ?_
        | refine AW_cond rfl (fun _ => ?_) (fun _ => ?_)
        | refine And.intro ?_ ?_
      refine Nxt_mk _ _ _ hlt.out (Cut_same (by repeat' first | exact SubT_nil | refine SubT_cons rfl rfl ?_ | refine SubT_consF rfl rfl ?_) (by simp)) ⟨seen ++ [m], rfl, rfl, ?_⟩
      rw [e1.out]
    · have e1 := hid (hy.out hqx)
      repeat' first
        | refine AW_seq ?_
        | (first | refine AW_sreg (by kernel_rfl) ?_ | refine AW_sdreg (by kernel_rfl) ?_ | refine AW_dregM ?_ | refine Nx_in ?_ | refine NxI_in (fun _ => ?_) | refine AW_region ?_ | refine AW_dreg ?_)
          simp (config := { maxSteps := 2000000 }) only [Kon, push_cast, reduceIte, Nat.reduceEqDiff, Nat.reduceAdd, Nat.reduceMul, Nat.reduceSub, Nat.reduceLT, Nat.reduceLeDiff, Int.reduceLT, Int.reduceLE, Int.reduceAdd, Int.reduceSub, Int.reduceNeg, Int.reduceToNat, Int.reduceEq, reduceCtorEq, *]
        | (first | refine SelK_mk (by kernel_rfl) ?_ | refine AW_skip ?_ | refine AW_exit ?_ | refine AW_ret (Back_retR ?_))
          simp only [push_cast, reduceIte, Nat.reduceEqDiff, Nat.reduceAdd, Nat.reduceMul, Nat.reduceSub, Nat.reduceLT, Nat.reduceLeDiff, Int.reduceLT, Int.reduceLE, Int.reduceAdd, Int.reduceSub, Int.reduceNeg, Int.reduceToNat, Int.reduceEq, reduceCtorEq, *]
        | exact IsB_mk
        | first | apply GQ_mkT | apply GQ_mkTN | apply GQ_mkF | apply GQ_mkFN | apply GQ_mkB | apply GQ_mkBF
        | refine AW_block ?_
        | first | refine AW_condT rfl ?_ | refine AW_condF rfl ?_ | refine AW_condAny rfl ?_ ?_ | refine AW_condB rfl (fun _ => ?_) (fun _ => ?_) | refine AW_condN rfl (fun _ => ?_) (fun _ => ?_)
        | ((first | refine ite_introN (fun _ => ?_) (fun _ => ?_) | refine ite_intro (fun _ => ?_) (fun _ => ?_)) <;> try simp (config := { maxSteps := 2000000 }) only [Kon, push_cast, reduceIte, Nat.reduceEqDiff, Nat.reduceAdd, Nat.reduceMul, Nat.reduceSub, Nat.reduceLT, Nat.reduceLeDiff, Int.reduceLT, Int.reduceLE, Int.reduceAdd, Int.reduceSub, Int.reduceNeg, Int.reduceToNat, Int.reduceEq, reduceCtorEq, *])
        | refine And.intro trivial ?_
        | refine And.intro (by omega) ?_
        | refine AW_cond rfl (fun _ => ?_) (fun _ => ?_)
        | refine And.intro ?_ ?_
      refine Nxt_mk _ _ _ hlt.out (Cut_same (by repeat' first | exact SubT_nil | refine SubT_cons rfl rfl ?_ | refine SubT_consF rfl rfl ?_) (by simp)) ⟨seen ++ [m], rfl, rfl, ?_⟩
      rw [← e1.out]

/-- The test of Index.Like: what is not in a set. -/
def hasnt (es : List (AV × AV × Nat)) (x : Int) : Option Bool := match mfind (.int .i64 x) es 0 with
  | some (some (_, .bool b)) => some (!b)
  | some none => some true
  | _ => none
theorem like1_test {ip j ck : Nat} {es : List (AV × AV × Nat)} (q : Int → Bool) (hes : ∀ x, hasnt es x = some (q x)) : TestM 51 [.ptr ip 0] (fun L => L[ip]? = some (.cells [.lmap j]) ∧ L[j]? = some (.map es ck)) q := fun L x b K hok h => by
  obtain ⟨h1, h2⟩ := hok
  replace h := hid h
  have hx := hes x
  clear hes
  unfold hasnt at hx
  have hkf : keyFit .int (.int .i64 x) = true := rfl
  refine ACall_fn c_index_Index_Like_1_eq (by simp [c_index_Index_Like_1]) ?_
  simp only [c_index_Index_Like_1, initT]
  split at hx
  · rename_i jj y hm
    simp only [Option.some.injEq] at hx
    replace hx := hid hx
    repeat' first
      | refine AW_seq ?_
      | (first | refine AW_sreg (by kernel_rfl) ?_ | refine AW_sdreg (by kernel_rfl) ?_ | refine AW_dregM ?_ | refine Nx_in ?_ | refine NxI_in (fun _ => ?_) | refine AW_region ?_ | refine AW_dreg ?_)
        simp (config := { maxSteps := 2000000 }) only [Kon, push_cast, reduceIte, Nat.reduceEqDiff, Nat.reduceAdd, Nat.reduceMul, Nat.reduceSub, Nat.reduceLT, Nat.reduceLeDiff, Int.reduceLT, Int.reduceLE, Int.reduceAdd, Int.reduceSub, Int.reduceNeg, Int.reduceToNat, Int.reduceEq, reduceCtorEq, *]
      | (first | refine SelK_mk (by kernel_rfl) ?_ | refine AW_skip ?_ | refine AW_exit ?_ | refine AW_ret (Back_retR ?_))
        simp only [push_cast, reduceIte, Nat.reduceEqDiff, Nat.reduceAdd, Nat.reduceMul, Nat.reduceSub, Nat.reduceLT, Nat.reduceLeDiff, Int.reduceLT, Int.reduceLE, Int.reduceAdd, Int.reduceSub, Int.reduceNeg, Int.reduceToNat, Int.reduceEq, reduceCtorEq, *]
      | exact IsB_mk
      | first | apply GQ_mkT | apply GQ_mkTN | apply GQ_mkF | apply GQ_mkFN | apply GQ_mkB | apply GQ_mkBF
      | refine AW_block ?_
      | first | refine AW_condT rfl ?_ | refine AW_condF rfl ?_ | refine AW_condAny rfl ?_ ?_ | refine AW_condB rfl (fun _ => ?_) (fun _ => ?_) | refine AW_condN rfl (fun _ => ?_) (fun _ => ?_)
      | ((first | refine ite_introN (fun _ => ?_) (fun _ => ?_) | refine ite_intro (fun _ => ?_) (fun _ => ?_)) <;> try simp (config := { maxSteps := 2000000 }) only [Kon, push_cast, reduceIte, Nat.reduceEqDiff, Nat.reduceAdd, Nat.reduceMul, Nat.reduceSub, Nat.reduceLT, Nat.reduceLeDiff, Int.reduceLT, Int.reduceLE, Int.reduceAdd, Int.reduceSub, Int.reduceNeg, Int.reduceToNat, Int.reduceEq, reduceCtorEq, *])
      | refine And.intro trivial ?_
      | refine And.intro (by omega) ?_
      | refine AW_cond rfl (fun _ => ?_) (fun _ => ?_)
      | refine And.intro ?_ ?_
    have h' := h.out
    rw [← hx.out] at h'
    exact Fin_same h'
  · rename_i hm
    simp only [Option.some.injEq] at hx
    replace hx := hid hx
    repeat' first
      | refine AW_seq ?_
      | (first | refine AW_sreg (by kernel_rfl) ?_ | refine AW_sdreg (by kernel_rfl) ?_ | refine AW_dregM ?_ | refine Nx_in ?_ | refine NxI_in (fun _ => ?_) | refine AW_region ?_ | refine AW_dreg ?_)
        simp (config := { maxSteps := 2000000 }) only [Kon, push_cast, reduceIte, Nat.reduceEqDiff, Nat.reduceAdd, Nat.reduceMul, Nat.reduceSub, Nat.reduceLT, Nat.reduceLeDiff, Int.reduceLT, Int.reduceLE, Int.reduceAdd, Int.reduceSub, Int.reduceNeg, Int.reduceToNat, Int.reduceEq, reduceCtorEq, *]
      | (first | refine SelK_mk (by kernel_rfl) ?_ | refine AW_skip ?_ | refine AW_exit ?_ | refine AW_ret (Back_retR ?_))
        simp only [push_cast, reduceIte, Nat.reduceEqDiff, Nat.reduceAdd, Nat.reduceMul, Nat.reduceSub, Nat.reduceLT, Nat.reduceLeDiff, Int.reduceLT, Int.reduceLE, Int.reduceAdd, Int.reduceSub, Int.reduceNeg, Int.reduceToNat, Int.reduceEq, reduceCtorEq, *]
      | exact IsB_mk
      | first | apply GQ_mkT | apply GQ_mkTN | apply GQ_mkF | apply GQ_mkFN | apply GQ_mkB | apply GQ_mkBF
      | refine AW_block ?_
      | first | refine AW_condT rfl ?_ | refine AW_condF rfl ?_ | refine AW_condAny rfl ?_ ?_ | refine AW_condB rfl (fun _ => ?_) (fun _ => ?_) | refine AW_condN rfl (fun _ => ?_) (fun _ => ?_)
      | ((first | refine ite_introN (fun _ => ?_) (fun _ => ?_) | refine ite_intro (fun _ => ?_) (fun _ => ?_)) <;> try simp (config := { maxSteps := 2000000 }) only [Kon, push_cast, reduceIte, Nat.reduceEqDiff, Nat.reduceAdd, Nat.reduceMul, Nat.reduceSub, Nat.reduceLT, Nat.reduceLeDiff, Int.reduceLT, Int.reduceLE, Int.reduceAdd, Int.reduceSub, Int.reduceNeg, Int.reduceToNat, Int.reduceEq, reduceCtorEq, *])
      | refine And.intro trivial ?_
      | refine And.intro (by omega) ?_
      | refine AW_cond rfl (fun _ => ?_) (fun _ => ?_)
      | refine And.intro ?_ ?_
    have h' := h.out
    rw [← hx.out] at h'
    exact Fin_same h'
  · cases hx
theorem like1_nil {ip : Nat} : TestM 51 [.ptr ip 0] (fun L => L[ip]? = some (.cells [.nilmap])) (fun _ => true) := fun L x b K hok h => by
  replace h := hid h
  have hkf : keyFit .int (.int .i64 x) = true := rfl
  refine ACall_fn c_index_Index_Like_1_eq (by simp [c_index_Index_Like_1]) ?_
  simp only [c_index_Index_Like_1, initT]
  repeat' first
    | refine AW_seq ?_
    | (first | refine AW_sreg (by kernel_rfl) ?_ | refine AW_sdreg (by kernel_rfl) ?_ | refine AW_dregM ?_ | refine Nx_in ?_ | refine NxI_in (fun _ => ?_) | refine AW_region ?_ | refine AW_dreg ?_)
      simp (config := { maxSteps := 2000000 }) only [Kon, push_cast, reduceIte, Nat.reduceEqDiff, Nat.reduceAdd, Nat.reduceMul, Nat.reduceSub, Nat.reduceLT, Nat.reduceLeDiff, Int.reduceLT, Int.reduceLE, Int.reduceAdd, Int.reduceSub, Int.reduceNeg, Int.reduceToNat, Int.reduceEq, reduceCtorEq, *]
    | (first | refine SelK_mk (by kernel_rfl) ?_ | refine AW_skip ?_ | refine AW_exit ?_ | refine AW_ret (Back_retR ?_))
      simp only [push_cast, reduceIte, Nat.reduceEqDiff, Nat.reduceAdd, Nat.reduceMul, Nat.reduceSub, Nat.reduceLT, Nat.reduceLeDiff, Int.reduceLT, Int.reduceLE, Int.reduceAdd, Int.reduceSub, Int.reduceNeg, Int.reduceToNat, Int.reduceEq, reduceCtorEq, *]
    | exact IsB_mk
    | first | apply GQ_mkT | apply GQ_mkTN | apply GQ_mkF | apply GQ_mkFN | apply GQ_mkB | apply GQ_mkBF
    | refine AW_block ?_
    | first | refine AW_condT rfl ?_ | refine AW_condF rfl ?_ | refine AW_condAny rfl ?_ ?_ | refine AW_condB rfl (fun _ => ?_) (fun _ => ?_) | refine AW_condN rfl (fun _ => ?_) (fun _ => ?_)
    | ((first | refine ite_introN (fun _ => ?_) (fun _ => ?_) | refine ite_intro (fun _ => ?_) (fun _ => ?_)) <;> try simp (config := { maxSteps := 2000000 }) only [Kon, push_cast, reduceIte, Nat.reduceEqDiff, Nat.reduceAdd, Nat.reduceMul, Nat.reduceSub, Nat.reduceLT, Nat.reduceLeDiff, Int.reduceLT, Int.reduceLE, Int.reduceAdd, Int.reduceSub, Int.reduceNeg, Int.reduceToNat, Int.reduceEq, reduceCtorEq, *])
    | refine And.intro trivial ?_
    | refine And.intro (by omega) ?_
    | refine AW_cond rfl (fun _ => ?_) (fun _ => ?_)
    | refine And.intro ?_ ?_
  exact Fin_same h.out

end Go.Proofs.YtpednpndahgleaaGreatDoor.Av
