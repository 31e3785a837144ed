/- Each lowered operation does what it is said to do, part 6: cuts, append, copy. No program in sight. -/
import Derived.Test.YtpednpndahgleaaGreatDoorAvH
set_option linter.unusedSimpArgs false
set_option linter.unusedVariables false
namespace Go.Proofs.YtpednpndahgleaaGreatDoor.Av
open Go

section
variable {P : Program} {w0 : World} {S0 : Nat → Prop} {E : Env} {L : List Blk} {w : World} {T : Tm} {a : Act}

abbrev BndOk (a : Act) (x : Option Operand) (r : Option Int) : Prop := (x = none ∧ r = none) ∨ ∃ o k n, x = some o ∧ r = some n ∧ a.eval o = .int k n

theorem good_slV_nil {t e : TypeId} {v : Value} {lo hi : Option Operand} {lo' hi' : Option Int} {sz : Nat} (hR : Rel w0 S0 E L w) (hd : P.underlying t = some (.slice e)) (hs : szOf P e = some sz) (hv : VR E .nilsl v) (hlo : BndOk a lo lo') (hhi : BndOk a hi hi')
    (h0 : lo'.getD 0 = 0) (h1 : hi'.getD 0 = 0) : Good P w0 S0 E L .nilsl w (Instr.sliceAt t v (lo.map a.eval) (hi.map a.eval) none) := by
  simp only [VR] at hv; subst hv
  have hb := sliceBounds_run (P := P) (w := w) (b := true) (len := 0) (cap := 0) hlo hhi (by omega) (by simp only [Int.natCast_zero]; omega) (by simp only [Int.natCast_zero]; omega) (Nat.le_refl _)
  refine .same hR (v := .slice none 0 0) ?_ (by simp [VR])
  simp only [Instr.sliceAt, Instr.slice, Sem.run_bind, run_underlying hd, Result.andThen_ok, hb, szOf_run hs, Sem.run_pure]
  simp [h0, h1]

theorem good_slV {t e : TypeId} {v : Value} {lo hi : Option Operand} {lo' hi' : Option Int} {sz n : Nat} {x : AV} (hR : Rel w0 S0 E L w) (hd : P.underlying t = some (.slice e)) (hs : szOf P e = some sz) (hv : VR E x v) (hlo : BndOk a lo lo') (hhi : BndOk a hi hi')
    (h0 : 0 ≤ lo'.getD 0) (h1 : lo'.getD 0 ≤ hi'.getD n) :
    (∀ l cap, x = .sl l n cap → hi'.getD n ≤ n → Good P w0 S0 E L (.sl ((l.drop ((lo'.getD 0).toNat * sz)).take (((hi'.getD n).toNat - (lo'.getD 0).toNat) * sz)) ((hi'.getD n).toNat - (lo'.getD 0).toNat) (cap.map (· - (lo'.getD 0).toNat))) w
      (Instr.sliceAt t v (lo.map a.eval) (hi.map a.eval) none)) ∧
    (∀ i off cap, x = .lsl i off n cap sz → hi'.getD n ≤ ((cap.getD n : Nat) : Int) → Good P w0 S0 E L (.lsl i (off + (lo'.getD 0).toNat * sz) ((hi'.getD n).toNat - (lo'.getD 0).toNat) (cap.map (· - (lo'.getD 0).toNat)) sz) w
      (Instr.sliceAt t v (lo.map a.eval) (hi.map a.eval) none)) := by
  have runnil : ∀ p, n = 0 → hi'.getD n ≤ n → (Instr.sliceAt t (.slice p 0 0) (lo.map a.eval) (hi.map a.eval) none).run P w = .ok (.slice p 0 0) w := fun p hn h2 => by
    subst hn
    have hb := sliceBounds_run (P := P) (w := w) (b := true) (len := 0) (cap := 0) hlo hhi h0 h1 h2 (Nat.le_refl _)
    have z1 : (lo'.getD 0).toNat = 0 := by omega
    have z2 : (hi'.getD ((0 : Nat) : Int)).toNat = 0 := by omega
    simp only [Instr.sliceAt, Instr.slice, Sem.run_bind, run_underlying hd, Result.andThen_ok, hb, szOf_run hs, Sem.run_pure]
    rw [z1, z2]; cases p <;> simp
  have run : ∀ b o c, n ≤ c → hi'.getD n ≤ c → (Instr.sliceAt t (.slice (some ⟨b, o, none⟩) n c) (lo.map a.eval) (hi.map a.eval) none).run P w =
      .ok (.slice (some ⟨b, if c = (lo'.getD 0).toNat then o else o + (lo'.getD 0).toNat * sz, none⟩) ((hi'.getD n).toNat - (lo'.getD 0).toNat) (c - (lo'.getD 0).toNat)) w := fun b o c hc h2 => by
    have hb := sliceBounds_run (P := P) (w := w) (b := true) (len := n) (cap := c) hlo hhi h0 h1 h2 hc
    simp only [Instr.sliceAt, Instr.slice, Sem.run_bind, run_underlying hd, Result.andThen_ok, hb, szOf_run hs, Sem.run_pure]
    split <;> simp [Addr.add_mk]
  refine ⟨fun l cap ex h2 => ?_, fun i off cap ex h2 => ?_⟩ <;> subst ex <;> simp only [VR] at hv
  · obtain ⟨p, c, rfl, g1, g2, g3⟩ := hv
    rcases g3 with ⟨rfl, rfl, rfl⟩ | ⟨b, o, rfl, g3⟩
    · have z1 : (lo'.getD 0).toNat = 0 := by omega
      have z2 : (hi'.getD ((0 : Nat) : Int)).toNat = 0 := by omega
      refine .same hR (runnil p rfl h2) ?_
      simp only [VR]
      rw [z1, z2]
      refine ⟨p, 0, rfl, Nat.le_refl _, fun k hk => ?_, .inl ⟨rfl, rfl, by simp⟩⟩
      cases cap with
      | none => simp at hk
      | some q => simp at hk; rw [g2 q rfl]; exact hk
    refine .same hR (run b o c g1 (by omega)) ?_
    simp only [VR]
    refine ⟨_, _, rfl, by omega, fun k hk => ?_, .inr ⟨b, _, rfl, ?_⟩⟩
    · cases cap with
      | none => simp at hk
      | some q => simp at hk; rw [g2 q rfl]; exact hk
    · by_cases hq : c = (lo'.getD 0).toNat
      · have : (hi'.getD n).toNat - (lo'.getD 0).toNat = 0 := by omega
        rw [this]; simp [VRC]
      · rw [if_neg hq]
        exact (g3.drop _).take _
  · obtain ⟨c, rc, d, g0, rfl, g1, g2, g3, g4⟩ := hv
    have hrc : hi'.getD n ≤ rc := by
      cases cap with
      | none => simp at h2; omega
      | some q => simp at h2; rw [g3 q rfl]; exact h2
    refine .same hR (run c.blk d rc g2 hrc) ?_
    simp only [VR]
    refine ⟨c, _, _, g0, rfl, fun hne => ?_, by omega, fun k hk => ?_, ?_⟩
    · rw [if_neg (by omega), g1 (by omega)]; omega
    · cases cap with
      | none => simp at hk
      | some q => simp at hk; rw [g3 q rfl]; exact hk
    · have : (lo'.getD 0).toNat ≤ rc := by omega
      have h5 : (lo'.getD 0).toNat * sz + (rc - (lo'.getD 0).toNat) * sz = rc * sz := by rw [← Nat.add_mul]; congr 1; omega
      omega

theorem good_slV3 {t e : TypeId} {v : Value} {lo : Option Operand} {hi mx : Operand} {lo' : Option Int} {h m : Int} {kh km : IntKind} {sz n : Nat} {l : List AV} {cap : Option Nat} (hR : Rel w0 S0 E L w) (hd : P.underlying t = some (.slice e)) (hs : szOf P e = some sz) (hv : VR E (.sl l n cap) v) (hlo : BndOk a lo lo')
    (hhi : a.eval hi = .int kh h) (hmx : a.eval mx = .int km m) (h0 : 0 ≤ lo'.getD 0) (h1 : lo'.getD 0 ≤ h) (h2 : h ≤ n) (h3 : h ≤ m) (h4 : m ≤ n) :
    Good P w0 S0 E L (.sl ((l.drop ((lo'.getD 0).toNat * sz)).take ((h.toNat - (lo'.getD 0).toNat) * sz)) (h.toNat - (lo'.getD 0).toNat) (some (m.toNat - (lo'.getD 0).toNat))) w
      (Instr.sliceAt t v (lo.map a.eval) (some (a.eval hi)) (some (a.eval mx))) := by
  simp only [VR] at hv
  obtain ⟨p, c, rfl, g1, g2, g3⟩ := hv
  have hb : (Instr.sliceBounds true n c (lo.map a.eval) (some (a.eval hi)) (some (a.eval mx))).run P w = .ok ((lo'.getD 0).toNat, h.toNat, m.toNat) w := by
    simp only [Instr.sliceBounds, hhi, hmx, Sem.run_bind, if_true]
    rw [sliceBound_run (by omega) (by omega)]
    simp only [Result.andThen_ok, Sem.run_bind]
    rw [sliceBound_run (by omega) (by omega)]
    simp only [Result.andThen_ok]
    rcases hlo with ⟨rfl, rfl⟩ | ⟨o1, k1, n1, rfl, rfl, e1⟩
    · simp
    · simp only [Option.getD_some] at h0 h1
      simp only [Option.map_some, e1, Sem.run_bind]
      rw [sliceBound_run (by omega) (by omega)]
      simp
  rcases g3 with ⟨rfl, rfl, rfl⟩ | ⟨b, o, rfl, g3⟩
  · have z1 : (lo'.getD 0).toNat = 0 := by omega
    have z2 : h.toNat = 0 := by omega
    have z3 : m.toNat = 0 := by omega
    refine .same hR (v := .slice p 0 0) ?_ ?_
    · simp only [Instr.sliceAt, Instr.slice, Sem.run_bind, run_underlying hd, Result.andThen_ok, hb, szOf_run hs, Sem.run_pure]
      rw [z1, z2, z3]; cases p <;> simp
    · simp only [VR]
      rw [z1, z2, z3]
      exact ⟨p, 0, rfl, Nat.le_refl _, by simp, .inl ⟨rfl, rfl, by simp⟩⟩
  refine .same hR (v := .slice (some ⟨b, if m.toNat = (lo'.getD 0).toNat then o else o + (lo'.getD 0).toNat * sz, none⟩) (h.toNat - (lo'.getD 0).toNat) (m.toNat - (lo'.getD 0).toNat)) ?_ ?_
  · simp only [Instr.sliceAt, Instr.slice, Sem.run_bind, run_underlying hd, Result.andThen_ok, hb, szOf_run hs, Sem.run_pure]
    split <;> simp [Addr.add_mk]
  · simp only [VR]
    refine ⟨_, _, rfl, by omega, by simp, .inr ⟨b, _, rfl, ?_⟩⟩
    by_cases hq : m.toNat = (lo'.getD 0).toNat
    · have : h.toNat - (lo'.getD 0).toNat = 0 := by omega
      rw [this]; simp [VRC]
    · rw [if_neg hq]
      exact (g3.drop _).take _

theorem good_slA {t e : TypeId} {v : Value} {lo hi : Option Operand} {lo' hi' : Option Int} {sz n : Nat} {x : AV} (hR : Rel w0 S0 E L w) (hd : P.underlying t = some (.array n e)) (hs : szOf P e = some sz) (hv : VR E x v) (hlo : BndOk a lo lo') (hhi : BndOk a hi hi')
    (h0 : 0 ≤ lo'.getD 0) (h1 : lo'.getD 0 ≤ hi'.getD n) (h2 : hi'.getD n ≤ n) :
    (∀ l off, x = .iptr l off → Good P w0 S0 E L (.sl ((l.drop (off + (lo'.getD 0).toNat * sz)).take (((hi'.getD n).toNat - (lo'.getD 0).toNat) * sz)) ((hi'.getD n).toNat - (lo'.getD 0).toNat) (some (n - (lo'.getD 0).toNat))) w
      (Instr.sliceAt t v (lo.map a.eval) (hi.map a.eval) none)) ∧
    (∀ i off l, x = .ptr i off → L[i]? = some (.cells l) → off + n * sz ≤ l.length → Good P w0 S0 E L (.lsl i (off + (lo'.getD 0).toNat * sz) ((hi'.getD n).toNat - (lo'.getD 0).toNat) (some (n - (lo'.getD 0).toNat)) sz) w
      (Instr.sliceAt t v (lo.map a.eval) (hi.map a.eval) none)) := by
  have run : ∀ b o, (Instr.sliceAt t (.pointer (some ⟨b, o, none⟩)) (lo.map a.eval) (hi.map a.eval) none).run P w =
      .ok (.slice (some ⟨b, if n = (lo'.getD 0).toNat then o else o + (lo'.getD 0).toNat * sz, none⟩) ((hi'.getD n).toNat - (lo'.getD 0).toNat) (n - (lo'.getD 0).toNat)) w := fun b o => by
    have hb := sliceBounds_run (P := P) (w := w) (b := false) (len := n) (cap := n) hlo hhi h0 h1 h2 (Nat.le_refl _)
    simp only [Instr.sliceAt, Sem.run_bind, run_underlying hd, Result.andThen_ok, Instr.sureAddr, hb, szOf_run hs, Sem.run_pure]
    split <;> simp [Addr.add_mk]
  refine ⟨fun l off ex => ?_, fun i off l ex hL hlt => ?_⟩ <;> subst ex <;> simp only [VR] at hv
  · obtain ⟨b, o, rfl, g3⟩ := hv
    refine .same hR (run b _) ?_
    simp only [VR]
    refine ⟨_, _, rfl, by omega, by simp, .inr ⟨b, _, rfl, ?_⟩⟩
    by_cases hq : n = (lo'.getD 0).toNat
    · have : (hi'.getD n).toNat - (lo'.getD 0).toNat = 0 := by omega
      rw [this]; simp [VRC]
    · rw [if_neg hq, Nat.add_assoc]
      exact (g3.drop _).take _
  · obtain ⟨c, g0, rfl⟩ := hv
    obtain ⟨c', cs, ty, fr, k1, k2, k3, k4, k5, k6⟩ := hR.blk i _ hL
    rw [g0] at k1; cases k1
    refine .same hR (run c.blk _) ?_
    simp only [VR]
    refine ⟨c, _, _, g0, rfl, fun hne => ?_, by omega, by simp, ?_⟩
    · rw [if_neg (by omega)]; omega
    · have h5 : (lo'.getD 0).toNat * sz + (n - (lo'.getD 0).toNat) * sz = n * sz := by rw [← Nat.add_mul]; congr 1; omega
      omega

/-! append -/
theorem zeroCells_size (z : Array Value) (n : Nat) : (Builtin.zeroCells z n).size = n * z.size := by simp [Builtin.zeroCells]

theorem Rel.draw (hR : Rel w0 S0 E L w) (n : Nat) : Rel w0 S0 E L { w with drawn := n } :=
  ⟨hR.mem, fun i k hk => BRel.world (fun _ _ => rfl) (fun _ _ _ _ => rfl) (hR.blk i k hk), hR.fresh, hR.own, hR.inj, hR.tkfresh, hR.tkown, hR.tkloc, hR.tkinj, hR.frame, hR.size, hR.os, hR.tape, hR.output, hR.glob, hR.gsz⟩

/-- What append does where there is room. -/
theorem append_room {t u e ty : TypeId} {sz n m c : Nat} {base : Option Addr} {x : Value} {cs : List Value} (ht : P.underlying t = some (.slice e)) (hu : (∃ e', P.underlying u = some (.slice e')) ∨ P.underlying u = some .string) (hs : szOf P e = some sz)
    (h1 : (Builtin.lenOf x).run P w = .ok n w) (h2 : (Builtin.firstCells sz n x).run P w = .ok ⟨cs⟩ w) (hroom : m + n ≤ c) :
    (Builtin.append_ #[t, u] ty #[.slice base m c, x]).run P w = match base with
      | none => .ok (.slice base (m + n) c) w
      | some b => ((storeCells (b.add (m * sz)) cs).run P w).andThen fun _ w' => .ok (.slice base (m + n) c) w' := by
  unfold Builtin.append_
  rcases hu with ⟨e', hu⟩ | hu
  all_goals
    simp only [List.getElem?_toArray, List.getElem?_cons_zero, List.getElem?_cons_succ, Sem.run_bind, run_underlying ht, run_underlying hu, Result.andThen_ok, Sem.run_pure, szOf_run hs, Bool.false_eq_true, if_false, h1, if_pos hroom, Bool.not_false, if_true, h2]
    cases base with
    | none => simp
    | some b => simp

theorem append_grow {t u e ty : TypeId} {sz by' n m c : Nat} {base : Option Addr} {x z : Value} {cs os : List Value} (ht : P.underlying t = some (.slice e)) (hu : (∃ e', P.underlying u = some (.slice e')) ∨ P.underlying u = some .string) (hs : szOf P e = some sz)
    (hb : byOf P e = some by') (hz : ∀ W, (zeroValue e).run P W = .ok z W) (hzs : z.cells.size = sz)
    (h1 : (Builtin.lenOf x).run P w = .ok n w) (h2 : (Builtin.firstCells sz n x).run P { w with drawn := w.drawn + 1 } = .ok ⟨cs⟩ { w with drawn := w.drawn + 1 }) (h3 : (Builtin.firstCells sz m (.slice base m c)).run P { w with drawn := w.drawn + 1 } = .ok ⟨os⟩ { w with drawn := w.drawn + 1 })
    (hno : c < m + n) (hbig : (m + n) * by' ≤ 140737488355328) (hbig2 : m + n ≤ 140737488355328) :
    ∃ nc rest, m + n ≤ nc ∧ rest.length = (nc - (m + n)) * sz ∧ (Builtin.append_ #[t, u] ty #[.slice base m c, x]).run P w =
      .ok (.slice (some ⟨w.heap.size, 0, none⟩) (m + n) nc) { w with heap := w.heap.push (.cells ⟨(os ++ cs) ++ rest⟩ e), drawn := w.drawn + 1 } := by
  obtain ⟨nc, hnc⟩ : ∃ nc, nc = (Question.appendCap (m + n) c e).cut (w.tape w.drawn (.appendCap (m + n) c e)) := ⟨_, rfl⟩
  have hge : m + n ≤ nc := by rw [hnc]; simp [Question.cut]
  refine ⟨nc, (Builtin.zeroCells z.cells (nc - (m + n))).toList, hge, by simp [zeroCells_size, hzs], ?_⟩
  obtain ⟨i, hi, hib⟩ : ∃ i, P.info? e = some i ∧ i.bytes = by' := by unfold byOf at hb; simpa using hb
  have hty : ∀ W, (typeInfo e).run P W = .ok i W := fun W => by simp [typeInfo, hi]
  have hfit := growslice_fits (need := m + n) (old := c) (bytes := by') hno hbig
  have hmax : IntKind.i64.max = 9223372036854775807 := by decide
  have n1 : ¬ (((m + n : Nat) : Int) > IntKind.i64.max ∧ (False ∨ i.bytes = 0)) := by rw [hmax]; omega
  have n2 : ¬ (Builtin.nextslicecap (m + n) c * i.bytes > 2 ^ 48) := by rw [hib]; omega
  unfold Builtin.append_
  rcases hu with ⟨e', hu⟩ | hu
  all_goals
    simp only [List.getElem?_toArray, List.getElem?_cons_zero, List.getElem?_cons_succ, Sem.run_bind, run_underlying ht, run_underlying hu, Result.andThen_ok, Sem.run_pure, szOf_run hs, Bool.false_eq_true, if_false, h1, if_neg (show ¬ (m + n ≤ c) by omega), hty, Bool.not_false, if_true]
    simp only [if_neg n1, if_neg n2, hty, Sem.run_pure, Result.andThen_ok, Sem.run_bind, run_choose, Question.forced, Bool.false_eq_true, if_false, ← hnc, run_askRoom, h3, h2, hz, newRow, run_newObj]
    have harr : ((⟨os⟩ : Array Value) ++ (⟨cs⟩ : Array Value) ++ Builtin.zeroCells z.cells (nc - (m + n))) = ⟨(os ++ cs) ++ (Builtin.zeroCells z.cells (nc - (m + n))).toList⟩ := by
      apply Array.ext'
      simp
    rw [harr]


/-- A run of append onto a slice that stays as it reads, where it must grow. -/
theorem good_app {own : Nat} {t u e ty : TypeId} {sz by' : Nat} {z : List AV} {x y av : AV} {p v : Value} {c : Prop} {L' : List Blk} (hR : Rel w0 S0 E L w) (ht : P.underlying t = some (.slice e)) (hu : (∃ e', P.underlying u = some (.slice e')) ∨ P.underlying u = some .string)
    (hs : szOf P e = some sz) (hb : byOf P e = some by') (hz : zOf P e = some z) (hzl : z.length = sz) (hx : VR E x p) (hy : VR E y v) (h : app own sz by' L x y = some (c, av, L')) (hc : c) :
    Good P w0 S0 E L' av w (Builtin.append_ #[t, u] ty #[p, v]) := by
  have hR1 : Rel w0 S0 E L { w with drawn := w.drawn + 1 } := hR.draw _
  obtain ⟨zv, hz', hzr, _⟩ := zOf_run' (E := E) hz
  have hzs : zv.cells.size = sz := by have := hzr.length; simpa [hzl] using this
  unfold app at h
  split at h
  · cases h
  rename_i c1 new n hel
  -- what the new block's owner sees of it
  have fresh : ∀ (olds : List AV) (os cs : List Value) (m nc : Nat) (rest : List Value), VRL E olds os → VRL E new cs → olds.length = m * sz → new.length = n * sz → m + n ≤ nc → rest.length = (nc - (m + n)) * sz → ∀ (L0 : List Blk), Rel w0 S0 E L0 { w with drawn := w.drawn + 1 } →
      (∃ E', E.le E' ∧ VR E' (.lsl L0.length 0 (m + n) none sz) (.slice (some ⟨w.heap.size, 0, none⟩) (m + n) nc) ∧ Rel w0 S0 E' (L0 ++ [.cells (olds ++ new)]) { w with heap := w.heap.push (.cells ⟨(os ++ cs) ++ rest⟩ e), drawn := w.drawn + 1 }) := by
    intro olds os cs m nc rest ho hn hol hnl hge hr L0 hL0
    have hon := ho.append hn
    · obtain ⟨E', r1, r2, r3⟩ := push_cells hL0 hon rest e (0, 0) (by simp)
      refine ⟨E', r1, ?_, r3⟩
      simp only [VR]
      refine ⟨_, nc, 0, r2, rfl, by simp, hge, by simp, ?_⟩
      have h1 := ho.length
      have h2 := hn.length
      have : (m + n) * sz + (nc - (m + n)) * sz = nc * sz := by rw [← Nat.add_mul]; congr 1; omega
      have h3 : (m + n) * sz = m * sz + n * sz := Nat.add_mul _ _ _
      simp only [List.length_append]
      omega
  -- a new row: as it stays, and where there is room behind it
  have grown : ∀ (olds : List AV) (os cs : List Value) (m nc : Nat) (rest : List Value), VRL E olds os → VRL E new cs → olds.length = m * sz → new.length = n * sz → m + n ≤ nc → rest.length = (nc - (m + n)) * sz →
      ∃ E', E.le E' ∧ Rel w0 S0 E' L { w with heap := w.heap.push (.cells ⟨(os ++ cs) ++ rest⟩ e), drawn := w.drawn + 1 } ∧ VRC E' (olds ++ AV.frzL new) w.heap.size 0 ∧ E'.tok = E.tok ∧
        ∀ i, (L ++ [Blk.dead])[i]? ≠ none → Room w0 S0 E' L { w with heap := w.heap.push (.cells ⟨(os ++ cs) ++ rest⟩ e), drawn := w.drawn + 1 } i (m + n) sz (some ⟨w.heap.size, 0, nc * sz⟩) := by
    intro olds os cs m nc rest ho hn hol hnl hge hr
    have hn' := VRL.frz _ _ hn
    have hon := ho.append hn'
    obtain ⟨E', r1, r2, r3, r4, r5, r6⟩ := hR1.imm' (os ++ cs) e (olds ++ AV.frzL new) hon rest (0, 0)
    have h1 := ho.length
    have h2 := hn.length
    have h4 : (m + n) * sz + (nc - (m + n)) * sz = nc * sz := by rw [← Nat.add_mul]; congr 1; omega
    have h3 : (m + n) * sz = m * sz + n * sz := Nat.add_mul _ _ _
    refine ⟨E', r1, r2, r3, r5, fun i _ k hk => ?_⟩
    cases hk
    refine ⟨⟨_, e, (0, 0), by simp; rfl, ?_, by simp⟩, fun o ho' => r6 o (by simp only [List.length_append]; omega), .inr hR.size, fun j k' c hj hl hcj => ?_, fun j n' sz' t' k' _ hj ht' hk' => ?_⟩
    · simp only [List.size_toArray, List.length_append]; omega
    · have := hR.loc_lt hj hl (by rw [← r4]; exact hcj)
      simp only; omega
    · have := hR.tok_lt hj (by rw [← r5]; exact ht') hk'
      simp only; omega
  have keep : ∀ {i : Nat} {k : Blk}, L[i]? = some k → (L ++ [Blk.dead])[i]? ≠ none := fun {i k} hi => by
    have := (List.getElem?_eq_some_iff.1 hi).1
    simp; omega
  have onew : (AV.frzL new).length = new.length := AV.frzL_length _
  split at h
  · -- onto a slice that stays, of a known capacity
    rename_i l m k
    have hx0 := hx
    simp only [VR] at hx0
    obtain ⟨pb, c', rfl, g1, g2, g3⟩ := hx0
    have := g2 k rfl; subst this
    by_cases hown2 : own = 2
    · subst hown2
      simp only [reduceIte, Nat.reduceEqDiff] at h
      split at h
      · rename_i hn0; subst hn0
        simp only [Option.some.injEq, Prod.mk.injEq] at h; obtain ⟨rfl, rfl, rfl⟩ := h
        obtain ⟨h1, h2, cs, h3, h4⟩ := elems_cells (P := P) hR hy hel hc.1
        have : cs = [] := by have := h3.length; simp at h2; simpa [h2] using this
        subst this
        refine .same hR (v := .slice pb m c') ?_ hx
        rw [append_room (ty := ty) ht hu hs h1 h4 (by omega)]
        cases pb <;> simp [storeCells]
      · rename_i hn0
        simp only [Option.some.injEq, Prod.mk.injEq, appOwn] at h
        obtain ⟨rfl, rfl, rfl⟩ := h
        obtain ⟨k1, k2, k3, k4, k5⟩ := hc
        subst k2
        obtain ⟨h1, h2, _, _, _⟩ := elems_cells (P := P) hR hy hel k1
        obtain ⟨_, _, cs, h3, h4⟩ := elems_cells (P := P) hR1 hy hel k1
        obtain ⟨_, _, os, q3, q4⟩ := elems_cells (P := P) (sz := sz) (c := l.length = m * sz) (l := l) (n := m) hR1 hx rfl k3
        obtain ⟨nc, rest, j1, j2, j3⟩ := append_grow (P := P) (w := w) (ty := ty) (m := m) (c := m) (base := pb) (os := os) ht hu hs hb hz' hzs h1 h4 q4 (by omega) k4 k5
        obtain ⟨E1, a1, a2, a3⟩ := fresh l os cs m nc rest q3 h3 k3 h2 j1 j2 L hR1
        exact ⟨E1, _, _, j3, a1, a2, a3⟩
    simp only [if_neg hown2] at h
    have hc1 : c1 ∧ m = c' ∧ l.length = m * sz ∧ (m + n) * by' ≤ 140737488355328 ∧ m + n ≤ 140737488355328 := by
      split at h <;> simp only [Option.some.injEq, Prod.mk.injEq] at h <;> obtain ⟨rfl, _⟩ := h <;> exact hc
    obtain ⟨k1, k2, k3, k4, k5⟩ := hc1
    subst k2
    obtain ⟨h1, h2, cs0, h30, h40⟩ := elems_cells (P := P) hR hy hel k1
    have hmul : (m + n) * sz = m * sz + n * sz := Nat.add_mul _ _ _
    rcases Nat.eq_zero_or_pos n with hn0 | hn0
    · -- nothing is added
      subst hn0
      have hnew : new = [] := by simpa using h2
      subst hnew
      have : cs0 = [] := by have := h30.length; simpa using this
      subst this
      have hrun : (Builtin.append_ #[t, u] ty #[.slice pb m m, v]).run P w = .ok (.slice pb m m) w := by
        rw [append_room (ty := ty) ht hu hs h1 h40 (by omega)]
        cases pb <;> simp [storeCells]
      split at h <;> simp only [Option.some.injEq, Prod.mk.injEq] at h <;> obtain ⟨rfl, rfl, rfl⟩ := h
      · obtain ⟨r1, r2⟩ := hR.addtok (n := m + 0) (sz := sz) (lc := none) Room_none
        refine ⟨_, _, _, hrun, r1, ?_, r2⟩
        simp only [VR, AV.frzL, List.append_nil, Nat.add_zero]
        refine ⟨pb, m, rfl, Nat.le_refl _, k3, g3.imp id fun ⟨b, o, q1, q2⟩ => ⟨b, o, q1, VRC.mono r1 _ _ _ q2⟩, ⟨m + 0, sz, none⟩, by simp, by simp, fun _ => ⟨rfl, fun _ => rfl, by simp⟩⟩
      · refine .same hR hrun ?_
        simp only [VR, AV.frzL, List.append_nil, Nat.add_zero]
        exact ⟨pb, m, rfl, Nat.le_refl _, by simp, g3⟩
    obtain ⟨_, _, cs, h3, h4⟩ := elems_cells (P := P) hR1 hy hel k1
    obtain ⟨_, _, os, q3, q4⟩ := elems_cells (P := P) (sz := sz) (c := l.length = m * sz) (l := l) (n := m) hR1 hx rfl k3
    obtain ⟨nc, rest, j1, j2, j3⟩ := append_grow (P := P) (w := w) (ty := ty) (m := m) (c := m) (base := pb) (os := os) ht hu hs hb hz' hzs h1 h4 q4 (by omega) k4 k5
    obtain ⟨E2, b1, b2, b3, b5, b4⟩ := grown l os cs m nc rest q3 h3 k3 h2 j1 j2
    split at h <;> simp only [Option.some.injEq, Prod.mk.injEq] at h <;> obtain ⟨rfl, rfl, rfl⟩ := h
    · obtain ⟨r1, r2⟩ := b2.addtok (n := m + n) (sz := sz) (b4 L.length (by simp))
      refine ⟨_, _, _, j3, b1.trans r1, ?_, r2⟩
      simp only [VR]
      exact ⟨_, nc, rfl, j1, by simp only [List.length_append, onew]; omega, .inr ⟨_, 0, rfl, VRC.mono r1 _ _ _ b3⟩, ⟨m + n, sz, some ⟨w.heap.size, 0, nc * sz⟩⟩, by simp, by simp, fun _ => ⟨rfl, by simp, fun k hk => by cases hk; exact ⟨rfl, Nat.le_refl _⟩⟩⟩
    · refine ⟨E2, _, _, j3, b1, ?_, b2⟩
      simp only [VR]
      exact ⟨_, nc, rfl, j1, by simp, .inr ⟨_, 0, rfl, b3⟩⟩
  · -- onto a row that grows
    rename_i l m i s
    split at h
    · rename_i m' s' hL
      simp only [Option.some.injEq, Prod.mk.injEq] at h
      obtain ⟨rfl, rfl, rfl⟩ := h
      obtain ⟨k1, kone, rfl, rfl, rfl, k4, k5⟩ := hc
      obtain ⟨hsl, k3⟩ := hx.gsl_sl
      have hx0 := hx
      simp only [VR] at hx0
      obtain ⟨pb, rc, rfl, g1, _, g3, tk, g4, g5, g6⟩ := hx0
      obtain ⟨tk', e1, e2, e3, e4⟩ := hR.blk i _ hL
      rw [g4] at e1; cases e1
      obtain ⟨g7, g8, g9⟩ := g6 e2.symm
      obtain ⟨h1, h2, cs0, h30, h40⟩ := elems_cells (P := P) hR hy hel k1
      have hmul : (m' + n) * s' = m' * s' + n * s' := Nat.add_mul _ _ _
      rcases Nat.eq_zero_or_pos n with hn0 | hn0
      · subst hn0
        have hnew : new = [] := by simpa using h2
        subst hnew
        have : cs0 = [] := by have := h30.length; simpa using this
        subst this
        have hrun : (Builtin.append_ #[t, u] ty #[.slice pb m' rc, v]).run P w = .ok (.slice pb m' rc) w := by
          rw [append_room (ty := ty) ht hu hs h1 h40 (by omega)]
          cases pb <;> simp [storeCells]
        refine .same ?_ hrun ?_
        · have : L.set i (.spare (m' + 0) s') = L := by
            apply List.ext_getElem?
            intro j
            rw [List.getElem?_set]
            split
            · rename_i e; subst e
              rw [hL]
              have := (List.getElem?_eq_some_iff.1 hL).1
              simp [this]
            · rfl
          rw [this]; exact hR
        · simpa [AV.frzL] using hx
      by_cases hroom : m' + n ≤ rc
      · -- there is room
        have hloc : ∃ k, tk.loc = some k := by
          rcases hq : tk.loc with _ | k
          · have := g8 hq; omega
          · exact ⟨k, rfl⟩
        obtain ⟨k, hk⟩ := hloc
        obtain ⟨rfl, hkc⟩ := g9 k hk
        obtain ⟨cs1, ty1, fr1, b1, b2, b3⟩ := e4 k hk
        have hcs := h30.length
        have hmr : (m' + n) * s' ≤ rc * s' := Nat.mul_le_mul_right _ hroom
        obtain ⟨w', cs', r1, r2, r3, r4, r5, r6, r7, r8, r9⟩ := storeCells_ok (P := P) (b := k.blk) (ty := ty1) (fr := fr1) cs0 w cs1 (0 + m' * s') 0 b1 (fun v hv => by
          obtain ⟨j, hj⟩ := List.mem_iff_getElem?.1 hv
          have hj' : j < new.length := by have := (List.getElem?_eq_some_iff.1 hj).1; omega
          obtain ⟨y, h7, h8⟩ := h30.get (List.getElem?_eq_getElem hj')
          rw [hj] at h7; cases h7
          exact h8.one (List.all_eq_true.1 kone _ (List.getElem_mem hj'))) (by omega) (fun o h7 h8 => b3 o (by omega) (by omega))
        have hrun : (Builtin.append_ #[t, u] ty #[.slice (some ⟨k.blk, 0, none⟩) m' rc, v]).run P w = .ok (.slice (some ⟨k.blk, 0, none⟩) (m' + n) rc) w' := by
          rw [append_room (ty := ty) ht hu hs h1 h40 hroom]
          simp only [Addr.add_mk, r1, Result.andThen_ok]
        obtain ⟨E', q1, q2, q3, q4⟩ := hR.tokwrite (w' := w') hL g4 hk (n := m' + n) (by omega) b1 r2 r3 r4 r5 r6 r7 r8 (fun o ho => by rw [r9, if_neg (by omega)])
        refine ⟨E', _, _, hrun, q1, ?_, q2⟩
        simp only [VR]
        refine ⟨_, rc, rfl, hroom, by simp only [List.length_append, onew]; omega, .inr ⟨k.blk, 0, rfl, VRC.of_get fun j a ha => ?_⟩, _, q3, Nat.le_refl _, fun _ => ⟨rfl, by simp, fun k' hk' => by cases hk'; exact ⟨rfl, hkc⟩⟩⟩
        rw [List.getElem?_append] at ha
        split at ha
        · rename_i hj
          rcases g3 with ⟨_, _, e⟩ | ⟨b, o, e, g3⟩
          · subst e; simp at hj
          · cases e
            obtain ⟨y, f1, f2⟩ := (VRC.mono q1 _ _ _ g3).get ha
            exact ⟨y, f1, f2⟩
        · rename_i hj
          obtain ⟨y, f1, f2⟩ := (VRL.frz _ _ h30).get ha
          have hlt := (List.getElem?_eq_some_iff.1 ha).1
          refine ⟨y, ?_, VR.mono q1 _ _ f2⟩
          rw [q4 _ (by omega) (by omega), r9, if_pos (by omega), ← f1]
          congr 1; omega
      · -- it grows
        obtain ⟨_, _, cs, h3, h4⟩ := elems_cells (P := P) hR1 hy hel k1
        obtain ⟨_, _, os, q3, q4⟩ := elems_cells (P := P) (sz := s') (c := l.length = m' * s') (l := l) (n := m') hR1 hsl rfl k3
        obtain ⟨nc, rest, j1, j2, j3⟩ := append_grow (P := P) (w := w) (ty := ty) (m := m') (c := rc) (base := pb) (os := os) ht hu hs hb hz' hzs h1 h4 q4 (by omega) k4 k5
        obtain ⟨E2, b1, b2, b3, b5, b4⟩ := grown l os cs m' nc rest q3 h3 k3 h2 j1 j2
        obtain ⟨r1, r2⟩ := b2.settok (n := m' + n) (sz := s') ⟨_, _, hL⟩ (fun t2 ht2 => by
          rw [b5, g4] at ht2; cases ht2; omega) (b4 i (keep hL))
        refine ⟨_, _, _, j3, b1.trans r1, ?_, r2⟩
        simp only [VR]
        exact ⟨_, nc, rfl, j1, by simp only [List.length_append, onew]; omega, .inr ⟨_, 0, rfl, VRC.mono r1 _ _ _ b3⟩, ⟨m' + n, s', some ⟨w.heap.size, 0, nc * s'⟩⟩, by simp, by simp, fun _ => ⟨rfl, by simp, fun k hk => by cases hk; exact ⟨rfl, Nat.le_refl _⟩⟩⟩
    · cases h
  · -- onto a slice of the call's own
    rename_i i off m cap s
    split at h
    · rename_i l hL
      split at h
      · rename_i hsz; subst hsz
        simp only [Option.some.injEq, Prod.mk.injEq, appOwn] at h
        obtain ⟨rfl, rfl, rfl⟩ := h
        obtain ⟨k1, kone, k2, k3, k4⟩ := hc
        have hx0 := hx
        simp only [VR] at hx0
        obtain ⟨cl, rc, d, g0, rfl, g1, g2, g3, g4⟩ := hx0
        obtain ⟨h1, h2, cs, h3, h4⟩ := elems_cells (P := P) hR hy hel k1
        by_cases hroom : m + n ≤ rc
        · -- there is room
          have hold : ((l.drop off).take (m * s)).length = m * s := by simp; omega
          obtain ⟨cl', cs0, ty0, fr, b1, b2, b3, b4, b5, b6⟩ := hR.blk i _ hL
          rw [g0] at b1; cases b1
          have hown := hR.own i _ cl hL rfl g0
          have hcs := h3.length
          have hmul : (m + n) * s = m * s + n * s := Nat.add_mul _ _ _
          have hmr : (m + n) * s ≤ rc * s := Nat.mul_le_mul_right _ hroom
          have hd : (some (⟨cl.blk, d, none⟩ : Addr)).map (·.add (m * s)) = some ⟨cl.blk, d + m * s, none⟩ := by simp [Addr.add_mk]
          -- the run of the stores
          obtain ⟨w', cs', r1, r2, r3, r4, r5, r6, r7, r8, r9⟩ : ∃ w' cs', (storeCells ((⟨cl.blk, d, none⟩ : Addr).add (m * s)) cs).run P w = .ok () w' ∧ w'.heap.size = w.heap.size ∧ (∀ k, k ≠ cl.blk → w'.heap[k]? = w.heap[k]?) ∧ w'.os = w.os ∧ w'.tape = w.tape ∧ w'.output = w.output ∧
              w'.heap[cl.blk]? = some (.cells cs' ty0 fr) ∧ cs'.size = cs0.size ∧ ∀ k, cs'[k]? = if cl.off + off + m * s ≤ k ∧ k < cl.off + off + m * s + cs.length then cs[k - (cl.off + off + m * s)]? else cs0[k]? := by
            by_cases hrc : rc = 0
            · have hcs0 : cs = [] := by
                have h0 : n * s = 0 := by have : n = 0 := by omega
                                          rw [this]; simp
                rw [h2, h0] at hcs
                simpa using hcs
              subst hcs0
              exact ⟨w, cs0, by simp [storeCells], rfl, fun _ _ => rfl, rfl, rfl, rfl, b2, rfl, fun k => by rw [if_neg (by simp)]⟩
            · have hd := g1 hrc
              subst hd
              rw [Addr.add_mk]
              have := storeCells_ok (P := P) (b := cl.blk) (ty := ty0) (fr := fr) cs w cs0 (cl.off + off + m * s) 0 b2 (fun v hv => by
                obtain ⟨j, hj⟩ := List.mem_iff_getElem?.1 hv
                have hj' : j < new.length := by have := (List.getElem?_eq_some_iff.1 hj).1; omega
                obtain ⟨y, h7, h8⟩ := h3.get (List.getElem?_eq_getElem hj')
                rw [hj] at h7; cases h7
                exact h8.one (List.all_eq_true.1 kone _ (List.getElem_mem hj'))) (by omega) (fun k h7 h8 => b6 k (by omega) (by omega))
              simpa using this
          have hrun : (Builtin.append_ #[t, u] ty #[.slice (some ⟨cl.blk, d, none⟩) m rc, v]).run P w = .ok (.slice (some ⟨cl.blk, d, none⟩) (m + n) rc) w' := by
            rw [append_room (ty := ty) ht hu hs h1 h4 hroom]
            simp only [r1, Result.andThen_ok]
          have hk := hR.turn (w' := w') (k' := .dead) hL rfl g0 r2 r3 r4 r5 r6 (by simp [BRel]) (by simp)
          have hk2 := hk.add (.cells ((l.drop off).take (m * s) ++ new)) ⟨cl.blk, cl.off + off, cl.size⟩ hown.1 hown.2 (fun j k' d' hj hl' hd' => by
            rw [List.getElem?_set] at hj
            split at hj
            · split at hj
              · cases hj; simp [Blk.live] at hl'
              · cases hj
            · rename_i hne
              intro e
              exact hne (hR.inj _ _ _ _ _ _ hL rfl hj hl' g0 hd' e.symm)) rfl (fun j n2 s2 t2 d hj ht2 hd2 => hR.tkloc j n2 s2 t2 d i _ cl (spare_set (by simp) hj) ht2 hd2 hL rfl g0) (by
            refine ⟨⟨cl.blk, cl.off + off, cl.size⟩, cs', ty0, fr, by simp, r7, by simpa using r8.trans b3, by simp only [List.length_append, hold]; omega, fun j a' ha => ?_, fun o h5 h6 => b6 o (by simp at h5; omega) h6⟩
            have hmono : ∀ x y, VR E x y → VR { E with loc := fun i' => if i' = (L.set i .dead).length then some ⟨cl.blk, cl.off + off, cl.size⟩ else E.loc i' } x y := fun x y hxy => VR.mono (Env.le_loc _ (hk.fresh _ (Nat.le_refl _))) _ _ hxy
            show ∃ v, cs'[cl.off + off + j]? = some v ∧ _
            rw [r9]
            rw [List.getElem?_append] at ha
            rw [hold] at ha
            by_cases hj : j < m * s
            · rw [if_pos hj, List.getElem?_take_of_lt hj, List.getElem?_drop] at ha
              rw [if_neg (by omega)]
              obtain ⟨x, e1, e2⟩ := b5 _ _ ha
              exact ⟨x, by rw [← e1]; congr 1; omega, hmono _ _ e2⟩
            · rw [if_neg hj] at ha
              have hlt := (List.getElem?_eq_some_iff.1 ha).1
              rw [if_pos (by omega)]
              obtain ⟨x, e1, e2⟩ := h3.get ha
              exact ⟨x, by rw [← e1]; congr 1; omega, hmono _ _ e2⟩)
          refine ⟨_, _, w', hrun, hk2.1, ?_, by simpa using hk2.2⟩
          simp only [VR]
          refine ⟨⟨cl.blk, cl.off + off, cl.size⟩, rc, d, by simp, rfl, fun hne => by simpa using g1 hne, hroom, by simp, ?_⟩
          simpa using g4
        · obtain ⟨_, _, cs, h3, h4⟩ := elems_cells (P := P) hR1 hy hel k1
          obtain ⟨_, q2, os, q3, q4⟩ := elems_cells (P := P) (sz := s) (c := off + m * s ≤ l.length) (l := (l.drop off).take (m * s)) (n := m) hR1 hx (by simp only [elems, hL]) k2
          obtain ⟨nc, rest, j1, j2, j3⟩ := append_grow (P := P) (w := w) (ty := ty) (m := m) (c := rc) (base := some ⟨cl.blk, d, none⟩) (os := os) ht hu hs hb hz' hzs h1 h4 q4 (by omega) k3 k4
          have hk : Rel w0 S0 E (L.set i .dead) { w with drawn := w.drawn + 1 } := hR1.kill (by simp) fun j k hk => by
            rw [List.getElem?_set] at hk
            split at hk
            · split at hk
              · cases hk; exact .inl rfl
              · cases hk
            · exact .inr hk
          obtain ⟨E1, a1, a2, a3⟩ := fresh _ os cs m nc rest q3 h3 q2 h2 j1 j2 (L.set i .dead) hk
          exact ⟨E1, _, _, j3, a1, by simpa using a2, a3⟩
      · cases h
    · cases h
  · cases h

/-- append of so many zero values, where the row must grow. -/
theorem good_appz {t u e ty : TypeId} {sz by' i off m cp : Nat} {z l : List AV} {p v : Value} {j q : IntKind} {k : Int} (hR : Rel w0 S0 E L w) (ht : P.underlying t = some (.slice e)) (hu : P.underlying u = some (.int j))
    (hs : szOf P e = some sz) (hb : byOf P e = some by') (hz : zOf P e = some z) (hzl : z.length = sz) (hx : VR E (.lsl i off m (some cp) sz) p) (hy : VR E (.int q k) v) (hL : L[i]? = some (.cells l))
    (hc : 0 ≤ k ∧ k ≤ 1099511627776 ∧ cp < m + k.toNat ∧ off + m * sz ≤ l.length ∧ (m + k.toNat) * by' ≤ 140737488355328 ∧ m + k.toNat ≤ 140737488355328) :
    Good P w0 S0 E (L ++ [.cells ((l.drop off).take (m * sz) ++ replC z k.toNat)]) (.lsl L.length 0 (m + k.toNat) none sz) w (Builtin.append_ #[t, u] ty #[p, v]) := by
  obtain ⟨c1, c2, c3, c4, c5, c6⟩ := hc
  have hR1 : Rel w0 S0 E L { w with drawn := w.drawn + 1 } := hR.draw _
  obtain ⟨zv, hz', hzr, _⟩ := zOf_run' (E := E) hz
  have hzs : zv.cells.size = sz := by have := hzr.length; simpa [hzl] using this
  simp only [VR] at hy; subst hy
  have hx0 := hx
  simp only [VR] at hx0
  obtain ⟨cl, rc, d, g0, rfl, g1, g2, g3, g4⟩ := hx0
  have := g3 cp rfl; subst this
  obtain ⟨_, q2, os, q3, q4⟩ := elems_cells (P := P) (sz := sz) (c := off + m * sz ≤ l.length) (l := (l.drop off).take (m * sz)) (n := m) hR1 hx (by simp only [elems, hL]) c4
  obtain ⟨n, hn⟩ : ∃ n, n = k.toNat := ⟨_, rfl⟩
  rw [← hn] at c3 c5 c6 ⊢
  obtain ⟨nc, hnc⟩ : ∃ nc, nc = (Question.appendCap (m + n) rc e).cut (w.tape w.drawn (.appendCap (m + n) rc e)) := ⟨_, rfl⟩
  have hge : m + n ≤ nc := by rw [hnc]; simp [Question.cut]
  obtain ⟨inf, hi, hib⟩ : ∃ i, P.info? e = some i ∧ i.bytes = by' := by unfold byOf at hb; simpa using hb
  have hty : ∀ W, (typeInfo e).run P W = .ok inf W := fun W => by simp [typeInfo, hi]
  have hfit := growslice_fits (need := m + n) (old := rc) (bytes := by') c3 c5
  have hmax : IntKind.i64.max = 9223372036854775807 := by decide
  have hw : IntKind.i64.wrap k = k := by simp only [IntKind.wrap, IntKind.bits, IntKind.signed]; simp; omega
  have hkn : (n : Int) = k := by omega
  have hbig : k * (inf.bytes : Int) ≤ 2 ^ 48 := by
    rw [hib, ← hkn]
    have : n * by' ≤ (m + n) * by' := Nat.mul_le_mul_right _ (by omega)
    have h2 : ((n * by' : Nat) : Int) = (n : Int) * by' := by simp
    omega
  have n0 : ¬ k < 0 := by omega
  have n3 : ¬ k * (inf.bytes : Int) > 2 ^ 48 := by omega
  have n1 : ¬ (((m + n : Nat) : Int) > IntKind.i64.max ∧ True) := by rw [hmax]; omega
  have n2 : ¬ (Builtin.nextslicecap (m + n) rc * inf.bytes > 2 ^ 48) := by rw [hib]; omega
  have hzero : ∀ W, (if n * sz = 0 then (pure #[] : Sem (Array Value)) else do pure (Builtin.zeroCells (← zeroValue e).cells n)).run P W = .ok (Builtin.zeroCells zv.cells n) W := fun W => by
    by_cases h0 : n * sz = 0
    · rw [if_pos h0]
      have : Builtin.zeroCells zv.cells n = #[] := by
        apply Array.eq_empty_of_size_eq_zero
        rw [zeroCells_size, hzs, h0]
      rw [this]; simp
    · rw [if_neg h0]
      simp [hz']
  have hrun : (Builtin.append_ #[t, u] ty #[.slice (some ⟨cl.blk, d, none⟩) m rc, .int q k]).run P w =
      .ok (.slice (some ⟨w.heap.size, 0, none⟩) (m + n) nc) { w with heap := w.heap.push (.cells ⟨(os ++ (Builtin.zeroCells zv.cells n).toList) ++ (Builtin.zeroCells zv.cells (nc - (m + n))).toList⟩ e), drawn := w.drawn + 1 } := by
    unfold Builtin.append_
    simp only [List.getElem?_toArray, List.getElem?_cons_zero, List.getElem?_cons_succ, Sem.run_bind, run_underlying ht, run_underlying hu, Result.andThen_ok, Sem.run_pure, szOf_run hs, if_true, asInt, asIntOf, hw, if_neg n0, hty, if_neg n3, ← hn]
    simp only [if_neg (show ¬ (m + n ≤ rc) by omega), Bool.not_true, Bool.false_eq_true, if_false, true_or]
    simp only [if_neg n1, Sem.run_pure, Sem.run_bind, hty, Result.andThen_ok, if_neg n2, run_choose, Question.forced, Bool.false_eq_true, if_false, ← hnc, run_askRoom, q4, hzero, hz', newRow, run_newObj]
    have harr : ((⟨os⟩ : Array Value) ++ Builtin.zeroCells zv.cells n ++ Builtin.zeroCells zv.cells (nc - (m + n))) = ⟨(os ++ (Builtin.zeroCells zv.cells n).toList) ++ (Builtin.zeroCells zv.cells (nc - (m + n))).toList⟩ := by
      apply Array.ext'
      simp
    rw [harr]
  have hrep : VRL E (replC z n) (Builtin.zeroCells zv.cells n).toList := by
    have := repl_rel hzr n
    simpa [Builtin.zeroCells] using this
  obtain ⟨E', r1, r2, r3⟩ := push_cells hR1 (q3.append hrep) (Builtin.zeroCells zv.cells (nc - (m + n))).toList e (0, 0) (by simp)
  refine ⟨E', _, _, hrun, r1, ?_, r3⟩
  simp only [VR]
  refine ⟨_, nc, 0, r2, rfl, by simp, hge, by simp, ?_⟩
  have h1 := q3.length
  have h2 : ((Builtin.zeroCells zv.cells n).toList).length = n * sz := by simp [zeroCells_size, hzs]
  have h5 : ((Builtin.zeroCells zv.cells (nc - (m + n))).toList).length = (nc - (m + n)) * sz := by simp [zeroCells_size, hzs]
  have : (m + n) * sz + (nc - (m + n)) * sz = nc * sz := by rw [← Nat.add_mul]; congr 1; omega
  have h3 : (m + n) * sz = m * sz + n * sz := Nat.add_mul _ _ _
  simp only [List.length_append, h2, h5]
  omega

end
end Go.Proofs.YtpednpndahgleaaGreatDoor.Av
