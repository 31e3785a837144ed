/- A walk over a map, whichever entry comes next. No program in sight. -/
import Derived.Test.YtpednpndahgleaaGreatDoorAvLf
import Derived.Test.YtpednpndahgleaaGreatDoorAvT
import Derived.Test.YtpednpndahgleaaGreatDoorAvV
import Derived.Maps.RangeRun
set_option linter.unusedSimpArgs false
set_option linter.unusedVariables false
namespace Go.Proofs.YtpednpndahgleaaGreatDoor.Av
open Go Go.MapKept

section
variable {P : Program} {w0 : World} {S0 : Nat → Prop} {E : Env} {L : List Blk} {w : World} {T : Tm} {a : Act} {N : Nat}

theorem MapRel.mem1 : ∀ {es : List (AV × AV × Nat)} {rs : List MapEntry} {f : MapEntry}, MapRel E es rs → f ∈ rs → ∃ e ∈ es, VR E e.1 f.key ∧ VR E e.2.1 f.val ∧ e.2.2 = f.born
  | [], rs, f, h, hf => by simp only [MapRel] at h; subst h; cases hf
  | (k, x, b) :: es, rs, f, h, hf => by
    obtain ⟨g, t, rfl, g1, g2, g3, g4⟩ := h
    rcases List.mem_cons.1 hf with rfl | hf
    · exact ⟨_, .head _, g1, g2, g3.symm⟩
    · obtain ⟨e, he, h1⟩ := MapRel.mem1 g4 hf
      exact ⟨e, .tail _ he, h1⟩
theorem MapRel.mem2 : ∀ {es : List (AV × AV × Nat)} {rs : List MapEntry} {e : AV × AV × Nat}, MapRel E es rs → e ∈ es → ∃ f ∈ rs, e.2.2 = f.born
  | [], rs, e, h, he => by cases he
  | (k, x, b) :: es, rs, e, h, he => by
    obtain ⟨g, t, rfl, g1, g2, g3, g4⟩ := h
    rcases List.mem_cons.1 he with rfl | he
    · exact ⟨g, .head _, g3.symm⟩
    · obtain ⟨f, hf, h1⟩ := MapRel.mem2 g4 he
      exact ⟨f, .tail _ hf, h1⟩

theorem good_mnextAny {t : TypeId} {v : Value} {i j ck since last : Nat} {seen : List Nat} {es : List (AV × AV × Nat)} (hR : Rel w0 S0 E L w) (hi : L[i]? = some (.miter (some j) since seen last)) (hj : L[j]? = some (.map es ck)) (hv : VR E (.ptr i 0) v)
    (hold : ∀ e ∈ es, e.2.2 < since) (hsc : since ≤ last) :
    ∃ r, (match r with | none => ∀ e ∈ es, seen.contains e.2.2 = true | some e => e ∈ es ∧ seen.contains e.2.2 = false) ∧ Good P w0 S0 E (nextL L i j since seen ck r) (nextV r) w (Instr.next v false t) := by
  simp only [VR] at hv
  obtain ⟨c, hc, rfl⟩ := hv
  obtain ⟨c', q, h1, h2, h3, d, h4, rfl⟩ := hR.blk i _ hi
  rw [hc] at h1; cases h1
  obtain ⟨d', rs, g1, g2, g3⟩ := hR.blk j _ hj
  rw [h4] at g1; cases g1
  have hlt : c.blk < w.heap.size := (Array.getElem?_eq_some_iff.1 h2).1
  have hold' : ∀ x ∈ rs.toList, x.born < since := fun x hx => by
    obtain ⟨e, he, _, _, h⟩ := g3.mem1 hx
    rw [← h]; exact hold e he
  rw [h3]
  rcases run_next_at (P := P) w t c.blk d.blk since last ⟨seen⟩ rs ck h2 g2 hold' hsc with ⟨h0, hrun⟩ | ⟨f, hf, w1, hw, hrun⟩
  · refine ⟨none, fun e he => ?_, .same hR hrun (by simp [nextV, VR, VRL])⟩
    obtain ⟨f, hf, hb⟩ := g3.mem2 he
    rw [hb]
    have hz : leftOf rs ⟨seen⟩ = #[] := Array.eq_empty_of_size_eq_zero h0
    unfold leftOf at hz
    rw [Array.filter_eq_empty_iff] at hz
    have := hz f (by simpa using hf)
    simpa using this
  · have hf' : f ∈ rs.toList ∧ seen.contains f.born = false := by
      simp only [leftOf, Array.toList_filter, List.mem_filter] at hf
      exact ⟨hf.1, by simpa using hf.2⟩
    obtain ⟨e, he, k1, k2, k3⟩ := g3.mem1 hf'.1
    have hR1 : Rel w0 S0 E L w1 := by
      rcases hw with rfl | rfl
      · exact hR
      · exact hR.grown ⟨fun _ _ => rfl, Nat.le_refl _, rfl, rfl, rfl⟩
    have hlt1 : c.blk < w1.heap.size := by rcases hw with rfl | rfl <;> exact hlt
    have turn := hR1.turn (w' := { w1 with heap := w1.heap.setIfInBounds c.blk (.mapIter (some d.blk) since ((⟨seen⟩ : Array Nat).push f.born) ck) }) (k' := .miter (some j) since (seen ++ [f.born]) ck) hi rfl hc (by simp) (fun b hb => by simp [Array.getElem?_setIfInBounds, Ne.symm hb]) rfl rfl rfl
      ⟨c, some d.blk, hc, by simp [hlt1], h3, d, h4, rfl⟩ (fun _ _ e => by cases e)
    refine ⟨some e, ⟨he, by rw [k3]; exact hf'.2⟩, E, .tuple #[.bool true, f.key, f.val], _, hrun, .refl E, ?_, ?_⟩
    · simp only [nextV, VR, VRL]
      exact ⟨[.bool true, f.key, f.val], rfl, .bool true, [f.key, f.val], rfl, rfl, f.key, [f.val], rfl, k1, f.val, [], rfl, k2, rfl⟩
    · simp only [nextL, k3]
      exact turn

def LOp.isNext : LOp → Bool
  | .mnext _ => true
  | _ => false
theorem lowConv_nn {own : Nat} {s d : TypeId} {x : Opd} {lo : LOp} (h : lowConv P own s d x = some lo) : lo.isNext = false := by
  unfold lowConv at h
  repeat' split at h
  all_goals (first | (cases h; rfl) | cases h)
theorem lowBin_nn {op : BinOp} {t : TypeId} {x y : Operand} {lo : LOp} (h : lowBin P op t x y = some lo) : lo.isNext = false := by
  unfold lowBin at h
  repeat' split at h
  all_goals (first | (cases h; rfl) | cases h)
theorem lowBuiltin_nn {own : Nat} {b : Builtin} {ts : List TypeId} {xs : List Opd} {lo : LOp} (h : lowBuiltin P own b ts xs = some lo) : lo.isNext = false := by
  unfold lowBuiltin at h
  repeat' split at h
  all_goals (first | (cases h; rfl) | cases h | (simp only [Option.map_eq_some_iff] at h; obtain ⟨_, _, rfl⟩ := h; rfl))
theorem lowOp_next {own : Nat} {op : Op} {y : Opd} (h : lowOp P own op = some (.mnext y)) : ∃ x, op = .next x false ∧ lowX x = some y := by
  cases op
  case next x isS =>
    simp only [lowOp] at h
    split at h
    · simp only [Option.map_eq_some_iff] at h; obtain ⟨_, _, h⟩ := h; cases h
    · rename_i hS
      simp only [Option.map_eq_some_iff, LOp.mnext.injEq] at h
      obtain ⟨_, h1, rfl⟩ := h
      exact ⟨x, by rw [show isS = false by simpa using hS], h1⟩
  case makeMap t r =>
    cases r with
    | some x => simp [lowOp] at h
    | none =>
      simp only [lowOp] at h
      split at h <;> cases h
  all_goals (exfalso; simp only [lowOp] at h; try (cases h; done))
  case binOp => have := lowBin_nn h; cases this
  case convert x => simp only [Option.bind_eq_some_iff] at h; obtain ⟨_, _, h⟩ := h; have := lowConv_nn h; cases this
  case call c =>
    split at h <;> try cases h
    split at h <;> try cases h
    · simp only [Option.map_eq_some_iff] at h; obtain ⟨_, _, h⟩ := h; cases h
    · have := lowBuiltin_nn h; cases this
  all_goals
    repeat' split at h
    all_goals (first | cases h | (simp only [Option.map_eq_some_iff] at h; obtain ⟨_, _, h⟩ := h; cases h))

/-- A statement that begins with a walk's step: whichever entry comes. -/
theorem AW_next {own : Nat → Nat → Nat} {Q : Exit → Tm → List Blk → Prop} {d t i j since last ck : Nat} {rest : List SOp} {mask : List Bool} {seen : List Nat} {es : List (AV × AV × Nat)} (hok : (okS rest && (gds rest).isEmpty) = true) (ht : look T t = some (.ptr i 0)) (hi : L[i]? = some (.miter (some j) since seen last)) (hj : L[j]? = some (.map es ck))
    (hold : ∀ e ∈ es, e.2.2 < since) (hsc : since ≤ last)
    (h0 : (∀ e ∈ es, seen.contains e.2.2 = true) → SL P rest (SelK mask (Q .normal)) ((d, .tup [.bool false]) :: T) L)
    (h1 : ∀ e ∈ es, seen.contains e.2.2 = false → SL P rest (SelK mask (Q .normal)) ((d, .tup [.bool true, e.1, e.2.1]) :: T) (L.set i (.miter (some j) since (seen ++ [e.2.2]) ck))) :
    AW P N own (.sreg (.op ⟨some d, .mnext (.tmp t), none⟩ :: rest) mask) Q T L := fun c hc w0 S0 E a w hst => by
  obtain ⟨id, os, rfl, hlo⟩ := inv_region hc
  rw [Bool.and_eq_true] at hok
  refine wp_region ?_
  generalize List.range os.size = is at hlo ⊢
  cases is with
  | nil => simp [lowOps, SOp.flatL, SOp.flat] at hlo
  | cons i0 is =>
    simp only [SOp.flatL, SOp.flat, List.cons_append, List.nil_append, lowOps] at hlo
    split at hlo <;> try cases hlo
    rename_i lo los' e1 e2
    obtain ⟨o, ho, hop, hdst, hd, hg⟩ := lowOper_spec e1
    simp only at hop hdst hg
    rcases hg with ⟨g1, _⟩ | ⟨_, _, _, _, _, _, g4⟩
    · simp only [wpOps, ho]
      rw [if_pos (by simp [Region.wanted, g1])]
      refine .inl ?_
      have hop' : lowOp P (own id i0) o.op = some (.mnext (.tmp t)) := by
        rcases hq : lowOp P (own id i0) o.op with _ | x
        · rw [hq] at hop; cases hop
        · rw [hq] at hop; simp only [Option.getD_some] at hop; rw [hop]
      obtain ⟨x, hx, hlx⟩ := lowOp_next hop'
      obtain ⟨hR, hT, hN, hdf⟩ := hst
      have hv := evX_sound hlx (show evX T (.tmp t) = some (.ptr i 0) from ht) hT
      obtain ⟨r, hr, E', v, w', hrun, hle, hvr, hR'⟩ := good_mnextAny (P := P) (t := o.type) hR hi hj hv hold hsc
      unfold Oper.wp
      have hex : (execOp a.eval o).run P w = .ok (.value v) w' := by
        obtain ⟨od, oop, oty, opos, oafter, oguard⟩ := o
        simp only at hx hrun
        subst hx
        show (do pure (Next.value (← Instr.next (a.eval x) false oty)) : Sem Next).run P w = _
        simp [hrun]
      rw [hex, Oper.upon_value]
      have hst' : St w0 S0 N E' (putT (some d) (nextV r) T) (nextL L i j since seen ck r) (a.put o.dst v) w' := ⟨hR', by rw [hdst]; exact (hT.mono hle).putT (fun k hk => by rw [hN]; exact hd k (by rw [hdst]; exact hk)) hvr, by rw [put_size]; exact hN, by rw [put_defers]; exact hdf⟩
      have hfr : Fr (gds rest) (putT (some d) (nextV r) T) := fun k hk => by
        rw [List.isEmpty_iff.1 hok.2] at hk; cases hk
      have hSL : SL P rest (SelK mask (Q .normal)) (putT (some d) (nextV r) T) (nextL L i j since seen ck r) := by
        cases r with
        | none => exact h0 hr
        | some e => exact h1 e hr.1 hr.2
      refine sl_sound rest hok.1 e2 hst' hfr hSL fun E'' T' L' a' w'' q2 q3 q4 => ⟨E'', sel mask T', L', hle.trans q2, q3.2, q4.weak (fun t v hv => selB_look q3.1 hv) rfl fun _ _ e => .inr e⟩
    · cases g4

end
end Go.Proofs.YtpednpndahgleaaGreatDoor.Av
