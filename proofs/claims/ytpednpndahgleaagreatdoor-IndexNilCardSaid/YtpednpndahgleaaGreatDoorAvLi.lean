/- Walks over maps of one entry; a map's entry struck. No program in sight. -/
import Derived.Test.YtpednpndahgleaaGreatDoorAvLm
set_option linter.unusedSimpArgs false
set_option linter.unusedVariables false
namespace Go.Proofs.YtpednpndahgleaaGreatDoor.Av
open Go Go.MapKept

section
variable {P : Program} {w0 : World} {S0 : Nat → Prop} {E : Env} {L : List Blk} {w : World} {T : Tm} {a : Act}

theorem MapRel.filt {p : Nat → Bool} : ∀ {es : List (AV × AV × Nat)} {rs : List MapEntry}, MapRel E es rs → MapRel E (es.filter fun e => p e.2.2) (rs.filter fun e => p e.born)
  | [], rs, h => by simp only [MapRel] at h; subst h; rfl
  | (k, x, b) :: es, rs, h => by
    obtain ⟨f, t, rfl, g1, g2, g3, g4⟩ := h
    have ih := MapRel.filt (p := p) g4
    subst g3
    simp only [List.filter_cons]
    split
    · exact ⟨f, _, rfl, g1, g2, rfl, ih⟩
    · exact ih
theorem MapRel.all {p : Nat → Bool} : ∀ {es : List (AV × AV × Nat)} {rs : List MapEntry}, MapRel E es rs → (rs.all fun e => p e.born) = es.all fun e => p e.2.2
  | [], rs, h => by simp only [MapRel] at h; subst h; rfl
  | (k, x, b) :: es, rs, h => by
    obtain ⟨f, t, rfl, g1, g2, g3, g4⟩ := h
    subst g3
    simp only [List.all_cons, MapRel.all (p := p) g4]
theorem MapRel.nil_iff {es : List (AV × AV × Nat)} {rs : List MapEntry} (h : MapRel E es rs) : rs.isEmpty = es.isEmpty := by
  cases es with
  | nil => simp only [MapRel] at h; subst h; rfl
  | cons p es => obtain ⟨k, x, b⟩ := p; obtain ⟨f, t, rfl, _⟩ := h; rfl
theorem MapRel.len : ∀ {es : List (AV × AV × Nat)} {rs : List MapEntry}, MapRel E es rs → rs.length = es.length
  | [], rs, h => by simp only [MapRel] at h; subst h; rfl
  | (k, x, b) :: es, rs, h => by obtain ⟨f, t, rfl, _, _, _, g4⟩ := h; simp [MapRel.len g4]

theorem good_mrangeN {t kt et : TypeId} {v : Value} (hR : Rel w0 S0 E L w) (hd : P.underlying t = some (.map kt et)) (hv : VR E .nilmap v) :
    Good P w0 S0 E (L ++ [.miter none 0 [] 0]) (.ptr L.length 0) w (Instr.range t v) := by
  simp only [VR] at hv; subst hv
  have := hR.push (.mapIter none 0 #[] 0) (.miter none 0 [] 0) ⟨w.heap.size, 0, 0⟩ rfl rfl ⟨⟨w.heap.size, 0, 0⟩, none, by simp, by simp, rfl, rfl⟩
  refine ⟨_, .pointer (some ⟨w.heap.size, 0, none⟩), _, ?_, this.1, ?_, this.2⟩
  · simp [Instr.range, run_underlying hd]
  · simp only [VR]; exact ⟨⟨w.heap.size, 0, 0⟩, by simp, rfl⟩

theorem good_mrange {t kt et : TypeId} {v : Value} {i ck : Nat} {es : List (AV × AV × Nat)} (hR : Rel w0 S0 E L w) (hd : P.underlying t = some (.map kt et)) (hi : L[i]? = some (.map es ck)) (hv : VR E (.lmap i) v) :
    Good P w0 S0 E (L ++ [.miter (some i) ck [] ck]) (.ptr L.length 0) w (Instr.range t v) := by
  obtain ⟨c, rs, hc, rfl, hb, hmr⟩ := map_blk hR hi hv
  have hlt : i < L.length := (List.getElem?_eq_some_iff.1 hi).1
  have := hR.push (.mapIter (some c.blk) ck #[] ck) (.miter (some i) ck [] ck) ⟨w.heap.size, 0, 0⟩ rfl rfl ⟨⟨w.heap.size, 0, 0⟩, some c.blk, by simp, by simp, rfl, c, by simp only; rw [if_neg (by omega)]; exact hc, rfl⟩
  refine ⟨_, .pointer (some ⟨w.heap.size, 0, none⟩), _, ?_, this.1, ?_, this.2⟩
  · have hg : (getObj c.blk).run P w = .ok (.map rs ck) w := by simp [getObj, Sem.run, hb]
    simp [Instr.range, run_underlying hd, hg]
  · simp only [VR]; exact ⟨⟨w.heap.size, 0, 0⟩, by simp, rfl⟩

theorem good_mnext {t : TypeId} {v : Value} {i j ck since last : Nat} {seen : List Nat} {es : List (AV × AV × Nat)} {r : Option (AV × AV × Nat)} (hR : Rel w0 S0 E L w) (hi : L[i]? = some (.miter (some j) since seen last)) (hj : L[j]? = some (.map es ck)) (hv : VR E (.ptr i 0) v)
    (hs : mstep es since seen last = some r) :
    Good P w0 S0 E (nextL L i j since seen ck r) (nextV r) w (Instr.next v false t) := by
  simp only [VR] at hv
  obtain ⟨c, hc, rfl⟩ := hv
  obtain ⟨c', q, h1, h2, h3, d, h4, rfl⟩ := hR.blk i _ hi
  rw [hc] at h1; cases h1
  obtain ⟨d', rs, g1, g2, g3⟩ := hR.blk j _ hj
  rw [h4] at g1; cases g1
  have hlt : c.blk < w.heap.size := (Array.getElem?_eq_some_iff.1 h2).1
  have hg : (getObj c.blk).run P w = .ok (.mapIter (some d.blk) since ⟨seen⟩ last) w := by simp [getObj, Sem.run, h2]
  have hg2 : (getObj d.blk).run P w = .ok (.map rs ck) w := by simp [getObj, Sem.run, g2]
  have hso : ∀ o, (setObj c.blk o).run P w = .ok () { w with heap := w.heap.setIfInBounds c.blk o } := fun o => by simp [setObj, Sem.run, h2]
  rw [h3]
  unfold mstep at hs
  split at hs
  · cases hs
  rename_i hguard
  have hguard' : (!(⟨seen⟩ : Array Nat).isEmpty && !rs.isEmpty && rs.all fun e => decide (e.born ≥ last)) = false := by
    rw [Bool.not_eq_true] at hguard
    rw [← hguard]
    have e1 : (⟨seen⟩ : Array Nat).isEmpty = seen.isEmpty := by cases seen <;> rfl
    have e2 : rs.isEmpty = es.isEmpty := by rw [← g3.nil_iff]; simp
    have e3 : (rs.all fun e => decide (e.born ≥ last)) = es.all fun e => decide (last ≤ e.2.2) := by
      rw [← MapRel.all (p := fun b => decide (last ≤ b)) g3]; simp
    rw [e1, e2, e3]
  have hleft := MapRel.filt (p := fun b => !seen.contains b) g3
  have hold := MapRel.filt (p := fun b => decide (b < since)) hleft
  have hnew := MapRel.filt (p := fun b => decide (since ≤ b)) hleft
  have fl : ∀ p : MapEntry → Bool, (rs.filter fun e => !(⟨seen⟩ : Array Nat).contains e.born).filter p = ⟨(rs.toList.filter fun e => !seen.contains e.born).filter p⟩ := fun p => by
    apply Array.toList_inj.1
    simp
  split at hs
  · rename_i ho hn
    simp only [Option.some.injEq] at hs; subst hs
    rw [ho] at hold
    rw [hn] at hnew
    simp only [MapRel] at hold hnew
    refine .same hR (v := .tuple #[.bool false]) ?_ (by simp [nextV, VR, VRL])
    have hold' : ((rs.filter fun e => !(⟨seen⟩ : Array Nat).contains e.born).filter fun e => decide (e.born < since)) = #[] := by rw [fl, hold]
    have hnew' : ((rs.filter fun e => !(⟨seen⟩ : Array Nat).contains e.born).filter fun e => decide (e.born ≥ since)) = #[] := by rw [fl]; exact congrArg Array.mk hnew
    simp only [Instr.next, Sem.run_bind, hg, hg2, Result.andThen_ok, hguard', Bool.false_eq_true, if_false, hold', hnew']
    simp [Question.forced]
  · rename_i e ho hn
    simp only [Option.some.injEq] at hs; subst hs
    rw [ho] at hold
    rw [hn] at hnew
    obtain ⟨k, x, b⟩ := e
    simp only [MapRel] at hold hnew
    obtain ⟨f, s, hf, k1, k2, k3, rfl⟩ := hold
    subst k3
    have hold' : ((rs.filter fun e => !(⟨seen⟩ : Array Nat).contains e.born).filter fun e => decide (e.born < since)) = #[f] := by rw [fl, hf]
    have hnew' : ((rs.filter fun e => !(⟨seen⟩ : Array Nat).contains e.born).filter fun e => decide (e.born ≥ since)) = #[] := by rw [fl]; exact congrArg Array.mk hnew
    have turn := hR.turn (w' := { w with heap := w.heap.setIfInBounds c.blk (.mapIter (some d.blk) since ((⟨seen⟩ : Array Nat).push f.born) ck) }) (k' := .miter (some j) since (seen ++ [f.born]) ck) hi rfl hc (by simp) (fun b hb => by simp [Array.getElem?_setIfInBounds, Ne.symm hb]) rfl rfl rfl
      ⟨c, some d.blk, hc, by simp [hlt], h3, d, h4, rfl⟩ (fun _ _ e => by cases e)
    refine ⟨E, .tuple #[.bool true, f.key, f.val], _, ?_, .refl E, ?_, turn⟩
    · simp only [Instr.next, Sem.run_bind, hg, hg2, Result.andThen_ok, hguard', Bool.false_eq_true, if_false, hold', hnew']
      simp [Question.forced, hso]
    · simp only [nextV, VR, VRL]
      exact ⟨[.bool true, f.key, f.val], rfl, .bool true, [f.key, f.val], rfl, rfl, f.key, [f.val], rfl, k1, f.val, [], rfl, k2, rfl⟩
  · cases hs

theorem good_mnextN {t : TypeId} {v : Value} {i since last : Nat} {seen : List Nat} (hR : Rel w0 S0 E L w) (hi : L[i]? = some (.miter none since seen last)) (hv : VR E (.ptr i 0) v) :
    Good P w0 S0 E L (.tup [.bool false]) w (Instr.next v false t) := by
  simp only [VR] at hv
  obtain ⟨c, hc, rfl⟩ := hv
  obtain ⟨c', q, h1, h2, h3, h4⟩ := hR.blk i _ hi
  rw [hc] at h1; cases h1
  simp only [MIt] at h4; subst h4
  have hg : (getObj c.blk).run P w = .ok (.mapIter none since ⟨seen⟩ last) w := by simp [getObj, Sem.run, h2]
  rw [h3]
  exact .same hR (v := .tuple #[.bool false]) (by simp [Instr.next, hg]) (by simp [VR, VRL])

theorem MapRel.fnd {b : Nat} : ∀ {es : List (AV × AV × Nat)} {rs : List MapEntry} {e : AV × AV × Nat}, MapRel E es rs → es.find? (fun e => Nat.beq e.2.2 b) = some e → ∃ f, rs.find? (fun e => e.born == b) = some f ∧ VR E e.1 f.key ∧ VR E e.2.1 f.val
  | [], rs, e, h, he => by simp at he
  | (k, x, c) :: es, rs, e, h, he => by
    obtain ⟨f, t, rfl, g1, g2, g3, g4⟩ := h
    subst g3
    simp only [List.find?_cons] at he ⊢
    have e1 : (f.born == b) = Nat.beq f.born b := by
      cases hh : Nat.beq f.born b with
      | true => rw [Nat.eq_of_beq_eq_true hh]; simp
      | false =>
        have : f.born ≠ b := fun e => by rw [e, Nat.beq_refl] at hh; cases hh
        simpa using this
    rw [e1]
    split at he
    · rename_i hb; simp only [Option.some.injEq] at he; subst he
      exact ⟨f, rfl, g1, g2⟩
    · rename_i hb; exact MapRel.fnd g4 he

theorem good_mentry {v : Value} {i j ck since stepped : Nat} {seen : List Nat} {es : List (AV × AV × Nat)} {e : AV × AV × Nat} (hR : Rel w0 S0 E L w) (hi : L[i]? = some (.miter (some j) since seen stepped)) (hj : L[j]? = some (.map es ck)) (hv : VR E (.ptr i 0) v)
    (hs : mat es ck seen stepped = some e) : Good P w0 S0 E L (.tup [e.1, e.2.1]) w (Instr.entry v) := by
  simp only [VR] at hv
  obtain ⟨c, hc, rfl⟩ := hv
  obtain ⟨c', q, h1, h2, h3, d, h4, rfl⟩ := hR.blk i _ hi
  rw [hc] at h1; cases h1
  obtain ⟨d', rs, g1, g2, g3⟩ := hR.blk j _ hj
  rw [h4] at g1; cases g1
  have hg : (getObj c.blk).run P w = .ok (.mapIter (some d.blk) since ⟨seen⟩ stepped) w := by simp [getObj, Sem.run, h2]
  have hg2 : (getObj d.blk).run P w = .ok (.map rs ck) w := by simp [getObj, Sem.run, g2]
  unfold mat at hs
  split at hs
  · rename_i b hb
    split at hs
    · rename_i hck
      obtain ⟨f, k1, k2, k3⟩ := MapRel.fnd g3 hs
      have hback : (⟨seen⟩ : Array Nat).back? = some b := by rw [List.getLast?_eq_getElem?] at hb; simpa [Array.back?] using hb
      have hf : rs.find? (fun e => e.born == b) = some f := by rw [← k1]; simp
      rw [h3]
      refine .same hR (v := .tuple #[f.key, f.val]) ?_ (by simp only [VR, VRL]; exact ⟨[f.key, f.val], rfl, f.key, [f.val], rfl, k2, f.val, [], rfl, k3, rfl⟩)
      simp [Instr.entry, hg, hg2, hback, hck, hf]
    · cases hs
  · cases hs

theorem MapRel.del : ∀ {es : List (AV × AV × Nat)} {rs : List MapEntry} {j : Nat}, MapRel E es rs → MapRel E (es.eraseIdx j) (rs.eraseIdx j)
  | [], rs, j, h => by simp only [MapRel] at h; subst h; simp [MapRel]
  | (k, x, b) :: es, rs, 0, h => by obtain ⟨f, t, rfl, _, _, _, g4⟩ := h; simpa using g4
  | (k, x, b) :: es, rs, j + 1, h => by
    obtain ⟨f, t, rfl, g1, g2, g3, g4⟩ := h
    exact ⟨f, t.eraseIdx j, by simp, g1, g2, g3, MapRel.del g4⟩

/-- A map's entry struck: of a map that is there, or nil. -/
theorem good_mdel {t kt et t' ty : TypeId} {kd : KeyK} {k : AV} {u v : Value} {i ck : Nat} {cs : Array Bool} {es : List (AV × AV × Nat)} {r : Option (Nat × AV)} (hR : Rel w0 S0 E L w) (hd : P.underlying t = some (.map kt et)) (hkd : lowKey P kt = some kd) (hi : L[i]? = some (.map es ck)) (hu : VR E (.lmap i) u) (hf : keyFit kd k = true) (hk : VR E k v)
    (hm : mfind k es 0 = some r) : ∃ w', (builtin .delete ⟨[t, t']⟩ ty cs ⟨[u, v]⟩).run P w = .ok (.value (.tuple #[])) w' ∧ Rel w0 S0 E (L.set i (match r with | some (j, _) => .map (es.eraseIdx j) ck | none => .map es ck)) w' := by
  obtain ⟨c, rs, hc, rfl, hb, hmr⟩ := map_blk hR hi hu
  have hck : ∀ e, (Instr.checkKey e 10000 kt v).run P w = .ok () w := fun e => key_check' hkd hf hk e
  have hg : (getObj c.blk).run P w = .ok (.map rs ck) w := by simp [getObj, Sem.run, hb]
  have hs := find_spec hkd hf hk hmr hm w
  have hlt : c.blk < w.heap.size := (Array.getElem?_eq_some_iff.1 hb).1
  have hso : ∀ o, (setObj c.blk o).run P w = .ok () { w with heap := w.heap.setIfInBounds c.blk o } := fun o => by simp [setObj, Sem.run, hb]
  have turn : ∀ rs' ck' es', MapRel E es' (rs' : Array MapEntry).toList → Rel w0 S0 E (L.set i (.map es' ck')) { w with heap := w.heap.setIfInBounds c.blk (.map rs' ck') } := fun rs' ck' es' hm' =>
    hR.turn (w' := { w with heap := w.heap.setIfInBounds c.blk (.map rs' ck') }) (k' := .map es' ck') hi rfl hc (by simp) (fun b hb => by simp [Array.getElem?_setIfInBounds, Ne.symm hb]) rfl rfl rfl
      ⟨c, rs', hc, by simp [hlt], hm'⟩ (fun _ _ e => by cases e)
  cases r with
  | none =>
    have hfk : (Instr.findKey kt v rs.toList).run P w = .ok none w := hs
    refine ⟨_, ?_, turn rs ck es hmr⟩
    simp [builtin, Builtin.delete_, run_underlying hd, hg, hck, hfk, hso]
  | some p =>
    obtain ⟨j, z⟩ := p
    obtain ⟨e, q, b, hfk, g2, g3, g4, g5, g6⟩ := hs
    refine ⟨_, ?_, turn (rs.eraseIdxIfInBounds j) ck (es.eraseIdx j) (by simpa using MapRel.del hmr)⟩
    simp [builtin, Builtin.delete_, run_underlying hd, hg, hck, hfk, hso]
theorem good_mdelN {t kt et t' ty : TypeId} {kd : KeyK} {k : AV} {u v : Value} {cs : Array Bool} (hR : Rel w0 S0 E L w) (hd : P.underlying t = some (.map kt et)) (hkd : lowKey P kt = some kd) (hu : VR E .nilmap u) (hf : keyFit kd k = true) (hk : VR E k v) :
    (builtin .delete ⟨[t, t']⟩ ty cs ⟨[u, v]⟩).run P w = .ok (.value (.tuple #[])) w := by
  simp only [VR] at hu; subst hu
  have hck : ∀ e, (Instr.checkKey e 10000 kt v).run P w = .ok () w := fun e => key_check' hkd hf hk e
  simp [builtin, Builtin.delete_, run_underlying hd, hck]

theorem snd_del {own : Nat} {ts : List TypeId} {xs : List Operand} {ys : List Opd} {ty : TypeId} {cs : Array Bool} {lo : LOp} {c : Prop} {av : AV} {L' : List Blk} (hR : Rel w0 S0 E L w) (hT : TR E T a) (hx : lowXs xs = some ys)
    (hl : lowBuiltin P own .delete ts ys = some lo) (he : evalOp T L lo = some (c, av, L')) : Done P w0 S0 E L' av w (builtin .delete ⟨ts⟩ ty cs ⟨xs.map a.eval⟩) := by
  unfold lowBuiltin at hl
  split at hl <;> try (rename_i h0; cases h0)
  · rename_i t t' m k _
    obtain ⟨x, y, rfl, hu, hv⟩ := args2 hx
    split at hl <;> try cases hl
    rename_i kt et hd
    rcases h4 : lowKey P kt with _ | kd <;> simp [h4] at hl
    subst hl
    simp only [evalOp] at he
    split at he <;> try cases he
    · rename_i kv h5 h6
      split at he <;> cases he
      rename_i hf
      exact .same hR (v := .tuple #[]) (good_mdelN hR hd h4 (evX_sound hu h5 hT) hf (evX_sound hv h6 hT)) (by simp [VR, VRL])
    · rename_i i kv h5 h6
      split at he <;> try cases he
      rename_i es ck h8
      split at he <;> try cases he
      rename_i hf
      have go := fun r hm => good_mdel (P := P) (t' := t') (ty := ty) (cs := cs) (r := r) hR hd h4 h8 (evX_sound hu h5 hT) hf (evX_sound hv h6 hT) hm
      split at he <;> cases he
      · rename_i j y' hm
        obtain ⟨w', g1, g2⟩ := go _ hm
        exact ⟨E, .tuple #[], w', .inl g1, .refl E, by simp [VR, VRL], g2⟩
      · rename_i hm
        obtain ⟨w', g1, g2⟩ := go _ hm
        exact ⟨E, .tuple #[], w', .inl g1, .refl E, by simp [VR, VRL], g2⟩
  · cases hl

end
end Go.Proofs.YtpednpndahgleaaGreatDoor.Av
