/- Each lowered operation does what it is said to do, part 2. No program in sight. -/
import Derived.Test.YtpednpndahgleaaGreatDoorAvD
set_option linter.unusedSimpArgs false
set_option linter.unusedVariables false
namespace Go.Proofs.YtpednpndahgleaaGreatDoor.Av
open Go

section
variable {P : Program} {w0 : World} {S0 : Nat → Prop} {E : Env} {L : List Blk} {w : World} {T : Tm} {a : Act}

theorem places_run : ∀ (l : List Field), (∀ f ∈ l, (szOf P f.type).isSome = true) →
    (l.mapM (m := Sem) fun f => do pure (f.offset, ← sizeOf f.type)).run P w = .ok (l.map fun f => (f.offset, (szOf P f.type).getD 0)) w
  | [], _ => by simp
  | f :: l, h => by
    have hn := h f (by simp)
    rw [Option.isSome_iff_exists] at hn
    obtain ⟨n, hn⟩ := hn
    have ih := places_run l fun g hg => h g (by simp [hg])
    rw [List.mapM_cons, Sem.run_bind, Sem.run_bind, szOf_run hn]
    simp only [Result.andThen_ok, Sem.run_pure, Sem.run_bind, ih, List.map_cons, hn, Option.getD_some]

theorem good_buildS {t : TypeId} {fs : Array Field} {ps : List (Nat × Operand)} {z l : List AV} {m : List (Nat × Nat × Opd)} (hT : TR E T a) (hR : Rel w0 S0 E L w) (hd : P.underlying t = some (.struct fs)) (hz : zOf P t = some z)
    (hk : fs.toList.all (fun f => (szOf P f.type).isSome) = true) (hm : lowParts P (.struct fs) ps = some m) (hf : fillA T z m = some l) :
    Good P w0 S0 E L (.agg l) w (Instr.build t ⟨ps.map fun (i, x) => (i, a.eval x)⟩) := by
  obtain ⟨v, h1, h2, _⟩ := zOf_run (w := w) (E := E) hz
  obtain ⟨cs, h3, h4⟩ := fill_ok (place := fun i => (fs.toList.map fun f => (f.offset, (szOf P f.type).getD 0)).toArray[i]?) hT (fun i r hr => by
    simp only [partAtT] at hr
    split at hr <;> simp at hr
    rename_i f hf'
    obtain ⟨n, h5, rfl⟩ := hr
    rw [Array.getElem?_toList] at hf'
    simp [hf', h5]) hm hf h2
  refine .same hR (v := .agg cs) ?_ ⟨cs.toList, rfl, h4⟩
  have := places_run (P := P) (w := w) fs.toList (List.all_eq_true.1 hk)
  simp only [Instr.build, Sem.run_bind, h1, Result.andThen_ok, run_underlying hd, Array.mapM_eq_mapM_toList, Sem.run_map, this]
  rw [h3]
  rfl

theorem good_buildA {t e : TypeId} {n : Nat} {ps : List (Nat × Operand)} {z l : List AV} {m : List (Nat × Nat × Opd)} (hT : TR E T a) (hR : Rel w0 S0 E L w) (hd : P.underlying t = some (.array n e)) (hz : zOf P t = some z)
    (hm : lowParts P (.array n e) ps = some m) (hs : (szOf P e).isSome = true) (hf : fillA T z m = some l) :
    Good P w0 S0 E L (.agg l) w (Instr.build t ⟨ps.map fun (i, x) => (i, a.eval x)⟩) := by
  obtain ⟨v, h1, h2, _⟩ := zOf_run (w := w) (E := E) hz
  rw [Option.isSome_iff_exists] at hs
  obtain ⟨s, hs⟩ := hs
  obtain ⟨cs, h3, h4⟩ := fill_ok (place := fun i => some (i * s, s)) hT (fun i r hr => by
    simp only [partAtT, hs, Option.map_some] at hr
    exact hr) hm hf h2
  refine .same hR (v := .agg cs) ?_ ⟨cs.toList, rfl, h4⟩
  simp only [Instr.build, Sem.run_bind, h1, Result.andThen_ok, run_underlying hd, szOf_run hs]
  rw [h3]
  rfl

theorem replC_length (z : List AV) : ∀ n, (replC z n).length = n * z.length
  | 0 => by simp [replC]
  | n + 1 => by simp [replC, replC_length z n, Nat.succ_mul]; omega

theorem replC_get {z : List AV} (hz : 0 < z.length) : ∀ (n i : Nat), i < n * z.length → (replC z n)[i]? = z[i % z.length]?
  | 0, i, h => by simp at h
  | n + 1, i, h => by
    simp only [replC]
    rcases Nat.lt_or_ge i z.length with h1 | h1
    · rw [List.getElem?_append_left h1, Nat.mod_eq_of_lt h1]
    · rw [List.getElem?_append_right h1, replC_get hz n (i - z.length) (by rw [Nat.succ_mul] at h; omega)]
      rw [Nat.mod_eq_sub_mod h1]

/-- Zero cells, again and again. -/
theorem repl_rel {z : List AV} {vs : List Value} (h : VRL E z vs) (n : Nat) : VRL E (replC z n) ((List.range (n * vs.length)).map fun i => vs.toArray[i % vs.toArray.size]!) := by
  have hl := h.length
  refine VRL.of_get (by simp [replC_length, hl]) fun i x hx => ?_
  have hi : i < n * z.length := by have := (List.getElem?_eq_some_iff.1 hx).1; rwa [replC_length] at this
  have hz : 0 < z.length := by
    rcases Nat.eq_zero_or_pos z.length with h0 | h0
    · rw [h0] at hi; simp at hi
    · exact h0
  rw [replC_get hz n i hi] at hx
  obtain ⟨v, h1, h2⟩ := h.get hx
  refine ⟨v, ?_, h2⟩
  rw [List.getElem?_map, List.getElem?_range (by rw [hl]; exact hi)]
  simp only [Option.map_some, List.size_toArray, hl]
  have : i % z.length < vs.length := by rw [hl]; exact Nat.mod_lt _ hz
  simp [this] at h1 ⊢
  exact h1

theorem fillA_length : ∀ {m : List (Nat × Nat × Opd)} {z l : List AV}, fillA T z m = some l → l.length = z.length
  | [], z, l, h => by simp [fillA] at h; rw [h]
  | (o, s, x) :: m, z, l, h => by
    simp only [fillA] at h
    split at h <;> try simp at h
    rename_i vals _
    obtain ⟨⟨h5, h6⟩, h⟩ := h
    rw [fillA_length h, splice_length (by omega)]

theorem good_bslice {t e : TypeId} {n s : Nat} {own : Bool} {ps : List (Nat × Operand)} {z l : List AV} {m : List (Nat × Nat × Opd)} (hT : TR E T a) (hR : Rel w0 S0 E L w) (hd : P.underlying t = some (.slice e)) (hs : szOf P e = some s) (hz : zOf P e = some z)
    (hzl : z.length = s) (hn : n * s ≤ 2 ^ 24) (hm : lowParts P (.slice e) ps = some m) (hf : fillA T (replC z n) m = some l) :
    if own then Good P w0 S0 E (L ++ [.cells l]) (.lsl L.length 0 n (some n) s) w (Instr.buildSlice t n ⟨ps.map fun (i, x) => (i, a.eval x)⟩)
    else Good P w0 S0 E L (.sl l n (some n)) w (Instr.buildSlice t n ⟨ps.map fun (i, x) => (i, a.eval x)⟩) := by
  obtain ⟨v, h1, h2, _⟩ := zOf_run (w := w) (E := E) hz
  have hvl : v.cells.size = s := by have := h2.length; simpa [hzl] using this
  have hrep : VRL E (replC z n) ((Array.range (n * s)).map (v.cells[· % v.cells.size]!)).toList := by
    have := repl_rel h2 n
    simpa [hvl] using this
  obtain ⟨cs, h3, h4⟩ := fill_ok (place := fun i => some (i * s, s)) hT (fun i r hr => by
    simp only [partAtT, hs, Option.map_some] at hr
    exact hr) hm hf hrep
  have hll : l.length = n * s := by rw [fillA_length hf, replC_length, hzl]
  have hlen := h4.length
  have run : (Instr.buildSlice t n ⟨ps.map fun (i, x) => (i, a.eval x)⟩).run P w = .ok (.slice (some ⟨w.heap.size, 0, none⟩) n n) { w with heap := w.heap.push (.cells cs e) } := by
    by_cases h0 : n * s = 0
    · have hr : Array.range 0 = #[] := rfl
      simp [h0, hr] at h3
      simp [Instr.buildSlice, run_underlying hd, szOf_run hs, h0, hr, newRow]
      rw [h3]; rfl
    · simp [Instr.buildSlice, run_underlying hd, szOf_run hs, show ¬ (n * s > 2 ^ 24) by omega, h0, h1, newRow]
      rw [h3]; rfl
  split
  · obtain ⟨E', r1, r2, r3⟩ := push_cells hR h4 [] e (0, 0) (by simp)
    refine ⟨E', _, _, run, r1, ?_, by simpa using r3⟩
    simp only [VR]
    exact ⟨_, n, 0, r2, rfl, by simp, Nat.le_refl _, by simp, by simp at hlen ⊢; omega⟩
  · obtain ⟨E', r1, r2, r3, r4⟩ := hR.imm cs.toList e l h4 [] (0, 0)
    refine ⟨E', _, _, run, r1, ?_, by simpa using r2⟩
    simp only [VR]
    exact ⟨_, n, rfl, Nat.le_refl _, by simp, .inr ⟨_, 0, rfl, r3⟩⟩

theorem good_store {t : TypeId} {v x : Value} {p : AV} {i off sz : Nat} {l vals : List AV} (hR : Rel w0 S0 E L w) (hs : szOf P t = some sz) (hp : p = .ptr i off) (hv : VR E p v) (hi : L[i]? = some (.cells l))
    (hx : VRL E vals x.cells.toList) (hone : vals.all AV.one = true) (hlen : vals.length = sz) (hlt : off + sz ≤ l.length) :
    ∃ w', (Instr.storeAt t v x).run P w = .ok () w' ∧ Rel w0 S0 E (L.set i (.cells (splice l off vals))) w' := by
  subst hp
  simp only [VR] at hv
  obtain ⟨c, hc, rfl⟩ := hv
  have hl := hx.length
  obtain ⟨w', h1, h2⟩ := store_ok (P := P) (off := off) hR hi hc hx (by simpa using hone) (by omega)
  refine ⟨w', ?_, h2⟩
  have : x.cells.size = sz := by simpa [hlen] using hl
  simp [Instr.storeAt, Instr.sureAddr, storeVar, szOf_run hs, this, h1]

theorem good_un {op : UnOp} {x y : AV} {v : Value} (hR : Rel w0 S0 E L w) (hv : VR E x v) (h : un op x = some y) : Good P w0 S0 E L y w (Op.unary op v) := by
  unfold un at h
  split at h <;> simp at h <;> subst h <;> simp only [VR] at hv <;> subst hv
  · exact .same hR (v := .int _ _) (by simp [Op.unary, Op.intArith]) rfl
  · exact .same hR (v := .bool _) (by simp [Op.unary]) rfl

theorem good_binI {op : BinOp} {t : TypeId} {k : IntKind} {m n : Int} {y : AV} {c : Prop} (hR : Rel w0 S0 E L w) (h : binI op k m n = some (c, y)) (hc : c) :
    Good P w0 S0 E L y w (binOp op t (.int k m) (.int k n)) := by
  cases op <;> simp only [binI, Option.some.injEq, Prod.mk.injEq, reduceCtorEq] at h <;> obtain ⟨rfl, rfl⟩ := h
  case quo => exact .same hR (v := .int _ _) (by simp [binOp, Op.intDiv, hc]) rfl
  case rem => exact .same hR (v := .int _ _) (by simp [binOp, Op.intDiv, hc]) rfl
  case add | sub | mul => exact .same hR (v := .int _ _) (by simp [binOp, Op.intArith]) rfl
  case and | or | xor | andNot => exact .same hR (v := .int _ _) (by simp [binOp, Op.intBits]) rfl
  case eql =>
    refine .same hR (v := .bool (m == n)) (by simp [binOp, Op.intCmp]) ?_
    simp only [VR]; by_cases h : m = n <;> simp [h]
  case neq =>
    refine .same hR (v := .bool (m != n)) (by simp [binOp, Op.intCmp]) ?_
    simp only [VR]; by_cases h : m = n <;> simp [h]
  all_goals exact .same hR (v := .bool _) (by simp [binOp, Op.intCmp]) rfl

theorem good_binS {op : BinOp} {t : TypeId} {x z : List UInt8} {y : AV} {c : Prop} (hR : Rel w0 S0 E L w) (h : binS op x z = some (c, y)) (hc : c) :
    Good P w0 S0 E L y w (binOp op t (.string ⟨⟨x⟩⟩) (.string ⟨⟨z⟩⟩)) := by
  have e1 : (ByteArray.mk ⟨x⟩).toList = x := ByteArray.toList_mk x
  have e2 : (ByteArray.mk ⟨z⟩).toList = z := ByteArray.toList_mk z
  have e3 : (x == z) = decide (x = z) := by by_cases h : x = z <;> simp [h]
  cases op <;> simp only [binS, Option.some.injEq, Prod.mk.injEq, reduceCtorEq] at h <;> obtain ⟨rfl, rfl⟩ := h
  case add =>
    refine .same hR (v := .string ⟨⟨x ++ z⟩⟩) ?_ rfl
    have hs1 : (ByteArray.mk ⟨x⟩).size = x.length := rfl
    have hs2 : (ByteArray.mk ⟨z⟩).size = z.length := rfl
    have hm : ¬ (((x.length + z.length : Nat) : Int) > IntKind.i64.max) := by
      have : IntKind.i64.max = 9223372036854775807 := by decide
      omega
    simp only [binOp, Op.stringOp, hs1, hs2, if_neg hm]
    simp [ByteArray.ext_iff]
  all_goals exact .same hR (v := .bool _) (by simp [binOp, Op.stringOp, e1, e2, e3]; try rfl) rfl

end
end Go.Proofs.YtpednpndahgleaaGreatDoor.Av
