/- Each lowered operation does what it is said to do, part 5. No program in sight. -/
import Derived.Test.YtpednpndahgleaaGreatDoorAvG
set_option linter.unusedSimpArgs false
set_option linter.unusedVariables false
namespace Go.Proofs.YtpednpndahgleaaGreatDoor.Av
open Go

section
variable {P : Program} {w0 : World} {S0 : Nat → Prop} {E : Env} {L : List Blk} {w : World} {T : Tm} {a : Act}

theorem good_mkslice {t e : TypeId} {s b : Nat} {z : List AV} {n m : Int} {k j : IntKind} (hR : Rel w0 S0 E L w) (hd : P.underlying t = some (.slice e)) (hs : szOf P e = some s) (hb : byOf P e = some b) (hz : zOf P e = some z)
    (hzl : z.length = s) (h0 : 0 ≤ n) (h1 : n ≤ m) (h2 : b * m ≤ 2 ^ 48) (h3 : m < 2 ^ 62) :
    Good P w0 S0 E (L ++ [.cells (replC z m.toNat)]) (.lsl L.length 0 n.toNat (some m.toNat) s) w (Instr.makeSlice t (.int k n) (.int j m)) := by
  obtain ⟨v, g1, g2, _⟩ := zOf_run (w := w) (E := E) hz
  have hvl : v.cells.size = s := by have := g2.length; simpa [hzl] using this
  have hrep : VRL E (replC z m.toNat) ((Array.range (m.toNat * s)).map (v.cells[· % v.cells.size]!)).toList := by
    have := repl_rel g2 m.toNat
    simpa [hvl] using this
  obtain ⟨i, hi, hib⟩ : ∃ i, P.info? e = some i ∧ i.bytes = b := by unfold byOf at hb; simpa using hb
  have hty : (typeInfo e).run P w = .ok i w := by simp [typeInfo, hi]
  obtain ⟨E', r1, r2, r3⟩ := push_cells hR hrep [] e (0, 0) (by simp)
  have w1 : IntKind.i64.wrap n = n := by simp only [IntKind.wrap, IntKind.bits, IntKind.signed]; simp; omega
  have w2 : IntKind.i64.wrap m = m := by simp only [IntKind.wrap, IntKind.bits, IntKind.signed]; simp; omega
  refine ⟨E', .slice (some ⟨w.heap.size, 0, none⟩) n.toNat m.toNat, _, ?_, r1, ?_, r3⟩
  · have c1 : (decide (m < 0) || decide ((b : Int) * m > 2 ^ 48)) = false := by simp; omega
    have c2 : (decide (n < 0)) = false := by simp; omega
    have c3 : (decide (n > m)) = false := by simp; omega
    simp only [Instr.makeSlice, Sem.run_bind, run_underlying hd, Result.andThen_ok, asInt, asIntOf, Sem.run_pure, hty, hib, w1, w2, c1, c2, c3, Bool.or_self, Bool.false_eq_true, if_false, run_askRoom, szOf_run hs]
    by_cases h0 : m.toNat * s = 0
    · have hr : Array.range 0 = #[] := rfl
      simp [h0, hr, newRow]
    · simp [h0, g1, newRow]
      congr 2
      apply Array.ext'
      simp
  · simp only [VR]
    refine ⟨_, m.toNat, 0, r2, rfl, by simp, by omega, by simp, ?_⟩
    simp

theorem bnd_run {x : Option Operand} {y : Option Opd} {r : Option Int} (hT : TR E T a) (h : lowXo x = some y) (hb : bnd T y = some r) :
    (x = none ∧ r = none) ∨ ∃ o k n, x = some o ∧ r = some n ∧ a.eval o = .int k n := by
  cases x with
  | none => simp [lowXo] at h; subst h; simp [bnd] at hb; exact .inl ⟨rfl, hb.symm⟩
  | some o =>
    simp only [lowXo, Option.map_eq_some_iff] at h
    obtain ⟨u, h1, rfl⟩ := h
    simp only [bnd] at hb
    split at hb
    · rename_i k n hn
      simp at hb; subst hb
      have := evX_sound h1 hn hT
      simp only [VR] at this
      exact .inr ⟨o, k, n, rfl, rfl, this⟩
    · cases hb

theorem sliceBound_run {k : IntKind} {n : Int} {y : Nat} {c : BoundsCode} (h0 : 0 ≤ n) (h1 : n ≤ y) : (Instr.sliceBound (.int k n) y c).run P w = .ok n.toNat w := by
  simp [Instr.sliceBound, asIntOf, h0, h1]

/-- The bounds of a cut without a third index. -/
theorem sliceBounds_run {b : Bool} {len cap : Nat} {lo hi : Option Operand} {lo' hi' : Option Int} (hlo : (lo = none ∧ lo' = none) ∨ ∃ o k n, lo = some o ∧ lo' = some n ∧ a.eval o = .int k n)
    (hhi : (hi = none ∧ hi' = none) ∨ ∃ o k n, hi = some o ∧ hi' = some n ∧ a.eval o = .int k n) (h0 : 0 ≤ lo'.getD 0) (h1 : lo'.getD 0 ≤ hi'.getD len) (h2 : hi'.getD len ≤ cap) (h3 : len ≤ cap) :
    (Instr.sliceBounds b len cap (lo.map a.eval) (hi.map a.eval) none).run P w = .ok ((lo'.getD 0).toNat, (hi'.getD len).toNat, cap) w := by
  rcases hlo with ⟨rfl, rfl⟩ | ⟨o1, k1, n1, rfl, rfl, e1⟩ <;> rcases hhi with ⟨rfl, rfl⟩ | ⟨o2, k2, n2, rfl, rfl, e2⟩ <;> simp only [Option.getD_none, Option.getD_some] at h0 h1 h2
  · simp [Instr.sliceBounds]
  · simp only [Instr.sliceBounds, Option.map_none, Option.map_some, e2, Sem.run_bind, Sem.run_pure, Result.andThen_ok]
    rw [sliceBound_run (by omega) (by omega)]
    simp
  · simp only [Instr.sliceBounds, Option.map_none, Option.map_some, e1, Sem.run_bind, Sem.run_pure, Result.andThen_ok]
    rw [sliceBound_run (by omega) (by omega)]
    simp
  · simp only [Instr.sliceBounds, Option.map_none, Option.map_some, e1, e2, Sem.run_bind, Sem.run_pure, Result.andThen_ok]
    rw [sliceBound_run (by omega) (by omega)]
    simp only [Result.andThen_ok]
    rw [sliceBound_run (by omega) (by omega)]
    simp

theorem good_slS {t : TypeId} {v : Value} {x : List UInt8} {lo hi : Option Operand} {lo' hi' : Option Int} (hR : Rel w0 S0 E L w) (hd : P.underlying t = some .string) (hv : VR E (.str x) v)
    (hlo : (lo = none ∧ lo' = none) ∨ ∃ o k n, lo = some o ∧ lo' = some n ∧ a.eval o = .int k n)
    (hhi : (hi = none ∧ hi' = none) ∨ ∃ o k n, hi = some o ∧ hi' = some n ∧ a.eval o = .int k n) (h0 : 0 ≤ lo'.getD 0) (h1 : lo'.getD 0 ≤ hi'.getD x.length) (h2 : hi'.getD x.length ≤ x.length) :
    Good P w0 S0 E L (.str ((x.drop (lo'.getD 0).toNat).take ((hi'.getD x.length).toNat - (lo'.getD 0).toNat))) w (Instr.sliceAt t v (lo.map a.eval) (hi.map a.eval) none) := by
  simp only [VR] at hv; subst hv
  have hsz : (ByteArray.mk ⟨x⟩).size = x.length := rfl
  refine .same hR (v := .string ⟨⟨(x.drop (lo'.getD 0).toNat).take ((hi'.getD x.length).toNat - (lo'.getD 0).toNat)⟩⟩) ?_ (by simp [VR])
  have hb := sliceBounds_run (P := P) (w := w) (b := false) hlo hhi h0 h1 h2 (Nat.le_refl _)
  simp only [Instr.sliceAt, Instr.slice, Sem.run_bind, run_underlying hd, Result.andThen_ok, hsz, Option.isSome_none, Bool.false_eq_true, if_false, hb]
  simp only [Sem.run_pure]
  congr 2
  apply ByteArray.ext
  simp

theorem good_faddr {t : TypeId} {fs : Array Field} {f : Nat} {fd : Field} {x : AV} {v : Value} (hR : Rel w0 S0 E L w) (hd : P.underlying t = some (.struct fs)) (hf : fs.toList[f]? = some fd) (hz : (szOf P fd.type).getD 0 ≠ 0) (hv : VR E x v) :
    (∀ i off, x = .ptr i off → Good P w0 S0 E L (.ptr i (off + fd.offset)) w (Instr.fieldAt t v f)) ∧ (∀ l off, x = .iptr l off → Good P w0 S0 E L (.iptr l (off + fd.offset)) w (Instr.fieldAt t v f)) := by
  obtain ⟨n, hn⟩ : ∃ n, szOf P fd.type = some n := by
    rcases h : szOf P fd.type with _ | n
    · simp [h] at hz
    · exact ⟨n, rfl⟩
  simp only [hn, Option.getD_some] at hz
  rw [Array.getElem?_toList] at hf
  have run : ∀ b o, (Instr.fieldAt t (.pointer (some ⟨b, o, none⟩)) f).run P w = .ok (.pointer (some ⟨b, o + fd.offset, none⟩)) w := fun b o => by
    simp [Instr.fieldAt, run_underlying hd, hf, Instr.sureAddr, fieldPlace, szOf_run hn, hz, Addr.add_mk]
  refine ⟨fun i off e => ?_, fun l off e => ?_⟩ <;> subst e <;> simp only [VR] at hv
  · obtain ⟨c, h1, rfl⟩ := hv
    exact .same hR (run _ _) ⟨c, h1, by rw [Nat.add_assoc]⟩
  · obtain ⟨b, o, rfl, h1⟩ := hv
    exact .same hR (run _ _) ⟨b, o, by rw [Nat.add_assoc], h1⟩

theorem good_field {t : TypeId} {fs : Array Field} {f sz : Nat} {g : Bool} {fd : Field} {l : List AV} {v : Value} (hR : Rel w0 S0 E L w) (hd : P.underlying t = some (.struct fs)) (hf : fs.toList[f]? = some fd) (hg : isAggT P fd.type = some g) (hs : szOf P fd.type = some sz) (hv : VR E (.agg l) v) :
    (g = true → fd.offset + sz ≤ l.length → Good P w0 S0 E L (.agg ((l.drop fd.offset).take sz)) w (Instr.field t v f)) ∧ (g = false → fd.offset < l.length → Good P w0 S0 E L (l.getD fd.offset .undef) w (Instr.field t v f)) := by
  rw [Array.getElem?_toList] at hf
  simp only [VR] at hv
  obtain ⟨vs, rfl, hvs⟩ := hv
  refine ⟨fun e hlt => ?_, fun e hlt => ?_⟩ <;> subst e
  · refine .same hR (v := .agg ((⟨vs⟩ : Array Value).extract fd.offset (fd.offset + sz))) (by simp [Instr.field, run_underlying hd, hf, asAgg, part, isAgg_run hg, szOf_run hs]) ?_
    simp only [VR]
    refine ⟨(vs.drop fd.offset).take sz, by simp, VRL.of_get (by simp [hvs.length]) fun i x hx => ?_⟩
    have hi : i < sz := by have := (List.getElem?_eq_some_iff.1 hx).1; simp at this; omega
    rw [List.getElem?_take_of_lt hi, List.getElem?_drop] at hx ⊢
    exact hvs.get hx
  · obtain ⟨x, h1, h2⟩ := hvs.get (List.getElem?_eq_getElem hlt)
    refine .same hR (v := x) (by simp [Instr.field, run_underlying hd, hf, asAgg, part, isAgg_run hg, h1]) ?_
    rw [List.getD_eq_getElem?_getD, List.getElem?_eq_getElem hlt]; exact h2

theorem good_iaddr {t e : TypeId} {sz : Nat} {x : AV} {v : Value} {j : IntKind} {k : Int} (hR : Rel w0 S0 E L w) (hd : P.underlying t = some (.slice e)) (hs : szOf P e = some sz) (hv : VR E x v) (h0 : 0 ≤ k) :
    (∀ l n c, x = .sl l n c → k < n → Good P w0 S0 E L (.iptr l (k.toNat * sz)) w (Instr.indexAt t v (.int j k))) ∧
    (∀ i off n c s, x = .lsl i off n c s → k < n → Good P w0 S0 E L (.ptr i (off + k.toNat * sz)) w (Instr.indexAt t v (.int j k))) := by
  have run : ∀ b o n c, k < (n : Nat) → (Instr.indexAt t (.slice (some ⟨b, o, none⟩) n c) (.int j k)).run P w = .ok (.pointer (some ⟨b, o + k.toNat * sz, none⟩)) w := fun b o n c hk => by
    simp [Instr.indexAt, asIntOf, run_underlying hd, h0, hk, szOf_run hs, Addr.add_mk]
  refine ⟨fun l n c e hk => ?_, fun i off n c s e hk => ?_⟩ <;> subst e <;> simp only [VR] at hv
  · obtain ⟨p, k', rfl, h1, h2, h3⟩ := hv
    rcases h3 with ⟨rfl, rfl, rfl⟩ | ⟨b, o, rfl, h3⟩
    · omega
    · exact .same hR (run _ _ _ _ hk) ⟨b, o, rfl, h3⟩
  · obtain ⟨c', rc, d, h1, rfl, h2, h3, h4⟩ := hv
    have := h2 (by omega)
    subst this
    exact .same hR (run _ _ _ _ hk) ⟨c', h1, by rw [Nat.add_assoc]⟩

theorem good_iaddrA {t e : TypeId} {sz n : Nat} {x : AV} {v : Value} {j : IntKind} {k : Int} (hR : Rel w0 S0 E L w) (hd : P.underlying t = some (.array n e)) (hs : szOf P e = some sz) (hv : VR E x v) (h0 : 0 ≤ k) (hk : k < n) :
    (∀ l off, x = .iptr l off → Good P w0 S0 E L (.iptr l (off + k.toNat * sz)) w (Instr.indexAt t v (.int j k))) ∧
    (∀ i off, x = .ptr i off → Good P w0 S0 E L (.ptr i (off + k.toNat * sz)) w (Instr.indexAt t v (.int j k))) := by
  have run : ∀ b o, (Instr.indexAt t (.pointer (some ⟨b, o, none⟩)) (.int j k)).run P w = .ok (.pointer (some ⟨b, o + k.toNat * sz, none⟩)) w := fun b o => by
    simp [Instr.indexAt, asIntOf, run_underlying hd, h0, hk, szOf_run hs, Addr.add_mk, Instr.sureAddr]
  refine ⟨fun l off e => ?_, fun i off e => ?_⟩ <;> subst e <;> simp only [VR] at hv
  · obtain ⟨b, o, rfl, h3⟩ := hv
    exact .same hR (run _ _) ⟨b, o, by rw [Nat.add_assoc], h3⟩
  · obtain ⟨c', h1, rfl⟩ := hv
    exact .same hR (run _ _) ⟨c', h1, by rw [Nat.add_assoc]⟩

theorem good_idxS {t : TypeId} {s : List UInt8} {v : Value} {j : IntKind} {k : Int} (hR : Rel w0 S0 E L w) (hd : P.underlying t = some .string) (hv : VR E (.str s) v) (h0 : 0 ≤ k) (hk : k < s.length) :
    Good P w0 S0 E L (.int .u8 (s.getD k.toNat 0).toNat) w (Instr.index t v (.int j k)) := by
  simp only [VR] at hv; subst hv
  have hk' : k.toNat < s.length := by omega
  refine .same hR (v := .int .u8 (s[k.toNat]).toNat) ?_ (by simp [VR, hk'])
  have : (ByteArray.mk ⟨s⟩)[k.toNat]? = some s[k.toNat] := by
    have hsz : k.toNat < (ByteArray.mk ⟨s⟩).size := hk'
    rw [getElem?_pos (ByteArray.mk ⟨s⟩) k.toNat hsz]
    rfl
  simp [Instr.index, asIntOf, run_underlying hd, h0, this]

theorem good_extract {l : List AV} {i : Nat} {x : AV} {v : Value} (hR : Rel w0 S0 E L w) (hv : VR E (.tup l) v) (h : l[i]? = some x) : Good P w0 S0 E L x w (Instr.extract v i) := by
  simp only [VR] at hv
  obtain ⟨vs, rfl, hvs⟩ := hv
  obtain ⟨y, h1, h2⟩ := hvs.get h
  exact .same hR (v := y) (by simp [Instr.extract, h1]) h2

end
end Go.Proofs.YtpednpndahgleaaGreatDoor.Av
