/- Each lowered operation does what it is said to do, part 4. No program in sight. -/
import Derived.Test.YtpednpndahgleaaGreatDoorAvF
set_option linter.unusedSimpArgs false
set_option linter.unusedVariables false
namespace Go.Proofs.YtpednpndahgleaaGreatDoor.Av
open Go

section
variable {P : Program} {w0 : World} {S0 : Nat → Prop} {E : Env} {L : List Blk} {w : World} {T : Tm} {a : Act}

theorem bytes_fold : ∀ (l : List AV) (cs : List Value) (s : ByteArray), VRL E l cs → l.all isU8 = true →
    ((forIn (m := Sem) cs s fun c r => match c with
      | .int .u8 n => pure (.yield (r.push (UInt8.ofNat n.toNat)))
      | _ => do
        stuck (α := PUnit) "bytesToString: byte expected"
        pure (.yield r)) : Sem ByteArray).run P w = .ok ⟨s.data ++ (l.map u8of).toArray⟩ w
  | [], cs, s, h, _ => by simp only [VRL] at h; subst h; simp
  | a :: l, cs, s, h, hb => by
    simp only [VRL] at h
    obtain ⟨x, xs, rfl, h2, h3⟩ := h
    simp only [List.all_cons, Bool.and_eq_true] at hb
    obtain ⟨hb1, hb2⟩ := hb
    have : ∃ n, a = .int .u8 n := by
      unfold isU8 at hb1
      split at hb1
      · exact ⟨_, rfl⟩
      · cases hb1
    obtain ⟨n, rfl⟩ := this
    simp only [VR] at h2; subst h2
    have ih := bytes_fold l xs (s.push (UInt8.ofNat n.toNat)) h3 hb2
    simp only [List.forIn_cons, Sem.run_bind, Sem.run_pure, Result.andThen_ok]
    rw [ih]
    congr 1
    simp [ByteArray.push, u8of]

theorem freeze_push (w : World) (c : Array Value) (e : TypeId) : World.freeze { w with heap := w.heap.push (.cells c e) } ⟨w.heap.size, c.size, none⟩ 1 = { w with heap := w.heap.push (.cells c e (c.size, c.size + 1)) } := by
  simp only [World.freeze, Nat.one_ne_zero, if_false]
  congr 1
  apply Array.ext_getElem?
  intro i
  rw [Array.getElem?_modify]
  by_cases h : w.heap.size = i
  · subst h; simp
  · rw [if_neg h, Array.getElem?_push, Array.getElem?_push, if_neg (fun e => h e.symm), if_neg (fun e => h e.symm)]

theorem shape_push (w : World) (c : Array Value) (e : TypeId) : World.shape? { w with heap := w.heap.push (.cells c e) } w.heap.size = some (e, c.size) := by
  simp only [World.shape?, Array.getElem?_push_size]

theorem good_b2s {s d e : TypeId} {x : AV} {v : Value} {c : Prop} {l : List AV} {n : Nat} (hR : Rel w0 S0 E L w) (hs : P.underlying s = some (.slice e)) (he : P.underlying e = some (.int .u8)) (hd : P.underlying d = some .string)
    (hv : VR E x v) (h : elems L 1 x = some (c, l, n)) (hc : c) (hb : l.all isU8 = true) (hx : ∀ t, x ≠ .str t) : Good P w0 S0 E L (.str (l.map u8of)) w (convert s d v) := by
  obtain ⟨h1, h2, cs, h3, h4⟩ := elems_cells (P := P) hR hv h hc
  refine .same hR (v := .string ⟨⟨l.map u8of⟩⟩) ?_ (by simp [VR])
  have hsl : ∃ a n c, v = .slice a n c := by
    cases x <;> simp [elems] at h
    · exact absurd rfl (hx _)
    · simp only [VR] at hv; exact ⟨_, _, _, hv⟩
    · simp only [VR] at hv; obtain ⟨_, _, rfl, _⟩ := hv; exact ⟨_, _, _, rfl⟩
    · obtain ⟨_, _, rfl⟩ := hv.lsl_shape; exact ⟨_, _, _, rfl⟩
    · simp only [VR] at hv; obtain ⟨_, _, rfl, _⟩ := hv; exact ⟨_, _, _, rfl⟩
  obtain ⟨a, m, k, rfl⟩ := hsl
  have hm : m = n := by simpa [Builtin.lenOf] using h1
  subst hm
  have hcv : (convert s d (.slice a m k)).run P w = (Conv.bytesToString (.slice a m k)).run P w := by
    simp [convert, run_underlying hs, run_underlying hd, run_underlying he]
  rw [hcv]
  cases a with
  | none =>
    have : cs = [] := by simpa [Builtin.firstCells] using h4.symm
    subst this
    have hl : l = [] := by have := h3.length; simpa using this.symm
    subst hl
    simp [Conv.bytesToString]; rfl
  | some p =>
    simp only [Builtin.firstCells, Nat.mul_one] at h4
    simp only [Conv.bytesToString, Sem.run_bind, h4, Result.andThen_ok]
    have := bytes_fold (P := P) (w := w) l cs ByteArray.empty h3 hb
    rw [show (⟨cs⟩ : Array Value) = cs.toArray from rfl, List.forIn_toArray]
    refine (congrArg (fun r => Result.andThen r fun a w' => (Pure.pure (Value.string a) : Sem Value).run P w') this).trans ?_
    simp

theorem good_s2b {s d e : TypeId} {v : Value} {x : List UInt8} (hR : Rel w0 S0 E L w) (hs : P.underlying s = some .string) (hd : P.underlying d = some (.slice e)) (he : P.underlying e = some (.int .u8)) (hv : VR E (.str x) v) :
    Good P w0 S0 E L (.sl (u8s x) x.length none) w (convert s d v) := by
  simp only [VR] at hv; subst hv
  have hsz : (ByteArray.mk ⟨x⟩).size = x.length := rfl
  obtain ⟨cap, hcap⟩ : ∃ cap, cap = (Question.appendCap x.length 0 e).cut (w.tape w.drawn (.appendCap x.length 0 e)) := ⟨_, rfl⟩
  have hge : x.length ≤ cap := by rw [hcap]; simp [Question.cut]
  have hrel : VRL E (u8s x) (x.map fun b => Value.int .u8 b.toNat) := VRL.of_get (by simp [u8s]) fun i a ha => by
    simp only [u8s, List.getElem?_map, Option.map_eq_some_iff] at ha ⊢
    obtain ⟨b, h1, rfl⟩ := ha
    exact ⟨_, ⟨b, h1, rfl⟩, rfl⟩
  have hR' : Rel w0 S0 E L { w with drawn := w.drawn + 1 } := ⟨hR.mem, fun i k hk => BRel.world (fun _ _ => rfl) (fun _ _ _ _ => rfl) (hR.blk i k hk), hR.fresh, hR.own, hR.inj, hR.tkfresh, hR.tkown, hR.tkloc, hR.tkinj, hR.frame, hR.size, hR.os, hR.tape, hR.output, hR.glob, hR.gsz⟩
  obtain ⟨E2, q1, q2, q3, _⟩ := hR'.imm (x.map fun b => Value.int .u8 b.toNat) e (u8s x) hrel (List.replicate (cap - x.length) (.int .u8 0)) (x.length + (cap - x.length), x.length + (cap - x.length) + 1)
  have key : (convert s d (.string ⟨⟨x⟩⟩)).run P w = .ok (.slice (some ⟨w.heap.size, 0, none⟩) x.length cap) { w with heap := w.heap.push (.cells ⟨(x.map fun b => Value.int .u8 b.toNat) ++ List.replicate (cap - x.length) (.int .u8 0)⟩ e (x.length + (cap - x.length), x.length + (cap - x.length) + 1)), drawn := w.drawn + 1 } := by
    have hdata : ((ByteArray.mk ⟨x⟩).data.map fun b => Value.int .u8 b.toNat) ++ Array.replicate (cap - x.length) (.int .u8 0) = ⟨(x.map fun b => Value.int .u8 b.toNat) ++ List.replicate (cap - x.length) (.int .u8 0)⟩ := by
      apply Array.ext'
      simp
    have hcs : (convert s d (.string ⟨⟨x⟩⟩)).run P w = (Conv.stringToBytes e ⟨⟨x⟩⟩).run P w := by
      simp only [convert, Sem.run_bind, run_underlying hs, run_underlying hd, Result.andThen_ok, run_underlying he]
    rw [hcs]
    unfold Conv.stringToBytes
    simp only [Sem.run_bind, run_choose, Question.forced, hsz, ← hcap, hdata, newRow, run_newObj, Result.andThen_ok, Sem.run_pure, markStringish, run_shape, Bool.false_eq_true, if_false]
    rw [shape_push { w with drawn := w.drawn + 1 }]
    simp only [run_freeze, Result.andThen_ok]
    rw [freeze_push { w with drawn := w.drawn + 1 }]
    simp
  refine ⟨E2, .slice (some ⟨w.heap.size, 0, none⟩) x.length cap, _, key, q1, ?_, q2⟩
  · simp only [VR]
    exact ⟨_, cap, rfl, hge, by simp, .inr ⟨_, 0, rfl, q3⟩⟩

theorem good_s2bO {s d e : TypeId} {v : Value} {x : List UInt8} (hR : Rel w0 S0 E L w) (hs : P.underlying s = some .string) (hd : P.underlying d = some (.slice e)) (he : P.underlying e = some (.int .u8)) (hv : VR E (.str x) v) :
    Good P w0 S0 E (L ++ [.cells (u8s x)]) (.lsl L.length 0 x.length none 1) w (convert s d v) := by
  simp only [VR] at hv; subst hv
  have hsz : (ByteArray.mk ⟨x⟩).size = x.length := rfl
  obtain ⟨cap, hcap⟩ : ∃ cap, cap = (Question.appendCap x.length 0 e).cut (w.tape w.drawn (.appendCap x.length 0 e)) := ⟨_, rfl⟩
  have hge : x.length ≤ cap := by rw [hcap]; simp [Question.cut]
  have hrel : VRL E (u8s x) (x.map fun b => Value.int .u8 b.toNat) := VRL.of_get (by simp [u8s]) fun i a ha => by
    simp only [u8s, List.getElem?_map, Option.map_eq_some_iff] at ha ⊢
    obtain ⟨b, h1, rfl⟩ := ha
    exact ⟨_, ⟨b, h1, rfl⟩, rfl⟩
  have hR' : Rel w0 S0 E L { w with drawn := w.drawn + 1 } := ⟨hR.mem, fun i k hk => BRel.world (fun _ _ => rfl) (fun _ _ _ _ => rfl) (hR.blk i k hk), hR.fresh, hR.own, hR.inj, hR.tkfresh, hR.tkown, hR.tkloc, hR.tkinj, hR.frame, hR.size, hR.os, hR.tape, hR.output, hR.glob, hR.gsz⟩
  obtain ⟨E2, q1, q2, q3⟩ := push_cells hR' hrel (List.replicate (cap - x.length) (.int .u8 0)) e (x.length + (cap - x.length), x.length + (cap - x.length) + 1) (by simp; omega)
  have key : (convert s d (.string ⟨⟨x⟩⟩)).run P w = .ok (.slice (some ⟨w.heap.size, 0, none⟩) x.length cap) { w with heap := w.heap.push (.cells ⟨(x.map fun b => Value.int .u8 b.toNat) ++ List.replicate (cap - x.length) (.int .u8 0)⟩ e (x.length + (cap - x.length), x.length + (cap - x.length) + 1)), drawn := w.drawn + 1 } := by
    have hdata : ((ByteArray.mk ⟨x⟩).data.map fun b => Value.int .u8 b.toNat) ++ Array.replicate (cap - x.length) (.int .u8 0) = ⟨(x.map fun b => Value.int .u8 b.toNat) ++ List.replicate (cap - x.length) (.int .u8 0)⟩ := by
      apply Array.ext'
      simp
    have hcs : (convert s d (.string ⟨⟨x⟩⟩)).run P w = (Conv.stringToBytes e ⟨⟨x⟩⟩).run P w := by
      simp only [convert, Sem.run_bind, run_underlying hs, run_underlying hd, Result.andThen_ok, run_underlying he]
    rw [hcs]
    unfold Conv.stringToBytes
    simp only [Sem.run_bind, run_choose, Question.forced, hsz, ← hcap, hdata, newRow, run_newObj, Result.andThen_ok, Sem.run_pure, markStringish, run_shape, Bool.false_eq_true, if_false]
    rw [shape_push { w with drawn := w.drawn + 1 }]
    simp only [run_freeze, Result.andThen_ok]
    rw [freeze_push { w with drawn := w.drawn + 1 }]
    simp
  refine ⟨E2, .slice (some ⟨w.heap.size, 0, none⟩) x.length cap, _, key, q1, ?_, q3⟩
  simp only [VR]
  refine ⟨_, cap, 0, q2, rfl, by simp, hge, by simp, ?_⟩
  simp; omega

/-! texts that are gone through rune by rune -/
theorem good_rangeS {t : TypeId} {v : Value} {x : List UInt8} (hR : Rel w0 S0 E L w) (ht : P.underlying t = some .string) (hv : VR E (.str x) v) :
    Good P w0 S0 E (L ++ [.siter x 0]) (.ptr L.length 0) w (Instr.range t v) := by
  simp only [VR] at hv; subst hv
  have hn : E.loc L.length = none := hR.fresh _ (Nat.le_refl _)
  have := hR.push (.stringIter ⟨⟨x⟩⟩ 0) (.siter x 0) ⟨w.heap.size, 0, 0⟩ rfl rfl ⟨⟨w.heap.size, 0, 0⟩, by simp, by simp, rfl⟩
  refine ⟨_, .pointer (some ⟨w.heap.size, 0, none⟩), _, ?_, this.1, ?_, this.2⟩
  · simp [Instr.range, run_underlying ht]
  · simp only [VR]
    exact ⟨⟨w.heap.size, 0, 0⟩, by simp, rfl⟩

theorem good_nextS {t : TypeId} {v : Value} {i p : Nat} {x : List UInt8} (hR : Rel w0 S0 E L w) (hi : L[i]? = some (.siter x p)) (hv : VR E (.ptr i 0) v) :
    Good P w0 S0 E (if p < x.length then L.set i (.siter x (p + (decU x p).2)) else L) (if p < x.length then .tup [.bool true, .int .i64 (p : Int), .int .i32 ((decU x p).1 : Int)] else .tup [.bool false]) w (Instr.next v true t) := by
  simp only [VR] at hv
  obtain ⟨c, hc, rfl⟩ := hv
  obtain ⟨c', h1, h2, h3⟩ := hR.blk i _ hi
  rw [hc] at h1; cases h1
  have hsz : (ByteArray.mk ⟨x⟩).size = x.length := rfl
  have hlt : c.blk < w.heap.size := (Array.getElem?_eq_some_iff.1 h2).1
  have hg : (getObj c.blk).run P w = .ok (.stringIter ⟨⟨x⟩⟩ p) w := by simp [getObj, Sem.run, h2]
  have hso : ∀ o, (setObj c.blk o).run P w = .ok () { w with heap := w.heap.setIfInBounds c.blk o } := fun o => by simp [setObj, Sem.run, h2]
  rw [h3]
  by_cases hp : p < x.length
  · rw [if_pos hp, if_pos hp]
    have := hR.turn (w' := { w with heap := w.heap.setIfInBounds c.blk (.stringIter ⟨⟨x⟩⟩ (p + (decU x p).2)) }) (k' := .siter x (p + (decU x p).2)) hi rfl hc (by simp) (fun b hb => by simp [Array.getElem?_setIfInBounds, Ne.symm hb]) rfl rfl rfl
      ⟨c, hc, by simp [hlt], h3⟩ (fun _ _ e => by cases e)
    refine ⟨E, .tuple #[.bool true, goInt p, .int .i32 ((decU x p).1 : Int)], _, ?_, .refl E, ?_, this⟩
    · simp [Instr.next, hg, hsz, hp, hso, decU]
    · simp [VR, VRL, goInt]
  · rw [if_neg hp, if_neg hp]
    refine .same hR (v := .tuple #[.bool false]) (by simp [Instr.next, hg, hsz, hp]) ?_
    simp [VR, VRL]

end
end Go.Proofs.YtpednpndahgleaaGreatDoor.Av
