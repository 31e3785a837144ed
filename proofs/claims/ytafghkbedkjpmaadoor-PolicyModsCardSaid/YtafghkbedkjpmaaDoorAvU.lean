/- slices.overlaps, of two rows of which one is the call's own. No program in sight. -/
import Derived.Test.YtafghkbedkjpmaaDoorAvT
import Derived.Laws.Externs
import Derived.Lib.Overlaps
set_option linter.unusedSimpArgs false
set_option linter.unusedVariables false
namespace Go.Proofs.YtafghkbedkjpmaaDoor.Av
open Go

theorem run_overlaps_own {P : Program} (w : World) (tS tR e : TypeId) (ht : P.underlying tS = some (.slice e)) (size : Nat) (hz : ∀ w, (Go.sizeOf e).run P w = .ok size w)
    (a b : Addr) (la ca lb cb : Nat) (hne : a.block ≠ b.block) (tA tB : TypeId) (kA kB : Nat)
    (hsa : w.shape? a.block = some (tA, kA)) (hsb : w.shape? b.block = some (tB, kB)) (hkA : kA ≠ 0)
    (hfb : w.frozen? b = false) (hfe : w.frozen? { block := b.block, off := kB } = false) :
    (Extern.SlicesOverlaps.overlaps #[tS, tS] #[tR] #[.slice (some a) la ca, .slice (some b) lb cb]).run P w = .ok (.bool false) w := by
  have hnb : (a.block != b.block) = true := by simpa using hne
  have hnb' : (a.block == b.block) = false := by simpa using hne
  change Sem.run P (α := Value) (do
    let some t := (#[tS, tS] : Array TypeId)[0]? | stuck "slices.overlaps: no parameter types"
    let .slice elem ← underlying t | stuck "slices.overlaps: slice type expected"
    let size ← sizeOf elem
    match (some a : Option Addr), (some b : Option Addr) with
    | some a, some b =>
      if la = 0 ∨ lb = 0 ∨ size = 0 then pure (Value.bool false)
      else if a.block != b.block && (← frozen a) && (← frozen b) then unsupported .addressObserved
      else do
        if a.block != b.block then do
          noView a; noView b
          if ← mayBeOne a b then return Value.bool ((← choose (.extern "sameAddr.stringBytes" 2)) == 1)
        pure (Value.bool (a.block == b.block && a.off < b.off + lb * size && b.off < a.off + la * size))
    | _, _ => pure (Value.bool false)) w = _
  by_cases h0 : la = 0 ∨ lb = 0 ∨ size = 0
  · simp [run_underlying ht, hz, h0]
  · cases kA with
    | zero => exact absurd rfl hkA
    | succ kA =>
      cases hfa : w.frozen? a <;> cases hma : w.frozen? { block := a.block, off := kA + 1 } <;>
        simp [run_underlying ht, hz, h0, hnb, hnb', frozen, noView, viewAt, mayBeOne, stringish, shape, Sem.run, hsa, hsb, hfb, hfe, hfa, hma]

theorem run_overlaps_none {P : Program} (w : World) (tS tR e : TypeId) (ht : P.underlying tS = some (.slice e)) (size : Nat) (hz : ∀ w, (Go.sizeOf e).run P w = .ok size w) (a b : Option Addr) (la ca lb cb : Nat) (h : a = none ∨ b = none ∨ la = 0 ∨ lb = 0) :
    (Extern.SlicesOverlaps.overlaps #[tS, tS] #[tR] #[.slice a la ca, .slice b lb cb]).run P w = .ok (.bool false) w := by
  change Sem.run P (α := Value) (do
    let some t := (#[tS, tS] : Array TypeId)[0]? | stuck "slices.overlaps: no parameter types"
    let .slice elem ← underlying t | stuck "slices.overlaps: slice type expected"
    let size ← sizeOf elem
    match a, b with
    | some a, some b =>
      if la = 0 ∨ lb = 0 ∨ size = 0 then pure (Value.bool false)
      else if a.block != b.block && (← frozen a) && (← frozen b) then unsupported .addressObserved
      else do
        if a.block != b.block then do
          noView a; noView b
          if ← mayBeOne a b then return Value.bool ((← choose (.extern "sameAddr.stringBytes" 2)) == 1)
        pure (Value.bool (a.block == b.block && a.off < b.off + lb * size && b.off < a.off + la * size))
    | _, _ => pure (Value.bool false)) w = _
  cases a <;> cases b
  · simp [run_underlying ht, hz]
  · simp [run_underlying ht, hz]
  · simp [run_underlying ht, hz]
  · have h0 : la = 0 ∨ lb = 0 ∨ size = 0 := by rcases h with h | h | h | h <;> simp_all
    simp [run_underlying ht, hz, h0]

/-- slices.overlaps, of a row that stays and one of the call's own: they don't. -/
theorem overlaps_k {P : Program} {f : FuncId} {fn : Func} {tS tR e : TypeId} {sz : Nat} (hf : P.funcs[f]? = some fn) (hname : (fn.name == "runtime.NumGoroutine") = false) (hb : fn.body.isNone = true) (hn : Extern.findNext fn = none)
    (he : Extern.find fn = some (Extern.SlicesOverlaps.overlaps #[tS, tS] #[tR])) (ht : P.underlying tS = some (.slice e)) (hs : szOf P e = some sz)
    {l : List AV} {n : Nat} {cap : Option Nat} {i off m s : Nat} {cp : Option Nat} {l2 : List AV} {L : List Blk} {K : AV → List Blk → Prop} (hl : n = 0 ∨ l ≠ []) (hL : L[i]? = some (.cells l2)) (hpos : 0 < s) (h : K (.bool false) L) :
    ACall P f [.sl l n cap, .lsl i off m cp s] L K := fun w0 S0 E w vs hR hv => by
  simp only [VRL] at hv
  obtain ⟨v1, vs1, rfl, h1, v2, vs2, rfl, h2, rfl⟩ := hv
  refine .inr ⟨E, .bool false, .bool false, L, w, ?_, .refl E, h, by simp [VR], hR⟩
  rw [run_callFunc_extern hf hname hb hn he]
  have key : (Extern.SlicesOverlaps.overlaps #[tS, tS] #[tR] #[v1, v2]).run P w = .ok (.bool false) w := by
    simp only [VR] at h1 h2
    obtain ⟨p, c, rfl, a1, _, a3⟩ := h1
    obtain ⟨k, rc, d, b1, rfl, b2, b3, _, b5⟩ := h2
    have none := run_overlaps_none (P := P) w tS tR e ht sz (fun _ => szOf_run hs)
    rcases a3 with ⟨rfl, _⟩ | ⟨b, o, rfl, a3⟩
    · exact none _ _ _ _ _ _ (.inr (.inr (.inl rfl)))
    by_cases hn0 : n = 0
    · exact none _ _ _ _ _ _ (.inr (.inr (.inl hn0)))
    by_cases hm0 : m = 0
    · exact none _ _ _ _ _ _ (.inr (.inr (.inr hm0)))
    have hl' : l ≠ [] := hl.resolve_left hn0
    obtain ⟨x, l', rfl⟩ : ∃ x l', l = x :: l' := by
      cases l with
      | nil => exact absurd rfl hl'
      | cons x l' => exact ⟨x, l', rfl⟩
    obtain ⟨⟨y, hm, _⟩, _⟩ := a3
    have hcell := hR.mem _ _ _ hm
    have hd := b2 (by omega)
    subst hd
    obtain ⟨k', cs, ty, fr, c1, c2, c3, c4, c5, c6⟩ := hR.blk i _ hL
    rw [b1] at c1; cases c1
    have hown := (hR.own i _ k hL rfl b1).1
    have hne : b ≠ k.blk := fun e => by subst e; rw [hown o] at hm; cases hm
    have hshape : ∃ t n, n ≠ 0 ∧ w.shape? b = some (t, n) := by
      simp only [World.cell?] at hcell
      unfold World.shape?
      split at hcell
      · rename_i cs' _ _ hq
        have : o < cs'.size := (Array.getElem?_eq_some_iff.1 hcell).1
        exact ⟨_, _, by omega, rfl⟩
      · cases hcell
    obtain ⟨tA, kA, q1, q2⟩ := hshape
    have hms : 0 < rc * s := Nat.mul_pos (by omega) hpos
    refine run_overlaps_own w tS tR e ht sz (fun _ => szOf_run hs) ⟨b, o, Option.none⟩ ⟨k.blk, k.off + off, Option.none⟩ n c m rc hne tA ty kA k.size q2 (by simp [World.shape?, c2, c3]) q1 ?_ ?_
    · have := c6 (k.off + off) (by omega) (by omega)
      simp [World.frozen?, c2]; omega
    · have := c6 k.size (by omega) (Nat.le_refl _)
      simp [World.frozen?, c2]; omega
  show (Sem.run P (Extern.SlicesOverlaps.overlaps #[tS, tS] #[tR] #[v1, v2]) w).andThen _ = _
  rw [key]; rfl

section
variable {P : Program} {w0 : World} {S0 : Nat → Prop} {E : Env} {L : List Blk} {w : World}

/-- The call hands back a new block: the first one behind the caller's; of the caller's own some have turned. -/
theorem Fin_ownT {L0 L1 L2 : List Blk} {r : AV} {Q : AV → List Blk → Prop} (k : Nat) (b : Blk) (hlv : b.live = true) (hl : L1.length = L0.length) (hkr : (∀ k ∈ L0, k.refs (fun i => decide (i < L0.length)) = true) → ∀ k ∈ L1, k.refs (fun i => decide (i < L0.length)) = true) (hk : L0.length ≤ k) (hL : (L1 ++ L2)[k]? = some b) (hr : r.refs (fun i => decide (i < L0.length) || decide (i = k)) = true)
    (hb : b.refs (fun i => decide (i < L0.length)) = true)
    (h : Q (r.ren fun i => if i = k then L0.length else i) (L1 ++ [b])) : Fin L0 r (L1 ++ L2) Q := fun w0 S0 E0 E w v h0 hn hw hR hv => by
  replace hw := hkr hw
  rw [← hl] at hk hr hb hw hn h
  have lenL : (L1 ++ [b]).length = L1.length + 1 := by simp
  have hg : ∀ i, i < L1.length → (fun i => if i < L1.length then i else k) i = i := fun i hi => if_pos hi
  have hloc : ∀ i c, (decide (i < L1.length) || decide (i = k)) = true → E.loc i = some c → (E.res (L1 ++ [b]).length (fun i => if i < L1.length then i else k)).loc (if i = k then L1.length else i) = some c := by
    intro i c hi hc
    by_cases e : i = k
    · subst e
      rw [if_pos rfl, Env.res_loc (by omega), if_neg (by omega)]; exact hc
    · simp only [e, decide_false, Bool.or_false, decide_eq_true_eq] at hi
      rw [if_neg e, Env.res_loc (by omega), if_pos hi]; exact hc
  have htok : ∀ i c, (decide (i < L1.length) || decide (i = k)) = true → E.tok i = some c → (E.res (L1 ++ [b]).length (fun i => if i < L1.length then i else k)).tok (if i = k then L1.length else i) = some c := by
    intro i c hi hc
    by_cases e : i = k
    · subst e
      rw [if_pos rfl, Env.res_tok (by omega), if_neg (by omega)]; exact hc
    · simp only [e, decide_false, Bool.or_false, decide_eq_true_eq] at hi
      rw [if_neg e, Env.res_tok (by omega), if_pos hi]; exact hc
  have low : ∀ (i : Nat) (c : Blk), (L1 ++ [b])[i]? = some c → (i < L1.length ∧ L1[i]? = some c) ∨ (i = L1.length ∧ c = b) := fun i c hc => by
    rw [List.getElem?_append] at hc
    split at hc
    · rename_i hi; exact .inl ⟨hi, hc⟩
    · have hi' : i = L1.length := by
        rcases Nat.lt_or_ge (i - L1.length) 1 with h1 | h1
        · omega
        · rw [List.getElem?_eq_none (by simpa using h1)] at hc; cases hc
      subst hi'
      simp at hc; exact .inr ⟨rfl, hc.symm⟩
  have hren := hR.renum (L' := L1 ++ [b]) (fun i => if i < L1.length then i else k) (fun i j hi hj e => by
    rw [lenL] at hi hj
    split at e <;> split at e <;> omega) (fun i n sz hi => by
    rcases low i _ hi with ⟨h1, h2⟩ | ⟨h1, h2⟩
    · rw [if_pos h1, List.getElem?_append_left h1]; exact h2
    · subst h2; simp [Blk.live] at hlv) (fun i c hc hlive => by
    rcases low i _ hc with ⟨h1, h2⟩ | ⟨h1, h2⟩
    · have h3 : (L1 ++ L2)[i]? = some c := by rw [List.getElem?_append_left h1]; exact h2
      refine ⟨c, by rw [if_pos h1]; exact h3, hlive, ?_⟩
      refine BRel.cut (E := E) (E' := E.res (L1 ++ [b]).length (fun i => if i < L1.length then i else k)) (p := fun i => decide (i < L1.length)) (fun _ _ _ x => x) (fun j c hj hc => ?_) (fun j c hj hc => ?_) (fun c hc => ?_) hlive (hw c (List.mem_of_getElem? h2)) (hR.blk i c h3)
      · have hj : j < L1.length := by simpa using hj
        rw [Env.res_loc (by omega), if_pos hj]; exact hc
      · have hj : j < L1.length := by simpa using hj
        rw [Env.res_tok (by omega), if_pos hj]; exact hc
      · rw [Env.res_loc (by omega), if_pos h1]; exact hc
    · subst h1; subst h2
      refine ⟨c, by simpa using hL, hlive, ?_⟩
      have hB := hR.blk k _ hL
      have hlk : ∀ d, E.loc k = some d → (E.res (L1 ++ [c]).length (fun i => if i < L1.length then i else k)).loc L1.length = some d := fun d hd => by
        have := hloc k d (by simp) hd
        rwa [if_pos rfl] at this
      have cutv : ∀ x v, x.refs (fun i => decide (i < L1.length)) = true → VR E x v → VR (E.res (L1 ++ [c]).length (fun i => if i < L1.length then i else k)) x v := fun x v hx hv => by
        refine VR.cut (E := E) (E' := E.res (L1 ++ [c]).length (fun i => if i < L1.length then i else k)) (p := fun i => decide (i < L1.length)) (fun _ _ _ x => x) (fun j d hj hd => ?_) (fun j d hj hd => ?_) x v hx hv
        · have hj : j < L1.length := by simpa using hj
          rw [Env.res_loc (by omega), if_pos hj]; exact hd
        · have hj : j < L1.length := by simpa using hj
          rw [Env.res_tok (by omega), if_pos hj]; exact hd
      cases c <;> simp only [Blk.live, Bool.false_eq_true] at hlive <;> simp only [BRel, Blk.refs] at hB hb ⊢
      · obtain ⟨d, cs, ty, fr, g1, g2, g3, g4, g5, g6⟩ := hB
        exact ⟨d, cs, ty, fr, hlk d g1, g2, g3, g4, fun j a ha => let ⟨x, q1, q2⟩ := g5 j a ha; ⟨x, q1, cutv a x (AV.refsL_iff.1 hb a (List.mem_of_getElem? ha)) q2⟩, g6⟩
      · obtain ⟨d, rs, cl, g1, g2, g3, g4⟩ := hB
        refine ⟨d, rs, cl, hlk d g1, g2, ?_, g4⟩
        refine MapRel.cut (E := E) (E' := E.res (L1 ++ [_]).length (fun i => if i < L1.length then i else k)) (p := fun i => decide (i < L1.length)) (fun _ _ _ x => x) (fun j d hj hd => ?_) (fun j d hj hd => ?_) hb g3
        · have hj : j < L1.length := by simpa using hj
          rw [Env.res_loc (by omega), if_pos hj]; exact hd
        · have hj : j < L1.length := by simpa using hj
          rw [Env.res_tok (by omega), if_pos hj]; exact hd
      · obtain ⟨d, g1, g2⟩ := hB
        exact ⟨d, hlk d g1, g2⟩)
  exact ⟨E.res (L1 ++ [b]).length (fun i => if i < L1.length then i else k), _, _, res_le h0 hn (by omega) _ hg, h, VR.ren (E := E) (E' := E.res (L1 ++ [b]).length (fun i => if i < L1.length then i else k)) (p := fun i => decide (i < L1.length) || decide (i = k)) (fun _ _ _ x => x) hloc htok r v hr hv, hren⟩

/-- A block is forgotten. -/
theorem Fin_kill {L0 L : List Blk} {r : AV} {Q : AV → List Blk → Prop} (i : Nat) (h : Fin L0 r (L.set i .dead) Q) : Fin L0 r L Q := fun w0 S0 E0 E w v h0 hn hw hR hv =>
  h w0 S0 E0 E w v h0 hn hw (hR.kill (by simp) fun j k hk => by
    rw [List.getElem?_set] at hk
    split at hk
    · split at hk
      · cases hk; exact .inl rfl
      · cases hk
    · exact .inr hk) hv

/-- A row gets a new number: the last one. -/
theorem Fin_mv {L0 L : List Blk} {i off n s : Nat} {cp : Option Nat} {c : List AV} {Q : AV → List Blk → Prop} (hL : L[i]? = some (.cells c)) (h : Fin L0 (.lsl L.length off n cp s) (L.set i .dead ++ [.cells c]) Q) : Fin L0 (.lsl i off n cp s) L Q := fun w0 S0 E0 E w v h0 hn hw hR hv => by
  simp only [VR] at hv
  obtain ⟨cl, rc, d, g0, rfl, g1, g2, g3, g4⟩ := hv
  have hown := hR.own i _ cl hL rfl g0
  have hk : Rel w0 S0 E (L.set i .dead) w := hR.kill (by simp) fun j k hk => by
    rw [List.getElem?_set] at hk
    split at hk
    · split at hk
      · cases hk; exact .inl rfl
      · cases hk
    · exact .inr hk
  obtain ⟨cl', cs, ty, fr, b1, b2, b3, b4, b5, b6⟩ := hR.blk i _ hL
  rw [g0] at b1; cases b1
  have hle : E.le { E with loc := fun i' => if i' = (L.set i .dead).length then some cl else E.loc i' } := Env.le_loc _ (hk.fresh _ (Nat.le_refl _))
  have hk2 := hk.add (.cells c) cl hown.1 hown.2 (fun j k' d' hj hl' hd' => by
    rw [List.getElem?_set] at hj
    split at hj
    · split at hj
      · cases hj; simp [Blk.live] at hl'
      · cases hj
    · rename_i hne
      intro e
      exact hne (hR.inj _ _ _ _ _ _ hL rfl hj hl' g0 hd' e.symm)) rfl (fun j n2 s2 t2 d hj ht2 hd2 => hR.tkloc j n2 s2 t2 d i _ cl (spare_set (by simp) hj) ht2 hd2 hL rfl g0)
    ⟨cl, cs, ty, fr, by simp, b2, b3, b4, fun j a ha => let ⟨x, q1, q2⟩ := b5 j a ha; ⟨x, q1, VR.mono hle _ _ q2⟩, b6⟩
  refine h w0 S0 E0 _ w _ (h0.trans hk2.1) hn hw hk2.2 ?_
  simp only [VR]
  exact ⟨cl, rc, d, by simp, rfl, g1, g2, g3, g4⟩

end

theorem set_same {L : List Blk} {i : Nat} {k : Blk} (h : L[i]? = some k) : L.set i k = L := by
  apply List.ext_getElem?
  intro j
  rw [List.getElem?_set]
  split
  · rename_i e; subst e
    rw [h]
    have := (List.getElem?_eq_some_iff.1 h).1
    simp [this]
  · rfl

end Go.Proofs.YtafghkbedkjpmaaDoor.Av
