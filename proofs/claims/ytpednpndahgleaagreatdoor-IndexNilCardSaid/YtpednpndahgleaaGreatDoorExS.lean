/- What the interpreter is told of for law 19: bodiless functions, and functions that look at the caller's blocks; the table. -/
import Derived.Test.YtpednpndahgleaaGreatDoorTaxT
import Derived.Test.YtpednpndahgleaaGreatDoorRisA
import Derived.Test.YtpednpndahgleaaGreatDoorAvLf
import Derived.Test.YtpednpndahgleaaGreatDoorMapD
import Derived.Test.YtpednpndahgleaaGreatDoorShelfP
import Derived.Lib.Bytealg
import Derived.Laws.Externs
set_option linter.unusedSimpArgs false
set_option linter.unusedVariables false
namespace Go.Proofs.YtpednpndahgleaaGreatDoor.Av
open Go Go.MapKept

/-- What the bodiless functions come to. -/
def prims (f : FuncId) (args : List AV) : Option AV :=
  match Nat.beq f 106 with
  | true => match args with
    | [.str a, .str b] => some (.int .i64 (Lib.compareBytes a b))
    | _ => none
  | false => none
theorem prims_ok {f : FuncId} {args : List AV} {v : AV} (h : prims f args = some v) (L : List Blk) : ACall Tryz.prog f args L fun av K => av = v ∧ K = L := by
  unfold prims at h
  split at h
  · rename_i e
    obtain rfl := Nat.eq_of_beq_eq_true e
    split at h
    · rename_i a b
      simp only [Option.some.injEq] at h
      subst h
      intro w0 S0 E w vs hR hv
      simp only [VRL] at hv
      obtain ⟨v1, vs1, rfl, h1, v2, vs2, rfl, h2, rfl⟩ := hv
      simp only [VR] at h1 h2
      subst h1; subst h2
      refine .inr ⟨E, .int .i64 (Lib.compareBytes a b), _, L, w, ?_, .refl E, ⟨rfl, rfl⟩, by simp [VR], hR⟩
      rw [run_callFunc_extern (P := Tryz.prog) (e := Extern.BytealgCompare.compare) Tryz.func106 (by kernel_rfl) (by kernel_rfl) (by rfl) (by rfl)]
      have := Lib.run_compareString (P := Tryz.prog) ⟨⟨a⟩⟩ ⟨⟨b⟩⟩ w
      simp only at this
      rw [show (⟨[Value.string ⟨⟨a⟩⟩, Value.string ⟨⟨b⟩⟩]⟩ : Array Value) = #[Value.string ⟨⟨a⟩⟩, Value.string ⟨⟨b⟩⟩] from rfl, this]
      rfl
    · cases h
  · cases h

theorem callFunc_enter' {P : Program} {f : FuncId} {fn : Func} (hf : P.funcs[f]? = some fn) (hb : fn.body.isSome = true) (hn : (fn.name == "runtime.NumGoroutine") = false) (args : Array Value) (w : World) : (callFunc f args).run P w = .ok (.enter f args) w := by
  simp only [callFunc, Sem.run_bind, run_program, Result.andThen_ok, hf, hn]
  cases h : fn.body with
  | none => simp [h] at hb
  | some c => simp

/-- A map copied: by the library's contract. -/
theorem mapclone_k {i ck : Nat} {es : List (AV × AV × Nat)} {L : List Blk} {K : AV → List Blk → Prop} (hi : L[i]? = some (.map es ck)) (h : K (.lmap L.length) (L ++ [.map es ck])) : ACall Tryz.prog 48 [.lmap i] L K := fun w0 S0 E w vs hR hv => by
  simp only [VRL] at hv
  obtain ⟨v, _, rfl, hv, rfl⟩ := hv
  obtain ⟨c, rs, hc, rfl, hb, hmr⟩ := map_blk hR hi hv
  refine .inl ⟨callFunc_enter' Tryz.func48 rfl (by kernel_rfl) _ _, (AnyW.maps_Clone Tryz.cloneM c.blk rs ck w hb).mono ?_⟩
  rintro e w' ⟨rfl, rfl⟩
  have hle : E.le { E with loc := fun j => if j = L.length then some ⟨w.heap.size, 0, 0⟩ else E.loc j } := Env.le_loc _ (hR.fresh _ (Nat.le_refl _))
  have r1 := hR.push (.map rs ck) (.map es ck) ⟨w.heap.size, 0, 0⟩ rfl rfl ⟨⟨w.heap.size, 0, 0⟩, rs, by simp, by simp, hmr.mono hle⟩
  refine ⟨_, _, _, _, rfl, r1.1, h, ?_, r1.2⟩
  simp only [VR]
  exact ⟨⟨w.heap.size, 0, 0⟩, by simp, rfl⟩

/-- Entries of a set of numbers, read off. -/
def entsOf : List (AV × AV × Nat) → Option (List Ent)
  | [] => some []
  | (.int .i64 x, .bool b, m) :: es => match entsOf es with
    | some xs => some ((x, b, m) :: xs)
    | none => none
  | _ => none
theorem entsOf_eq : ∀ {es : List (AV × AV × Nat)} {xs : List Ent}, entsOf es = some xs → es = entsA xs
  | [], xs, h => by simp only [entsOf, Option.some.injEq] at h; subst h; rfl
  | (k, v, m) :: es, xs, h => by
    cases k <;> try (simp [entsOf] at h; done)
    rename_i kd x
    cases kd <;> try (simp [entsOf] at h; done)
    cases v <;> try (simp [entsOf] at h; done)
    rename_i b
    simp only [entsOf] at h
    split at h
    · rename_i ys hy
      simp only [Option.some.injEq] at h
      subst h
      rw [entsOf_eq hy]; rfl
    · cases h
theorem ents_sh (B : Nat) (xs : List Ent) : shE B (entsA xs) = entsA xs := by
  simp [shE, entA, AV.sh, AV.ren]
def qOf (ys : List Ent) (x : Int) : Bool := match ys.find? (fun p => decide (x = p.1)) with
  | some p => !p.2.1
  | none => true
theorem hasnt_ents (ys : List Ent) (x : Int) : hasnt (entsA ys) x = some (qOf ys x) := by
  unfold hasnt qOf
  have key : ∀ (ys : List Ent) (k : Nat), mfind (.int .i64 x) (entsA ys) k = some none ∧ ys.find? (fun p => decide (x = p.1)) = none ∨ ∃ j p, mfind (.int .i64 x) (entsA ys) k = some (some (j, .bool p.2.1)) ∧ ys.find? (fun p => decide (x = p.1)) = some p := by
    intro ys
    induction ys with
    | nil => exact fun k => .inl ⟨rfl, rfl⟩
    | cons y ys ih =>
      intro k
      by_cases e : x = y.1
      · exact .inr ⟨k, y, by simp [entsA, entA, mfind, keyq, e], by simp [e]⟩
      · rcases ih (k + 1) with ⟨h1, h2⟩ | ⟨j, p, h1, h2⟩
        · refine .inl ⟨?_, by simp [e, h2]⟩
          simp only [entsA, List.map_cons, entA, mfind, keyq, if_true, decide_eq_false e]
          exact h1
        · refine .inr ⟨j, p, ?_, by simp [e, h2]⟩
          simp only [entsA, List.map_cons, entA, mfind, keyq, if_true, decide_eq_false e]
          exact h1
  rcases key ys 0 with ⟨h1, h2⟩ | ⟨j, p, h1, h2⟩
  · rw [h1, h2]
  · rw [h1, h2]
def nodupJ : List Int → Bool
  | [] => true
  | x :: l => l.all (fun y => !decide (x = y)) && nodupJ l
theorem nodupJ_ok : ∀ {l : List Int}, nodupJ l = true → l.Nodup
  | [], _ => .nil
  | x :: l, h => by
    simp only [nodupJ, Bool.and_eq_true, List.all_eq_true] at h
    refine List.nodup_cons.2 ⟨fun hm => ?_, nodupJ_ok h.2⟩
    have := h.1 x hm
    simp at this
def nodupN : List Nat → Bool
  | [] => true
  | x :: l => l.all (fun y => !Nat.beq x y) && nodupN l
theorem nodupN_ok : ∀ {l : List Nat}, nodupN l = true → l.Nodup
  | [], _ => .nil
  | x :: l, h => by
    simp only [nodupN, Bool.and_eq_true, List.all_eq_true] at h
    refine List.nodup_cons.2 ⟨fun hm => ?_, nodupN_ok h.2⟩
    have := h.1 x hm
    rw [Nat.beq_refl] at this
    cases this
def entFine (xs : List Ent) (ck : Nat) : Bool := nodupJ (xs.map (·.1)) && nodupN (xs.map (·.2.2)) && xs.all fun p => Nat.blt p.2.2 ck
def primDel (i b : Nat) (L : List Blk) : Option (AV × List Blk) := match L[i]? with
  | some (.map es ck) => match entsOf es with
    | some xs => match entFine xs ck with
      | true => match L[b]? with
        | some (.cells [.nilmap]) => some (.tup [], L.set i (.map (entsA (xs.filter fun _ => !true)) ck))
        | some (.cells [.lmap j]) => match Nat.beq j i with
          | true => none
          | false => match L[j]? with
            | some (.map es2 _) => match entsOf es2 with
              | some ys => some (.tup [], L.set i (.map (entsA (xs.filter fun p => !qOf ys p.1)) ck))
              | none => none
            | _ => none
        | _ => none
      | false => none
    | none => none
  | _ => none

/-- What some functions come to that look at the caller's blocks. -/
def primsL (f : FuncId) (args : List AV) (L : List Blk) : Option (AV × List Blk) :=
  match Nat.beq f 47 with
  | true => match args with
    | [.nilmap] => some (.sl [] 0 (some 0), L)
    | [.lmap i] => match L[i]? with
      | some (.map es ck) => match mkeysI es with
        | some ks => match mapFine es ck ks with
          | true => some (.sl ((isortI ks).map (AV.int .i64)) ks.length none, L)
          | false => none
        | none => none
      | _ => none
    | _ => none
  | false => match Nat.beq f 48 with
    | true => match args with
      | [.lmap i] => match L[i]? with
        | some (.map es ck) => some (.lmap L.length, L ++ [.map es ck])
        | _ => none
      | _ => none
    | false => match Nat.beq f 50 with
      | true => match args with
        | [.lmap i, .func g [.ptr b 0]] => match Nat.beq g 51 with
          | true => primDel i b L
          | false => none
        | _ => none
      | false => none

theorem mkeysI_sh (B : Nat) : ∀ es : List (AV × AV × Nat), mkeysI (shE B es) = mkeysI es
  | [] => rfl
  | (q, x, b) :: es => by
    have ih := mkeysI_sh B es
    simp only [shE, List.map_cons] at ih ⊢
    cases q <;> try rfl
    rename_i kd k
    cases kd <;> first | rfl | (simp only [AV.sh, AV.ren, mkeysI, ih])
theorem mapFine_sh (B : Nat) (es : List (AV × AV × Nat)) (ck : Nat) (ks : List Int) : mapFine (shE B es) ck ks = mapFine es ck ks := by
  simp only [mapFine, shE, List.map_map, Function.comp_def, List.all_map, List.length_map]
theorem ints_closed (B : Nat) : ∀ l : List Int, AV.renL (sf B) (l.map (AV.int .i64)) = l.map (AV.int .i64)
  | [] => rfl
  | x :: l => by simp only [List.map_cons, AV.renL, AV.ren, ints_closed B l]
theorem onto_at {L0 L : List Blk} {i : Nat} {k : Blk} (h : L[i]? = some k) : (onto L0 L)[sf L0.length i]? = some (k.sh L0.length) := by
  simp only [onto, sf]
  rw [List.getElem?_append_right (by omega), Nat.add_sub_cancel, List.getElem?_map, h]; rfl
theorem onto_ne {L0 L : List Blk} {i b : Nat} {k y : Blk} {l : List (AV × AV × Nat)} {c : Nat} (hb : L[b]? = some k) (hne : b ≠ i) : ((onto L0 L).set (sf L0.length i) (.map l c) ++ [y])[sf L0.length b]? = some (k.sh L0.length) := by
  have hbl : b < L.length := (List.getElem?_eq_some_iff.1 hb).1
  have hlen : sf L0.length b < ((onto L0 L).set (sf L0.length i) (.map l c)).length := by rw [List.length_set]; simp [onto, sf]; omega
  rw [List.getElem?_append_left hlen, List.getElem?_set_ne (by simp only [sf]; omega)]
  exact onto_at hb
theorem primDel_ok {i b : Nat} {L L' : List Blk} {v : AV} (h : primDel i b L = some (v, L')) (L0 : List Blk) : ACall Tryz.prog 50 (shL L0.length [.lmap i, .func 51 [.ptr b 0]]) (onto L0 L) fun av K => av = v.sh L0.length ∧ K = onto L0 L' := by
  unfold primDel at h
  split at h <;> try cases h
  rename_i es ck hi
  split at h <;> try cases h
  rename_i xs hx
  obtain rfl := entsOf_eq hx
  split at h <;> try cases h
  rename_i hf
  simp only [entFine, Bool.and_eq_true, List.all_eq_true] at hf
  obtain ⟨⟨f1, f2⟩, f3⟩ := hf
  have n1 := nodupJ_ok f1
  have n2 := nodupN_ok f2
  have n3 : ∀ p ∈ xs, p.2.2 < ck := fun p hp => by
    have := f3 p hp
    exact Nat.le_of_ble_eq_true this
  have hi' : (onto L0 L)[sf L0.length i]? = some (.map (entsA xs) ck) := by
    have := onto_at (L0 := L0) hi
    simp only [Blk.sh] at this
    have e := ents_sh L0.length xs
    simp only [shE] at e
    rw [this]
    exact congrArg (fun q => some (Blk.map q ck)) e
  have hset : ∀ zs : List Ent, (onto L0 L).set (sf L0.length i) (.map (entsA zs) ck) = onto L0 (L.set i (.map (entsA zs) ck)) := fun zs => by
    rw [← set_sh]
    have e := ents_sh L0.length zs
    simp only [shE] at e
    simp only [Blk.sh]
    exact congrArg (fun q => (onto L0 L).set (sf L0.length i) (Blk.map q ck)) e.symm
  simp only [AV.renL, AV.ren]
  split at h <;> try cases h
  · rename_i hb
    have hne : b ≠ i := fun e => by subst e; rw [hi] at hb; cases hb
    refine mdelf_k like1_nil (fun l c y => ?_) n1 n2 n3 hi' ⟨rfl, hset _⟩
    have := onto_ne (L0 := L0) (l := l) (c := c) (y := y) hb hne
    simpa [Blk.sh, AV.ren, AV.renL] using this
  · rename_i j hb
    have hne : b ≠ i := fun e => by subst e; rw [hi] at hb; cases hb
    split at h <;> try cases h
    rename_i hji
    have hji' : j ≠ i := fun e => by subst e; rw [Nat.beq_refl] at hji; cases hji
    split at h <;> try cases h
    rename_i es2 ck2 hj
    split at h <;> try cases h
    rename_i ys hy
    obtain rfl := entsOf_eq hy
    refine mdelf_k (like1_test (j := sf L0.length j) (ck := ck2) (es := entsA ys) (qOf ys) (hasnt_ents ys)) (fun l c y => ⟨?_, ?_⟩) n1 n2 n3 hi' ⟨rfl, hset _⟩
    · have := onto_ne (L0 := L0) (l := l) (c := c) (y := y) hb hne
      simpa [Blk.sh, AV.ren, AV.renL] using this
    · have := onto_ne (L0 := L0) (l := l) (c := c) (y := y) hj hji'
      have e := ents_sh L0.length ys
      simp only [shE] at e
      rw [this]
      simp only [Blk.sh]
      exact congrArg (fun q => some (Blk.map q ck2)) e
theorem primsL_ok {f : FuncId} {args : List AV} {L L' : List Blk} {v : AV} (h : primsL f args L = some (v, L')) (L0 : List Blk) : ACall Tryz.prog f (shL L0.length args) (onto L0 L) fun av K => av = v.sh L0.length ∧ K = onto L0 L' := by
  unfold primsL at h
  split at h
  · rename_i e
    obtain rfl := Nat.eq_of_beq_eq_true e
    split at h
    · simp only [Option.some.injEq, Prod.mk.injEq] at h
      obtain ⟨rfl, rfl⟩ := h
      exact rising_nil ⟨rfl, rfl⟩
    · split at h
      · rename_i i es ck hi
        split at h
        · rename_i ks hks
          split at h
          · rename_i hf
            simp only [Option.some.injEq, Prod.mk.injEq] at h
            obtain ⟨rfl, rfl⟩ := h
            refine rising_k (es := shE L0.length es) (ck := ck) (ks := ks) (onto_at hi) (by rw [mkeysI_sh]; exact hks) (by rw [mapFine_sh]; exact hf) ⟨?_, rfl⟩
            simp only [AV.sh, AV.ren, ints_closed]
          · cases h
        · cases h
      · cases h
    · cases h
  · split at h
    · rename_i e
      obtain rfl := Nat.eq_of_beq_eq_true e
      split at h <;> try cases h
      split at h <;> try cases h
      rename_i i es ck hi
      refine mapclone_k (onto_at hi) ⟨?_, ?_⟩
      · simp only [AV.sh, AV.ren, len_sh]
      · rw [← push_sh]; rfl
    · split at h
      · rename_i e
        obtain rfl := Nat.eq_of_beq_eq_true e
        split at h <;> try cases h
        split at h <;> try cases h
        rename_i e
        obtain rfl := Nat.eq_of_beq_eq_true e
        exact primDel_ok h L0
      · cases h

/-- Functions that are gone into with the caller's own blocks. -/
def inls (f : FuncId) : Bool := Nat.beq f 79
def xtab : Tab := ⟨ftab.get, inls, prims, primsL, 100000⟩
theorem xtab_ok : TabOk Tryz.prog ftab.own xtab := ⟨fun f lf hf => FT.get_ok ftab_ok f lf hf, fun f args v hp _ _ L => prims_ok hp L, fun f args L v L' hp L0 => primsL_ok hp L0⟩
end Go.Proofs.YtpednpndahgleaaGreatDoor.Av
