/- Texts joined: by the library's contract. -/
import Derived.Test.YtffnflplocbpiaaGreatDoorQShelfP
import Derived.Test.YtffnflplocbpiaaGreatDoorQP5
import Derived.Test.YtffnflplocbpiaaGreatDoorQP4
import Derived.Shelf.Sort.Plain
import Derived.Test.YtffnflplocbpiaaGreatDoorRows
import Derived.KernelRfl
import Derived.Test.YtffnflplocbpiaaGreatDoorQD1
import Derived.Test.YtffnflplocbpiaaGreatDoorQO1
set_option linter.unusedSimpArgs false
set_option linter.unusedVariables false
namespace Go.Proofs.YtffnflplocbpiaaGreatDoor.Av
open Go Go.Sort

abbrev strsA (xs : List (List UInt8)) : List AV := xs.map AV.str
theorem join_s_k {xs : List (List UInt8)} {sep : List UInt8} {cap : Option Nat} (hn : xs.length ≤ 1000000) (hl : (Lib.join xs sep).length ≤ 140737488355328) {L : List Blk} {K : AV → List Blk → Prop} (h : K (.str (Lib.join xs sep)) L) :
    ACall Tryz.prog 95 [.sl (strsA xs) xs.length cap, .str sep] L K :=
  ACall_lift Tryz.func95 rfl (by kernel_rfl) (fun w0 S0 E w vs hR hv => by
    simp only [VRL, VR] at hv
    obtain ⟨_, _, rfl, ⟨p, c, rfl, hle, _, hp⟩, _, _, rfl, rfl, rfl⟩ := hv
    by_cases hx : xs = []
    · subst hx
      exact (Tryz.strings_Join_none p c ⟨⟨sep⟩⟩ w).mono fun e w' ⟨he, hw⟩ => ⟨_, he, by simp [VR, Lib.join], by subst hw; exact Grew.refl _⟩
    · rcases hp with ⟨e0, _⟩ | ⟨b, o, rfl, hcells⟩
      · exact absurd (List.length_eq_zero_iff.1 e0) hx
      · have hmem : ∀ (j : Nat) x, (xs.map fun s => (⟨⟨s⟩⟩ : ByteArray))[j]? = some x → w.cell? ⟨b, o + j, none⟩ = some (.string x) := fun j x hj => by
          rw [List.getElem?_map] at hj
          rcases hxs : xs[j]? with _ | s
          · rw [hxs] at hj; cases hj
          · rw [hxs] at hj
            simp only [Option.map_some, Option.some.injEq] at hj
            subst hj
            obtain ⟨v, g1, g2⟩ := hcells.get (i := j) (a := .str s) (by rw [List.getElem?_map, hxs]; rfl)
            simp only [VR] at g2
            subst g2
            exact hR.mem _ _ _ g1
        have hb : b < w.heap.size := by
          have hx0 : 0 < xs.length := List.length_pos_iff.2 hx
          have h0 := hmem 0 ⟨⟨xs[0]⟩⟩ (by rw [List.getElem?_map, List.getElem?_eq_getElem hx0]; rfl)
          rcases Nat.lt_or_ge b w.heap.size with g | g
          · exact g
          · simp [World.cell?, Array.getElem?_eq_none g] at h0
        have hmm : (xs.map fun s => (⟨⟨s⟩⟩ : ByteArray)).map (·.data.toList) = xs := by rw [List.map_map]; exact List.map_id'' (fun _ => rfl) xs
        have key := Tryz.strings_Join b o c (xs.map fun s => (⟨⟨s⟩⟩ : ByteArray)) ⟨⟨sep⟩⟩ w hmem hb (by rw [List.length_map]; omega) (by rw [List.length_map]; exact hle) (by rw [hmm]; exact hl)
        rw [hmm] at key
        simp only [List.length_map] at key
        exact key.mono fun e w' ⟨he, hbel⟩ => ⟨_, he, by simp [VR], ⟨fun b hb => hbel.block b hb, hbel.size, hbel.os, hbel.tape, hbel.output⟩⟩) h
/-- Texts laid over the beginning of an owned row. -/
theorem Rel.putStrs {w0 : World} {S0 : Nat → Prop} {E : Env} {L : List Blk} {w : World} (h : Rel w0 S0 E L w) {i : Nat} {xs d : List (List UInt8)} {rest : List AV} {c : Loc} (hi : L[i]? = some (.cells (strsA xs ++ rest))) (hc : E.loc i = some c) (hd : d.length = xs.length) (q : Nat) :
    Rel w0 S0 E (L.set i (.cells (strsA d ++ rest))) (putRow encStr (Sort.ahead w q) c.blk c.off d.toArray) := by
  obtain ⟨c', cs, ty, fr, h1, h2, h3, h4, h5, h6⟩ := h.blk i _ hi
  rw [hc] at h1; cases h1
  have hlt : c.blk < w.heap.size := (Array.getElem?_eq_some_iff.1 h2).1
  have e1 : (putRow encStr (Sort.ahead w q) c.blk c.off d.toArray).heap[c.blk]? = some (.cells (putCells encStr c.off d.toArray cs) ty fr) := by
    simp [putRow, mapBlock, Sort.ahead, Array.getElem?_modify, h2, onCells]
  have hlen : (strsA xs ++ rest).length = xs.length + rest.length := by simp
  refine h.turn (k' := .cells (strsA d ++ rest)) hi rfl hc (by simp) (fun b hb => ?_) rfl rfl rfl ⟨c, _, ty, fr, hc, e1, by simp [putCells, h3], ?_, fun j a ha => ?_, h6⟩ (fun _ _ e => by cases e)
  · have : c.blk ≠ b := fun e => hb e.symm
    simp [putRow, mapBlock, Sort.ahead, Array.getElem?_modify, this]
  · rw [hlen] at h4
    simp only [List.length_append, List.length_map, hd]; omega
  · rw [hlen] at h4
    have hj : j < d.length + rest.length := by
      have := (List.getElem?_eq_some_iff.1 ha).1
      simpa using this
    have hcs : c.off + j < cs.size := by omega
    have ep : (putCells encStr c.off d.toArray cs)[c.off + j]? = some (if c.off ≤ c.off + j ∧ c.off + j < c.off + d.length then encStr (d.toArray[c.off + j - c.off]!) else cs[c.off + j]) := by
      simp [putCells, hcs]
    by_cases hjd : j < d.length
    · have ea : a = .str d[j] := by
        rw [List.getElem?_append_left (by simpa using hjd)] at ha
        simpa [hjd] using ha.symm
      subst ea
      refine ⟨_, ep, ?_⟩
      rw [if_pos (by omega), show c.off + j - c.off = j by omega]
      simp [VR, encStr, hjd]
    · have ha' : (strsA xs ++ rest)[j]? = some a := by
        rw [List.getElem?_append_right (by simp; omega)] at ha ⊢
        simpa [hd] using ha
      obtain ⟨v, g1, g2⟩ := h5 j a ha'
      refine ⟨v, ?_, g2⟩
      rw [ep, if_neg (by omega), ← g1]
      simp [hcs]

theorem rowS_holds {w0 : World} {S0 : Nat → Prop} {E : Env} {L : List Blk} {w : World} (h : Rel w0 S0 E L w) {i : Nat} {xs : List (List UInt8)} {rest : List AV} {c : Loc} (hi : L[i]? = some (.cells (strsA xs ++ rest))) (hc : E.loc i = some c) :
    Holds encStr w c.blk c.off xs.toArray ∧ c.blk < w.heap.size := by
  obtain ⟨c', cs, ty, fr, h1, h2, h3, h4, h5, h6⟩ := h.blk i _ hi
  rw [hc] at h1; cases h1
  refine ⟨fun j hj => ?_, (Array.getElem?_eq_some_iff.1 h2).1⟩
  have hj' : j < xs.length := by simpa using hj
  obtain ⟨v, g1, g2⟩ := h5 j (.str xs[j]) (by rw [List.getElem?_append_left (by simpa using hj')]; simp [hj'])
  simp only [VR] at g2
  subst g2
  refine ⟨by simp [World.cell?, encStr, h2, g1, hj'], ?_⟩
  have h7 := h6 (c.off + j) (by omega) (by simp only [List.length_append, List.length_map] at h4; omega)
  simp only [World.frozen?, h2]
  obtain ⟨f1, f2⟩ := fr
  simp only at h7
  simp only [Bool.and_eq_false_iff, decide_eq_false_iff_not]
  omega

theorem callFunc_enterS {P : Program} {f : FuncId} {fn : Func} (hf : P.funcs[f]? = some fn) (hb : fn.body.isSome = true) (hn : (fn.name == "runtime.NumGoroutine") = false) (args : Array Value) (w : World) : (callFunc f args).run P w = .ok (.enter f args) w := by
  simp only [callFunc, Sem.run_bind, run_program, Result.andThen_ok, hf, hn]
  cases h : fn.body with
  | none => simp [h] at hb
  | some c => simp


def sortS (xs : List (List UInt8)) : List (List UInt8) := xs.mergeSort fun x y => decide (x ≤ y)
theorem sortS_k {xs : List (List UInt8)} {i : Nat} {cp : Option Nat} {rest : List AV} {L : List Blk} {K : AV → List Blk → Prop} (hx : xs ≠ []) (hn : xs.length ≤ 1000000) (hL : L[i]? = some (.cells (strsA xs ++ rest))) (h : K (.tup []) (L.set i (.cells (strsA (sortS xs) ++ rest)))) :
    ACall Tryz.prog 94 [.lsl i 0 xs.length cp 1] L K := fun w0 S0 E w vs hR hv => by
  simp only [VRL, VR] at hv
  obtain ⟨_, _, rfl, ⟨c, rc, d, hc, rfl, hd, hle, _, _⟩, rfl⟩ := hv
  have hpos : 0 < xs.length := List.length_pos_iff.2 hx
  have hd' : d = c.off := by have := hd (by omega); omega
  subst hd'
  obtain ⟨hH, hlt⟩ := rowS_holds hR hL hc
  refine .inl ⟨callFunc_enterS Tryz.func94 rfl (by kernel_rfl) _ _, (Tryz.slices_Sort_string c.blk c.off rc xs w hH hlt (by omega)).mono ?_⟩
  rintro e w' ⟨rfl, q, os, rfl⟩
  have r1 := hR.putStrs hL hc (d := sortS xs) (by simp [sortS]) q
  refine ⟨E, _, _, _, rfl, .refl E, h, by simp [VR, VRL], r1.grown ?_⟩
  exact ⟨fun b hb => Array.getElem?_append_left hb, by simp [grow], rfl, rfl, rfl⟩

theorem sortS0_k {cap : Option Nat} {L : List Blk} {K : AV → List Blk → Prop} (h : K (.tup []) L) : ACall Tryz.prog 94 [.sl [] 0 cap] L K :=
  ACall_lift Tryz.func94 rfl (by kernel_rfl) (fun w0 S0 E w vs hR hv => by
    simp only [VRL, VR] at hv
    obtain ⟨_, _, rfl, ⟨p, c, rfl, _⟩, rfl⟩ := hv
    exact (Tryz.slices_Sort_string_none p c w).mono fun e w' ⟨he, hw⟩ => ⟨_, he, by simp [VR, VRL], by subst hw; exact Grew.refl _⟩) h

/-- Texts of a row of the call's own joined. -/
theorem joinL_k {xs : List (List UInt8)} {sep : List UInt8} {i : Nat} {cp : Option Nat} {L : List Blk} {K : AV → List Blk → Prop} (hx : xs ≠ []) (hn : xs.length ≤ 1000000) (hl : (Lib.join xs sep).length ≤ 140737488355328) (hL : L[i]? = some (.cells (strsA xs))) (h : K (.str (Lib.join xs sep)) L) :
    ACall Tryz.prog 95 [.lsl i 0 xs.length cp 1, .str sep] L K := fun w0 S0 E w vs hR hv => by
  simp only [VRL, VR] at hv
  obtain ⟨_, _, rfl, ⟨c, rc, d, hc, rfl, hd, hle, _, _⟩, _, _, rfl, rfl, rfl⟩ := hv
  have hpos : 0 < xs.length := List.length_pos_iff.2 hx
  have hd' : d = c.off := by have := hd (by omega); omega
  subst hd'
  obtain ⟨hH, hlt⟩ := rowS_holds (rest := []) hR (by simpa using hL) hc
  have hmem : ∀ (j : Nat) x, (xs.map fun s => (⟨⟨s⟩⟩ : ByteArray))[j]? = some x → w.cell? ⟨c.blk, c.off + j, none⟩ = some (.string x) := fun j x hj => by
    have hjl : j < xs.length := by have := (List.getElem?_eq_some_iff.1 hj).1; simpa using this
    have e := (hH j (by simpa using hjl)).1
    rw [List.getElem?_map, List.getElem?_eq_getElem hjl] at hj
    simp only [Option.map_some, Option.some.injEq] at hj
    subst hj
    rw [e]
    simp [encStr, hjl]
  have hmm : (xs.map fun s => (⟨⟨s⟩⟩ : ByteArray)).map (·.data.toList) = xs := by rw [List.map_map]; exact List.map_id'' (fun _ => rfl) xs
  have key := Tryz.strings_Join c.blk c.off rc (xs.map fun s => (⟨⟨s⟩⟩ : ByteArray)) ⟨⟨sep⟩⟩ w hmem hlt (by rw [List.length_map]; omega) (by rw [List.length_map]; exact hle) (by rw [hmm]; exact hl)
  rw [hmm] at key
  simp only [List.length_map] at key
  refine .inl ⟨callFunc_enterS Tryz.func95 rfl (by kernel_rfl) _ _, key.mono ?_⟩
  rintro e w' ⟨rfl, hbel⟩
  exact ⟨E, _, _, _, rfl, .refl E, h, by simp [VR], hR.grown ⟨fun b hb => hbel.block b hb, hbel.size, hbel.os, hbel.tape, hbel.output⟩⟩
end Go.Proofs.YtffnflplocbpiaaGreatDoor.Av

set_option maxRecDepth 100000
namespace Go.Proofs.YtffnflplocbpiaaGreatDoor.Av
open Go

/-! castellan/dn.text -/
def r_dn_text_0 : List SOp :=
   [.op ⟨(some 4), (.mv (.av (.str []))), none⟩]
def r_dn_text_1 : List SOp :=
   [.op ⟨(some 5), (.mv (.av (.sl [] 0 (some 0)))), none⟩]
def r_dn_text_2 : List SOp :=
   [.op ⟨(some 11), (.mv (.tmp 0)), none⟩,
    .op ⟨(some 12), (.len false (.tmp 11)), none⟩,
    .op ⟨(some 13), (.mv (.av (.int .i64 0))), none⟩]
def r_dn_text_3 : List SOp :=
   [.op ⟨(some 14), (.bin .lss (.tmp 13) (.tmp 12)), none⟩]
def r_dn_text_4 : List SOp :=
   [.op ⟨(some 15), (.iaddr 1 (.tmp 11) (.tmp 13)), none⟩,
    .op ⟨(some 16), (.load false 1 (.tmp 15)), none⟩,
    .op ⟨(some 7), (.mv (.tmp 16)), none⟩]
def r_dn_text_5 : List SOp :=
   [.op ⟨(some 8), (.mv (.av (.sl [] 0 (some 0)))), none⟩]
def r_dn_text_6 : List SOp :=
   [.op ⟨(some 17), (.mv (.tmp 7)), none⟩,
    .op ⟨(some 18), (.len false (.tmp 17)), none⟩,
    .op ⟨(some 19), (.mv (.av (.int .i64 0))), none⟩]
def r_dn_text_7 : List SOp :=
   [.op ⟨(some 20), (.bin .lss (.tmp 19) (.tmp 18)), none⟩]
def r_dn_text_8 : List SOp :=
   [.op ⟨(some 21), (.iaddr 2 (.tmp 17) (.tmp 19)), none⟩,
    .op ⟨(some 22), (.load true 2 (.tmp 21)), none⟩,
    .op ⟨(some 10), (.alloc [(.str []), (.str [])]), none⟩,
    .op ⟨none, (.store 2 (.tmp 10) (.tmp 22)), none⟩]
def r_dn_text_9 : List SOp :=
   [.op ⟨(some 23), (.mv (.tmp 1)), none⟩]
def r_dn_text_10 : List (LOper × Kd) :=
   [(⟨(some 24), (.faddr 0 (.tmp 10)), none⟩, .pure),
    (⟨(some 25), (.load false 1 (.tmp 24)), none⟩, (.read 0 0)),
    (⟨(some 26), (.call 31 [(.tmp 25)]), none⟩, (.read 0 0)),
    (⟨(some 27), (.faddr 1 (.tmp 10)), none⟩, .pure),
    (⟨(some 28), (.load false 1 (.tmp 27)), none⟩, (.read 0 0))]
def r_dn_text_10t : List LOper :=
   [⟨(some 29), (.call 15 [(.tmp 28)]), none⟩,
    ⟨(some 30), (.build [(.str []), (.str [])] [(0, (1, (.tmp 26))), (1, (1, (.tmp 29)))]), none⟩,
    ⟨none, (.store 2 (.tmp 10) (.tmp 30)), none⟩]
def r_dn_text_11 : List (LOper × Kd) :=
   [(⟨(some 31), (.mv (.tmp 8)), none⟩, .pure),
    (⟨(some 32), (.faddr 0 (.tmp 10)), none⟩, .pure),
    (⟨(some 33), (.load false 1 (.tmp 32)), none⟩, (.read 0 0)),
    (⟨(some 34), (.bin .add (.tmp 33) (.av (.str [61]))), none⟩, .pure),
    (⟨(some 35), (.faddr 1 (.tmp 10)), none⟩, .pure),
    (⟨(some 36), (.load false 1 (.tmp 35)), none⟩, (.read 0 0)),
    (⟨(some 37), (.call 93 [(.tmp 36)]), none⟩, (.read 0 0)),
    (⟨(some 38), (.bin .add (.tmp 34) (.tmp 37)), none⟩, .pure),
    (⟨(some 39), (.bslice false 1 1 [(.str [])] [(0, (1, (.tmp 38)))]), none⟩, (.read 0 0))]
def r_dn_text_11t : List LOper :=
   [⟨(some 40), (.app 2 1 16 [(.str [])] (.tmp 31) (.tmp 39)), none⟩,
    ⟨(some 8), (.mv (.tmp 40)), none⟩]
def r_dn_text_12 : List SOp :=
   [.op ⟨(some 41), (.bin .add (.tmp 19) (.av (.int .i64 1))), none⟩,
    .op ⟨(some 19), (.mv (.tmp 41)), none⟩]
def r_dn_text_13 : List SOp :=
   [.op ⟨(some 42), (.mv (.tmp 1)), none⟩]
def r_dn_text_14 : List SOp :=
   [.op ⟨(some 43), (.mv (.tmp 8)), none⟩,
    .op ⟨(some 44), (.call 94 [(.tmp 43)]), none⟩]
def r_dn_text_15 : List SOp :=
   [.op ⟨(some 45), (.mv (.tmp 5)), none⟩,
    .op ⟨(some 46), (.mv (.tmp 8)), none⟩,
    .op ⟨(some 47), (.call 95 [(.tmp 46), (.av (.str [43]))]), none⟩,
    .op ⟨(some 48), (.bslice false 1 1 [(.str [])] [(0, (1, (.tmp 47)))]), none⟩,
    .op ⟨(some 49), (.app 1 1 16 [(.str [])] (.tmp 45) (.tmp 48)), none⟩,
    .op ⟨(some 5), (.mv (.tmp 49)), none⟩]
def r_dn_text_16 : List SOp :=
   [.op ⟨(some 50), (.bin .add (.tmp 13) (.av (.int .i64 1))), none⟩,
    .op ⟨(some 13), (.mv (.tmp 50)), none⟩]
def r_dn_text_17 : List SOp :=
   [.op ⟨(some 51), (.mv (.tmp 5)), none⟩,
    .op ⟨(some 52), (.call 95 [(.tmp 51), (.av (.str [44]))]), none⟩,
    .op ⟨(some 4), (.mv (.tmp 52)), none⟩]
def c_dn_text : LFun := ⟨53, (.seq (.sreg r_dn_text_0 [])
  (.seq (.sreg r_dn_text_1 [])
  (.seq (.seq (.sreg r_dn_text_2 [])
  (.block 0 (.loop (.seq (.sreg r_dn_text_3 [])
  (.seq (.cond (.tmp 14) .skip
  (.exit 0))
  (.seq (.block 1 (.seq (.sreg r_dn_text_4 [true, false, false])
  (.seq (.sreg r_dn_text_5 [])
  (.seq (.seq (.sreg r_dn_text_6 [])
  (.block 2 (.loop (.seq (.sreg r_dn_text_7 [])
  (.seq (.cond (.tmp 20) .skip
  (.exit 2))
  (.seq (.block 3 (.seq (.sreg r_dn_text_8 [true, false, false])
  (.seq (.seq (.sreg r_dn_text_9 [])
  (.cond (.tmp 23) (.dregM r_dn_text_10 r_dn_text_10t [false, false, false, false, false, false, false])
  .skip))
  (.dregM r_dn_text_11 r_dn_text_11t [true, false, false, false, false, false, false, false, false, false, false]))))
  (.sreg r_dn_text_12 [true, false])))))))
  (.seq (.seq (.sreg r_dn_text_13 [])
  (.cond (.tmp 42) (.sreg r_dn_text_14 [false, false])
  .skip))
  (.sreg r_dn_text_15 [true, false, false, false, false, false]))))))
  (.sreg r_dn_text_16 [true, false])))))))
  (.seq (.sreg r_dn_text_17 [true, false, false])
  .ret)))), [(.tmp 4)]⟩
attribute [push_cast] r_dn_text_0 r_dn_text_1 r_dn_text_2 r_dn_text_3 r_dn_text_4 r_dn_text_5 r_dn_text_6 r_dn_text_7 r_dn_text_8 r_dn_text_9 r_dn_text_10 r_dn_text_10t r_dn_text_11 r_dn_text_11t r_dn_text_12 r_dn_text_13 r_dn_text_14 r_dn_text_15 r_dn_text_16 r_dn_text_17
theorem c_dn_text_eq : lowF Tryz.prog (fun r i => if r = 11 ∧ i = 9 then 2 else 1) 64 = some c_dn_text.raw := by kernel_rfl

end Go.Proofs.YtffnflplocbpiaaGreatDoor.Av

namespace Go.Proofs.YtffnflplocbpiaaGreatDoor.Av
open Go
set_option maxHeartbeats 8000000
set_option maxRecDepth 100000

def avT (key : Bool) (a : Ava) : List UInt8 := if key = true then foldS a.1 ++ [61] ++ writS (prepS a.2) else a.1 ++ [61] ++ writS a.2
def rowT (key : Bool) (r : Rdn) : List UInt8 := Lib.join (if key = true then sortS (r.map (avT key)) else r.map (avT key)) [43]
def txtT (key : Bool) (d : List Rdn) : List UInt8 := Lib.join (d.map (rowT key)) [44]

theorem wrL_len (n : Nat) : ∀ (s : List UInt8) (i : Nat), (wrL n i s).length ≤ 3 * s.length
  | [], _ => by simp [wrL]
  | c :: s, i => by
    have h1 := wrL_len n s (i + 1)
    have h2 := wrB_len i n c
    simp only [wrL, List.length_append, List.length_cons]; omega
theorem strsA_frz (l : List (List UInt8)) : AV.frzL (strsA l) = strsA l := by
  rw [AV.frzL_eq, List.map_map]; rfl
theorem joinG_k {xs : List (List UInt8)} {sep : List UInt8} {i n : Nat} (hx : n = xs.length) (hn : xs.length ≤ 1000000) (hl : (Lib.join xs sep).length ≤ 140737488355328) {L : List Blk} {K : AV → List Blk → Prop} (h : K (.str (Lib.join xs sep)) L) :
    ACall Tryz.prog 95 [.gsl (strsA xs) n i 1, .str sep] L K := by
  subst hx
  exact ACall_frz (by simpa only [AV.frzL, AV.frz, strsA_frz] using join_s_k (cap := none) hn hl h)

theorem joinLn_k {xs : List (List UInt8)} {sep : List UInt8} {i n : Nat} {cp : Option Nat} {L : List Blk} {K : AV → List Blk → Prop} (he : n = xs.length) (hx : xs ≠ []) (hn : xs.length ≤ 1000000) (hl : (Lib.join xs sep).length ≤ 140737488355328) (hL : L[i]? = some (.cells (strsA xs))) (h : K (.str (Lib.join xs sep)) L) :
    ACall Tryz.prog 95 [.lsl i 0 n cp 1, .str sep] L K := by
  subst he
  exact joinL_k hx hn hl hL h
theorem textF_k {d : List Rdn} {cap : Option Nat} (hn : d.length ≤ 1000) (hr : ∀ r ∈ d, r.length ≤ 1000 ∧ ∀ a ∈ r, a.1.length ≤ 10000 ∧ a.2.length ≤ 10000) (hj1 : ∀ r ∈ d, (rowT false r).length ≤ 140737488355328) (hj2 : (txtT false d).length ≤ 140737488355328) {L : List Blk} {K : AV → List Blk → Prop} (h : K (.str (txtT false d)) L) :
    ACall Tryz.prog 64 [.sl (d.map rdnF) d.length cap, .bool false] L K := by
  replace h := hid h
  have hat := hid (fun k => @rdn_at d k)
  replace hr := hid hr
  replace hj1 := hid hj1
  have s4 : ∀ (W : List Blk) (j : Nat) (A : Blk), L.length ≤ j → (L ++ W).set j A = L ++ W.set (j - L.length) A := fun W j A hj => List.set_append_right _ _ hj
  replace s4 := hid s4
  refine ACall_fn c_dn_text_eq (by simp [c_dn_text]) ?_
  simp only [c_dn_text, initT]
  refine wk ?_
  refine AW_grow (l := []) (n := 0) 5 1 rfl (Nat.zero_mul 1).symm ?_
  refine AW_loopT (fun n T' L' => ∃ (i : Nat) (all : List (List UInt8)) (Z : List Blk), n = d.length - i ∧ i ≤ d.length ∧ Hid (all = (d.take i).map (rowT false)) ∧ L'[L.length]? = some (.spare i 1) ∧ T' = [(13, .int .i64 (i : Int)), (12, .int .i64 d.length), (11, .sl (d.map rdnF) d.length cap), (5, .gsl (strsA all) i L.length 1), (1, .bool false)] ∧ L' = L ++ Z) (Cut_same (by repeat' first | exact SubT_nil | refine SubT_cons rfl rfl ?_ | refine SubT_consF rfl rfl ?_) (by simp)) ⟨0, [], [.spare 0 1], rfl, Nat.zero_le _, hid rfl, by simp, rfl, rfl⟩ ?_
  rintro _ _ _ ⟨i, all, X, rfl, hi, hall, ho, rfl, rfl⟩
  by_cases hlt : i < d.length
  · have g1 : (i : Int) < (d.length : Int) := by omega
    have g2 : IntKind.i64.wrap ((i : Int) + 1) = (i : Int) + 1 := wrap64_in (by omega) (by omega)
    have e2 := hat.out i hlt
    have hrm : d.getD i [] ∈ d := by rw [List.getD_eq_getElem?_getD, List.getElem?_eq_getElem hlt]; exact List.getElem_mem _
    have hrl := hr.out _ hrm
    have hjr := hj1.out _ hrm
    obtain ⟨r, hri⟩ : ∃ r, d.getD i [] = r := ⟨_, rfl⟩
    have htk : d.take (i + 1) = d.take i ++ [r] := by rw [List.take_succ_eq_append_getElem hlt, ← hri]; simp [hlt]
    rw [hri] at e2 hrl hjr
    clear hri hrm
    obtain ⟨hrl1, hrl2⟩ := hrl
    replace hrl2 := hid hrl2
    replace htk := hid htk
    have hX := (List.getElem?_eq_some_iff.1 ho).1
    rw [List.length_append] at hX
    replace hX := hid hX
    refine wk ?_
    refine AW_loopT (fun n T' L' => ∃ (k : Nat) (v : AV) (Z : List Blk), n = r.length - k ∧ k ≤ r.length ∧ X.length ≤ Z.length ∧ L'[L.length]? = some (.spare i 1) ∧ Hid ((v = .sl [] 0 (some 0) ∧ k = 0) ∨ ∃ j, (0 < k ∧ L.length < j) ∧ v = .lsl j 0 k none 1 ∧ L'[j]? = some (.cells (strsA ((r.take k).map (avT false))))) ∧ T' = [(19, .int .i64 (k : Int)), (18, .int .i64 r.length), (17, rdnF r), (8, v), (13, .int .i64 (i : Int)), (12, .int .i64 d.length), (11, .sl (d.map rdnF) d.length cap), (5, .gsl (strsA all) i L.length 1), (1, .bool false)] ∧ L' = L ++ Z) (Cut_same (by repeat' first | exact SubT_nil | refine SubT_cons rfl rfl ?_ | refine SubT_consF rfl rfl ?_) (by simp)) ⟨0, _, X, rfl, Nat.zero_le _, Nat.le_refl _, ho, hid (.inl ⟨rfl, rfl⟩), rfl, rfl⟩ ?_
    rintro _ _ _ ⟨k, v, Z, rfl, hk, hXZ, ho2, hv, rfl, rfl⟩
    replace hXZ := hid hXZ
    by_cases hkl : k < r.length
    · have g3 : (k : Int) < (r.length : Int) := by omega
      have g4 : IntKind.i64.wrap ((k : Int) + 1) = (k : Int) + 1 := wrap64_in (by omega) (by omega)
      have e3 := avasA_at hkl
      have e4 : k * 2 + 2 ≤ (avasA r).length := by rw [avasA_len]; omega
      obtain ⟨⟨ty, va⟩, ha⟩ : ∃ a, r.getD k ([], []) = a := ⟨_, rfl⟩
      have ham : (ty, va) ∈ r := by rw [← ha]; simp [hkl]
      have htk2 : (r.take (k + 1)).map (avT false) = (r.take k).map (avT false) ++ [ty ++ 61 :: writS va] := by
        rw [List.take_succ_eq_append_getElem hkl]
        have : r[k] = (ty, va) := by rw [← ha]; simp [hkl]
        rw [this]; simp [avT]
      rw [ha] at e3
      simp only [avaA] at e3
      have hva := hrl2.out _ ham
      simp only at hva
      have hva' : va.length ≤ 100000 := by omega
      have hwl := wrL_len va.length va 0
      have b1 : (ty.length : Int) + 1 ≤ 9223372036854775807 := by omega
      have b2 : (ty.length : Int) + 1 + ((writS va).length : Int) ≤ 9223372036854775807 := by unfold writS; omega
      clear hwl ha ham hva
      replace htk2 := hid htk2
      have q1 : (k + 1) * 16 ≤ 140737488355328 := by omega
      have q2 : k + 1 ≤ 140737488355328 := by omega
      have q3 : k ≤ 140737488355327 := by omega
      rcases hv.out with ⟨rfl, hk0⟩ | ⟨j, ⟨hk1, hBj⟩, rfl, hj⟩
      · replace hk0 := hid hk0
        have kk1 := @hid _ (fun L K => written_k hva' (L := L) (K := K))
        refine wk ?_
        refine Nxt_mk _ _ _ (by omega) (Cut_same (by repeat' first | exact SubT_nil | refine SubT_cons rfl rfl ?_ | refine SubT_consF rfl rfl ?_ | refine SubT_cons rfl (congrArg (AV.int _) (by omega)) ?_ | refine SubT_cons rfl (by first | (simp_all; done) | (simp_all; omega) | (simp_all; intros; omega)) ?_) ?_) ⟨k + 1, .lsl (L.length + (Z.length + 1)) 0 1 none 1, _, rfl, hkl, ?_, ?_, hid (.inr ⟨L.length + (Z.length + 1), ⟨by omega, by omega⟩, by rw [hk0.out], ?_⟩), rfl, rfl⟩
        · have := hXZ.out; simp; omega
        · have := hXZ.out; simp; omega
        · rw [← List.append_assoc, List.getElem?_append_left (List.getElem?_eq_some_iff.1 ho2).1]; exact ho2
        · rw [getAppK, getAppK, htk2.out, hk0.out]; rfl
      · obtain ⟨cur, hcur⟩ : ∃ cur, (r.take k).map (avT false) = cur := ⟨_, rfl⟩
        have hcl : cur.length = k := by rw [← hcur]; simp; omega
        rw [hcur] at hj
        have f1 : (L ++ (Z ++ [Blk.cells [.str ty, .str va]]))[j]? = some (.cells (strsA cur)) := by
          rw [← List.append_assoc, List.getElem?_append_left (List.getElem?_eq_some_iff.1 hj).1]; exact hj
        have f2 : (L ++ (Z ++ [Blk.cells [.str ty, .str va]])).set j .dead = L ++ (Z ++ [Blk.cells [.str ty, .str va]]).set (j - L.length) .dead := s4.out _ _ _ (by omega)
        have f3 : k ≤ (strsA cur).length := by simp [hcl]
        have f4 : (strsA cur).take k = strsA cur := List.take_of_length_le (by simp [hcl])
        replace hcur := hid hcur
        replace hcl := hid hcl
        have hjL := hid (show j ≠ L.length by omega)
        have f2' := hid f2
        repeat' first
          | refine AW_seq ?_
          | (first | refine AW_sreg (by kernel_rfl) ?_ | refine AW_sdreg (by kernel_rfl) ?_ | refine AW_dregM ?_ | refine Nx_in ?_ | refine NxI_in (fun _ => ?_) | refine AW_region ?_ | refine AW_dreg ?_ | refine written_k hva' ?_ | refine CalK2_mk (written_k hva' ⟨rfl, rfl⟩) (written_k hva' ⟨rfl, rfl⟩) ?_ | refine CalK_mk (written_k hva' ⟨rfl, rfl⟩) ?_)
            simp (config := { maxSteps := 2000000 }) only [Kon, push_cast, reduceIte, Nat.reduceEqDiff, Nat.reduceAdd, Nat.reduceMul, Nat.reduceSub, Nat.reduceLT, Nat.reduceLeDiff, Int.reduceLT, Int.reduceLE, Int.reduceAdd, Int.reduceSub, Int.reduceNeg, Int.reduceToNat, Int.reduceEq, reduceCtorEq, *]
          | (first | refine SelK_mk (by kernel_rfl) ?_ | refine AW_skip ?_ | refine AW_exit ?_ | refine AW_ret (Back_retR ?_))
            simp only [push_cast, reduceIte, Nat.reduceEqDiff, Nat.reduceAdd, Nat.reduceMul, Nat.reduceSub, Nat.reduceLT, Nat.reduceLeDiff, Int.reduceLT, Int.reduceLE, Int.reduceAdd, Int.reduceSub, Int.reduceNeg, Int.reduceToNat, Int.reduceEq, reduceCtorEq, *]
          | exact IsB_mk
          | first | apply GQ_mkT | apply GQ_mkTN | apply GQ_mkF | apply GQ_mkFN | apply GQ_mkB | apply GQ_mkBF
          | refine AW_block ?_
          | first | refine AW_condT rfl ?_ | refine AW_condF rfl ?_ | refine AW_condAny rfl ?_ ?_ | refine AW_condB rfl (fun _ => ?_) (fun _ => ?_) | refine AW_condN rfl (fun _ => ?_) (fun _ => ?_)
          | ((first | refine ite_introN (fun _ => ?_) (fun _ => ?_) | refine ite_intro (fun _ => ?_) (fun _ => ?_)) <;> try simp (config := { maxSteps := 2000000 }) only [Kon, push_cast, reduceIte, Nat.reduceEqDiff, Nat.reduceAdd, Nat.reduceMul, Nat.reduceSub, Nat.reduceLT, Nat.reduceLeDiff, Int.reduceLT, Int.reduceLE, Int.reduceAdd, Int.reduceSub, Int.reduceNeg, Int.reduceToNat, Int.reduceEq, reduceCtorEq, *])
          | refine And.intro trivial ?_
          | refine And.intro (by omega) ?_
          | refine AW_cond rfl (fun _ => ?_) (fun _ => ?_)
          | refine And.intro ?_ ?_
        · rw [hcl.out]; exact Nat.le_refl _
        · have hA : ((Z ++ [Blk.cells [.str ty, .str va]]).set (j - L.length) .dead).length = Z.length + 1 := by simp
          refine Nxt_mk _ _ _ (by omega) (Cut_same (by repeat' first | exact SubT_nil | refine SubT_cons rfl rfl ?_ | refine SubT_consF rfl rfl ?_ | refine SubT_cons rfl (congrArg (AV.int _) (by omega)) ?_ | refine SubT_cons rfl (by first | (simp_all; done) | (simp_all; omega) | (simp_all; intros; omega)) ?_) ?_) ⟨k + 1, .lsl (L.length + (Z.length + 1)) 0 (k + 1) none 1, _, rfl, hkl, ?_, ?_, hid (.inr ⟨L.length + (Z.length + 1), ⟨by omega, by omega⟩, rfl, ?_⟩), rfl, rfl⟩
          · have := hXZ.out; simp; omega
          · have := hXZ.out; simp; omega
          · rw [← List.append_assoc, ← f2'.out, List.getElem?_append_left (by simp), List.getElem?_set_ne hjL.out, ← List.append_assoc, List.getElem?_append_left (List.getElem?_eq_some_iff.1 ho2).1]
            exact ho2
          · rw [getAppK, ← hA, getApp0, htk2.out, hcur.out]
            simp
    · have hke : k = r.length := by omega
      subst hke
      have g3 : ¬ (r.length : Int) < (r.length : Int) := by omega
      have q4 : (i + 1) * 16 ≤ 140737488355328 := by omega
      have q5 : i + 1 ≤ 140737488355328 := by omega
      have hrow : rowT false r = Lib.join (r.map (avT false)) [43] := by simp [rowT]
      rw [hrow] at hjr
      have htk3 : (d.take (i + 1)).map (rowT false) = all ++ [Lib.join (r.map (avT false)) [43]] := by
        rw [htk.out, List.map_append, ← hall.out, ← hrow]; rfl
      have f0 : (L ++ Z).set L.length (.spare (i + 1) 1) = L ++ Z.set 0 (.spare (i + 1) 1) := by rw [s4.out _ _ _ (Nat.le_refl _), Nat.sub_self]
      have f1 : (L ++ Z.set 0 (.spare (i + 1) 1))[L.length]? = some (.spare (i + 1) 1) := by
        rw [← f0, List.getElem?_set, if_pos rfl, if_pos (List.getElem?_eq_some_iff.1 ho2).1]
      replace hrow := hid hrow
      replace htk3 := hid htk3
      replace f1 := hid f1
      rcases hv.out with ⟨rfl, hk0⟩ | ⟨j, ⟨hk1, hBj⟩, rfl, hj⟩
      · have hr0 : r = [] := List.length_eq_zero_iff.1 hk0
        replace hk0 := hid hk0
        refine wk ?_
        refine join_s_k (xs := []) (by simp) (by simp [Lib.join]) ?_
        refine sk ?_
        refine wk ?_
        rw [show strsA all ++ [AV.str (Lib.join [] [43])] = strsA (all ++ [Lib.join [] [43]]) by simp]
        exact Nxt_mk _ _ _ (by omega) (Cut_same (by repeat' first | exact SubT_nil | refine SubT_cons rfl rfl ?_ | refine SubT_consF rfl rfl ?_ | refine SubT_cons rfl (congrArg (AV.int _) (by omega)) ?_ | refine SubT_cons rfl (by first | (simp_all; done) | (simp_all; omega) | (simp_all; intros; omega)) ?_) (by have := hX.out; have h0 := (List.getElem?_eq_some_iff.1 ho2).1; simp at h0 ⊢; omega)) ⟨i + 1, all ++ [Lib.join [] [43]], _, rfl, hlt, hid (by rw [htk3.out, hr0]; rfl), f1.out, rfl, rfl⟩
      · rw [List.take_length] at hj
        by_cases hr0 : r = []
        · rw [hr0] at hk1; cases hk1
        · refine wk ?_
          refine joinLn_k (xs := r.map (avT false)) (by simp) (by simpa using hr0) (by simp; omega) hjr (by simpa using hj) ?_
          refine sk ?_
          refine wk ?_
          rw [show strsA all ++ [AV.str (Lib.join (r.map (avT false)) [43])] = strsA (all ++ [Lib.join (r.map (avT false)) [43]]) by simp]
          exact Nxt_mk _ _ _ (by omega) (Cut_same (by repeat' first | exact SubT_nil | refine SubT_cons rfl rfl ?_ | refine SubT_consF rfl rfl ?_ | refine SubT_cons rfl (congrArg (AV.int _) (by omega)) ?_ | refine SubT_cons rfl (by first | (simp_all; done) | (simp_all; omega) | (simp_all; intros; omega)) ?_) (by have h0 := (List.getElem?_eq_some_iff.1 ho2).1; simp at h0 ⊢; omega)) ⟨i + 1, all ++ [Lib.join (r.map (avT false)) [43]], _, rfl, hlt, hid htk3.out.symm, f1.out, rfl, rfl⟩
  · have hke : i = d.length := by omega
    subst hke
    have g1 : ¬ (d.length : Int) < (d.length : Int) := by omega
    have e := hall.out
    rw [List.take_length] at e
    have h' := h.out
    simp only [txtT] at h' hj2
    replace h' := hid h'
    clear hall
    subst e
    refine wk ?_
    refine joinG_k (by simp) (by simp; omega) hj2 ?_
    refine sk ?_
    refine wk ?_
    exact Fin_pure rfl h'.out
end Go.Proofs.YtffnflplocbpiaaGreatDoor.Av

namespace Go.Proofs.YtffnflplocbpiaaGreatDoor.Av
open Go
set_option maxHeartbeats 8000000
set_option maxRecDepth 100000

theorem prepL_len2 (s : List UInt8) : (prepL s).length ≤ s.length := by
  have := prepL_len s s.length
  rwa [List.take_length] at this
theorem prepS_len (s : List UInt8) : (prepS s).length ≤ s.length := by
  have h1 := prepL_len2 (foldS s)
  have h2 : (foldS s).length = s.length := by simp [foldS]
  unfold prepS trimB
  split
  · simp only [List.length_dropLast]; omega
  · omega
theorem sortSn_k {xs : List (List UInt8)} {i n : Nat} {cp : Option Nat} {L : List Blk} {K : AV → List Blk → Prop} (he : n = xs.length) (hx : xs ≠ []) (hn : xs.length ≤ 1000000) (hL : L[i]? = some (.cells (strsA xs))) (h : K (.tup []) (L.set i (.cells (strsA (sortS xs))))) :
    ACall Tryz.prog 94 [.lsl i 0 n cp 1] L K := by
  subst he
  exact sortS_k (rest := []) hx hn (by simpa using hL) (by simpa using h)
theorem sortS_len (xs : List (List UInt8)) : (sortS xs).length = xs.length := by simp [sortS]
theorem textT_k {d : List Rdn} {cap : Option Nat} (hn : d.length ≤ 1000) (hr : ∀ r ∈ d, r.length ≤ 1000 ∧ ∀ a ∈ r, a.1.length ≤ 10000 ∧ a.2.length ≤ 10000) (hj1 : ∀ r ∈ d, (rowT true r).length ≤ 140737488355328) (hj2 : (txtT true d).length ≤ 140737488355328) {L : List Blk} {K : AV → List Blk → Prop} (h : K (.str (txtT true d)) L) :
    ACall Tryz.prog 64 [.sl (d.map rdnF) d.length cap, .bool true] L K := by
  replace h := hid h
  have hat := hid (fun k => @rdn_at d k)
  replace hr := hid hr
  replace hj1 := hid hj1
  have s4 : ∀ (W : List Blk) (j : Nat) (A : Blk), L.length ≤ j → (L ++ W).set j A = L ++ W.set (j - L.length) A := fun W j A hj => List.set_append_right _ _ hj
  replace s4 := hid s4
  refine ACall_fn c_dn_text_eq (by simp [c_dn_text]) ?_
  simp only [c_dn_text, initT]
  refine wk ?_
  refine AW_grow (l := []) (n := 0) 5 1 rfl (Nat.zero_mul 1).symm ?_
  refine AW_loopT (fun n T' L' => ∃ (i : Nat) (all : List (List UInt8)) (Z : List Blk), n = d.length - i ∧ i ≤ d.length ∧ Hid (all = (d.take i).map (rowT true)) ∧ L'[L.length]? = some (.spare i 1) ∧ T' = [(13, .int .i64 (i : Int)), (12, .int .i64 d.length), (11, .sl (d.map rdnF) d.length cap), (5, .gsl (strsA all) i L.length 1), (1, .bool true)] ∧ L' = L ++ Z) (Cut_same (by repeat' first | exact SubT_nil | refine SubT_cons rfl rfl ?_ | refine SubT_consF rfl rfl ?_) (by simp)) ⟨0, [], [.spare 0 1], rfl, Nat.zero_le _, hid rfl, by simp, rfl, rfl⟩ ?_
  rintro _ _ _ ⟨i, all, X, rfl, hi, hall, ho, rfl, rfl⟩
  by_cases hlt : i < d.length
  · have g1 : (i : Int) < (d.length : Int) := by omega
    have g2 : IntKind.i64.wrap ((i : Int) + 1) = (i : Int) + 1 := wrap64_in (by omega) (by omega)
    have e2 := hat.out i hlt
    have hrm : d.getD i [] ∈ d := by rw [List.getD_eq_getElem?_getD, List.getElem?_eq_getElem hlt]; exact List.getElem_mem _
    have hrl := hr.out _ hrm
    have hjr := hj1.out _ hrm
    obtain ⟨r, hri⟩ : ∃ r, d.getD i [] = r := ⟨_, rfl⟩
    have htk : d.take (i + 1) = d.take i ++ [r] := by rw [List.take_succ_eq_append_getElem hlt, ← hri]; simp [hlt]
    rw [hri] at e2 hrl hjr
    clear hri hrm
    obtain ⟨hrl1, hrl2⟩ := hrl
    replace hrl2 := hid hrl2
    replace htk := hid htk
    have hX := (List.getElem?_eq_some_iff.1 ho).1
    rw [List.length_append] at hX
    replace hX := hid hX
    refine wk ?_
    refine AW_loopT (fun n T' L' => ∃ (k : Nat) (v : AV) (Z : List Blk), n = r.length - k ∧ k ≤ r.length ∧ X.length ≤ Z.length ∧ L'[L.length]? = some (.spare i 1) ∧ Hid ((v = .sl [] 0 (some 0) ∧ k = 0) ∨ ∃ j, (0 < k ∧ L.length < j) ∧ v = .lsl j 0 k none 1 ∧ L'[j]? = some (.cells (strsA ((r.take k).map (avT true))))) ∧ T' = [(19, .int .i64 (k : Int)), (18, .int .i64 r.length), (17, rdnF r), (8, v), (13, .int .i64 (i : Int)), (12, .int .i64 d.length), (11, .sl (d.map rdnF) d.length cap), (5, .gsl (strsA all) i L.length 1), (1, .bool true)] ∧ L' = L ++ Z) (Cut_same (by repeat' first | exact SubT_nil | refine SubT_cons rfl rfl ?_ | refine SubT_consF rfl rfl ?_) (by simp)) ⟨0, _, X, rfl, Nat.zero_le _, Nat.le_refl _, ho, hid (.inl ⟨rfl, rfl⟩), rfl, rfl⟩ ?_
    rintro _ _ _ ⟨k, v, Z, rfl, hk, hXZ, ho2, hv, rfl, rfl⟩
    replace hXZ := hid hXZ
    by_cases hkl : k < r.length
    · have g3 : (k : Int) < (r.length : Int) := by omega
      have g4 : IntKind.i64.wrap ((k : Int) + 1) = (k : Int) + 1 := wrap64_in (by omega) (by omega)
      have e3 := avasA_at hkl
      have e4 : k * 2 + 2 ≤ (avasA r).length := by rw [avasA_len]; omega
      obtain ⟨⟨ty, va⟩, ha⟩ : ∃ a, r.getD k ([], []) = a := ⟨_, rfl⟩
      have ham : (ty, va) ∈ r := by rw [← ha]; simp [hkl]
      have htk2 : (r.take (k + 1)).map (avT true) = (r.take k).map (avT true) ++ [foldS ty ++ 61 :: writS (prepS va)] := by
        rw [List.take_succ_eq_append_getElem hkl]
        have : r[k] = (ty, va) := by rw [← ha]; simp [hkl]
        rw [this]; simp [avT]
      rw [ha] at e3
      simp only [avaA] at e3
      have hva := hrl2.out _ ham
      simp only at hva
      have hpl := prepS_len va
      have hva' : (prepS va).length ≤ 100000 := by omega
      have hva2 : (va.length : Int) ≤ 100000 := by omega
      have hty2 : (ty.length : Int) ≤ 100000 := by omega
      have hwl := wrL_len (prepS va).length (prepS va) 0
      have hfl : (foldS ty).length = ty.length := by simp [foldS]
      have b1 : ((foldS ty).length : Int) + 1 ≤ 9223372036854775807 := by omega
      have b2 : ((foldS ty).length : Int) + 1 + ((writS (prepS va)).length : Int) ≤ 9223372036854775807 := by unfold writS; omega
      clear hwl ha ham hva hfl hpl
      replace htk2 := hid htk2
      have q1 : (k + 1) * 16 ≤ 140737488355328 := by omega
      have q2 : k + 1 ≤ 140737488355328 := by omega
      have q3 : k ≤ 140737488355327 := by omega
      rcases hv.out with ⟨rfl, hk0⟩ | ⟨j, ⟨hk1, hBj⟩, rfl, hj⟩
      · replace hk0 := hid hk0
        have kk1 := @hid _ (fun L K => fold_k hty2 (L := L) (K := K))
        have kk2 := @hid _ (fun L K => prep_k hva2 (L := L) (K := K))
        have kk3 := @hid _ (fun L K => written_k hva' (L := L) (K := K))
        refine wk ?_
        refine Nxt_mk _ _ _ (by omega) (Cut_same (by repeat' first | exact SubT_nil | refine SubT_cons rfl rfl ?_ | refine SubT_consF rfl rfl ?_ | refine SubT_cons rfl (congrArg (AV.int _) (by omega)) ?_ | refine SubT_cons rfl (by first | (simp_all; done) | (simp_all; omega) | (simp_all; intros; omega)) ?_) ?_) ⟨k + 1, .lsl (L.length + (Z.length + 1)) 0 1 none 1, _, rfl, hkl, ?_, ?_, hid (.inr ⟨L.length + (Z.length + 1), ⟨by omega, by omega⟩, by rw [hk0.out], ?_⟩), rfl, rfl⟩
        · have := hXZ.out; simp; omega
        · have := hXZ.out; simp; omega
        · rw [← List.append_assoc, List.getElem?_append_left (List.getElem?_eq_some_iff.1 ho2).1]; exact ho2
        · rw [getAppK, getAppK, htk2.out, hk0.out]; rfl
      · obtain ⟨cur, hcur⟩ : ∃ cur, (r.take k).map (avT true) = cur := ⟨_, rfl⟩
        have hcl : cur.length = k := by rw [← hcur]; simp; omega
        rw [hcur] at hj
        have f1 : (L ++ (Z ++ [Blk.cells [.str (foldS ty), .str (prepS va)]]))[j]? = some (.cells (strsA cur)) := by
          rw [← List.append_assoc, List.getElem?_append_left (List.getElem?_eq_some_iff.1 hj).1]; exact hj
        have f2 : (L ++ (Z ++ [Blk.cells [.str (foldS ty), .str (prepS va)]])).set j .dead = L ++ (Z ++ [Blk.cells [.str (foldS ty), .str (prepS va)]]).set (j - L.length) .dead := s4.out _ _ _ (by omega)
        have f3 : k ≤ (strsA cur).length := by simp [hcl]
        have f4 : (strsA cur).take k = strsA cur := List.take_of_length_le (by simp [hcl])
        replace hcur := hid hcur
        replace hcl := hid hcl
        have hjL := hid (show j ≠ L.length by omega)
        have f2' := hid f2
        repeat' first
          | refine AW_seq ?_
          | (first | refine AW_sreg (by kernel_rfl) ?_ | refine AW_sdreg (by kernel_rfl) ?_ | refine AW_dregM ?_ | refine Nx_in ?_ | refine NxI_in (fun _ => ?_) | refine AW_region ?_ | refine AW_dreg ?_ | refine fold_k hty2 ?_ | refine prep_k hva2 ?_ | refine written_k hva' ?_ | refine CalK2_mk (fold_k hty2 ⟨rfl, rfl⟩) (fold_k hty2 ⟨rfl, rfl⟩) ?_ | refine CalK2_mk (prep_k hva2 ⟨rfl, rfl⟩) (prep_k hva2 ⟨rfl, rfl⟩) ?_ | refine CalK2_mk (written_k hva' ⟨rfl, rfl⟩) (written_k hva' ⟨rfl, rfl⟩) ?_ | refine CalK_mk (fold_k hty2 ⟨rfl, rfl⟩) ?_ | refine CalK_mk (prep_k hva2 ⟨rfl, rfl⟩) ?_ | refine CalK_mk (written_k hva' ⟨rfl, rfl⟩) ?_)
            simp (config := { maxSteps := 2000000 }) only [Kon, push_cast, reduceIte, Nat.reduceEqDiff, Nat.reduceAdd, Nat.reduceMul, Nat.reduceSub, Nat.reduceLT, Nat.reduceLeDiff, Int.reduceLT, Int.reduceLE, Int.reduceAdd, Int.reduceSub, Int.reduceNeg, Int.reduceToNat, Int.reduceEq, reduceCtorEq, *]
          | (first | refine SelK_mk (by kernel_rfl) ?_ | refine AW_skip ?_ | refine AW_exit ?_ | refine AW_ret (Back_retR ?_))
            simp only [push_cast, reduceIte, Nat.reduceEqDiff, Nat.reduceAdd, Nat.reduceMul, Nat.reduceSub, Nat.reduceLT, Nat.reduceLeDiff, Int.reduceLT, Int.reduceLE, Int.reduceAdd, Int.reduceSub, Int.reduceNeg, Int.reduceToNat, Int.reduceEq, reduceCtorEq, *]
          | exact IsB_mk
          | first | apply GQ_mkT | apply GQ_mkTN | apply GQ_mkF | apply GQ_mkFN | apply GQ_mkB | apply GQ_mkBF
          | refine AW_block ?_
          | first | refine AW_condT rfl ?_ | refine AW_condF rfl ?_ | refine AW_condAny rfl ?_ ?_ | refine AW_condB rfl (fun _ => ?_) (fun _ => ?_) | refine AW_condN rfl (fun _ => ?_) (fun _ => ?_)
          | ((first | refine ite_introN (fun _ => ?_) (fun _ => ?_) | refine ite_intro (fun _ => ?_) (fun _ => ?_)) <;> try simp (config := { maxSteps := 2000000 }) only [Kon, push_cast, reduceIte, Nat.reduceEqDiff, Nat.reduceAdd, Nat.reduceMul, Nat.reduceSub, Nat.reduceLT, Nat.reduceLeDiff, Int.reduceLT, Int.reduceLE, Int.reduceAdd, Int.reduceSub, Int.reduceNeg, Int.reduceToNat, Int.reduceEq, reduceCtorEq, *])
          | refine And.intro trivial ?_
          | refine And.intro (by omega) ?_
          | refine AW_cond rfl (fun _ => ?_) (fun _ => ?_)
          | refine And.intro ?_ ?_
        · rw [hcl.out]; exact Nat.le_refl _
        · have hA : ((Z ++ [Blk.cells [.str (foldS ty), .str (prepS va)]]).set (j - L.length) .dead).length = Z.length + 1 := by simp
          refine Nxt_mk _ _ _ (by omega) (Cut_same (by repeat' first | exact SubT_nil | refine SubT_cons rfl rfl ?_ | refine SubT_consF rfl rfl ?_ | refine SubT_cons rfl (congrArg (AV.int _) (by omega)) ?_ | refine SubT_cons rfl (by first | (simp_all; done) | (simp_all; omega) | (simp_all; intros; omega)) ?_) ?_) ⟨k + 1, .lsl (L.length + (Z.length + 1)) 0 (k + 1) none 1, _, rfl, hkl, ?_, ?_, hid (.inr ⟨L.length + (Z.length + 1), ⟨by omega, by omega⟩, rfl, ?_⟩), rfl, rfl⟩
          · have := hXZ.out; simp; omega
          · have := hXZ.out; simp; omega
          · rw [← List.append_assoc, ← f2'.out, List.getElem?_append_left (by simp), List.getElem?_set_ne hjL.out, ← List.append_assoc, List.getElem?_append_left (List.getElem?_eq_some_iff.1 ho2).1]
            exact ho2
          · rw [getAppK, ← hA, getApp0, htk2.out, hcur.out]
            simp
    · have hke : k = r.length := by omega
      subst hke
      have g3 : ¬ (r.length : Int) < (r.length : Int) := by omega
      have q4 : (i + 1) * 16 ≤ 140737488355328 := by omega
      have q5 : i + 1 ≤ 140737488355328 := by omega
      have hrow : rowT true r = Lib.join (sortS (r.map (avT true))) [43] := by simp [rowT]
      rw [hrow] at hjr
      have htk3 : (d.take (i + 1)).map (rowT true) = all ++ [Lib.join (sortS (r.map (avT true))) [43]] := by
        rw [htk.out, List.map_append, ← hall.out, ← hrow]; rfl
      replace hrow := hid hrow
      replace htk3 := hid htk3
      rcases hv.out with ⟨rfl, hk0⟩ | ⟨j, ⟨hk1, hBj⟩, rfl, hj⟩
      · have hr0 : r = [] := List.length_eq_zero_iff.1 hk0
        have f0 : (L ++ Z).set L.length (.spare (i + 1) 1) = L ++ Z.set 0 (.spare (i + 1) 1) := by rw [s4.out _ _ _ (Nat.le_refl _), Nat.sub_self]
        have f1 : (L ++ Z.set 0 (.spare (i + 1) 1))[L.length]? = some (.spare (i + 1) 1) := by
          rw [← f0, List.getElem?_set, if_pos rfl, if_pos (List.getElem?_eq_some_iff.1 ho2).1]
        replace f1 := hid f1
        replace hk0 := hid hk0
        refine wk ?_
        refine sortS0_k ?_
        refine sk ?_
        refine wk ?_
        refine join_s_k (xs := []) (by simp) (by simp [Lib.join]) ?_
        refine sk ?_
        refine wk ?_
        rw [show strsA all ++ [AV.str (Lib.join [] [43])] = strsA (all ++ [Lib.join [] [43]]) by simp]
        exact Nxt_mk _ _ _ (by omega) (Cut_same (by repeat' first | exact SubT_nil | refine SubT_cons rfl rfl ?_ | refine SubT_consF rfl rfl ?_ | refine SubT_cons rfl (congrArg (AV.int _) (by omega)) ?_ | refine SubT_cons rfl (by first | (simp_all; done) | (simp_all; omega) | (simp_all; intros; omega)) ?_) (by have := hX.out; have h0 := (List.getElem?_eq_some_iff.1 ho2).1; simp at h0 ⊢; omega)) ⟨i + 1, all ++ [Lib.join [] [43]], _, rfl, hlt, hid (by rw [htk3.out, hr0]; simp [sortS]), f1.out, rfl, rfl⟩
      · rw [List.take_length] at hj
        have hr0 : r ≠ [] := fun e => by rw [e] at hk1; cases hk1
        obtain ⟨xs, hxs⟩ : ∃ xs, r.map (avT true) = xs := ⟨_, rfl⟩
        have hxl : r.length = xs.length := by rw [← hxs]; simp
        have hxne : xs ≠ [] := fun e => hr0 (by have := hxl; rw [e] at this; exact List.length_eq_zero_iff.1 this)
        rw [hxs] at hj hjr htk3
        have hsl := sortS_len xs
        have hjl : L.length + (j - L.length) = j := by omega
        have f2 : (L ++ Z).set j (.cells (strsA (sortS xs))) = L ++ Z.set (j - L.length) (.cells (strsA (sortS xs))) := s4.out _ _ _ (by omega)
        have f3 : (L ++ Z.set (j - L.length) (.cells (strsA (sortS xs))))[j]? = some (.cells (strsA (sortS xs))) := by
          rw [← f2, List.getElem?_set, if_pos rfl, if_pos (List.getElem?_eq_some_iff.1 hj).1]
        have ho3 : (L ++ Z.set (j - L.length) (.cells (strsA (sortS xs))))[L.length]? = some (.spare i 1) := by
          rw [← f2, List.getElem?_set_ne (by omega)]; exact ho2
        clear ho2
        replace hj := hid hj
        generalize hZ1 : Z.set (j - L.length) (.cells (strsA (sortS xs))) = Z1 at f2 f3 ho3
        have f0 : (L ++ Z1).set L.length (.spare (i + 1) 1) = L ++ Z1.set 0 (.spare (i + 1) 1) := by rw [s4.out _ _ _ (Nat.le_refl _), Nat.sub_self]
        have f1 : (L ++ Z1.set 0 (.spare (i + 1) 1))[L.length]? = some (.spare (i + 1) 1) := by
          rw [← f0, List.getElem?_set, if_pos rfl, if_pos (List.getElem?_eq_some_iff.1 ho3).1]
        replace f1 := hid f1
        replace f2 := hid f2
        replace f3 := hid f3
        replace hxs := hid hxs
        replace hxl := hid hxl
        replace hsl := hid hsl
        clear hZ1
        replace hxne := hid hxne
        refine wk ?_
        refine sortSn_k hxl.out hxne.out (by have := hxl.out; omega) hj.out ?_
        rw [f2.out]
        refine sk ?_
        refine wk ?_
        refine joinLn_k (xs := sortS xs) (by rw [hsl.out]; exact hxl.out) (fun e => hxne.out (by have := hsl.out; rw [e] at this; exact List.length_eq_zero_iff.1 this.symm)) (by have := hxl.out; rw [hsl.out]; omega) hjr f3.out ?_
        refine sk ?_
        refine wk ?_
        rw [show strsA all ++ [AV.str (Lib.join (sortS xs) [43])] = strsA (all ++ [Lib.join (sortS xs) [43]]) by simp]
        exact Nxt_mk _ _ _ (by omega) (Cut_same (by repeat' first | exact SubT_nil | refine SubT_cons rfl rfl ?_ | refine SubT_consF rfl rfl ?_ | refine SubT_cons rfl (congrArg (AV.int _) (by omega)) ?_ | refine SubT_cons rfl (by first | (simp_all; done) | (simp_all; omega) | (simp_all; intros; omega)) ?_) (by have h0 := (List.getElem?_eq_some_iff.1 ho3).1; simp at h0 ⊢; omega)) ⟨i + 1, all ++ [Lib.join (sortS xs) [43]], _, rfl, hlt, hid htk3.out.symm, f1.out, rfl, rfl⟩
  · have hke : i = d.length := by omega
    subst hke
    have g1 : ¬ (d.length : Int) < (d.length : Int) := by omega
    have e := hall.out
    rw [List.take_length] at e
    have h' := h.out
    simp only [txtT] at h' hj2
    replace h' := hid h'
    clear hall
    subst e
    refine wk ?_
    refine joinG_k (by simp) (by simp; omega) hj2 ?_
    refine sk ?_
    refine wk ?_
    exact Fin_pure rfl h'.out
end Go.Proofs.YtffnflplocbpiaaGreatDoor.Av

namespace Go.Proofs.YtffnflplocbpiaaGreatDoor.Av
open Go
set_option maxHeartbeats 8000000
set_option maxRecDepth 100000

def longR (r : Rdn) : Bool := r.any fun a => decide (4096 < a.2.length)
def longD (d : List Rdn) : Bool := d.any longR
theorem chkRow_ok : ∀ (t done : Rdn), chkRow done t = 0 → done.length ≤ 8 → (done ++ t).length ≤ 8 ∧ ∀ a ∈ t, a.1.length ≤ 32
  | [], done, _, h => by simp; exact h
  | a :: t, done, h, hd => by
    simp only [chkRow] at h
    split at h
    · cases h
    · split at h
      · cases h
      · split at h
        · cases h
        · rename_i h1 h2 h3
          have := chkRow_ok t (done ++ [a]) h (by simp; omega)
          refine ⟨by simpa using this.1, fun b hb => ?_⟩
          rcases List.mem_cons.1 hb with rfl | hb
          · exact typS_len (by simpa using h2)
          · exact this.2 b hb
theorem chkD_ok : ∀ (d : List Rdn) (i : Nat), chkD i d = 0 → i ≤ 32 → i + d.length ≤ 32 ∧ ∀ r ∈ d, r.length ≤ 8 ∧ ∀ a ∈ r, a.1.length ≤ 32
  | [], i, _, h => by simp; exact h
  | r :: d, i, h, hi => by
    simp only [chkD] at h
    split at h
    · cases h
    · split at h
      · cases h
      · split at h
        · rename_i h3; exact absurd h h3
        · rename_i h1 h2 h3
          have h3' : chkRow [] r = 0 := by simpa using h3
          have a1 := chkRow_ok r [] h3' (by simp)
          have a2 := chkD_ok d (i + 1) h (by omega)
          refine ⟨by simp; omega, fun q hq => ?_⟩
          rcases List.mem_cons.1 hq with rfl | hq
          · exact ⟨by simpa using a1.1, a1.2⟩
          · exact a2.2 q hq
theorem writS_len (s : List UInt8) : (writS s).length ≤ 3 * s.length := wrL_len _ _ _
theorem avT_len {key : Bool} {a : Ava} (h1 : a.1.length ≤ 32) (h2 : a.2.length ≤ 4096) : (avT key a).length ≤ 20000 := by
  have e1 := writS_len a.2
  have e2 := writS_len (prepS a.2)
  have e3 := prepS_len a.2
  have e4 : (foldS a.1).length = a.1.length := by simp [foldS]
  unfold avT
  split
  · simp; omega
  · simp; omega
theorem join_len {B : Nat} {sep : List UInt8} : ∀ xs : List (List UInt8), (∀ x ∈ xs, x.length ≤ B) → (Lib.join xs sep).length ≤ xs.length * (B + sep.length)
  | [], _ => by simp [Lib.join]
  | [x], h => by
    have := h x (by simp)
    simp [Lib.join, List.intercalate]; omega
  | x :: y :: l, h => by
    have h1 := join_len (sep := sep) (y :: l) fun z hz => h z (List.mem_cons_of_mem _ hz)
    have h2 := h x (by simp)
    have e : Lib.join (x :: y :: l) sep = x ++ (sep ++ Lib.join (y :: l) sep) := by simp [Lib.join, List.intercalate]
    rw [e]
    simp only [List.length_append, List.length_cons, Nat.succ_mul] at h1 ⊢
    omega
theorem rowT_len {key : Bool} {r : Rdn} (h0 : r.length ≤ 8) (h1 : ∀ a ∈ r, a.1.length ≤ 32) (h2 : ∀ a ∈ r, a.2.length ≤ 4096) : (rowT key r).length ≤ 200000 := by
  have key1 : ∀ xs : List (List UInt8), xs.length ≤ 8 → (∀ x ∈ xs, x.length ≤ 20000) → (Lib.join xs [43]).length ≤ 200000 := fun xs a b => by
    have c := join_len (sep := [43]) xs b
    have d : xs.length * (20000 + [(43 : UInt8)].length) ≤ 8 * (20000 + 1) := Nat.mul_le_mul_right _ a
    omega
  have hm : ∀ x ∈ r.map (avT key), x.length ≤ 20000 := fun x hx => by
    obtain ⟨a, ha, rfl⟩ := List.mem_map.1 hx
    exact avT_len (h1 a ha) (h2 a ha)
  unfold rowT
  split
  · refine key1 _ (by rw [sortS_len]; simpa using h0) fun x hx => hm x ?_
    exact (List.mergeSort_perm (r.map (avT key)) _).mem_iff.1 hx
  · exact key1 _ (by simpa using h0) hm
theorem txtT_len {key : Bool} {d : List Rdn} (h0 : d.length ≤ 32) (h1 : ∀ r ∈ d, (rowT key r).length ≤ 200000) : (txtT key d).length ≤ 10000000 := by
  have c := join_len (sep := [44]) (B := 200000) (d.map (rowT key)) fun x hx => by
    obtain ⟨r, hr, rfl⟩ := List.mem_map.1 hx
    exact h1 r hr
  have e : (d.map (rowT key)).length * (200000 + [(44 : UInt8)].length) ≤ 32 * (200000 + 1) := Nat.mul_le_mul_right _ (by simpa using h0)
  unfold txtT
  omega

/-- A name's text, or what is wrong with it. -/
def prS (d : List Rdn) : List UInt8 × Int := if chkD 0 d ≠ 0 then ([], chkD 0 d) else if longD d = true then ([], 5) else if 4096 < (txtT false d).length then ([], 5) else (txtT false d, 0)
def strE (p : List UInt8 × Int) : AV := .tup [.str p.1, .int .i64 p.2]
def nrmS (d : List Rdn) : List UInt8 × Int := if (prS d).2 ≠ 0 then ([], (prS d).2) else (txtT true d, 0)
def keyS (s : List UInt8) : List UInt8 × Int := if (parS s).2 ≠ 0 then ([], (parS s).2) else nrmS (parS s).1

theorem print_k {d : List Rdn} {cap : Option Nat} (hn : d.length ≤ 1000000) (hr : ∀ r ∈ d, r.length ≤ 1000000) {L : List Blk} {K : AV → List Blk → Prop} (h : K (strE (prS d)) L) :
    ACall Tryz.prog 63 [.sl (d.map rdnF) d.length cap] L K := by
  have hat := hid (fun k => @rdn_at d k)
  unfold prS strE at h
  refine ACall_fn c_dn_Print_eq (by simp [c_dn_Print]) ?_
  simp only [c_dn_Print, initT]
  refine wk ?_
  refine check_k hn hr ?_
  by_cases hc : chkD 0 d = 0
  rotate_left
  · rw [if_pos hc] at h
    replace h := hid h
    refine sk ?_
    refine wk ?_
    exact Fin_same h.out
  rw [if_neg (by simpa using hc)] at h
  obtain ⟨hd32, hd8⟩ := chkD_ok d 0 hc (by omega)
  rw [hc]
  replace hd8 := hid hd8
  replace h := hid h
  clear hr hn hc
  refine sk ?_
  refine wk ?_
  refine AW_loopT (fun n T' L' => ∃ (i : Nat) (c : Int) (Z : List Blk), n = d.length - i ∧ i ≤ d.length ∧ Hid (longD (d.take i) = false ∧ 0 ≤ c ∧ c ≤ 8 * i) ∧ T' = [(18, .int .i64 (i : Int)), (17, .int .i64 d.length), (16, .sl (d.map rdnF) d.length cap), (5, .int .i64 c), (0, .sl (d.map rdnF) d.length cap)] ∧ L' = L ++ Z) (Cut_same (by repeat' first | exact SubT_nil | refine SubT_cons rfl rfl ?_ | refine SubT_consF rfl rfl ?_) (by simp)) ⟨0, 0, [], rfl, Nat.zero_le _, hid ⟨rfl, by omega, by omega⟩, rfl, by simp⟩ ?_
  rintro _ _ _ ⟨i, c, X, rfl, hi, hI, rfl, rfl⟩
  by_cases hlt : i < d.length
  · have g1 : (i : Int) < (d.length : Int) := by omega
    have g2 : IntKind.i64.wrap ((i : Int) + 1) = (i : Int) + 1 := wrap64_in (by omega) (by omega)
    have e2 := hat.out i hlt
    have hrm : d.getD i [] ∈ d := by rw [List.getD_eq_getElem?_getD, List.getElem?_eq_getElem hlt]; exact List.getElem_mem _
    obtain ⟨r, hri⟩ : ∃ r, d.getD i [] = r := ⟨_, rfl⟩
    have htk : d.take (i + 1) = d.take i ++ [r] := by rw [List.take_succ_eq_append_getElem hlt, ← hri]; simp [hlt]
    rw [hri] at e2 hrm
    have hr8 := (hd8.out r hrm).1
    have bad : longR r = true → K (.tup [.str [], .int .i64 5]) L := fun e => by
      have h' := h.out
      rw [if_pos (show longD d = true from List.any_eq_true.2 ⟨r, hrm, e⟩)] at h'
      exact h'
    replace bad := hid bad
    replace htk := hid htk
    clear hri hrm
    refine wk ?_
    refine AW_loopT (fun n T' L' => ∃ (k : Nat) (c' : Int) (Z : List Blk), n = r.length - k ∧ k ≤ r.length ∧ X.length ≤ Z.length ∧ Hid (longR (r.take k) = false ∧ c' = c + k) ∧ T' = [(24, .int .i64 (k : Int)), (23, .int .i64 r.length), (22, rdnF r), (18, .int .i64 (i : Int)), (17, .int .i64 d.length), (16, .sl (d.map rdnF) d.length cap), (5, .int .i64 c'), (0, .sl (d.map rdnF) d.length cap)] ∧ L' = L ++ Z) (Cut_same (by repeat' first | exact SubT_nil | refine SubT_cons rfl rfl ?_ | refine SubT_consF rfl rfl ?_) (by simp)) ⟨0, c, X, rfl, Nat.zero_le _, Nat.le_refl _, hid ⟨rfl, by omega⟩, rfl, rfl⟩ ?_
    rintro _ _ _ ⟨k, c', Z, rfl, hk, hXZ, hJ, rfl, rfl⟩
    replace hXZ := hid hXZ
    by_cases hkl : k < r.length
    · have g3 : (k : Int) < (r.length : Int) := by omega
      have g4 : IntKind.i64.wrap ((k : Int) + 1) = (k : Int) + 1 := wrap64_in (by omega) (by omega)
      have g5 : IntKind.i64.wrap (c' + 1) = c' + 1 := by
        obtain ⟨_, z1, z2⟩ := hI.out
        have := hJ.out.2
        exact wrap64_in (by omega) (by omega)
      have e3 := avasA_at hkl
      have e4 : k * 2 + 2 ≤ (avasA r).length := by rw [avasA_len]; omega
      obtain ⟨⟨ty, va⟩, ha⟩ : ∃ a, r.getD k ([], []) = a := ⟨_, rfl⟩
      have ham : (ty, va) ∈ r := by rw [← ha]; simp [hkl]
      have htk2 : r.take (k + 1) = r.take k ++ [(ty, va)] := by rw [List.take_succ_eq_append_getElem hkl, ← ha]; simp [hkl]
      rw [ha] at e3
      simp only [avaA] at e3
      have bad2 : 4096 < va.length → longR r = true := fun e => List.any_eq_true.2 ⟨_, ham, by simpa using e⟩
      replace bad2 := hid bad2
      replace htk2 := hid htk2
      clear ha ham
      by_cases hlv : (4096 : Int) < (va.length : Int)
      · have h' := hid (bad.out (bad2.out (by omega)))
        refine wk ?_
        exact Fin_pure rfl h'.out
      · refine wk ?_
        refine Nxt_mk _ _ _ (by omega) (Cut_same (by repeat' first | exact SubT_nil | refine SubT_cons rfl rfl ?_ | refine SubT_consF rfl rfl ?_ | refine SubT_cons rfl (congrArg (AV.int _) (by omega)) ?_ | refine SubT_cons rfl (by first | (simp_all; done) | (simp_all; omega) | (simp_all; intros; omega)) ?_) ?_) ⟨k + 1, c' + 1, _, rfl, hkl, ?_, hid ⟨?_, by have := hJ.out.2; omega⟩, rfl, rfl⟩
        · have := hXZ.out; simp; omega
        · have := hXZ.out; simp; omega
        · rw [htk2.out, longR, List.any_append, show (r.take k).any _ = longR (r.take k) from rfl, hJ.out.1]
          simp; omega
    · have hke : k = r.length := by omega
      subst hke
      have g3 : ¬ (r.length : Int) < (r.length : Int) := by omega
      have hlr := hJ.out.1
      rw [List.take_length] at hlr
      replace hlr := hid hlr
      refine wk ?_
      refine Nxt_mk _ _ _ (by omega) (Cut_same (by repeat' first | exact SubT_nil | refine SubT_cons rfl rfl ?_ | refine SubT_consF rfl rfl ?_ | refine SubT_cons rfl (congrArg (AV.int _) (by omega)) ?_ | refine SubT_cons rfl (by first | (simp_all; done) | (simp_all; omega) | (simp_all; intros; omega)) ?_) (by simp)) ⟨i + 1, c', _, rfl, hlt, hid ⟨?_, ?_, ?_⟩, rfl, rfl⟩
      · rw [htk.out, longD, List.any_append, show (d.take i).any _ = longD (d.take i) from rfl, hI.out.1]
        simp [hlr.out]
      · obtain ⟨_, z1, z2⟩ := hI.out
        have := hJ.out.2; omega
      · obtain ⟨_, z1, z2⟩ := hI.out
        have := hJ.out.2; omega
  · have hke : i = d.length := by omega
    subst hke
    have g1 : ¬ (d.length : Int) < (d.length : Int) := by omega
    have hld := hI.out.1
    rw [List.take_length] at hld
    have h' := h.out
    rw [if_neg (by rw [hld]; simp)] at h'
    have hv : ∀ r ∈ d, ∀ a ∈ r, a.2.length ≤ 4096 := fun r hr a ha => by
      have h1 := List.any_eq_false.1 hld r hr
      have h1' : longR r = false := by simpa using h1
      unfold longR at h1'
      have h2 := List.any_eq_false.1 h1' a ha
      simpa using h2
    have hrl : ∀ r ∈ d, (rowT false r).length ≤ 200000 := fun r hr => rowT_len (hd8.out r hr).1 (hd8.out r hr).2 (hv r hr)
    have htl := txtT_len (by omega) hrl
    replace h' := hid h'
    clear hld
    replace hv := hid hv
    replace hrl := hid hrl
    refine wk ?_
    refine textF_k (by omega) (fun r hr => ⟨by have := (hd8.out r hr).1; omega, fun a ha => ⟨by have := (hd8.out r hr).2 a ha; omega, by have := hv.out r hr a ha; omega⟩⟩) (fun r hr => by have := hrl.out r hr; omega) (by omega) ?_
    by_cases hlg : 4096 < (txtT false d).length
    · have k1 : (4096 : Int) < ((txtT false d).length : Int) := by omega
      have h2 := h'.out
      rw [if_pos hlg] at h2
      replace h2 := hid h2
      clear hlg
      refine sk ?_
      refine wk ?_
      exact Fin_pure rfl h2.out
    · have k1 : ¬ (4096 : Int) < ((txtT false d).length : Int) := by omega
      have h2 := h'.out
      rw [if_neg hlg] at h2
      replace h2 := hid h2
      clear hlg
      refine sk ?_
      refine wk ?_
      exact Fin_pure rfl h2.out

theorem prS_ok {d : List Rdn} (h : (prS d).2 = 0) : d.length ≤ 32 ∧ ∀ r ∈ d, r.length ≤ 8 ∧ ∀ a ∈ r, a.1.length ≤ 32 ∧ a.2.length ≤ 4096 := by
  unfold prS at h
  split at h
  · rename_i hc; exact absurd h hc
  · rename_i hc
    split at h
    · cases h
    · rename_i hl
      have h0 : chkD 0 d = 0 := by simpa using hc
      obtain ⟨h1, h2⟩ := chkD_ok d 0 h0 (by omega)
      have hld : longD d = false := by simpa using hl
      refine ⟨by omega, fun r hr => ⟨(h2 r hr).1, fun a ha => ⟨(h2 r hr).2 a ha, ?_⟩⟩⟩
      have k1 := List.any_eq_false.1 hld r hr
      have k1' : longR r = false := by simpa using k1
      unfold longR at k1'
      have k2 := List.any_eq_false.1 k1' a ha
      simpa using k2

theorem norm_k {d : List Rdn} {cap : Option Nat} (hn : d.length ≤ 1000000) (hr : ∀ r ∈ d, r.length ≤ 1000000) {L : List Blk} {K : AV → List Blk → Prop} (h : K (strE (nrmS d)) L) :
    ACall Tryz.prog 43 [.sl (d.map rdnF) d.length cap] L K := by
  unfold nrmS strE at h
  refine ACall_fn c_dn_Norm_eq (by simp [c_dn_Norm]) ?_
  simp only [c_dn_Norm, initT]
  refine wk ?_
  refine print_k hn hr ?_
  unfold strE
  obtain ⟨⟨ps, pe⟩, hp⟩ : ∃ p, prS d = p := ⟨_, rfl⟩
  rw [hp] at h ⊢
  simp only at h ⊢
  by_cases h0 : pe = 0
  · subst h0
    obtain ⟨q1, q2⟩ := prS_ok (by rw [hp])
    rw [if_neg (by simp)] at h
    have hrl : ∀ r ∈ d, (rowT true r).length ≤ 200000 := fun r hr => rowT_len (q2 r hr).1 (fun a ha => ((q2 r hr).2 a ha).1) (fun a ha => ((q2 r hr).2 a ha).2)
    have htl := txtT_len (by omega) hrl
    replace h := hid h
    replace q2 := hid q2
    replace hrl := hid hrl
    clear hp hr
    refine sk ?_
    refine wk ?_
    refine textT_k (by omega) (fun r hr => ⟨by have := (q2.out r hr).1; omega, fun a ha => ⟨by have := ((q2.out r hr).2 a ha).1; omega, by have := ((q2.out r hr).2 a ha).2; omega⟩⟩) (fun r hr => by have := hrl.out r hr; omega) (by omega) ?_
    refine sk ?_
    refine wk ?_
    exact Fin_same h.out
  · rw [if_pos h0] at h
    replace h := hid h
    clear hp hr
    refine sk ?_
    refine wk ?_
    exact Fin_same h.out

theorem parF_ok : ∀ (f : Nat) (out : List Rdn) (now : Rdn) (s : List UInt8), out.length ≤ 32 → now.length ≤ 8 → (∀ r ∈ out, r.length ≤ 8) → (parF f out now s).1.length ≤ 33 ∧ ∀ r ∈ (parF f out now s).1, r.length ≤ 8
  | 0, _, _, _, _, _, _ => by simp [parF]
  | f + 1, out, now, s, h1, h2, h3 => by
    rw [parF]
    split
    · simp
    rename_i hlim
    have hrow : ∀ t v : List UInt8, (now ++ [(t, v)]).length ≤ 8 := fun t v => by simp; omega
    have hout : ∀ t v : List UInt8, ∀ r ∈ out ++ [now ++ [(t, v)]], r.length ≤ 8 := fun t v r hr => by
      rcases List.mem_append.1 hr with h | h
      · exact h3 r h
      · rw [List.mem_singleton.1 h]; exact hrow t v
    split
    · simp
    split
    · simp
    split
    · simp
    split
    · simp
    split
    · simp
    split
    · exact ⟨by simp; omega, hout _ _⟩
    split
    · exact parF_ok f _ _ _ (by simp; omega) (by simp) (hout _ _)
    · exact parF_ok f _ _ _ h1 (hrow _ _) h3
theorem parS_ok (s : List UInt8) : (parS s).1.length ≤ 33 ∧ ∀ r ∈ (parS s).1, r.length ≤ 8 := by
  unfold parS
  split
  · simp
  split
  · simp
  · exact parF_ok _ _ _ _ (by simp) (by simp) (by simp)

theorem key_k {s : List UInt8} {L : List Blk} {K : AV → List Blk → Prop} (h : K (strE (keyS s)) L) : ACall Tryz.prog 20 [.str s] L K := by
  unfold keyS at h
  refine ACall_fn c_dn_Key_eq (by simp [c_dn_Key]) ?_
  simp only [c_dn_Key, initT]
  refine wk ?_
  refine parse_k ?_
  obtain ⟨q1, q2⟩ := parS_ok s
  obtain ⟨⟨pd, pe⟩, hp⟩ : ∃ p, parS s = p := ⟨_, rfl⟩
  rw [hp] at h q1 q2 ⊢
  simp only [parA] at h q1 q2 ⊢
  clear hp
  by_cases h0 : pe = 0
  · subst h0
    rw [if_neg (by simp)] at h
    replace h := hid h
    replace q2 := hid q2
    refine sk ?_
    refine wk ?_
    refine norm_k (by omega) (fun r hr => by have := q2.out r hr; omega) ?_
    have h' := h.out
    unfold strE at h' ⊢
    replace h' := hid h'
    refine sk ?_
    refine wk ?_
    exact Fin_same h'.out
  · rw [if_pos h0] at h
    unfold strE at h
    replace h := hid h
    clear q1 q2
    refine sk ?_
    refine wk ?_
    exact Fin_same h.out
end Go.Proofs.YtffnflplocbpiaaGreatDoor.Av
