/- Truths joined: the plain law. No program in sight. -/
import Derived.Test.YtkmfnbhdjijlnaaGreatDoorAvT
set_option linter.unusedSimpArgs false
set_option linter.unusedVariables false
namespace Go.Proofs.YtkmfnbhdjijlnaaGreatDoor.Av
open Go

def andGo : Int → List Int → Int
  | o, [] => o
  | o, v :: r => if v = 0 then 0 else if v = 1 then andGo o r else andGo 2 r
def andV (l : List Int) : Int := andGo 1 l
def notV (v : Int) : Int := if v = 0 then 1 else if v = 1 then 0 else 2
def orV (l : List Int) : Int := notV (andV (l.map notV))
def cntGo (v : Int) : Int → List Int → Int
  | n, [] => n
  | n, x :: r => if x = v then cntGo v (n + 1) r else cntGo v n r
def cntV (l : List Int) (v : Int) : Int := cntGo v 0 l
def randV (l : List Int) : Int := if 0 < cntV l 0 then 0 else if cntV l 1 < l.length then 2 else 1
def rorV (l : List Int) : Int := if 0 < cntV l 1 then 1 else if cntV l 0 < l.length then 2 else 0
def rnotV (v : Int) : Int := if v = 0 ∨ v = 1 then 1 - v else 2

theorem cntGo_add (v : Int) : ∀ (l : List Int) (n : Int), cntGo v n l = n + cntV l v
  | [], n => by simp [cntGo, cntV]
  | x :: r, n => by
    simp only [cntGo, cntV]
    split
    · rw [cntGo_add v r (n + 1), cntGo_add v r (0 + 1)]; omega
    · rw [cntGo_add v r n, cntGo_add v r 0]; omega
theorem cntV_cons (v x : Int) (r : List Int) : cntV (x :: r) v = (if x = v then 1 else 0) + cntV r v := by
  simp only [cntV, cntGo]
  split
  · rw [cntGo_add]; simp [cntV]
  · simp
theorem cntV_nn (v : Int) : ∀ (l : List Int), 0 ≤ cntV l v ∧ cntV l v ≤ l.length
  | [] => by simp [cntV, cntGo]
  | x :: r => by
    have := cntV_nn v r
    rw [cntV_cons, List.length_cons]
    split <;> omega
theorem cntV_two {v w : Int} (h : v ≠ w) : ∀ (l : List Int), cntV l v + cntV l w ≤ l.length
  | [] => by simp [cntV, cntGo]
  | x :: r => by
    have := cntV_two h r
    rw [cntV_cons, cntV_cons, List.length_cons]
    split <;> split <;> omega
theorem andGo_eq : ∀ (l : List Int) (o : Int), andGo o l = if 0 < cntV l 0 then 0 else if cntV l 1 < l.length then 2 else o
  | [], o => by simp [andGo, cntV, cntGo]
  | x :: r, o => by
    have h0 := cntV_nn 0 r
    have h1 := cntV_nn 1 r
    have hl : ((x :: r).length : Int) = r.length + 1 := by simp
    simp only [andGo]
    rw [cntV_cons, cntV_cons, hl]
    by_cases e0 : x = 0
    · rw [if_pos e0, if_pos e0, if_pos (by omega)]
    · by_cases e1 : x = 1
      · rw [if_neg e0, if_pos e1, if_neg e0, if_pos e1, andGo_eq r o]
        by_cases p : 0 < cntV r 0
        · rw [if_pos p, if_pos (show 0 < 0 + cntV r 0 by omega)]
        · rw [if_neg p, if_neg (show ¬ 0 < 0 + cntV r 0 by omega)]
          by_cases q : cntV r 1 < r.length
          · rw [if_pos q, if_pos (show 1 + cntV r 1 < (r.length : Int) + 1 by omega)]
          · rw [if_neg q, if_neg (show ¬ 1 + cntV r 1 < (r.length : Int) + 1 by omega)]
      · rw [if_neg e0, if_neg e1, if_neg e0, if_neg e1, andGo_eq r 2]
        by_cases p : 0 < cntV r 0
        · rw [if_pos p, if_pos (show 0 < 0 + cntV r 0 by omega)]
        · rw [if_neg p, if_neg (show ¬ 0 < 0 + cntV r 0 by omega), if_pos (show 0 + cntV r 1 < (r.length : Int) + 1 by omega)]
          split <;> rfl
theorem andV_eq (l : List Int) : andV l = randV l := by
  simp only [andV, randV, andGo_eq]
theorem cntV_not0 : ∀ (l : List Int), cntV (l.map notV) 0 = cntV l 1
  | [] => rfl
  | x :: r => by
    rw [List.map_cons, cntV_cons, cntV_cons, cntV_not0 r]
    congr 1
    simp only [notV]
    split <;> (try split) <;> (try split) <;> first | rfl | omega
theorem cntV_not1 : ∀ (l : List Int), cntV (l.map notV) 1 = cntV l 0
  | [] => rfl
  | x :: r => by
    rw [List.map_cons, cntV_cons, cntV_cons, cntV_not1 r]
    congr 1
    simp only [notV]
    split <;> (try split) <;> (try split) <;> first | rfl | omega
theorem orV_eq (l : List Int) : orV l = rorV l := by
  simp only [orV, andV_eq, randV, rorV, cntV_not0, cntV_not1, List.length_map, notV]
  split <;> (try split) <;> (try split) <;> first | rfl | omega
theorem notV_eq (v : Int) : notV v = rnotV v := by
  simp only [notV, rnotV]
  split <;> (try split) <;> (try split) <;> omega
end Go.Proofs.YtkmfnbhdjijlnaaGreatDoor.Av
