/- Plain laws. -/
import Derived.Test.YthabicfefgahkaaDoorLib1
import Derived.Lib.SplitLaws
import Derived.Lib.IndexAny
set_option linter.unusedSimpArgs false
set_option linter.unusedVariables false
set_option maxRecDepth 100000
namespace Go.Rv
open Go.Lib
theorem L_some {α : Type} (l : List α) : L (some l) = l := rfl
def wild (s : List UInt8) : Bool := s.contains 43 || s.contains 35
theorem has_loop (s : List UInt8) (c : UInt8) (hl : s.length ≤ 70000) : ∀ (f i : Nat), s.length - i ≤ f → i ≤ s.length → iter (r04_has_l0 s c) (i : Int) = some (if (s.drop i).contains c then .inl () else .inr ()) := by
  intro f
  induction f with
  | zero =>
    intro i h1 h2
    rw [iter_eq]
    simp only [r04_has_l0, r04_has_b0]
    rw [if_neg (by simp; omega), show s.drop i = [] from List.drop_eq_nil_of_le (by omega)]
    rfl
  | succ f ih =>
    intro i h1 h2
    rw [iter_eq]
    simp only [r04_has_l0, r04_has_b0]
    by_cases hlt : i < s.length
    · rw [if_pos (by simp; omega), ix_nat, List.getElem?_eq_getElem hlt, Option.bind_some, List.drop_eq_getElem_cons hlt]
      by_cases hc : s[i] = c
      · rw [if_pos (by simpa using hc)]
        simp [hc]
      · rw [if_neg (by simpa using hc)]
        have e : w64 ((i : Int) + 1) = ((i + 1 : Nat) : Int) := by rw [w64_id (by omega) (by omega)]; simp
        have hb : (c == s[i]) = false := by simpa using Ne.symm hc
        rw [e]
        refine (ih (i + 1) (by omega) (by omega)).trans ?_
        rw [List.contains_cons, hb, Bool.false_or]
    · rw [if_neg (by simp; omega), show s.drop i = [] from List.drop_eq_nil_of_le (by omega)]
      rfl
theorem has_eq (s : List UInt8) (c : UInt8) (hl : s.length ≤ 70000) : r04_has s c = some (s.contains c) := by
  simp only [r04_has]
  have := has_loop s c hl s.length 0 (by omega) (by omega)
  rw [show ((0 : Nat) : Int) = 0 from rfl] at this
  rw [this, List.drop_zero]
  cases s.contains c <;> rfl
theorem rWild_eq (s : List UInt8) (hl : s.length ≤ 70000) : r04_Wild s = some (wild s) := by
  simp only [r04_Wild, has_eq _ _ hl, Option.bind_some, wild]
  cases s.contains 43 <;> simp
theorem any_wild : ∀ s : List UInt8, containsAny s [43, 35] = wild s := by
  intro s
  induction s with
  | nil => rfl
  | cons b l ih =>
    have h := indexAny_ge [43, 35] l
    simp only [containsAny, wild] at ih ⊢
    rw [indexAny]
    by_cases hb : ([43, 35] : List UInt8).contains b = true
    · rw [if_pos hb]
      simp at hb
      rcases hb with rfl | rfl <;> simp
    · rw [if_neg hb]
      simp at hb
      have n1 : ¬ (43 : UInt8) = b := fun e => hb.1 e.symm
      have n2 : ¬ (35 : UInt8) = b := fun e => hb.2 e.symm
      simp only [List.contains_cons, beq_iff_eq, n1, n2, decide_false, Bool.false_or] at ih ⊢
      rw [show ((43 : UInt8) == b) = false by simpa using n1, show ((35 : UInt8) == b) = false by simpa using n2, Bool.false_or, Bool.false_or, ← ih]
      by_cases hm : indexAny l [43, 35] = -1
      · rw [hm]; rfl
      · rw [if_neg (by simpa using hm)]
        exact decide_eq_decide.2 (by omega)
theorem tWild_eq (s : List UInt8) (hl : s.length ≤ 70000) : topic_Wild s = some (wild s) := by
  simp only [topic_Wild, strings_ContainsAny]
  rw [if_true, if_pos (by omega), Option.bind_some, any_wild]
def nameB (s : List UInt8) : Bool := !decide (s = []) && good s && !wild s
theorem tName_eq (s : List UInt8) (hl : s.length ≤ 1000) : topic_Name s = some (nameB s) := by
  simp only [topic_Name, right_small s hl, tWild_eq s (by omega), nameB, Option.bind_some]
  by_cases h : s = []
  · simp [h]
  · cases good s <;> simp [h]
theorem rName_eq (s : List UInt8) (hl : s.length ≤ 1000) : r04_Name s = some (nameB s) := by
  simp only [r04_Name, rRight_eq s (by omega), rWild_eq s (by omega), nameB, Option.bind_some]
  by_cases h : s = []
  · simp [h]
  · have : decide ((s.length : Int) > 0) = true := by
      have : s.length ≠ 0 := fun e => h (List.length_eq_zero_iff.1 e)
      exact decide_eq_true (by omega)
    cases good s <;> simp [h]
end Go.Rv
