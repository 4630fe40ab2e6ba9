/- Plain laws. -/
import Derived.Test.YtpggofndaadeiaaDoorLib1
import Derived.Lib.SplitLaws
import Derived.Lib.IndexAny
set_option linter.unusedSimpArgs false
set_option linter.unusedVariables false
set_option maxRecDepth 100000
namespace Go.Rv
open Go.Lib
theorem L_some {α : Type} (l : List α) : L (some l) = l := rfl
def wild (s : List UInt8) : Bool := s.contains 43 || s.contains 35
theorem has_loop (s : List UInt8) (c : UInt8) (hl : s.length ≤ 70000) : ∀ (f i : Nat), s.length - i ≤ f → i ≤ s.length → iter (r04_has_l0 s c) (i : Int) = some (if (s.drop i).contains c then .inl () else .inr ()) := by
  intro f
  induction f with
  | zero =>
    intro i h1 h2
    rw [iter_eq]
    simp only [r04_has_l0, r04_has_b0]
    rw [if_neg (by simp; omega), show s.drop i = [] from List.drop_eq_nil_of_le (by omega)]
    rfl
  | succ f ih =>
    intro i h1 h2
    rw [iter_eq]
    simp only [r04_has_l0, r04_has_b0]
    by_cases hlt : i < s.length
    · rw [if_pos (by simp; omega), ix_nat, List.getElem?_eq_getElem hlt, Option.bind_some, List.drop_eq_getElem_cons hlt]
      by_cases hc : s[i] = c
      · rw [if_pos (by simpa using hc)]
        simp [hc]
      · rw [if_neg (by simpa using hc)]
        have e : w64 ((i : Int) + 1) = ((i + 1 : Nat) : Int) := by rw [w64_id (by omega) (by omega)]; simp
        have hb : (c == s[i]) = false := by simpa using Ne.symm hc
        rw [e]
        refine (ih (i + 1) (by omega) (by omega)).trans ?_
        rw [List.contains_cons, hb, Bool.false_or]
    · rw [if_neg (by simp; omega), show s.drop i = [] from List.drop_eq_nil_of_le (by omega)]
      rfl
theorem has_eq (s : List UInt8) (c : UInt8) (hl : s.length ≤ 70000) : r04_has s c = some (s.contains c) := by
  simp only [r04_has]
  have := has_loop s c hl s.length 0 (by omega) (by omega)
  rw [show ((0 : Nat) : Int) = 0 from rfl] at this
  rw [this, List.drop_zero]
  cases s.contains c <;> rfl
theorem rWild_eq (s : List UInt8) (hl : s.length ≤ 70000) : r04_Wild s = some (wild s) := by
  simp only [r04_Wild, has_eq _ _ hl, Option.bind_some, wild]
  cases s.contains 43 <;> simp
theorem any_wild : ∀ s : List UInt8, containsAny s [43, 35] = wild s := by
  intro s
  induction s with
  | nil => rfl
  | cons b l ih =>
    have h := indexAny_ge [43, 35] l
    simp only [containsAny, wild] at ih ⊢
    rw [indexAny]
    by_cases hb : ([43, 35] : List UInt8).contains b = true
    · rw [if_pos hb]
      simp at hb
      rcases hb with rfl | rfl <;> simp
    · rw [if_neg hb]
      simp at hb
      have n1 : ¬ (43 : UInt8) = b := fun e => hb.1 e.symm
      have n2 : ¬ (35 : UInt8) = b := fun e => hb.2 e.symm
      simp only [List.contains_cons, beq_iff_eq, n1, n2, decide_false, Bool.false_or] at ih ⊢
      rw [show ((43 : UInt8) == b) = false by simpa using n1, show ((35 : UInt8) == b) = false by simpa using n2, Bool.false_or, Bool.false_or, ← ih]
      by_cases hm : indexAny l [43, 35] = -1
      · rw [hm]; rfl
      · rw [if_neg (by simpa using hm)]
        exact decide_eq_decide.2 (by omega)
theorem tWild_eq (s : List UInt8) (hl : s.length ≤ 70000) : topic_Wild s = some (wild s) := by
  simp only [topic_Wild, strings_ContainsAny]
  rw [if_true, if_pos (by omega), Option.bind_some, any_wild]
/-- What stands between slashes. -/
def lv : List UInt8 → List (List UInt8)
  | [] => [[]]
  | b :: t => if b = 47 then [] :: lv t else match lv t with
    | [] => [[b]]
    | x :: l => (b :: x) :: l
theorem index_one (b c : UInt8) (l : List UInt8) : index (b :: l) [c] = if b = c then 0 else if index l [c] = -1 then -1 else index l [c] + 1 := by
  rw [index]
  by_cases h : b = c
  · subst h; simp [List.isPrefixOf]
  · simp [List.isPrefixOf, h, Ne.symm h]
theorem split_lv : ∀ s : List UInt8, splitK [47] 0 (count s [47]) s = lv s := by
  intro s
  induction s with
  | nil => rfl
  | cons b t ih =>
    by_cases h : b = 47
    · subst h
      rw [count_cons_eq, Nat.add_comm, splitK]
      have e : index (47 :: t) [47] = 0 := by rw [index_one, if_pos rfl]
      rw [e, if_neg (by decide)]
      simp only [lv, if_true]
      rw [← ih]; rfl
    · rw [count_cons_ne b 47 t h]
      simp only [lv, if_neg h]
      rw [← ih]
      have hge := index_ge t [47]
      have hix : index (b :: t) [47] = if index t [47] = -1 then -1 else index t [47] + 1 := by rw [index_one, if_neg h]
      cases hk : count t [47] with
      | zero => rfl
      | succ k =>
        have hm : index t [47] ≠ -1 := fun e => by rw [count_miss e] at hk; cases hk
        obtain ⟨j, hj⟩ : ∃ j : Nat, index t [47] = j := ⟨(index t [47]).toNat, by omega⟩
        simp only [splitK]
        rw [hix, if_neg hm, hj]
        rw [if_neg (by simp; omega), if_neg (by simp)]
        simp only
        rw [show ((j : Int) + 1).toNat = j + 1 by omega, Int.toNat_natCast]
        simp [Nat.add_right_comm]
theorem tSplit_eq (s : List UInt8) (hl : s.length ≤ 70000) : strings_Split s [47] = some (some (lv s)) := by
  simp only [strings_Split]
  rw [if_pos (by omega), splitB_data]
  exact congrArg (fun l => some (some l)) (split_lv s)
end Go.Rv
