/- Plain laws. -/
import Derived.Test.YtpggofndaadeiaaDoorTop2
set_option linter.unusedSimpArgs false
set_option linter.unusedVariables false
set_option maxRecDepth 100000
namespace Go.Rv
open Go.Lib
/-- May a level stand so? -/
def okL (x : List UInt8) (last : Bool) : Bool := decide (x = [43]) || (decide (x = [35]) && last) || !wild x
def plainL : List (List UInt8) → Bool
  | [] => true
  | x :: l => okL x l.isEmpty && plainL l
def plainB (s : List UInt8) : Bool := !decide (s = []) && plainL (lv s)
theorem lv_mem_len : ∀ (s x : List UInt8), x ∈ lv s → x.length ≤ s.length
  | [], x, h => by simp [lv] at h; simp [h]
  | b :: t, x, h => by
    simp only [lv] at h
    split at h
    · rcases List.mem_cons.1 h with rfl | h
      · simp
      · have := lv_mem_len t x h; simp; omega
    · split at h
      · rename_i e; exact absurd e (lv_ne t)
      · rename_i y l e
        rcases List.mem_cons.1 h with rfl | h
        · have := lv_mem_len t y (by rw [e]; simp); simp; omega
        · have := lv_mem_len t x (by rw [e]; simp [h]); simp; omega
theorem isEmpty_drop {α : Type} (l : List α) (i : Nat) (h : i < l.length) : (l.drop (i + 1)).isEmpty = decide (i + 1 = l.length) := by
  rw [Bool.eq_iff_iff]
  simp [List.isEmpty_iff]
  omega
theorem tplain_loop (l : List (List UInt8)) (hl : l.length ≤ 70000) (hx : ∀ x ∈ l, x.length ≤ 70000) : ∀ (f i : Nat), l.length - i ≤ f → i ≤ l.length →
    iter (topic_plain_l0 (some l) (some l) (l.length : Int)) (i : Int) = some (if plainL (l.drop i) then .inr () else .inl ()) := by
  intro f
  induction f with
  | zero =>
    intro i h1 h2
    rw [iter_eq]
    simp only [topic_plain_l0, topic_plain_b0]
    rw [if_neg (by simp; omega), show l.drop i = [] from List.drop_eq_nil_of_le (by omega)]
    rfl
  | succ f ih =>
    intro i h1 h2
    rw [iter_eq]
    simp only [topic_plain_l0, topic_plain_b0, L_some]
    by_cases hlt : i < l.length
    · have hw := tWild_eq l[i] (hx _ (List.getElem_mem hlt))
      have e : w64 ((i : Int) + 1) = ((i + 1 : Nat) : Int) := by rw [w64_id (by omega) (by omega)]; simp
      have e2 : w64 ((l.length : Int) - 1) = ((l.length - 1 : Nat) : Int) := by rw [w64_id (by omega) (by omega)]; omega
      have ih := ih (i + 1) (by omega) (by omega)
      have hemp := isEmpty_drop l i hlt
      rw [if_pos (by simp; omega), ix_nat, List.getElem?_eq_getElem hlt, Option.bind_some, List.drop_eq_getElem_cons hlt, e]
      simp only [e2, plainL, okL, hemp, topic_plain_c1, hw, Option.bind_some]
      generalize l[i] = x at hw ⊢
      by_cases h43 : x = [43]
      · rw [if_pos (by simpa using h43), if_pos (by simpa using h43)]
        refine ih.trans ?_
        simp [h43]
      · rw [if_neg (by simpa using h43)]
        by_cases h35 : x = [35]
        · rw [if_pos (by simpa using h35)]
          by_cases hlast : i + 1 = l.length
          · rw [if_pos (by simp; omega)]
            refine ih.trans ?_
            simp [h35, hlast]
          · rw [if_neg (by simp; omega)]
            have : wild x = true := by rw [h35]; rfl
            rw [this, if_pos rfl]
            simp [h43, h35, hlast, show wild [35] = true from rfl]
        · rw [if_neg (by simpa using h35), if_neg (by decide)]
          cases wild x
          · rw [if_neg (by decide)]
            refine ih.trans ?_
            simp
          · rw [if_pos rfl]
            simp [h43, h35]
    · rw [if_neg (by simp; omega), show l.drop i = [] from List.drop_eq_nil_of_le (by omega)]
      rfl
theorem tplain_eq (s : List UInt8) (hl : s.length ≤ 1000) : topic_plain s = some (plainB s) := by
  simp only [topic_plain, plainB]
  by_cases h : s = []
  · simp [h]
  · rw [if_neg (by simpa using h), tSplit_eq s (by omega), Option.bind_some]
    have h2 := lv_len s
    have := tplain_loop (lv s) (by omega) (fun x hx => by have := lv_mem_len s x hx; omega) (lv s).length 0 (by omega) (by omega)
    rw [show ((0 : Nat) : Int) = 0 from rfl] at this
    simp only [L_some]
    rw [this, List.drop_zero]
    simp only [h, decide_false, Bool.not_false, Bool.true_and]
    cases plainL (lv s) <;> rfl
theorem rplain_loop (l : List (List UInt8)) (hl : l.length ≤ 70000) (hx : ∀ x ∈ l, x.length ≤ 70000) : ∀ (f i : Nat), l.length - i ≤ f → i ≤ l.length →
    iter (r04_plain_l0 (some l)) (i : Int) = some (if plainL (l.drop i) then .inr () else .inl ()) := by
  intro f
  induction f with
  | zero =>
    intro i h1 h2
    rw [iter_eq]
    simp only [r04_plain_l0, r04_plain_b0, L_some]
    rw [if_neg (by simp; omega), show l.drop i = [] from List.drop_eq_nil_of_le (by omega)]
    rfl
  | succ f ih =>
    intro i h1 h2
    rw [iter_eq]
    simp only [r04_plain_l0, r04_plain_b0, L_some]
    by_cases hlt : i < l.length
    · have hw := fun c => has_eq l[i] c (hx _ (List.getElem_mem hlt))
      have e : w64 ((i : Int) + 1) = ((i + 1 : Nat) : Int) := by rw [w64_id (by omega) (by omega)]; simp
      have ih := ih (i + 1) (by omega) (by omega)
      have hemp := isEmpty_drop l i hlt
      rw [if_pos (by simp; omega)]
      simp only [ix_nat, List.getElem?_eq_getElem hlt, Option.bind_some, hw]
      rw [List.drop_eq_getElem_cons hlt, e]
      simp only [plainL, okL, hemp, wild]
      generalize l[i] = x at hw ⊢
      by_cases h43 : x = [43]
      · subst h43
        rw [show ([43] : List UInt8).contains 43 = true from rfl, show ([43] : List UInt8).contains 35 = false from rfl]
        simp only [if_true, decide_true, Bool.not_true, Bool.false_eq_true, if_false]
        refine ih.trans ?_
        simp
      · by_cases h35 : x = [35]
        · subst h35
          rw [show ([35] : List UInt8).contains 43 = false from rfl, show ([35] : List UInt8).contains 35 = true from rfl]
          simp only [if_true, decide_true, Bool.not_true, Bool.false_eq_true, if_false]
          by_cases hlast : i + 1 = l.length
          · rw [if_neg (by simp; omega)]
            refine ih.trans ?_
            simp [hlast]
          · rw [if_pos (by simp; omega)]
            simp [hlast]
        · simp only [h43, h35, decide_false, Bool.not_false, if_true, Bool.false_or, Bool.false_and]
          cases x.contains 43
          · simp only [Bool.false_eq_true, if_false, Bool.false_or]
            cases x.contains 35
            · simp only [Bool.false_eq_true, if_false]
              refine ih.trans ?_
              simp
            · simp
          · simp
    · rw [if_neg (by simp; omega), show l.drop i = [] from List.drop_eq_nil_of_le (by omega)]
      rfl
theorem rplain_eq (s : List UInt8) (hl : s.length ≤ 1000) : r04_plain s = some (plainB s) := by
  simp only [r04_plain, plainB, levels_eq s (by omega), Option.bind_some]
  have h2 := lv_len s
  have := rplain_loop (lv s) (by omega) (fun x hx => by have := lv_mem_len s x hx; omega) (lv s).length 0 (by omega) (by omega)
  rw [show ((0 : Nat) : Int) = 0 from rfl] at this
  rw [this, List.drop_zero]
  cases plainL (lv s)
  · simp
  · simp only [if_true, Option.bind_some, Bool.and_true]
    congr 1
    by_cases h : s = []
    · simp [h]
    · have : s.length ≠ 0 := fun e => h (List.length_eq_zero_iff.1 e)
      simp [h]; omega
end Go.Rv
