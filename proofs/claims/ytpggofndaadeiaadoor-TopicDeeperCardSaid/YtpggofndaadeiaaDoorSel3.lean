/- Plain laws. -/
import Derived.Test.YtpggofndaadeiaaDoorSel2
set_option linter.unusedSimpArgs false
set_option linter.unusedVariables false
set_option maxRecDepth 100000
namespace Go.Rv
open Go.Lib
theorem js_snoc (x : List UInt8) : ∀ {l : List (List UInt8)}, l ≠ [] → js (l ++ [x]) = js l ++ 47 :: x
  | [], h => absurd rfl h
  | [y], _ => rfl
  | y :: z :: l, _ => by
    rw [List.cons_append, js_cons y (by simp), js_cons y (by simp), js_snoc x (by simp)]
    simp
/-- Each with a slash behind. -/
def sls : List (List UInt8) → List UInt8
  | [] => []
  | x :: l => x ++ 47 :: sls l
theorem sls_snoc (x : List UInt8) : ∀ l : List (List UInt8), sls (l ++ [x]) = sls l ++ (x ++ [47])
  | [] => by simp [sls]
  | y :: l => by simp [sls, sls_snoc x l]
theorem sls_js (x : List UInt8) : ∀ l : List (List UInt8), sls l ++ x = js (l ++ [x])
  | [] => rfl
  | y :: l => by rw [List.cons_append, js_cons y (by simp), sls, ← sls_js x l]; simp
theorem js_len {m : Nat} : ∀ {l : List (List UInt8)}, (∀ x ∈ l, x.length ≤ m) → (js l).length ≤ l.length * (m + 1)
  | [], _ => by simp [js]
  | [x], h => by have := h x (by simp); simp [js]; omega
  | x :: y :: l, h => by
    rw [js_cons x (by simp)]
    have h1 := h x (by simp)
    have h2 := js_len (l := y :: l) (fun z hz => h z (by simp [hz]))
    simp only [List.length_append, List.length_cons, Nat.add_mul] at h2 ⊢
    omega
theorem sls_len {m : Nat} : ∀ {l : List (List UInt8)}, (∀ x ∈ l, x.length ≤ m) → (sls l).length ≤ l.length * (m + 1)
  | [], _ => by simp [sls]
  | x :: l, h => by
    have h1 := h x (by simp)
    have h2 := sls_len (l := l) (fun z hz => h z (by simp [hz]))
    simp only [sls, List.length_append, List.length_cons, Nat.add_mul] at h2 ⊢
    omega
theorem take_snoc' {α : Type} {l : List α} {i : Nat} (h : i < l.length) : l.take (i + 1) = l.take i ++ [l[i]] := List.take_succ_eq_append_getElem h
theorem cat_ok {a b : List UInt8} (ha : a.length ≤ 100000) (hb : b.length ≤ 100000) : catS a b = some (a ++ b) := by
  simp only [catS]; rw [if_pos (by omega)]
theorem selves_loop (l : List (List UInt8)) (k : Nat) (hl : l.length ≤ 20) (hx : ∀ x ∈ l, x.length ≤ 20) : ∀ (f i : Nat), l.length - i ≤ f → i ≤ l.length →
    iter (l04_TopicSelves_l0 (some l) (k : Int)) (js ((l.set k [43]).take i), sls (l.take (min i k)), (i : Int)) = some (js (l.set k [43]), sls (l.take (min l.length k))) := by
  intro f
  induction f with
  | zero =>
    intro i h1 h2
    rw [iter_eq]
    simp only [l04_TopicSelves_l0, l04_TopicSelves_b0, L_some]
    rw [if_neg (by simp; omega)]
    have : i = l.length := by omega
    subst this
    rw [List.take_of_length_le (by simp)]
  | succ f ih =>
    intro i h1 h2
    rw [iter_eq]
    simp only [l04_TopicSelves_l0, l04_TopicSelves_b0, L_some]
    by_cases hlt : i < l.length
    · have e : w64 ((i : Int) + 1) = ((i + 1 : Nat) : Int) := by rw [w64_id (by omega) (by omega)]; simp
      have hx2 : ∀ x ∈ l.set k [43], x.length ≤ 20 := by
        intro x h
        rcases List.mem_or_eq_of_mem_set h with h | h
        · exact hx x h
        · rw [h]; simp
      have hlt2 : i < (l.set k [43]).length := by simpa using hlt
      have b1 := js_len (l := (l.set k [43]).take i) (m := 20) (fun x h => hx2 x (List.mem_of_mem_take h))
      have b2 := sls_len (l := l.take (min i k)) (m := 20) (fun x h => hx x (List.mem_of_mem_take h))
      have b3 : ((l.set k [43]).take i).length ≤ 20 := by simp; omega
      have b4 : (l.take (min i k)).length ≤ 20 := by simp; omega
      have b5 : (js ((l.set k [43]).take i)).length ≤ 420 := Nat.le_trans b1 (Nat.le_trans (Nat.mul_le_mul_right _ b3) (by omega))
      have b6 : (sls (l.take (min i k))).length ≤ 420 := Nat.le_trans b2 (Nat.le_trans (Nat.mul_le_mul_right _ b4) (by omega))
      have hxi := hx _ (List.getElem_mem hlt)
      have ih := ih (i + 1) (by omega) hlt
      -- what stands there
      have hf : js ((l.set k [43]).take (i + 1)) = (if 0 < i then js ((l.set k [43]).take i) ++ [47] else js ((l.set k [43]).take i)) ++ (if i = k then [43] else l[i]) := by
        rw [take_snoc' hlt2]
        have e1 : (l.set k [43])[i] = if i = k then [43] else l[i] := by
          rw [List.getElem_set]
          by_cases h : k = i
          · rw [if_pos h, if_pos h.symm]
          · rw [if_neg h, if_neg (fun e => h e.symm)]
        rw [e1]
        by_cases h0 : 0 < i
        · rw [if_pos h0, js_snoc _ (by intro e; have := congrArg List.length e; rw [List.length_take, List.length_set, List.length_nil] at this; omega)]; simp
        · have : i = 0 := by omega
          subst this
          rw [if_neg (Nat.lt_irrefl 0)]; rfl
      have hg : sls (l.take (min (i + 1) k)) = if i < k then sls (l.take (min i k)) ++ (l[i] ++ [47]) else sls (l.take (min i k)) := by
        by_cases h : i < k
        · rw [if_pos h, Nat.min_eq_left (by omega), Nat.min_eq_left (by omega), take_snoc' hlt, sls_snoc]
        · rw [if_neg h, Nat.min_eq_right (by omega), Nat.min_eq_right (by omega)]
      rw [hf, hg] at ih
      rw [if_pos (by simp; omega), ix_nat, List.getElem?_eq_getElem hlt, Option.bind_some]
      generalize js ((l.set k [43]).take i) = F at b5 ih ⊢
      generalize sls (l.take (min i k)) = G at b6 ih ⊢
      simp only [l04_TopicSelves_c1, l04_TopicSelves_c2, L_some, ix_nat, List.getElem?_eq_getElem hlt, Option.bind_some, e]
      generalize l[i] = X at hxi ih ⊢
      have d1 : decide ((i : Int) > 0) = decide (0 < i) := by rw [Bool.eq_iff_iff]; simp
      have d2 : decide ((i : Int) < (k : Int)) = decide (i < k) := by rw [Bool.eq_iff_iff]; simp
      have d3 : decide ((i : Int) = (k : Int)) = decide (i = k) := by rw [Bool.eq_iff_iff]; simp; omega
      simp only [d1, d2, d3]
      by_cases c3 : i = k
      · subst c3
        simp only [Nat.lt_irrefl, decide_true, decide_false, if_true, if_false, Bool.false_eq_true] at ih ⊢
        by_cases c1 : 0 < i
        · rw [if_pos c1] at ih
          rw [if_pos (by simpa using c1)]
          simp (disch := (first | omega | (simp; done) | (simp; omega))) only [cat_ok, Option.bind_some]
          exact ih
        · rw [if_neg c1] at ih
          rw [if_neg (by simpa using c1)]
          simp (disch := (first | omega | (simp; done) | (simp; omega))) only [cat_ok, Option.bind_some]
          exact ih
      · simp only [c3, decide_false, if_false, Bool.false_eq_true] at ih ⊢
        by_cases c1 : 0 < i <;> by_cases c2 : i < k <;> simp only [c1, c2, decide_true, decide_false, if_true, if_false, Bool.false_eq_true] at ih ⊢ <;> simp (disch := (first | omega | (simp; done) | (simp; omega))) only [cat_ok, Option.bind_some] <;>
          (try simp only [List.append_assoc] at ih ⊢) <;> exact ih
    · rw [if_neg (by simp; omega)]
      have : i = l.length := by omega
      subst this
      rw [List.take_of_length_le (by simp)]
end Go.Rv
