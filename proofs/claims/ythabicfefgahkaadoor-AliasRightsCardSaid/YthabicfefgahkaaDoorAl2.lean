/- Plain laws. -/
import Derived.Test.YthabicfefgahkaaDoorAl1
set_option linter.unusedSimpArgs false
set_option linter.unusedVariables false
set_option maxRecDepth 100000
namespace Go.Rv
theorem cloneF_cons {T : Nat → Type} {k bytes : Nat} (x : T k) (xs : List (T k)) (h : (xs.length + 1) * bytes ≤ room ∧ xs.length + 1 ≤ room) : cloneF T k bytes (some (x :: xs)) = some (.inr (.inr (x :: xs))) := if_pos h
theorem insF_eq {α : Type} (l A B : List α) (r : α) (he : l = A ++ B) (h0 : 0 < l.length) (h : (l.length + 1) * 24 ≤ room) : insF l l.length (A.length : Int) (some [r]) = some (A ++ r :: B) := by
  show (if l.length = l.length ∧ 0 < l.length ∧ 0 ≤ (A.length : Int) ∧ (A.length : Int) ≤ (l.length : Int) ∧ (l.length + 1) * 24 ≤ room then some (l.take (A.length : Int).toNat ++ [r] ++ l.drop (A.length : Int).toNat) else none) = _
  have hlen : l.length = A.length + B.length := by rw [he]; simp
  rw [if_pos ⟨rfl, h0, by omega, by omega, h⟩]
  simp only [Int.toNat_natCast]
  have t1 : (A ++ B).take A.length = A := by rw [List.take_left']; rfl
  have t2 : (A ++ B).drop A.length = B := by rw [List.drop_left']; rfl
  rw [he, t1, t2]
  simp
/-- Where a number is, or would be. -/
theorem bs_eq (o : Option (List alias_Row)) (id : UInt16) (A B : List alias_Row) (he : L o = A ++ B) (hA : ∀ a ∈ A, a.Alias < id) (hB : ∀ b ∈ B, ¬ b.Alias < id) (hl : (L o).length ≤ 1000) (m : Int) (n : Int) :
    alias_find o id = some ((A.length : Int), (B.head?.map fun b => decide (b.Alias = id)).getD false) := by
  have hlen : (L o).length = A.length + B.length := by rw [he]; simp
  have hlt : ∀ h (hh : h < (L o).length), ((L o)[h].Alias < (⟨id, []⟩ : alias_Row).Alias ↔ h < A.length) := by
    intro h hh
    have e : (L o)[h] = (A ++ B)[h]'(by rw [← he]; exact hh) := by simp only [he]
    rw [e]
    by_cases hc : h < A.length
    · rw [List.getElem_append_left hc]
      exact ⟨fun _ => hc, fun _ => hA _ (List.getElem_mem _)⟩
    · rw [List.getElem_append_right (by omega)]
      exact ⟨fun q => absurd q (hB _ (List.getElem_mem _)), fun q => absurd q hc⟩
  simp only [alias_find, slices_BinarySearchFunc_alias_Table_alias_Row_alias_Row]
  have := bs_loop o ⟨id, []⟩ A.length hl (by omega) hlt (L o).length 0 (L o).length (by omega) (by omega) (by omega) (by omega)
  rw [show ((0 : Nat) : Int) = 0 from rfl] at this
  rw [this]
  simp only [Option.bind_some]
  cases B with
  | nil =>
    rw [if_neg (by simp at hlen ⊢; omega)]
    rfl
  | cons b B =>
    rw [if_pos (by simp at hlen ⊢; omega), ix_nat, he, List.getElem?_append_right (Nat.le_refl _), Nat.sub_self]
    simp only [List.getElem?_cons_zero, Option.bind_some]
    rw [order_eq]
    simp only [Option.bind_some]
    have h1 : ¬ b.Alias < id := hB b (by simp)
    rw [if_neg h1]
    simp only [List.head?_cons, Option.map_some, Option.getD_some]
    by_cases h2 : b.Alias > id
    · rw [if_pos h2, decide_eq_false (by decide), decide_eq_false (by rintro rfl; exact absurd h2 (UInt16.lt_irrefl _))]
    · rw [if_neg h2, decide_eq_true rfl, decide_eq_true (UInt16.le_antisymm (UInt16.not_lt.1 h2) (UInt16.not_lt.1 h1))]
theorem find_nf (o : Option (List alias_Row)) (id : UInt16) (A B : List alias_Row) (he : L o = A ++ B) (hA : ∀ a ∈ A, a.Alias < id) (hB : ∀ b ∈ B, id < b.Alias) (hl : (L o).length ≤ 1000) :
    alias_find o id = some ((A.length : Int), false) := by
  rw [bs_eq o id A B he hA (fun b hb h => UInt16.lt_irrefl _ (UInt16.lt_trans h (hB b hb))) hl 0 0]
  cases B with
  | nil => rfl
  | cons b B =>
    simp only [List.head?_cons, Option.map_some, Option.getD_some]
    rw [decide_eq_false]
    rintro rfl
    exact UInt16.lt_irrefl _ (hB b (by simp))
theorem find_f (o : Option (List alias_Row)) (id : UInt16) (A B : List alias_Row) (m : alias_Row) (he : L o = A ++ m :: B) (hm : m.Alias = id) (hA : ∀ a ∈ A, a.Alias < id) (hB : ∀ b ∈ B, id < b.Alias) (hl : (L o).length ≤ 1000) :
    alias_find o id = some ((A.length : Int), true) := by
  rw [bs_eq o id A (m :: B) he hA (fun b hb h => by
    rcases List.mem_cons.1 hb with rfl | hb
    · rw [hm] at h; exact UInt16.lt_irrefl _ h
    · exact UInt16.lt_irrefl _ (UInt16.lt_trans h (hB b hb))) hl 0 0]
  simp [hm]
theorem setR_eq {α : Type} : ∀ (A B : List α) (m x : α), setR (A ++ m :: B) A.length x = A ++ x :: B
  | [], B, m, x => rfl
  | a :: A, B, m, x => congrArg (a :: ·) (setR_eq A B m x)
/-- A number is in a list, or it would be. -/
theorem split_id (id : UInt16) : ∀ l : List alias_Row, l.Pairwise (fun a b => a.Alias < b.Alias) →
    (∃ A B, l = A ++ B ∧ (∀ a ∈ A, a.Alias < id) ∧ (∀ b ∈ B, id < b.Alias)) ∨ (∃ A m B, l = A ++ m :: B ∧ m.Alias = id ∧ (∀ a ∈ A, a.Alias < id) ∧ (∀ b ∈ B, id < b.Alias))
  | [], _ => .inl ⟨[], [], rfl, by simp, by simp⟩
  | a :: l, h => by
    have h := List.pairwise_cons.1 h
    by_cases h1 : a.Alias < id
    · rcases split_id id l h.2 with ⟨A, B, e, hA, hB⟩ | ⟨A, m, B, e, hm, hA, hB⟩
      · exact .inl ⟨a :: A, B, by rw [e]; rfl, fun x hx => by rcases List.mem_cons.1 hx with rfl | hx; exact h1; exact hA x hx, hB⟩
      · exact .inr ⟨a :: A, m, B, by rw [e]; rfl, hm, fun x hx => by rcases List.mem_cons.1 hx with rfl | hx; exact h1; exact hA x hx, hB⟩
    · by_cases h2 : a.Alias = id
      · exact .inr ⟨[], a, l, rfl, h2, by simp, fun b hb => by rw [← h2]; exact h.1 b hb⟩
      · have h3 : id < a.Alias := UInt16.lt_of_le_of_ne (UInt16.not_lt.1 h1) (Ne.symm h2)
        exact .inl ⟨[], a :: l, rfl, by simp, fun b hb => by rcases List.mem_cons.1 hb with rfl | hb; exact h3; exact UInt16.lt_trans h3 (h.1 b hb)⟩
theorem ne_lt {A : List alias_Row} {id : UInt16} (h : ∀ a ∈ A, a.Alias < id) : ∀ a ∈ A.map cR, a.Alias ≠ id := by
  intro a ha
  obtain ⟨x, hx, rfl⟩ := List.mem_map.1 ha
  intro e
  have := h x hx
  rw [show x.Alias = id from e] at this
  exact UInt16.lt_irrefl _ this
theorem ne_gt {B : List alias_Row} {id : UInt16} (h : ∀ b ∈ B, id < b.Alias) : ∀ a ∈ B.map cR, a.Alias ≠ id := by
  intro a ha
  obtain ⟨x, hx, rfl⟩ := List.mem_map.1 ha
  intro e
  have := h x hx
  rw [show x.Alias = id from e] at this
  exact UInt16.lt_irrefl _ this
theorem map_lt {A : List alias_Row} {id : UInt16} (h : ∀ a ∈ A, a.Alias < id) : ∀ a ∈ A.map cR, a.Alias < id := by
  intro a ha
  obtain ⟨x, hx, rfl⟩ := List.mem_map.1 ha
  exact h x hx
theorem map_gt {A : List alias_Row} {id : UInt16} (h : ∀ a ∈ A, id < a.Alias) : ∀ a ∈ A.map cR, id < a.Alias := by
  intro a ha
  obtain ⟨x, hx, rfl⟩ := List.mem_map.1 ha
  exact h x hx
end Go.Rv
