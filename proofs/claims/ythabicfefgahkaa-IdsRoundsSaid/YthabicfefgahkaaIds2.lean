/- Plain laws. -/
import Derived.Test.YthabicfefgahkaaIds1
set_option linter.unusedSimpArgs false
set_option linter.unusedVariables false
set_option maxRecDepth 100000
namespace Go.Rv
theorem cloneF_cons {T : Nat → Type} {k bytes : Nat} (x : T k) (xs : List (T k)) (h : (xs.length + 1) * bytes ≤ room ∧ xs.length + 1 ≤ room) : cloneF T k bytes (some (x :: xs)) = some (.inr (.inr (x :: xs))) := if_pos h
theorem insF_eq {α : Type} (l A B : List α) (r : α) (he : l = A ++ B) (h0 : 0 < l.length) (h : (l.length + 1) * 24 ≤ room) : insF l l.length (A.length : Int) (some [r]) = some (A ++ r :: B) := by
  show (if l.length = l.length ∧ 0 < l.length ∧ 0 ≤ (A.length : Int) ∧ (A.length : Int) ≤ (l.length : Int) ∧ (l.length + 1) * 24 ≤ room then some (l.take (A.length : Int).toNat ++ [r] ++ l.drop (A.length : Int).toNat) else none) = _
  have hlen : l.length = A.length + B.length := by rw [he]; simp
  rw [if_pos ⟨rfl, h0, by omega, by omega, h⟩]
  simp only [Int.toNat_natCast]
  have t1 : (A ++ B).take A.length = A := by rw [List.take_left']; rfl
  have t2 : (A ++ B).drop A.length = B := by rw [List.drop_left']; rfl
  rw [he, t1, t2]
  simp
theorem delF_eq {α : Type} (l A B : List α) (m : α) (he : l = A ++ m :: B) (h : l.length ≤ room) (j : Int) (hj : j = ((A.length + 1 : Nat) : Int)) : delF l l.length (A.length : Int) j = some (A ++ B) := by
  subst hj
  unfold delF
  have hlen : l.length = A.length + B.length + 1 := by rw [he]; simp; omega
  rw [if_pos ⟨rfl, by omega, by omega, by omega, h⟩]
  simp only [Int.toNat_natCast]
  have t1 : (A ++ m :: B).take A.length = A := by rw [List.take_left']; rfl
  have t2 : (A ++ m :: B).drop (A.length + 1) = B := by
    rw [show A ++ m :: B = (A ++ [m]) ++ B by simp, List.drop_left']
    simp
  rw [he, t1, t2]
/-- Where a number is, or would be. -/
theorem bs_eq (o : Option (List ids_Row)) (id : UInt16) (A B : List ids_Row) (he : L o = A ++ B) (hA : ∀ a ∈ A, a.Id < id) (hB : ∀ b ∈ B, ¬ b.Id < id) (hl : (L o).length ≤ 1000) (m : Int) (n : Int) :
    ids_find o id = some ((A.length : Int), (B.head?.map fun b => decide (b.Id = id)).getD false) := by
  have hlen : (L o).length = A.length + B.length := by rw [he]; simp
  have hlt : ∀ h (hh : h < (L o).length), ((L o)[h].Id < (⟨id, 0, 0⟩ : ids_Row).Id ↔ h < A.length) := by
    intro h hh
    have e : (L o)[h] = (A ++ B)[h]'(by rw [← he]; exact hh) := by simp only [he]
    rw [e]
    by_cases hc : h < A.length
    · rw [List.getElem_append_left hc]
      exact ⟨fun _ => hc, fun _ => hA _ (List.getElem_mem _)⟩
    · rw [List.getElem_append_right (by omega)]
      exact ⟨fun q => absurd q (hB _ (List.getElem_mem _)), fun q => absurd q hc⟩
  simp only [ids_find, slices_BinarySearchFunc_ids_Table_ids_Row_ids_Row]
  have := bs_loop o ⟨id, 0, 0⟩ A.length hl (by omega) hlt (L o).length 0 (L o).length (by omega) (by omega) (by omega) (by omega)
  rw [show ((0 : Nat) : Int) = 0 from rfl] at this
  rw [this]
  simp only [Option.bind_some]
  cases B with
  | nil =>
    rw [if_neg (by simp at hlen ⊢; omega)]
    rfl
  | cons b B =>
    rw [if_pos (by simp at hlen ⊢; omega), ix_nat, he, List.getElem?_append_right (Nat.le_refl _), Nat.sub_self]
    simp only [List.getElem?_cons_zero, Option.bind_some]
    rw [order_eq]
    simp only [Option.bind_some]
    have h1 : ¬ b.Id < id := hB b (by simp)
    rw [if_neg h1]
    simp only [List.head?_cons, Option.map_some, Option.getD_some]
    by_cases h2 : b.Id > id
    · rw [if_pos h2, decide_eq_false (by decide), decide_eq_false (by rintro rfl; exact absurd h2 (UInt16.lt_irrefl _))]
    · rw [if_neg h2, decide_eq_true rfl, decide_eq_true (UInt16.le_antisymm (UInt16.not_lt.1 h2) (UInt16.not_lt.1 h1))]
theorem find_nf (o : Option (List ids_Row)) (id : UInt16) (A B : List ids_Row) (he : L o = A ++ B) (hA : ∀ a ∈ A, a.Id < id) (hB : ∀ b ∈ B, id < b.Id) (hl : (L o).length ≤ 1000) :
    ids_find o id = some ((A.length : Int), false) := by
  rw [bs_eq o id A B he hA (fun b hb h => UInt16.lt_irrefl _ (UInt16.lt_trans h (hB b hb))) hl 0 0]
  cases B with
  | nil => rfl
  | cons b B =>
    simp only [List.head?_cons, Option.map_some, Option.getD_some]
    rw [decide_eq_false]
    rintro rfl
    exact UInt16.lt_irrefl _ (hB b (by simp))
theorem find_f (o : Option (List ids_Row)) (id : UInt16) (A B : List ids_Row) (m : ids_Row) (he : L o = A ++ m :: B) (hm : m.Id = id) (hA : ∀ a ∈ A, a.Id < id) (hB : ∀ b ∈ B, id < b.Id) (hl : (L o).length ≤ 1000) :
    ids_find o id = some ((A.length : Int), true) := by
  rw [bs_eq o id A (m :: B) he hA (fun b hb h => by
    rcases List.mem_cons.1 hb with rfl | hb
    · rw [hm] at h; exact UInt16.lt_irrefl _ h
    · exact UInt16.lt_irrefl _ (UInt16.lt_trans h (hB b hb))) hl 0 0]
  simp [hm]
-- ---------- right ones ----------
def cnt (s n : Int) : Bool := decide (n = 0) || decide (n > 0) && decide (s ≥ 5)
theorem counts_eq (s n : Int) : ids_counts s n = some (cnt s n) := by
  simp only [ids_counts, cnt]
  by_cases h : n = 0
  · simp [h]
  · by_cases h2 : n > 0 <;> simp [h, h2]
theorem rcounts_eq (s n : Int) : r11_counts s n = some (cnt s n) := counts_eq s n
def okRow (x : ids_Row) : Prop := x.Id ≠ 0 ∧ 1 ≤ x.State ∧ x.State ≤ 6 ∧ cnt x.State x.N = true
/-- A Table that may be. -/
structure Rt (l : List ids_Row) : Prop where
  row : ∀ x ∈ l, okRow x
  asc : l.Pairwise (fun a b => a.Id < b.Id)
def begs (s : Int) : Bool := decide (s = 1) || decide (s = 2) || decide (s = 5) || decide (s = 6)
theorem open_def (o : Option (List ids_Row)) (id : UInt16) (s n : Int) :
    ids_Open o id s n = ids_Open_c0 o id s n (begs s) (fun x => some (o, x)) (fun x => some (x, 0)) (fun x => some (x, 0)) := by
  simp only [ids_Open, begs]
  by_cases h1 : s = 1
  · subst h1; rfl
  · by_cases h2 : s = 2
    · subst h2; rfl
    · by_cases h5 : s = 5
      · subst h5; rfl
      · simp [h1, h2, h5]
theorem open_bad (o : Option (List ids_Row)) (id : UInt16) (s n : Int) (h : id = 0 ∨ begs s = false ∨ cnt s n = false) : ids_Open o id s n = some (o, 1) := by
  rw [open_def]
  simp only [ids_Open_c0, counts_eq, Option.bind_some]
  by_cases h1 : id = 0
  · simp [h1]
  · by_cases h2 : begs s = false
    · simp [h1, h2]
    · rcases h with h | h | h
      · exact absurd h h1
      · exact absurd h h2
      · simp [h1, h2, h]
theorem open_used (o : Option (List ids_Row)) (id : UInt16) (s n : Int) (h1 : id ≠ 0) (h2 : begs s = true) (h3 : cnt s n = true) {i : Int} (hf : ids_find o id = some (i, true)) : ids_Open o id s n = some (o, 7) := by
  rw [open_def]
  simp only [ids_Open_c0, counts_eq, Option.bind_some, hf]
  simp [h1, h2, h3]
theorem open_new (o : Option (List ids_Row)) (id : UInt16) (s n : Int) (h1 : id ≠ 0) (h2 : begs s = true) (h3 : cnt s n = true) (A B : List ids_Row) (he : L o = A ++ B) (hA : ∀ a ∈ A, a.Id < id) (hB : ∀ b ∈ B, id < b.Id) (hl : (L o).length ≤ 1000) :
    ids_Open o id s n = some (some (A ++ ⟨id, s, n⟩ :: B), 0) := by
  rw [open_def]
  simp only [ids_Open_c0, counts_eq, Option.bind_some, find_nf o id A B he hA hB hl]
  rw [if_neg (by simpa using h1), if_neg (by simp [h2]), if_neg (by simp [h3]), if_neg (by simp)]
  have hz : ∀ {x : List ids_Row}, x = A ++ B → A.length = 0 ∧ B = [] ∨ 0 < x.length := by
    intro x hx
    cases A with
    | nil =>
      cases B with
      | nil => exact .inl ⟨rfl, rfl⟩
      | cons b B => right; subst hx; simp
    | cons a A => right; subst hx; simp
  cases o with
  | none =>
    have he : [] = A ++ B := he
    have e1 : A = [] := by cases A with | nil => rfl | cons a A => cases he
    subst e1
    have e2 : B = [] := by cases B with | nil => rfl | cons a A => cases he
    subst e2
    rfl
  | some l =>
    have he : l = A ++ B := he
    cases l with
    | nil =>
      have e1 : A = [] := by cases A with | nil => rfl | cons a A => cases he
      subst e1
      have e2 : B = [] := by cases B with | nil => rfl | cons a A => cases he
      subst e2
      rfl
    | cons x xs =>
      have hl : xs.length + 1 ≤ 1000 := hl
      have hlen : xs.length + 1 = A.length + B.length := by have := congrArg List.length he; simpa using this
      have hh : (xs.length + 1) * 24 ≤ room ∧ xs.length + 1 ≤ room := by simp [room]; omega
      have ec := cloneF_cons (T := Tb) (k := 1) (bytes := 24) x xs hh
      erw [ec]
      simp only [Option.bind_some]
      erw [insF_eq (x :: xs) A B ⟨id, s, n⟩ he (by simp) (by simp [room]; omega)]
      rfl
end Go.Rv
