/- Plain laws. -/
import Derived.Test.YthabicfefgahkaaIds5
set_option linter.unusedSimpArgs false
set_option linter.unusedVariables false
set_option maxRecDepth 100000
namespace Go.Rv
theorem fits_d {m : ids_Row} {k n : Int} {b : Bool} (h : fits m k n = b) : fits m k n = b := h
/-- An only row is turned. -/
theorem turn1 (id : UInt16) (s n0 k : Int) (fl : Bool) (n : Int) (h : needs k ≠ 0) (hm : fits ⟨id, s, n0⟩ k n = true) (hs : 1 ≤ s ∧ s ≤ 6) :
    ids_Turn (some [⟨id, s, n0⟩]) k id fl n = some (some (match nextR ⟨id, s, n0⟩ k fl with | some x => [x] | none => []), 0) := by
  have := turn_ok (some [⟨id, s, n0⟩]) k id fl n h [] [] ⟨id, s, n0⟩ rfl (find_f (some [⟨id, s, n0⟩]) id [] [] ⟨id, s, n0⟩ rfl rfl (by simp) (by simp) (by simp [L])) hm (by simp [L]) hs
  rw [this]
  cases nextR ⟨id, s, n0⟩ k fl <;> rfl
theorem turn1_no (id : UInt16) (s n0 k : Int) (fl : Bool) (n : Int) (h : needs k ≠ 0) (hm : fits ⟨id, s, n0⟩ k n = false) :
    ids_Turn (some [⟨id, s, n0⟩]) k id fl n = some (some [⟨id, s, n0⟩], 8) :=
  turn_un (some [⟨id, s, n0⟩]) k id fl n h [] [] ⟨id, s, n0⟩ rfl (find_f (some [⟨id, s, n0⟩]) id [] [] ⟨id, s, n0⟩ rfl rfl (by simp) (by simp) (by simp [L])) hm
theorem l11_told_true : l11_told = some true := by
  unfold l11_told
  rw [open_new none 7 2 0 (by decide) rfl rfl [] [] rfl (by simp) (by simp) (by simp [L])]
  simp only [Option.bind_some, List.nil_append]
  rw [turn1 7 2 0 5 false 0 (by decide) rfl (by decide)]
  simp only [Option.bind_some, nextR]
  rw [if_pos (by decide)]
  simp only
  rw [turn1 7 (2 + 1) 0 6 false 0 (by decide) rfl (by decide)]
  simp only [Option.bind_some, nextR]
  rw [if_pos (by decide)]
  simp only
  rw [turn1 7 (2 + 1 + 1) 0 7 false 0 (by decide) rfl (by decide)]
  simp only [Option.bind_some, nextR]
  rw [if_neg (by decide)]
  simp only
  rw [open_used (some [⟨7, 2 + 1 + 1, 0⟩]) 7 1 0 (by decide) rfl rfl (find_f (some [⟨7, 2 + 1 + 1, 0⟩]) 7 [] [] ⟨7, 2 + 1 + 1, 0⟩ rfl rfl (by simp) (by simp) (by simp [L]))]
  simp only [Option.bind_some]
  rw [flying_eq _ (by simp [L])]
  rfl
theorem slO_pre {α : Type} (o : Option (List α)) : ∃ r, slO o 0 (imin ((L o).length : Int) 100) = some r ∧ L r = (L o).take 100 := by
  by_cases h : (L o).length ≤ 100
  · obtain ⟨r, e1, e2⟩ := slO_to (o := o) (b := (L o).length) (Nat.le_refl _)
    refine ⟨r, ?_, by rw [e2, List.take_of_length_le (Nat.le_refl _), List.take_of_length_le h]⟩
    rw [show imin ((L o).length : Int) 100 = ((L o).length : Int) from by simp only [imin]; split <;> omega]
    exact e1
  · obtain ⟨r, e1, e2⟩ := slO_to (o := o) (b := 100) (by omega)
    refine ⟨r, ?_, e2⟩
    rw [show imin ((L o).length : Int) 100 = ((100 : Nat) : Int) from by simp only [imin]; split <;> omega]
    exact e1
theorem rights_all (a : Option (List r11_Row)) : l11_IdsRights a = some true := by
  simp only [l11_IdsRights]
  obtain ⟨r, e1, e2⟩ := slO_pre a
  have hr : (L r).length ≤ 100 := by rw [e2, List.length_take]; omega
  rw [e1]
  simp only [Option.bind_some, l11_told_true]
  rw [if_pos trivial, to_eq r (by omega)]
  simp only [Option.bind_some]
  rw [right_eq _ (by rw [L_mapO, List.length_map]; omega), rright_eq _ (by omega), L_mapO]
  simp
-- ---------- counts ----------
theorem m50 (n : Int) : ∃ k : Nat, k < 50 ∧ w64 (((u64 n) % (50 : UInt64)).toNat : Int) = (k : Int) := by
  refine ⟨((u64 n) % (50 : UInt64)).toNat, ?_, ?_⟩
  · rw [UInt64.toNat_mod]; exact Nat.mod_lt _ (by decide)
  · have : ((u64 n) % (50 : UInt64)).toNat < 50 := by rw [UInt64.toNat_mod]; exact Nat.mod_lt _ (by decide)
    exact w64_nat (by omega)
theorem counts_c0 (i : UInt16) (hi : i ≠ 0) (a b : Nat) (s k : Int) (h : s = 5 ∧ k = 9 ∨ s = 6 ∧ k = 11) (k1 : Bool → Option Bool) (hk : k1 true = some true) : l11_IdsCounts_c0 i (a : Int) (b : Int) s k k1 = some true := by
  simp only [l11_IdsCounts_c0]
  have hs : begs s = true ∧ 1 ≤ s ∧ s ≤ 6 ∧ needs k = s ∧ s ≥ 5 := by rcases h with ⟨rfl, rfl⟩ | ⟨rfl, rfl⟩ <;> decide
  obtain ⟨h1, h2, h3, h4, h5⟩ := hs
  have hc : cnt s (a : Int) = true := by
    simp only [cnt]
    by_cases ha : (a : Int) = 0
    · simp [ha]
    · rw [decide_eq_true (show (a : Int) > 0 by omega), decide_eq_true h5]; simp
  rw [open_new none i s a hi h1 hc [] [] rfl (by simp) (by simp) (by simp [L])]
  simp only [Option.bind_some, List.nil_append]
  have hn : needs k ≠ 0 := by omega
  have hn2 : needs (w64 (20 - k)) ≠ 0 ∧ needs (w64 (20 - k)) ≠ s := by rcases h with ⟨rfl, rfl⟩ | ⟨rfl, rfl⟩ <;> decide
  have t3 : ids_Turn (some [⟨i, s, a⟩]) (w64 (20 - k)) i false a = some (some [⟨i, s, a⟩], 8) := turn1_no i s a _ false a hn2.1 (by
    simp only [fits]
    rw [decide_eq_false (fun e => hn2.2 e.symm)]; rfl)
  have fl : ids_Flying (some [⟨i, s, (a : Int)⟩]) = some 0 := by
    rw [flying_eq _ (by simp [L])]
    simp only [L, Option.getD_some, flyN]
    rw [if_neg (by show ¬ s ≤ 4; omega)]
  by_cases hab : a = b
  · subst hab
    rw [turn1 i s a k false a hn (by simp only [fits]; rw [decide_eq_true h4.symm]; simp) ⟨h2, h3⟩]
    have : nextR ⟨i, s, (a : Int)⟩ k false = none := by
      simp only [nextR]
      rw [if_neg (by rcases h with ⟨rfl, rfl⟩ | ⟨rfl, rfl⟩ <;> decide)]
    rw [this]
    simp only [Option.bind_some]
    rw [t3]
    simp only [Option.bind_some, l11_told_true, fl]
    simp [L, hk]
  · rw [turn1_no i s a k false b hn (by
      simp only [fits]
      rw [decide_eq_true h4.symm, h4, decide_eq_true h5, decide_eq_false (show ¬ (a : Int) = (b : Int) by omega)]; rfl)]
    simp only [Option.bind_some]
    rw [t3]
    simp only [Option.bind_some, l11_told_true, fl]
    have : ¬ ((a : Int) = (b : Int)) := by omega
    simp [L, hk, this]
theorem counts_all (a1 : UInt16) (a2 : arr2_i64) (a3 : Bool) : l11_IdsCounts a1 a2 a3 = some true := by
  simp only [l11_IdsCounts]
  rw [chk_d (show (50 : UInt64) ≠ 0 by decide)]
  simp only [Option.bind_some]
  obtain ⟨a, _, ea⟩ := m50 a2.x0
  obtain ⟨b, _, eb⟩ := m50 a2.x1
  rw [ea, eb]
  have hi : (if (1 : UInt16) > a1 then (1 : UInt16) else a1) ≠ 0 := by
    split
    · decide
    · rename_i h
      rintro rfl
      exact h (by decide)
  cases a3 with
  | true => rw [if_pos rfl]; exact counts_c0 _ hi a b 6 11 (.inr ⟨rfl, rfl⟩) _ rfl
  | false => rw [if_neg (by simp)]; exact counts_c0 _ hi a b 5 9 (.inl ⟨rfl, rfl⟩) _ rfl
end Go.Rv
