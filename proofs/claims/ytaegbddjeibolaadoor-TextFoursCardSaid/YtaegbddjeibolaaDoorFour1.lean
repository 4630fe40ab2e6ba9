/- Plain laws. -/
import Derived.Test.YtaegbddjeibolaaDoorText3
set_option linter.unusedSimpArgs false
set_option linter.unusedVariables false
set_option maxRecDepth 100000
namespace Go.Rv
theorem pair_right (q : List UInt8) (hl : q.length ≤ 400) : ∃ b, text_Right q = some b ∧ r02_Right q = some b := by
  refine ⟨good q, ?_, rRight_eq q (by omega)⟩
  rw [tRight_eq]
  have hd : decide (q.length ≤ 65535) = true := decide_eq_true (by omega)
  simp [hd]
theorem pair_runes (q : List UInt8) (hl : q.length ≤ 400) : ∃ a b, text_Runes q = some a ∧ r02_Runes q = some b ∧ a = imax b 0 := by
  refine ⟨_, _, tRunes_eq q, rRunes_eq q (by omega), ?_⟩
  have hd : decide (q.length ≤ 65535) = true := decide_eq_true (by omega)
  rw [hd]
  cases good q with
  | true =>
    simp only [Bool.true_and, if_true, imax]
    rw [if_neg (by omega)]
  | false => simp [imax]
theorem four_loop (s : List UInt8) (hs : s.length = 4) : ∀ (f i : Nat), i + f = 5 → iter (l02_TextFours_l0 s) (i : Int) = some (.inr ()) := by
  intro f
  induction f with
  | zero =>
    intro i hi
    rw [iter_eq]
    simp only [l02_TextFours_l0, l02_TextFours_b0]
    rw [if_neg (by simp; omega)]
  | succ f ih =>
    intro i hi
    rw [iter_eq]
    simp only [l02_TextFours_l0, l02_TextFours_b0]
    have e1 : slc s 0 (i : Int) = some (s.take i) := by
      simp only [slc]
      rw [if_pos ⟨by omega, by omega, by omega⟩]
      simp
    have e2 : w64 (4 - (i : Int)) = ((4 - i : Nat) : Int) := by rw [w64_id (by omega) (by omega)]; omega
    have e3 : slc s ((4 - i : Nat) : Int) (s.length : Int) = some (s.drop (4 - i)) := by
      simp only [slc]
      rw [if_pos ⟨by omega, by omega, by omega⟩]
      simp
    have e4 : w64 ((i : Int) + 1) = ((i + 1 : Nat) : Int) := by rw [w64_id (by omega) (by omega)]; omega
    obtain ⟨b, h1, h2⟩ := pair_right (s.take i) (by rw [List.length_take]; omega)
    obtain ⟨x, y, h3, h4, h5⟩ := pair_runes (s.drop (4 - i)) (by rw [List.length_drop]; omega)
    rw [if_pos (by simp; omega), e1, e2, e3]
    simp only [Option.bind_some, h1, h2, h3, h4, h5, e4, beq_self_eq_true, Bool.not_true, decide_true]
    simp only [Bool.false_eq_true, if_false]
    exact ih (i + 1) (by omega)
theorem fours_law (a1 : arr4_u8) : l02_TextFours a1 = some true := by
  unfold l02_TextFours
  have := four_loop [a1.x0, a1.x1, a1.x2, a1.x3] rfl 4 1 rfl
  rw [show ((1 : Nat) : Int) = 1 from rfl] at this
  rw [this, l02_told_true]
  rfl
theorem pure_TextFours (x : tyL Tb [.g (.st 2)]) (hx : szArgs tab 4 [.g (.st 2)] x) : l02_TextFours (⟨x.1.x0, x.1.x1, x.1.x2, x.1.x3⟩ : arr4_u8) = some true := fours_law _
end Go.Rv
