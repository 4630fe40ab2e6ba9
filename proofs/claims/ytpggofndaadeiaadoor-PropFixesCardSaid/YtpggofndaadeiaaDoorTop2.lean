/- Plain laws. -/
import Derived.Test.YtpggofndaadeiaaDoorTop1
set_option linter.unusedSimpArgs false
set_option linter.unusedVariables false
set_option maxRecDepth 100000
namespace Go.Rv
open Go.Lib
theorem lv_ne : ∀ s, lv s ≠ []
  | [] => by simp [lv]
  | b :: t => by
    simp only [lv]
    split
    · simp
    · split <;> simp
/-- With something ahead of the first level. -/
def lvp (p t : List UInt8) : List (List UInt8) := match lv t with
  | [] => [p]
  | x :: l => (p ++ x) :: l
theorem lvp_nil (p : List UInt8) : lvp p [] = [p] := by simp [lvp, lv]
theorem lvp_sl (p t : List UInt8) : lvp p (47 :: t) = p :: lv t := by simp [lvp, lv]
theorem lvp_ne (p t : List UInt8) (b : UInt8) (h : b ≠ 47) : lvp p (b :: t) = lvp (p ++ [b]) t := by
  simp only [lvp, lv, if_neg h]
  cases lv t <;> simp
theorem lvp_0 (t : List UInt8) : lvp [] t = lv t := by
  have := lv_ne t
  simp only [lvp]
  cases h : lv t <;> simp_all
theorem lv_len : ∀ s, (lv s).length ≤ s.length + 1
  | [] => by simp [lv]
  | b :: t => by
    have := lv_len t
    simp only [lv]
    split
    · simp; omega
    · split
      · simp
      · rename_i h; rw [h] at this; simp at this ⊢; omega
theorem take_drop_snoc {s : List UInt8} {a i : Nat} (h1 : a ≤ i) (h2 : i < s.length) : (s.take (i + 1)).drop a = (s.take i).drop a ++ [s[i]] := by
  rw [List.take_succ_eq_append_getElem h2, List.drop_append_of_le_length (by simp; omega)]
theorem levels_loop (s : List UInt8) (hl : s.length ≤ 70000) : ∀ (f : Nat) (o : Option (List (List UInt8))) (a i : Nat), s.length + 1 - i ≤ f → a ≤ i → i ≤ s.length → (L o).length ≤ i →
    iter (r04_Levels_l0 s) (o, (a : Int), (i : Int)) = some (some (L o ++ lvp ((s.take i).drop a) (s.drop i))) := by
  intro f
  induction f with
  | zero => intro o a i h1 h2 h3 h4; omega
  | succ f ih =>
    intro o a i h1 h2 h3 h4
    rw [iter_eq]
    simp only [r04_Levels_l0, r04_Levels_b0]
    have e : w64 ((i : Int) + 1) = ((i + 1 : Nat) : Int) := by rw [w64_id (by omega) (by omega)]; simp
    have happ : appO 16 o (some [(s.take i).drop a]) = some (some (L o ++ [(s.take i).drop a])) := by
      have := appO_ne (n := 16) (x := o) (a := (s.take i).drop a) (l := []) (by simp [room]; omega) (by simp [room]; omega)
      simpa using this
    rw [if_pos (by simp; omega)]
    by_cases hi : i = s.length
    · subst hi
      rw [if_pos (by simp)]
      simp only [r04_Levels_c1, if_true]
      rw [slc_nat h2 (Nat.le_refl _), Option.bind_some, happ, Option.bind_some, e]
      have hend : ∀ z : Option (List (List UInt8)) × Int × Int, z.2.2 = ((s.length + 1 : Nat) : Int) → iter (r04_Levels_l0 s) z = some z.1 := by
        intro z hz
        rw [iter_eq]
        simp only [r04_Levels_l0, r04_Levels_b0]
        rw [if_neg (by rw [hz]; simp; omega)]
      refine (hend _ rfl).trans ?_
      rw [List.drop_length, lvp_nil]
    · have hlt : i < s.length := by omega
      rw [if_neg (by simp; omega), ix_nat, List.getElem?_eq_getElem hlt, Option.bind_some, List.drop_eq_getElem_cons hlt]
      simp only [r04_Levels_c1]
      by_cases hc : s[i] = 47
      · rw [if_pos (by simpa using hc), slc_nat h2 h3, Option.bind_some, happ, Option.bind_some, e]
        refine (ih _ (i + 1) (i + 1) (by omega) (Nat.le_refl _) hlt (by simp; omega)).trans ?_
        rw [hc, lvp_sl, show (s.take (i + 1)).drop (i + 1) = [] from List.drop_eq_nil_of_le (by simp; omega), lvp_0]
        simp
      · rw [if_neg (by simpa using hc), e]
        refine (ih o a (i + 1) (by omega) (by omega) hlt (by omega)).trans ?_
        rw [lvp_ne _ _ _ hc, take_drop_snoc h2 hlt]
theorem levels_eq (s : List UInt8) (hl : s.length ≤ 70000) : r04_Levels s = some (some (lv s)) := by
  simp only [r04_Levels]
  have := levels_loop s hl (s.length + 1) none 0 0 (by omega) (by omega) (by omega) (by simp)
  rw [show ((0 : Nat) : Int) = 0 from rfl] at this
  rw [this]
  simp [lvp_0]
def nameB (s : List UInt8) : Bool := !decide (s = []) && good s && !wild s
theorem tName_eq (s : List UInt8) (hl : s.length ≤ 1000) : topic_Name s = some (nameB s) := by
  simp only [topic_Name, right_small s hl, tWild_eq s (by omega), nameB, Option.bind_some]
  by_cases h : s = []
  · simp [h]
  · cases good s <;> simp [h]
theorem rName_eq (s : List UInt8) (hl : s.length ≤ 1000) : r04_Name s = some (nameB s) := by
  simp only [r04_Name, rRight_eq s (by omega), rWild_eq s (by omega), nameB, Option.bind_some]
  by_cases h : s = []
  · simp [h]
  · have : decide ((s.length : Int) > 0) = true := by
      have : s.length ≠ 0 := fun e => h (List.length_eq_zero_iff.1 e)
      exact decide_eq_true (by omega)
    cases good s <;> simp [h]
end Go.Rv
