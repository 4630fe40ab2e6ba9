/- Plain laws. -/
import Derived.Test.YtpggofndaadeiaaDoorText4
set_option linter.unusedSimpArgs false
set_option linter.unusedVariables false
set_option maxRecDepth 100000
namespace Go.Rv
open Go.Lib
theorem Sg.cut {n : Nat} {l : List UInt8} (h : Sg n l) : ∀ (k : Nat) (c : UInt8), l[k]? = some c → Rv.good (l.take k) = lead c ∧ Rv.good (l.drop k) = lead c := by
  induction h with
  | nil => intro k c hc; simp at hc
  | cons w t n hw h ih =>
    intro k c hc
    by_cases hk : k < w.length
    · rw [List.getElem?_append_left hk] at hc
      have := cut_sign w t hw h.good k hk c hc
      rw [List.take_append_of_le_length (by omega), List.drop_append_of_le_length (by omega)]
      exact this
    · rw [List.getElem?_append_right (by omega)] at hc
      have := ih (k - w.length) c hc
      rw [List.take_append, List.drop_append, List.take_of_length_le (by omega), List.drop_of_length_le (by omega), List.nil_append, good_sign w _ hw]
      exact this
def fixL : Option (List (List UInt8)) := some [[97], [98], [97, 98], [195, 164], [226, 130, 172], [240, 159, 153, 130], [49], [99]]
theorem fix_loop (s : List UInt8) : ∀ (f i n : Nat) (o : List UInt8), f + i = 8 → n ≤ i → Sg n o → ∃ m q, m ≤ 8 ∧ Sg m q ∧ iter (r02_Fix_l0 s fixL) (o, (i : Int)) = some q := by
  intro f
  induction f with
  | zero =>
    intro i n o hi hn ho
    refine ⟨n, o, by omega, ho, ?_⟩
    rw [iter_eq]
    simp only [r02_Fix_l0, r02_Fix_b0]
    by_cases h : i < s.length
    · rw [if_pos (by simp; omega), if_neg (by simp; omega)]
    · rw [if_neg (by simp; omega)]
  | succ f ih =>
    intro i n o hi hn ho
    by_cases h : i < s.length
    · have hc := s[i].toNat_lt
      have hm : s[i].toNat % 8 < fixL.get!.length := by
        show _ < 8; omega
      have hw : fixL.get![s[i].toNat % 8] ∈ SG := by
        have := List.getElem_mem hm
        exact this
      obtain ⟨m, q, h1, h2, h3⟩ := ih (i + 1) (n + 1) (o ++ fixL.get![s[i].toNat % 8]) (by omega) (by omega) (ho.snoc _ hw)
      refine ⟨m, q, h1, h2, ?_⟩
      rw [iter_eq]
      simp only [r02_Fix_l0, r02_Fix_b0]
      have e0 : w64 (s[i].toNat : Int) = (s[i].toNat : Int) := w64_id (by omega) (by omega)
      have e8 : ((L fixL).length : Int) = 8 := rfl
      have e1 : ((s[i].toNat : Int)).tmod 8 = ((s[i].toNat % 8 : Nat) : Int) := by
        rw [Int.tmod_eq_emod_of_nonneg (by omega)]; simp
      have e2 : ix (L fixL) ((s[i].toNat % 8 : Nat) : Int) = some (fixL.get![s[i].toNat % 8]) := by
        rw [ix_nat]; exact List.getElem?_eq_getElem hm
      have ew : w64 ((i : Int) + 1) = ((i + 1 : Nat) : Int) := by rw [w64_id (by omega) (by omega)]; simp
      have hl := ho.len
      have hl2 := (sg_len _ hw).2
      rw [if_pos (by simp; omega), if_pos (by simp; omega), ix_nat, List.getElem?_eq_getElem h, Option.bind_some, e8, e0, e1]
      rw [show chk (decide ((8 : Int) ≠ 0)) = some () from rfl, Option.bind_some, e2, Option.bind_some]
      simp only [catS]
      rw [if_pos (by omega), Option.bind_some, ew]
      exact h3
    · refine ⟨n, o, by omega, ho, ?_⟩
      rw [iter_eq]
      simp only [r02_Fix_l0, r02_Fix_b0]
      rw [if_neg (by simp; omega)]
theorem fix_eq (s : List UInt8) : ∃ m q, m ≤ 8 ∧ Sg m q ∧ r02_Fix s = some q := by
  obtain ⟨m, q, h1, h2, h3⟩ := fix_loop s 8 0 0 [] rfl (Nat.le_refl _) .nil
  refine ⟨m, q, h1, h2, ?_⟩
  simp only [r02_Fix]
  rw [show (((0 : Nat) : Int)) = 0 from rfl] at h3
  have : iter (r02_Fix_l0 s (some [[97], [98], [97, 98], [195, 164], [226, 130, 172], [240, 159, 153, 130], [49], [99]])) ([], 0) = some q := h3
  rw [this]; rfl
end Go.Rv
