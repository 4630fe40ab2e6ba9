/- Plain laws. -/
import Derived.Test.YtaegbddjeibolaaDoorText5
set_option linter.unusedSimpArgs false
set_option linter.unusedVariables false
set_option maxRecDepth 100000
namespace Go.Rv
open Go.Lib
theorem slc_nat {α : Type} {l : List α} {a b : Nat} (h1 : a ≤ b) (h2 : b ≤ l.length) : slc l (a : Int) (b : Int) = some ((l.take b).drop a) := by
  simp only [slc, Int.toNat_natCast]
  rw [if_pos ⟨by omega, by omega, by omega⟩]
theorem right_small (s : List UInt8) (h : s.length ≤ 1000) : text_Right s = some (good s) := by
  rw [tRight_eq, decide_eq_true (by omega), Bool.true_and]
theorem runes_small (s : List UInt8) (h : s.length ≤ 1000) (hg : good s = true) : text_Runes s = some (rc s : Int) := by
  rw [tRunes_eq, decide_eq_true (by omega), hg, if_pos (by rfl), rc_is]
theorem joins_law (a1 a2 : List UInt8) (a3 : Int) : l02_TextJoins a1 a2 a3 = some true := by
  obtain ⟨m1, q1, g1, s1, f1⟩ := fix_eq a1
  obtain ⟨m2, q2, g2, s2, f2⟩ := fix_eq a2
  have l1 := s1.len
  have l2 := s2.len
  have s3 := s1.app s2
  have hl : (q1 ++ q2).length = q1.length + q2.length := List.length_append
  simp only [l02_TextJoins]
  rw [f1, Option.bind_some, f2, Option.bind_some]
  simp only [catS]
  rw [if_pos (by omega), Option.bind_some, l02_told_true, Option.bind_some, if_neg (by decide), right_small _ (by omega), Option.bind_some, s3.good, if_neg (by decide), runes_small _ (by omega) s3.good, Option.bind_some,
    runes_small _ (by omega) s1.good, Option.bind_some, runes_small _ (by omega) s2.good, Option.bind_some, s1.rc]
  have hr : ∀ l : List UInt8, l.length ≤ 1000 → rc l ≤ 1000 := by
    intro l h
    have := runeCount_le ⟨l.toArray⟩
    rw [rc_is, show ByteArray.size ⟨l.toArray⟩ = l.length from List.size_toArray] at this
    omega
  have r1 := hr q1 (by omega)
  have r2 := hr q2 (by omega)
  rw [w64_id (by omega) (by omega), if_neg (by simp)]
  by_cases h0 : (q1 ++ q2).length = 0
  · rw [if_pos (by rw [h0]; rfl)]
  · rw [if_neg (by simpa using by omega)]
    generalize q1 ++ q2 = s at s3 hl h0 ⊢
    have hu : (u64 (s.length : Int)).toNat = s.length := by
      simp only [u64, UInt64.toNat_ofNat']
      omega
    have hk : ((u64 a3) % (u64 (s.length : Int))).toNat < s.length := by
      rw [UInt64.toNat_mod, hu]; exact Nat.mod_lt _ (by omega)
    generalize ((u64 a3) % (u64 (s.length : Int))).toNat = k at hk ⊢
    have hc : chk (decide ((u64 (s.length : Int)) ≠ 0)) = some () := by
      have : (u64 (s.length : Int)) ≠ 0 := by intro e; rw [e] at hu; exact h0 hu.symm
      simp [chk, this]
    have ek : w64 (k : Int) = (k : Int) := w64_id (by omega) (by omega)
    have e1 : slc s 0 (k : Int) = some (s.take k) := by
      have := slc_nat (l := s) (a := 0) (b := k) (Nat.zero_le _) (by omega)
      rw [List.drop_zero] at this; exact this
    have e2 : slc s (k : Int) (s.length : Int) = some (s.drop k) := by
      rw [slc_nat (by omega) (Nat.le_refl _), List.take_length]
    have e3 : ix s (k : Int) = some s[k] := by rw [ix_nat, List.getElem?_eq_getElem hk]
    have hcut := s3.cut k s[k] (List.getElem?_eq_getElem hk)
    have p1 : (s.take k).length ≤ 1000 := by rw [List.length_take]; omega
    have p2 : (s.drop k).length ≤ 1000 := by rw [List.length_drop]; omega
    rw [hc, Option.bind_some, ek, e1, Option.bind_some, right_small _ p1, Option.bind_some, e3, Option.bind_some, e2, hcut.1]
    simp only [Option.bind_some, right_small _ p2, hcut.2]
    have hlt : s[k] < (128 : UInt8) ↔ s[k].toNat < 128 := UInt8.lt_iff_toNat_lt
    have hge : s[k] ≥ (192 : UInt8) ↔ 192 ≤ s[k].toNat := UInt8.le_iff_toNat_le
    simp only [hlt, hge, lead]
    by_cases c1 : s[k].toNat < 128
    · simp [c1]
    · simp [c1]
theorem pure_TextJoins (x : tyL Tb [.g (.f (.a .s)), .g (.f (.a .s)), .g (.f (.a (.n .i64)))]) (hx : szArgs tab 4 [.g (.f (.a .s)), .g (.f (.a .s)), .g (.f (.a (.n .i64)))] x) : l02_TextJoins x.1 x.2.1 x.2.2.1 = some true := joins_law _ _ _
end Go.Rv
