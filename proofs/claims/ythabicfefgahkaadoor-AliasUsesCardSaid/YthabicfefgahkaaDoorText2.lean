/- Plain laws. -/
import Derived.Test.YthabicfefgahkaaDoorText0
import Derived.Lib.TrimUEq
set_option linter.unusedSimpArgs false
set_option linter.unusedVariables false
set_option maxRecDepth 100000
namespace Go.Rv
open Go.Lib
/-- How many bytes the sign at the beginning has; 0: there is none that may be. -/
def sgn (l : List UInt8) : Nat := match l with
  | [] => 0
  | c :: t =>
    if 240 ≤ c.toNat then (if 248 ≤ c.toNat ∨ t.length < 3 then 0 else restN 4 65536 (contN 3 (c.toNat - 240) t))
    else if 224 ≤ c.toNat then (if t.length < 2 then 0 else restN 3 2048 (contN 2 (c.toNat - 224) t))
    else if 192 ≤ c.toNat then (if t.length < 1 then 0 else restN 2 128 (contN 1 (c.toNat - 192) t))
    else if 128 ≤ c.toNat then 0 else restN 1 1 (some c.toNat)
theorem sign_eq (s : List UInt8) (p : Nat) (hl : s.length ≤ 70000) (hp : p < s.length) : ∃ v, r02_sign s (p : Int) = some (v, (sgn (s.drop p) : Int)) := by
  simp only [r02_sign]
  rw [ix_nat, List.getElem?_eq_getElem hp, Option.bind_some, List.drop_eq_getElem_cons hp]
  have hlen : (s.drop (p + 1)).length = s.length - (p + 1) := List.length_drop
  simp only [sgn, hlen]
  generalize s[p] = c
  have hc := c.toNat_lt
  have ec : w64 (c.toNat : Int) = (c.toNat : Int) := w64_id (by omega) (by omega)
  rw [ec]
  by_cases h1 : 240 ≤ c.toNat
  · rw [if_pos (by simp; omega), if_pos h1, show w64 ((c.toNat : Int) - 240) = ((c.toNat - 240 : Nat) : Int) by rw [w64_id (by omega) (by omega)]; omega]
    obtain ⟨v, hv⟩ := sign_c0 s p c.toNat 4 (c.toNat - 240) 65536 hl (by omega) (by omega) (by omega) (by omega) (by omega)
    refine ⟨v, hv.trans ?_⟩
    congr 3
    exact ite_congr (propext (by omega)) (fun _ => rfl) (fun _ => rfl)
  · rw [if_neg (by simp; omega), if_neg h1]
    by_cases h2 : 224 ≤ c.toNat
    · rw [if_pos (by simp; omega), if_pos h2, show w64 ((c.toNat : Int) - 224) = ((c.toNat - 224 : Nat) : Int) by rw [w64_id (by omega) (by omega)]; omega]
      obtain ⟨v, hv⟩ := sign_c0 s p c.toNat 3 (c.toNat - 224) 2048 hl (by omega) (by omega) (by omega) (by omega) (by omega)
      refine ⟨v, hv.trans ?_⟩
      congr 3
      exact ite_congr (propext (by omega)) (fun _ => rfl) (fun _ => rfl)
    · rw [if_neg (by simp; omega), if_neg h2]
      by_cases h3 : 192 ≤ c.toNat
      · rw [if_pos (by simp; omega), if_pos h3, show w64 ((c.toNat : Int) - 192) = ((c.toNat - 192 : Nat) : Int) by rw [w64_id (by omega) (by omega)]; omega]
        obtain ⟨v, hv⟩ := sign_c0 s p c.toNat 2 (c.toNat - 192) 128 hl (by omega) (by omega) (by omega) (by omega) (by omega)
        refine ⟨v, hv.trans ?_⟩
        congr 3
        exact ite_congr (propext (by omega)) (fun _ => rfl) (fun _ => rfl)
      · rw [if_neg (by simp; omega), if_neg h3]
        by_cases h4 : 128 ≤ c.toNat
        · rw [if_pos (by simp; omega), if_pos h4]; exact ⟨0, rfl⟩
        · rw [if_neg (by simp; omega), if_neg h4]
          obtain ⟨v, hv⟩ := sign_c0 s p c.toNat 1 c.toNat 1 hl (by omega) (by omega) (by omega) (by omega) (by omega)
          refine ⟨v, hv.trans ?_⟩
          rw [if_neg (by omega)]; rfl
theorem restS (z least n : Nat) : restN z least (some n) = if n < least ∨ n > 1114111 ∨ (n ≥ 55296 ∧ n ≤ 57343) then 0 else z := rfl
theorem restNone (z least : Nat) : restN z least none = 0 := rfl
theorem rest_ite (z least n : Nat) (p : Prop) [Decidable p] : restN z least (if p then some n else none) = if p then (if n < least ∨ n > 1114111 ∨ (n ≥ 55296 ∧ n ≤ 57343) then 0 else z) else 0 := by split <;> rfl
theorem rest_ite2 (z least : Nat) (o : Option Nat) (p : Prop) [Decidable p] : restN z least (if p then o else none) = if p then restN z least o else 0 := by split <;> rfl
/-- The reference's signs are the model's. -/
theorem sgn_dec (c : UInt8) (t : List UInt8) : sgn (c :: t) = if decodeL (c :: t) = (65533, 1) ∨ c.toNat = 0 then 0 else (decodeL (c :: t)).2 := by
  rw [decodeL_N]
  have hc := c.toNat_lt
  by_cases h128 : c.toNat < 128
  · have e : sgn (c :: t) = restN 1 1 (some c.toNat) := by simp only [sgn]; rw [if_neg (by omega), if_neg (by omega), if_neg (by omega), if_neg (by omega)]
    rw [e]
    simp only [decodeN, List.getD_cons_zero, h128, if_true, restN]
    by_cases h0 : c.toNat = 0
    · rw [if_pos (by omega), if_pos (Or.inr h0)]
    · rw [if_neg (by omega), if_neg (by intro h; rcases h with h | h; (simp only [Prod.mk.injEq] at h; omega); omega)]
  · have key : ∀ (n b1 b2 b3 : Nat), (decodeN n c.toNat b1 b2 b3 = (65533, 1) ∨ (1 < (decodeN n c.toNat b1 b2 b3).2)) := by
      intro n b1 b2 b3
      simp only [decodeN, h128, if_false]
      repeat' split
      all_goals first | (left; rfl) | (right; exact Nat.lt_of_sub_pos Nat.one_pos) | (right; show 1 < _; simp)
    generalize hD : decodeN (c :: t).length ((c :: t).getD 0 0).toNat ((c :: t).getD 1 0).toNat ((c :: t).getD 2 0).toNat ((c :: t).getD 3 0).toNat = D
    have hD2 : (if D = (65533, 1) ∨ c.toNat = 0 then 0 else D.2) = if D.2 = 1 then 0 else D.2 := by
      rcases key (c :: t).length ((c :: t).getD 1 0).toNat ((c :: t).getD 2 0).toNat ((c :: t).getD 3 0).toNat with k | k
      · rw [← hD]
        simp only [List.getD_cons_zero] at k ⊢
        rw [k]; simp
      · simp only [List.getD_cons_zero] at hD
        rw [hD] at k
        rw [if_neg (by intro h; rcases h with h | h; (rw [h] at k; simp at k); omega), if_neg (by omega)]
    rw [hD2, ← hD]
    clear hD hD2 key D
    match t with
    | [] =>
      simp only [sgn, decodeN, List.getD_cons_zero, List.length_cons, List.length_nil, h128, if_false]
      repeat' split
      all_goals omega
    | [d] =>
      have hd := d.toNat_lt
      have n1 : 1 < [c, d].length := by simp
      have n2 : ¬ 2 < [c, d].length := by simp
      have n3 : ¬ 3 < [c, d].length := by simp
      have l3 : [d].length < 3 := by simp
      have l2 : [d].length < 2 := by simp
      have l1 : ¬ [d].length < 1 := by simp
      generalize [c, d].length = n at n1 n2 n3
      simp only [sgn, decodeN, List.getD_cons_zero, List.getD_cons_succ, h128, if_false, n1, n2, n3, l1, l2, l3, true_and, false_and, and_false, or_true, if_true]
      by_cases g4 : 240 ≤ c.toNat
      · have x1 : ¬ c.toNat / 32 = 6 := by omega
        have x2 : ¬ c.toNat / 16 = 14 := by omega
        simp only [g4, if_true, x1, x2, false_and, if_false, contN, rest_ite2, restS, restNone]
        repeat' split
        all_goals omega
      · by_cases g3 : 224 ≤ c.toNat
        · have x1 : ¬ c.toNat / 32 = 6 := by omega
          have x2 : c.toNat / 16 = 14 := by omega
          have x3 : ¬ c.toNat / 8 = 30 := by omega
          simp only [g4, g3, if_true, x1, x2, x3, true_and, false_and, if_false, contN, rest_ite2, restS, restNone]
          repeat' split
          all_goals omega
        · by_cases g2 : 192 ≤ c.toNat
          · have x1 : c.toNat / 32 = 6 := by omega
            have x2 : ¬ c.toNat / 16 = 14 := by omega
            have x3 : ¬ c.toNat / 8 = 30 := by omega
            simp only [g4, g3, g2, if_true, x1, x2, x3, true_and, false_and, if_false, contN, rest_ite2, restS, restNone]
            repeat' split
            all_goals omega
          · have x1 : ¬ c.toNat / 32 = 6 := by omega
            have x2 : ¬ c.toNat / 16 = 14 := by omega
            have x3 : ¬ c.toNat / 8 = 30 := by omega
            have g1 : 128 ≤ c.toNat := by omega
            simp only [g4, g3, g2, g1, if_true, x1, x2, x3, false_and, if_false]
    | [d, e] =>
      have hd := d.toNat_lt
      have he := e.toNat_lt
      have n1 : 1 < [c, d, e].length := by simp
      have n2 : 2 < [c, d, e].length := by simp
      have n3 : ¬ 3 < [c, d, e].length := by simp
      have l3 : [d, e].length < 3 := by simp
      have l2 : ¬ [d, e].length < 2 := by simp
      have l1 : ¬ [d, e].length < 1 := by simp
      generalize [c, d, e].length = n at n1 n2 n3
      simp only [sgn, decodeN, List.getD_cons_zero, List.getD_cons_succ, h128, if_false, n1, n2, n3, l1, l2, l3, true_and, false_and, and_false, or_true, if_true]
      by_cases g4 : 240 ≤ c.toNat
      · have x1 : ¬ c.toNat / 32 = 6 := by omega
        have x2 : ¬ c.toNat / 16 = 14 := by omega
        simp only [g4, if_true, x1, x2, false_and, if_false, contN, rest_ite2, restS, restNone]
        repeat' split
        all_goals omega
      · by_cases g3 : 224 ≤ c.toNat
        · have x1 : ¬ c.toNat / 32 = 6 := by omega
          have x2 : c.toNat / 16 = 14 := by omega
          have x3 : ¬ c.toNat / 8 = 30 := by omega
          simp only [g4, g3, if_true, x1, x2, x3, true_and, false_and, if_false, contN, rest_ite2, restS, restNone]
          repeat' split
          all_goals omega
        · by_cases g2 : 192 ≤ c.toNat
          · have x1 : c.toNat / 32 = 6 := by omega
            have x2 : ¬ c.toNat / 16 = 14 := by omega
            have x3 : ¬ c.toNat / 8 = 30 := by omega
            simp only [g4, g3, g2, if_true, x1, x2, x3, true_and, false_and, if_false, contN, rest_ite2, restS, restNone]
            repeat' split
            all_goals omega
          · have x1 : ¬ c.toNat / 32 = 6 := by omega
            have x2 : ¬ c.toNat / 16 = 14 := by omega
            have x3 : ¬ c.toNat / 8 = 30 := by omega
            have g1 : 128 ≤ c.toNat := by omega
            simp only [g4, g3, g2, g1, if_true, x1, x2, x3, false_and, if_false]
    | d :: e :: f :: r =>
      have hd := d.toNat_lt
      have he := e.toNat_lt
      have hf := f.toNat_lt
      have n1 : 1 < (c :: d :: e :: f :: r).length := by simp
      have n2 : 2 < (c :: d :: e :: f :: r).length := by simp
      have n3 : 3 < (c :: d :: e :: f :: r).length := by simp
      have l3 : ¬ (d :: e :: f :: r).length < 3 := by simp
      have l2 : ¬ (d :: e :: f :: r).length < 2 := by simp
      have l1 : ¬ (d :: e :: f :: r).length < 1 := by simp
      generalize (c :: d :: e :: f :: r).length = n at n1 n2 n3
      simp only [sgn, decodeN, List.getD_cons_zero, List.getD_cons_succ, h128, if_false, n1, n2, n3, l1, l2, l3, true_and, or_false]
      by_cases g4 : 240 ≤ c.toNat
      · have x1 : ¬ c.toNat / 32 = 6 := by omega
        have x2 : ¬ c.toNat / 16 = 14 := by omega
        simp only [g4, if_true, x1, x2, false_and, if_false, contN, rest_ite2, restS, restNone]
        repeat' split
        all_goals omega
      · by_cases g3 : 224 ≤ c.toNat
        · have x1 : ¬ c.toNat / 32 = 6 := by omega
          have x2 : c.toNat / 16 = 14 := by omega
          have x3 : ¬ c.toNat / 8 = 30 := by omega
          simp only [g4, g3, if_true, x1, x2, x3, true_and, false_and, if_false, contN, rest_ite2, restS, restNone]
          repeat' split
          all_goals omega
        · by_cases g2 : 192 ≤ c.toNat
          · have x1 : c.toNat / 32 = 6 := by omega
            have x2 : ¬ c.toNat / 16 = 14 := by omega
            have x3 : ¬ c.toNat / 8 = 30 := by omega
            simp only [g4, g3, g2, if_true, x1, x2, x3, true_and, false_and, if_false, contN, rest_ite2, restS, restNone]
            repeat' split
            all_goals omega
          · have x1 : ¬ c.toNat / 32 = 6 := by omega
            have x2 : ¬ c.toNat / 16 = 14 := by omega
            have x3 : ¬ c.toNat / 8 = 30 := by omega
            have g1 : 128 ≤ c.toNat := by omega
            simp only [g4, g3, g2, g1, if_true, x1, x2, x3, false_and, if_false]
end Go.Rv
