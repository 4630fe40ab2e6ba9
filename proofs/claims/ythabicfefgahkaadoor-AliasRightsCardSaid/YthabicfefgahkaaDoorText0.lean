/- Plain laws. -/
import Derived.Test.YthabicfefgahkaaDoorWalk
import Derived.Lib.ValidLaws
set_option linter.unusedSimpArgs false
set_option linter.unusedVariables false
set_option maxRecDepth 100000
namespace Go.Rv
open Go.Lib
-- numbers (as in Lib1)
theorem w64_id {x : Int} (h0 : -9223372036854775808 ≤ x) (h1 : x ≤ 9223372036854775807) : w64 x = x := by
  show IntKind.i64.wrap x = x
  rw [IntKind.wrap_i64]; omega
theorem ix_nat {α : Type} {l : List α} {i : Nat} : ix l (i : Int) = l[i]? := by simp [ix]
/-- The bytes behind a sign's first one. -/
def contN : Nat → Nat → List UInt8 → Option Nat
  | 0, n, _ => some n
  | k + 1, n, c :: l => if c.toNat / 64 = 2 then contN k (64 * n + c.toNat - 128) l else none
  | _ + 1, _, [] => none
def contR : Option Nat → Unit ⊕ Int
  | none => .inl ()
  | some m => .inr (m : Int)
theorem cont_loop (s : List UInt8) (p z : Nat) (hl : s.length ≤ 70000) (hz : z ≤ 4) (hp : p + z ≤ s.length) : ∀ (k i n : Nat), i + k = z → n < 1000 ^ (i + 1) →
    iter (r02_sign_l1 s (p : Int) (z : Int)) ((n : Int), (i : Int)) = some (contR (contN k n (s.drop (p + i)))) := by
  intro k
  induction k with
  | zero =>
    intro i n hi hn
    rw [iter_eq]
    simp only [r02_sign_l1, r02_sign_b1]
    rw [if_neg (by simp; omega)]
    rfl
  | succ k ih =>
    intro i n hi hn
    rw [iter_eq]
    simp only [r02_sign_l1, r02_sign_b1]
    have hlt : p + i < s.length := by omega
    have e1 : w64 ((p : Int) + (i : Int)) = ((p + i : Nat) : Int) := by rw [w64_id (by omega) (by omega)]; simp
    rw [if_pos (by simp; omega), e1, ix_nat, List.getElem?_eq_getElem hlt, Option.bind_some, List.drop_eq_getElem_cons hlt]
    have hc := s[p + i].toNat_lt
    have ih := ih (i + 1) (64 * n + s[p + i].toNat - 128) (by omega) (by
      rw [Nat.pow_succ]
      have : 1000 ≤ 1000 ^ (i + 1) := Nat.le_self_pow (by omega) 1000
      generalize 1000 ^ (i + 1) = M at hn this ⊢
      generalize s[p + i] = c at hc ⊢
      omega)
    rw [show p + (i + 1) = p + i + 1 by omega] at ih
    generalize s[p + i] = c at hc ih ⊢
    have h64 : (1000 : Nat) ^ (i + 1) ≤ 1000 ^ 5 := Nat.pow_le_pow_right (by decide) (by omega)
    have e64 : (1000 : Nat) ^ 5 = 1000000000000000 := by decide
    have ec : w64 (c.toNat : Int) = (c.toNat : Int) := w64_id (by omega) (by omega)
    rw [ec]
    simp only [contN]
    by_cases h1 : c.toNat < 128
    · rw [if_pos (by simp; omega), if_neg (by omega)]; rfl
    · rw [if_neg (by simp; omega)]
      by_cases h2 : 192 ≤ c.toNat
      · rw [if_pos (by simp; omega), if_neg (by omega)]; rfl
      · rw [if_neg (by simp; omega), if_pos (by omega)]
        have e2 : w64 (w64 (w64 (64 * (n : Int)) + (c.toNat : Int)) - 128) = ((64 * n + c.toNat - 128 : Nat) : Int) := by
          rw [w64_id (x := 64 * (n : Int)) (by omega) (by omega), w64_id (x := 64 * (n : Int) + (c.toNat : Int)) (by omega) (by omega), w64_id (by omega) (by omega)]; omega
        have e3 : w64 ((i : Int) + 1) = ((i + 1 : Nat) : Int) := by rw [w64_id (by omega) (by omega)]; simp
        rw [e2, e3]
        exact ih
/-- What the reference says of one sign's value. -/
def restN (z least : Nat) : Option Nat → Nat
  | some n => if n < least ∨ n > 1114111 ∨ (n ≥ 55296 ∧ n ≤ 57343) then 0 else z
  | none => 0
theorem sign_c0 (s : List UInt8) (p c z n least : Nat) (hl : s.length ≤ 70000) (hpl : p ≤ 70000) (hz1 : 1 ≤ z) (hz : z ≤ 4) (hn : n < 1000000) (hleast : least ≤ 100000) :
    ∃ v, r02_sign_c0 s (p : Int) (c : Int) (z : Int) (n : Int) (least : Int) (fun a b => some (a, b)) = some (v, ((if 248 ≤ c ∨ s.length < p + z then 0 else restN z least (contN (z - 1) n (s.drop (p + 1))) : Nat) : Int)) := by
  simp only [r02_sign_c0]
  by_cases h1 : 248 ≤ c
  · rw [if_pos (by simp; omega), if_pos (Or.inl h1)]; exact ⟨0, rfl⟩
  · rw [if_neg (by simp; omega)]
    by_cases hp : s.length < p + z
    · have e1 : w64 ((p : Int) + (z : Int)) = ((p + z : Nat) : Int) := by rw [w64_id (by omega) (by omega)]; simp
      rw [e1, if_pos (by simp; omega), if_pos (Or.inr hp)]; exact ⟨0, rfl⟩
    · have e1 : w64 ((p : Int) + (z : Int)) = ((p + z : Nat) : Int) := by rw [w64_id (by omega) (by omega)]; simp
      have hit := cont_loop s p z hl hz (by omega) (z - 1) 1 n (by omega) (by simpa using hn)
      rw [show (((1 : Nat) : Int)) = 1 from rfl] at hit
      rw [e1, if_neg (by simp; omega), if_neg (by omega), hit, Option.bind_some]
      cases contN (z - 1) n (s.drop (p + 1)) with
      | none => exact ⟨0, rfl⟩
      | some m =>
        simp only [contR, restN]
        by_cases q1 : m < least
        · rw [if_pos (by simp; omega)]; exact ⟨0, by simp [q1]⟩
        · rw [if_neg (by simp; omega)]
          by_cases q2 : m > 1114111
          · rw [if_pos (by simp; omega)]; exact ⟨0, by simp [q1, q2]⟩
          · rw [if_neg (by simp; omega)]
            by_cases q3 : m ≥ 55296
            · rw [if_pos (by simp; omega)]
              by_cases q4 : m ≤ 57343
              · rw [if_pos (by simp; omega)]; exact ⟨0, by simp [q1, q2, q3, q4]⟩
              · rw [if_neg (by simp; omega)]; exact ⟨m, by simp [q1, q2, q3, q4]⟩
            · rw [if_neg (by simp; omega)]; exact ⟨m, by simp [q1, q2, q3]⟩
end Go.Rv
