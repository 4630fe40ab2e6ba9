/- Plain laws. -/
import Derived.Test.YtaegbddjeibolaaLib1
set_option linter.unusedSimpArgs false
set_option linter.unusedVariables false
set_option maxRecDepth 100000
namespace Go.Rv
-- ---------- the digits of a Var ----------
/-- A Var's number, how many digits, what is wrong: f digits may come yet, i have come, n is their number. -/
def dec : Nat → Nat → Nat → List UInt8 → Nat × Nat × Nat
  | 0, _, _, _ => (0, 0, 3)
  | _ + 1, _, _, [] => (0, 0, 2)
  | f + 1, i, n, c :: l =>
    if 128 ≤ c.toNat then dec f (i + 1) (n + c.toNat % 128 * 128 ^ i) l
    else if c.toNat = 0 ∧ 0 < i then (0, 0, 3)
    else (n + c.toNat % 128 * 128 ^ i, i + 1, 0)
theorem digit_or {n i : Nat} {c : UInt8} {x : UInt32} (hx : x.toNat = n) (hn : n < 128 ^ i) (hi : i ≤ 3) :
    (x ||| shl_u32 (u32 ((c &&& ~~~(128 : UInt8)).toNat : Int)) ((7 * i : Nat) : Int)).toNat = n + c.toNat % 128 * 128 ^ i := by
  rw [UInt32.toNat_or, shl32_toNat (by omega), u32_toNat', low7, hx]
  have e : (2 : Nat) ^ (7 * i) = 128 ^ i := by rw [Nat.pow_mul]
  rw [e]
  have h1 : c.toNat % 128 < 128 := Nat.mod_lt _ (by decide)
  generalize c.toNat % 128 = d at h1 ⊢
  have h2 : ((d : Int) % 4294967296).toNat = d := by omega
  rw [h2]
  have h3 : 128 ^ i ≤ 128 ^ 3 := Nat.pow_le_pow_right (by decide) hi
  have h4 : d * 128 ^ i < 4294967296 := by
    have : d * 128 ^ i ≤ 127 * 128 ^ 3 := Nat.mul_le_mul (by omega) h3
    have : (127 * 128 ^ 3 : Nat) = 266338304 := by decide
    omega
  rw [Nat.mod_eq_of_lt h4, ← e]
  rw [← e] at hn
  exact or_add hn
def decW (r : Nat × Nat × Nat) : UInt32 × Int × Int := (UInt32.ofNat r.1, (r.2.1 : Int), (r.2.2 : Int))
theorem dec_lt : ∀ (f i n : Nat) (l : List UInt8), n < 128 ^ i → (dec f i n l).1 < 128 ^ (i + f) ∧ (dec f i n l).2.1 ≤ i + l.length
  | 0, i, n, l, h => ⟨Nat.lt_of_lt_of_le (by simp only [dec]; exact Nat.pow_pos (by decide)) (Nat.le_refl _), by simp [dec]⟩
  | f + 1, i, n, [], h => ⟨by simp only [dec]; exact Nat.pow_pos (by decide), by simp [dec]⟩
  | f + 1, i, n, c :: l, h => by
    have hd : c.toNat % 128 < 128 := Nat.mod_lt _ (by decide)
    have hs : n + c.toNat % 128 * 128 ^ i < 128 ^ (i + 1) := by
      rw [Nat.pow_succ]
      have : c.toNat % 128 * 128 ^ i ≤ 127 * 128 ^ i := Nat.mul_le_mul_right _ (by omega)
      omega
    simp only [dec]
    split
    · obtain ⟨h1, h2⟩ := dec_lt f (i + 1) _ l hs
      exact ⟨by rw [show i + (f + 1) = i + 1 + f by omega]; exact h1, by simp; omega⟩
    · split
      · exact ⟨by exact Nat.pow_pos (by decide), by simp⟩
      · exact ⟨Nat.lt_of_lt_of_le hs (Nat.pow_le_pow_right (by decide) (by omega)), by simp only [List.length_cons]; omega⟩
theorem digits_loop (b : List UInt8) (hb : b.length ≤ 9223372036854775807) : ∀ (f i n : Nat) (x : UInt32), f + i = 4 → x.toNat = n → n < 128 ^ i → i ≤ b.length →
    ((iter (wire_digits_l0 b) (x, (i : Int))).bind fun | .inl (x9, x10, x11) => some (x9, x10, x11) | .inr _ => some ((0 : UInt32), 0, 3)) = some (decW (dec f i n (b.drop i)))
  | 0, i, n, x, hf, hx, hn, hi => by
    have : i = 4 := by omega
    subst this
    rw [iter_eq]
    simp only [wire_digits_l0, wire_digits_b0]
    rw [if_neg (by simp)]
    rfl
  | f + 1, i, n, x, hf, hx, hn, hi => by
    rw [iter_eq]
    simp only [wire_digits_l0, wire_digits_b0]
    rw [if_pos (by simp; omega)]
    by_cases hlen : b.length ≤ i
    · rw [if_pos (by simp; omega), List.drop_of_length_le hlen]
      rfl
    · rw [if_neg (by simp; omega)]
      have hlt : i < b.length := by omega
      rw [ix_nat, List.getElem?_eq_getElem hlt, Option.bind_some]
      have e7 : w64 (7 * (i : Int)) = ((7 * i : Nat) : Int) := by rw [show (7 * (i : Int)) = ((7 * i : Nat) : Int) by simp]; exact w64_nat (by omega)
      have e1 : w64 ((i : Int) + 1) = ((i + 1 : Nat) : Int) := by rw [show ((i : Int) + 1) = ((i + 1 : Nat) : Int) by simp]; exact w64_nat (by omega)
      rw [e7, chk_t (by simp; omega), Option.bind_some, List.drop_eq_getElem_cons hlt]
      have hor := digit_or (c := b[i]) hx hn (by omega)
      have hd : b[i].toNat % 128 < 128 := Nat.mod_lt _ (by decide)
      have hs : n + b[i].toNat % 128 * 128 ^ i < 128 ^ (i + 1) := by
        rw [Nat.pow_succ]
        have : b[i].toNat % 128 * 128 ^ i ≤ 127 * 128 ^ i := Nat.mul_le_mul_right _ (by omega)
        omega
      simp only [dec, e1]
      by_cases h8 : 128 ≤ b[i].toNat
      · rw [if_pos (by simpa [ge8] using h8), if_pos h8]
        exact digits_loop b hb f (i + 1) _ _ (by omega) hor hs (by omega)
      · rw [if_neg (by simpa [ge8] using h8), if_neg h8]
        have fin : (x ||| shl_u32 (u32 ((b[i] &&& ~~~(128 : UInt8)).toNat : Int)) ((7 * i : Nat) : Int)) = UInt32.ofNat (n + b[i].toNat % 128 * 128 ^ i) := by
          rw [← hor]; simp
        by_cases h0 : b[i].toNat = 0
        · rw [if_pos (by simp [eq8, h0])]
          by_cases hi0 : 0 < i
          · rw [if_pos (by simp; omega), if_pos ⟨h0, hi0⟩]; rfl
          · rw [if_neg (by simp; omega), if_neg (by omega)]
            simp only [decW, fin]; rfl
        · rw [if_neg (by simp [eq8, h0]), if_neg (by omega)]
          simp only [decW, fin]; rfl
theorem digits_eq (b : List UInt8) (hb : b.length ≤ 9223372036854775807) : wire_digits b = some (decW (dec 4 0 0 b)) :=
  digits_loop b hb 4 0 0 0 rfl rfl (by decide) (Nat.zero_le _)
end Go.Rv
