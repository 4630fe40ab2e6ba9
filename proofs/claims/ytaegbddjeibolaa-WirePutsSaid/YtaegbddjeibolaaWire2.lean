/- Plain laws. -/
import Derived.Test.YtaegbddjeibolaaWire1
set_option linter.unusedSimpArgs false
set_option linter.unusedVariables false
set_option maxRecDepth 100000
namespace Go.Rv
/-- What is left of a reader behind a Var. -/
def decR (a : Nat) (r : Nat × Nat × Nat) : UInt32 × Int × Int := if r.2.2 = 0 then (UInt32.ofNat r.1, ((a + r.2.1 : Nat) : Int), 0) else (0, (a : Int), (r.2.2 : Int))
theorem digit_add {n i : Nat} {c : UInt8} {x y : UInt32} (hx : x.toNat = n) (hy : y.toNat = 128 ^ i) (hn : n < 128 ^ i) (hi : i ≤ 3) :
    (x + ((u32 (c.toNat : Int)) % (128 : UInt32)) * y).toNat = n + c.toNat % 128 * 128 ^ i := by
  have hc := c.toNat_lt
  rw [UInt32.toNat_add, UInt32.toNat_mul, UInt32.toNat_mod, u32_toNat', hx, hy]
  have h2 : ((c.toNat : Int) % 4294967296).toNat = c.toNat := by omega
  rw [h2]
  have h1 : c.toNat % 128 < 128 := Nat.mod_lt _ (by decide)
  have h128 : (128 : UInt32).toNat = 128 := rfl
  rw [h128]
  generalize c.toNat % 128 = d at h1 ⊢
  have h3 : 128 ^ i ≤ 128 ^ 3 := Nat.pow_le_pow_right (by decide) hi
  have h4 : d * 128 ^ i ≤ 266338304 := by
    have : d * 128 ^ i ≤ 127 * 128 ^ 3 := Nat.mul_le_mul (by omega) h3
    have e : (127 * 128 ^ 3 : Nat) = 266338304 := by decide
    omega
  have h5 : (128 : Nat) ^ 3 = 2097152 := by decide
  generalize d * 128 ^ i = p at h4 ⊢
  omega
theorem refvar_loop (o : r01_Reader) (a : Nat) (ha : o.At = (a : Int)) (hB : o.Bad = 0) (hb : o.B.length ≤ 4611686018427387904) : ∀ (f i n : Nat) (x y : UInt32), f + i = 3 → x.toNat = n → y.toNat = 128 ^ i → n < 128 ^ i → a + i ≤ o.B.length →
    iter (r01_Reader_Var_l0 o) (x, y, (i : Int)) = some (.inl (decR a (dec (f + 1) i n (o.B.drop (a + i))))) := by
  intro f
  induction f with
  | zero =>
    intro i n x y hf hx hy hn hi
    have : i = 3 := by omega
    subst this
    rw [iter_eq]
    simp only [r01_Reader_Var_l0, r01_Reader_Var_b0]
    rw [if_pos (by simp)]
    have ew : w64 (o.At + ((3 : Nat) : Int)) = ((a + 3 : Nat) : Int) := by rw [ha, show ((a : Int) + ((3 : Nat) : Int)) = ((a + 3 : Nat) : Int) by simp]; exact w64_nat (by omega)
    rw [ew]
    by_cases hlen : o.B.length ≤ a + 3
    · rw [if_pos (by simp; omega), List.drop_of_length_le hlen, ha]; rfl
    · rw [if_neg (by simp; omega)]
      have hlt : a + 3 < o.B.length := by omega
      rw [ix_nat, List.getElem?_eq_getElem hlt, Option.bind_some, chk_d (p := (128 : UInt32) ≠ 0) (by decide), Option.bind_some, List.drop_eq_getElem_cons hlt]
      have hadd := digit_add (c := o.B[a + 3]) hx hy hn (by omega)
      have hc := o.B[a + 3].toNat_lt
      generalize o.B[a + 3] = c at hadd hc ⊢
      have hu : (u32 (c.toNat : Int)).toNat = c.toNat := by rw [u32_toNat']; omega
      have hge : ((u32 (c.toNat : Int)) ≥ (128 : UInt32)) ↔ 128 ≤ c.toNat := by
        show (128 : UInt32) ≤ _ ↔ _
        rw [UInt32.le_iff_toNat_le, hu]; rfl
      have hlt' : ((u32 (c.toNat : Int)) < (128 : UInt32)) ↔ ¬ 128 ≤ c.toNat := by
        rw [UInt32.lt_iff_toNat_lt, hu]; show c.toNat < 128 ↔ _; omega
      have heq : ((u32 (c.toNat : Int)) = (0 : UInt32)) ↔ c.toNat = 0 := by
        rw [eq32, hu]; rfl
      simp only [dec]
      by_cases h8 : 128 ≤ c.toNat
      · rw [if_pos (by simpa [hge] using h8), if_pos (by simp), if_pos h8, ha]; rfl
      · rw [if_neg (by simpa [hge] using h8), if_neg h8]
        by_cases h0 : c.toNat = 0
        · rw [if_pos (by simpa [heq] using h0), if_pos (by simp), if_pos ⟨h0, by omega⟩, ha]; rfl
        · rw [if_neg (by simpa [heq] using h0), if_neg (by omega)]
          simp only [r01_Reader_Var_c1]
          rw [if_pos (by simpa [hlt'] using h8), ew]
          have e1 : w64 (((a + 3 : Nat) : Int) + 1) = ((a + (3 + 1) : Nat) : Int) := by rw [show (((a + 3 : Nat) : Int) + 1) = ((a + (3 + 1) : Nat) : Int) by omega]; exact w64_nat (by omega)
          rw [e1, hB]
          simp only [decR, if_true]
          rw [← hadd, UInt32.ofNat_toNat]
  | succ f ih =>
    intro i n x y hf hx hy hn hi
    rw [iter_eq]
    simp only [r01_Reader_Var_l0, r01_Reader_Var_b0]
    rw [if_pos (by simp; omega)]
    have ew : w64 (o.At + (i : Int)) = ((a + i : Nat) : Int) := by rw [ha, show ((a : Int) + (i : Int)) = ((a + i : Nat) : Int) by simp]; exact w64_nat (by omega)
    rw [ew]
    by_cases hlen : o.B.length ≤ a + i
    · rw [if_pos (by simp; omega), List.drop_of_length_le hlen, ha]; rfl
    · rw [if_neg (by simp; omega)]
      have hlt : a + i < o.B.length := by omega
      rw [ix_nat, List.getElem?_eq_getElem hlt, Option.bind_some, chk_d (p := (128 : UInt32) ≠ 0) (by decide), Option.bind_some, List.drop_eq_getElem_cons hlt]
      have hadd := digit_add (c := o.B[a + i]) hx hy hn (by omega)
      have hc := o.B[a + i].toNat_lt
      have hs : n + o.B[a + i].toNat % 128 * 128 ^ i < 128 ^ (i + 1) := by
        rw [Nat.pow_succ]
        have hd : o.B[a + i].toNat % 128 < 128 := Nat.mod_lt _ (by decide)
        have : o.B[a + i].toNat % 128 * 128 ^ i ≤ 127 * 128 ^ i := Nat.mul_le_mul_right _ (by omega)
        omega
      have hrec := ih (i + 1) (n + o.B[a + i].toNat % 128 * 128 ^ i) (x + ((u32 (o.B[a + i].toNat : Int)) % (128 : UInt32)) * y) (y * (128 : UInt32)) (by omega) hadd (by
        rw [UInt32.toNat_mul, hy, Nat.pow_succ 128 i]
        have h3 : 128 ^ i ≤ 128 ^ 2 := Nat.pow_le_pow_right (by decide) (by omega)
        have h5 : (128 : Nat) ^ 2 = 16384 := by decide
        have h128 : (128 : UInt32).toNat = 128 := rfl
        rw [h128]
        rw [h5] at h3
        generalize 128 ^ i = p at h3 ⊢
        rw [Nat.mod_eq_of_lt (by omega)]) hs (by omega)
      rw [show a + (i + 1) = a + i + 1 by omega] at hrec
      generalize o.B[a + i] = c at hadd hc hrec ⊢
      have hu : (u32 (c.toNat : Int)).toNat = c.toNat := by rw [u32_toNat']; omega
      have hge : ((u32 (c.toNat : Int)) ≥ (128 : UInt32)) ↔ 128 ≤ c.toNat := by
        show (128 : UInt32) ≤ _ ↔ _
        rw [UInt32.le_iff_toNat_le, hu]; rfl
      have hlt' : ((u32 (c.toNat : Int)) < (128 : UInt32)) ↔ ¬ 128 ≤ c.toNat := by
        rw [UInt32.lt_iff_toNat_lt, hu]; show c.toNat < 128 ↔ _; omega
      have heq : ((u32 (c.toNat : Int)) = (0 : UInt32)) ↔ c.toNat = 0 := by
        rw [eq32, hu]; rfl
      have e1 : w64 ((i : Int) + 1) = ((i + 1 : Nat) : Int) := by rw [show ((i : Int) + 1) = ((i + 1 : Nat) : Int) by simp]; exact w64_nat (by omega)
      rw [dec]
      by_cases h8 : 128 ≤ c.toNat
      · rw [if_pos (by simpa [hge] using h8), if_neg (by simp; omega), if_pos h8]
        have h0 : ¬ c.toNat = 0 := by omega
        rw [if_neg (by simpa [heq] using h0)]
        simp only [r01_Reader_Var_c1]
        rw [if_neg (by simpa [hlt'] using h8), e1]
        exact hrec
      · rw [if_neg (by simpa [hge] using h8), if_neg h8]
        by_cases h0 : c.toNat = 0
        · rw [if_pos (by simpa [heq] using h0)]
          by_cases hi0 : 0 < i
          · rw [if_pos (by simp; omega), if_pos ⟨h0, hi0⟩, ha]; rfl
          · rw [if_neg (by simp; omega), if_neg (by omega)]
            simp only [r01_Reader_Var_c1]
            rw [if_pos (by simpa [hlt'] using h8), ew, hB]
            have e2 : w64 (((a + i : Nat) : Int) + 1) = ((a + (i + 1) : Nat) : Int) := by rw [show (((a + i : Nat) : Int) + 1) = ((a + (i + 1) : Nat) : Int) by omega]; exact w64_nat (by omega)
            rw [e2]
            simp only [decR, if_true]
            rw [← hadd, UInt32.ofNat_toNat]
        · rw [if_neg (by simpa [heq] using h0), if_neg (by omega)]
          simp only [r01_Reader_Var_c1]
          rw [if_pos (by simpa [hlt'] using h8), ew, hB]
          have e2 : w64 (((a + i : Nat) : Int) + 1) = ((a + (i + 1) : Nat) : Int) := by rw [show (((a + i : Nat) : Int) + 1) = ((a + (i + 1) : Nat) : Int) by omega]; exact w64_nat (by omega)
          rw [e2]
          simp only [decR, if_true]
          rw [← hadd, UInt32.ofNat_toNat]
end Go.Rv
