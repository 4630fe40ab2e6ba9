/- Plain laws. -/
import Derived.Test.YtaegbddjeibolaaWire6
set_option linter.unusedSimpArgs false
set_option linter.unusedVariables false
set_option maxRecDepth 100000
namespace Go.Rv
/-- The low k bytes of a number, the high byte first. -/
def be : Nat → Nat → List UInt8
  | 0, _ => []
  | k + 1, n => UInt8.ofNat (n / 256 ^ k % 256) :: be k n
theorem be_len : ∀ (k n : Nat), (be k n).length = k
  | 0, _ => rfl
  | k + 1, n => by simp [be, be_len k n]
theorem be1 (n : Nat) : be 1 n = [UInt8.ofNat (n % 256)] := by simp [be]
theorem be2 (n : Nat) : be 2 n = [UInt8.ofNat (n / 256 % 256), UInt8.ofNat (n % 256)] := by simp [be]
theorem be4 (n : Nat) : be 4 n = [UInt8.ofNat (n / 16777216 % 256), UInt8.ofNat (n / 65536 % 256), UInt8.ofNat (n / 256 % 256), UInt8.ofNat (n % 256)] := by simp [be]
theorem u8_mod {n m : Nat} (h : n % 256 = m % 256) : u8 (n : Int) = UInt8.ofNat m := by
  rw [eq8, u8_toNat']; simp only [UInt8.toNat_ofNat']; omega
def lim : Nat := 140737488300000
theorem clone_eq' (b : Option (List UInt8)) (h : (L b).length ≤ lim) : slices_Clone_s_byte_byte b = some b := clone_eq b (by simp only [lim] at h; omega)
theorem app_eq (b : Option (List UInt8)) (a : UInt8) (l : List UInt8) (h : (L b).length + l.length + 1 ≤ lim) : appO 1 b (some (a :: l)) = some (some (L b ++ a :: l)) := by
  simp only [lim] at h
  exact appO_ne (by simp [room]; omega) (by simp [room]; omega)
theorem wByte_eq (b : Option (List UInt8)) (c : UInt8) (h : (L b).length + 1 ≤ lim) : wire_Byte b c = some (some (L b ++ be 1 c.toNat)) := by
  simp only [wire_Byte]
  have hc := c.toNat_lt
  rw [clone_eq' b (by omega), Option.bind_some, app_eq b c [] (by simpa using h), be1, Nat.mod_eq_of_lt (by omega), UInt8.ofNat_toNat]; rfl
theorem wTwo_eq (b : Option (List UInt8)) (n : UInt16) (h : (L b).length + 2 ≤ lim) : wire_Two b n = some (some (L b ++ be 2 n.toNat)) := by
  simp only [wire_Two]
  have e8 : (((8 : UInt64).toNat : Int)) = ((8 : Nat) : Int) := rfl
  rw [clone_eq' b (by omega), Option.bind_some, e8, app_eq b _ _ (by simpa using h), be2, shr16_toNat (by omega), u8_mod (m := n.toNat / 256 % 256) (by omega), u8_mod (m := n.toNat % 256) (by omega)]; rfl
theorem wFour_eq (b : Option (List UInt8)) (n : UInt32) (h : (L b).length + 4 ≤ lim) : wire_Four b n = some (some (L b ++ be 4 n.toNat)) := by
  simp only [wire_Four]
  have hn := n.toNat_lt
  have e16 : (((16 : UInt64).toNat : Int)) = ((16 : Nat) : Int) := rfl
  rw [e16, wTwo_eq b _ (by omega), Option.bind_some, wTwo_eq _ _ (by simp [L, be_len] at h ⊢; omega), be2, be2, be4, u16_toNat', u16_toNat', shr32_toNat (by omega)]
  simp only [Option.bind_some, L, Option.getD_some, List.append_assoc, List.cons_append, List.nil_append]
  congr 3
  have e1 : (((n.toNat / 2 ^ 16 : Nat) : Int) % 65536).toNat = n.toNat / 65536 := by omega
  have e2 : ((n.toNat : Int) % 65536).toNat = n.toNat % 65536 := by omega
  rw [e1, e2, show n.toNat / 65536 / 256 = n.toNat / 16777216 by omega, show n.toNat % 65536 / 256 % 256 = n.toNat / 256 % 256 by omega, show n.toNat % 65536 % 256 = n.toNat % 256 by omega]
theorem div_loop : ∀ (k j i : Nat) (v : UInt64), i + k = j → j ≤ 1000 → ∃ u : UInt64, iter (r01_Num_l1 (j : Int)) (v, (i : Int)) = some u ∧ u.toNat = v.toNat / 256 ^ k
  | 0, j, i, v, h, hj => by
    refine ⟨v, ?_, by simp⟩
    rw [iter_eq]
    simp only [r01_Num_l1, r01_Num_b1]
    rw [if_neg (by simp; omega)]
  | k + 1, j, i, v, h, hj => by
    have e1 : w64 ((i : Int) + 1) = ((i + 1 : Nat) : Int) := by rw [show ((i : Int) + 1) = ((i + 1 : Nat) : Int) by simp]; exact w64_nat (by omega)
    obtain ⟨u, h1, h2⟩ := div_loop k j (i + 1) (v / 256) (by omega) hj
    refine ⟨u, ?_, ?_⟩
    · rw [iter_eq]
      simp only [r01_Num_l1, r01_Num_b1]
      rw [if_pos (by simp; omega), chk_d (p := (256 : UInt64) ≠ 0) (by decide), Option.bind_some, e1]
      exact h1
    · have e256 : (256 : UInt64).toNat = 256 := rfl
      rw [h2, UInt64.toNat_div, e256, Nat.div_div_eq_div_mul, Nat.pow_succ, Nat.mul_comm]
theorem num_out : ∀ (k : Nat) (v : UInt64) (b : Option (List UInt8)), k ≤ 1000 → (L b).length + k ≤ lim → (b.isSome = true ∨ 0 < k) → iter (r01_Num_l0 v) (b, (k : Int) - 1) = some (some (L b ++ be k v.toNat))
  | 0, v, b, hk, h, hb => by
    rw [iter_eq]
    simp only [r01_Num_l0, r01_Num_b0]
    rw [if_neg (by simp)]
    cases b with
    | none => simp at hb
    | some l => simp [be, L]
  | k + 1, v, b, hk, h, hb => by
    rw [iter_eq]
    simp only [r01_Num_l0, r01_Num_b0]
    have e0 : (((k + 1 : Nat) : Int) - 1) = (k : Int) := by omega
    have ew : w64 ((k : Int) - 1) = (k : Int) - 1 := w64_id (by omega) (by omega)
    rw [e0, if_pos (by simp)]
    obtain ⟨u, h1, h2⟩ := div_loop k k 0 v (by omega) (by omega)
    rw [show (((0 : Nat) : Int)) = 0 from rfl] at h1
    have e256 : (256 : UInt64).toNat = 256 := rfl
    have eb : u8 ((u % (256 : UInt64)).toNat : Int) = UInt8.ofNat (v.toNat / 256 ^ k % 256) := by
      rw [UInt64.toNat_mod, e256, h2]; exact u8_mod (by omega)
    rw [h1, Option.bind_some, chk_d (p := (256 : UInt64) ≠ 0) (by decide), Option.bind_some, eb, app_eq b _ [] (by simp; omega), Option.bind_some, ew]
    have := num_out k v (some (L b ++ [UInt8.ofNat (v.toNat / 256 ^ k % 256)])) (by omega) (by simp [L] at h ⊢; omega) (Or.inl rfl)
    simp only [this, be]
    simp [L]
theorem rNum_eq (b : Option (List UInt8)) (v : UInt64) (k : Nat) (hk : k ≤ 1000) (h : (L b).length + k ≤ lim) : r01_Num b v (k : Int) = some (some (L b ++ be k v.toNat)) := by
  simp only [r01_Num]
  have hl : (L b).length ≤ 140737488300000 := by simp only [lim] at h; omega
  rw [appO_some (by simp [room]; omega) (by simp [room]; omega), Option.bind_some, w64_id (by omega) (by omega)]
  have := num_out k v (some ([] ++ L b)) hk (by simpa [L] using h) (Or.inl rfl)
  rw [this]; simp [L]
theorem wBin_eq (b : Option (List UInt8)) (x : List UInt8) (hx : x.length ≤ 300) (h : (L b).length + 302 ≤ lim) : wire_Bin b x = some (some (L b ++ (be 2 x.length ++ x))) := by
  simp only [wire_Bin]
  have hl : (L b).length + 302 ≤ 140737488300000 := h
  rw [if_neg (by simp; omega), wTwo_eq b _ (by omega), Option.bind_some, u16_nat (by omega), appO_some (by simp [room, L, be_len] at hl ⊢; omega) (by simp [room, L, be_len] at hl ⊢; omega)]
  simp [L]
theorem rBin_eq (b : Option (List UInt8)) (x : List UInt8) (hx : x.length ≤ 300) (h : (L b).length + 302 ≤ lim) : r01_Bin b x = some (some (L b ++ (be 2 x.length ++ x))) := by
  simp only [r01_Bin]
  have hl : (L b).length + 302 ≤ 140737488300000 := h
  have := rNum_eq b (u64 (x.length : Int)) 2 (by omega) (by omega)
  rw [show (((2 : Nat) : Int)) = 2 from rfl] at this
  rw [if_neg (by simp; omega), this, Option.bind_some, u64_nat (by omega), appO_some (by simp [room, L, be_len] at hl ⊢; omega) (by simp [room, L, be_len] at hl ⊢; omega)]
  simp [L]
end Go.Rv
