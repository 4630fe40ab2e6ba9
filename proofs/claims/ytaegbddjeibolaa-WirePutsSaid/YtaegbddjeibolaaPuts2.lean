/- Plain laws. -/
import Derived.Test.YtaegbddjeibolaaPuts1
set_option linter.unusedSimpArgs false
set_option linter.unusedVariables false
set_option maxRecDepth 100000
namespace Go.Rv
def big : Nat := 4611686018427387904
theorem take_eq (x b : List UInt8) (h : x.length + b.length ≤ 4611686018427387904) : wire_Reader_take (x.length : Int) ⟨x ++ b, 0⟩ = some (x, true, ⟨b, 0⟩) := by
  have s1 : slc (x ++ b) 0 (x.length : Int) = some x := by
    have := slc_nat (l := x ++ b) (a := 0) (b := x.length) (Nat.zero_le _) (by simp)
    simpa using this
  have s2 : slc (x ++ b) (x.length : Int) ((x ++ b).length : Int) = some b := by
    have := slc_from (l := x ++ b) (a := x.length) (by simp)
    rw [this]; simp
  simp only [wire_Reader_take, wire_Reader_Err, Option.bind_some]
  rw [if_neg (by simp), if_neg (by simp)]
  simp only [wire_Reader_take_c0, wire_Reader_take_c1]
  rw [if_neg (by simp; omega), s1, s2]
  rfl
theorem rByte (n : Nat) (b : List UInt8) (h : b.length ≤ 4611686018427380000) : wire_Reader_Byte_1 ⟨be 1 n ++ b, 0⟩ = some (UInt8.ofNat n, ⟨b, 0⟩) := by
  have := take_eq (be 1 n) b (by simp [be_len]; omega)
  rw [be_len, show (((1 : Nat) : Int)) = 1 from rfl] at this
  simp only [wire_Reader_Byte_1]
  rw [this, Option.bind_some, be1]
  have e : UInt8.ofNat (n % 256) = UInt8.ofNat n := by rw [eq8]; simp only [UInt8.toNat_ofNat']; omega
  simp only [Bool.not_true]
  rw [if_neg (by simp), e]; rfl
theorem rTwo (n : Nat) (b : List UInt8) (h : b.length ≤ 4611686018427380000) : wire_Reader_Two ⟨be 2 n ++ b, 0⟩ = some (UInt16.ofNat n, ⟨b, 0⟩) := by
  have := take_eq (be 2 n) b (by simp [be_len]; omega)
  rw [be_len, show (((2 : Nat) : Int)) = 2 from rfl] at this
  simp only [wire_Reader_Two]
  rw [this, Option.bind_some, be2]
  simp only [Bool.not_true]
  rw [if_neg (by simp)]
  have e8 : (((8 : UInt64).toNat : Int)) = ((8 : Nat) : Int) := rfl
  have i0 : ix [UInt8.ofNat (n / 256 % 256), UInt8.ofNat (n % 256)] 0 = some (UInt8.ofNat (n / 256 % 256)) := rfl
  have i1 : ix [UInt8.ofNat (n / 256 % 256), UInt8.ofNat (n % 256)] 1 = some (UInt8.ofNat (n % 256)) := rfl
  have t0 : (UInt8.ofNat (n / 256 % 256)).toNat = n / 256 % 256 := by simp only [UInt8.toNat_ofNat']; omega
  have t1 : (UInt8.ofNat (n % 256)).toNat = n % 256 := by simp only [UInt8.toNat_ofNat']; omega
  rw [i0, i1, Option.bind_some, Option.bind_some, t0, t1, e8]
  congr 2
  rw [eq16, UInt16.toNat_or, shl16_toNat (by omega), u16_nat (by omega), u16_nat (by omega), Nat.mod_eq_of_lt (show n / 256 % 256 * 2 ^ 8 < 65536 by omega), Nat.or_comm, or_add (by omega)]
  simp only [UInt16.toNat_ofNat']
  omega
theorem rFour (n : Nat) (b : List UInt8) (h : b.length ≤ 4611686018427380000) : wire_Reader_Four_1 ⟨be 4 n ++ b, 0⟩ = some (UInt32.ofNat n, ⟨b, 0⟩) := by
  have := take_eq (be 4 n) b (by simp [be_len]; omega)
  rw [be_len, show (((4 : Nat) : Int)) = 4 from rfl] at this
  simp only [wire_Reader_Four_1]
  rw [this, Option.bind_some, be4]
  simp only [Bool.not_true]
  rw [if_neg (by simp)]
  have e8 : (((8 : UInt64).toNat : Int)) = ((8 : Nat) : Int) := rfl
  have e16 : (((16 : UInt64).toNat : Int)) = ((16 : Nat) : Int) := rfl
  have e24 : (((24 : UInt64).toNat : Int)) = ((24 : Nat) : Int) := rfl
  have t0 : (UInt8.ofNat (n / 16777216 % 256)).toNat = n / 16777216 % 256 := by simp only [UInt8.toNat_ofNat']; omega
  have t1 : (UInt8.ofNat (n / 65536 % 256)).toNat = n / 65536 % 256 := by simp only [UInt8.toNat_ofNat']; omega
  have t2 : (UInt8.ofNat (n / 256 % 256)).toNat = n / 256 % 256 := by simp only [UInt8.toNat_ofNat']; omega
  have t3 : (UInt8.ofNat (n % 256)).toNat = n % 256 := by simp only [UInt8.toNat_ofNat']; omega
  have i0 : ∀ a b c d : UInt8, ix [a, b, c, d] 0 = some a := fun _ _ _ _ => rfl
  have i1 : ∀ a b c d : UInt8, ix [a, b, c, d] 1 = some b := fun _ _ _ _ => rfl
  have i2 : ∀ a b c d : UInt8, ix [a, b, c, d] 2 = some c := fun _ _ _ _ => rfl
  have i3 : ∀ a b c d : UInt8, ix [a, b, c, d] 3 = some d := fun _ _ _ _ => rfl
  rw [i0, i1, i2, i3, Option.bind_some, Option.bind_some, Option.bind_some, Option.bind_some, t0, t1, t2, t3, e8, e16, e24]
  congr 2
  rw [eq32]
  simp only [UInt32.toNat_or]
  have x0 : n / 16777216 % 256 < 256 := Nat.mod_lt _ (by decide)
  have x1 : n / 65536 % 256 < 256 := Nat.mod_lt _ (by decide)
  have x2 : n / 256 % 256 < 256 := Nat.mod_lt _ (by decide)
  have x3 : n % 256 < 256 := Nat.mod_lt _ (by decide)
  have xs : (UInt32.ofNat n).toNat = n % 256 + (n / 256 % 256 + (n / 65536 % 256 + n / 16777216 % 256 * 256) * 256) * 256 := by simp only [UInt32.toNat_ofNat']; omega
  rw [xs]
  generalize n / 16777216 % 256 = a at x0 ⊢
  generalize n / 65536 % 256 = b at x1 ⊢
  generalize n / 256 % 256 = c at x2 ⊢
  generalize n % 256 = d at x3 ⊢
  rw [shl32_toNat (by omega), shl32_toNat (by omega), shl32_toNat (by omega), u32_nat (by omega), u32_nat (by omega), u32_nat (by omega), u32_nat (by omega), Nat.mod_eq_of_lt (show a * 2 ^ 24 < 4294967296 by omega), Nat.mod_eq_of_lt (show b * 2 ^ 16 < 4294967296 by omega), Nat.mod_eq_of_lt (show c * 2 ^ 8 < 4294967296 by omega)]
  have s1 : a * 2 ^ 24 ||| b * 2 ^ 16 = (b + a * 256) * 2 ^ 16 := by rw [Nat.or_comm, or_add (by omega)]; omega
  have s2 : (b + a * 256) * 2 ^ 16 ||| c * 2 ^ 8 = (c + (b + a * 256) * 256) * 2 ^ 8 := by rw [Nat.or_comm, or_add (by omega)]; omega
  rw [s1, s2, Nat.or_comm, or_add (by omega)]
/-- What is laid is decoded. -/
theorem vb_dec : ∀ (f i n m : Nat) (l : List UInt8), m < 128 ^ (f + 1) → (0 < i → 0 < m) → dec (f + 1) i n (vb m ++ l) = (n + m * 128 ^ i, i + (vb m).length, 0)
  | 0, i, n, m, l, h, hi => by
    have hm : m < 128 := by simpa using h
    rw [vb_lt hm]
    simp only [List.cons_append, List.nil_append, dec]
    have t : (UInt8.ofNat m).toNat = m := by simp only [UInt8.toNat_ofNat']; omega
    rw [t, if_neg (by omega), if_neg (by omega), Nat.mod_eq_of_lt hm]; rfl
  | f + 1, i, n, m, l, h, hi => by
    by_cases hm : m < 128
    · rw [vb_lt hm]
      simp only [List.cons_append, List.nil_append, dec]
      have t : (UInt8.ofNat m).toNat = m := by simp only [UInt8.toNat_ofNat']; omega
      rw [t, if_neg (by omega), if_neg (by omega), Nat.mod_eq_of_lt hm]; rfl
    · rw [vb_ge hm]
      simp only [List.cons_append]
      rw [dec]
      have t : (UInt8.ofNat (m % 128 + 128)).toNat = m % 128 + 128 := by simp only [UInt8.toNat_ofNat']; omega
      have t2 : (m % 128 + 128) % 128 = m % 128 := by omega
      rw [t, if_pos (by omega), t2, vb_dec f (i + 1) _ (m / 128) l (by rw [Nat.pow_succ] at h; exact Nat.div_lt_of_lt_mul (by omega)) (by omega)]
      have e : n + m % 128 * 128 ^ i + m / 128 * 128 ^ (i + 1) = n + m * 128 ^ i := by
        rw [Nat.pow_succ, Nat.add_assoc, Nat.mul_comm (128 ^ i) 128, ← Nat.mul_assoc, ← Nat.add_mul]
        congr 2
        omega
      rw [e, List.length_cons, show i + 1 + (vb (m / 128)).length = i + ((vb (m / 128)).length + 1) by omega]
theorem rVar (n : UInt32) (b : List UInt8) (hn : n.toNat ≤ 268435455) (h : b.length ≤ 4611686018427380000) : wire_Reader_Var ⟨vb n.toNat ++ b, 0⟩ = some (n, ⟨b, 0⟩) := by
  have hl := vb_len 5 n.toNat (u32_lt5 n)
  have e := vb_dec 3 0 0 n.toNat b (by have : (128 : Nat) ^ (3 + 1) = 268435456 := by decide
                                       omega) (by omega)
  rw [wRVar_eq _ (by simp; omega), e]
  simp
theorem rBin (x b : List UInt8) (hx : x.length ≤ 300) (h : b.length ≤ 4611686018427370000) : wire_Reader_Bin ⟨be 2 x.length ++ x ++ b, 0⟩ = some (x, ⟨b, 0⟩) := by
  simp only [wire_Reader_Bin]
  rw [List.append_assoc, rTwo _ _ (by simp; omega), Option.bind_some]
  have e : (UInt16.ofNat x.length).toNat = x.length := by simp only [UInt16.toNat_ofNat']; omega
  simp only [e]
  rw [w64_nat (by omega), take_eq x b (by omega)]
  rfl
end Go.Rv
