/- Plain laws. -/
import Derived.Test.YthabicfefgahkaaDoorText3
set_option linter.unusedSimpArgs false
set_option linter.unusedVariables false
set_option maxRecDepth 100000
namespace Go.Rv
theorem slc_nat {α : Type} {l : List α} {a b : Nat} (h1 : a ≤ b) (h2 : b ≤ l.length) : slc l (a : Int) (b : Int) = some ((l.take b).drop a) := by
  simp only [slc, Int.toNat_natCast]
  rw [if_pos ⟨by omega, by omega, by omega⟩]
theorem right_small (s : List UInt8) (h : s.length ≤ 1000) : text_Right s = some (good s) := by
  rw [tRight_eq, decide_eq_true (by omega), Bool.true_and]
-- ---------- numbers ----------
theorem w64_nat {n : Nat} (h : n ≤ 9223372036854775807) : w64 (n : Int) = n := w64_id (by omega) (by omega)
theorem u8_toNat' {x : Int} : (u8 x).toNat = (x % 256).toNat := by
  have := u8_toNat x; omega
theorem u16_toNat' {x : Int} : (u16 x).toNat = (x % 65536).toNat := by
  simp only [u16, UInt16.toNat_ofNat']
  have h := Int.emod_lt_of_pos x (show (0 : Int) < 65536 by decide)
  omega
theorem u32_toNat' {x : Int} : (u32 x).toNat = (x % 4294967296).toNat := by
  simp only [u32, UInt32.toNat_ofNat']
  have h := Int.emod_lt_of_pos x (show (0 : Int) < 4294967296 by decide)
  omega
theorem u64_toNat' {x : Int} : (u64 x).toNat = (x % 18446744073709551616).toNat := by
  simp only [u64, UInt64.toNat_ofNat']
  have h := Int.emod_lt_of_pos x (show (0 : Int) < 18446744073709551616 by decide)
  omega
theorem shl32_toNat {a : UInt32} {y : Nat} (hy : y ≤ 32) : (shl_u32 a (y : Int)).toNat = a.toNat * 2 ^ y % 4294967296 := by
  simp only [shl_u32, u32_toNat', Int.toNat_natCast, Nat.min_eq_left hy]
  have : ((a.toNat : Int) * 2 ^ y) = ((a.toNat * 2 ^ y : Nat) : Int) := by simp
  rw [this]; omega
theorem shr32_toNat {a : UInt32} {y : Nat} (hy : y ≤ 32) : (shr_u32 a (y : Int)).toNat = a.toNat / 2 ^ y := by
  simp only [shr_u32, u32_toNat', Int.toNat_natCast, Nat.min_eq_left hy]
  have : ((a.toNat : Int) / 2 ^ y) = ((a.toNat / 2 ^ y : Nat) : Int) := by simp
  rw [this]
  have h := a.toNat_lt
  have : a.toNat / 2 ^ y ≤ a.toNat := Nat.div_le_self _ _
  generalize a.toNat / 2 ^ y = q at this ⊢
  omega
theorem shl16_toNat {a : UInt16} {y : Nat} (hy : y ≤ 16) : (shl_u16 a (y : Int)).toNat = a.toNat * 2 ^ y % 65536 := by
  simp only [shl_u16, u16_toNat', Int.toNat_natCast, Nat.min_eq_left hy]
  have : ((a.toNat : Int) * 2 ^ y) = ((a.toNat * 2 ^ y : Nat) : Int) := by simp
  rw [this]; omega
theorem shr16_toNat {a : UInt16} {y : Nat} (hy : y ≤ 16) : (shr_u16 a (y : Int)).toNat = a.toNat / 2 ^ y := by
  simp only [shr_u16, u16_toNat', Int.toNat_natCast, Nat.min_eq_left hy]
  have : ((a.toNat : Int) / 2 ^ y) = ((a.toNat / 2 ^ y : Nat) : Int) := by simp
  rw [this]
  have h := a.toNat_lt
  have : a.toNat / 2 ^ y ≤ a.toNat := Nat.div_le_self _ _
  generalize a.toNat / 2 ^ y = q at this ⊢
  omega
theorem low7 (c : UInt8) : (c &&& ~~~(128 : UInt8)).toNat = c.toNat % 128 := by
  have h : ∀ n : Fin 256, ((UInt8.ofNat n.val) &&& ~~~(128 : UInt8)).toNat = n.val % 128 := by decide +kernel
  have := h ⟨c.toNat, c.toNat_lt⟩
  simpa using this
theorem hi7 (c : UInt8) : (c ||| (128 : UInt8)).toNat = c.toNat % 128 + 128 := by
  have h : ∀ n : Fin 256, ((UInt8.ofNat n.val) ||| (128 : UInt8)).toNat = n.val % 128 + 128 := by decide +kernel
  have := h ⟨c.toNat, c.toNat_lt⟩
  simpa using this
theorem or_add {a b k : Nat} (h : a < 2 ^ k) : a ||| b * 2 ^ k = a + b * 2 ^ k := by
  have := Nat.two_pow_add_eq_or_of_lt h b
  rw [Nat.or_comm, Nat.mul_comm b, ← this]; omega
theorem ge8 {c : UInt8} : (c ≥ (128 : UInt8)) ↔ 128 ≤ c.toNat := by
  show (128 : UInt8) ≤ c ↔ _
  rw [UInt8.le_iff_toNat_le]; rfl
theorem eq8 {c d : UInt8} : c = d ↔ c.toNat = d.toNat := ⟨fun h => by rw [h], fun h => UInt8.toNat_inj.1 h⟩
theorem eq32 {c d : UInt32} : c = d ↔ c.toNat = d.toNat := ⟨fun h => by rw [h], fun h => UInt32.toNat_inj.1 h⟩
theorem eq16 {c d : UInt16} : c = d ↔ c.toNat = d.toNat := ⟨fun h => by rw [h], fun h => UInt16.toNat_inj.1 h⟩
theorem eq64 {c d : UInt64} : c = d ↔ c.toNat = d.toNat := ⟨fun h => by rw [h], fun h => UInt64.toNat_inj.1 h⟩
-- ---------- lists ----------
theorem chk_t {b : Bool} (h : b = true) : chk b = some () := by subst h; rfl
theorem chk_d {p : Prop} [Decidable p] (h : p) : chk (decide p) = some () := by simp [chk, h]
theorem slc_from {α : Type} {l : List α} {a : Nat} (h : a ≤ l.length) : slc l (a : Int) (l.length : Int) = some (l.drop a) := by
  rw [slc_nat h (Nat.le_refl _), List.take_length]
theorem slO_to {α : Type} {o : Option (List α)} {b : Nat} (h : b ≤ (L o).length) : ∃ r, slO o 0 (b : Int) = some r ∧ L r = (L o).take b := by
  cases o with
  | none =>
    simp [L] at h; subst h
    exact ⟨none, rfl, rfl⟩
  | some l =>
    refine ⟨some (l.take b), ?_, rfl⟩
    have := slc_nat (l := l) (Nat.zero_le b) h
    simp only [slO]
    rw [show slc l 0 (b : Int) = some ((l.take b).drop 0) from this]
    rfl
theorem appO_some {α : Type} {n : Nat} {x : List α} {y : Option (List α)} (h1 : (x.length + (L y).length) * n ≤ room) (h2 : x.length + (L y).length ≤ room) : appO n (some x) y = some (some (x ++ L y)) := by
  simp only [appO]
  rw [if_pos ⟨h1, h2⟩]
theorem appO_none1 {α : Type} {n : Nat} {a : α} {l : List α} (h1 : (l.length + 1) * n ≤ room) (h2 : l.length + 1 ≤ room) : appO n none (some (a :: l)) = some (some (a :: l)) := by
  simp only [appO, L, Option.getD_some]
  rw [if_pos ⟨h1, h2⟩]
/-- An append of something. -/
theorem appO_ne {α : Type} {n : Nat} {x : Option (List α)} {a : α} {l : List α} (h1 : ((L x).length + l.length + 1) * n ≤ room) (h2 : (L x).length + l.length + 1 ≤ room) : appO n x (some (a :: l)) = some (some (L x ++ a :: l)) := by
  cases x with
  | none => simp only [L, Option.getD_none, List.length_nil, Nat.zero_add, List.nil_append] at h1 h2 ⊢; exact appO_none1 h1 h2
  | some x => exact appO_some (y := some (a :: l)) (by simpa [L, Nat.add_assoc] using h1) (by simpa [L, Nat.add_assoc] using h2)
end Go.Rv
