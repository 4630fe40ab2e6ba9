/- Plain laws. -/
import Derived.Test.YtaegbddjeibolaaWire2
set_option linter.unusedSimpArgs false
set_option linter.unusedVariables false
set_option maxRecDepth 100000
namespace Go.Rv
/-- A Var's bytes. -/
def vb (n : Nat) : List UInt8 := if h : n < 128 then [UInt8.ofNat n] else UInt8.ofNat (n % 128 + 128) :: vb (n / 128)
theorem vb_lt {n : Nat} (h : n < 128) : vb n = [UInt8.ofNat n] := by rw [vb, dif_pos h]
theorem vb_ge {n : Nat} (h : ¬ n < 128) : vb n = UInt8.ofNat (n % 128 + 128) :: vb (n / 128) := by rw [vb, dif_neg h]
theorem vb_len : ∀ (k n : Nat), n < 128 ^ k → (vb n).length ≤ k + 1
  | 0, n, h => by rw [vb_lt (by omega)]; simp
  | k + 1, n, h => by
    by_cases hn : n < 128
    · rw [vb_lt hn]; simp
    · rw [vb_ge hn]
      have := vb_len k (n / 128) (by rw [Nat.pow_succ] at h; exact Nat.div_lt_of_lt_mul (by omega))
      simp; omega
theorem vb_pos (n : Nat) : 0 < (vb n).length := by
  by_cases hn : n < 128
  · rw [vb_lt hn]; simp
  · rw [vb_ge hn]; simp
theorem u32_lt5 (x : UInt32) : x.toNat < 128 ^ 5 := by
  have := x.toNat_lt
  have e : (128 : Nat) ^ 5 = 34359738368 := by decide
  omega
theorem wVar_loop : ∀ (m : Nat) (x : UInt32) (out : Option (List UInt8)), x.toNat < m → (L out).length + (vb x.toNat).length ≤ 140737488355328 →
    ((iter wire_Var_l0 (x, out)).bind fun (x9, x10) => (appO 1 x10 (some [u8 (x9.toNat : Int)])).bind fun x11 => some x11) = some (some (L out ++ vb x.toNat))
  | 0, x, out, h, _ => by omega
  | m + 1, x, out, h, hr => by
    have hx := x.toNat_lt
    rw [iter_eq]
    simp only [wire_Var_l0, wire_Var_b0]
    by_cases h1 : 128 ≤ x.toNat
    · have hge : (x ≥ (128 : UInt32)) := by show (128 : UInt32) ≤ x; rw [UInt32.le_iff_toNat_le]; exact h1
      rw [vb_ge (by omega)] at hr ⊢
      rw [if_pos (by simpa using hge), appO_ne (by simp [room] at hr ⊢; omega) (by simp [room] at hr ⊢; omega), Option.bind_some]
      simp only [Option.bind]
      have e7 : (((7 : UInt64).toNat : Int)) = ((7 : Nat) : Int) := rfl
      have hs : (shr_u32 x ((7 : UInt64).toNat : Int)).toNat = x.toNat / 128 := by rw [e7, shr32_toNat (by omega)]
      have ih := wVar_loop m (shr_u32 x ((7 : UInt64).toNat : Int)) (some (L out ++ [u8 (x.toNat : Int) ||| 128])) (by rw [hs]; omega) (by rw [hs]; simp [L] at hr ⊢; omega)
      simp only [Option.bind] at ih
      rw [ih, hs]
      have e8 : (u8 (x.toNat : Int) ||| 128) = UInt8.ofNat (x.toNat % 128 + 128) := by
        rw [eq8, hi7, u8_toNat']
        simp only [UInt8.toNat_ofNat']
        omega
      rw [e8]
      simp [L]
    · have hge : ¬ (x ≥ (128 : UInt32)) := by intro hh; have := UInt32.le_iff_toNat_le.1 hh; exact h1 this
      rw [vb_lt (by omega)] at hr ⊢
      rw [if_neg (by simpa using hge)]
      simp only [Option.bind]
      rw [appO_ne (by simp [room] at hr ⊢; omega) (by simp [room] at hr ⊢; omega)]
      have e8 : u8 (x.toNat : Int) = UInt8.ofNat x.toNat := by rw [eq8, u8_toNat']; simp only [UInt8.toNat_ofNat']; omega
      simp [e8]
theorem rVar_loop : ∀ (m : Nat) (x : UInt32) (out : Option (List UInt8)), x.toNat < m → (L out).length + (vb x.toNat).length ≤ 140737488355328 →
    ((iter r01_Var_l0 (x, out)).bind fun (x9, x10) => (appO 1 x10 (some [u8 (x9.toNat : Int)])).bind fun x11 => some x11) = some (some (L out ++ vb x.toNat))
  | 0, x, out, h, _ => by omega
  | m + 1, x, out, h, hr => by
    have hx := x.toNat_lt
    have h128 : (128 : UInt32).toNat = 128 := rfl
    rw [iter_eq]
    simp only [r01_Var_l0, r01_Var_b0]
    by_cases h1 : 128 ≤ x.toNat
    · have hge : (x ≥ (128 : UInt32)) := by show (128 : UInt32) ≤ x; rw [UInt32.le_iff_toNat_le]; exact h1
      rw [vb_ge (by omega)] at hr ⊢
      rw [if_pos (by simpa using hge), chk_d (p := (128 : UInt32) ≠ 0) (by decide), Option.bind_some, appO_ne (by simp [room] at hr ⊢; omega) (by simp [room] at hr ⊢; omega), Option.bind_some, Option.bind_some]
      simp only [Option.bind]
      have hs : (x / (128 : UInt32)).toNat = x.toNat / 128 := by rw [UInt32.toNat_div, h128]
      have ih := rVar_loop m (x / (128 : UInt32)) (some (L out ++ [u8 (((x % (128 : UInt32)) + (128 : UInt32)).toNat : Int)])) (by rw [hs]; omega) (by rw [hs]; simp [L] at hr ⊢; omega)
      simp only [Option.bind] at ih
      rw [ih, hs]
      have e8 : u8 (((x % (128 : UInt32)) + (128 : UInt32)).toNat : Int) = UInt8.ofNat (x.toNat % 128 + 128) := by
        rw [eq8, u8_toNat', UInt32.toNat_add, UInt32.toNat_mod, h128]
        simp only [UInt8.toNat_ofNat']
        omega
      rw [e8]
      simp [L]
    · have hge : ¬ (x ≥ (128 : UInt32)) := by intro hh; have := UInt32.le_iff_toNat_le.1 hh; exact h1 this
      rw [vb_lt (by omega)] at hr ⊢
      rw [if_neg (by simpa using hge)]
      simp only [Option.bind]
      rw [appO_ne (by simp [room] at hr ⊢; omega) (by simp [room] at hr ⊢; omega)]
      have e8 : u8 (x.toNat : Int) = UInt8.ofNat x.toNat := by rw [eq8, u8_toNat']; simp only [UInt8.toNat_ofNat']; omega
      simp [e8]
theorem le_max {n : UInt32} : n > (268435455 : UInt32) ↔ 268435455 < n.toNat := UInt32.lt_iff_toNat_lt
theorem clone_eq (b : Option (List UInt8)) (h : (L b).length ≤ 140737488355328) : slices_Clone_s_byte_byte b = some b := by
  cases b with
  | none => rfl
  | some l =>
    simp only [slices_Clone_s_byte_byte]
    rw [if_neg (by simp), appO_some (by simpa [room, L] using h) (by simpa [room, L] using h)]
    rfl
theorem wVar_eq (b : Option (List UInt8)) (n : UInt32) (h : (L b).length ≤ 140737488355000) : wire_Var b n = some (if 268435455 < n.toNat then b else some (L b ++ vb n.toNat)) := by
  simp only [wire_Var]
  rw [clone_eq b (by omega), Option.bind_some]
  have hl := vb_len 5 n.toNat (u32_lt5 n)
  by_cases hn : 268435455 < n.toNat
  · rw [if_pos (by simpa [le_max] using hn), if_pos hn]
  · rw [if_neg (by simpa [le_max] using hn), if_neg hn]
    exact wVar_loop _ n b (Nat.lt_succ_self _) (by omega)
theorem rVar_eq (b : Option (List UInt8)) (n : UInt32) (h : (L b).length ≤ 140737488355000) : r01_Var b n = some (some (L b ++ if 268435455 < n.toNat then [] else vb n.toNat)) := by
  simp only [r01_Var]
  rw [appO_some (by simp [room]; omega) (by simp [room]; omega), Option.bind_some]
  have hl := vb_len 5 n.toNat (u32_lt5 n)
  by_cases hn : 268435455 < n.toNat
  · rw [if_pos (by simpa [le_max] using hn), if_pos hn]; simp
  · rw [if_neg (by simpa [le_max] using hn), if_neg hn]
    have := rVar_loop _ n (some ([] ++ L b)) (Nat.lt_succ_self _) (by simp [L] at h ⊢; omega)
    rw [this]; simp [L]
/-- What is decoded is laid by just its bytes. -/
theorem dec_vb : ∀ (f i n : Nat) (l : List UInt8) (v s : Nat), dec f i n l = (v, s, 0) → ∃ m, v = n + m * 128 ^ i ∧ s = i + (vb m).length ∧ l.take (vb m).length = vb m ∧ (0 < i → 0 < m)
  | 0, i, n, l, v, s, h => by simp [dec] at h
  | f + 1, i, n, [], v, s, h => by simp [dec] at h
  | f + 1, i, n, c :: l, v, s, h => by
    have hc := c.toNat_lt
    simp only [dec] at h
    split at h
    · rename_i h8
      obtain ⟨m, h1, h2, h3, h4⟩ := dec_vb f (i + 1) _ l v s h
      have hm := h4 (by omega)
      have e1 : (c.toNat % 128 + 128 * m) % 128 = c.toNat % 128 := by omega
      have e2 : (c.toNat % 128 + 128 * m) / 128 = m := by omega
      have e3 : UInt8.ofNat ((c.toNat % 128 + 128 * m) % 128 + 128) = c := by
        rw [eq8, e1]; simp only [UInt8.toNat_ofNat']; omega
      have ev : vb (c.toNat % 128 + 128 * m) = c :: vb m := by rw [vb_ge (by omega), e2, e3]
      refine ⟨c.toNat % 128 + 128 * m, ?_, ?_, ?_, fun _ => by omega⟩
      · rw [h1, Nat.pow_succ, Nat.add_mul]
        have : m * (128 ^ i * 128) = 128 * m * 128 ^ i := by rw [Nat.mul_comm (128 ^ i) 128, ← Nat.mul_assoc, Nat.mul_comm m 128]
        omega
      · rw [ev, h2]; simp; omega
      · rw [ev]; simp [h3]
    · split at h
      · simp at h
      · rename_i h8 h0
        simp only [Prod.mk.injEq] at h
        obtain ⟨h1, h2, _⟩ := h
        have e1 : c.toNat % 128 = c.toNat := Nat.mod_eq_of_lt (by omega)
        rw [e1] at h1
        have e3 : UInt8.ofNat c.toNat = c := by simp
        refine ⟨c.toNat, h1.symm, ?_, ?_, fun hi => by omega⟩
        · rw [vb_lt (by omega)]; simp; omega
        · rw [vb_lt (by omega), e3]; simp
end Go.Rv
