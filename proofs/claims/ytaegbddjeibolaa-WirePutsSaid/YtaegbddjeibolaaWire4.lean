/- Plain laws. -/
import Derived.Test.YtaegbddjeibolaaWire3
set_option linter.unusedSimpArgs false
set_option linter.unusedVariables false
set_option maxRecDepth 100000
namespace Go.Rv
theorem wRVar_eq (b : List UInt8) (hb : b.length ≤ 9223372036854775807) : wire_Reader_Var ⟨b, 0⟩ = some (UInt32.ofNat (dec 4 0 0 b).1, ⟨b.drop (dec 4 0 0 b).2.1, ((dec 4 0 0 b).2.2 : Int)⟩) := by
  have hs := (dec_lt 4 0 0 b (by decide)).2
  simp only [wire_Reader_Var, wire_Reader_Err, Option.bind_some]
  rw [if_neg (by simp), digits_eq b hb]
  simp only [decW, Option.bind_some]
  rw [slc_from (by omega)]
  rfl
theorem wRVar_bad (o : wire_Reader) (h : o.err ≠ 0) : wire_Reader_Var o = some (0, o) := by
  simp only [wire_Reader_Var, wire_Reader_Err, Option.bind_some]
  rw [if_pos (by simpa using h)]
theorem dec_e : ∀ (f i n : Nat) (l : List UInt8), (dec f i n l).2.2 ≠ 0 → (dec f i n l).1 = 0 ∧ (dec f i n l).2.1 = 0 := by
  intro f
  induction f with
  | zero => intro i n l _; exact ⟨rfl, rfl⟩
  | succ f ih =>
    intro i n l h
    cases l with
    | nil => exact ⟨rfl, rfl⟩
    | cons c l =>
      simp only [dec] at h ⊢
      by_cases h8 : 128 ≤ c.toNat
      · simp only [if_pos h8] at h ⊢; exact ih _ _ _ h
      · simp only [if_neg h8] at h ⊢
        by_cases h0 : c.toNat = 0 ∧ 0 < i
        · rw [if_pos h0]; exact ⟨rfl, rfl⟩
        · simp [if_neg h0] at h
/-- The reference's Var. -/
theorem rRVar_eq (B : List UInt8) (a : Nat) (hb : B.length ≤ 4611686018427387904) (ha : a ≤ B.length) : r01_Reader_Var ⟨B, a, 0⟩ =
    some (UInt32.ofNat (dec 4 0 0 (B.drop a)).1, ⟨B, ((a + (dec 4 0 0 (B.drop a)).2.1 : Nat) : Int), ((dec 4 0 0 (B.drop a)).2.2 : Int)⟩) := by
  simp only [r01_Reader_Var]
  have h0 := refvar_loop ⟨B, a, 0⟩ a rfl rfl hb 3 0 0 0 1 rfl rfl (by decide) (by decide) (by omega)
  rw [show (((0 : Nat) : Int)) = 0 from rfl] at h0
  rw [if_neg (by simp), h0]
  simp only [Option.bind_some, Nat.add_zero, decR]
  by_cases h : (dec 4 0 0 (B.drop a)).2.2 = 0
  · rw [if_pos h, h]; rfl
  · rw [if_neg h, (dec_e _ _ _ _ h).1, (dec_e _ _ _ _ h).2]; rfl
theorem rRVar_bad (o : r01_Reader) (h : o.Bad ≠ 0) : r01_Reader_Var o = some (0, o) := by
  simp only [r01_Reader_Var]
  rw [if_pos (by simpa using h)]
theorem imin_nat {n k : Nat} : imin (n : Int) (k : Int) = ((min n k : Nat) : Int) := by
  simp only [imin]; split <;> omega
theorem some_eq {α : Type} {o : Option (List α)} : L (some (L o)) = L o := rfl
theorem size_eq (n : UInt32) : wire_VarSize n = some (if 268435455 < n.toNat then 0 else ((vb n.toNat).length : Int)) := by
  simp only [wire_VarSize]
  rw [wVar_eq none n (by simp [L]), Option.bind_some]
  split <;> simp [L]
theorem vars_law (a1 : Option (List UInt8)) (a2 : UInt32) : l01_WireVars a1 a2 = some true := by
  simp only [l01_WireVars]
  rw [show (12 : Int) = ((12 : Nat) : Int) from rfl, imin_nat]
  obtain ⟨r, hr1, hr2⟩ := slO_to (o := a1) (b := min (L a1).length 12) (Nat.min_le_left _ _)
  rw [hr1, Option.bind_some]
  have hlen : (L r).length ≤ 12 := by rw [hr2, List.length_take]; omega
  rw [show wire_Read r = some ⟨L r, 0⟩ from rfl, Option.bind_some, wRVar_eq (L r) (by omega), Option.bind_some]
  rw [show (⟨L r, 0, 0⟩ : r01_Reader) = ⟨L r, ((0 : Nat) : Int), 0⟩ from rfl, rRVar_eq (L r) 0 (by omega) (Nat.zero_le _), Option.bind_some]
  simp only [List.drop_zero, Nat.zero_add]
  have hc : ∀ (w : Int), w = (if 268435455 < a2.toNat then 0 else ((vb a2.toNat).length : Int)) → l01_WireVars_c0 r a2 (UInt32.ofNat (dec 4 0 0 (L r)).1) (UInt32.ofNat (dec 4 0 0 (L r)).1) w ⟨(L r).drop (dec 4 0 0 (L r)).2.1, ((dec 4 0 0 (L r)).2.2 : Int)⟩ ⟨L r, ((dec 4 0 0 (L r)).2.1 : Int), ((dec 4 0 0 (L r)).2.2 : Int)⟩ (fun x26 x27 => some x26) = some true := by
    intro w hw
    simp only [l01_WireVars_c0]
    rw [l01_told_true, Option.bind_some, if_neg (by simp), if_neg (by simp)]
    simp only [wire_Reader_Err, Option.bind_some]
    rw [if_neg (by simp), size_eq, Option.bind_some, if_neg (by simp [hw]), wVar_eq none a2 (by simp [L]), Option.bind_some]
    rw [if_neg (by rw [hw]; split <;> simp [L]), wVar_eq none _ (by simp [L]), Option.bind_some]
    by_cases he : (dec 4 0 0 (L r)).2.2 = 0
    · rw [if_neg (by simp [he])]
      obtain ⟨m, h1, h2, h3, _⟩ := dec_vb 4 0 0 (L r) (dec 4 0 0 (L r)).1 (dec 4 0 0 (L r)).2.1 (by generalize dec 4 0 0 (L r) = d at he ⊢; obtain ⟨d1, d2, d3⟩ := d; simp at he; simp [he])
      have hl := (dec_lt 4 0 0 (L r) (by decide)).1
      have h4 : (128 : Nat) ^ (0 + 4) = 268435456 := by decide
      rw [h4] at hl
      rw [Nat.pow_zero, Nat.mul_one, Nat.zero_add] at h1
      rw [Nat.zero_add] at h2
      have hm : (UInt32.ofNat (dec 4 0 0 (L r)).1).toNat = m := by rw [h1] at hl ⊢; simp only [UInt32.toNat_ofNat']; omega
      have hm2 : ¬ 268435455 < m := by omega
      rw [hm, if_neg hm2, h2]
      have h5 : L (some (L (none : Option (List UInt8)) ++ vb m)) = vb m := by simp [L]
      rw [h5, if_pos (by simp)]
      obtain ⟨q, hq1, hq2⟩ := slO_to (o := r) (b := (vb m).length) (by have := congrArg List.length h3; rw [List.length_take] at this; omega)
      rw [hq1, Option.bind_some, hq2, h3]
      simp
    · rw [if_pos (by simpa using he)]
  by_cases h : a2 ≤ (268435455 : UInt32)
  · have h' : ¬ 268435455 < a2.toNat := by have := UInt32.le_iff_toNat_le.1 h; have e : (268435455 : UInt32).toNat = 268435455 := rfl; omega
    rw [if_pos (by simpa using h), rVar_eq none a2 (by simp [L]), Option.bind_some]
    exact hc _ (by simp [L, h'])
  · have h' : 268435455 < a2.toNat := by have := mt UInt32.le_iff_toNat_le.2 h; have e : (268435455 : UInt32).toNat = 268435455 := rfl; omega
    rw [if_neg (by simpa using h)]
    exact hc _ (by simp [h'])
theorem pure_WireVars (x : tyL Tb [.g (.f (.a .bs)), .g (.f (.a .u32))]) (hx : szArgs tab 4 [.g (.f (.a .bs)), .g (.f (.a .u32))] x) : l01_WireVars x.1 x.2.1 = some true := vars_law _ _
end Go.Rv
