/- Plain laws. -/
import Derived.Test.YtpggofndaadeiaaDoorProp1
set_option linter.unusedSimpArgs false
set_option linter.unusedVariables false
set_option maxRecDepth 100000
namespace Go.Rv
open Go.Lib
theorem type1 : ∀ id, decide (typeT id = 1) = (decide (id = 1) || decide (id = 23) || decide (id = 25) || decide (id = 36) || decide (id = 37) || decide (id = 40) || decide (id = 41) || decide (id = 42)) := by
  refine all8 ?_
  decide +kernel
/-- May its value be? -/
def valB (id : UInt8) (n : UInt32) (a : List UInt8) : Bool :=
  if typeT id = 1 then decide (n < 2)
  else if decide (id = 11) || decide (id = 33) || decide (id = 35) || decide (id = 39) then !decide (n = 0)
  else if id = 8 then nameB a
  else true
def valueB (id : UInt8) (n : UInt32) (a b : List UInt8) : Bool := rightB id n a b && valB id n a
theorem le1 (n : UInt32) : decide (n ≤ (1 : UInt32)) = decide (n < (2 : UInt32)) := by
  rw [Bool.eq_iff_iff]
  simp only [decide_eq_true_eq, UInt32.le_iff_toNat_le, UInt32.lt_iff_toNat_lt]
  show n.toNat ≤ 1 ↔ n.toNat < 2
  omega
theorem pvalue_eq (p : prop_Prop) (ha : p.A.length ≤ 1000) (hb : p.B.length ≤ 1000) : prop_Value p = some (valueB p.Id p.N p.A p.B) := by
  simp only [prop_Value, prop_Value_c0, pright_eq p ha hb, ptype_eq, Option.bind_some, le1, tName_eq p.A ha, valueB, valB]
  cases rightB p.Id p.N p.A p.B with
  | false => simp
  | true =>
    simp only [Bool.not_true, Bool.false_eq_true, if_false, Bool.true_and]
    by_cases h1 : typeT p.Id = 1
    · simp [h1]
    · simp only [h1, decide_false, Bool.false_eq_true, if_false]
      by_cases a11 : p.Id = 11
      · simp [a11]
      · by_cases a33 : p.Id = 33
        · simp [a33]
        · by_cases a35 : p.Id = 35
          · simp [a35]
          · by_cases a39 : p.Id = 39
            · simp [a39]
            · by_cases a8 : p.Id = 8 <;> simp [a11, a33, a35, a39, a8]
theorem rvalue_eq (p : r05_Prop) (ha : p.A.length ≤ 1000) (hb : p.B.length ≤ 1000) : r05_Value p = some (valueB p.Id p.N p.A p.B) := by
  have ht := type1 p.Id
  simp only [r05_Value, r05_Value_c0, r05_Value_c1, rright_eq p ha hb, Option.bind_some, rName_eq p.A ha, valueB, valB]
  cases rightB p.Id p.N p.A p.B with
  | false => simp
  | true =>
    simp only [Bool.not_true, Bool.false_eq_true, if_false, Bool.true_and]
    by_cases h1 : typeT p.Id = 1
    · rw [if_pos h1]
      rw [decide_eq_true h1] at ht
      by_cases b1 : p.Id = 1
      · simp [b1]
      · by_cases b2 : p.Id = 23
        · simp [b2]
        · by_cases b3 : p.Id = 25
          · simp [b3]
          · by_cases b4 : p.Id = 36
            · simp [b4]
            · by_cases b5 : p.Id = 37
              · simp [b5]
              · by_cases b6 : p.Id = 40
                · simp [b6]
                · by_cases b7 : p.Id = 41
                  · simp [b7]
                  · by_cases b8 : p.Id = 42
                    · simp [b8]
                    · simp [b1, b2, b3, b4, b5, b6, b7, b8] at ht
    · rw [if_neg h1]
      rw [decide_eq_false h1] at ht
      have ht := ht.symm
      simp only [Bool.or_eq_false_iff, decide_eq_false_iff_not] at ht
      obtain ⟨⟨⟨⟨⟨⟨⟨b1, b2⟩, b3⟩, b4⟩, b5⟩, b6⟩, b7⟩, b8⟩ := ht
      simp only [b1, b2, b3, b4, b5, b6, b7, b8, decide_false, Bool.false_eq_true, if_false]
      by_cases a11 : p.Id = 11
      · simp [a11]
      · by_cases a33 : p.Id = 33
        · simp [a33]
        · by_cases a35 : p.Id = 35
          · simp [a35]
          · by_cases a39 : p.Id = 39
            · simp [a39]
            · by_cases a8 : p.Id = 8 <;> simp [a11, a33, a35, a39, a8]
theorem l05_told_true : l05_told = some true := by
  unfold l05_told
  rw [ptype_eq, Option.bind_some, if_pos (by decide +kernel), pfor_eq, Option.bind_some, if_pos (by decide +kernel), pfor_eq, Option.bind_some, if_pos (by decide +kernel), pvalue_eq _ (by decide) (by decide), Option.bind_some, if_pos (by decide +kernel),
    pvalue_eq _ (by decide) (by decide), Option.bind_some, if_pos (by decide +kernel), poften_eq, Option.bind_some, if_pos (by decide +kernel), poften_eq]
  decide +kernel
theorem types_law (id : UInt8) (k : Int) : l05_PropTypes id k = some true := by
  simp only [l05_PropTypes, l05_told_true, ptype_eq, rtype_eq, pfor_eq, rfor_eq, poften_eq, roften_eq, Option.bind_some]
  simp
theorem values_law (p : r05_Prop) : l05_PropValues p = some true := by
  simp only [l05_PropValues, l05_PropValues_c0, l05_told_true, Option.bind_some]
  by_cases ha : p.A.length > 300
  · rw [if_pos (by simp; omega)]; rfl
  · rw [if_neg (by simp; omega)]
    by_cases hb : p.B.length > 300
    · rw [if_pos (by simp; omega)]
    · rw [if_neg (by simp; omega)]
      simp only [l05_PropValues_c1, l05_told_true, l05_To, Option.bind_some]
      rw [pright_eq _ (by show p.A.length ≤ 1000; omega) (by show p.B.length ≤ 1000; omega), rright_eq _ (by show p.A.length ≤ 1000; omega) (by show p.B.length ≤ 1000; omega), pvalue_eq _ (by show p.A.length ≤ 1000; omega) (by show p.B.length ≤ 1000; omega), rvalue_eq p (by omega) (by omega)]
      simp
theorem pure_PropTypes (x : tyL Tb [.g (.f (.a .u8)), .g (.f (.a (.n .i64)))]) (hx : szArgs tab 4 [.g (.f (.a .u8)), .g (.f (.a (.n .i64)))] x) : l05_PropTypes x.1 x.2.1 = some true := types_law _ _
theorem pure_PropValues (x : tyL Tb [.g (.st 3)]) (hx : szArgs tab 4 [.g (.st 3)] x) : l05_PropValues (⟨x.1.Id, x.1.N, x.1.A, x.1.B⟩ : r05_Prop) = some true := values_law _
end Go.Rv
