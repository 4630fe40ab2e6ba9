/- Plain laws. -/
import Derived.Test.YtpggofndaadeiaaDoorTop5
set_option linter.unusedSimpArgs false
set_option linter.unusedVariables false
set_option maxRecDepth 100000
namespace Go.Rv
open Go.Lib
theorem all8 {p : UInt8 → Prop} (h : ∀ n : Fin 256, p (UInt8.ofNat n.val)) : ∀ x, p x := by
  intro x
  have := h ⟨x.toNat, x.toNat_lt⟩
  simpa using this
theorem all_iter : iter prop_rowOf_l0 ((some []), 1) = some (some [1, 2, 3, 4, 5, 6, 7, 8, 9, 10, 11, 14, 15, 16]) := by
  rw [iter_run 17 (by kernel_rfl)]
  kernel_rfl
def typeT (id : UInt8) : Int := (r05_Type id).getD 0
def kindsT (id : UInt8) : Option (List Int) := (r05_kinds id).getD none
theorem rtype_eq : ∀ id, r05_Type id = some (typeT id) := by
  refine all8 ?_
  have : ∀ n : Fin 256, (r05_Type (UInt8.ofNat n.val)).isSome = true := by decide +kernel
  intro n
  obtain ⟨v, hv⟩ := Option.isSome_iff_exists.1 (this n)
  rw [typeT, hv]; rfl
theorem rkinds_eq : ∀ id, r05_kinds id = some (kindsT id) := by
  refine all8 ?_
  have : ∀ n : Fin 256, (r05_kinds (UInt8.ofNat n.val)).isSome = true := by decide +kernel
  intro n
  obtain ⟨v, hv⟩ := Option.isSome_iff_exists.1 (this n)
  rw [kindsT, hv]; rfl
theorem row_eq : ∀ id, prop_rowOf id = some ⟨typeT id, kindsT id⟩ := by
  intro id
  simp only [prop_rowOf, all_iter, Option.bind_some]
  revert id
  refine all8 ?_
  decide +kernel
theorem ptype_eq (id : UInt8) : prop_Type id = some (typeT id) := by simp only [prop_Type, row_eq, Option.bind_some]
theorem kinds_len : ∀ id, (L (kindsT id)).length ≤ 20 := by
  refine all8 ?_
  decide +kernel
theorem index_loop (o : Option (List Int)) (k : Int) (hl : (L o).length ≤ 70000) : ∀ (f i : Nat), (L o).length - i ≤ f → i ≤ (L o).length →
    (((L o).drop i).contains k = true → ∃ j : Nat, iter (slices_Index_s_int_int_l0 o k ((L o).length : Int)) (i : Int) = some (.inl (j : Int))) ∧ (((L o).drop i).contains k = false → iter (slices_Index_s_int_int_l0 o k ((L o).length : Int)) (i : Int) = some (.inr ())) := by
  intro f
  induction f with
  | zero =>
    intro i h1 h2
    rw [iter_eq]
    simp only [slices_Index_s_int_int_l0, slices_Index_s_int_int_b0]
    rw [if_neg (by simp; omega), show (L o).drop i = [] from List.drop_eq_nil_of_le (by omega)]
    exact ⟨fun h => (by cases h), fun _ => rfl⟩
  | succ f ih =>
    intro i h1 h2
    rw [iter_eq]
    simp only [slices_Index_s_int_int_l0, slices_Index_s_int_int_b0]
    by_cases hlt : i < (L o).length
    · have e : w64 ((i : Int) + 1) = ((i + 1 : Nat) : Int) := by rw [w64_id (by omega) (by omega)]; simp
      rw [if_pos (by simp; omega), ix_nat, List.getElem?_eq_getElem hlt, Option.bind_some, List.drop_eq_getElem_cons hlt, List.contains_cons]
      by_cases hc : k = (L o)[i]
      · rw [if_pos (by simpa using hc)]
        refine ⟨fun _ => ⟨i, rfl⟩, fun h => ?_⟩
        rw [show (k == (L o)[i]) = true by simpa using hc] at h
        cases h
      · rw [if_neg (by simpa using hc), show (k == (L o)[i]) = false by simpa using hc, Bool.false_or, e]
        exact ih (i + 1) (by omega) hlt
    · rw [if_neg (by simp; omega), show (L o).drop i = [] from List.drop_eq_nil_of_le (by omega)]
      exact ⟨fun h => (by cases h), fun _ => rfl⟩
theorem contains_int (o : Option (List Int)) (k : Int) (hl : (L o).length ≤ 70000) : slices_Contains_s_int_int o k = some ((L o).contains k) := by
  simp only [slices_Contains_s_int_int, slices_Index_s_int_int]
  have := index_loop o k hl (L o).length 0 (by omega) (by omega)
  rw [show ((0 : Nat) : Int) = 0 from rfl, List.drop_zero] at this
  cases hc : (L o).contains k with
  | true =>
    obtain ⟨j, hj⟩ := this.1 hc
    rw [hj]
    show some (decide ((j : Int) ≥ 0)) = some true
    rw [decide_eq_true (by omega)]
  | false => rw [this.2 hc]; rfl
def forB (id : UInt8) (k : Int) : Bool := (L (kindsT id)).contains k
theorem pfor_eq (id : UInt8) (k : Int) : prop_For id k = some (forB id k) := by
  have := kinds_len id
  simp only [prop_For, row_eq, Option.bind_some, contains_int _ k (show (L (kindsT id)).length ≤ 70000 by omega), forB]
theorem for_loop (o : Option (List Int)) (k : Int) (hl : (L o).length ≤ 70000) : ∀ (f i : Nat), (L o).length - i ≤ f → i ≤ (L o).length →
    iter (r05_For_l0 k o) (i : Int) = some (if ((L o).drop i).contains k then .inl () else .inr ()) := by
  intro f
  induction f with
  | zero =>
    intro i h1 h2
    rw [iter_eq]
    simp only [r05_For_l0, r05_For_b0]
    rw [if_neg (by simp; omega), show (L o).drop i = [] from List.drop_eq_nil_of_le (by omega)]
    rfl
  | succ f ih =>
    intro i h1 h2
    rw [iter_eq]
    simp only [r05_For_l0, r05_For_b0]
    by_cases hlt : i < (L o).length
    · have e : w64 ((i : Int) + 1) = ((i + 1 : Nat) : Int) := by rw [w64_id (by omega) (by omega)]; simp
      rw [if_pos (by simp; omega), ix_nat, List.getElem?_eq_getElem hlt, Option.bind_some, List.drop_eq_getElem_cons hlt, List.contains_cons]
      by_cases hc : (L o)[i] = k
      · rw [if_pos (by simpa using hc), show (k == (L o)[i]) = true by simpa using hc.symm]
        rfl
      · rw [if_neg (by simpa using hc), show (k == (L o)[i]) = false by simpa using fun e => hc e.symm, Bool.false_or, e]
        exact ih (i + 1) (by omega) hlt
    · rw [if_neg (by simp; omega), show (L o).drop i = [] from List.drop_eq_nil_of_le (by omega)]
      rfl
theorem rfor_eq (id : UInt8) (k : Int) : r05_For id k = some (forB id k) := by
  have h := kinds_len id
  simp only [r05_For, rkinds_eq, Option.bind_some, forB]
  have := for_loop (kindsT id) k (by omega) (L (kindsT id)).length 0 (by omega) (by omega)
  rw [show ((0 : Nat) : Int) = 0 from rfl, List.drop_zero] at this
  rw [this]
  cases (L (kindsT id)).contains k <;> rfl
def oftenB (id : UInt8) (k : Int) : Bool := forB id k && (decide (id = 38) || (decide (id = 11) && decide (k = 3)))
theorem poften_eq (id : UInt8) (k : Int) : prop_Often id k = some (oftenB id k) := by
  simp only [prop_Often, pfor_eq, Option.bind_some, oftenB]
  cases forB id k <;> cases decide (id = 38) <;> cases decide (id = 11) <;> simp
theorem roften_eq (id : UInt8) (k : Int) : r05_Often id k = some (oftenB id k) := by
  simp only [r05_Often, rfor_eq, Option.bind_some, oftenB]
  cases forB id k <;> cases decide (id = 38) <;> cases decide (id = 11) <;> simp
/-- Is it one of its type? -/
def rightB (id : UInt8) (n : UInt32) (a b : List UInt8) : Bool :=
  if typeT id = 1 then decide (n < 256) && (decide (a = []) && decide (b = []))
  else if typeT id = 2 then decide (n < 65536) && (decide (a = []) && decide (b = []))
  else if typeT id = 3 then decide (a = []) && decide (b = [])
  else if typeT id = 4 then decide (n < 268435456) && (decide (a = []) && decide (b = []))
  else if typeT id = 5 then decide (n = 0) && good a && decide (b = [])
  else if typeT id = 6 then decide (n = 0) && decide (b = [])
  else if typeT id = 7 then decide (n = 0) && good a && good b
  else false
theorem le32 (n : UInt32) : decide (n ≤ (268435455 : UInt32)) = decide (n < (268435456 : UInt32)) := by
  rw [Bool.eq_iff_iff]
  simp only [decide_eq_true_eq, UInt32.le_iff_toNat_le, UInt32.lt_iff_toNat_lt]
  show n.toNat ≤ 268435455 ↔ n.toNat < 268435456
  omega
theorem pright_eq (p : prop_Prop) (ha : p.A.length ≤ 1000) (hb : p.B.length ≤ 1000) : prop_Right p = some (rightB p.Id p.N p.A p.B) := by
  have hla : decide ((p.A.length : Int) ≤ 65535) = true := decide_eq_true (by omega)
  simp only [prop_Right, prop_Right_c0, ptype_eq, Option.bind_some, right_small _ ha, right_small _ hb, rightB, le32, hla]
  generalize typeT p.Id = t
  by_cases h1 : t = 1 <;> by_cases h2 : t = 2 <;> by_cases h3 : t = 3 <;> by_cases h4 : t = 4 <;> by_cases h5 : t = 5 <;> by_cases h6 : t = 6 <;> by_cases h7 : t = 7 <;> (try (exfalso; omega)) <;>
    simp only [h1, h2, h3, h4, h5, h6, h7, decide_true, decide_false, if_true, if_false, Bool.false_eq_true] <;>
    cases decide (p.A = []) <;> cases decide (p.B = []) <;> cases decide (p.N = 0) <;> cases decide (p.N < 256) <;> cases decide (p.N < 65536) <;> cases decide (p.N < 268435456) <;> cases good p.A <;> cases good p.B <;> simp
theorem rright_eq (p : r05_Prop) (ha : p.A.length ≤ 1000) (hb : p.B.length ≤ 1000) : r05_Right p = some (rightB p.Id p.N p.A p.B) := by
  have hla : decide ((p.A.length : Int) ≤ 65535) = true := decide_eq_true (by omega)
  simp only [r05_Right, r05_Right_c0, rtype_eq, Option.bind_some, rRight_eq _ (show p.A.length ≤ 65535 by omega), rRight_eq _ (show p.B.length ≤ 65535 by omega), rightB, hla]
  generalize typeT p.Id = t
  by_cases h1 : t = 1 <;> by_cases h2 : t = 2 <;> by_cases h3 : t = 3 <;> by_cases h4 : t = 4 <;> by_cases h5 : t = 5 <;> by_cases h6 : t = 6 <;> by_cases h7 : t = 7 <;> (try (exfalso; omega)) <;>
    simp only [h1, h2, h3, h4, h5, h6, h7, decide_true, decide_false, if_true, if_false, Bool.false_eq_true] <;>
    cases decide (p.A = []) <;> cases decide (p.B = []) <;> cases decide (p.N = 0) <;> cases decide (p.N < 256) <;> cases decide (p.N < 65536) <;> cases decide (p.N < 268435456) <;> cases good p.A <;> cases good p.B <;> simp
end Go.Rv
