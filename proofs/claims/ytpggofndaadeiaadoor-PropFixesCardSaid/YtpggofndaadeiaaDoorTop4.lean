/- Plain laws. -/
import Derived.Test.YtpggofndaadeiaaDoorTop3
set_option linter.unusedSimpArgs false
set_option linter.unusedVariables false
set_option maxRecDepth 100000
namespace Go.Rv
open Go.Lib
abbrev shP : List UInt8 := [36, 115, 104, 97, 114, 101, 47]
def cutO : List UInt8 → Option (List UInt8 × List UInt8)
  | [] => none
  | b :: t => if b = 47 then some ([], t) else (cutO t).map fun p => (b :: p.1, p.2)
def cutR (t : List UInt8) : Option (List UInt8 × List UInt8) → List UInt8 × List UInt8 × Bool
  | none => (t, [], false)
  | some (a, b) => (a, b, true)
theorem cut_eq : ∀ t : List UInt8, cut t [47] = cutR t (cutO t) := by
  intro t
  induction t with
  | nil => rfl
  | cons b t ih =>
    have hge := index_ge t [47]
    simp only [cut] at ih ⊢
    rw [index_one]
    simp only [cutO]
    by_cases h : b = 47
    · rw [if_pos h]; subst h
      rw [if_pos (by decide)]
      simp [cutR]
    · rw [if_neg h]
      by_cases hm : index t [47] = -1
      · rw [hm] at ih ⊢
        rw [if_neg (by decide)] at ih
        rw [if_pos rfl, if_neg (by decide)]
        cases hc : cutO t with
        | none => simp [h, cutR]
        | some p => rw [hc] at ih; simp [cutR] at ih
      · rw [if_neg hm]
        obtain ⟨j, hj⟩ : ∃ j : Nat, index t [47] = j := ⟨(index t [47]).toNat, by omega⟩
        rw [hj] at ih ⊢
        rw [if_pos (by omega)] at ih
        rw [if_pos (by omega)]
        cases hc : cutO t with
        | none => rw [hc] at ih; simp [cutR] at ih
        | some p =>
          rw [hc] at ih
          simp only [cutR, Prod.mk.injEq, Int.toNat_natCast] at ih
          simp only [h, if_false, Option.map_some, cutR, show ((j : Int) + 1).toNat = j + 1 by omega, List.take_succ_cons, ih.1]
          rw [← ih.2.1]
          simp [Nat.add_right_comm]
theorem tCut_eq (s : List UInt8) (hl : s.length ≤ 70000) : strings_Cut s [47] = some (cutR s (cutO s)) := by
  simp only [strings_Cut]
  rw [if_pos (by omega), cut_eq]
theorem hasP_eq (s p : List UInt8) (hl : s.length ≤ 70000) (hp : p.length ≤ 100) : internal_stringslite_HasPrefix s p = some (decide (s.take p.length = p)) := by
  simp only [internal_stringslite_HasPrefix]
  by_cases h : p.length ≤ s.length
  · rw [if_pos (by simp; omega)]
    have := slc_nat (l := s) (a := 0) (b := p.length) (by omega) h
    rw [show ((0 : Nat) : Int) = 0 from rfl] at this
    rw [this]; rfl
  · rw [if_neg (by simp; omega)]
    congr 1
    symm
    apply decide_eq_false
    intro e
    have := congrArg List.length e
    simp at this
    omega
theorem cutP_eq (s : List UInt8) (hl : s.length ≤ 70000) : strings_CutPrefix s shP = some (if s.take 7 = shP then (s.drop 7, true) else (s, false)) := by
  simp only [strings_CutPrefix, internal_stringslite_CutPrefix, hasP_eq s shP hl (by decide), Option.bind_some, show shP.length = 7 from rfl]
  by_cases h : s.take 7 = shP
  · have h7 : 7 ≤ s.length := by
      have := congrArg List.length h
      simp at this; omega
    simp only [h, decide_true, Bool.not_true, Bool.false_eq_true, if_false, if_true]
    rw [show ((7 : Nat) : Int) = 7 from rfl]
    have := slc_from (l := s) (a := 7) h7
    rw [show ((7 : Nat) : Int) = 7 from rfl] at this
    rw [this]; rfl
  · simp [h]
def shr (s : List UInt8) : Option (Option (List UInt8 × List UInt8)) := if s.take 7 = shP then some (cutO (s.drop 7)) else none
def shrR : Option (Option (List UInt8 × List UInt8)) → List UInt8 × List UInt8 × Bool
  | none => ([], [], false)
  | some none => ([], [], true)
  | some (some (a, b)) => (a, b, true)
theorem share_loop (s : List UInt8) (hl : s.length ≤ 70000) : ∀ (f i : Nat), s.length - i ≤ f → 7 ≤ i → i ≤ s.length →
    (cutO (s.drop i) = none → iter (r04_share_l0 s) (i : Int) = some (.inr ())) ∧ ∀ a b, cutO (s.drop i) = some (a, b) → ∃ v, iter (r04_share_l0 s) (i : Int) = some (.inl ((s.take i).drop 7 ++ a, b, v)) := by
  intro f
  induction f with
  | zero =>
    intro i h1 h7 h2
    rw [iter_eq]
    simp only [r04_share_l0, r04_share_b0]
    rw [if_neg (by simp; omega), show s.drop i = [] from List.drop_eq_nil_of_le (by omega)]
    exact ⟨fun _ => rfl, fun a b h => by cases h⟩
  | succ f ih =>
    intro i h1 h7 h2
    rw [iter_eq]
    simp only [r04_share_l0, r04_share_b0]
    by_cases hlt : i < s.length
    · have e : w64 ((i : Int) + 1) = ((i + 1 : Nat) : Int) := by rw [w64_id (by omega) (by omega)]; simp
      rw [if_pos (by simp; omega), ix_nat, List.getElem?_eq_getElem hlt, Option.bind_some, List.drop_eq_getElem_cons hlt]
      simp only [cutO]
      by_cases hc : s[i] = 47
      · rw [if_pos hc, if_pos (by simpa using hc)]
        refine ⟨fun h => (by cases h), fun a b h => ?_⟩
        cases h
        have hs := slc_nat (l := s) (a := 7) (b := i) h7 h2
        rw [show ((7 : Nat) : Int) = 7 from rfl] at hs
        have hf := slc_from (l := s) (a := i + 1) (by omega)
        rw [hs, Option.bind_some, e, hf, Option.bind_some]
        exact ⟨_, by rw [List.append_nil]⟩
      · rw [if_neg hc, if_neg (by simpa using hc), e]
        obtain ⟨n1, n2⟩ := ih (i + 1) (by omega) (by omega) hlt
        refine ⟨fun h => n1 (by simpa using h), fun a b h => ?_⟩
        cases hq : cutO (s.drop (i + 1)) with
        | none => rw [hq] at h; cases h
        | some p =>
          rw [hq] at h
          cases h
          obtain ⟨v, hv⟩ := n2 p.1 p.2 hq
          refine ⟨v, hv.trans ?_⟩
          rw [take_drop_snoc h7 hlt, List.append_assoc]; rfl
    · rw [if_neg (by simp; omega), show s.drop i = [] from List.drop_eq_nil_of_le (by omega)]
      exact ⟨fun _ => rfl, fun a b h => by cases h⟩
theorem share_eq (s : List UInt8) (hl : s.length ≤ 70000) : r04_share s = some (shrR (shr s)) := by
  simp only [r04_share, shr]
  by_cases h7 : s.length < 7
  · have : s.take 7 ≠ shP := fun e => by
      have := congrArg List.length e
      simp at this; omega
    rw [if_pos (by simp; omega), if_neg this]; rfl
  · have hs := slc_nat (l := s) (a := 0) (b := 7) (by omega) (by omega)
    rw [show ((0 : Nat) : Int) = 0 from rfl, show ((7 : Nat) : Int) = 7 from rfl, List.drop_zero] at hs
    rw [if_neg (by simp; omega), hs, Option.bind_some]
    by_cases h : s.take 7 = shP
    · rw [if_neg (by simp [h]), if_pos h]
      obtain ⟨n1, n2⟩ := share_loop s hl s.length 7 (by omega) (by omega) (by omega)
      rw [show ((7 : Nat) : Int) = 7 from rfl] at n1 n2
      cases hc : cutO (s.drop 7) with
      | none => rw [n1 hc]; rfl
      | some p =>
        obtain ⟨v, hv⟩ := n2 p.1 p.2 hc
        rw [hv]
        simp [shrR]
    · rw [if_pos (by simp [h]), if_neg h]; rfl
theorem cutO_len : ∀ {t a b : List UInt8}, cutO t = some (a, b) → a.length ≤ t.length ∧ b.length ≤ t.length
  | [], a, b, h => by cases h
  | x :: t, a, b, h => by
    simp only [cutO] at h
    split at h
    · cases h; simp
    · cases hq : cutO t with
      | none => rw [hq] at h; cases h
      | some p =>
        rw [hq] at h; cases h
        have := cutO_len (a := p.1) (b := p.2) hq
        simp; omega
theorem shr_len {s a b : List UInt8} (h : shr s = some (some (a, b))) : a.length ≤ s.length ∧ b.length ≤ s.length := by
  simp only [shr] at h
  split at h
  · have := cutO_len (Option.some.inj h)
    simp at this; omega
  · cases h
def shrF (s : List UInt8) : Option (Option (List UInt8 × List UInt8)) → Bool
  | none => plainB s
  | some none => false
  | some (some (a, b)) => !decide (a = []) && !wild a && plainB b
def filterB (s : List UInt8) : Bool := good s && shrF s (shr s)
theorem rFilter_eq (s : List UInt8) (hl : s.length ≤ 1000) : r04_Filter s = some (filterB s) := by
  simp only [r04_Filter, rRight_eq s (by omega), share_eq s (by omega), Option.bind_some, filterB]
  cases good s with
  | false => simp
  | true =>
    simp only [Bool.not_true, Bool.false_eq_true, if_false, Bool.true_and]
    cases hs : shr s with
    | none => simp [shrR, shrF, rplain_eq s hl]
    | some q =>
      cases q with
      | none => simp [shrR, shrF]
      | some p =>
        obtain ⟨a, b⟩ := p
        have hlen := shr_len hs
        simp only [shrR, shrF, if_true, rWild_eq a (by omega), rplain_eq b (by omega), Option.bind_some]
        by_cases ha : a = []
        · simp [ha]
        · have : a.length ≠ 0 := fun e => ha (List.length_eq_zero_iff.1 e)
          rw [if_pos (by simp; omega)]
          simp only [ha, decide_false, Bool.not_false, Bool.true_and]
          cases wild a <;> simp
theorem tFilter_eq (s : List UInt8) (hl : s.length ≤ 1000) : topic_Filter s = some (filterB s) := by
  simp only [topic_Filter, right_small s hl, cutP_eq s (by omega), Option.bind_some, filterB]
  cases good s with
  | false => simp
  | true =>
    simp only [Bool.not_true, Bool.false_eq_true, if_false, Bool.true_and]
    by_cases h : s.take 7 = shP
    · have hs : shr s = some (cutO (s.drop 7)) := if_pos h
      rw [if_pos h, hs]
      simp only [Bool.not_true, Bool.false_eq_true, if_false]
      rw [tCut_eq _ (by simp; omega), Option.bind_some]
      cases hc : cutO (s.drop 7) with
      | none => simp [cutR, shrF]
      | some p =>
        obtain ⟨a, b⟩ := p
        have hlen := cutO_len hc
        simp at hlen
        simp only [cutR, shrF, if_true, tWild_eq a (by omega), tplain_eq b (by omega), Option.bind_some]
        by_cases ha : a = []
        · simp [ha]
        · simp only [ha, decide_false, Bool.not_false, Bool.true_and, if_true]
          cases wild a <;> simp
    · have hs : shr s = none := if_neg h
      rw [if_neg h, hs]
      simp [shrF, tplain_eq s hl]
def sharedR (s : List UInt8) : List UInt8 × List UInt8 × Bool := match shr s with
  | some (some (a, b)) => if filterB s then (a, b, true) else ([], [], false)
  | _ => ([], [], false)
theorem rShared_eq (s : List UInt8) (hl : s.length ≤ 1000) : r04_Shared s = some (sharedR s) := by
  simp only [r04_Shared, share_eq s (by omega), Option.bind_some, rFilter_eq s hl, sharedR]
  cases hs : shr s with
  | none => rfl
  | some q =>
    cases q with
    | none =>
      have : filterB s = false := by simp [filterB, hs, shrF]
      simp [shrR, this]
    | some p =>
      obtain ⟨a, b⟩ := p
      simp only [shrR]
      cases filterB s <;> rfl
theorem tShared_eq (s : List UInt8) (hl : s.length ≤ 1000) : topic_Shared s = some (sharedR s) := by
  simp only [topic_Shared, cutP_eq s (by omega), Option.bind_some, tFilter_eq s hl, sharedR]
  by_cases h : s.take 7 = shP
  · have hs : shr s = some (cutO (s.drop 7)) := if_pos h
    rw [if_pos h]
    simp only [Bool.not_true, Bool.false_eq_true, if_false]
    have hf : filterB s = (good s && shrF s (shr s)) := rfl
    rw [hs] at hf ⊢
    rw [tCut_eq _ (by simp; omega)]
    cases hc : cutO (s.drop 7) with
    | none =>
      rw [hc] at hf
      have : filterB s = false := by rw [hf]; simp [shrF]
      simp [this]
    | some p =>
      obtain ⟨a, b⟩ := p
      cases filterB s <;> rfl
  · have hs : shr s = none := if_neg h
    rw [if_neg h, hs]; rfl
end Go.Rv
