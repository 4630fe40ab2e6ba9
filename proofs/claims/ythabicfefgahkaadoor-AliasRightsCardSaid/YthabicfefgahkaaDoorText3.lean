/- Plain laws. -/
import Derived.Test.YthabicfefgahkaaDoorText2
import Derived.Lib.RuneCount
set_option linter.unusedSimpArgs false
set_option linter.unusedVariables false
set_option maxRecDepth 100000
namespace Go.Rv
open Go.Lib
theorem index_in : ∀ (l : List UInt8) (c : UInt8), -1 ≤ indexByte l c ∧ (0 ≤ indexByte l c ↔ c ∈ l)
  | [], c => by simp [indexByte]
  | b :: l, c => by
    obtain ⟨h1, h2⟩ := index_in l c
    simp only [indexByte]
    by_cases hb : b = c
    · subst hb; simp
    · have e1 : (b == c) = false := by simpa using hb
      have e2 : c ∈ b :: l ↔ c ∈ l := by
        rw [List.mem_cons]
        exact ⟨fun h => h.resolve_left (fun e => hb e.symm), Or.inr⟩
      rw [e1, e2, ← h2]
      simp only [Bool.false_eq_true, if_false]
      by_cases hi : indexByte l c = -1
      · rw [hi]; simp
      · have e3 : (indexByte l c == -1) = false := by simpa using hi
        rw [e3]
        simp only [Bool.false_eq_true, if_false]
        omega
/-- May it be a text? -/
def good (l : List UInt8) : Bool := validD l && !decide ((0 : UInt8) ∈ l)
theorem tRight_eq (s : List UInt8) : text_Right s = some (decide (s.length ≤ 65535) && good s) := by
  simp only [text_Right, good]
  by_cases h : s.length ≤ 65535
  · rw [if_pos (by simpa using by omega)]
    simp only [utf8_ValidString]
    rw [if_pos (by omega), Option.bind_some]
    cases hv : validD s with
    | false => simp
    | true =>
      rw [if_pos rfl]
      simp only [strings_Contains, Option.bind_some]
      have := (index_in s 0).2
      by_cases h0 : (0 : UInt8) ∈ s
      · simp [h0, this.2 h0, h]
      · simp [h0, mt this.1 h0, h]
  · rw [if_neg (by simpa using by omega)]
    simp [h]
theorem cont_high : ∀ (k n : Nat) (l : List UInt8) (m : Nat), contN k n l = some m → ∀ b ∈ l.take k, b.toNat / 64 = 2
  | 0, n, l, m, h => by simp
  | k + 1, n, [], m, h => by simp [contN] at h
  | k + 1, n, c :: l, m, h => by
    simp only [contN] at h
    split at h
    · rename_i hc
      intro b hb
      rw [List.take_succ_cons, List.mem_cons] at hb
      rcases hb with rfl | hb
      · exact hc
      · exact cont_high k _ l m h b hb
    · cases h
theorem rest_pos {z least : Nat} {o : Option Nat} (h : 0 < restN z least o) : ∃ m, o = some m ∧ restN z least o = z ∧ least ≤ m := by
  cases o with
  | none => simp [restN] at h
  | some m =>
    simp only [restN] at h ⊢
    split at h
    · omega
    · exact ⟨m, rfl, by rw [if_neg (by assumption)], by omega⟩
theorem sgn_take (l : List UInt8) (h : 0 < sgn l) : ∀ b ∈ l.take (sgn l), b ≠ 0 := by
  cases l with
  | nil => simp [sgn] at h
  | cons c t =>
    have key : ∀ k n least z, z = k + 1 → 0 < restN z least (contN k n t) → c.toNat ≠ 0 → ∀ b ∈ (c :: t).take (restN z least (contN k n t)), b ≠ 0 := by
      intro k n least z hz hp hc b hb
      obtain ⟨m, h1, h2, _⟩ := rest_pos hp
      rw [h2, hz, List.take_succ_cons, List.mem_cons] at hb
      rcases hb with rfl | hb
      · intro e; rw [e] at hc; exact hc rfl
      · have := cont_high k n t m h1 b hb
        intro e; rw [e] at this; simp at this
    simp only [sgn] at h ⊢
    by_cases h1 : 240 ≤ c.toNat
    · rw [if_pos h1] at h ⊢
      by_cases q : 248 ≤ c.toNat ∨ t.length < 3
      · rw [if_pos q] at h; omega
      · rw [if_neg q] at h ⊢
        exact key 3 _ _ 4 rfl h (by omega)
    · rw [if_neg h1] at h ⊢
      by_cases h2 : 224 ≤ c.toNat
      · rw [if_pos h2] at h ⊢
        by_cases q : t.length < 2
        · rw [if_pos q] at h; omega
        · rw [if_neg q] at h ⊢
          exact key 2 _ _ 3 rfl h (by omega)
      · rw [if_neg h2] at h ⊢
        by_cases h3 : 192 ≤ c.toNat
        · rw [if_pos h3] at h ⊢
          by_cases q : t.length < 1
          · rw [if_pos q] at h; omega
          · rw [if_neg q] at h ⊢
            exact key 1 _ _ 2 rfl h (by omega)
        · rw [if_neg h3] at h ⊢
          by_cases h4 : 128 ≤ c.toNat
          · rw [if_pos h4] at h; omega
          · rw [if_neg h4] at h ⊢
            obtain ⟨m, e1, e2, e3⟩ := rest_pos h
            have := key 0 c.toNat 1 1 rfl h (by cases e1; omega)
            exact this
theorem rest_le (z least : Nat) (o : Option Nat) : restN z least o ≤ z := by
  cases o with
  | none => simp [restN]
  | some m => simp only [restN]; split <;> omega
theorem sgn_le (l : List UInt8) : sgn l ≤ l.length := by
  cases l with
  | nil => simp [sgn]
  | cons c t =>
    have a4 := rest_le 4 65536 (contN 3 (c.toNat - 240) t)
    have a3 := rest_le 3 2048 (contN 2 (c.toNat - 224) t)
    have a2 := rest_le 2 128 (contN 1 (c.toNat - 192) t)
    have a1 := rest_le 1 1 (some c.toNat)
    simp only [sgn, List.length_cons]
    repeat' split
    all_goals omega
theorem sgn_good (c : UInt8) (t : List UInt8) : good (c :: t) = if sgn (c :: t) = 0 then false else good ((c :: t).drop (sgn (c :: t))) := by
  have hs := sgn_dec c t
  have hv := validD_step (c :: t) (by simp)
  by_cases h0 : sgn (c :: t) = 0
  · rw [if_pos h0]
    rw [h0] at hs
    by_cases hd : decodeL (c :: t) = (65533, 1)
    · simp [good, hv, hd]
    · by_cases hc : c.toNat = 0
      · have : c = 0 := by rw [← UInt8.toNat_inj]; exact hc
        simp [good, this]
      · rw [if_neg (by simp [hd, hc])] at hs
        have := decodeL_width (c :: t)
        omega
  · rw [if_neg h0]
    have ht := sgn_take (c :: t) (by omega)
    by_cases hd : decodeL (c :: t) = (65533, 1) ∨ c.toNat = 0
    · rw [if_pos hd] at hs; exact absurd hs h0
    · rw [if_neg hd] at hs
      have h1 : ¬ ((decodeL (c :: t)).1 = 65533 ∧ (decodeL (c :: t)).2 = 1) := fun e => hd (Or.inl (Prod.ext e.1 e.2))
      rw [if_neg h1, ← hs] at hv
      simp only [good, hv]
      congr 2
      have : (0 : UInt8) ∈ (c :: t) ↔ (0 : UInt8) ∈ (c :: t).drop (sgn (c :: t)) := by
        constructor
        · intro h
          rw [← List.take_append_drop (sgn (c :: t)) (c :: t), List.mem_append] at h
          rcases h with h | h
          · exact absurd rfl (ht 0 h)
          · exact h
        · exact List.mem_of_mem_drop
      exact decide_eq_decide.2 this
theorem runes_loop (s : List UInt8) (hl : s.length ≤ 65535) : ∀ (f p n : Nat), s.length - p ≤ f → p ≤ s.length → n ≤ p → iter (r02_Runes_l0 s) ((n : Int), (p : Int)) = some (if good (s.drop p) then .inr ((n + runeCountFrom ⟨s.toArray⟩ f p : Nat) : Int) else .inl ()) := by
  intro f
  induction f with
  | zero =>
    intro p n hf hp hn
    rw [iter_eq]
    simp only [r02_Runes_l0, r02_Runes_b0]
    rw [if_neg (by simp; omega), List.drop_of_length_le (by omega)]
    rfl
  | succ f ih =>
    intro p n hf hp hn
    rw [iter_eq]
    simp only [r02_Runes_l0, r02_Runes_b0]
    by_cases hlt : p < s.length
    · rw [if_pos (by simp; omega)]
      obtain ⟨v, hv⟩ := sign_eq s p (by omega) hlt
      rw [hv, Option.bind_some]
      have hg := sgn_good s[p] (s.drop (p + 1))
      have hs := sgn_dec s[p] (s.drop (p + 1))
      rw [← List.drop_eq_getElem_cons hlt] at hg hs
      have hdl : decodeL (s.drop p) = Utf8.decode ⟨s.toArray⟩ p := by
        have := decodeL_drop ⟨s.toArray⟩ p
        simpa using this
      have hw := decodeL_width (s.drop p)
      simp only
      by_cases h0 : sgn (s.drop p) = 0
      · rw [if_pos (by simp [h0]), hg, if_pos h0]; rfl
      · rw [if_neg (by simp; omega), hg, if_neg h0]
        have e2 : sgn (s.drop p) = (Utf8.decode ⟨s.toArray⟩ p).2 := by
          rw [hs] at h0 ⊢
          split at h0
          · exact absurd rfl h0
          · rename_i hh
            rw [if_neg hh, hdl]
        have hle : p + sgn (s.drop p) ≤ s.length := by
          have h3 : (s.drop p).length = s.length - p := List.length_drop
          have h4 := sgn_le (s.drop p)
          omega
        have e3 : w64 ((n : Int) + 1) = ((n + 1 : Nat) : Int) := by rw [w64_id (by omega) (by omega)]; simp
        have e4 : w64 ((p : Int) + (sgn (s.drop p) : Int)) = ((p + sgn (s.drop p) : Nat) : Int) := by rw [w64_id (by omega) (by omega)]; simp
        rw [e3, e4]
        refine (ih (p + sgn (s.drop p)) (n + 1) (by omega) hle (by omega)).trans ?_
        rw [List.drop_drop]
        have e5 : runeCountFrom ⟨s.toArray⟩ (f + 1) p = 1 + runeCountFrom ⟨s.toArray⟩ f (p + sgn (s.drop p)) := by
          rw [runeCountFrom, if_pos (by show p < (List.toArray s).size; simpa using hlt), e2]
        rw [e5, ← Nat.add_assoc]
    · rw [if_neg (by simp; omega), List.drop_of_length_le (by omega), runeCountFrom_end _ _ _ (by show ¬ p < (List.toArray s).size; simpa using hlt)]
      rfl
theorem rRunes_eq (s : List UInt8) (hl : s.length ≤ 65535) : r02_Runes s = some (if good s then (runeCount ⟨s.toArray⟩ : Int) else -1) := by
  simp only [r02_Runes]
  have h := runes_loop s hl s.length 0 0 (by omega) (by omega) (by omega)
  rw [show (((0 : Nat) : Int)) = 0 from rfl] at h
  rw [if_neg (by simp; omega), h, List.drop_zero, Nat.zero_add]
  have e : runeCountFrom ⟨s.toArray⟩ s.length 0 = runeCount ⟨s.toArray⟩ := by
    simp only [runeCount]
    rw [show ByteArray.size ⟨s.toArray⟩ = s.length from List.size_toArray]
  rw [e]
  cases good s <;> rfl
theorem rRight_eq (s : List UInt8) (hl : s.length ≤ 65535) : r02_Right s = some (good s) := by
  simp only [r02_Right]
  rw [rRunes_eq s hl]
  cases good s <;> simp
end Go.Rv
