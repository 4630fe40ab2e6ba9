/- Plain laws. -/
import Derived.Test.YtaegbddjeibolaaDoorText3
set_option linter.unusedSimpArgs false
set_option linter.unusedVariables false
set_option maxRecDepth 100000
namespace Go.Rv
open Go.Lib
def SG : List (List UInt8) := [[97], [98], [97, 98], [195, 164], [226, 130, 172], [240, 159, 153, 130], [49], [99]]
/-- Made of signs. -/
inductive Sg : Nat → List UInt8 → Prop
  | nil : Sg 0 []
  | cons (w t : List UInt8) (n : Nat) (hw : w ∈ SG) (h : Sg n t) : Sg (n + 1) (w ++ t)
theorem Sg.snoc : ∀ {n : Nat} {l : List UInt8}, Sg n l → ∀ w, w ∈ SG → Sg (n + 1) (l ++ w)
  | _, _, .nil, w, hw => by have := Sg.cons w [] 0 hw .nil; simpa using this
  | _, _, .cons v t n hv h, w, hw => by rw [List.append_assoc]; exact .cons v (t ++ w) _ hv (h.snoc w hw)
theorem Sg.app {n : Nat} {l : List UInt8} (h : Sg n l) : ∀ {m : Nat} {r : List UInt8}, Sg m r → Sg (n + m) (l ++ r) := by
  induction h with
  | nil => intro m r k; simpa using k
  | cons v t n hv h ih => intro m r k; rw [List.append_assoc, show n + 1 + m = n + m + 1 by omega]; exact .cons v _ _ hv (ih k)
theorem sg_len (w : List UInt8) (h : w ∈ SG) : 1 ≤ w.length ∧ w.length ≤ 4 := by
  simp only [SG, List.mem_cons, List.mem_nil_iff, or_false] at h
  rcases h with rfl | rfl | rfl | rfl | rfl | rfl | rfl | rfl <;> decide
theorem Sg.len : ∀ {n : Nat} {l : List UInt8}, Sg n l → l.length ≤ 4 * n
  | _, _, .nil => by simp
  | _, _, .cons w t n hw h => by have := h.len; have := sg_len w hw; simp; omega
theorem good_nil : good [] = true := by kernel_rfl
theorem good_step (c : UInt8) (t : List UInt8) (k : Nat) (h : sgn (c :: t) = k + 1) : good (c :: t) = good (t.drop k) := by
  rw [sgn_good, h, if_neg (by omega)]; rfl
theorem good_cont (c : UInt8) (t : List UInt8) (h : 128 ≤ c.toNat) (h2 : c.toNat < 192) : good (c :: t) = false := by
  have : sgn (c :: t) = 0 := by simp only [sgn]; rw [if_neg (by omega), if_neg (by omega), if_neg (by omega), if_pos h]
  rw [sgn_good, if_pos this]
theorem good_asc (c : UInt8) (t : List UInt8) (h : c.toNat < 128) (h0 : c.toNat ≠ 0) : good (c :: t) = good t := by
  have : sgn (c :: t) = 0 + 1 := by
    simp only [sgn]; rw [if_neg (by omega), if_neg (by omega), if_neg (by omega), if_neg (by omega), restS, if_neg (by omega)]
  rw [good_step c t 0 this]; rfl
theorem good_sign (w t : List UInt8) (hw : w ∈ SG) : good (w ++ t) = good t := by
  simp only [SG, List.mem_cons, List.mem_nil_iff, or_false] at hw
  rcases hw with rfl | rfl | rfl | rfl | rfl | rfl | rfl | rfl
  · exact good_asc _ _ (by decide) (by decide)
  · exact good_asc _ _ (by decide) (by decide)
  · exact (good_asc _ _ (by decide) (by decide)).trans (good_asc _ _ (by decide) (by decide))
  · exact good_step _ _ 1 (by simp [sgn, contN, restN])
  · exact good_step _ _ 2 (by simp [sgn, contN, restN])
  · exact good_step _ _ 3 (by simp [sgn, contN, restN])
  · exact good_asc _ _ (by decide) (by decide)
  · exact good_asc _ _ (by decide) (by decide)
theorem Sg.good : ∀ {n : Nat} {l : List UInt8}, Sg n l → Rv.good l = true
  | _, _, .nil => good_nil
  | _, _, .cons w t n hw h => by rw [good_sign w t hw]; exact h.good
-- how many signs
def rcl : Nat → List UInt8 → Nat
  | 0, _ => 0
  | _ + 1, [] => 0
  | f + 1, c :: t => 1 + rcl f ((c :: t).drop (decodeL (c :: t)).2)
theorem rcl_from (s : List UInt8) : ∀ (f p : Nat), runeCountFrom ⟨s.toArray⟩ f p = rcl f (s.drop p)
  | 0, p => rfl
  | f + 1, p => by
    rw [runeCountFrom]
    by_cases h : p < s.length
    · rw [if_pos (by show p < (List.toArray s).size; simpa using h), rcl_from s f]
      have hdl : decodeL (s.drop p) = Utf8.decode ⟨s.toArray⟩ p := by
        have := decodeL_drop ⟨s.toArray⟩ p
        simpa using this
      rw [← hdl, ← List.drop_drop]
      rw [List.drop_eq_getElem_cons h]
      rfl
    · rw [if_neg (by show ¬ p < (List.toArray s).size; simpa using h), List.drop_of_length_le (by omega)]
      rfl
theorem rcl_fuel : ∀ (f g : Nat) (l : List UInt8), l.length ≤ f → l.length ≤ g → rcl f l = rcl g l
  | 0, g, l, hf, hg => by
    have : l = [] := List.eq_nil_of_length_eq_zero (by omega)
    subst this; cases g <;> rfl
  | f + 1, 0, l, hf, hg => by
    have : l = [] := List.eq_nil_of_length_eq_zero (by omega)
    subst this; rfl
  | f + 1, g + 1, [], hf, hg => rfl
  | f + 1, g + 1, c :: t, hf, hg => by
    have hw := decodeL_width (c :: t)
    simp only [rcl]
    rw [rcl_fuel f g _ (by rw [List.length_drop]; simp at hf ⊢; omega) (by rw [List.length_drop]; simp at hg ⊢; omega)]
def rc (l : List UInt8) : Nat := rcl l.length l
theorem rc_is (s : List UInt8) : runeCount ⟨s.toArray⟩ = rc s := by
  have := rcl_from s s.length 0
  rw [List.drop_zero] at this
  simp only [runeCount, rc]
  rw [show ByteArray.size ⟨s.toArray⟩ = s.length from List.size_toArray, this]
theorem rc_step (c : UInt8) (t : List UInt8) (k : Nat) (h : sgn (c :: t) = k + 1) : rc (c :: t) = 1 + rc (t.drop k) := by
  have hs := sgn_dec c t
  rw [h] at hs
  split at hs
  · omega
  · simp only [rc, List.length_cons, rcl]
    rw [← hs, List.drop_succ_cons, rcl_fuel t.length (t.drop k).length _ (by rw [List.length_drop]; omega) (Nat.le_refl _)]
theorem sgn_asc (c : UInt8) (t : List UInt8) (h : c.toNat < 128) (h0 : c.toNat ≠ 0) : sgn (c :: t) = 0 + 1 := by
  simp only [sgn]; rw [if_neg (by omega), if_neg (by omega), if_neg (by omega), if_neg (by omega), restS, if_neg (by omega)]
theorem rc_sign (w t : List UInt8) (hw : w ∈ SG) : rc (w ++ t) = rc w + rc t := by
  simp only [SG, List.mem_cons, List.mem_nil_iff, or_false] at hw
  rcases hw with rfl | rfl | rfl | rfl | rfl | rfl | rfl | rfl
  · exact rc_step _ _ 0 (sgn_asc _ _ (by decide) (by decide))
  · exact rc_step _ _ 0 (sgn_asc _ _ (by decide) (by decide))
  · refine (rc_step _ _ 0 (sgn_asc _ _ (by decide) (by decide))).trans ?_
    have := rc_step 98 t 0 (sgn_asc _ _ (by decide) (by decide))
    have e : rc [97, 98] = 2 := by kernel_rfl
    rw [e]
    simp only [List.drop_zero] at this
    show 1 + rc (98 :: t) = _
    rw [this]; omega
  · exact rc_step _ _ 1 (by simp [sgn, contN, restN])
  · exact rc_step _ _ 2 (by simp [sgn, contN, restN])
  · exact rc_step _ _ 3 (by simp [sgn, contN, restN])
  · exact rc_step _ _ 0 (sgn_asc _ _ (by decide) (by decide))
  · exact rc_step _ _ 0 (sgn_asc _ _ (by decide) (by decide))
theorem Sg.rc {n : Nat} {l : List UInt8} (h : Sg n l) (r : List UInt8) : Rv.rc (l ++ r) = Rv.rc l + Rv.rc r := by
  induction h with
  | nil => simp [Rv.rc, rcl]
  | cons w t n hw h ih => rw [List.append_assoc, rc_sign w _ hw, ih, rc_sign w t hw]; omega
/-- May a text be cut ahead of this byte? -/
def lead (c : UInt8) : Bool := decide (c.toNat < 128) || decide (192 ≤ c.toNat)
theorem cut_sign (w t : List UInt8) (hw : w ∈ SG) (ht : Rv.good t = true) (k : Nat) (hk : k < w.length) (c : UInt8) (hc : w[k]? = some c) : Rv.good (w.take k) = lead c ∧ Rv.good (w.drop k ++ t) = lead c := by
  have hg := good_sign w t hw
  have two : ∀ (a b : UInt8), Rv.good ((a :: b :: t)) = Rv.good (a :: b :: t) := fun _ _ => rfl
  have hk4 := (sg_len w hw).2
  simp only [SG, List.mem_cons, List.mem_nil_iff, or_false] at hw
  have g0 := good_nil
  have ga : Rv.good [97] = true := by kernel_rfl
  have b1 : Rv.good [195] = false := by kernel_rfl
  have b2 : Rv.good [226] = false := by kernel_rfl
  have b3 : Rv.good [226, 130] = false := by kernel_rfl
  have b4 : Rv.good [240] = false := by kernel_rfl
  have b5 : Rv.good [240, 159] = false := by kernel_rfl
  have b6 : Rv.good [240, 159, 153] = false := by kernel_rfl
  have gb : Rv.good (98 :: t) = true := (good_asc 98 t (by decide) (by decide)).trans ht
  match k, hk4 with
  | 0, _ =>
    rw [List.take_zero, List.drop_zero, hg, ht, g0]
    rcases hw with rfl | rfl | rfl | rfl | rfl | rfl | rfl | rfl <;> (cases hc; exact ⟨rfl, rfl⟩)
  | 1, _ =>
    rcases hw with rfl | rfl | rfl | rfl | rfl | rfl | rfl | rfl
    · simp at hk
    · simp at hk
    · cases hc; exact ⟨ga, gb⟩
    · cases hc; exact ⟨b1, good_cont _ _ (by decide) (by decide)⟩
    · cases hc; exact ⟨b2, good_cont _ _ (by decide) (by decide)⟩
    · cases hc; exact ⟨b4, good_cont _ _ (by decide) (by decide)⟩
    · simp at hk
    · simp at hk
  | 2, _ =>
    rcases hw with rfl | rfl | rfl | rfl | rfl | rfl | rfl | rfl
    · simp at hk
    · simp at hk
    · simp at hk
    · simp at hk
    · cases hc; exact ⟨b3, good_cont _ _ (by decide) (by decide)⟩
    · cases hc; exact ⟨b5, good_cont _ _ (by decide) (by decide)⟩
    · simp at hk
    · simp at hk
  | 3, _ =>
    rcases hw with rfl | rfl | rfl | rfl | rfl | rfl | rfl | rfl
    · simp at hk
    · simp at hk
    · simp at hk
    · simp at hk
    · simp at hk
    · cases hc; exact ⟨b6, good_cont _ _ (by decide) (by decide)⟩
    · simp at hk
    · simp at hk
  | k + 4, h4 => omega
end Go.Rv
