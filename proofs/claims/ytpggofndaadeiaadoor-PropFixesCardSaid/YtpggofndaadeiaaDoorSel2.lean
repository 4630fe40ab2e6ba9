/- Plain laws. -/
import Derived.Test.YtpggofndaadeiaaDoorSel1
set_option linter.unusedSimpArgs false
set_option linter.unusedVariables false
set_option maxRecDepth 100000
namespace Go.Rv
open Go.Lib
def TG : List (List UInt8) := [[97], [98], [47], [99], [100], [47], [195, 164], [101]]
inductive Tw : Nat → List UInt8 → Prop
  | nil : Tw 0 []
  | cons (w t : List UInt8) (n : Nat) (hw : w ∈ TG) (h : Tw n t) : Tw (n + 1) (w ++ t)
theorem Tw.snoc : ∀ {n : Nat} {l : List UInt8}, Tw n l → ∀ w, w ∈ TG → Tw (n + 1) (l ++ w)
  | _, _, .nil, w, hw => by have := Tw.cons w [] 0 hw .nil; simpa using this
  | _, _, .cons v t n hv h, w, hw => by rw [List.append_assoc]; exact .cons v _ _ hv (h.snoc w hw)
theorem tg_len (w : List UInt8) (h : w ∈ TG) : 1 ≤ w.length ∧ w.length ≤ 2 := by
  simp only [TG, List.mem_cons, List.mem_nil_iff, or_false] at h
  rcases h with rfl | rfl | rfl | rfl | rfl | rfl | rfl | rfl <;> decide
theorem Tw.len : ∀ {n : Nat} {l : List UInt8}, Tw n l → l.length ≤ 2 * n
  | _, _, .nil => by simp
  | _, _, .cons w t n hw h => by have := h.len; have := tg_len w hw; simp; omega
theorem good_tg (w t : List UInt8) (hw : w ∈ TG) : good (w ++ t) = good t := by
  simp only [TG, List.mem_cons, List.mem_nil_iff, or_false] at hw
  rcases hw with rfl | rfl | rfl | rfl | rfl | rfl | rfl | rfl
  · exact good_asc _ _ (by decide) (by decide)
  · exact good_asc _ _ (by decide) (by decide)
  · exact good_asc _ _ (by decide) (by decide)
  · exact good_asc _ _ (by decide) (by decide)
  · exact good_asc _ _ (by decide) (by decide)
  · exact good_asc _ _ (by decide) (by decide)
  · exact good_step _ _ 1 (by simp [sgn, contN, restN])
  · exact good_asc _ _ (by decide) (by decide)
theorem Tw.good : ∀ {n : Nat} {l : List UInt8}, Tw n l → Rv.good l = true
  | _, _, .nil => good_nil
  | _, _, .cons w t n hw h => by rw [good_tg w t hw]; exact h.good
theorem tg_bytes (w : List UInt8) (h : w ∈ TG) : ∀ b ∈ w, b ≠ 36 ∧ b ≠ 43 ∧ b ≠ 35 ∧ b ≠ 115 := by
  simp only [TG, List.mem_cons, List.mem_nil_iff, or_false] at h
  rcases h with rfl | rfl | rfl | rfl | rfl | rfl | rfl | rfl <;> decide
theorem Tw.bytes : ∀ {n : Nat} {l : List UInt8}, Tw n l → ∀ b ∈ l, b ≠ 36 ∧ b ≠ 43 ∧ b ≠ 35 ∧ b ≠ 115
  | _, _, .nil => by simp
  | _, _, .cons w t n hw h => by
    intro b hb
    rcases List.mem_append.1 hb with hb | hb
    · exact tg_bytes w hw b hb
    · exact h.bytes b hb
theorem lv_pre (t : List UInt8) : ∀ w : List UInt8, 47 ∉ w → lv (w ++ t) = lvp w t
  | [], _ => (lvp_0 t).symm
  | c :: w, h => by
    simp only [List.mem_cons, not_or] at h
    simp only [List.cons_append, lv, if_neg (Ne.symm h.1), lv_pre t w h.2, lvp]
    cases lv t <;> rfl
theorem Tw.levels : ∀ {n : Nat} {l : List UInt8}, Tw n l → ∀ x ∈ lv l, Rv.good x = true
  | _, _, .nil => by intro x h; simp [lv] at h; rw [h]; exact good_nil
  | _, _, .cons w t n hw h => by
    intro x hx
    by_cases h47 : w = [47]
    · subst h47
      simp only [List.cons_append, List.nil_append, lv, if_true] at hx
      rcases List.mem_cons.1 hx with rfl | hx
      · exact good_nil
      · exact h.levels x hx
    · have hn : 47 ∉ w := by
        simp only [TG, List.mem_cons, List.mem_nil_iff, or_false] at hw
        rcases hw with rfl | rfl | rfl | rfl | rfl | rfl | rfl | rfl <;> first | decide | exact absurd rfl h47
      rw [lv_pre t w hn, lvp] at hx
      cases hl : lv t with
      | nil => exact absurd hl (lv_ne t)
      | cons y l =>
        rw [hl] at hx
        simp only at hx
        rcases List.mem_cons.1 hx with rfl | hx
        · rw [good_tg w y hw]; exact h.levels y (by rw [hl]; simp)
        · exact h.levels x (by rw [hl]; simp [hx])
theorem tfix_loop (s : List UInt8) : ∀ (f i n : Nat) (o : List UInt8), f + i = 8 → n ≤ i → Tw n o → ∃ m q, m ≤ 8 ∧ Tw m q ∧ iter (r04_Fix_l0 s (some TG)) (o, (i : Int)) = some q := by
  intro f
  induction f with
  | zero =>
    intro i n o hi hn ho
    refine ⟨n, o, by omega, ho, ?_⟩
    rw [iter_eq]
    simp only [r04_Fix_l0, r04_Fix_b0]
    by_cases h : i < s.length
    · rw [if_pos (by simp; omega), if_neg (by simp; omega)]
    · rw [if_neg (by simp; omega)]
  | succ f ih =>
    intro i n o hi hn ho
    by_cases h : i < s.length
    · have hc := s[i].toNat_lt
      have hm : s[i].toNat % 8 < TG.length := by
        show _ < 8; omega
      have hw : TG[s[i].toNat % 8] ∈ TG := List.getElem_mem hm
      obtain ⟨m, q, h1, h2, h3⟩ := ih (i + 1) (n + 1) (o ++ TG[s[i].toNat % 8]) (by omega) (by omega) (ho.snoc _ hw)
      refine ⟨m, q, h1, h2, ?_⟩
      rw [iter_eq]
      simp only [r04_Fix_l0, r04_Fix_b0]
      have e0 : w64 (s[i].toNat : Int) = (s[i].toNat : Int) := w64_id (by omega) (by omega)
      have e8 : ((L (some TG)).length : Int) = 8 := rfl
      have e1 : ((s[i].toNat : Int)).tmod 8 = ((s[i].toNat % 8 : Nat) : Int) := by
        rw [Int.tmod_eq_emod_of_nonneg (by omega)]; simp
      have e2 : ix (L (some TG)) ((s[i].toNat % 8 : Nat) : Int) = some (TG[s[i].toNat % 8]) := by
        rw [ix_nat]; exact List.getElem?_eq_getElem hm
      have ew : w64 ((i : Int) + 1) = ((i + 1 : Nat) : Int) := by rw [w64_id (by omega) (by omega)]; simp
      have hl := ho.len
      have hl2 := (tg_len _ hw).2
      rw [if_pos (by simp; omega), if_pos (by simp; omega), ix_nat, List.getElem?_eq_getElem h, Option.bind_some, e8, e0, e1]
      rw [show chk (decide ((8 : Int) ≠ 0)) = some () from rfl, Option.bind_some, e2, Option.bind_some]
      simp only [catS]
      rw [if_pos (by omega), Option.bind_some, ew]
      exact h3
    · refine ⟨n, o, by omega, ho, ?_⟩
      rw [iter_eq]
      simp only [r04_Fix_l0, r04_Fix_b0]
      rw [if_neg (by simp; omega)]
/-- A name made to be one. -/
theorem tfix_eq (s : List UInt8) : ∃ m q, m ≤ 8 ∧ Tw m q ∧ q ≠ [] ∧ r04_Fix s = some q := by
  obtain ⟨m, q, h1, h2, h3⟩ := tfix_loop s 8 0 0 [] rfl (Nat.le_refl _) .nil
  rw [show (((0 : Nat) : Int)) = 0 from rfl] at h3
  have h4 : iter (r04_Fix_l0 s (some [[97], [98], [47], [99], [100], [47], [195, 164], [101]])) ([], 0) = some q := h3
  simp only [r04_Fix, h4, Option.bind_some]
  by_cases h : q = []
  · exact ⟨1, [97], by omega, .cons [97] [] 0 (by decide) .nil, by simp, by simp [h]⟩
  · exact ⟨m, q, h1, h2, h, by simp [h]⟩
-- what is wanted
theorem not_wild {x : List UInt8} (h : ∀ b ∈ x, b ≠ 43 ∧ b ≠ 35) : wild x = false := by
  simp only [wild, Bool.or_eq_false_iff]
  constructor
  · rw [Bool.eq_false_iff]; intro e; exact (h 43 (by simpa using e)).1 rfl
  · rw [Bool.eq_false_iff]; intro e; exact (h 35 (by simpa using e)).2 rfl
theorem plain_of : ∀ {l : List (List UInt8)}, (∀ x ∈ l, x = [43] ∨ wild x = false) → plainL l = true
  | [], _ => rfl
  | x :: l, h => by
    simp only [plainL, plain_of (fun y hy => h y (List.mem_cons_of_mem _ hy)), Bool.and_true, okL]
    rcases h x (by simp) with rfl | e
    · simp
    · simp [e]
theorem plain_last : ∀ {l : List (List UInt8)}, (∀ x ∈ l, x = [43] ∨ wild x = false) → plainL (l ++ [[35]]) = true
  | [], _ => by simp [plainL, okL]
  | x :: l, h => by
    simp only [List.cons_append, plainL, plain_last (fun y hy => h y (List.mem_cons_of_mem _ hy)), Bool.and_true, okL]
    rcases h x (by simp) with rfl | e
    · simp
    · simp [e]
theorem matchB_plain {f : List UInt8} (n : List UInt8) (h : f.take 7 ≠ shP) : matchB f n = (good f && plainB f && nameB n && !dollar f n && matchL (lv f) (lv n)) := by
  have hs : shr f = none := if_neg h
  have hw : wants f = f := by simp [wants, sharedR, hs]
  simp only [matchB, filterB, hs, shrF, hw]
theorem cutO_cat (g b : List UInt8) (h : 47 ∉ g) : cutO (g ++ 47 :: b) = some (g, b) := by
  induction g with
  | nil => simp [cutO]
  | cons c g ih =>
    simp only [List.mem_cons, not_or] at h
    simp only [List.cons_append, cutO, if_neg (Ne.symm h.1), ih h.2, Option.map_some]
theorem matchB_share (g b n : List UInt8) (h : 47 ∉ g) (hg : g ≠ []) (hw : wild g = false) (hgg : good (g ++ 47 :: b) = true) (hb : plainB b = true) :
    matchB (shP ++ (g ++ 47 :: b)) n = (nameB n && !dollar b n && matchL (lv b) (lv n)) := by
  have hs : shr (shP ++ (g ++ 47 :: b)) = some (some (g, b)) := by
    have e1 : (shP ++ (g ++ 47 :: b)).take 7 = shP := by rw [List.take_append_of_le_length (by decide)]; rfl
    have e2 : (shP ++ (g ++ 47 :: b)).drop 7 = g ++ 47 :: b := by
      rw [List.drop_append]; rfl
    simp only [shr, e1, if_true, e2, cutO_cat g b h]
  have hgo : good (shP ++ (g ++ 47 :: b)) = true := good_cat (by decide +kernel) hgg
  generalize shP ++ (g ++ 47 :: b) = F at hs hgo ⊢
  have hf : filterB F = true := by simp [filterB, hs, shrF, hgo, hg, hw, hb]
  have hwt : wants F = b := by simp [wants, sharedR, hs, hf]
  simp only [matchB, hf, hwt, Bool.true_and]
end Go.Rv
