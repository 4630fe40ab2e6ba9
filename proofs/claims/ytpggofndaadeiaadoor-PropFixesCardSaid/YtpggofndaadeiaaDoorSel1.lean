/- Plain laws. -/
import Derived.Test.YtpggofndaadeiaaDoorProp2
set_option linter.unusedSimpArgs false
set_option linter.unusedVariables false
set_option maxRecDepth 100000
namespace Go.Rv
open Go.Lib
theorem contN_app (b : List UInt8) : ∀ (k n : Nat) (t : List UInt8), k ≤ t.length → contN k n (t ++ b) = contN k n t
  | 0, n, t, h => rfl
  | k + 1, n, [], h => by simp at h
  | k + 1, n, c :: t, h => by
    simp only [List.cons_append, contN]
    split
    · exact contN_app b k _ t (by simpa using h)
    · rfl
theorem sgn_app (l b : List UInt8) (h : sgn l ≠ 0) : sgn (l ++ b) = sgn l := by
  cases l with
  | nil => exact absurd rfl h
  | cons c t =>
    simp only [List.cons_append, sgn, List.length_append] at h ⊢
    by_cases h1 : 240 ≤ c.toNat
    · rw [if_pos h1] at h ⊢
      rw [if_pos h1]
      by_cases h2 : 248 ≤ c.toNat ∨ t.length < 3
      · rw [if_pos h2] at h; exact absurd rfl h
      · rw [if_neg h2, if_neg (by omega), contN_app _ _ _ _ (by omega)]
    · rw [if_neg h1] at h ⊢
      rw [if_neg h1]
      by_cases h3 : 224 ≤ c.toNat
      · rw [if_pos h3] at h ⊢
        rw [if_pos h3]
        by_cases h2 : t.length < 2
        · rw [if_pos h2] at h; exact absurd rfl h
        · rw [if_neg h2, if_neg (by omega), contN_app _ _ _ _ (by omega)]
      · rw [if_neg h3] at h ⊢
        rw [if_neg h3]
        by_cases h4 : 192 ≤ c.toNat
        · rw [if_pos h4] at h ⊢
          rw [if_pos h4]
          by_cases h2 : t.length < 1
          · rw [if_pos h2] at h; exact absurd rfl h
          · rw [if_neg h2, if_neg (by omega), contN_app _ _ _ _ (by omega)]
        · rw [if_neg h4, if_neg h4]
theorem good_app (b : List UInt8) : ∀ (n : Nat) (a : List UInt8), a.length ≤ n → good a = true → good (a ++ b) = good b
  | _, [], _, _ => rfl
  | 0, c :: t, h, _ => by simp at h
  | n + 1, c :: t, h, hg => by
    rw [sgn_good] at hg
    by_cases hz : sgn (c :: t) = 0
    · rw [if_pos hz] at hg; cases hg
    · rw [if_neg hz] at hg
      have hle := sgn_le (c :: t)
      have e := sgn_app (c :: t) b hz
      rw [List.cons_append] at e ⊢
      rw [sgn_good, e, if_neg hz, ← List.cons_append, List.drop_append_of_le_length hle]
      exact good_app b n _ (by simp at h ⊢; omega) hg
theorem good_cat {a b : List UInt8} (ha : good a = true) (hb : good b = true) : good (a ++ b) = true := by rw [good_app b a.length a (Nat.le_refl _) ha, hb]
-- levels
theorem lv_cat (a b : List UInt8) : lv (a ++ 47 :: b) = lv a ++ lv b := by
  induction a with
  | nil => simp [lv]
  | cons c a ih =>
    simp only [List.cons_append, lv, ih]
    split
    · rfl
    · cases h : lv a with
      | nil => exact absurd h (lv_ne a)
      | cons x l => rfl
theorem lv_one {a : List UInt8} (h : 47 ∉ a) : lv a = [a] := by
  induction a with
  | nil => rfl
  | cons c a ih =>
    simp only [List.mem_cons, not_or] at h
    simp only [lv, if_neg (Ne.symm h.1), ih h.2]
/-- Levels, with slashes between. -/
def js : List (List UInt8) → List UInt8
  | [] => []
  | [x] => x
  | x :: l => x ++ 47 :: js l
theorem js_cons (x : List UInt8) {l : List (List UInt8)} (h : l ≠ []) : js (x :: l) = x ++ 47 :: js l := by
  cases l with
  | nil => exact absurd rfl h
  | cons y l => rfl
theorem lv_js : ∀ {l : List (List UInt8)}, l ≠ [] → (∀ x ∈ l, 47 ∉ x) → lv (js l) = l
  | [], h, _ => absurd rfl h
  | [x], _, h => lv_one (h x (by simp))
  | x :: y :: l, _, h => by
    rw [js_cons x (by simp), lv_cat, lv_one (h x (by simp)), lv_js (by simp) (fun z hz => h z (by simp [hz]))]
    rfl
theorem js_lv : ∀ s, js (lv s) = s
  | [] => rfl
  | b :: t => by
    have ih := js_lv t
    have hn := lv_ne t
    simp only [lv]
    split
    · rename_i h; rw [js_cons _ hn, ih, h]; rfl
    · cases h : lv t with
      | nil => exact absurd h hn
      | cons x l =>
        rw [h] at ih
        cases l with
        | nil => simp only [js] at ih ⊢; rw [ih]
        | cons y l => rw [js_cons _ (by simp)] at ih ⊢; rw [List.cons_append, ih]
theorem lv_noslash : ∀ (s x : List UInt8), x ∈ lv s → 47 ∉ x
  | [], x, h => by simp [lv] at h; simp [h]
  | b :: t, x, h => by
    simp only [lv] at h
    split at h
    · rcases List.mem_cons.1 h with rfl | h
      · simp
      · exact lv_noslash t x h
    · rename_i hb
      split at h
      · rename_i e; exact absurd e (lv_ne t)
      · rename_i y l e
        rcases List.mem_cons.1 h with rfl | h
        · have := lv_noslash t y (by rw [e]; simp)
          simp [this, Ne.symm hb]
        · exact lv_noslash t x (by rw [e]; simp [h])
theorem good47 (t : List UInt8) : good (47 :: t) = good t := good_asc 47 t (by decide) (by decide)
theorem js_good : ∀ {l : List (List UInt8)}, (∀ x ∈ l, good x = true) → good (js l) = true
  | [], _ => good_nil
  | [x], h => h x (by simp)
  | x :: y :: l, h => by
    rw [js_cons x (by simp)]
    exact good_cat (h x (by simp)) (by rw [good47]; exact js_good (fun z hz => h z (by simp [hz])))
theorem mem_js : ∀ {l : List (List UInt8)} {b : UInt8}, b ∈ js l → b = 47 ∨ ∃ x ∈ l, b ∈ x
  | [], b, h => by simp [js] at h
  | [x], b, h => .inr ⟨x, by simp, h⟩
  | x :: y :: l, b, h => by
    rw [js_cons x (by simp)] at h
    rcases List.mem_append.1 h with h | h
    · exact .inr ⟨x, by simp, h⟩
    · rcases List.mem_cons.1 h with h | h
      · exact .inl h
      · rcases mem_js h with h | ⟨z, h1, h2⟩
        · exact .inl h
        · exact .inr ⟨z, by simp [h1], h2⟩
theorem mem_lv : ∀ {s x : List UInt8} {b : UInt8}, x ∈ lv s → b ∈ x → b ∈ s
  | [], x, b, h, hb => by simp [lv] at h; simp [h] at hb
  | c :: t, x, b, h, hb => by
    simp only [lv] at h
    split at h
    · rcases List.mem_cons.1 h with rfl | h
      · simp at hb
      · exact List.mem_cons_of_mem _ (mem_lv h hb)
    · split at h
      · rename_i e; exact absurd e (lv_ne t)
      · rename_i y l e
        rcases List.mem_cons.1 h with rfl | h
        · rcases List.mem_cons.1 hb with rfl | hb
          · simp
          · exact List.mem_cons_of_mem _ (mem_lv (x := y) (by rw [e]; simp) hb)
        · exact List.mem_cons_of_mem _ (mem_lv (x := x) (by rw [e]; simp [h]) hb)
-- what matches
theorem match_self : ∀ l : List (List UInt8), matchL l l = true
  | [] => rfl
  | x :: l => by simp only [matchL]; split <;> simp [match_self l]
theorem match_cat : ∀ {f n : List (List UInt8)} (m : List (List UInt8)), matchL f n = true → matchL (f ++ [[35]]) (n ++ m) = true
  | [], n, m, h => by simp [matchL]
  | x :: f, n, m, h => by
    simp only [matchL, List.cons_append] at h ⊢
    split
    · rfl
    · rename_i hx
      rw [if_neg hx] at h
      cases n with
      | nil => cases h
      | cons y n =>
        simp only [List.cons_append] at h ⊢
        split at h
        · cases h
        · rename_i hc; rw [if_neg hc]; exact match_cat m h
theorem match_snoc : ∀ {f n : List (List UInt8)} {x y : List UInt8}, [35] ∉ f → x ≠ [35] → matchL (f ++ [x]) (n ++ [y]) = (matchL f n && (decide (x = [43]) || decide (x = y)))
  | [], [], x, y, _, hx => by
    simp only [List.nil_append, matchL, if_neg hx, List.isEmpty_nil]
    by_cases h1 : x = [43] <;> by_cases h2 : x = y <;> simp [h1, h2]
  | [], z :: n, x, y, _, hx => by
    simp only [List.nil_append, List.cons_append, matchL, if_neg hx]
    split
    · simp
    · simp
  | g :: f, [], x, y, hf, hx => by
    simp only [List.mem_cons, not_or] at hf
    simp only [List.nil_append, List.cons_append, matchL, if_neg (Ne.symm hf.1)]
    split
    · simp
    · cases f with
      | nil => simp only [List.nil_append, matchL, if_neg hx]; simp
      | cons g2 f =>
        simp only [List.mem_cons, not_or] at hf
        simp only [List.cons_append, matchL, if_neg (Ne.symm hf.2.1)]; simp
  | g :: f, z :: n, x, y, hf, hx => by
    simp only [List.mem_cons, not_or] at hf
    simp only [List.cons_append, matchL, if_neg (Ne.symm hf.1)]
    split
    · simp
    · exact match_snoc hf.2 hx
end Go.Rv
