/- Plain laws. -/
import Derived.Test.YthabicfefgahkaaIds2
set_option linter.unusedSimpArgs false
set_option linter.unusedVariables false
set_option maxRecDepth 100000
namespace Go.Rv
def needs (k : Int) : Int := if k = 4 then 1 else if k = 5 then 2 else if k = 6 then 3 else if k = 7 then 4 else if k = 9 then 5 else if k = 11 then 6 else 0
theorem needs_eq (k : Int) : ids_needs k = some (needs k) := by
  simp only [ids_needs, ids_needs_c0, needs]
  by_cases h4 : k = 4
  · subst h4; rfl
  · by_cases h5 : k = 5
    · subst h5; rfl
    · by_cases h6 : k = 6
      · subst h6; rfl
      · by_cases h7 : k = 7
        · subst h7; rfl
        · by_cases h9 : k = 9
          · subst h9; rfl
          · by_cases h11 : k = 11
            · subst h11; rfl
            · simp [h4, h5, h6, h7, h9, h11]
theorem turn_kind (o : Option (List ids_Row)) (k : Int) (id : UInt16) (fl : Bool) (n : Int) (h : needs k = 0) : ids_Turn o k id fl n = some (o, 1) := by
  simp only [ids_Turn, needs_eq, Option.bind_some, h]
  rfl
theorem turn_none (o : Option (List ids_Row)) (k : Int) (id : UInt16) (fl : Bool) (n : Int) (h : needs k ≠ 0) {i : Int} (hf : ids_find o id = some (i, false)) : ids_Turn o k id fl n = some (o, 8) := by
  simp only [ids_Turn, needs_eq, Option.bind_some, hf]
  rw [if_neg (by simpa using h)]
  rfl
/-- May a row be turned so? -/
def fits (m : ids_Row) (k n : Int) : Bool := decide (m.State = needs k) && (!decide (needs k ≥ 5) || decide (m.N = n))
theorem turn_un (o : Option (List ids_Row)) (k : Int) (id : UInt16) (fl : Bool) (n : Int) (h : needs k ≠ 0) (A B : List ids_Row) (m : ids_Row) (he : L o = A ++ m :: B) (hf : ids_find o id = some ((A.length : Int), true)) (hm : fits m k n = false) :
    ids_Turn o k id fl n = some (o, 8) := by
  simp only [ids_Turn, needs_eq, Option.bind_some, hf]
  have e : (L o)[A.length]? = some m := by rw [he]; simp
  rw [if_neg (by simpa using h), ix_nat, e]
  simp only [Option.bind_some]
  rw [if_neg (by simp)]
  simp only [fits] at hm
  by_cases h1 : m.State = needs k
  · rw [decide_eq_true h1, Bool.true_and] at hm
    rw [if_neg (by simp [h1])]
    by_cases h2 : needs k ≥ 5
    · rw [decide_eq_true h2] at hm
      rw [if_pos (by simp [h2]), if_pos (by simpa using hm)]
    · rw [decide_eq_false h2] at hm
      cases hm
  · rw [if_pos (by simp [h1])]
theorem setR_eq {α : Type} : ∀ (A B : List α) (m x : α), setR (A ++ m :: B) A.length x = A ++ x :: B
  | [], B, m, x => rfl
  | a :: A, B, m, x => congrArg (a :: ·) (setR_eq A B m x)
def turn_in {ρ : Type} (x15 : List ids_Row) (x12 : Int) (x13 : Bool) (x14 : Int) (k1_ : Nat → Nat → (List ids_Row) → Option ρ) (k2_ : (Option (List ids_Row)) → Option ρ) : Option ρ :=
  if decide (x12 = 6) then (chk (decide (0 ≤ x14 ∧ x14 < ((x15.length : Nat) : Int)))).bind fun _ => (ix x15 x14).bind fun x20 => (chk (decide (0 ≤ x14 ∧ x14 < ((x15.length : Nat) : Int)))).bind fun _ => ((ix x15 x14).bind fun x21 => some (⟨x21.Id, w64 (x20.State + 1), x21.N⟩ : ids_Row)).bind fun x22 => k1_ x15.length x15.length (setR x15 x14.toNat x22) else if decide (x12 = 5) then if !x13 then (chk (decide (0 ≤ x14 ∧ x14 < ((x15.length : Nat) : Int)))).bind fun _ => (ix x15 x14).bind fun x23 => (chk (decide (0 ≤ x14 ∧ x14 < ((x15.length : Nat) : Int)))).bind fun _ => ((ix x15 x14).bind fun x24 => some (⟨x24.Id, w64 (x23.State + 1), x24.N⟩ : ids_Row)).bind fun x25 => k1_ x15.length x15.length (setR x15 x14.toNat x25) else (delF x15 x15.length x14 (w64 (x14 + 1))).bind fun x26 => k2_ (some x26) else (delF x15 x15.length x14 (w64 (x14 + 1))).bind fun x27 => k2_ (some x27)
/-- What a row comes to; nothing: it goes. -/
def nextR (m : ids_Row) (k : Int) (fl : Bool) : Option ids_Row := if k = 6 ∨ (k = 5 ∧ fl = false) then some ⟨m.Id, m.State + 1, m.N⟩ else none
theorem turn_c0 {ρ : Type} (o : Option (List ids_Row)) (k : Int) (fl : Bool) (A B : List ids_Row) (m : ids_Row) (he : L o = A ++ m :: B) (hl : (L o).length ≤ 1000) (hs : 1 ≤ m.State ∧ m.State ≤ 6) (k1_ : Nat → Nat → List ids_Row → Option ρ) (k2_ : Option (List ids_Row) → Option ρ) :
    ids_Turn_c0 o k fl (A.length : Int) k1_ k2_ = match nextR m k fl with
      | some x => k1_ (A.length + B.length + 1) (A.length + B.length + 1) (A ++ x :: B)
      | none => k2_ (some (A ++ B)) := by
  have hlen : (L o).length = A.length + B.length + 1 := by rw [he]; simp; omega
  cases o with
  | none => exact absurd (show ([] : List ids_Row) = A ++ m :: B from he) (by simp)
  | some l =>
    have he : l = A ++ m :: B := he
    have hl : l.length ≤ 1000 := hl
    have hlen : l.length = A.length + B.length + 1 := hlen
    cases l with
    | nil => exact absurd he (by simp)
    | cons x xs =>
      have hl : xs.length + 1 ≤ 1000 := hl
      have hh : (xs.length + 1) * 24 ≤ room ∧ xs.length + 1 ≤ room := by simp [room]; omega
      have ec := cloneF_cons (T := Tb) (k := 1) (bytes := 24) x xs hh
      have e0 : ids_Turn_c0 (some (x :: xs)) k fl (A.length : Int) k1_ k2_ = turn_in (x :: xs) k fl (A.length : Int) k1_ k2_ := by
        simp only [ids_Turn_c0]
        erw [ec]
        rfl
      rw [e0]
      simp only [turn_in]
      have ei : ix (x :: xs) (A.length : Int) = some m := by rw [ix_nat, he]; simp
      have eset : ∀ y, setR (x :: xs) ((A.length : Int)).toNat y = A ++ y :: B := by intro y; rw [he, Int.toNat_natCast, setR_eq]
      have ew : w64 (m.State + 1) = m.State + 1 := w64_id (by omega) (by omega)
      have ech : chk (decide (0 ≤ (A.length : Int) ∧ (A.length : Int) < (((x :: xs).length : Nat) : Int))) = some () := chk_d (by rw [hlen]; omega)
      have edel : delF (x :: xs) (x :: xs).length (A.length : Int) (w64 ((A.length : Int) + 1)) = some (A ++ B) := delF_eq _ A B m he (by rw [hlen]; simp [room]; omega) _ (by rw [w64_succ (by omega)])
      by_cases h6 : k = 6
      · rw [if_pos (by simpa using h6), ech]
        simp only [Option.bind_some, ei, ew, eset, nextR]
        rw [if_pos (.inl h6), ← hlen]
      · rw [if_neg (by simpa using h6)]
        by_cases h5 : k = 5 ∧ fl = false
        · rw [if_pos (by simpa using h5.1), if_pos (by simp [h5.2]), ech]
          simp only [Option.bind_some, ei, ew, eset, nextR]
          rw [if_pos (.inr h5), ← hlen]
        · simp only [nextR]
          rw [if_neg (show ¬ (k = 6 ∨ k = 5 ∧ fl = false) from fun h => h.elim h6 h5)]
          by_cases h : k = 5
          · have hfl : fl = true := by
              cases fl with
              | true => rfl
              | false => exact absurd ⟨h, rfl⟩ h5
            rw [if_pos (by simpa using h), if_neg (by simp [hfl]), edel]
            rfl
          · rw [if_neg (by simpa using h), edel]
            rfl
theorem turn_ok (o : Option (List ids_Row)) (k : Int) (id : UInt16) (fl : Bool) (n : Int) (h : needs k ≠ 0) (A B : List ids_Row) (m : ids_Row) (he : L o = A ++ m :: B) (hf : ids_find o id = some ((A.length : Int), true)) (hm : fits m k n = true) (hl : (L o).length ≤ 1000) (hs : 1 ≤ m.State ∧ m.State ≤ 6) :
    ids_Turn o k id fl n = some (some (match nextR m k fl with | some x => A ++ x :: B | none => A ++ B), 0) := by
  simp only [ids_Turn, needs_eq, Option.bind_some, hf]
  have e : (L o)[A.length]? = some m := by rw [he]; simp
  rw [if_neg (by simpa using h), ix_nat, e]
  simp only [Option.bind_some]
  rw [if_neg (by simp)]
  simp only [fits, Bool.and_eq_true, decide_eq_true_eq] at hm
  rw [if_neg (by simp [hm.1])]
  have fin : ids_Turn_c0 o k fl (A.length : Int) (fun x36 x37 x38 => (chk (decide (x36 ≤ x38.length))).bind fun _ => (chk (decide (x37 ≤ x38.length))).bind fun _ => some ((some (x38.take x36)), (0 : Int))) (fun x39 => some (x39, 0)) = some (some (match nextR m k fl with | some x => A ++ x :: B | none => A ++ B), 0) := by
    rw [turn_c0 o k fl A B m he hl hs]
    cases nextR m k fl with
    | none => rfl
    | some x =>
      simp only
      rw [chk_d (by simp; omega)]
      simp only [Option.bind_some]
      rw [List.take_of_length_le (by simp; omega)]
  by_cases h2 : needs k ≥ 5
  · rw [if_pos (by simp [h2])]
    have hn : m.N = n := by
      rcases Bool.or_eq_true _ _ ▸ hm.2 with q | q
      · simp [h2] at q
      · simpa using q
    rw [if_neg (by simp [hn])]
    exact fin
  · rw [if_neg (by simp [h2])]
    exact fin
end Go.Rv
