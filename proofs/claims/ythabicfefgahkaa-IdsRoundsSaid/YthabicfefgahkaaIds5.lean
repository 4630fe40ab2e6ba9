/- Plain laws. -/
import Derived.Test.YthabicfefgahkaaIds4
set_option linter.unusedSimpArgs false
set_option linter.unusedVariables false
set_option maxRecDepth 100000
namespace Go.Rv
-- ---------- is it right? ----------
def bad (prev : Option ids_Row) (a : ids_Row) : Bool :=
  decide (a.Id = 0) || (match prev with | some p => decide (p.Id ≥ a.Id) | none => false) || decide (a.State < 1) || decide (a.State > 6) || !cnt a.State a.N
theorem bad_eq (p : Option ids_Row) (a : ids_Row) (h0 : ¬ a.Id = 0) (hp : ∀ x, p = some x → x.Id < a.Id) : bad p a = (decide (a.State < 1) || decide (a.State > 6) || !cnt a.State a.N) := by
  simp only [bad, decide_eq_false h0, Bool.false_or]
  cases p with
  | none => rfl
  | some x =>
    simp only
    rw [decide_eq_false (show ¬ x.Id ≥ a.Id from UInt16.not_le.2 (hp x rfl)), Bool.false_or]
theorem bad_ge (x a : ids_Row) (h : ¬ x.Id < a.Id) : bad (some x) a = true := by
  simp only [bad]
  rw [decide_eq_true (show x.Id ≥ a.Id from UInt16.not_lt.1 h)]
  simp
def rightB : Option ids_Row → List ids_Row → Bool
  | _, [] => true
  | p, a :: l => !bad p a && rightB (some a) l
theorem right_run : ∀ (l : List ids_Row) (p : Option ids_Row), runL (fun (p : Option ids_Row) (a : ids_Row) => if bad p a then (Sum.inr (.inl a) : Option ids_Row ⊕ (ids_Row ⊕ Unit)) else .inl (some a)) (fun _ => .inr ()) p l = .inr () ∧ rightB p l = true ∨ (∃ a, runL (fun (p : Option ids_Row) (a : ids_Row) => if bad p a then (Sum.inr (.inl a) : Option ids_Row ⊕ (ids_Row ⊕ Unit)) else .inl (some a)) (fun _ => .inr ()) p l = .inl a) ∧ rightB p l = false
  | [], p => .inl ⟨rfl, rfl⟩
  | a :: l, p => by
    simp only [runL, rightB]
    by_cases h : bad p a = true
    · right
      rw [if_pos h, h]
      exact ⟨⟨a, rfl⟩, rfl⟩
    · rw [if_neg h]
      have : bad p a = false := by simpa using h
      rw [this]
      exact right_run l (some a)
theorem rright_run : ∀ (l : List r11_Row) (p : Option ids_Row), runL (fun (p : Option ids_Row) (a : r11_Row) => if bad p (cI a) then (Sum.inr (.inl ()) : Option ids_Row ⊕ (Unit ⊕ Unit)) else .inl (some (cI a))) (fun _ => .inr ()) p l = if rightB p (l.map cI) then .inr () else .inl ()
  | [], p => rfl
  | a :: l, p => by
    simp only [runL, List.map_cons, rightB]
    by_cases h : bad p (cI a) = true
    · rw [if_pos h, h]
      rfl
    · rw [if_neg h]
      have : bad p (cI a) = false := by simpa using h
      rw [this]
      exact rright_run l (some (cI a))
def prevAt {α : Type} (l : List α) (i : Nat) : Option α := if i = 0 then none else l[i - 1]?
theorem right_eq (o : Option (List ids_Row)) (hl : (L o).length ≤ 1000) : ids_Right o = some (rightB none (L o)) := by
  simp only [ids_Right]
  have := iter_ix (L o) (ids_Right_l0 o o ((L o).length : Int)) (fun (_ : Option ids_Row) i => i) (fun (p : Option ids_Row) (a : ids_Row) => if bad p a then (Sum.inr (.inl a) : Option ids_Row ⊕ (ids_Row ⊕ Unit)) else .inl (some a)) (fun _ => .inr ()) (fun i s => s = prevAt (L o) i)
    (fun s i hi hI => by
      subst hI
      simp only [ids_Right_l0, ids_Right_b0]
      rw [if_pos (by simp; omega), ix_nat, List.getElem?_eq_getElem hi]
      simp only [Option.bind_some]
      by_cases h0 : (L o)[i].Id = 0
      · rw [if_pos (by simpa using h0), if_pos (by simp [bad, h0])]; rfl
      · rw [if_neg (by simpa using h0)]
        have tail : ∀ c, (if decide ((L o)[i].State < 1) then some (Sum.inr (.inl (L o)[i])) else if decide ((L o)[i].State > 6) then some (.inr (.inl (L o)[i])) else (ids_counts (L o)[i].State (L o)[i].N).bind fun x9 => if !x9 then some (.inr (.inl (L o)[i])) else some (.inl (w64 ((i : Int) + 1)))) = some (stepL (fun (_ : Option ids_Row) i => i) i (if (decide ((L o)[i].State < 1) || decide ((L o)[i].State > 6) || !cnt (L o)[i].State (L o)[i].N) then (Sum.inr (.inl (L o)[i]) : Option ids_Row ⊕ (ids_Row ⊕ Unit)) else .inl c)) := by
          intro c
          rw [counts_eq, w64_succ (by omega)]
          simp only [Option.bind_some]
          by_cases h1 : (L o)[i].State < 1
          · simp [h1, stepL]
          · by_cases h2 : (L o)[i].State > 6
            · simp [h1, h2, stepL]
            · cases h3 : cnt (L o)[i].State (L o)[i].N <;> simp [h1, h2, stepL]
        cases i with
        | zero =>
          rw [if_neg (by simp)]
          have e : bad (prevAt (L o) 0) (L o)[0] = (decide ((L o)[0].State < 1) || decide ((L o)[0].State > 6) || !cnt (L o)[0].State (L o)[0].N) := bad_eq _ _ h0 (fun x hx => by cases hx)
          rw [e]
          exact tail (some (L o)[0])
        | succ j =>
          have hj : j < (L o).length := by omega
          rw [if_pos (by simp), show w64 (((j + 1 : Nat) : Int) - 1) = (j : Int) from by rw [w64_id (by omega) (by omega)]; omega, ix_nat, List.getElem?_eq_getElem hj]
          simp only [Option.bind_some]
          rw [order_eq]
          simp only [Option.bind_some]
          have ep : prevAt (L o) (j + 1) = some (L o)[j] := by
            simp only [prevAt, Nat.add_one_sub_one]
            rw [if_neg (by omega), List.getElem?_eq_getElem hj]
          rw [ep]
          by_cases hlt : (L o)[j].Id < (L o)[j + 1].Id
          · rw [if_pos hlt, if_neg (by decide)]
            have e : bad (some (L o)[j]) (L o)[j + 1] = (decide ((L o)[j + 1].State < 1) || decide ((L o)[j + 1].State > 6) || !cnt (L o)[j + 1].State (L o)[j + 1].N) := bad_eq _ _ h0 (fun x hx => by cases hx; exact hlt)
            rw [e]
            exact tail (some (L o)[j + 1])
          · rw [if_neg hlt, if_pos (by split <;> decide)]
            have e : bad (some (L o)[j]) (L o)[j + 1] = true := bad_ge _ _ hlt
            rw [if_pos e]
            rfl)
    (fun s i hi s' hI hg => by
      split at hg
      · cases hg
      · simp only [Sum.inl.injEq] at hg
        rw [← hg]
        simp only [prevAt, Nat.add_one_sub_one]
        rw [if_neg (by omega), List.getElem?_eq_getElem hi])
    (fun s hI => by
      simp only [ids_Right_l0, ids_Right_b0]
      rw [if_neg (by simp)])
    none rfl
  rw [this]
  rcases right_run (L o) none with ⟨e1, e2⟩ | ⟨⟨a, e1⟩, e2⟩
  · rw [e1, e2]; rfl
  · rw [e1, e2]; rfl
theorem rright_eq (o : Option (List r11_Row)) (hl : (L o).length ≤ 1000) : r11_Right o = some (rightB none ((L o).map cI)) := by
  simp only [r11_Right]
  have := iter_ix (L o) (r11_Right_l0 o) (fun (_ : Option ids_Row) i => i) (fun (p : Option ids_Row) (a : r11_Row) => if bad p (cI a) then (Sum.inr (.inl ()) : Option ids_Row ⊕ (Unit ⊕ Unit)) else .inl (some (cI a))) (fun _ => .inr ()) (fun i s => s = (prevAt (L o) i).map cI)
    (fun s i hi hI => by
      subst hI
      simp only [r11_Right_l0, r11_Right_b0]
      rw [if_pos (by simp; omega), ix_nat, List.getElem?_eq_getElem hi]
      simp only [Option.bind_some]
      by_cases h0 : (L o)[i].Id = 0
      · rw [if_pos (by simpa using h0), if_pos (by simp [bad, cI, h0])]; rfl
      · rw [if_neg (by simpa using h0)]
        have tail : ∀ c, (if decide ((L o)[i].State < 1) then some (Sum.inr (.inl ())) else if decide ((L o)[i].State > 6) then some (.inr (.inl ())) else (r11_counts (L o)[i].State (L o)[i].N).bind fun x9 => if !x9 then some (.inr (.inl ())) else some (.inl (w64 ((i : Int) + 1)))) = some (stepL (fun (_ : Option ids_Row) i => i) i (if (decide ((L o)[i].State < 1) || decide ((L o)[i].State > 6) || !cnt (L o)[i].State (L o)[i].N) then (Sum.inr (.inl ()) : Option ids_Row ⊕ (Unit ⊕ Unit)) else .inl c)) := by
          intro c
          rw [rcounts_eq, w64_succ (by omega)]
          simp only [Option.bind_some]
          by_cases h1 : (L o)[i].State < 1
          · simp [h1, stepL]
          · by_cases h2 : (L o)[i].State > 6
            · simp [h1, h2, stepL]
            · cases h3 : cnt (L o)[i].State (L o)[i].N <;> simp [h1, h2, stepL]
        cases i with
        | zero =>
          rw [if_neg (by simp)]
          have e : bad ((prevAt (L o) 0).map cI) (cI (L o)[0]) = (decide ((L o)[0].State < 1) || decide ((L o)[0].State > 6) || !cnt (L o)[0].State (L o)[0].N) := bad_eq _ _ h0 (fun x hx => by cases hx)
          rw [e]
          exact tail (some (cI (L o)[0]))
        | succ j =>
          have hj : j < (L o).length := by omega
          rw [if_pos (by simp), show w64 (((j + 1 : Nat) : Int) - 1) = (j : Int) from by rw [w64_id (by omega) (by omega)]; omega, ix_nat, List.getElem?_eq_getElem hj]
          simp only [Option.bind_some]
          have ep : (prevAt (L o) (j + 1)).map cI = some (cI (L o)[j]) := by
            simp only [prevAt, Nat.add_one_sub_one]
            rw [if_neg (by omega), List.getElem?_eq_getElem hj]
            rfl
          rw [ep]
          by_cases hlt : (L o)[j].Id < (L o)[j + 1].Id
          · rw [if_neg (by simpa using hlt)]
            have e : bad (some (cI (L o)[j])) (cI (L o)[j + 1]) = (decide ((L o)[j + 1].State < 1) || decide ((L o)[j + 1].State > 6) || !cnt (L o)[j + 1].State (L o)[j + 1].N) := bad_eq _ _ h0 (fun x hx => by cases hx; exact hlt)
            rw [e]
            exact tail (some (cI (L o)[j + 1]))
          · rw [if_pos (by simpa using hlt)]
            have e : bad (some (cI (L o)[j])) (cI (L o)[j + 1]) = true := bad_ge _ _ hlt
            rw [if_pos e]
            rfl)
    (fun s i hi s' hI hg => by
      split at hg
      · cases hg
      · simp only [Sum.inl.injEq] at hg
        rw [← hg]
        simp only [prevAt, Nat.add_one_sub_one]
        rw [if_neg (by omega), List.getElem?_eq_getElem hi]
        rfl)
    (fun s hI => by
      simp only [r11_Right_l0, r11_Right_b0]
      rw [if_neg (by simp)])
    none rfl
  rw [this, rright_run]
  cases rightB none ((L o).map cI) <;> rfl
theorem rt_right : ∀ (l : List ids_Row) (p : Option ids_Row), Rt l → (∀ x, p = some x → ∀ a ∈ l, x.Id < a.Id) → rightB p l = true
  | [], p, h, hp => rfl
  | a :: l, p, h, hp => by
    simp only [rightB]
    obtain ⟨r1, r2, r3, r4⟩ := h.row a (by simp)
    have hb : bad p a = false := by
      simp only [bad]
      rw [decide_eq_false r1, decide_eq_false (by omega), decide_eq_false (by omega), r4]
      cases p with
      | none => rfl
      | some x =>
        simp only
        rw [decide_eq_false (show ¬ x.Id ≥ a.Id from UInt16.not_le.2 (hp x rfl a (by simp)))]
        rfl
    rw [hb]
    exact rt_right l (some a) ⟨fun x hx => h.row x (by simp [hx]), (List.pairwise_cons.1 h.asc).2⟩ (fun x hx b hb => by cases hx; exact (List.pairwise_cons.1 h.asc).1 b hb)
-- ---------- how many ----------
def flyN : Int → List ids_Row → Int
  | n, [] => n
  | n, a :: l => flyN (if a.State ≤ 4 then n + 1 else n) l
theorem fly_run : ∀ (l : List ids_Row) (n : Int), runL (fun (n : Int) (a : ids_Row) => (.inl (if a.State ≤ 4 then n + 1 else n) : Int ⊕ Int)) (fun n => n) n l = flyN n l
  | [], n => rfl
  | a :: l, n => fly_run l _
theorem rfly_run : ∀ (l : List ids_Row) (n : Int), runL (fun (n : Int) (a : r11_Row) => (.inl (if a.State ≤ 4 then n + 1 else n) : Int ⊕ Int)) (fun n => n) n (l.map cR) = flyN n l
  | [], n => rfl
  | a :: l, n => rfly_run l _
theorem flying_eq (o : Option (List ids_Row)) (hl : (L o).length ≤ 1000) : ids_Flying o = some (flyN 0 (L o)) := by
  simp only [ids_Flying]
  have := iter_ix (L o) (ids_Flying_l0 o ((L o).length : Int)) (fun (n : Int) i => (n, i)) (fun (n : Int) (a : ids_Row) => (.inl (if a.State ≤ 4 then n + 1 else n) : Int ⊕ Int)) (fun n => n) (fun i s => 0 ≤ s ∧ s ≤ i)
    (fun s i hi hI => by
      simp only [ids_Flying_l0, ids_Flying_b0]
      rw [if_pos (by simp; omega), ix_nat, List.getElem?_eq_getElem hi, w64_succ (by omega)]
      simp only [Option.bind_some]
      by_cases h : (L o)[i].State ≤ 4
      · rw [if_pos (by simpa using h), if_pos h, w64_id (by omega) (by omega)]; rfl
      · rw [if_neg (by simpa using h), if_neg h]; rfl)
    (fun s i hi s' hI hg => by
      simp only [Sum.inl.injEq] at hg
      subst hg
      split <;> omega)
    (fun s hI => by
      simp only [ids_Flying_l0, ids_Flying_b0]
      rw [if_neg (by simp)])
    0 (by omega)
  rw [this, fly_run]
  rfl
theorem rflying_eq (o : Option (List r11_Row)) (l : List ids_Row) (he : L o = l.map cR) (hl : (L o).length ≤ 1000) : r11_Flying o = some (flyN 0 l) := by
  simp only [r11_Flying]
  have := iter_ix (L o) (r11_Flying_l0 o) (fun (n : Int) i => (n, i)) (fun (n : Int) (a : r11_Row) => (.inl (if a.State ≤ 4 then n + 1 else n) : Int ⊕ Int)) (fun n => n) (fun i s => 0 ≤ s ∧ s ≤ i)
    (fun s i hi hI => by
      simp only [r11_Flying_l0, r11_Flying_b0]
      rw [if_pos (by simp; omega), ix_nat, List.getElem?_eq_getElem hi, w64_succ (by omega)]
      simp only [Option.bind_some]
      by_cases h : (L o)[i].State ≤ 4
      · rw [if_pos (by simpa using h), if_pos h, w64_id (by omega) (by omega)]; rfl
      · rw [if_neg (by simpa using h), if_neg h]; rfl)
    (fun s i hi s' hI hg => by
      simp only [Sum.inl.injEq] at hg
      subst hg
      split <;> omega)
    (fun s hI => by
      simp only [r11_Flying_l0, r11_Flying_b0]
      rw [if_neg (by simp)])
    0 (by omega)
  rw [this, he, rfly_run]
  rfl
theorem same_eq (a b : Option (List r11_Row)) (he : L a = L b) (hl : (L a).length ≤ 1000) : r11_Same a b = some true := by
  simp only [r11_Same]
  rw [if_neg (by rw [he]; simp)]
  have := iter_ix (L a) (r11_Same_l0 a b) (fun (_ : Unit) i => i) (fun (_ : Unit) (_ : r11_Row) => (.inl () : Unit ⊕ (Unit ⊕ Unit))) (fun _ => .inr ()) (fun i s => True)
    (fun s i hi hI => by
      simp only [r11_Same_l0, r11_Same_b0]
      rw [if_pos (by simp; omega), ix_nat, ix_nat, ← he, List.getElem?_eq_getElem hi, w64_succ (by omega)]
      simp only [Option.bind_some, decide_true, Bool.and_self, Bool.not_true, Bool.false_eq_true, if_false]
      rfl)
    (fun s i hi s' hI hg => trivial)
    (fun s hI => by
      simp only [r11_Same_l0, r11_Same_b0]
      rw [if_neg (by simp)])
    () trivial
  rw [this]
  have : ∀ l : List r11_Row, runL (fun (_ : Unit) (_ : r11_Row) => (.inl () : Unit ⊕ (Unit ⊕ Unit))) (fun _ => .inr ()) () l = .inr () := by
    intro l
    induction l with
    | nil => rfl
    | cons a l ih => exact ih
  rw [this]
  rfl
end Go.Rv
