/- Plain laws. -/
import Derived.Test.YthabicfefgahkaaDoorAl3
set_option linter.unusedSimpArgs false
set_option linter.unusedVariables false
set_option maxRecDepth 100000
namespace Go.Rv
-- ---------- is it right? ----------
def bad (prev : Option alias_Row) (a : alias_Row) : Bool :=
  decide (a.Alias = 0) || (match prev with | some p => decide (p.Alias ≥ a.Alias) | none => false) || !nameB a.Topic
theorem bad_eq (p : Option alias_Row) (a : alias_Row) (h0 : ¬ a.Alias = 0) (hp : ∀ x, p = some x → x.Alias < a.Alias) : bad p a = !nameB a.Topic := by
  simp only [bad, decide_eq_false h0, Bool.false_or]
  cases p with
  | none => rfl
  | some x =>
    simp only
    rw [decide_eq_false (show ¬ x.Alias ≥ a.Alias from UInt16.not_le.2 (hp x rfl)), Bool.false_or]
theorem bad_ge (x a : alias_Row) (h : ¬ x.Alias < a.Alias) : bad (some x) a = true := by
  simp only [bad]
  rw [decide_eq_true (show x.Alias ≥ a.Alias from UInt16.not_lt.1 h)]
  simp
def rightB : Option alias_Row → List alias_Row → Bool
  | _, [] => true
  | p, a :: l => !bad p a && rightB (some a) l
theorem right_run : ∀ (l : List alias_Row) (p : Option alias_Row), runL (fun (p : Option alias_Row) (a : alias_Row) => if bad p a then (Sum.inr (.inl a) : Option alias_Row ⊕ (alias_Row ⊕ Unit)) else .inl (some a)) (fun _ => .inr ()) p l = .inr () ∧ rightB p l = true ∨ (∃ a, runL (fun (p : Option alias_Row) (a : alias_Row) => if bad p a then (Sum.inr (.inl a) : Option alias_Row ⊕ (alias_Row ⊕ Unit)) else .inl (some a)) (fun _ => .inr ()) p l = .inl a) ∧ rightB p l = false
  | [], p => .inl ⟨rfl, rfl⟩
  | a :: l, p => by
    simp only [runL, rightB]
    by_cases h : bad p a = true
    · right
      rw [if_pos h, h]
      exact ⟨⟨a, rfl⟩, rfl⟩
    · rw [if_neg h]
      have : bad p a = false := by simpa using h
      rw [this]
      exact right_run l (some a)
theorem rright_run : ∀ (l : List r12_Row) (p : Option alias_Row), runL (fun (p : Option alias_Row) (a : r12_Row) => if bad p (cI a) then (Sum.inr (.inl ()) : Option alias_Row ⊕ (Unit ⊕ Unit)) else .inl (some (cI a))) (fun _ => .inr ()) p l = if rightB p (l.map cI) then .inr () else .inl ()
  | [], p => rfl
  | a :: l, p => by
    simp only [runL, List.map_cons, rightB]
    by_cases h : bad p (cI a) = true
    · rw [if_pos h, h]
      rfl
    · rw [if_neg h]
      have : bad p (cI a) = false := by simpa using h
      rw [this]
      exact rright_run l (some (cI a))
def prevAt {α : Type} (l : List α) (i : Nat) : Option α := if i = 0 then none else l[i - 1]?
theorem right_eq (o : Option (List alias_Row)) (hl : (L o).length ≤ 1000) (ht : ∀ x ∈ L o, x.Topic.length ≤ 1000) : alias_Right o = some (rightB none (L o)) := by
  simp only [alias_Right]
  have := iter_ix (L o) (alias_Right_l0 o o ((L o).length : Int)) (fun (_ : Option alias_Row) i => i) (fun (p : Option alias_Row) (a : alias_Row) => if bad p a then (Sum.inr (.inl a) : Option alias_Row ⊕ (alias_Row ⊕ Unit)) else .inl (some a)) (fun _ => .inr ()) (fun i s => s = prevAt (L o) i)
    (fun s i hi hI => by
      subst hI
      simp only [alias_Right_l0, alias_Right_b0]
      rw [if_pos (by simp; omega), ix_nat, List.getElem?_eq_getElem hi]
      simp only [Option.bind_some]
      by_cases h0 : (L o)[i].Alias = 0
      · rw [if_pos (by simpa using h0), if_pos (by simp [bad, h0])]; rfl
      · rw [if_neg (by simpa using h0)]
        have tail : ∀ c, ((topic_Name (L o)[i].Topic).bind fun x9 => if !x9 then some (Sum.inr (.inl (L o)[i])) else some (.inl (w64 ((i : Int) + 1)))) = some (stepL (fun (_ : Option alias_Row) i => i) i (if !nameB (L o)[i].Topic then (Sum.inr (.inl (L o)[i]) : Option alias_Row ⊕ (alias_Row ⊕ Unit)) else .inl c)) := by
          intro c
          rw [tName_eq _ (ht _ (List.getElem_mem _)), w64_succ (by omega)]
          simp only [Option.bind_some]
          cases h3 : nameB (L o)[i].Topic <;> simp [stepL]
        cases i with
        | zero =>
          rw [if_neg (by simp), bad_eq _ _ h0 (fun x hx => by cases hx)]
          exact tail (some (L o)[0])
        | succ j =>
          have hj : j < (L o).length := by omega
          rw [if_pos (by simp), show w64 (((j + 1 : Nat) : Int) - 1) = (j : Int) from by rw [w64_id (by omega) (by omega)]; omega, ix_nat, List.getElem?_eq_getElem hj]
          simp only [Option.bind_some]
          rw [order_eq]
          simp only [Option.bind_some]
          have ep : prevAt (L o) (j + 1) = some (L o)[j] := by
            simp only [prevAt, Nat.add_one_sub_one]
            rw [if_neg (by omega), List.getElem?_eq_getElem hj]
          rw [ep]
          by_cases hlt : (L o)[j].Alias < (L o)[j + 1].Alias
          · rw [if_pos hlt, if_neg (by decide), bad_eq _ _ h0 (fun x hx => by cases hx; exact hlt)]
            exact tail (some (L o)[j + 1])
          · rw [if_neg hlt, if_pos (by split <;> decide), if_pos (bad_ge _ _ hlt)]
            rfl)
    (fun s i hi s' hI hg => by
      split at hg
      · cases hg
      · simp only [Sum.inl.injEq] at hg
        rw [← hg]
        simp only [prevAt, Nat.add_one_sub_one]
        rw [if_neg (by omega), List.getElem?_eq_getElem hi])
    (fun s hI => by
      simp only [alias_Right_l0, alias_Right_b0]
      rw [if_neg (by simp)])
    none rfl
  rw [this]
  rcases right_run (L o) none with ⟨e1, e2⟩ | ⟨⟨a, e1⟩, e2⟩
  · rw [e1, e2]; rfl
  · rw [e1, e2]; rfl
theorem rright_eq (o : Option (List r12_Row)) (hl : (L o).length ≤ 1000) (ht : ∀ x ∈ L o, x.Topic.length ≤ 1000) : r12_Right o = some (rightB none ((L o).map cI)) := by
  simp only [r12_Right]
  have := iter_ix (L o) (r12_Right_l0 o) (fun (_ : Option alias_Row) i => i) (fun (p : Option alias_Row) (a : r12_Row) => if bad p (cI a) then (Sum.inr (.inl ()) : Option alias_Row ⊕ (Unit ⊕ Unit)) else .inl (some (cI a))) (fun _ => .inr ()) (fun i s => s = (prevAt (L o) i).map cI)
    (fun s i hi hI => by
      subst hI
      simp only [r12_Right_l0, r12_Right_b0]
      rw [if_pos (by simp; omega), ix_nat, List.getElem?_eq_getElem hi]
      simp only [Option.bind_some]
      by_cases h0 : (L o)[i].Alias = 0
      · rw [if_pos (by simpa using h0), if_pos (by simp [bad, cI, h0])]; rfl
      · rw [if_neg (by simpa using h0)]
        have tail : ∀ c, ((r04_Name (L o)[i].Topic).bind fun x9 => if !x9 then some (Sum.inr (.inl ())) else some (.inl (w64 ((i : Int) + 1)))) = some (stepL (fun (_ : Option alias_Row) i => i) i (if !nameB (L o)[i].Topic then (Sum.inr (.inl ()) : Option alias_Row ⊕ (Unit ⊕ Unit)) else .inl c)) := by
          intro c
          rw [rName_eq _ (ht _ (List.getElem_mem _)), w64_succ (by omega)]
          simp only [Option.bind_some]
          cases h3 : nameB (L o)[i].Topic <;> simp [stepL]
        cases i with
        | zero =>
          rw [if_neg (by simp)]
          rw [show bad ((prevAt (L o) 0).map cI) (cI (L o)[0]) = !nameB (L o)[0].Topic from bad_eq _ _ h0 (fun x hx => by cases hx)]
          exact tail (some (cI (L o)[0]))
        | succ j =>
          have hj : j < (L o).length := by omega
          rw [if_pos (by simp), show w64 (((j + 1 : Nat) : Int) - 1) = (j : Int) from by rw [w64_id (by omega) (by omega)]; omega, ix_nat, List.getElem?_eq_getElem hj]
          simp only [Option.bind_some]
          have ep : (prevAt (L o) (j + 1)).map cI = some (cI (L o)[j]) := by
            simp only [prevAt, Nat.add_one_sub_one]
            rw [if_neg (by omega), List.getElem?_eq_getElem hj]
            rfl
          rw [ep]
          by_cases hlt : (L o)[j].Alias < (L o)[j + 1].Alias
          · rw [if_neg (by simpa using hlt), show bad (some (cI (L o)[j])) (cI (L o)[j + 1]) = !nameB (L o)[j + 1].Topic from bad_eq _ _ h0 (fun x hx => by cases hx; exact hlt)]
            exact tail (some (cI (L o)[j + 1]))
          · rw [if_pos (by simpa using hlt), if_pos (bad_ge _ _ hlt)]
            rfl)
    (fun s i hi s' hI hg => by
      split at hg
      · cases hg
      · simp only [Sum.inl.injEq] at hg
        rw [← hg]
        simp only [prevAt, Nat.add_one_sub_one]
        rw [if_neg (by omega), List.getElem?_eq_getElem hi]
        rfl)
    (fun s hI => by
      simp only [r12_Right_l0, r12_Right_b0]
      rw [if_neg (by simp)])
    none rfl
  rw [this, rright_run]
  cases rightB none ((L o).map cI) <;> rfl
def okRow (x : alias_Row) : Prop := x.Alias ≠ 0 ∧ x.Topic.length ≤ 200 ∧ nameB x.Topic = true
/-- A Table that may be. -/
structure Rt (l : List alias_Row) : Prop where
  row : ∀ x ∈ l, okRow x
  asc : l.Pairwise (fun a b => a.Alias < b.Alias)
theorem rt_right : ∀ (l : List alias_Row) (p : Option alias_Row), Rt l → (∀ x, p = some x → ∀ a ∈ l, x.Alias < a.Alias) → rightB p l = true
  | [], p, h, hp => rfl
  | a :: l, p, h, hp => by
    simp only [rightB]
    obtain ⟨r1, r2, r3⟩ := h.row a (by simp)
    have hb : bad p a = false := by
      rw [bad_eq _ _ r1 (fun x hx => hp x hx a (by simp)), r3]
      rfl
    rw [hb]
    exact rt_right l (some a) ⟨fun x hx => h.row x (by simp [hx]), (List.pairwise_cons.1 h.asc).2⟩ (fun x hx b hb => by cases hx; exact (List.pairwise_cons.1 h.asc).1 b hb)
theorem same_eq (a b : Option (List r12_Row)) (he : L a = L b) (hl : (L a).length ≤ 1000) : r12_Same a b = some true := by
  simp only [r12_Same]
  rw [if_neg (by rw [he]; simp)]
  have := iter_ix (L a) (r12_Same_l0 a b) (fun (_ : Unit) i => i) (fun (_ : Unit) (_ : r12_Row) => (.inl () : Unit ⊕ (Unit ⊕ Unit))) (fun _ => .inr ()) (fun i s => True)
    (fun s i hi hI => by
      simp only [r12_Same_l0, r12_Same_b0]
      rw [if_pos (by simp; omega), ix_nat, ix_nat, ← he, List.getElem?_eq_getElem hi, w64_succ (by omega)]
      simp only [Option.bind_some, decide_true, Bool.and_self, Bool.not_true, Bool.false_eq_true, if_false]
      rfl)
    (fun s i hi s' hI hg => trivial)
    (fun s hI => by
      simp only [r12_Same_l0, r12_Same_b0]
      rw [if_neg (by simp)])
    () trivial
  rw [this]
  have : ∀ l : List r12_Row, runL (fun (_ : Unit) (_ : r12_Row) => (.inl () : Unit ⊕ (Unit ⊕ Unit))) (fun _ => .inr ()) () l = .inr () := by
    intro l
    induction l with
    | nil => rfl
    | cons a l ih => exact ih
  rw [this]
  rfl

-- ---------- what a number stands for ----------
theorem find_run (id : UInt16) : ∀ l : List r12_Row, runL (fun (_ : Unit) (a : r12_Row) => if a.Alias = id then (Sum.inr (.inl a.Topic) : Unit ⊕ (List UInt8 ⊕ Unit)) else .inl ()) (fun _ => .inr ()) () l = match l.find? (fun a => decide (a.Alias = id)) with | some a => .inl a.Topic | none => .inr ()
  | [] => rfl
  | a :: l => by
    simp only [runL, List.find?_cons]
    by_cases h : a.Alias = id
    · rw [if_pos h, decide_eq_true h]
    · rw [if_neg h, decide_eq_false h]
      exact find_run id l
def getL (l : List r12_Row) (id : UInt16) : List UInt8 × Bool := match l.find? (fun a => decide (a.Alias = id)) with | some a => (a.Topic, true) | none => ([], false)
theorem rget_eq (w : Option (List r12_Row)) (id : UInt16) (hl : (L w).length ≤ 1000) : r12_Get w id = some (getL (L w) id) := by
  simp only [r12_Get]
  have := iter_ix (L w) (r12_Get_l0 w id) (fun (_ : Unit) i => i) (fun (_ : Unit) (a : r12_Row) => if a.Alias = id then (Sum.inr (.inl a.Topic) : Unit ⊕ (List UInt8 ⊕ Unit)) else .inl ()) (fun _ => .inr ()) (fun i s => True)
    (fun s i hi hI => by
      simp only [r12_Get_l0, r12_Get_b0]
      rw [if_pos (by simp; omega), ix_nat, List.getElem?_eq_getElem hi]
      simp only [Option.bind_some]
      by_cases h : (L w)[i].Alias = id
      · rw [if_pos (by simpa using h), if_pos h]; rfl
      · rw [if_neg (by simpa using h), if_neg h, w64_succ (by omega)]; rfl)
    (fun s i hi s' hI hg => trivial)
    (fun s hI => by
      simp only [r12_Get_l0, r12_Get_b0]
      rw [if_neg (by simp)])
    () trivial
  rw [this, find_run]
  simp only [Option.bind_some, getL]
  cases (L w).find? (fun a => decide (a.Alias = id)) <;> rfl
theorem getL_nf (l : List r12_Row) (id : UInt16) (h : ∀ a ∈ l, a.Alias ≠ id) : getL l id = ([], false) := by
  simp only [getL]
  rw [List.find?_eq_none.2 (fun x hx => by simpa using h x hx)]
theorem getL_f (A B : List r12_Row) (m : r12_Row) (id : UInt16) (hA : ∀ a ∈ A, a.Alias ≠ id) (hm : m.Alias = id) : getL (A ++ m :: B) id = (m.Topic, true) := by
  simp only [getL]
  rw [List.find?_append, List.find?_eq_none.2 (fun x hx => by simpa using hA x hx)]
  simp [hm]
theorem get_nf (o : Option (List alias_Row)) (id : UInt16) {i : Int} (hf : alias_find o id = some (i, false)) : alias_Get o id = some ([], false) := by
  simp only [alias_Get, hf, Option.bind_some]
  rfl
theorem get_f (o : Option (List alias_Row)) (id : UInt16) (A B : List alias_Row) (m : alias_Row) (he : L o = A ++ m :: B) (hf : alias_find o id = some ((A.length : Int), true)) : alias_Get o id = some (m.Topic, true) := by
  simp only [alias_Get, hf, Option.bind_some]
  rw [if_neg (by simp), ix_nat, he]
  simp
-- ---------- the use of a number ----------
def use_in {ρ : Type} (x11 : List alias_Row) (x9 : Int) (x10 : Bool) (x7 : UInt16) (x8 : List UInt8) (k4_ : (List alias_Row) → Option ρ) (k5_ : Nat → (List UInt8) → Nat → Nat → (List alias_Row) → Option ρ) (k6_ : Nat → (List alias_Row) → Option ρ) (k7_ : (Option (List alias_Row)) → Option ρ) : Option ρ :=
  if decide (x8 = []) then if !x10 then k4_ x11 else if decide (x8 = []) then (chk (decide (0 ≤ x9 ∧ x9 < ((x11.length : Nat) : Int)))).bind fun _ => (ix x11 x9).bind fun x20 => k5_ x11.length x20.Topic x11.length x11.length x11 else if x10 then (chk (decide (0 ≤ x9 ∧ x9 < ((x11.length : Nat) : Int)))).bind fun _ => ((ix x11 x9).bind fun x21 => some (⟨x21.Alias, x8⟩ : alias_Row)).bind fun x22 => k6_ x11.length (setR x11 x9.toNat x22) else (insF x11 x11.length x9 (some [(⟨x7, x8⟩ : alias_Row)])).bind fun x23 => k7_ (some x23) else if decide (x8 = []) then (chk (decide (0 ≤ x9 ∧ x9 < ((x11.length : Nat) : Int)))).bind fun _ => (ix x11 x9).bind fun x24 => k5_ x11.length x24.Topic x11.length x11.length x11 else if x10 then (chk (decide (0 ≤ x9 ∧ x9 < ((x11.length : Nat) : Int)))).bind fun _ => ((ix x11 x9).bind fun x25 => some (⟨x25.Alias, x8⟩ : alias_Row)).bind fun x26 => k6_ x11.length (setR x11 x9.toNat x26) else (insF x11 x11.length x9 (some [(⟨x7, x8⟩ : alias_Row)])).bind fun x27 => k7_ (some x27)

end Go.Rv
