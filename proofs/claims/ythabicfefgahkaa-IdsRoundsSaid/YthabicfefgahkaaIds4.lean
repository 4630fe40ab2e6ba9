/- Plain laws. -/
import Derived.Test.YthabicfefgahkaaIds3
set_option linter.unusedSimpArgs false
set_option linter.unusedVariables false
set_option maxRecDepth 100000
namespace Go.Rv
-- ---------- the document's own ----------
theorem find_run (id : UInt16) : ∀ l : List r11_Row, runL (fun (_ : Unit) (a : r11_Row) => if a.Id = id then (Sum.inr (.inl a) : Unit ⊕ (r11_Row ⊕ Unit)) else .inl ()) (fun _ => .inr ()) () l = match l.find? (fun a => decide (a.Id = id)) with | some a => .inl a | none => .inr ()
  | [] => rfl
  | a :: l => by
    simp only [runL, List.find?_cons]
    by_cases h : a.Id = id
    · rw [if_pos h, decide_eq_true h]
    · rw [if_neg h, decide_eq_false h]
      exact find_run id l
def ofL (l : List r11_Row) (id : UInt16) : r11_Row := (l.find? (fun a => decide (a.Id = id))).getD ⟨0, 0, 0⟩
theorem of_eq (w : Option (List r11_Row)) (id : UInt16) (hl : (L w).length ≤ 1000) : r11_Of w id = some (ofL (L w) id) := by
  simp only [r11_Of]
  have := iter_ix (L w) (r11_Of_l0 w id) (fun (_ : Unit) i => i) (fun (_ : Unit) (a : r11_Row) => if a.Id = id then (Sum.inr (.inl a) : Unit ⊕ (r11_Row ⊕ Unit)) else .inl ()) (fun _ => .inr ()) (fun i s => True)
    (fun s i hi hI => by
      simp only [r11_Of_l0, r11_Of_b0]
      rw [if_pos (by simp; omega), ix_nat, List.getElem?_eq_getElem hi]
      simp only [Option.bind_some]
      by_cases h : (L w)[i].Id = id
      · rw [if_pos (by simpa using h), if_pos h]; rfl
      · rw [if_neg (by simpa using h), if_neg h, w64_succ (by omega)]; rfl)
    (fun s i hi s' hI hg => trivial)
    (fun s hI => by
      simp only [r11_Of_l0, r11_Of_b0]
      rw [if_neg (by simp)])
    () trivial
  rw [this, find_run]
  simp only [Option.bind_some, ofL]
  cases (L w).find? (fun a => decide (a.Id = id)) <;> rfl
theorem ofL_nf (l : List r11_Row) (id : UInt16) (h : ∀ a ∈ l, a.Id ≠ id) : ofL l id = ⟨0, 0, 0⟩ := by
  simp only [ofL]
  rw [List.find?_eq_none.2 (fun x hx => by simpa using h x hx)]
  rfl
theorem ofL_f (A B : List r11_Row) (m : r11_Row) (id : UInt16) (hA : ∀ a ∈ A, a.Id ≠ id) (hm : m.Id = id) : ofL (A ++ m :: B) id = m := by
  simp only [ofL]
  rw [List.find?_append, List.find?_eq_none.2 (fun x hx => by simpa using hA x hx)]
  simp [hm]
-- with
abbrev WS := Option (List r11_Row) × Bool
def wG (id : UInt16) (x : r11_Row) (s : WS) (a : r11_Row) : WS ⊕ WS :=
  let s1 : WS := if s.2 = false ∧ a.Id ≥ id then (some (L s.1 ++ [x]), true) else s
  .inl (if a.Id = id then s1 else (some (L s1.1 ++ [a]), s1.2))
theorem wG_tt (id : UInt16) (x a : r11_Row) (acc : Option (List r11_Row)) : wG id x (acc, true) a = .inl (if a.Id = id then (acc, true) else (some (L acc ++ [a]), true)) := by
  unfold wG
  rw [if_neg (show ¬ ((acc, true).2 = false ∧ a.Id ≥ id) from fun h => by cases h.1)]
theorem wG_ge (id : UInt16) (x a : r11_Row) (acc : Option (List r11_Row)) (h : a.Id ≥ id) : wG id x (acc, false) a = .inl (if a.Id = id then (some (L acc ++ [x]), true) else (some (L (some (L acc ++ [x])) ++ [a]), true)) := by
  unfold wG
  rw [if_pos (show ((acc, false).2 = false ∧ a.Id ≥ id) from ⟨rfl, h⟩)]
theorem wG_no (id : UInt16) (x a : r11_Row) (acc : Option (List r11_Row)) (h : ¬ a.Id ≥ id) : wG id x (acc, false) a = .inl (if a.Id = id then (acc, false) else (some (L acc ++ [a]), false)) := by
  unfold wG
  rw [if_neg (show ¬ ((acc, false).2 = false ∧ a.Id ≥ id) from fun q => h q.2)]
theorem with_run (w : Option (List r11_Row)) (id : UInt16) (x : r11_Row) (hl : (L w).length ≤ 1000) (s : WS) (h0 : (L s.1).length = 0) :
    iter (r11_with_l0 w id x) (s.1, s.2, 0) = some (runL (wG id x) (fun s => s) s (L w)) := by
  refine iter_ix (L w) (r11_with_l0 w id x) (fun (s : WS) i => (s.1, s.2, i)) (wG id x) (fun s => s) (fun i s => (L s.1).length ≤ 2 * i) ?_ ?_ ?_ s (by omega)
  · intro s i hi hI
    obtain ⟨acc, dn⟩ := s
    have hI : (L acc).length ≤ 2 * i := hI
    simp only [r11_with_l0, r11_with_b0]
    rw [if_pos (by simp; omega)]
    have tail : ∀ (acc : Option (List r11_Row)) (dn : Bool), (L acc).length ≤ 2 * i + 1 →
        r11_with_c2 w id acc (i : Int) (fun x35 => some (Sum.inl (x35, dn, w64 ((i : Int) + 1)))) (some (Sum.inl (acc, dn, w64 ((i : Int) + 1)))) =
        some (stepL (fun (s : WS) i => (s.1, s.2, i)) i (.inl (if (L w)[i].Id = id then (acc, dn) else (some (L acc ++ [(L w)[i]]), dn)) : WS ⊕ WS)) := by
      intro acc dn hb
      simp only [r11_with_c2]
      rw [ix_nat, List.getElem?_eq_getElem hi, w64_succ (by omega)]
      simp only [Option.bind_some]
      by_cases h : (L w)[i].Id = id
      · rw [if_neg (by simp [h]), if_pos h]; rfl
      · rw [if_pos (by simp [h]), if_neg h, appO_ne (by simp [room]; omega) (by simp [room]; omega)]
        rfl
    cases dn with
    | true =>
      rw [if_neg (by simp)]
      simp only [r11_with_c1]
      rw [if_neg (by simp), tail acc true (by omega)]
      rw [wG_tt]
    | false =>
      rw [if_pos (by simp), ix_nat, List.getElem?_eq_getElem hi]
      simp only [Option.bind_some, r11_with_c1]
      by_cases h : (L w)[i].Id ≥ id
      · rw [if_pos (by simpa using h), appO_ne (by simp [room]; omega) (by simp [room]; omega)]
        simp only [Option.bind_some]
        rw [tail (some (L acc ++ [x])) true (by simp [L] at hI ⊢; omega)]
        rw [wG_ge _ _ _ _ h]
      · rw [if_neg (by simpa using h), tail acc false (by omega)]
        rw [wG_no _ _ _ _ h]
  · intro s i hi s' hI hg
    simp only [wG, Sum.inl.injEq] at hg
    subst hg
    split <;> split <;> (simp only [L, Option.getD_some, List.length_append, List.length_cons, List.length_nil] at hI ⊢; omega)
  · intro s hI
    simp only [r11_with_l0, r11_with_b0]
    rw [if_neg (by simp)]
theorem wG_lt (id : UInt16) (x : r11_Row) : ∀ (A rest : List r11_Row) (s : WS), (∀ a ∈ A, a.Id < id) → ∃ s' : WS, runL (wG id x) (fun s => s) s (A ++ rest) = runL (wG id x) (fun s => s) s' rest ∧ L s'.1 = L s.1 ++ A ∧ s'.2 = s.2
  | [], rest, s, _ => ⟨s, rfl, by simp, rfl⟩
  | a :: A, rest, s, h => by
    have ha : a.Id < id := h a (by simp)
    have h1 : ¬ a.Id ≥ id := fun q => UInt16.lt_irrefl _ (UInt16.lt_of_lt_of_le ha q)
    have h2 : ¬ a.Id = id := fun q => by rw [q] at ha; exact UInt16.lt_irrefl _ ha
    obtain ⟨s', e1, e2, e3⟩ := wG_lt id x A rest (some (L s.1 ++ [a]), s.2) (fun b hb => h b (by simp [hb]))
    refine ⟨s', ?_, by rw [e2]; simp [L], e3⟩
    rw [List.cons_append]
    obtain ⟨acc, dn⟩ := s
    simp only [runL]
    cases dn with
    | true => rw [wG_tt, if_neg h2]; exact e1
    | false => rw [wG_no _ _ _ _ h1, if_neg h2]; exact e1
theorem wG_gt (id : UInt16) (x : r11_Row) : ∀ (B : List r11_Row) (acc : Option (List r11_Row)), (∀ b ∈ B, id < b.Id) → ∃ o, runL (wG id x) (fun s => s) (acc, true) B = (o, true) ∧ L o = L acc ++ B
  | [], acc, _ => ⟨acc, rfl, by simp⟩
  | b :: B, acc, h => by
    have hb : id < b.Id := h b (by simp)
    have h2 : ¬ b.Id = id := fun q => by rw [q] at hb; exact UInt16.lt_irrefl _ hb
    obtain ⟨o, e1, e2⟩ := wG_gt id x B (some (L acc ++ [b])) (fun b hb => h b (by simp [hb]))
    refine ⟨o, ?_, by rw [e2]; simp [L]⟩
    simp only [runL]
    rw [wG_tt, if_neg h2]
    exact e1
theorem with_del (w : Option (List r11_Row)) (id : UInt16) (A B : List r11_Row) (m : r11_Row) (he : L w = A ++ m :: B) (hm : m.Id = id) (hA : ∀ a ∈ A, a.Id < id) (hB : ∀ b ∈ B, id < b.Id) (hl : (L w).length ≤ 1000) :
    ∃ o, r11_with w id ⟨0, 0, 0⟩ = some o ∧ L o = A ++ B := by
  simp only [r11_with, decide_true]
  rw [show iter (r11_with_l0 w id ⟨0, 0, 0⟩) (none, true, 0) = _ from with_run w id ⟨0, 0, 0⟩ hl (none, true) rfl]
  obtain ⟨s', e1, e2, e3⟩ := wG_lt id ⟨0, 0, 0⟩ A (m :: B) (none, true) hA
  rw [he, e1]
  obtain ⟨acc, dn⟩ := s'
  have e3 : dn = true := e3
  subst e3
  obtain ⟨o, f1, f2⟩ := wG_gt id ⟨0, 0, 0⟩ B acc hB
  refine ⟨o, ?_, by rw [f2, show L acc = _ from e2]; rfl⟩
  simp only [runL]
  rw [wG_tt, if_pos hm]
  simp only
  rw [f1]
  rfl
theorem with_turn (w : Option (List r11_Row)) (id : UInt16) (x : r11_Row) (hx : x.Id ≠ 0) (A B : List r11_Row) (m : r11_Row) (he : L w = A ++ m :: B) (hm : m.Id = id) (hA : ∀ a ∈ A, a.Id < id) (hB : ∀ b ∈ B, id < b.Id) (hl : (L w).length ≤ 1000) :
    ∃ o, r11_with w id x = some o ∧ L o = A ++ x :: B := by
  simp only [r11_with]
  rw [decide_eq_false hx, show iter (r11_with_l0 w id x) (none, false, 0) = _ from with_run w id x hl (none, false) rfl]
  obtain ⟨s', e1, e2, e3⟩ := wG_lt id x A (m :: B) (none, false) hA
  rw [he, e1]
  obtain ⟨acc, dn⟩ := s'
  have e3 : dn = false := e3
  subst e3
  obtain ⟨o, f1, f2⟩ := wG_gt id x B (some (L acc ++ [x])) hB
  refine ⟨o, ?_, by rw [f2]; simp [L] at e2 ⊢; rw [e2]⟩
  simp only [runL]
  rw [wG_ge _ _ _ _ (by rw [hm]; exact UInt16.le_refl _), if_pos hm]
  simp only
  rw [f1]
  rfl
theorem with_new (w : Option (List r11_Row)) (id : UInt16) (x : r11_Row) (hx : x.Id ≠ 0) (A B : List r11_Row) (he : L w = A ++ B) (hA : ∀ a ∈ A, a.Id < id) (hB : ∀ b ∈ B, id < b.Id) (hl : (L w).length ≤ 1000) :
    ∃ o, r11_with w id x = some o ∧ L o = A ++ x :: B := by
  simp only [r11_with]
  rw [decide_eq_false hx, show iter (r11_with_l0 w id x) (none, false, 0) = _ from with_run w id x hl (none, false) rfl]
  have hlen : (L w).length = A.length + B.length := by rw [he]; simp
  obtain ⟨s', e1, e2, e3⟩ := wG_lt id x A B (none, false) hA
  rw [he, e1]
  obtain ⟨acc, dn⟩ := s'
  have e3 : dn = false := e3
  subst e3
  have e2 : L acc = A := e2
  cases B with
  | nil =>
    refine ⟨some (A ++ [x]), ?_, rfl⟩
    simp only [runL, Option.bind_some]
    rw [if_pos (by simp), appO_ne (by rw [e2]; simp [room]; omega) (by rw [e2]; simp [room]; omega), e2]
    rfl
  | cons b B =>
    have hb : id < b.Id := hB b (by simp)
    have h2 : ¬ b.Id = id := fun q => by rw [q] at hb; exact UInt16.lt_irrefl _ hb
    obtain ⟨o, f1, f2⟩ := wG_gt id x B (some (L (some (L acc ++ [x])) ++ [b])) (fun b hb => hB b (by simp [hb]))
    refine ⟨o, ?_, by rw [f2]; simp [L] at e2 ⊢; rw [e2]⟩
    simp only [runL]
    rw [wG_ge _ _ _ _ (UInt16.le_of_lt hb), if_neg h2]
    simp only
    rw [f1]
    rfl
end Go.Rv
