/- Plain laws. -/
import Derived.Test.YthabicfefgahkaaDoorAl2
set_option linter.unusedSimpArgs false
set_option linter.unusedVariables false
set_option maxRecDepth 100000
namespace Go.Rv
-- with
abbrev WS := Option (List r12_Row) × Bool
def wG (id : UInt16) (x : r12_Row) (s : WS) (a : r12_Row) : WS ⊕ WS :=
  let s1 : WS := if s.2 = false ∧ a.Alias ≥ id then (some (L s.1 ++ [x]), true) else s
  .inl (if a.Alias = id then s1 else (some (L s1.1 ++ [a]), s1.2))
theorem wG_tt (id : UInt16) (x a : r12_Row) (acc : Option (List r12_Row)) : wG id x (acc, true) a = .inl (if a.Alias = id then (acc, true) else (some (L acc ++ [a]), true)) := by
  unfold wG
  rw [if_neg (show ¬ ((acc, true).2 = false ∧ a.Alias ≥ id) from fun h => by cases h.1)]
theorem wG_ge (id : UInt16) (x a : r12_Row) (acc : Option (List r12_Row)) (h : a.Alias ≥ id) : wG id x (acc, false) a = .inl (if a.Alias = id then (some (L acc ++ [x]), true) else (some (L (some (L acc ++ [x])) ++ [a]), true)) := by
  unfold wG
  rw [if_pos (show ((acc, false).2 = false ∧ a.Alias ≥ id) from ⟨rfl, h⟩)]
theorem wG_no (id : UInt16) (x a : r12_Row) (acc : Option (List r12_Row)) (h : ¬ a.Alias ≥ id) : wG id x (acc, false) a = .inl (if a.Alias = id then (acc, false) else (some (L acc ++ [a]), false)) := by
  unfold wG
  rw [if_neg (show ¬ ((acc, false).2 = false ∧ a.Alias ≥ id) from fun q => h q.2)]
theorem with_run (w : Option (List r12_Row)) (id : UInt16) (nm : List UInt8) (hl : (L w).length ≤ 1000) (s : WS) (h0 : (L s.1).length = 0) :
    iter (r12_Use_l1 w id nm) (s.1, s.2, 0) = some (runL (wG id ⟨id, nm⟩) (fun s => s) s (L w)) := by
  refine iter_ix (L w) (r12_Use_l1 w id nm) (fun (s : WS) i => (s.1, s.2, i)) (wG id ⟨id, nm⟩) (fun s => s) (fun i s => (L s.1).length ≤ 2 * i) ?_ ?_ ?_ s (by omega)
  · intro s i hi hI
    obtain ⟨acc, dn⟩ := s
    have hI : (L acc).length ≤ 2 * i := hI
    simp only [r12_Use_l1, r12_Use_b1]
    rw [if_pos (by simp; omega)]
    have tail : ∀ (acc : Option (List r12_Row)) (dn : Bool), (L acc).length ≤ 2 * i + 1 →
        r12_Use_c3 w id acc (i : Int) (fun x35 => some (Sum.inl (x35, dn, w64 ((i : Int) + 1)))) (some (Sum.inl (acc, dn, w64 ((i : Int) + 1)))) =
        some (stepL (fun (s : WS) i => (s.1, s.2, i)) i (.inl (if (L w)[i].Alias = id then (acc, dn) else (some (L acc ++ [(L w)[i]]), dn)) : WS ⊕ WS)) := by
      intro acc dn hb
      simp only [r12_Use_c3]
      rw [ix_nat, List.getElem?_eq_getElem hi, w64_succ (by omega)]
      simp only [Option.bind_some]
      by_cases h : (L w)[i].Alias = id
      · rw [if_neg (by simp [h]), if_pos h]; rfl
      · rw [if_pos (by simp [h]), if_neg h, appO_ne (by simp [room]; omega) (by simp [room]; omega)]
        rfl
    cases dn with
    | true =>
      rw [if_neg (by simp)]
      simp only [r12_Use_c2]
      rw [if_neg (by simp), tail acc true (by omega)]
      rw [wG_tt]
    | false =>
      rw [if_pos (by simp), ix_nat, List.getElem?_eq_getElem hi]
      simp only [Option.bind_some, r12_Use_c2]
      by_cases h : (L w)[i].Alias ≥ id
      · rw [if_pos (by simpa using h), appO_ne (by simp [room]; omega) (by simp [room]; omega)]
        simp only [Option.bind_some]
        rw [tail (some (L acc ++ [(⟨id, nm⟩ : r12_Row)])) true (by simp [L] at hI ⊢; omega)]
        rw [wG_ge _ _ _ _ h]
      · rw [if_neg (by simpa using h), tail acc false (by omega)]
        rw [wG_no _ _ _ _ h]
  · intro s i hi s' hI hg
    simp only [wG, Sum.inl.injEq] at hg
    subst hg
    split <;> split <;> (simp only [L, Option.getD_some, List.length_append, List.length_cons, List.length_nil] at hI ⊢; omega)
  · intro s hI
    simp only [r12_Use_l1, r12_Use_b1]
    rw [if_neg (by simp)]
theorem wG_lt (id : UInt16) (x : r12_Row) : ∀ (A rest : List r12_Row) (s : WS), (∀ a ∈ A, a.Alias < id) → ∃ s' : WS, runL (wG id x) (fun s => s) s (A ++ rest) = runL (wG id x) (fun s => s) s' rest ∧ L s'.1 = L s.1 ++ A ∧ s'.2 = s.2
  | [], rest, s, _ => ⟨s, rfl, by simp, rfl⟩
  | a :: A, rest, s, h => by
    have ha : a.Alias < id := h a (by simp)
    have h1 : ¬ a.Alias ≥ id := fun q => UInt16.lt_irrefl _ (UInt16.lt_of_lt_of_le ha q)
    have h2 : ¬ a.Alias = id := fun q => by rw [q] at ha; exact UInt16.lt_irrefl _ ha
    obtain ⟨s', e1, e2, e3⟩ := wG_lt id x A rest (some (L s.1 ++ [a]), s.2) (fun b hb => h b (by simp [hb]))
    refine ⟨s', ?_, by rw [e2]; simp [L], e3⟩
    rw [List.cons_append]
    obtain ⟨acc, dn⟩ := s
    simp only [runL]
    cases dn with
    | true => rw [wG_tt, if_neg h2]; exact e1
    | false => rw [wG_no _ _ _ _ h1, if_neg h2]; exact e1
theorem wG_gt (id : UInt16) (x : r12_Row) : ∀ (B : List r12_Row) (acc : Option (List r12_Row)), (∀ b ∈ B, id < b.Alias) → ∃ o, runL (wG id x) (fun s => s) (acc, true) B = (o, true) ∧ L o = L acc ++ B
  | [], acc, _ => ⟨acc, rfl, by simp⟩
  | b :: B, acc, h => by
    have hb : id < b.Alias := h b (by simp)
    have h2 : ¬ b.Alias = id := fun q => by rw [q] at hb; exact UInt16.lt_irrefl _ hb
    obtain ⟨o, e1, e2⟩ := wG_gt id x B (some (L acc ++ [b])) (fun b hb => h b (by simp [hb]))
    refine ⟨o, ?_, by rw [e2]; simp [L]⟩
    simp only [runL]
    rw [wG_tt, if_neg h2]
    exact e1

theorem wG_turn (id : UInt16) (x : r12_Row) (A B : List r12_Row) (m : r12_Row) (hm : m.Alias = id) (hA : ∀ a ∈ A, a.Alias < id) (hB : ∀ b ∈ B, id < b.Alias) : ∃ o, runL (wG id x) (fun s => s) (none, false) (A ++ m :: B) = (o, true) ∧ L o = A ++ x :: B := by
  obtain ⟨s', e1, e2, e3⟩ := wG_lt id x A (m :: B) (none, false) hA
  rw [e1]
  obtain ⟨acc, dn⟩ := s'
  have e3 : dn = false := e3
  subst e3
  obtain ⟨o, f1, f2⟩ := wG_gt id x B (some (L acc ++ [x])) hB
  refine ⟨o, ?_, by rw [f2]; simp [L] at e2 ⊢; rw [e2]⟩
  simp only [runL]
  rw [wG_ge _ _ _ _ (by rw [hm]; exact UInt16.le_refl _), if_pos hm]
  simp only
  rw [f1]
theorem wG_new (id : UInt16) (x : r12_Row) (A B : List r12_Row) (hA : ∀ a ∈ A, a.Alias < id) (hB : ∀ b ∈ B, id < b.Alias) : (∃ o, runL (wG id x) (fun s => s) (none, false) (A ++ B) = (o, true) ∧ L o = A ++ x :: B) ∨ (B = [] ∧ ∃ o, runL (wG id x) (fun s => s) (none, false) (A ++ B) = (o, false) ∧ L o = A) := by
  obtain ⟨s', e1, e2, e3⟩ := wG_lt id x A B (none, false) hA
  rw [e1]
  obtain ⟨acc, dn⟩ := s'
  have e3 : dn = false := e3
  subst e3
  have e2 : L acc = A := e2
  cases B with
  | nil => exact .inr ⟨rfl, acc, rfl, e2⟩
  | cons b B =>
    have hb : id < b.Alias := hB b (by simp)
    have h2 : ¬ b.Alias = id := fun q => by rw [q] at hb; exact UInt16.lt_irrefl _ hb
    obtain ⟨o, f1, f2⟩ := wG_gt id x B (some (L (some (L acc ++ [x])) ++ [b])) (fun b hb => hB b (by simp [hb]))
    left
    refine ⟨o, ?_, by rw [f2]; simp [L] at e2 ⊢; rw [e2]⟩
    simp only [runL]
    rw [wG_ge _ _ _ _ (UInt16.le_of_lt hb), if_neg h2]
    simp only
    rw [f1]
end Go.Rv
