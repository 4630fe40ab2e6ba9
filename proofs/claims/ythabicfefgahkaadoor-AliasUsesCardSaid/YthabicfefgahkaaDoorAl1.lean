/- Plain laws. -/
import Derived.Test.YthabicfefgahkaaDoorTop1
set_option linter.unusedSimpArgs false
set_option linter.unusedVariables false
set_option maxRecDepth 100000
namespace Go.Rv
-- ---------- loops over a list ----------
/-- What a loop over a list comes to. -/
def runL {σ α β : Type} (g : σ → α → σ ⊕ β) (e : σ → β) : σ → List α → β
  | s, [] => e s
  | s, a :: l => match g s a with
    | .inl s' => runL g e s' l
    | .inr b => b
def stepL {Z σ β : Type} (mk : σ → Int → Z) (i : Nat) : σ ⊕ β → Z ⊕ β
  | .inl s' => .inl (mk s' ((i + 1 : Nat) : Int))
  | .inr b => .inr b
theorem iter_ix {Z σ β α : Type} (l : List α) (step : Z → Option (Z ⊕ β)) (mk : σ → Int → Z) (g : σ → α → σ ⊕ β) (e : σ → β) (I : Nat → σ → Prop)
    (hin : ∀ s i (h : i < l.length), I i s → step (mk s (i : Int)) = some (stepL mk i (g s l[i])))
    (hI : ∀ s i (h : i < l.length) s', I i s → g s l[i] = .inl s' → I (i + 1) s')
    (hout : ∀ s, I l.length s → step (mk s (l.length : Int)) = some (.inr (e s))) (s : σ) (h0 : I 0 s) :
    iter step (mk s 0) = some (runL g e s l) := by
  have key : ∀ (f i : Nat) (s : σ), l.length - i ≤ f → i ≤ l.length → I i s → iter step (mk s (i : Int)) = some (runL g e s (l.drop i)) := by
    intro f
    induction f with
    | zero =>
      intro i s h1 h2 h3
      have : i = l.length := by omega
      subst this
      rw [iter_eq, hout s h3, List.drop_length]
      rfl
    | succ f ih =>
      intro i s h1 h2 h3
      by_cases hlt : i < l.length
      · rw [iter_eq, hin s i hlt h3, List.drop_eq_getElem_cons hlt]
        simp only [runL]
        cases hg : g s l[i] with
        | inl s' => exact ih (i + 1) s' (by omega) hlt (hI s i hlt s' h3 hg)
        | inr b => rfl
      · have : i = l.length := by omega
        subst this
        rw [iter_eq, hout s h3, List.drop_length]
        rfl
  exact key l.length 0 s (by omega) (by omega) h0
theorem iter_inv {Z β : Type} (step : Z → Option (Z ⊕ β)) (I : Nat → Z → Prop) (n : Nat) (Q : β → Prop)
    (hin : ∀ i z, i < n → I i z → (∃ z', step z = some (.inl z') ∧ I (i + 1) z') ∨ (∃ b, step z = some (.inr b) ∧ Q b))
    (hout : ∀ z, I n z → ∃ b, step z = some (.inr b) ∧ Q b) (z : Z) (h0 : I 0 z) : ∃ b, iter step z = some b ∧ Q b := by
  have key : ∀ (f i : Nat) (z : Z), n - i ≤ f → i ≤ n → I i z → ∃ b, iter step z = some b ∧ Q b := by
    intro f
    induction f with
    | zero =>
      intro i z h1 h2 h3
      have : i = n := by omega
      subst this
      obtain ⟨b, e, q⟩ := hout z h3
      exact ⟨b, by rw [iter_eq, e], q⟩
    | succ f ih =>
      intro i z h1 h2 h3
      by_cases hlt : i < n
      · rcases hin i z hlt h3 with ⟨z', e, h⟩ | ⟨b, e, q⟩
        · obtain ⟨b, e2, q⟩ := ih (i + 1) z' (by omega) hlt h
          exact ⟨b, by rw [iter_eq, e]; exact e2, q⟩
        · exact ⟨b, by rw [iter_eq, e], q⟩
      · have : i = n := by omega
        subst this
        obtain ⟨b, e, q⟩ := hout z h3
        exact ⟨b, by rw [iter_eq, e], q⟩
  exact key n 0 z (by omega) (by omega) h0
theorem w64_succ {i : Nat} (h : i < 9223372036854775807) : w64 ((i : Int) + 1) = ((i + 1 : Nat) : Int) := by
  rw [w64_id (by omega) (by omega)]; simp
/-- A list made out of another one. -/
def mapO {α β : Type} (f : α → β) (o : Option (List α)) : Option (List β) := if (L o).isEmpty then none else some ((L o).map f)
theorem L_mapO {α β : Type} (f : α → β) (o : Option (List α)) : L (mapO f o) = (L o).map f := by
  simp only [mapO]
  split
  · rename_i h
    rw [List.isEmpty_iff.1 h]
    rfl
  · rfl
def accL {α β : Type} (f : α → β) (s : Option (List β)) (a : α) : Option (List β) ⊕ Option (List β) := .inl (some (L s ++ [f a]))
theorem runL_acc {α β : Type} (f : α → β) : ∀ (l : List α) (s : Option (List β)), runL (accL f) (fun x => x) s l = if l.isEmpty then s else some (L s ++ l.map f)
  | [], s => rfl
  | a :: l, s => by
    simp only [runL, accL]
    rw [runL_acc f l]
    cases l with
    | nil => rfl
    | cons b l => simp [L]
-- ---------- rows ----------
def cI (x : r12_Row) : alias_Row := ⟨x.Alias, x.Topic⟩
def cR (x : alias_Row) : r12_Row := ⟨x.Alias, x.Topic⟩
theorem cI_cR (x : r12_Row) : cR (cI x) = x := rfl
theorem to_eq (o : Option (List r12_Row)) (h : (L o).length ≤ 1000) : l12_To o = some (mapO cI o) := by
  simp only [l12_To]
  have := iter_ix (L o) (l12_To_l0 o) (fun (s : Option (List alias_Row)) i => (s, i)) (accL cI) (fun x => x) (fun i s => (L s).length = i)
    (fun s i hi hI => by
      simp only [l12_To_l0, l12_To_b0]
      rw [if_pos (by simp; omega), ix_nat, List.getElem?_eq_getElem hi]
      simp only [Option.bind_some]
      rw [appO_ne (by have := hI; simp [room]; omega) (by have := hI; simp [room]; omega)]
      simp only [Option.bind_some]
      rw [w64_succ (by omega)]
      rfl)
    (fun s i hi s' hI hg => by
      simp only [accL, Sum.inl.injEq] at hg
      subst hg
      simp [L, ← hI])
    (fun s hI => by
      simp only [l12_To_l0, l12_To_b0]
      rw [if_neg (by simp)])
    none rfl
  rw [this]
  simp only [Option.bind_some, runL_acc, mapO]
  rfl
theorem from_eq (o : Option (List alias_Row)) (h : (L o).length ≤ 1000) : l12_From o = some (mapO cR o) := by
  simp only [l12_From]
  have := iter_ix (L o) (l12_From_l0 o) (fun (s : Option (List r12_Row)) i => (s, i)) (accL cR) (fun x => x) (fun i s => (L s).length = i)
    (fun s i hi hI => by
      simp only [l12_From_l0, l12_From_b0]
      rw [if_pos (by simp; omega), ix_nat, List.getElem?_eq_getElem hi]
      simp only [Option.bind_some]
      rw [appO_ne (by have := hI; simp [room]; omega) (by have := hI; simp [room]; omega)]
      simp only [Option.bind_some]
      rw [w64_succ (by omega)]
      rfl)
    (fun s i hi s' hI hg => by
      simp only [accL, Sum.inl.injEq] at hg
      subst hg
      simp [L, ← hI])
    (fun s hI => by
      simp only [l12_From_l0, l12_From_b0]
      rw [if_neg (by simp)])
    none rfl
  rw [this]
  simp only [Option.bind_some, runL_acc, mapO]
  rfl
-- ---------- the order ----------
theorem order_eq (a b : alias_Row) : alias_order a b = some (if a.Alias < b.Alias then -1 else if a.Alias > b.Alias then 1 else 0) := by
  simp only [alias_order, cmp_Compare_uint16, cmp_isNaN_uint16, Option.bind_some, decide_true, Bool.not_true, Bool.false_eq_true, if_false, decide_eq_true_eq]
  split
  · rfl
  · split <;> rfl
theorem shr1 {a : UInt64} : (shr_u64 a 1).toNat = a.toNat / 2 := by
  simp only [shr_u64, u64_toNat']
  have h := a.toNat_lt
  simp
  omega
theorem mid_eq {i j : Nat} (h : i + j ≤ 4000) : w64 ((shr_u64 (u64 (w64 ((i : Int) + (j : Int)))) ((1 : UInt64).toNat : Int)).toNat : Int) = (((i + j) / 2 : Nat) : Int) := by
  rw [show (((1 : UInt64).toNat : Nat) : Int) = 1 from rfl, shr1, u64_toNat', w64_id (by omega) (by omega), w64_id (by omega) (by omega)]
  omega
theorem bs_loop (o : Option (List alias_Row)) (t : alias_Row) (p : Nat) (hl : (L o).length ≤ 1000) (hp : p ≤ (L o).length) (hlt : ∀ h (hh : h < (L o).length), ((L o)[h].Alias < t.Alias ↔ h < p)) :
    ∀ (f i j : Nat), j - i ≤ f → i ≤ p → p ≤ j → j ≤ (L o).length → iter (slices_BinarySearchFunc_alias_Table_alias_Row_alias_Row_l0 o t) ((i : Int), (j : Int)) = some (p : Int) := by
  intro f
  induction f with
  | zero =>
    intro i j h1 h2 h3 h4
    have : i = j := by omega
    subst this
    have : i = p := by omega
    subst this
    rw [iter_eq]
    simp only [slices_BinarySearchFunc_alias_Table_alias_Row_alias_Row_l0, slices_BinarySearchFunc_alias_Table_alias_Row_alias_Row_b0]
    rw [if_neg (by simp)]
  | succ f ih =>
    intro i j h1 h2 h3 h4
    rw [iter_eq]
    simp only [slices_BinarySearchFunc_alias_Table_alias_Row_alias_Row_l0, slices_BinarySearchFunc_alias_Table_alias_Row_alias_Row_b0]
    by_cases hij : i < j
    · have hm : (i + j) / 2 < (L o).length := by omega
      rw [if_pos (by simpa using hij), mid_eq (by omega), ix_nat, List.getElem?_eq_getElem hm]
      simp only [Option.bind_some]
      rw [order_eq]
      simp only [Option.bind_some]
      by_cases hc : (i + j) / 2 < p
      · rw [if_pos ((hlt _ hm).2 hc), if_pos (by decide), w64_succ (by omega)]
        exact ih _ _ (by omega) (by omega) h3 h4
      · have hn : ¬ (L o)[(i + j) / 2].Alias < t.Alias := fun h => hc ((hlt _ hm).1 h)
        rw [if_neg hn, if_neg (by split <;> decide)]
        exact ih _ _ (by omega) h2 (by omega) (by omega)
    · have : i = j := by omega
      subst this
      have : i = p := by omega
      subst this
      rw [if_neg (by simp)]
end Go.Rv
