/- Plain laws. -/
import Derived.Test.YthabicfefgahkaaIds6
set_option linter.unusedSimpArgs false
set_option linter.unusedVariables false
set_option maxRecDepth 100000
namespace Go.Rv
theorem iter_inv {Z β : Type} (step : Z → Option (Z ⊕ β)) (I : Nat → Z → Prop) (n : Nat) (Q : β → Prop)
    (hin : ∀ i z, i < n → I i z → (∃ z', step z = some (.inl z') ∧ I (i + 1) z') ∨ (∃ b, step z = some (.inr b) ∧ Q b))
    (hout : ∀ z, I n z → ∃ b, step z = some (.inr b) ∧ Q b) (z : Z) (h0 : I 0 z) : ∃ b, iter step z = some b ∧ Q b := by
  have key : ∀ (f i : Nat) (z : Z), n - i ≤ f → i ≤ n → I i z → ∃ b, iter step z = some b ∧ Q b := by
    intro f
    induction f with
    | zero =>
      intro i z h1 h2 h3
      have : i = n := by omega
      subst this
      obtain ⟨b, e, q⟩ := hout z h3
      exact ⟨b, by rw [iter_eq, e], q⟩
    | succ f ih =>
      intro i z h1 h2 h3
      by_cases hlt : i < n
      · rcases hin i z hlt h3 with ⟨z', e, h⟩ | ⟨b, e, q⟩
        · obtain ⟨b, e2, q⟩ := ih (i + 1) z' (by omega) hlt h
          exact ⟨b, by rw [iter_eq, e]; exact e2, q⟩
        · exact ⟨b, by rw [iter_eq, e], q⟩
      · have : i = n := by omega
        subst this
        obtain ⟨b, e, q⟩ := hout z h3
        exact ⟨b, by rw [iter_eq, e], q⟩
  exact key n 0 z (by omega) (by omega) h0
/-- A number is in a list, or it would be. -/
theorem split_id (id : UInt16) : ∀ l : List ids_Row, l.Pairwise (fun a b => a.Id < b.Id) →
    (∃ A B, l = A ++ B ∧ (∀ a ∈ A, a.Id < id) ∧ (∀ b ∈ B, id < b.Id)) ∨ (∃ A m B, l = A ++ m :: B ∧ m.Id = id ∧ (∀ a ∈ A, a.Id < id) ∧ (∀ b ∈ B, id < b.Id))
  | [], _ => .inl ⟨[], [], rfl, by simp, by simp⟩
  | a :: l, h => by
    have h := List.pairwise_cons.1 h
    by_cases h1 : a.Id < id
    · rcases split_id id l h.2 with ⟨A, B, e, hA, hB⟩ | ⟨A, m, B, e, hm, hA, hB⟩
      · exact .inl ⟨a :: A, B, by rw [e]; rfl, fun x hx => by rcases List.mem_cons.1 hx with rfl | hx; exact h1; exact hA x hx, hB⟩
      · exact .inr ⟨a :: A, m, B, by rw [e]; rfl, hm, fun x hx => by rcases List.mem_cons.1 hx with rfl | hx; exact h1; exact hA x hx, hB⟩
    · by_cases h2 : a.Id = id
      · exact .inr ⟨[], a, l, rfl, h2, by simp, fun b hb => by rw [← h2]; exact h.1 b hb⟩
      · have h3 : id < a.Id := UInt16.lt_of_le_of_ne (UInt16.not_lt.1 h1) (Ne.symm h2)
        exact .inl ⟨[], a :: l, rfl, by simp, fun b hb => by rcases List.mem_cons.1 hb with rfl | hb; exact h3; exact UInt16.lt_trans h3 (h.1 b hb)⟩
theorem rt_ins {A B : List ids_Row} {x : ids_Row} (h : Rt (A ++ B)) (hx : okRow x) (hA : ∀ a ∈ A, a.Id < x.Id) (hB : ∀ b ∈ B, x.Id < b.Id) : Rt (A ++ x :: B) := by
  have hp := List.pairwise_append.1 h.asc
  refine ⟨fun y hy => ?_, List.pairwise_append.2 ⟨hp.1, List.pairwise_cons.2 ⟨hB, hp.2.1⟩, fun a ha b hb => ?_⟩⟩
  · rcases List.mem_append.1 hy with hy | hy
    · exact h.row y (by simp [hy])
    · rcases List.mem_cons.1 hy with rfl | hy
      · exact hx
      · exact h.row y (by simp [hy])
  · rcases List.mem_cons.1 hb with rfl | hb
    · exact hA a ha
    · exact hp.2.2 a ha b hb
theorem rt_del {A B : List ids_Row} {m : ids_Row} (h : Rt (A ++ m :: B)) : Rt (A ++ B) := by
  have hp := List.pairwise_append.1 h.asc
  have hq := List.pairwise_cons.1 hp.2.1
  refine ⟨fun y hy => ?_, List.pairwise_append.2 ⟨hp.1, hq.2, fun a ha b hb => hp.2.2 a ha b (by simp [hb])⟩⟩
  rcases List.mem_append.1 hy with hy | hy <;> exact h.row y (by simp [hy])
theorem ne_lt {A : List ids_Row} {id : UInt16} (h : ∀ a ∈ A, a.Id < id) : ∀ a ∈ A.map cR, a.Id ≠ id := by
  intro a ha
  obtain ⟨x, hx, rfl⟩ := List.mem_map.1 ha
  intro e
  have := h x hx
  rw [show x.Id = id from e] at this
  exact UInt16.lt_irrefl _ this
theorem ne_gt {B : List ids_Row} {id : UInt16} (h : ∀ b ∈ B, id < b.Id) : ∀ a ∈ B.map cR, a.Id ≠ id := by
  intro a ha
  obtain ⟨x, hx, rfl⟩ := List.mem_map.1 ha
  intro e
  have := h x hx
  rw [show x.Id = id from e] at this
  exact UInt16.lt_irrefl _ this
theorem map_lt {A : List ids_Row} {id : UInt16} (h : ∀ a ∈ A, a.Id < id) : ∀ a ∈ A.map cR, a.Id < id := by
  intro a ha
  obtain ⟨x, hx, rfl⟩ := List.mem_map.1 ha
  exact h x hx
theorem map_gt {A : List ids_Row} {id : UInt16} (h : ∀ a ∈ A, id < a.Id) : ∀ a ∈ A.map cR, id < a.Id := by
  intro a ha
  obtain ⟨x, hx, rfl⟩ := List.mem_map.1 ha
  exact h x hx
/-- The document's list is the program's. -/
structure Eq2 (t : Option (List ids_Row)) (w : Option (List r11_Row)) : Prop where
  eq : L w = (L t).map cR
  rt : Rt (L t)
theorem ropen_def (w : Option (List r11_Row)) (id : UInt16) (s n : Int) :
    r11_Open w id s n = if id = 0 then some (w, 1) else if begs s then (if cnt s n then r11_Open_c0 w id s n (some (w, 7)) (fun x => some (x, 0)) else some (w, 1)) else some (w, 1) := by
  simp only [r11_Open, rcounts_eq, Option.bind_some, begs]
  by_cases h : id = 0
  · simp [h]
  · rw [if_neg (by simpa using h), if_neg h]
    by_cases h1 : s = 1
    · subst h1; cases cnt 1 n <;> rfl
    · by_cases h2 : s = 2
      · subst h2; cases cnt 2 n <;> rfl
      · by_cases h5 : s = 5
        · subst h5; cases cnt 5 n <;> rfl
        · by_cases h6 : s = 6
          · subst h6; cases cnt 6 n <;> rfl
          · simp [h1, h2, h5, h6]
theorem open_step (t : Option (List ids_Row)) (w : Option (List r11_Row)) (h : Eq2 t w) (hl : (L t).length ≤ 500) (id : UInt16) (s n : Int) :
    ∃ u x e, ids_Open t id s n = some (u, e) ∧ r11_Open w id s n = some (x, e) ∧ Eq2 u x ∧ (L u).length ≤ (L t).length + 1 := by
  have hlw : (L w).length ≤ 500 := by rw [h.eq, List.length_map]; exact hl
  by_cases hb : id = 0 ∨ begs s = false ∨ cnt s n = false
  · refine ⟨t, w, 1, open_bad t id s n hb, ?_, h, by omega⟩
    rw [ropen_def]
    by_cases h1 : id = 0
    · rw [if_pos h1]
    · rw [if_neg h1]
      by_cases h2 : begs s = false
      · rw [h2]; rfl
      · have h3 : cnt s n = false := by
          rcases hb with q | q | q
          · exact absurd q h1
          · exact absurd q h2
          · exact q
        rw [h3]
        cases begs s <;> rfl
  · have h1 : id ≠ 0 := fun q => hb (.inl q)
    have h2 : begs s = true := by
      cases hh : begs s with
      | true => rfl
      | false => exact absurd (.inr (.inl hh)) hb
    have h3 : cnt s n = true := by
      cases hh : cnt s n with
      | true => rfl
      | false => exact absurd (.inr (.inr hh)) hb
    have er : r11_Open w id s n = r11_Open_c0 w id s n (some (w, 7)) (fun x => some (x, 0)) := by
      rw [ropen_def, if_neg h1, if_pos h2, if_pos h3]
    rw [er]
    simp only [r11_Open_c0]
    rw [of_eq w id (by omega), h.eq]
    simp only [Option.bind_some]
    rcases split_id id (L t) h.rt.asc with ⟨A, B, e, hA, hB⟩ | ⟨A, m, B, e, hm, hA, hB⟩
    · have hx : okRow ⟨id, s, n⟩ := by
        refine ⟨h1, ?_, ?_, h3⟩ <;>
        · simp only [begs, Bool.or_eq_true, decide_eq_true_eq] at h2
          show _ ≤ _
          simp only
          omega
      have hrt := h.rt
      rw [e] at hrt
      obtain ⟨o, e1, e2⟩ := with_new w id ⟨id, s, n⟩ h1 (A.map cR) (B.map cR) (by rw [h.eq, e, List.map_append]) (map_lt hA) (map_gt hB) (by omega)
      refine ⟨_, o, 0, open_new t id s n h1 h2 h3 A B e hA hB (by omega), ?_, ⟨?_, rt_ins hrt hx hA hB⟩, ?_⟩
      · rw [if_neg, e1]
        · rfl
        · rw [e, ofL_nf]
          · simp
          · rw [List.map_append]
            intro a ha
            rcases List.mem_append.1 ha with ha | ha
            · exact ne_lt hA a ha
            · exact ne_gt hB a ha
      · rw [e2]; simp [L, cR]
      · rw [e]; simp [L]; omega
    · refine ⟨t, w, 7, open_used t id s n h1 h2 h3 (find_f t id A B m e hm hA hB (by omega)), ?_, h, by omega⟩
      rw [if_pos]
      rw [e, List.map_append, List.map_cons, ofL_f _ _ _ _ (ne_lt hA) hm]
      simp [cR, hm, h1]
def nextN (k : Int) (fl : Bool) : Int := if k = 6 then 4 else if k = 5 ∧ fl = false then 3 else 0
theorem rturn_def (w : Option (List r11_Row)) (k : Int) (id : UInt16) (fl : Bool) (n : Int) (hl : (L w).length ≤ 1000) :
    r11_Turn w k id fl n = if needs k = 0 then some (w, 1) else r11_Turn_c0 w id n (needs k) (nextN k fl) (ofL (L w) id) (some (w, 8)) (fun x => some (x, 0)) := by
  simp only [r11_Turn]
  rw [of_eq w id hl]
  simp only [Option.bind_some, needs, nextN]
  by_cases h4 : k = 4
  · subst h4; rfl
  · by_cases h5 : k = 5
    · subst h5; cases fl <;> rfl
    · by_cases h6 : k = 6
      · subst h6; rfl
      · by_cases h7 : k = 7
        · subst h7; rfl
        · by_cases h9 : k = 9
          · subst h9; rfl
          · by_cases h11 : k = 11
            · subst h11; rfl
            · simp [h4, h5, h6, h7, h9, h11]
theorem rturn_c0 (w : Option (List r11_Row)) (id : UInt16) (n nd nx : Int) (x : r11_Row) (k1 : Option (Option (List r11_Row) × Int)) (k2 : Option (List r11_Row) → Option (Option (List r11_Row) × Int)) :
    r11_Turn_c0 w id n nd nx x k1 k2 = if x.Id ≠ 0 ∧ x.State = nd ∧ (nd ≥ 5 → x.N = n) then r11_Turn_c1 w id nx k2 else k1 := by
  simp only [r11_Turn_c0]
  by_cases h1 : x.Id = 0
  · simp [h1]
  · by_cases h2 : x.State = nd
    · by_cases h3 : nd ≥ 5
      · by_cases h4 : x.N = n <;> simp [h1, h2, h3, h4]
      · simp [h1, h2, h3]
    · simp [h1, h2]
theorem fits_iff (m : ids_Row) (k n : Int) : fits m k n = true ↔ (m.State = needs k ∧ (needs k ≥ 5 → m.N = n)) := by
  simp only [fits, Bool.and_eq_true, decide_eq_true_eq, Bool.or_eq_true, Bool.not_eq_true', decide_eq_false_iff_not]
  constructor
  · rintro ⟨h1, h2⟩
    exact ⟨h1, fun h => h2.resolve_left (fun q => q h)⟩
  · rintro ⟨h1, h2⟩
    refine ⟨h1, ?_⟩
    by_cases h : needs k ≥ 5
    · exact .inr (h2 h)
    · exact .inl h
theorem cnt_low {s n : Int} (h : cnt s n = true) (hs : s < 5) : n = 0 := by
  simp only [cnt, Bool.or_eq_true, Bool.and_eq_true, decide_eq_true_eq] at h
  omega
/-- What is next, as the document has it. -/
theorem next_eq (m : ids_Row) (k : Int) (fl : Bool) (hm : m.State = needs k) (hr : okRow m) : (nextR m k fl = none ∧ nextN k fl = 0) ∨ (nextR m k fl = some ⟨m.Id, nextN k fl, 0⟩ ∧ nextN k fl ≠ 0 ∧ 1 ≤ nextN k fl ∧ nextN k fl ≤ 4) := by
  by_cases h6 : k = 6
  · right
    subst h6
    have hs : m.State = 3 := hm
    have hn : m.N = 0 := cnt_low hr.2.2.2 (by omega)
    have e6 : nextN 6 fl = 4 := rfl
    refine ⟨?_, by rw [e6]; decide, by rw [e6]; decide, by rw [e6]; decide⟩
    simp only [nextR]
    rw [if_pos (by simp), hs, hn]
    rfl
  · by_cases h5 : k = 5 ∧ fl = false
    · right
      obtain ⟨rfl, rfl⟩ := h5
      have hs : m.State = 2 := hm
      have hn : m.N = 0 := cnt_low hr.2.2.2 (by omega)
      refine ⟨?_, by decide, by decide, by decide⟩
      simp only [nextR]
      rw [if_pos (by simp), hs, hn]
      rfl
    · left
      simp only [nextR, nextN]
      rw [if_neg (fun h => h.elim h6 h5), if_neg h6, if_neg h5]
      exact ⟨rfl, rfl⟩
theorem turn_step (t : Option (List ids_Row)) (w : Option (List r11_Row)) (h : Eq2 t w) (hl : (L t).length ≤ 500) (k : Int) (id : UInt16) (fl : Bool) (n : Int) :
    ∃ u x e, ids_Turn t k id fl n = some (u, e) ∧ r11_Turn w k id fl n = some (x, e) ∧ Eq2 u x ∧ (L u).length ≤ (L t).length + 1 := by
  have hlw : (L w).length ≤ 500 := by rw [h.eq, List.length_map]; exact hl
  rw [rturn_def w k id fl n (by omega)]
  by_cases hk : needs k = 0
  · exact ⟨t, w, 1, turn_kind t k id fl n hk, by rw [if_pos hk], h, by omega⟩
  · rw [if_neg hk, rturn_c0, h.eq]
    rcases split_id id (L t) h.rt.asc with ⟨A, B, e, hA, hB⟩ | ⟨A, m, B, e, hm, hA, hB⟩
    · refine ⟨t, w, 8, turn_none t k id fl n hk (find_nf t id A B e hA hB (by omega)), ?_, h, by omega⟩
      rw [e, ofL_nf, if_neg (by simp)]
      rw [List.map_append]
      intro a ha
      rcases List.mem_append.1 ha with ha | ha
      · exact ne_lt hA a ha
      · exact ne_gt hB a ha
    · have hok : okRow m := h.rt.row m (by rw [e]; simp)
      have hrt := h.rt
      rw [e] at hrt
      have ew : L w = A.map cR ++ cR m :: B.map cR := by rw [h.eq, e, List.map_append, List.map_cons]
      have hf := find_f t id A B m e hm hA hB (by omega)
      rw [e, List.map_append, List.map_cons, ofL_f _ _ _ _ (ne_lt hA) hm]
      by_cases hfit : fits m k n = true
      · have hq := (fits_iff m k n).1 hfit
        rw [if_pos (show (cR m).Id ≠ 0 ∧ (cR m).State = needs k ∧ (needs k ≥ 5 → (cR m).N = n) from ⟨hok.1, hq.1, hq.2⟩)]
        have ht := turn_ok t k id fl n hk A B m e hf hfit (by omega) ⟨hok.2.1, hok.2.2.1⟩
        have hid : id ≠ 0 := by rw [← hm]; exact hok.1
        simp only [r11_Turn_c1]
        rcases next_eq m k fl hq.1 hok with ⟨e1, e2⟩ | ⟨e1, e2, e3, e4⟩
        · rw [e1] at ht
          obtain ⟨o, f1, f2⟩ := with_del w id (A.map cR) (B.map cR) (cR m) ew hm (map_lt hA) (map_gt hB) (by omega)
          refine ⟨_, o, 0, ht, ?_, ⟨?_, rt_del hrt⟩, ?_⟩
          · rw [if_pos (by simpa using e2), f1]; rfl
          · rw [f2]; simp [L]
          · simp [L]; omega
        · rw [e1] at ht
          obtain ⟨o, f1, f2⟩ := with_turn w id ⟨id, nextN k fl, 0⟩ hid (A.map cR) (B.map cR) (cR m) ew hm (map_lt hA) (map_gt hB) (by omega)
          refine ⟨_, o, 0, ht, ?_, ⟨?_, rt_ins (rt_del hrt) ⟨hok.1, e3, by simp only; omega, rfl⟩ (by rw [hm]; exact hA) (by rw [hm]; exact hB)⟩, ?_⟩
          · rw [if_neg (by simpa using e2), f1]; rfl
          · rw [f2]; simp [L, cR, hm]
          · simp [L]
      · have hfit : fits m k n = false := by simpa using hfit
        refine ⟨t, w, 8, turn_un t k id fl n hk A B m e hf hfit, ?_, h, by rw [e]; omega⟩
        rw [if_neg]
        rintro ⟨_, q1, q2⟩
        have := (fits_iff m k n).2 ⟨q1, q2⟩
        rw [this] at hfit
        cases hfit
theorem acts_c1 {ρ : Type} (t u : Option (List ids_Row)) (had x : Option (List r11_Row)) (e : Int) (hh : L had = (L t).map cR) (h2 : Eq2 u x) (hl : (L t).length ≤ 500) (hu : (L u).length ≤ 500) (k1 k2 : Option ρ) : l11_IdsActs_c1 t had u x e e k1 k2 = k2 := by
  simp only [l11_IdsActs_c1]
  rw [if_neg (by simp), from_eq u (by omega)]
  simp only [Option.bind_some]
  rw [same_eq _ x (by rw [L_mapO, h2.eq]) (by rw [L_mapO, List.length_map]; omega)]
  simp only [Option.bind_some]
  rw [if_neg (by simp), from_eq t (by omega)]
  simp only [Option.bind_some]
  rw [same_eq _ had (by rw [L_mapO, hh]) (by rw [L_mapO, List.length_map]; omega)]
  simp only [Option.bind_some]
  rw [if_neg (by simp), right_eq u (by omega), rt_right _ none h2.rt (by simp)]
  simp only [Option.bind_some]
  rw [if_neg (by simp), flying_eq u (by omega), rflying_eq x (L u) h2.eq (by rw [h2.eq, List.length_map]; omega)]
  simp
theorem acts_all (a : Option (List l11_Op)) : l11_IdsActs a = some true := by
  simp only [l11_IdsActs, l11_told_true, Option.bind_some]
  rw [if_neg (by simp)]
  obtain ⟨b, e, q⟩ := iter_inv (l11_IdsActs_l0 a) (fun i z => z.2.2 = (i : Int) ∧ i ≤ 100 ∧ Eq2 z.1 z.2.1 ∧ (L z.1).length ≤ i) (L a).length (fun b => b = .inr ())
    (fun i z hi hI => by
      obtain ⟨t, w, j⟩ := z
      obtain ⟨hj, h100, h2, hlen⟩ := hI
      have hj : j = (i : Int) := hj
      subst hj
      have h2 : Eq2 t w := h2
      have hlen : (L t).length ≤ i := hlen
      simp only [l11_IdsActs_l0, l11_IdsActs_b0]
      rw [if_pos (by simp; omega)]
      by_cases hc : i < 100
      · left
        rw [if_pos (by simp; omega), ix_nat, List.getElem?_eq_getElem hi]
        simp only [Option.bind_some]
        rw [from_eq t (by omega)]
        simp only [Option.bind_some]
        rw [w64_succ (by omega)]
        cases hop : (L a)[i].Open with
        | true =>
          obtain ⟨u, x, e, e1, e2, e3, e4⟩ := open_step t w h2 (by omega) (L a)[i].Id (L a)[i].State (L a)[i].N
          rw [if_pos rfl, e1]
          simp only [Option.bind_some]
          rw [e2]
          simp only [Option.bind_some]
          rw [acts_c1 t u _ x e (L_mapO _ _) e3 (by omega) (by omega)]
          exact ⟨_, rfl, rfl, by omega, e3, show (L u).length ≤ i + 1 by omega⟩
        | false =>
          obtain ⟨u, x, e, e1, e2, e3, e4⟩ := turn_step t w h2 (by omega) (L a)[i].Kind (L a)[i].Id (L a)[i].Failed (L a)[i].N
          rw [if_neg (by simp), e1]
          simp only [Option.bind_some]
          rw [e2]
          simp only [Option.bind_some]
          rw [acts_c1 t u _ x e (L_mapO _ _) e3 (by omega) (by omega)]
          exact ⟨_, rfl, rfl, by omega, e3, show (L u).length ≤ i + 1 by omega⟩
      · right
        rw [if_neg (by simp; omega)]
        exact ⟨_, rfl, rfl⟩)
    (fun z hI => by
      obtain ⟨t, w, j⟩ := z
      have hj : j = ((L a).length : Int) := hI.1
      subst hj
      simp only [l11_IdsActs_l0, l11_IdsActs_b0]
      rw [if_neg (by simp)]
      exact ⟨_, rfl, rfl⟩)
    (none, none, 0) ⟨rfl, by omega, ⟨rfl, ⟨by simp [L], by simp [L]⟩⟩, by simp [L]⟩
  rw [e, q]
  rfl
end Go.Rv
