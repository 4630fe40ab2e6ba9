/- Plain laws. -/
import Derived.Test.YthabicfefgahkaaIds7
set_option linter.unusedSimpArgs false
set_option linter.unusedVariables false
set_option maxRecDepth 100000
namespace Go.Rv
/-- The messages on their way, and their numbers. -/
structure Way (t : Option (List ids_Row)) (now : Option (List UInt16)) : Prop where
  rt : Rt (L t)
  st : ∀ x ∈ L t, 2 ≤ x.State ∧ x.State ≤ 4
  pm : (L now).Perm ((L t).map (·.Id))
theorem Way.len {t : Option (List ids_Row)} {now : Option (List UInt16)} (h : Way t now) : (L now).length = (L t).length := by
  have := h.pm.length_eq
  simpa using this
theorem of_from (t : Option (List ids_Row)) (hl : (L t).length ≤ 1000) (id : UInt16) : r11_Of (mapO cR t) id = some (ofL ((L t).map cR) id) := by
  rw [of_eq _ id (by rw [L_mapO, List.length_map]; omega), L_mapO]
theorem ofL_nf2 {A B : List ids_Row} {id : UInt16} (hA : ∀ a ∈ A, a.Id < id) (hB : ∀ b ∈ B, id < b.Id) : ofL ((A ++ B).map cR) id = ⟨0, 0, 0⟩ := by
  refine ofL_nf _ _ ?_
  rw [List.map_append]
  intro a ha
  rcases List.mem_append.1 ha with ha | ha
  · exact ne_lt hA a ha
  · exact ne_gt hB a ha
theorem ofL_f2 {A B : List ids_Row} {m : ids_Row} {id : UInt16} (hA : ∀ a ∈ A, a.Id < id) (hm : m.Id = id) : ofL ((A ++ m :: B).map cR) id = cR m := by
  rw [List.map_append, List.map_cons]
  exact ofL_f _ _ _ _ (ne_lt hA) hm
theorem rounds_l0 (a : Option (List UInt16)) : ∃ t now, iter (l11_IdsRounds_l0 a) (none, none, 0) = some (.inr (t, now)) ∧ Way t now ∧ (L t).length ≤ 12 := by
  obtain ⟨b, e, t, now, q, q1, q2⟩ := iter_inv (l11_IdsRounds_l0 a) (fun i z => z.2.2 = (i : Int) ∧ i ≤ 12 ∧ Way z.1 z.2.1 ∧ (L z.1).length ≤ i) (L a).length (fun b => ∃ t now, b = .inr (t, now) ∧ Way t now ∧ (L t).length ≤ 12)
    (fun i z hi hI => by
      obtain ⟨t, now, j⟩ := z
      obtain ⟨hj, h12, h2, hlen⟩ := hI
      have hj : j = (i : Int) := hj
      subst hj
      have h2 : Way t now := h2
      have hlen : (L t).length ≤ i := hlen
      have hnow := h2.len
      simp only [l11_IdsRounds_l0, l11_IdsRounds_b0]
      rw [if_pos (by simp; omega)]
      by_cases hc : i < 12
      · left
        rw [if_pos (by simp; omega), ix_nat, List.getElem?_eq_getElem hi]
        simp only [Option.bind_some]
        rw [w64_succ (by omega)]
        generalize hid : (L a)[i] = id
        have eix : ix (L a) (i : Int) = some id := by rw [ix_nat, List.getElem?_eq_getElem hi, hid]
        by_cases h0 : id = 0
        · rw [open_bad t id 2 0 (.inl h0)]
          simp only [Option.bind_some]
          rw [if_neg (by simp [h0]), if_neg (by simp)]
          simp only [l11_IdsRounds_c1]
          rw [if_neg (by decide)]
          exact ⟨_, rfl, rfl, by omega, h2, by simp only; omega⟩
        · rcases split_id id (L t) h2.rt.asc with ⟨A, B, e, hA, hB⟩ | ⟨A, m, B, e, hm, hA, hB⟩
          · rw [open_new t id 2 0 h0 rfl rfl A B e hA hB (by omega)]
            simp only [Option.bind_some]
            rw [if_pos (by simp [h0]), from_eq t (by omega)]
            simp only [Option.bind_some]
            rw [of_from t (by omega), e, ofL_nf2 hA hB]
            simp only [Option.bind_some]
            rw [if_neg (by simp)]
            simp only [l11_IdsRounds_c1]
            rw [if_pos (by simp), eix]
            simp only [Option.bind_some]
            rw [appO_ne (by simp [room]; omega) (by simp [room]; omega)]
            refine ⟨_, rfl, rfl, by omega, ⟨rt_ins (e ▸ h2.rt) ⟨h0, (by decide : (1 : Int) ≤ 2), (by decide : (2 : Int) ≤ 6), rfl⟩ hA hB, fun x hx => ?_, ?_⟩, ?_⟩
            · rcases List.mem_append.1 hx with hx | hx
              · exact h2.st x (by rw [e]; simp [hx])
              · rcases List.mem_cons.1 hx with rfl | hx
                · exact ⟨(by decide : (2 : Int) ≤ 2), (by decide : (2 : Int) ≤ 4)⟩
                · exact h2.st x (by rw [e]; simp [hx])
            · have hp := h2.pm
              rw [e, List.map_append] at hp
              simp only [L, Option.getD_some, List.map_append, List.map_cons]
              refine (List.perm_append_comm).trans ?_
              refine List.Perm.trans ?_ List.perm_middle.symm
              exact List.Perm.cons _ hp
            · rw [e] at hlen
              simp [L] at hlen ⊢
              omega
          · rw [open_used t id 2 0 h0 rfl rfl (find_f t id A B m e hm hA hB (by omega))]
            simp only [Option.bind_some]
            rw [if_pos (by simp [h0]), from_eq t (by omega)]
            simp only [Option.bind_some]
            rw [of_from t (by omega), e, ofL_f2 hA hm]
            simp only [Option.bind_some]
            rw [if_neg (by simp [cR, hm, h0])]
            simp only [l11_IdsRounds_c1]
            rw [if_neg (by decide)]
            exact ⟨_, rfl, rfl, by omega, h2, by simp only; omega⟩
      · right
        rw [if_neg (by simp; omega)]
        exact ⟨_, rfl, t, now, rfl, h2, by omega⟩)
    (fun z hI => by
      obtain ⟨t, now, j⟩ := z
      obtain ⟨hj, h12, h2, hlen⟩ := hI
      have hj : j = ((L a).length : Int) := hj
      have hlen : (L t).length ≤ (L a).length := hlen
      subst hj
      simp only [l11_IdsRounds_l0, l11_IdsRounds_b0]
      rw [if_neg (by simp)]
      exact ⟨_, rfl, t, now, rfl, h2, by omega⟩)
    (none, none, 0) ⟨rfl, by omega, ⟨⟨by simp [L], by simp [L]⟩, by simp [L], List.Perm.refl _⟩, by simp [L]⟩
  exact ⟨t, now, by rw [e, q], q1, q2⟩
/-- Of the kinds one alone goes on. -/
theorem kinds_ok (t : Option (List ids_Row)) (k : Int) (id : UInt16) (fl : Bool) (A B : List ids_Row) (m : ids_Row) (e : L t = A ++ m :: B) (hm : m.Id = id) (hA : ∀ a ∈ A, a.Id < id) (hB : ∀ b ∈ B, id < b.Id) (hl : (L t).length ≤ 1000) (hs : 2 ≤ m.State ∧ m.State ≤ 4) (hok : okRow m) (hk : 4 ≤ k ∧ k ≤ 11) :
    ∃ u c, ids_Turn t k id fl 0 = some (u, c) ∧ (c = 0 ↔ k = m.State + 3) := by
  have hf := find_f t id A B m e hm hA hB hl
  have hn0 : m.N = 0 := cnt_low hok.2.2.2 (by omega)
  have hnd : needs k = m.State ↔ k = m.State + 3 := by
    simp only [needs]
    split
    · omega
    · split
      · omega
      · split
        · omega
        · split
          · omega
          · split
            · omega
            · split <;> omega
  by_cases h0 : needs k = 0
  · exact ⟨t, 1, turn_kind t k id fl 0 h0, ⟨fun h => absurd h (by decide), fun h => by have := hnd.2 h; omega⟩⟩
  · by_cases hq : needs k = m.State
    · exact ⟨_, 0, turn_ok t k id fl 0 h0 A B m e hf ((fits_iff m k 0).2 ⟨hq.symm, fun _ => hn0⟩) hl ⟨by omega, by omega⟩, by simp [hnd.1 hq]⟩
    · refine ⟨t, 8, turn_un t k id fl 0 h0 A B m e hf ?_, ?_⟩
      · cases hh : fits m k 0 with
        | false => rfl
        | true => exact absurd ((fits_iff m k 0).1 hh).1.symm hq
      · constructor
        · intro h; cases h
        · intro h; exact absurd (hnd.2 h) hq
theorem rounds_l4 (t : Option (List ids_Row)) (now : Option (List UInt16)) (k : Nat) (id : UInt16) (fl : Bool) (A B : List ids_Row) (m : ids_Row) (e : L t = A ++ m :: B) (hm : m.Id = id) (hA : ∀ a ∈ A, a.Id < id) (hB : ∀ b ∈ B, id < b.Id) (hl : (L t).length ≤ 1000) (hs : 2 ≤ m.State ∧ m.State ≤ 4) (hok : okRow m) (hk : (L now)[k]? = some id) :
    iter (l11_IdsRounds_l4 t now (k : Int) fl (cR m)) 4 = some (.inr ()) := by
  obtain ⟨b, e1, q⟩ := iter_inv (l11_IdsRounds_l4 t now (k : Int) fl (cR m)) (fun i z => z = 4 + (i : Int)) 8 (fun b => b = .inr ())
    (fun i z hi hI => by
      subst hI
      left
      simp only [l11_IdsRounds_l4, l11_IdsRounds_b4]
      rw [if_pos (by simp; omega), ix_nat, hk]
      simp only [Option.bind_some]
      obtain ⟨u, c, e1, e2⟩ := kinds_ok t (4 + (i : Int)) id fl A B m e hm hA hB hl hs hok ⟨by omega, by omega⟩
      rw [e1]
      simp only [Option.bind_some]
      rw [show (cR m).State = m.State from rfl, w64_id (x := m.State + 3) (by omega) (by omega), w64_id (x := 4 + (i : Int) + 1) (by omega) (by omega)]
      have : (decide (c = 0)) = (decide (4 + (i : Int) = m.State + 3)) := by
        by_cases h : c = 0
        · rw [decide_eq_true h, decide_eq_true (e2.1 h)]
        · rw [decide_eq_false h, decide_eq_false (fun q => h (e2.2 q))]
      rw [this]
      simp only [beq_self_eq_true, Bool.not_true, Bool.false_eq_true, if_false]
      exact ⟨_, rfl, by omega⟩)
    (fun z hI => by
      subst hI
      simp only [l11_IdsRounds_l4, l11_IdsRounds_b4]
      rw [if_neg (by decide)]
      exact ⟨_, rfl, rfl⟩)
    4 rfl
  rw [e1, q]
theorem rounds_c5 {ρ : Type} (now : Option (List UInt16)) (P S : List UInt16) (id : UInt16) (e : L now = P ++ id :: S) (hl : (L now).length ≤ 1000) (x : Bool) (k1 : Option (List UInt16) → Option ρ) (k2 : Option ρ) :
    l11_IdsRounds_c5 now (P.length : Int) x k1 k2 = if x then k1 (some (P ++ S)) else k2 := by
  simp only [l11_IdsRounds_c5]
  cases x with
  | false => rfl
  | true =>
    rw [if_pos rfl, if_pos rfl]
    cases now with
    | none => exact absurd (show ([] : List UInt16) = P ++ id :: S from e) (by simp)
    | some l =>
      have e : l = P ++ id :: S := e
      have hl : l.length ≤ 1000 := hl
      have hlen : l.length = P.length + S.length + 1 := by rw [e]; simp; omega
      have s1 : slO (some l) 0 (P.length : Int) = some (some P) := by
        simp only [slO]
        rw [show (0 : Int) = ((0 : Nat) : Int) from rfl, slc_nat (by omega) (by omega), e]
        simp
      have s2 : slO (some l) (w64 ((P.length : Int) + 1)) ((L (some l)).length : Int) = some (some S) := by
        rw [w64_succ (by omega)]
        simp only [slO, L, Option.getD_some]
        rw [slc_from (by omega), e]
        simp
      rw [s1]
      simp only [Option.bind_some]
      rw [appO_some (y := some P) (by simp [room, L]; omega) (by simp [room, L]; omega)]
      simp only [Option.bind_some]
      rw [s2]
      simp only [Option.bind_some]
      rw [appO_some (y := some S) (by simp [room, L]; omega) (by simp [room, L]; omega)]
      rfl
/-- One message goes one step on. -/
theorem rounds_c3 {ρ : Type} (t : Option (List ids_Row)) (now : Option (List UInt16)) (h : Way t now) (hl : (L t).length ≤ 100) (k : Nat) (hk : k < (L now).length) (fl : Bool) (k1 : Option ρ) (k2 : Option (List ids_Row) → Option (List UInt16) → Option ρ) :
    ∃ u now', l11_IdsRounds_c3 t now (k : Int) fl (ofL ((L t).map cR) (L now)[k]) k1 k2 = k2 u now' ∧ Way u now' ∧ (L u).length ≤ (L t).length := by
  have hnow := h.len
  generalize hid : (L now)[k] = id
  have hki : (L now)[k]? = some id := by rw [List.getElem?_eq_getElem hk, hid]
  have hmem : id ∈ (L t).map (·.Id) := h.pm.mem_iff.1 (by rw [← hid]; exact List.getElem_mem hk)
  rcases split_id id (L t) h.rt.asc with ⟨A, B, e, hA, hB⟩ | ⟨A, m, B, e, hm, hA, hB⟩
  · exfalso
    obtain ⟨x, hx, hxi⟩ := List.mem_map.1 hmem
    rw [e] at hx
    rcases List.mem_append.1 hx with hx | hx
    · have := hA x hx; rw [show x.Id = id from hxi] at this; exact UInt16.lt_irrefl _ this
    · have := hB x hx; rw [show x.Id = id from hxi] at this; exact UInt16.lt_irrefl _ this
  · have hok : okRow m := h.rt.row m (by rw [e]; simp)
    have hs := h.st m (by rw [e]; simp)
    have hn0 : m.N = 0 := cnt_low hok.2.2.2 (by omega)
    have hf := find_f t id A B m e hm hA hB (by omega)
    have hrt := h.rt
    rw [e] at hrt
    rw [show ofL ((L t).map cR) id = cR m by rw [e]; exact ofL_f2 hA hm]
    simp only [l11_IdsRounds_c3]
    rw [rounds_l4 t now k id fl A B m e hm hA hB (by omega) hs hok hki]
    simp only [Option.bind_some]
    rw [ix_nat, hki]
    simp only [Option.bind_some]
    rw [show (cR m).State = m.State from rfl, w64_id (x := m.State + 3) (by omega) (by omega)]
    have hnd : needs (m.State + 3) = m.State := by
      rcases (show m.State = 2 ∨ m.State = 3 ∨ m.State = 4 by omega) with q | q | q <;> rw [q] <;> rfl
    have ht := turn_ok t (m.State + 3) id fl 0 (by omega) A B m e hf ((fits_iff m _ 0).2 ⟨hnd.symm, fun _ => hn0⟩) (by omega) ⟨by omega, by omega⟩
    rw [ht]
    simp only [Option.bind_some]
    -- the place in now
    have enow : L now = (L now).take k ++ id :: (L now).drop (k + 1) := by
      conv => lhs; rw [← List.take_append_drop k (L now), List.drop_eq_getElem_cons hk, hid]
    have hP : ((L now).take k).length = k := by rw [List.length_take]; omega
    have c5 : ∀ (x : Bool) (k1 : Option (List UInt16) → Option ρ) (k2 : Option ρ), l11_IdsRounds_c5 now (k : Int) x k1 k2 = if x then k1 (some ((L now).take k ++ (L now).drop (k + 1))) else k2 := by
      intro x k1 k2
      have := rounds_c5 now ((L now).take k) ((L now).drop (k + 1)) id enow (by omega) x k1 k2
      rw [hP] at this
      exact this
    have pdel : ((L now).take k ++ (L now).drop (k + 1)).Perm ((A ++ B).map (·.Id)) := by
      have hp := h.pm
      rw [enow, e, List.map_append, List.map_cons] at hp
      have := (List.perm_middle.symm.trans hp).trans List.perm_middle
      rw [hm] at this
      rw [List.map_append]
      exact List.Perm.cons_inv this
    have wdel : Way (some (A ++ B)) (some ((L now).take k ++ (L now).drop (k + 1))) :=
      ⟨rt_del hrt, fun x hx => h.st x (by rw [e]; rcases List.mem_append.1 hx with hx | hx <;> simp [hx]), pdel⟩
    have wset : ∀ s : Int, s = 3 ∨ s = 4 → Way (some (A ++ ⟨m.Id, s, m.N⟩ :: B)) now := by
      intro s hs2
      refine ⟨rt_ins (rt_del hrt) ⟨hok.1, by simp only; omega, by simp only; omega, by rw [hn0]; rfl⟩ (by simp only; rw [hm]; exact hA) (by simp only; rw [hm]; exact hB), fun x hx => ?_, ?_⟩
      · rcases List.mem_append.1 hx with hx | hx
        · exact h.st x (by rw [e]; simp [hx])
        · rcases List.mem_cons.1 hx with rfl | hx
          · simp only; omega
          · exact h.st x (by rw [e]; simp [hx])
      · have hp := h.pm
        rw [e] at hp
        simpa [L] using hp
    have ldel : (L (some (A ++ B))).length ≤ (L t).length := by rw [e]; simp [L]
    have lset : ∀ s : Int, (L (some (A ++ (⟨m.Id, s, m.N⟩ : ids_Row) :: B))).length ≤ (L t).length := by intro s; rw [e]; simp [L]
    by_cases h4 : m.State = 4
    · rw [if_pos (by simpa using h4), c5, if_pos rfl]
      have : nextR m (m.State + 3) fl = none := by
        simp only [nextR]; rw [if_neg (by omega)]
      rw [this]
      exact ⟨_, _, rfl, wdel, ldel⟩
    · rw [if_neg (by simpa using h4)]
      by_cases h2 : m.State = 2
      · rw [if_pos (by simpa using h2), c5]
        cases fl with
        | true =>
          rw [if_pos rfl]
          have : nextR m (m.State + 3) true = none := by
            simp only [nextR]; rw [if_neg (by simp; omega)]
          rw [this]
          exact ⟨_, _, rfl, wdel, ldel⟩
        | false =>
          rw [if_neg (by simp)]
          have : nextR m (m.State + 3) false = some ⟨m.Id, m.State + 1, m.N⟩ := by
            simp only [nextR]; rw [if_pos (by simp; omega)]
          rw [this]
          exact ⟨_, _, rfl, wset _ (by omega), lset _⟩
      · rw [if_neg (by simpa using h2), c5, if_neg (by simp)]
        have : nextR m (m.State + 3) fl = some ⟨m.Id, m.State + 1, m.N⟩ := by
          simp only [nextR]; rw [if_pos (by left; omega)]
        rw [this]
        exact ⟨_, _, rfl, wset _ (by omega), lset _⟩
theorem rounds_l2 (b : Option (List Int)) (c : Option (List Bool)) (t : Option (List ids_Row)) (now : Option (List UInt16)) (h : Way t now) (hl : (L t).length ≤ 12) :
    ∃ t' now', iter (l11_IdsRounds_l2 b c) (t, now, 0) = some (.inr (t', now')) ∧ Way t' now' ∧ (L t').length ≤ 12 := by
  obtain ⟨r, e, t', now', q, q1, q2⟩ := iter_inv (l11_IdsRounds_l2 b c) (fun i z => z.2.2 = (i : Int) ∧ i ≤ 60 ∧ Way z.1 z.2.1 ∧ (L z.1).length ≤ 12) (L b).length (fun b => ∃ t now, b = .inr (t, now) ∧ Way t now ∧ (L t).length ≤ 12)
    (fun i z hi hI => by
      obtain ⟨t, now, j⟩ := z
      obtain ⟨hj, h60, h2, hlen⟩ := hI
      have hj : j = (i : Int) := hj
      subst hj
      have h2 : Way t now := h2
      have hlen : (L t).length ≤ 12 := hlen
      have hnow := h2.len
      simp only [l11_IdsRounds_l2, l11_IdsRounds_b2]
      rw [if_pos (by simp; omega)]
      by_cases hc : i < 60
      · rw [if_pos (by simp; omega)]
        by_cases h0 : 0 < (L now).length
        · left
          rw [if_pos (by simp; omega), ix_nat, List.getElem?_eq_getElem hi]
          simp only [Option.bind_some]
          have hu : (u64 ((L now).length : Int)).toNat = (L now).length := by rw [u64_toNat']; omega
          have hne : u64 ((L now).length : Int) ≠ 0 := by
            intro q
            rw [q] at hu
            have : (L now).length = 0 := hu.symm
            omega
          rw [chk_d hne]
          simp only [Option.bind_some]
          rw [from_eq t (by omega)]
          simp only [Option.bind_some]
          generalize hkk : ((u64 (L b)[i]) % (u64 ((L now).length : Int))).toNat = k
          have hk : k < (L now).length := by
            rw [← hkk, UInt64.toNat_mod, hu]; exact Nat.mod_lt _ h0
          rw [w64_nat (n := k) (by omega), ix_nat, List.getElem?_eq_getElem hk]
          simp only [Option.bind_some]
          rw [of_from t (by omega)]
          simp only [Option.bind_some]
          rw [w64_succ (by omega)]
          by_cases hcl : i < (L c).length
          · rw [if_pos (by simpa using hcl), ix_nat, List.getElem?_eq_getElem hcl]
            simp only [Option.bind_some]
            obtain ⟨u, now', e1, e2, e3⟩ := rounds_c3 t now h2 (by omega) k hk (L c)[i] (some (Sum.inr (Sum.inl (ofL ((L t).map cR) (L now)[k])))) (fun x84 x85 => some (Sum.inl (x84, x85, ((i + 1 : Nat) : Int))))
            rw [e1]
            exact ⟨_, rfl, rfl, by omega, e2, by simp only; omega⟩
          · rw [if_neg (by simpa using hcl)]
            obtain ⟨u, now', e1, e2, e3⟩ := rounds_c3 t now h2 (by omega) k hk false (some (Sum.inr (Sum.inl (ofL ((L t).map cR) (L now)[k])))) (fun x84 x85 => some (Sum.inl (x84, x85, ((i + 1 : Nat) : Int))))
            rw [e1]
            exact ⟨_, rfl, rfl, by omega, e2, by simp only; omega⟩
        · right
          rw [if_neg (by rw [decide_eq_true_eq]; omega)]
          exact ⟨_, rfl, t, now, rfl, h2, hlen⟩
      · right
        rw [if_neg (by simp; omega)]
        exact ⟨_, rfl, t, now, rfl, h2, hlen⟩)
    (fun z hI => by
      obtain ⟨t, now, j⟩ := z
      obtain ⟨hj, h12, h2, hlen⟩ := hI
      have hj : j = ((L b).length : Int) := hj
      subst hj
      simp only [l11_IdsRounds_l2, l11_IdsRounds_b2]
      rw [if_neg (by simp)]
      exact ⟨_, rfl, t, now, rfl, h2, hlen⟩)
    (t, now, 0) ⟨rfl, by omega, h, hl⟩
  exact ⟨t', now', by rw [e, q], q1, q2⟩
theorem fly_all : ∀ (l : List ids_Row) (n : Int), (∀ x ∈ l, x.State ≤ 4) → flyN n l = n + l.length
  | [], n, _ => by simp [flyN]
  | a :: l, n, h => by
    simp only [flyN]
    rw [if_pos (h a (by simp)), fly_all l (n + 1) (fun x hx => h x (by simp [hx]))]
    simp; omega
theorem rounds_all (a : Option (List UInt16)) (b : Option (List Int)) (c : Option (List Bool)) : l11_IdsRounds a b c = some true := by
  simp only [l11_IdsRounds]
  obtain ⟨t, now, e, h, hl⟩ := rounds_l0 a
  rw [e]
  simp only [Option.bind_some]
  obtain ⟨t', now', e', h', hl'⟩ := rounds_l2 b c t now h hl
  rw [e']
  simp only [Option.bind_some, l11_told_true]
  have := h'.len
  rw [if_pos trivial, if_pos (by simp [this]), flying_eq t' (by omega), fly_all (L t') 0 (fun x hx => (h'.st x hx).2)]
  simp [this]
end Go.Rv
