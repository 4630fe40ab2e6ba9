/- Plain laws. -/
import Derived.Test.YthabicfefgahkaaDoorAl4
set_option linter.unusedSimpArgs false
set_option linter.unusedVariables false
set_option maxRecDepth 100000
namespace Go.Rv
abbrev UR := Option (List alias_Row) × List UInt8 × Int
/-- The use of a number, where the name may be. -/
def use_k (o : Option (List alias_Row)) (id : UInt16) (nm : List UInt8) : Option UR :=
  alias_Use_c0 o id nm (some (o, [], 8)) (fun x42 => some (x42, nm, 0)) (fun x43 x44 x45 x46 => some (x43, x44, 0)) (fun x47 => some (o, [], 8)) (fun x48 x49 x50 x51 x52 => (chk (decide (x48 ≤ x52.length))).bind fun _ => (chk (decide (x50 ≤ x52.length))).bind fun _ => (chk (decide (x51 ≤ x52.length))).bind fun _ => some ((some (x52.take x48)), x49, 0)) (fun x53 x54 => (chk (decide (x53 ≤ x54.length))).bind fun _ => some ((some (x54.take x53)), nm, 0)) (fun x55 => some (x55, nm, 0))
def okUse (most id : UInt16) (nm : List UInt8) : Bool := !decide (id = 0) && !decide (id > most) && (decide (nm = []) || nameB nm)
theorem use_def (o : Option (List alias_Row)) (most id : UInt16) (nm : List UInt8) (hn : nm.length ≤ 1000) :
    alias_Use o most id nm = if okUse most id nm then use_k o id nm else some (o, [], 1) := by
  simp only [alias_Use]
  by_cases h1 : id = 0
  · rw [show okUse most id nm = false by simp [okUse, h1], if_pos (by simpa using h1)]; rfl
  · rw [if_neg (by simpa using h1)]
    by_cases h2 : id > most
    · rw [show okUse most id nm = false by simp [okUse, h2], if_pos (by simpa using h2)]; rfl
    · rw [if_neg (by simpa using h2)]
      by_cases h3 : nm = []
      · rw [show okUse most id nm = true by simp [okUse, h1, h2, h3], if_neg (by simp [h3])]
        rfl
      · rw [if_pos (by simpa using h3), tName_eq _ hn]
        simp only [Option.bind_some]
        by_cases h4 : nameB nm = true
        · rw [show okUse most id nm = true by simp [okUse, h1, h2, h3, h4], if_neg (by simp [h4])]; rfl
        · rw [show okUse most id nm = false by simp [okUse, h1, h2, h3, h4], if_pos (by simpa using h4)]; rfl
theorem use_nil (o : Option (List alias_Row)) (hL : L o = []) (id : UInt16) (nm : List UInt8) (hf : alias_find o id = some (0, false)) :
    use_k o id nm = if nm = [] then some (o, [], 8) else some (some [⟨id, nm⟩], nm, 0) := by
  simp only [use_k, alias_Use_c0, hf, Option.bind_some]
  cases o with
  | none =>
    by_cases h : nm = []
    · subst h; rfl
    · rw [if_neg h]
      show (if decide (nm = []) then _ else _) = _
      rw [if_neg (by simpa using h)]
      show (if decide (nm = []) then _ else _) = _
      rw [if_neg (by simpa using h)]
      rfl
  | some l =>
    have hL : l = [] := hL
    subst hL
    by_cases h : nm = []
    · subst h; rfl
    · rw [if_neg h]
      show (if decide (nm = []) then _ else _) = _
      rw [if_neg (by simpa using h)]
      show (if decide (nm = []) then _ else _) = _
      rw [if_neg (by simpa using h)]
      rfl
theorem use_cons (x : alias_Row) (xs : List alias_Row) (hl : xs.length + 1 ≤ 1000) (id : UInt16) (nm : List UInt8) (i : Int) (fd : Bool) (hf : alias_find (some (x :: xs)) id = some (i, fd)) :
    use_k (some (x :: xs)) id nm = use_in (x :: xs) i fd id nm (fun x47 => some (some (x :: xs), [], 8)) (fun x48 x49 x50 x51 x52 => (chk (decide (x48 ≤ x52.length))).bind fun _ => (chk (decide (x50 ≤ x52.length))).bind fun _ => (chk (decide (x51 ≤ x52.length))).bind fun _ => some ((some (x52.take x48)), x49, 0)) (fun x53 x54 => (chk (decide (x53 ≤ x54.length))).bind fun _ => some ((some (x54.take x53)), nm, 0)) (fun x55 => some (x55, nm, 0)) := by
  have hh : (xs.length + 1) * 24 ≤ room ∧ xs.length + 1 ≤ room := by simp [room]; omega
  have ec := cloneF_cons (T := Tb) (k := 1) (bytes := 24) x xs hh
  simp only [use_k, alias_Use_c0, hf, Option.bind_some]
  erw [ec]
  rfl
/-- A number that is not in use. -/
theorem use_new (o : Option (List alias_Row)) (id : UInt16) (nm : List UInt8) (A B : List alias_Row) (he : L o = A ++ B) (hA : ∀ a ∈ A, a.Alias < id) (hB : ∀ b ∈ B, id < b.Alias) (hl : (L o).length ≤ 500) :
    use_k o id nm = if nm = [] then some (o, [], 8) else some (some (A ++ ⟨id, nm⟩ :: B), nm, 0) := by
  have hf := find_nf o id A B he hA hB (by omega)
  have hcase : ∀ l : List alias_Row, l = A ++ B → l = [] → A = [] ∧ B = [] := by
    intro l h1 h2
    rw [h2] at h1
    have := List.append_eq_nil_iff.1 h1.symm
    exact this
  cases o with
  | none =>
    obtain ⟨rfl, rfl⟩ := hcase [] he rfl
    exact use_nil none rfl id nm hf
  | some l =>
    cases l with
    | nil =>
      obtain ⟨rfl, rfl⟩ := hcase [] he rfl
      exact use_nil (some []) rfl id nm hf
    | cons x xs =>
      have he : x :: xs = A ++ B := he
      have hl : xs.length + 1 ≤ 500 := hl
      rw [use_cons x xs (by omega) id nm _ _ hf]
      simp only [use_in]
      by_cases h : nm = []
      · rw [if_pos (by simpa using h), if_pos (by simp), if_pos h]
      · rw [if_neg (by simpa using h), if_neg (by simpa using h), if_neg (by simp), if_neg h]
        erw [insF_eq (x :: xs) A B ⟨id, nm⟩ he (by simp) (by simp [room]; omega)]
        rfl
/-- A number that is in use. -/
theorem use_old (o : Option (List alias_Row)) (id : UInt16) (nm : List UInt8) (A B : List alias_Row) (m : alias_Row) (he : L o = A ++ m :: B) (hm : m.Alias = id) (hA : ∀ a ∈ A, a.Alias < id) (hB : ∀ b ∈ B, id < b.Alias) (hl : (L o).length ≤ 500) :
    use_k o id nm = if nm = [] then some (some (A ++ m :: B), m.Topic, 0) else some (some (A ++ ⟨m.Alias, nm⟩ :: B), nm, 0) := by
  have hf := find_f o id A B m he hm hA hB (by omega)
  cases o with
  | none => exact absurd (show ([] : List alias_Row) = A ++ m :: B from he) (by simp)
  | some l =>
    cases l with
    | nil => exact absurd (show ([] : List alias_Row) = A ++ m :: B from he) (by simp)
    | cons x xs =>
      have he : x :: xs = A ++ m :: B := he
      have hl : xs.length + 1 ≤ 500 := hl
      have hlen : (x :: xs).length = A.length + B.length + 1 := by rw [he]; simp; omega
      rw [use_cons x xs (by omega) id nm _ _ hf]
      simp only [use_in]
      have ei : ix (x :: xs) (A.length : Int) = some m := by rw [ix_nat, he]; simp
      have eset : ∀ y, setR (x :: xs) ((A.length : Int)).toNat y = A ++ y :: B := by intro y; rw [he, Int.toNat_natCast, setR_eq]
      have ech : chk (decide (0 ≤ (A.length : Int) ∧ (A.length : Int) < (((x :: xs).length : Nat) : Int))) = some () := chk_d (by rw [hlen]; omega)
      by_cases h : nm = []
      · rw [if_pos (by simpa using h), if_neg (by simp), if_pos (by simpa using h), if_pos h, ech]
        simp only [Option.bind_some, ei]
        rw [chk_d (Nat.le_refl _)]
        simp only [Option.bind_some]
        rw [List.take_length, he]
      · rw [if_neg (by simpa using h), if_neg (by simpa using h), if_pos trivial, if_neg h, ech]
        simp only [Option.bind_some, ei, eset]
        rw [chk_d (by rw [hlen]; simp; omega)]
        simp only [Option.bind_some]
        rw [List.take_of_length_le (by rw [hlen]; simp; omega)]
theorem ruse_def (w : Option (List r12_Row)) (most id : UInt16) (nm : List UInt8) (hn : nm.length ≤ 1000) :
    r12_Use w most id nm = if okUse most id nm then r12_Use_c0 w id nm (fun x52 x53 => some (w, x52, x53)) (fun x54 => some (x54, nm, 0)) else some (w, [], 1) := by
  simp only [r12_Use]
  by_cases h1 : id = 0
  · rw [show okUse most id nm = false by simp [okUse, h1], if_pos (by simpa using h1)]; rfl
  · rw [if_neg (by simpa using h1)]
    by_cases h2 : id > most
    · rw [show okUse most id nm = false by simp [okUse, h2], if_pos (by simpa using h2)]; rfl
    · rw [if_neg (by simpa using h2)]
      by_cases h3 : nm = []
      · rw [show okUse most id nm = true by simp [okUse, h1, h2, h3], if_neg (by simp [h3])]
        rfl
      · rw [if_pos (by simpa using h3), rName_eq _ hn]
        simp only [Option.bind_some]
        by_cases h4 : nameB nm = true
        · rw [show okUse most id nm = true by simp [okUse, h1, h2, h3, h4], if_neg (by simp [h4])]; rfl
        · rw [show okUse most id nm = false by simp [okUse, h1, h2, h3, h4], if_pos (by simpa using h4)]; rfl
theorem rt_ins {A B : List alias_Row} {x : alias_Row} (h : Rt (A ++ B)) (hx : okRow x) (hA : ∀ a ∈ A, a.Alias < x.Alias) (hB : ∀ b ∈ B, x.Alias < b.Alias) : Rt (A ++ x :: B) := by
  have hp := List.pairwise_append.1 h.asc
  refine ⟨fun y hy => ?_, List.pairwise_append.2 ⟨hp.1, List.pairwise_cons.2 ⟨hB, hp.2.1⟩, fun a ha b hb => ?_⟩⟩
  · rcases List.mem_append.1 hy with hy | hy
    · exact h.row y (by simp [hy])
    · rcases List.mem_cons.1 hy with rfl | hy
      · exact hx
      · exact h.row y (by simp [hy])
  · rcases List.mem_cons.1 hb with rfl | hb
    · exact hA a ha
    · exact hp.2.2 a ha b hb
theorem rt_del {A B : List alias_Row} {m : alias_Row} (h : Rt (A ++ m :: B)) : Rt (A ++ B) := by
  have hp := List.pairwise_append.1 h.asc
  have hq := List.pairwise_cons.1 hp.2.1
  refine ⟨fun y hy => ?_, List.pairwise_append.2 ⟨hp.1, hq.2, fun a ha b hb => hp.2.2 a ha b (by simp [hb])⟩⟩
  rcases List.mem_append.1 hy with hy | hy <;> exact h.row y (by simp [hy])
/-- The document's list is the program's. -/
structure Eq2 (most : UInt16) (t : Option (List alias_Row)) (w : Option (List r12_Row)) : Prop where
  eq : L w = (L t).map cR
  rt : Rt (L t)
  le : ∀ x ∈ L t, x.Alias ≤ most
theorem use_step (most : UInt16) (t : Option (List alias_Row)) (w : Option (List r12_Row)) (h : Eq2 most t w) (hl : (L t).length ≤ 300) (id : UInt16) (nm : List UInt8) (hn : nm.length ≤ 200) :
    ∃ u x s e, alias_Use t most id nm = some (u, s, e) ∧ r12_Use w most id nm = some (x, s, e) ∧ Eq2 most u x ∧ (L u).length ≤ (L t).length + 1 := by
  have hlw : (L w).length ≤ 300 := by rw [h.eq, List.length_map]; exact hl
  rw [use_def t most id nm (by omega), ruse_def w most id nm (by omega)]
  by_cases hok : okUse most id nm = true
  · rw [if_pos hok, if_pos hok]
    simp only [okUse, Bool.and_eq_true, Bool.not_eq_true', decide_eq_false_iff_not, Bool.or_eq_true, decide_eq_true_eq] at hok
    obtain ⟨⟨h0, hm⟩, hname⟩ := hok
    have hle : id ≤ most := UInt16.not_lt.1 hm
    simp only [r12_Use_c0]
    rcases split_id id (L t) h.rt.asc with ⟨A, B, e, hA, hB⟩ | ⟨A, m, B, e, hm2, hA, hB⟩
    · rw [use_new t id nm A B e hA hB (by omega)]
      by_cases hq : nm = []
      · rw [if_pos hq, if_pos (by simpa using hq), rget_eq w id (by omega), h.eq, e, getL_nf]
        · exact ⟨t, w, [], 8, rfl, rfl, h, by rw [← e]; omega⟩
        · rw [List.map_append]
          intro a ha
          rcases List.mem_append.1 ha with ha | ha
          · exact ne_lt hA a ha
          · exact ne_gt hB a ha
      · rw [if_neg hq, if_neg (by simpa using hq)]
        have hnb : nameB nm = true := hname.resolve_left hq
        have hrt := h.rt
        rw [e] at hrt
        have e2 : Eq2 most (some (A ++ ⟨id, nm⟩ :: B)) (some ((A ++ (⟨id, nm⟩ : alias_Row) :: B).map cR)) := ⟨rfl, rt_ins hrt ⟨h0, hn, hnb⟩ hA hB, fun x hx => by
          rcases List.mem_append.1 hx with hx | hx
          · exact h.le x (by rw [e]; simp [hx])
          · rcases List.mem_cons.1 hx with rfl | hx
            · exact hle
            · exact h.le x (by rw [e]; simp [hx])⟩
        rw [show iter (r12_Use_l1 w id nm) (none, false, 0) = _ from with_run w id nm (by omega) (none, false) rfl, h.eq, e, List.map_append]
        have hlen : (L t).length = A.length + B.length := by rw [e]; simp
        rcases wG_new id ⟨id, nm⟩ (A.map cR) (B.map cR) (map_lt hA) (map_gt hB) with ⟨o, f1, f2⟩ | ⟨hBn, o, f1, f2⟩
        · rw [f1]
          refine ⟨_, o, nm, 0, rfl, rfl, ⟨?_, e2.rt, e2.le⟩, ?_⟩
          · rw [f2]; simp [L, cR]
          · simp [L]; omega
        · rw [f1]
          simp only [Option.bind_some]
          rw [if_pos (by simp), appO_ne (by rw [f2]; simp [room]; omega) (by rw [f2]; simp [room]; omega)]
          refine ⟨_, _, nm, 0, rfl, rfl, ⟨?_, e2.rt, e2.le⟩, ?_⟩
          · rw [f2]
            have : B = [] := by simpa using hBn
            subst this
            simp [L, cR]
          · simp [L]; omega
    · rw [use_old t id nm A B m e hm2 hA hB (by omega)]
      have hlen : (L t).length = A.length + B.length + 1 := by rw [e]; simp; omega
      have hrt := h.rt
      rw [e] at hrt
      by_cases hq : nm = []
      · rw [if_pos hq, if_pos (by simpa using hq), rget_eq w id (by omega), h.eq, e, List.map_append, List.map_cons, getL_f _ _ _ _ (ne_lt hA) hm2]
        refine ⟨_, w, m.Topic, 0, rfl, rfl, ⟨by rw [h.eq, e]; rfl, hrt, fun x hx => h.le x (by rw [e]; exact hx)⟩, ?_⟩
        simp [L]
      · rw [if_neg hq, if_neg (by simpa using hq)]
        have hnb : nameB nm = true := hname.resolve_left hq
        rw [show iter (r12_Use_l1 w id nm) (none, false, 0) = _ from with_run w id nm (by omega) (none, false) rfl, h.eq, e, List.map_append, List.map_cons]
        obtain ⟨o, f1, f2⟩ := wG_turn id ⟨id, nm⟩ (A.map cR) (B.map cR) (cR m) hm2 (map_lt hA) (map_gt hB)
        rw [f1]
        refine ⟨_, o, nm, 0, rfl, rfl, ⟨?_, rt_ins (rt_del hrt) ⟨by rw [hm2]; exact h0, hn, hnb⟩ (by rw [hm2]; exact hA) (by rw [hm2]; exact hB), fun x hx => ?_⟩, ?_⟩
        · rw [f2]; simp [L, cR, hm2]
        · rcases List.mem_append.1 hx with hx | hx
          · exact h.le x (by rw [e]; simp [hx])
          · rcases List.mem_cons.1 hx with rfl | hx
            · simp only; rw [hm2]; exact hle
            · exact h.le x (by rw [e]; simp [hx])
        · simp [L]
  · rw [if_neg hok, if_neg hok]
    exact ⟨t, w, [], 1, rfl, rfl, h, by omega⟩
theorem get_step (most : UInt16) (t : Option (List alias_Row)) (w : Option (List r12_Row)) (h : Eq2 most t w) (hl : (L t).length ≤ 500) (id : UInt16) : ∃ s b, alias_Get t id = some (s, b) ∧ r12_Get w id = some (s, b) := by
  have hlw : (L w).length ≤ 500 := by rw [h.eq, List.length_map]; exact hl
  rw [rget_eq w id (by omega), h.eq]
  rcases split_id id (L t) h.rt.asc with ⟨A, B, e, hA, hB⟩ | ⟨A, m, B, e, hm2, hA, hB⟩
  · refine ⟨[], false, get_nf t id (find_nf t id A B e hA hB (by omega)), ?_⟩
    rw [e, getL_nf]
    rw [List.map_append]
    intro a ha
    rcases List.mem_append.1 ha with ha | ha
    · exact ne_lt hA a ha
    · exact ne_gt hB a ha
  · refine ⟨m.Topic, true, get_f t id A B m e (find_f t id A B m e hm2 hA hB (by omega)), ?_⟩
    rw [e, List.map_append, List.map_cons, getL_f _ _ _ _ (ne_lt hA) hm2]
    rfl
theorem l12_told_true : l12_told = some true := by
  unfold l12_told
  have n97 : nameB [97] = true := by kernel_rfl
  rw [use_def none 5 3 [97] (by decide), if_pos (by simp only [okUse, n97]; decide), use_new none 3 [97] [] [] rfl (by simp) (by simp) (by simp [L])]
  rw [if_neg (by decide)]
  simp only [Option.bind_some, List.nil_append]
  rw [use_def _ 5 3 [] (by decide), if_pos (by decide), use_old (some [⟨3, [97]⟩]) 3 [] [] [] ⟨3, [97]⟩ rfl rfl (by simp) (by simp) (by simp [L])]
  rw [if_pos rfl]
  simp only [Option.bind_some]
  rw [use_def _ 5 4 [] (by decide), if_pos (by decide), use_new (some [⟨3, [97]⟩]) 4 [] [⟨3, [97]⟩] [] rfl (by simp) (by simp) (by simp [L])]
  rw [if_pos rfl]
  simp only [Option.bind_some]
  rw [right_eq _ (by simp [L]) (by simp [L]), rt_right _ none ⟨by simp [L, okRow, n97], by simp [L]⟩ (by simp)]
  rfl
theorem len_most (most : Nat) : ∀ (l : List alias_Row) (lo : Nat), l.Pairwise (fun a b => a.Alias < b.Alias) → (∀ x ∈ l, lo < x.Alias.toNat ∧ x.Alias.toNat ≤ most) → l.length = 0 ∨ l.length + lo ≤ most
  | [], lo, _, _ => .inl rfl
  | a :: l, lo, hp, h => by
    have hp := List.pairwise_cons.1 hp
    have ha := h a (by simp)
    rcases len_most most l a.Alias.toNat hp.2 (fun x hx => ⟨UInt16.lt_iff_toNat_lt.1 (hp.1 x hx), (h x (by simp [hx])).2⟩) with h1 | h1
    · right; simp [h1]; omega
    · right; simp; omega
theorem uses_all (most : UInt16) (a : Option (List l12_Op)) : l12_AliasUses most a = some true := by
  simp only [l12_AliasUses, l12_told_true, Option.bind_some]
  rw [if_neg (by simp)]
  obtain ⟨b, e, q⟩ := iter_inv (l12_AliasUses_l0 most a) (fun i z => z.2.2 = (i : Int) ∧ i ≤ 60 ∧ Eq2 most z.1 z.2.1 ∧ (L z.1).length ≤ i) (L a).length (fun b => b = .inl true ∨ ∃ t w, b = .inr t ∧ Eq2 most t w)
    (fun i z hi hI => by
      obtain ⟨t, w, j⟩ := z
      obtain ⟨hj, h60, h2, hlen⟩ := hI
      have hj : j = (i : Int) := hj
      subst hj
      have h2 : Eq2 most t w := h2
      have hlen : (L t).length ≤ i := hlen
      have hgi : ix (L a) (i : Int) = some (L a)[i] := by rw [ix_nat, List.getElem?_eq_getElem hi]
      simp only [l12_AliasUses_l0, l12_AliasUses_b0]
      rw [if_pos (by simp; omega)]
      by_cases hc : i < 60
      · rw [if_pos (by simp; omega)]
        simp only [hgi, Option.bind_some]
        by_cases hn : (((L a)[i].Name.length : Nat) : Int) > 200
        · right
          rw [if_pos (by simpa using hn)]
          exact ⟨_, rfl, .inl rfl⟩
        · left
          rw [if_neg (by simpa using hn), from_eq t (by omega)]
          simp only [Option.bind_some]
          obtain ⟨u, x, s, e, e1, e2, e3, e4⟩ := use_step most t w h2 (by omega) (L a)[i].Alias (L a)[i].Name (by omega)
          rw [e1]
          simp only [Option.bind_some]
          rw [e2]
          simp only [Option.bind_some]
          rw [if_neg (by simp), if_neg (by simp), from_eq u (by omega)]
          simp only [Option.bind_some]
          rw [same_eq _ x (by rw [L_mapO, e3.eq]) (by rw [L_mapO, List.length_map]; omega)]
          simp only [Option.bind_some]
          rw [if_neg (by simp)]
          rw [same_eq _ (mapO cR t) rfl (by rw [L_mapO, List.length_map]; omega)]
          simp only [Option.bind_some]
          rw [if_neg (by simp), right_eq u (by omega) (fun x hx => by have := (e3.rt.row x hx).2.1; omega), rt_right _ none e3.rt (by simp)]
          simp only [Option.bind_some]
          rw [if_neg (by simp)]
          obtain ⟨g, b, g1, g2⟩ := get_step most u x e3 (by omega) (L a)[i].Alias
          rw [g1]
          simp only [Option.bind_some]
          rw [g2]
          simp only [Option.bind_some]
          rw [if_neg (by simp), if_neg (by simp), w64_succ (by omega)]
          exact ⟨_, rfl, rfl, by omega, e3, show (L u).length ≤ i + 1 by omega⟩
      · right
        rw [if_neg (by simp; omega)]
        exact ⟨_, rfl, .inr ⟨t, w, rfl, h2⟩⟩)
    (fun z hI => by
      obtain ⟨t, w, j⟩ := z
      have hj : j = ((L a).length : Int) := hI.1
      subst hj
      simp only [l12_AliasUses_l0, l12_AliasUses_b0]
      rw [if_neg (by simp)]
      exact ⟨_, rfl, .inr ⟨t, w, rfl, hI.2.2.1⟩⟩)
    (none, none, 0) ⟨rfl, by omega, ⟨rfl, ⟨by simp [L], by simp [L]⟩, by simp [L]⟩, by simp [L]⟩
  rw [e]
  rcases q with rfl | ⟨t, w, rfl, h⟩
  · rfl
  · simp only [Option.bind_some]
    have h1 := len_most most.toNat (L t) 0 h.rt.asc (fun x hx => ⟨by
      have := (h.rt.row x hx).1
      rcases Nat.eq_zero_or_pos x.Alias.toNat with q | q
      · exact absurd (UInt16.toNat_inj.1 q) this
      · exact q, UInt16.le_iff_toNat_le.1 (h.le x hx)⟩)
    have := most.toNat_lt
    rw [w64_nat (by omega), decide_eq_true (by omega)]
theorem rights_all (a : Option (List r12_Row)) : l12_AliasRights a = some true := by
  simp only [l12_AliasRights]
  obtain ⟨r, e1, e2⟩ : ∃ r, slO a 0 (imin ((L a).length : Int) 30) = some r ∧ L r = (L a).take 30 := by
    by_cases h : (L a).length ≤ 30
    · obtain ⟨r, e1, e2⟩ := slO_to (o := a) (b := (L a).length) (Nat.le_refl _)
      refine ⟨r, ?_, by rw [e2, List.take_of_length_le (Nat.le_refl _), List.take_of_length_le h]⟩
      rw [show imin ((L a).length : Int) 30 = ((L a).length : Int) from by simp only [imin]; split <;> omega]
      exact e1
    · obtain ⟨r, e1, e2⟩ := slO_to (o := a) (b := 30) (by omega)
      refine ⟨r, ?_, e2⟩
      rw [show imin ((L a).length : Int) 30 = ((30 : Nat) : Int) from by simp only [imin]; split <;> omega]
      exact e1
  have hr : (L r).length ≤ 30 := by rw [e2, List.length_take]; omega
  rw [e1]
  simp only [Option.bind_some]
  obtain ⟨b, e, q⟩ := iter_inv (l12_AliasRights_l0 r) (fun i z => z = (i : Int) ∧ ∀ k (hk : k < (L r).length), k < i → (L r)[k].Topic.length ≤ 200) (L r).length (fun b => b = .inl true ∨ (b = .inr () ∧ ∀ x ∈ L r, x.Topic.length ≤ 200))
    (fun i z hi hI => by
      obtain ⟨rfl, hI⟩ := hI
      simp only [l12_AliasRights_l0, l12_AliasRights_b0]
      rw [if_pos (by simp; omega), ix_nat, List.getElem?_eq_getElem hi]
      simp only [Option.bind_some]
      by_cases hn : (((L r)[i].Topic.length : Nat) : Int) > 200
      · right
        rw [if_pos (by simpa using hn), l12_told_true]
        exact ⟨_, rfl, .inl rfl⟩
      · left
        rw [if_neg (by simpa using hn), w64_succ (by omega)]
        refine ⟨_, rfl, rfl, fun k hk h1 => ?_⟩
        by_cases h2 : k = i
        · subst h2; omega
        · exact hI k hk (by omega))
    (fun z hI => by
      obtain ⟨rfl, hI⟩ := hI
      simp only [l12_AliasRights_l0, l12_AliasRights_b0]
      rw [if_neg (by simp)]
      refine ⟨_, rfl, .inr ⟨rfl, fun x hx => ?_⟩⟩
      obtain ⟨k, hk, rfl⟩ := List.getElem_of_mem hx
      exact hI k hk hk)
    0 ⟨rfl, fun k hk h => absurd h (by omega)⟩
  rw [e]
  rcases q with rfl | ⟨rfl, ht⟩
  · rfl
  · simp only [Option.bind_some, l12_told_true]
    rw [if_pos trivial, to_eq r (by omega)]
    simp only [Option.bind_some]
    rw [right_eq _ (by rw [L_mapO, List.length_map]; omega) (fun x hx => by
      rw [L_mapO] at hx
      obtain ⟨y, hy, rfl⟩ := List.mem_map.1 hx
      have := ht y hy
      show y.Topic.length ≤ 1000
      omega), rright_eq _ (by omega) (fun x hx => by have := ht x hx; omega), L_mapO]
    simp
end Go.Rv
