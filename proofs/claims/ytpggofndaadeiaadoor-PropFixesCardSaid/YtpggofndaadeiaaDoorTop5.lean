/- Plain laws. -/
import Derived.Test.YtpggofndaadeiaaDoorTop4
set_option linter.unusedSimpArgs false
set_option linter.unusedVariables false
set_option maxRecDepth 100000
namespace Go.Rv
open Go.Lib
def matchL : List (List UInt8) → List (List UInt8) → Bool
  | [], n => n.isEmpty
  | x :: f, n => if x = [35] then true else match n with
    | [] => false
    | y :: n => if x ≠ [43] ∧ x ≠ y then false else matchL f n
def wants (f : List UInt8) : List UInt8 := match sharedR f with
  | (_, what, true) => what
  | _ => f
def dollar (f n : List UInt8) : Bool := decide (n.take 1 = [36]) && wild (f.take 1)
def matchB (f n : List UInt8) : Bool := filterB f && nameB n && !dollar (wants f) n && matchL (lv (wants f)) (lv n)
theorem tmatch_loop (f n : List (List UInt8)) (hf : f.length ≤ 70000) (hn : n.length ≤ 70000) : ∀ (k i : Nat), f.length - i ≤ k → i ≤ f.length → i ≤ n.length →
    (match iter (topic_Match_l2 (some n) (some f) (f.length : Int)) (i : Int) with
      | some (.inl b) => some b
      | some (.inr _) => some (decide ((f.length : Int) = (n.length : Int)))
      | none => none) = some (matchL (f.drop i) (n.drop i)) := by
  intro k
  induction k with
  | zero =>
    intro i h1 h2 h3
    rw [iter_eq]
    simp only [topic_Match_l2, topic_Match_b2]
    rw [if_neg (by simp; omega), show f.drop i = [] from List.drop_eq_nil_of_le (by omega)]
    simp only [matchL]
    congr 1
    rw [Bool.eq_iff_iff]
    simp
    omega
  | succ k ih =>
    intro i h1 h2 h3
    rw [iter_eq]
    simp only [topic_Match_l2, topic_Match_b2, L_some]
    by_cases hlt : i < f.length
    · have e : w64 ((i : Int) + 1) = ((i + 1 : Nat) : Int) := by rw [w64_id (by omega) (by omega)]; simp
      rw [if_pos (by simp; omega), ix_nat, List.getElem?_eq_getElem hlt, Option.bind_some, List.drop_eq_getElem_cons hlt, e]
      simp only [matchL]
      by_cases h35 : f[i] = [35]
      · rw [if_pos (by simpa using h35), if_pos h35]
      · rw [if_neg (by simpa using h35), if_neg h35]
        by_cases hi : n.length ≤ i
        · have hd : decide ((i : Int) ≥ (n.length : Int)) = true := decide_eq_true (by omega)
          rw [hd, if_pos rfl, if_pos rfl, show n.drop i = [] from List.drop_eq_nil_of_le hi]
        · have hni : i < n.length := by omega
          have hd : decide ((i : Int) ≥ (n.length : Int)) = false := decide_eq_false (by omega)
          rw [hd, if_neg (by decide), List.drop_eq_getElem_cons hni]
          simp only [ix_nat, List.getElem?_eq_getElem hni, Option.bind_some]
          have ih := ih (i + 1) (by omega) hlt hni
          by_cases h43 : f[i] = [43]
          · rw [if_neg (by simpa using h43)]
            refine ih.trans ?_
            rw [if_neg (by simp [h43])]
          · rw [if_pos (by simpa using h43)]
            by_cases he : f[i] = n[i]
            · rw [if_neg (by simpa using he)]
              refine ih.trans ?_
              rw [if_neg (by simp [he])]
            · rw [if_pos (by simpa using he), if_pos ⟨h43, he⟩]
    · rw [if_neg (by simp; omega), show f.drop i = [] from List.drop_eq_nil_of_le (by omega)]
      simp only [matchL]
      congr 1
      rw [Bool.eq_iff_iff]
      simp
      omega
theorem rmatch_loop (f n : List (List UInt8)) (hf : f.length ≤ 70000) (hn : n.length ≤ 70000) : ∀ (k i : Nat), f.length - i ≤ k → i ≤ f.length → i ≤ n.length →
    (match iter (r04_Match_l2 (some f) (some n)) (i : Int) with
      | some (.inl b) => some b
      | some (.inr _) => some (decide ((f.length : Int) = (n.length : Int)))
      | none => none) = some (matchL (f.drop i) (n.drop i)) := by
  intro k
  induction k with
  | zero =>
    intro i h1 h2 h3
    rw [iter_eq]
    simp only [r04_Match_l2, r04_Match_b2, L_some]
    rw [if_neg (by simp; omega), show f.drop i = [] from List.drop_eq_nil_of_le (by omega)]
    simp only [matchL]
    congr 1
    rw [Bool.eq_iff_iff]
    simp
    omega
  | succ k ih =>
    intro i h1 h2 h3
    rw [iter_eq]
    simp only [r04_Match_l2, r04_Match_b2, L_some]
    by_cases hlt : i < f.length
    · have e : w64 ((i : Int) + 1) = ((i + 1 : Nat) : Int) := by rw [w64_id (by omega) (by omega)]; simp
      rw [if_pos (by simp; omega)]
      simp only [ix_nat, List.getElem?_eq_getElem hlt, Option.bind_some]
      rw [List.drop_eq_getElem_cons hlt, e]
      simp only [matchL]
      by_cases h35 : f[i] = [35]
      · rw [if_pos (by simpa using h35), if_pos h35]
      · rw [if_neg (by simpa using h35), if_neg h35]
        by_cases hi : n.length ≤ i
        · have hd : decide ((i : Int) ≥ (n.length : Int)) = true := decide_eq_true (by omega)
          rw [hd, if_pos rfl, show n.drop i = [] from List.drop_eq_nil_of_le hi]
        · have hni : i < n.length := by omega
          have hd : decide ((i : Int) ≥ (n.length : Int)) = false := decide_eq_false (by omega)
          rw [hd, if_neg (by decide), List.drop_eq_getElem_cons hni]
          simp only [List.getElem?_eq_getElem hni, Option.bind_some]
          have ih := ih (i + 1) (by omega) hlt hni
          by_cases h43 : f[i] = [43]
          · rw [if_neg (by simpa using h43)]
            refine ih.trans ?_
            rw [if_neg (by simp [h43])]
          · rw [if_pos (by simpa using h43)]
            by_cases he : f[i] = n[i]
            · rw [if_neg (by simpa using he)]
              refine ih.trans ?_
              rw [if_neg (by simp [he])]
            · rw [if_pos (by simpa using he), if_pos ⟨h43, he⟩]
    · rw [if_neg (by simp; omega), show f.drop i = [] from List.drop_eq_nil_of_le (by omega)]
      simp only [matchL]
      congr 1
      rw [Bool.eq_iff_iff]
      simp
      omega
theorem bind_match {β : Type} (o : Option (Bool ⊕ Unit)) (b : Bool) (k : Bool → Option β) : (o.bind fun | .inl x => k x | .inr _ => k b) = (match o with | some (.inl x) => some x | some (.inr _) => some b | none => none).bind k := by
  cases o with
  | none => rfl
  | some s => cases s <;> rfl
theorem tcore (f n : List UInt8) (hf : f.length ≤ 1000) (hn : n.length ≤ 1000) (h0 : f ≠ []) : topic_Match_c0 f n (fun x => some x) = some (!dollar f n && matchL (lv f) (lv n)) := by
  have hc1 : topic_Match_c1 f n (fun x => some x) = some (matchL (lv f) (lv n)) := by
    simp only [topic_Match_c1, tSplit_eq f (by omega), tSplit_eq n (by omega), Option.bind_some, L_some]
    refine (bind_match _ _ (fun x => some x)).trans ?_
    have h1 := lv_len f
    have h2 := lv_len n
    have := tmatch_loop (lv f) (lv n) (by omega) (by omega) (lv f).length 0 (by omega) (by omega) (by omega)
    rw [show ((0 : Nat) : Int) = 0 from rfl] at this
    rw [this]; rfl
  have hlen : 1 ≤ f.length := by
    have : f.length ≠ 0 := fun e => h0 (List.length_eq_zero_iff.1 e)
    omega
  have hs := slc_nat (l := f) (a := 0) (b := 1) (by omega) hlen
  rw [show ((0 : Nat) : Int) = 0 from rfl, show ((1 : Nat) : Int) = 1 from rfl, List.drop_zero] at hs
  simp only [topic_Match_c0, strings_HasPrefix, hasP_eq n [36] (by omega) (by decide), Option.bind_some, dollar, hs, tWild_eq (f.take 1) (by simp; omega), hc1, show ([36] : List UInt8).length = 1 from rfl]
  cases decide (n.take 1 = [36]) <;> cases wild (f.take 1) <;> simp
theorem beq_dec (x a : UInt8) : (x == a) = decide (a = x) := by
  by_cases h : a = x
  · subst h; simp
  · simp [h, Ne.symm h]
theorem rcore (f n : List UInt8) (hf : f.length ≤ 1000) (hn : n.length ≤ 1000) (h0 : f ≠ []) (hn0 : n ≠ []) : r04_Match_c0 f n (fun x => some x) = some (!dollar f n && matchL (lv f) (lv n)) := by
  have hc1 : r04_Match_c1 (some (lv f)) (some (lv n)) (fun x => some x) = some (matchL (lv f) (lv n)) := by
    simp only [r04_Match_c1, L_some]
    refine (bind_match _ _ (fun x => some x)).trans ?_
    have h1 := lv_len f
    have h2 := lv_len n
    have := rmatch_loop (lv f) (lv n) (by omega) (by omega) (lv f).length 0 (by omega) (by omega) (by omega)
    rw [show ((0 : Nat) : Int) = 0 from rfl] at this
    rw [this]; rfl
  cases f with
  | nil => exact absurd rfl h0
  | cons a f =>
    cases n with
    | nil => exact absurd rfl hn0
    | cons b n =>
      have i1 : ∀ (x : UInt8) (l : List UInt8), ix (x :: l) 0 = some x := fun x l => rfl
      simp only [r04_Match_c0, levels_eq (a :: f) (by omega), levels_eq (b :: n) (by omega), Option.bind_some, i1, hc1, dollar]
      have e1 : decide ((b :: n).take 1 = [36]) = decide (b = 36) := by simp
      have e2 : wild ((a :: f).take 1) = (decide (a = 43) || decide (a = 35)) := by
        simp only [List.take_succ_cons, List.take_zero, wild, List.contains_cons, List.contains_nil, Bool.or_false]
        rw [beq_dec, beq_dec]
      rw [e1, e2]
      cases decide (b = 36) <;> cases decide (a = 43) <;> cases decide (a = 35) <;> simp
theorem wants_ok {f : List UInt8} (hl : f.length ≤ 1000) (h : filterB f = true) : wants f ≠ [] ∧ (wants f).length ≤ 1000 ∧
    ((shr f = none ∧ wants f = f ∧ sharedR f = ([], [], false)) ∨ ∃ a b, shr f = some (some (a, b)) ∧ wants f = b ∧ sharedR f = (a, b, true)) := by
  have hp : ∀ s, plainB s = true → s ≠ [] := fun s hs e => by simp [plainB, e] at hs
  simp only [filterB, Bool.and_eq_true] at h
  cases hs : shr f with
  | none =>
    have e : sharedR f = ([], [], false) := by simp [sharedR, hs]
    rw [hs] at h
    have ew : wants f = f := by simp [wants, e]
    exact ⟨by rw [ew]; exact hp _ h.2, by rw [ew]; exact hl, .inl ⟨rfl, ew, e⟩⟩
  | some q =>
    cases q with
    | none => rw [hs] at h; cases h.2
    | some p =>
      obtain ⟨a, b⟩ := p
      have hf : filterB f = true := by simp [filterB, h.1, h.2]
      have e : sharedR f = (a, b, true) := by simp [sharedR, hs, hf]
      rw [hs] at h
      have h2 := h.2
      simp only [shrF, Bool.and_eq_true] at h2
      have ew : wants f = b := by simp [wants, e]
      have := shr_len hs
      exact ⟨by rw [ew]; exact hp _ h2.2, by rw [ew]; omega, .inr ⟨a, b, rfl, ew, e⟩⟩
theorem tMatch_eq (f n : List UInt8) (hf : f.length ≤ 1000) (hn : n.length ≤ 1000) : topic_Match f n = some (matchB f n) := by
  simp only [topic_Match, tFilter_eq f hf, tName_eq n hn, tShared_eq f hf, Option.bind_some, matchB]
  cases h1 : filterB f with
  | false => simp
  | true =>
    cases h2 : nameB n with
    | false => simp
    | true =>
      simp only [Bool.not_true, Bool.false_eq_true, if_false, Bool.true_and]
      obtain ⟨w0, w1, w⟩ := wants_ok hf h1
      rcases w with ⟨_, e1, e2⟩ | ⟨a, b, _, e1, e2⟩
      · rw [e1] at w0 w1 ⊢
        rw [e2]
        simp only [Bool.false_eq_true, if_false]
        exact tcore f n hf hn w0
      · rw [e1] at w0 w1 ⊢
        rw [e2]
        simp only [if_true]
        exact tcore b n w1 hn w0
theorem rMatch_eq (f n : List UInt8) (hf : f.length ≤ 1000) (hn : n.length ≤ 1000) : r04_Match f n = some (matchB f n) := by
  simp only [r04_Match, rFilter_eq f hf, rName_eq n hn, share_eq f (by omega), Option.bind_some, matchB]
  cases h1 : filterB f with
  | false => simp
  | true =>
    cases h2 : nameB n with
    | false => simp
    | true =>
      have hn0 : n ≠ [] := fun e => by simp [nameB, e] at h2
      simp only [Bool.not_true, Bool.false_eq_true, if_false, Bool.true_and]
      obtain ⟨w0, w1, w⟩ := wants_ok hf h1
      rcases w with ⟨hs, e1, e2⟩ | ⟨a, b, hs, e1, e2⟩
      · rw [e1] at w0 w1 ⊢
        rw [hs]
        simp only [shrR, Bool.false_eq_true, if_false]
        exact rcore f n hf hn w0 hn0
      · rw [e1] at w0 w1 ⊢
        rw [hs]
        simp only [shrR, if_true]
        exact rcore b n w1 hn w0 hn0
theorem l04_told_true : l04_told = some true := by
  unfold l04_told
  rw [show topic_Shared [36, 115, 104, 97, 114, 101, 47, 103, 47, 97, 47, 43] = some ([103], [97, 47, 43], true) from (tShared_eq _ (by decide)).trans (by kernel_rfl), Option.bind_some]
  dsimp only
  rw [show topic_Match [97, 47, 43, 47, 99] [97, 47, 98, 47, 99] = some true from (tMatch_eq _ _ (by decide) (by decide)).trans (by kernel_rfl), Option.bind_some]
  rw [show topic_Match [97, 47, 43, 47, 99] [97, 47, 47, 99] = some true from (tMatch_eq _ _ (by decide) (by decide)).trans (by kernel_rfl), Option.bind_some]
  rw [show topic_Match [97, 47, 43, 47, 99] [97, 47, 98] = some false from (tMatch_eq _ _ (by decide) (by decide)).trans (by kernel_rfl), Option.bind_some]
  rw [show topic_Match [97, 47, 35] [97] = some true from (tMatch_eq _ _ (by decide) (by decide)).trans (by kernel_rfl), Option.bind_some]
  rw [show topic_Match [35] [36, 120] = some false from (tMatch_eq _ _ (by decide) (by decide)).trans (by kernel_rfl), Option.bind_some]
  rw [show topic_Filter [97, 47, 35, 47, 98] = some false from (tFilter_eq _ (by decide)).trans (by kernel_rfl), Option.bind_some]
  rw [show topic_Filter [36, 115, 104, 97, 114, 101, 47, 103] = some false from (tFilter_eq _ (by decide)).trans (by kernel_rfl), Option.bind_some]
  rw [show topic_Name [97] = some true from (tName_eq _ (by decide)).trans (by kernel_rfl), Option.bind_some]
  rw [show topic_Name [43] = some false from (tName_eq _ (by decide)).trans (by kernel_rfl), Option.bind_some]
  rfl
theorem cut_slc (s : List UInt8) (k : Nat) (hk : k ≤ 1000) : slc s 0 (imin (s.length : Int) (k : Int)) = some (s.take k) := by
  have e : imin (s.length : Int) (k : Int) = ((min s.length k : Nat) : Int) := by
    simp only [imin]; split <;> omega
  have := slc_nat (l := s) (a := 0) (b := min s.length k) (by omega) (by omega)
  rw [show ((0 : Nat) : Int) = 0 from rfl, List.drop_zero] at this
  rw [e, this]
  rcases Nat.le_total s.length k with h | h
  · rw [Nat.min_eq_left h, List.take_length, List.take_of_length_le h]
  · rw [Nat.min_eq_right h]
theorem tells_law (s : List UInt8) : l04_TopicTells s = some true := by
  simp only [l04_TopicTells]
  have hc := cut_slc s 300 (by omega)
  rw [show ((300 : Nat) : Int) = 300 from rfl] at hc
  rw [hc, Option.bind_some]
  have hl : (s.take 300).length ≤ 300 := by simp; omega
  generalize s.take 300 = t at hl ⊢
  simp only [tShared_eq t (by omega), rShared_eq t (by omega), l04_told_true, tName_eq t (by omega), rName_eq t (by omega), tFilter_eq t (by omega), rFilter_eq t (by omega), tWild_eq t (by omega), rWild_eq t (by omega), Option.bind_some]
  simp
theorem matches_law (f n : List UInt8) : l04_TopicMatches f n = some true := by
  simp only [l04_TopicMatches]
  have hc := fun s => cut_slc s 200 (by omega)
  rw [show ((200 : Nat) : Int) = 200 from rfl] at hc
  rw [hc, hc, Option.bind_some, Option.bind_some]
  have h1 : (f.take 200).length ≤ 200 := by simp; omega
  have h2 : (n.take 200).length ≤ 200 := by simp; omega
  generalize f.take 200 = f at h1 ⊢
  generalize n.take 200 = n at h2 ⊢
  simp only [l04_told_true, tMatch_eq f n (by omega) (by omega), rMatch_eq f n (by omega) (by omega), Option.bind_some]
  simp
theorem pure_TopicTells (x : tyL Tb [.g (.f (.a .s))]) (hx : szArgs tab 4 [.g (.f (.a .s))] x) : l04_TopicTells x.1 = some true := tells_law _
theorem pure_TopicMatches (x : tyL Tb [.g (.f (.a .s)), .g (.f (.a .s))]) (hx : szArgs tab 4 [.g (.f (.a .s)), .g (.f (.a .s))] x) : l04_TopicMatches x.1 x.2.1 = some true := matches_law _ _
end Go.Rv
