/- Plain laws. -/
import Derived.Test.YtpggofndaadeiaaDoorSel3
set_option linter.unusedSimpArgs false
set_option linter.unusedVariables false
set_option maxRecDepth 100000
set_option maxRecDepth 100000
namespace Go.Rv
open Go.Lib
theorem match_set : ∀ (l : List (List UInt8)) (k : Nat), matchL (l.set k [43]) l = true
  | [], _ => rfl
  | x :: l, 0 => by simp [matchL, match_self]
  | x :: l, k + 1 => by simp only [List.set_cons_succ, matchL]; split <;> simp [match_set l k]
theorem take7 {f : List UInt8} (h : ∀ b ∈ f, b ≠ 115) : f.take 7 ≠ shP := by
  intro e
  have h1 : (115 : UInt8) ∈ f.take 7 := by rw [e]; decide
  exact h 115 (List.mem_of_mem_take h1) rfl
theorem dollar_no {f n : List UInt8} (h : ∀ b ∈ n, b ≠ 36) : dollar f n = false := by
  simp only [dollar, Bool.and_eq_false_iff]
  left
  apply decide_eq_false
  intro e
  have : (36 : UInt8) ∈ n.take 1 := by rw [e]; decide
  exact h 36 (List.mem_of_mem_take this) rfl
theorem plainB_of {s : List UInt8} (h : s ≠ []) (hp : plainL (lv s) = true) : plainB s = true := by simp [plainB, h, hp]
theorem selves_core (q : List UInt8) (hg : good q = true) (h0 : q ≠ []) (hb : ∀ b ∈ q, b ≠ 36 ∧ b ≠ 43 ∧ b ≠ 35 ∧ b ≠ 115) (hlv : ∀ x ∈ lv q, good x = true) (k : Nat) :
    matchB q q = true ∧ matchB (js ((lv q).set k [43])) q = true ∧ matchB (sls ((lv q).take k) ++ [35]) q = true ∧ matchB (shP ++ ([120] ++ 47 :: js ((lv q).set k [43]))) q = true ∧
    matchB [35] q = true ∧ matchB [35] (36 :: q) = false ∧ matchB [43, 47, 35] (36 :: q) = false ∧ matchB (36 :: q) (36 :: q) = true := by
  have hnw : ∀ x ∈ lv q, wild x = false := fun x hx => not_wild fun b hbx => ⟨(hb b (mem_lv hx hbx)).2.1, (hb b (mem_lv hx hbx)).2.2.1⟩
  have hqw : wild q = false := not_wild fun b h => ⟨(hb b h).2.1, (hb b h).2.2.1⟩
  have hname : nameB q = true := by simp [nameB, h0, hg, hqw]
  have hd : ∀ f, dollar f q = false := fun f => dollar_no fun b h => (hb b h).1
  have hset : ∀ x ∈ (lv q).set k [43], x = [43] ∨ (x ∈ lv q) := fun x hx => (List.mem_or_eq_of_mem_set hx).symm
  have hsetne : (lv q).set k [43] ≠ [] := by
    intro e
    have := congrArg List.length e
    simp at this
    exact lv_ne q this
  have hflv : lv (js ((lv q).set k [43])) = (lv q).set k [43] := lv_js hsetne (fun x hx => by
    rcases hset x hx with rfl | h
    · decide
    · exact lv_noslash q x h)
  have hfplain : plainL ((lv q).set k [43]) = true := plain_of fun x hx => (hset x hx).imp id (hnw x)
  have hfne : js ((lv q).set k [43]) ≠ [] := by
    intro e
    have h1 : (lv q).set k [43] = [[]] := by rw [← hflv, e]; rfl
    have h2 : (lv q).length = 1 := by have := congrArg List.length h1; simpa using this
    match hq : lv q, h2 with
    | [x], _ =>
      have hjq := js_lv q
      rw [hq] at h1 hjq
      cases k with
      | zero => simp at h1
      | succ k =>
        simp at h1
        simp only [js] at hjq
        exact h0 (by rw [← hjq]; exact h1)
  have hfgood : good (js ((lv q).set k [43])) = true := js_good fun x hx => by
    rcases hset x hx with rfl | h
    · decide +kernel
    · exact hlv x h
  have hfb : ∀ b ∈ js ((lv q).set k [43]), b ≠ 115 := by
    intro b h
    rcases mem_js h with rfl | ⟨x, hx, hbx⟩
    · decide
    · rcases hset x hx with rfl | h
      · simp at hbx; subst hbx; decide
      · exact (hb b (mem_lv h hbx)).2.2.2
  refine ⟨?_, ?_, ?_, ?_, ?_, ?_, ?_, ?_⟩
  · rw [matchB_plain q (take7 fun b h => (hb b h).2.2.2), hg, plainB_of h0 (plain_of fun x hx => .inr (hnw x hx)), hname, hd, match_self]; rfl
  · rw [matchB_plain q (take7 hfb), hfgood, plainB_of hfne (by rw [hflv]; exact hfplain), hname, hd, hflv, match_set]; rfl
  · rw [sls_js]
    have hT : ∀ x ∈ (lv q).take k, x ∈ lv q := fun x h => List.mem_of_mem_take h
    have hne : (lv q).take k ++ [[35]] ≠ [] := by simp
    have e : lv (js ((lv q).take k ++ [[35]])) = (lv q).take k ++ [[35]] := lv_js hne (fun x hx => by
      rcases List.mem_append.1 hx with h | h
      · exact lv_noslash q x (hT x h)
      · simp at h; subst h; decide)
    have hgd : good (js ((lv q).take k ++ [[35]])) = true := js_good fun x hx => by
      rcases List.mem_append.1 hx with h | h
      · exact hlv x (hT x h)
      · simp at h; subst h; decide +kernel
    have h7 : ∀ b ∈ js ((lv q).take k ++ [[35]]), b ≠ 115 := by
      intro b h
      rcases mem_js h with rfl | ⟨x, hx, hbx⟩
      · decide
      · rcases List.mem_append.1 hx with h | h
        · exact (hb b (mem_lv (hT x h) hbx)).2.2.2
        · simp at h; subst h; simp at hbx; subst hbx; decide
    have hn0 : js ((lv q).take k ++ [[35]]) ≠ [] := by
      intro h
      rw [h] at e
      have := congrArg List.getLast? e
      simp [lv] at this
    have hm : matchL ((lv q).take k ++ [[35]]) (lv q) = true := by
      have := match_cat ((lv q).drop k) (match_self ((lv q).take k))
      rwa [List.take_append_drop] at this
    rw [matchB_plain q (take7 h7), hgd, plainB_of hn0 (by rw [e]; exact plain_last fun x hx => .inr (hnw x (hT x hx))), hname, hd, e, hm]; rfl
  · rw [matchB_share [120] _ q (by decide) (by decide) (by decide) (good_cat (by decide +kernel) (by rw [good47]; exact hfgood)) (plainB_of hfne (by rw [hflv]; exact hfplain)), hname, hd, hflv, match_set]; rfl
  · rw [matchB_plain q (by decide), hname, hd, show good [35] = true by decide +kernel, show plainB [35] = true by decide +kernel, show lv [35] = [[35]] by decide]
    simp [matchL]
  · have : dollar [35] (36 :: q) = true := by simp [dollar, wild]
    rw [matchB_plain _ (by decide), this]; simp
  · have : dollar [43, 47, 35] (36 :: q) = true := by simp [dollar, wild]
    rw [matchB_plain _ (by decide), this]; simp
  · have h7 : (36 :: q).take 7 ≠ shP := take7 fun b h => by
      rcases List.mem_cons.1 h with rfl | h
      · decide
      · exact (hb b h).2.2.2
    have hg2 : good (36 :: q) = true := by rw [good_asc 36 q (by decide) (by decide)]; exact hg
    have hw2 : wild (36 :: q) = false := not_wild fun b h => by
      rcases List.mem_cons.1 h with rfl | h
      · decide
      · exact ⟨(hb b h).2.1, (hb b h).2.2.1⟩
    have hd2 : dollar (36 :: q) (36 :: q) = false := by simp [dollar, wild]
    have hp2 : plainB (36 :: q) = true := plainB_of (by simp) (plain_of fun x hx => .inr (not_wild fun b hbx => by
      rcases List.mem_cons.1 (mem_lv hx hbx) with rfl | h
      · decide
      · exact ⟨(hb b h).2.1, (hb b h).2.2.1⟩))
    rw [matchB_plain _ h7, hg2, hp2, hd2, match_self]
    simp [nameB, hg2, hw2]
theorem u64_len {n : Nat} (h : n ≤ 1000) : (u64 (n : Int)).toNat = n := by rw [u64_toNat']; omega
theorem selves_law (a : List UInt8) (z : Int) : l04_TopicSelves a z = some true := by
  obtain ⟨m, q, hm, hq, h0, e⟩ := tfix_eq a
  have hlen := hq.len
  have hll := lv_len q
  have hx : ∀ x ∈ lv q, x.length ≤ 20 := fun x h => by have := lv_mem_len q x h; omega
  have hln : (lv q).length ≠ 0 := fun e => lv_ne q (List.length_eq_zero_iff.1 e)
  have hne : u64 ((lv q).length : Int) ≠ 0 := by
    intro e
    have h1 := congrArg UInt64.toNat e
    rw [u64_len (by omega)] at h1
    exact hln h1
  obtain ⟨k, hk⟩ : ∃ k : Nat, k = (u64 z % u64 ((lv q).length : Int)).toNat := ⟨_, rfl⟩
  have hk2 : k < (lv q).length := by
    rw [hk, UInt64.toNat_mod, u64_len (by omega)]
    exact Nat.mod_lt _ (by omega)
  obtain ⟨m1, m2, m3, m4, m5, m6, m7, m8⟩ := selves_core q hq.good h0 hq.bytes hq.levels k
  have hit := selves_loop (lv q) k (by omega) hx (lv q).length 0 (by omega) (by omega)
  rw [show ((0 : Nat) : Int) = 0 from rfl, List.take_zero, Nat.zero_min, List.take_zero, Nat.min_eq_right (by omega)] at hit
  have hit' : iter (l04_TopicSelves_l0 (some (lv q)) (k : Int)) ([], [], 0) = some (js ((lv q).set k [43]), sls ((lv q).take k)) := hit
  have hx2 : ∀ x ∈ (lv q).set k [43], x.length ≤ 20 := by
    intro x h
    rcases List.mem_or_eq_of_mem_set h with h | h
    · exact hx x h
    · rw [h]; simp
  have b1 := js_len (m := 20) hx2
  have b2 := sls_len (l := (lv q).take k) (m := 20) (fun x h => hx x (List.mem_of_mem_take h))
  have b3 : ((lv q).take k).length ≤ 20 := by simp; omega
  have b5 : (js ((lv q).set k [43])).length ≤ 420 := Nat.le_trans b1 (by rw [List.length_set]; exact Nat.le_trans (Nat.mul_le_mul_right _ (show (lv q).length ≤ 20 by omega)) (by omega))
  have b6 : (sls ((lv q).take k)).length ≤ 420 := Nat.le_trans b2 (Nat.le_trans (Nat.mul_le_mul_right _ b3) (by omega))
  simp only [l04_TopicSelves, e, levels_eq q (by omega), Option.bind_some, L_some]
  rw [chk_d hne, Option.bind_some, ← hk, show w64 (k : Int) = (k : Int) from w64_id (by omega) (by omega), hit']
  generalize js ((lv q).set k [43]) = F at m2 m4 b5 ⊢
  generalize sls ((lv q).take k) = G at m3 b6 ⊢
  simp only [Option.bind_some, l04_told_true, if_true]
  rw [tMatch_eq q q (by omega) (by omega), m1, Option.bind_some, if_pos rfl, tMatch_eq F q (by omega) (by omega), m2, Option.bind_some, if_pos rfl, cat_ok (by omega) (by simp), Option.bind_some, tMatch_eq _ q (by simp; omega) (by omega), m3, Option.bind_some, if_pos rfl,
    cat_ok (by simp) (by omega), Option.bind_some, tMatch_eq _ q (by simp; omega) (by omega)]
  have m4' : matchB ([36, 115, 104, 97, 114, 101, 47, 120, 47] ++ F) q = true := m4
  rw [m4', Option.bind_some, if_pos rfl, tMatch_eq _ q (by simp) (by omega), m5, Option.bind_some, if_pos rfl]
  simp only [cat_ok (a := [36]) (b := q) (by simp) (by omega), Option.bind_some]
  have m6' : matchB [35] ([36] ++ q) = false := m6
  have m7' : matchB [43, 47, 35] ([36] ++ q) = false := m7
  have m8' : matchB ([36] ++ q) ([36] ++ q) = true := m8
  rw [tMatch_eq _ _ (by simp) (by simp; omega), m6', Option.bind_some, if_pos (show (!false) = true from rfl), tMatch_eq _ _ (by simp) (by simp; omega), m7', Option.bind_some, if_pos (show (!false) = true from rfl), tMatch_eq _ _ (by simp; omega) (by simp; omega), m8']
  rfl
theorem pure_TopicSelves (x : tyL Tb [.g (.f (.a .s)), .g (.f (.a (.n .i64)))]) (hx : szArgs tab 4 [.g (.f (.a .s)), .g (.f (.a (.n .i64)))] x) : l04_TopicSelves x.1 x.2.1 = some true := selves_law _ _
end Go.Rv
