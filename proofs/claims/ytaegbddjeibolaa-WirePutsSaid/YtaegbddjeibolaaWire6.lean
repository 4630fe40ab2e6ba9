/- Plain laws. -/
import Derived.Test.YtaegbddjeibolaaWire5
set_option linter.unusedSimpArgs false
set_option linter.unusedVariables false
set_option maxRecDepth 100000
namespace Go.Rv
theorem c1_rl {ρ : Type} {w : wire_Reader} {r : r01_Reader} (h : RL w r) (k1 k2 : wire_Reader → r01_Reader → Option ρ) : l01_WireReads_c1 true w r k1 k2 = k2 w r := by
  obtain ⟨n, h1, h2⟩ := left_rl h
  simp only [l01_WireReads_c1, wire_Reader_Err, Option.bind_some]
  rw [if_neg (by simp), if_neg (by simp [h.err]), h1, Option.bind_some, h2, Option.bind_some]
  simp only
  rw [if_neg (by simp)]
theorem reads_step {ρ : Type} (l : Option (List l01_Thing)) (i : Nat) (hi : i < (L l).length) (h40 : i < 40) {w : wire_Reader} {r : r01_Reader} (h : RL w r) (kb : Int → wire_Reader → r01_Reader → Option ρ) (k1 k2 : wire_Reader → r01_Reader → Option ρ) :
    ∃ w' r', RL w' r' ∧ l01_WireReads_b0 l (i : Int) w r kb k1 k2 = kb (w64 ((i : Int) + 1)) w' r' := by
  simp only [l01_WireReads_b0]
  rw [if_pos (by simpa using hi), if_pos (by simpa using by omega), ix_nat, List.getElem?_eq_getElem hi]
  simp only [Option.bind_some]
  rw [chk_d (p := (7 : UInt64) ≠ 0) (by decide), Option.bind_some]
  generalize w64 (((u64 ((L l)[i]).Kind) % (7 : UInt64)).toNat : Int) = k
  by_cases c0 : k = 0
  · rw [if_pos (by simpa using c0)]
    obtain ⟨c, w', r', h1, h2, h3⟩ := byte_rl h
    rw [h1, Option.bind_some, h2, Option.bind_some]
    simp only [decide_true]
    exact ⟨w', r', h3, c1_rl h3 _ _⟩
  rw [if_neg (by simpa using c0)]
  by_cases c1 : k = 1
  · rw [if_pos (by simpa using c1)]
    obtain ⟨c, w', r', h1, h2, h3⟩ := two_rl h
    rw [h1, Option.bind_some, h2, Option.bind_some]
    simp only [decide_true]
    exact ⟨w', r', h3, c1_rl h3 _ _⟩
  rw [if_neg (by simpa using c1)]
  by_cases c2 : k = 2
  · rw [if_pos (by simpa using c2)]
    obtain ⟨c, w', r', h1, h2, h3⟩ := four_rl h
    rw [h1, Option.bind_some, h2, Option.bind_some]
    simp only [decide_true]
    exact ⟨w', r', h3, c1_rl h3 _ _⟩
  rw [if_neg (by simpa using c2)]
  by_cases c3 : k = 3
  · rw [if_pos (by simpa using c3)]
    obtain ⟨c, w', r', h1, h2, h3⟩ := var_rl h
    rw [h1, Option.bind_some, h2, Option.bind_some]
    simp only [decide_true]
    exact ⟨w', r', h3, c1_rl h3 _ _⟩
  rw [if_neg (by simpa using c3)]
  by_cases c4 : k = 4
  · rw [if_pos (by simpa using c4)]
    obtain ⟨c, w', r', h1, h2, h3⟩ := bin_rl h
    rw [h1, Option.bind_some, h2, Option.bind_some]
    simp only [decide_true]
    exact ⟨w', r', h3, c1_rl h3 _ _⟩
  rw [if_neg (by simpa using c4)]
  by_cases c5 : k = 5
  · rw [if_pos (by simpa using c5)]
    obtain ⟨c, w', r', h1, h2, h3⟩ := rest_rl h
    rw [h1, Option.bind_some, h2, Option.bind_some]
    simp only [decide_true]
    exact ⟨w', r', h3, c1_rl h3 _ _⟩
  rw [if_neg (by simpa using c5)]
  by_cases c6 : k = 6
  · rw [if_pos (by simpa using c6)]
    obtain ⟨w', r', ws, rs, h1, h2, h3, h4⟩ := sub_rl ((L l)[i]).N h
    rw [h1, Option.bind_some, h2, Option.bind_some]
    simp only
    obtain ⟨n, l1, l2⟩ := left_rl h4
    rw [l1, Option.bind_some, l2, Option.bind_some]
    simp only [decide_true, if_true]
    obtain ⟨c, ws1, rs1, b1, b2, b3⟩ := byte_rl h4
    rw [b1, Option.bind_some, b2, Option.bind_some]
    simp only [decide_true, if_true]
    obtain ⟨d, ws2, rs2, d1, d2, d3⟩ := bin_rl b3
    rw [d1, Option.bind_some, d2, Option.bind_some]
    simp only [decide_true, if_true, wire_Reader_Err, Option.bind_some]
    simp only [d3.err, decide_true]
    exact ⟨w', r', h3, c1_rl h3 _ _⟩
  rw [if_neg (by simpa using c6)]
  exact ⟨w, r, h, c1_rl h _ _⟩
theorem reads_loop (l : Option (List l01_Thing)) : ∀ (k i : Nat) (w : wire_Reader) (r : r01_Reader), i + k = 41 → RL w r → ∃ x, iter (l01_WireReads_l0 l) ((i : Int), w, r) = some (.inr x)
  | 0, i, w, r, hk, h => by
    rw [iter_eq]
    simp only [l01_WireReads_l0, l01_WireReads_b0]
    by_cases c : i < (L l).length
    · rw [if_pos (by simpa using c), if_neg (by simp; omega)]; exact ⟨_, rfl⟩
    · rw [if_neg (by simpa using c)]; exact ⟨_, rfl⟩
  | k + 1, i, w, r, hk, h => by
    rw [iter_eq]
    by_cases c : i < (L l).length
    · by_cases c4 : i < 40
      · simp only [l01_WireReads_l0]
        obtain ⟨w', r', h', e⟩ := reads_step (ρ := (Int × wire_Reader × r01_Reader) ⊕ ((wire_Reader × r01_Reader) ⊕ (wire_Reader × r01_Reader))) l i c c4 h (fun x10 x11 x12 => some (.inl (x10, x11, x12))) (fun y119 y120 => some (.inr (.inl (y119, y120)))) (fun y121 y122 => some (.inr (.inr (y121, y122))))
        have e1 : w64 ((i : Int) + 1) = ((i + 1 : Nat) : Int) := by rw [show ((i : Int) + 1) = ((i + 1 : Nat) : Int) by simp]; exact w64_nat (by omega)
        rw [e, e1]
        exact reads_loop l k (i + 1) w' r' (by omega) h'
      · simp only [l01_WireReads_l0, l01_WireReads_b0]
        rw [if_pos (by simpa using c), if_neg (by simp; omega)]; exact ⟨_, rfl⟩
    · simp only [l01_WireReads_l0, l01_WireReads_b0]
      rw [if_neg (by simpa using c)]; exact ⟨_, rfl⟩
theorem reads_law (a1 : Option (List UInt8)) (a2 : Option (List l01_Thing)) : l01_WireReads a1 a2 = some true := by
  simp only [l01_WireReads]
  rw [show (300 : Int) = ((300 : Nat) : Int) from rfl, imin_nat]
  obtain ⟨r, hr1, hr2⟩ := slO_to (o := a1) (b := min (L a1).length 300) (Nat.min_le_left _ _)
  have hlen : (L r).length ≤ 300 := by rw [hr2, List.length_take]; omega
  rw [hr1, Option.bind_some, appO_some (by simp [room]; omega) (by simp [room]; omega), Option.bind_some]
  rw [l01_told_true]
  simp only [wire_Read, Option.bind_some, Bool.not_true]
  rw [if_neg (by simp)]
  obtain ⟨x, hx⟩ := reads_loop a2 41 0 ⟨L r, 0⟩ ⟨L r, 0, 0⟩ rfl (.ok (L r) 0 (Nat.zero_le _) (by omega))
  rw [show (((0 : Nat) : Int)) = 0 from rfl] at hx
  rw [show L (some ([] ++ L r)) = L r from rfl, hx]
  simp
theorem pure_WireReads (x : tyL Tb [.g (.f (.a .bs)), .g (.f (.a (.sl 1)))]) (hx : szArgs tab 4 [.g (.f (.a .bs)), .g (.f (.a (.sl 1)))] x) : l01_WireReads x.1 x.2.1 = some true := reads_law _ _
end Go.Rv
