/- Plain laws. -/
import Derived.Test.YtaegbddjeibolaaWire4
set_option linter.unusedSimpArgs false
set_option linter.unusedVariables false
set_option maxRecDepth 100000
namespace Go.Rv
/-- The two readers stand at one place. -/
inductive RL : wire_Reader → r01_Reader → Prop
  | ok (B : List UInt8) (a : Nat) (h : a ≤ B.length) (hB : B.length ≤ 4611686018427387904) : RL ⟨B.drop a, 0⟩ ⟨B, (a : Int), 0⟩
  | bad (b B : List UInt8) (A e : Int) (h : e ≠ 0) : RL ⟨b, e⟩ ⟨B, A, e⟩
theorem RL.err {w : wire_Reader} {r : r01_Reader} (h : RL w r) : w.err = r.Bad := by cases h <;> rfl
theorem take_rl {w : wire_Reader} {r : r01_Reader} (n : Int) (h : RL w r) : ∃ x ok w' r', wire_Reader_take n w = some (x, ok, w') ∧ r01_Reader_take n r = some (x, ok, r') ∧ RL w' r' ∧
    (ok = true → 0 ≤ n ∧ x.length = n.toNat ∧ w'.err = 0 ∧ x.length ≤ 4611686018427387904) ∧ (ok = false → x = [] ∧ w'.err ≠ 0) := by
  cases h with
  | bad b B A e he =>
    refine ⟨[], false, _, _, ?_, ?_, .bad b B A e he, by simp, fun _ => ⟨rfl, he⟩⟩
    · simp only [wire_Reader_take, wire_Reader_Err, Option.bind_some]
      rw [if_pos (by simpa using he)]
    · simp only [r01_Reader_take]
      rw [if_pos (by simpa using he)]
  | ok B a h hB =>
    have ew : w64 ((B.length : Int) - (a : Int)) = ((B.length - a : Nat) : Int) := by rw [show ((B.length : Int) - (a : Int)) = ((B.length - a : Nat) : Int) by omega]; exact w64_nat (by omega)
    have bad : (n < 0 ∨ ¬ n < 0 ∧ ((B.length - a : Nat) : Int) < n) → wire_Reader_take n ⟨B.drop a, 0⟩ = some ([], false, ⟨B.drop a, 2⟩) ∧ r01_Reader_take n ⟨B, (a : Int), 0⟩ = some ([], false, ⟨B, (a : Int), 2⟩) := by
      intro hn
      constructor
      · simp only [wire_Reader_take, wire_Reader_Err, Option.bind_some, List.length_drop]
        rw [if_neg (by simp)]
        rcases hn with hn | ⟨hn, hb⟩
        · rw [if_pos (by simpa using hn)]; rfl
        · rw [if_neg (by simpa using hn)]
          simp only [wire_Reader_take_c0]
          rw [if_pos (by simpa using hb)]
      · simp only [r01_Reader_take, ew]
        rw [if_neg (by simp)]
        rcases hn with hn | ⟨hn, hb⟩
        · rw [if_pos (by simpa using hn)]; rfl
        · rw [if_neg (by simpa using hn)]
          simp only [r01_Reader_take_c0]
          rw [if_pos (by simpa using hb)]
    by_cases hb : n < 0 ∨ ¬ n < 0 ∧ ((B.length - a : Nat) : Int) < n
    · obtain ⟨b1, b2⟩ := bad hb
      exact ⟨[], false, _, _, b1, b2, .bad _ _ _ _ (by decide), by simp, fun _ => ⟨rfl, fun e => absurd (show (2 : Int) = 0 from e) (by decide)⟩⟩
    · obtain ⟨m, rfl⟩ : ∃ m : Nat, n = (m : Int) := ⟨n.toNat, by omega⟩
      have e1 : w64 ((a : Int) + (m : Int)) = ((a + m : Nat) : Int) := by rw [show ((a : Int) + (m : Int)) = ((a + m : Nat) : Int) by simp]; exact w64_nat (by omega)
      have s1 : slc (B.drop a) 0 (m : Int) = some ((B.drop a).take m) := by
        have := slc_nat (l := B.drop a) (a := 0) (b := m) (Nat.zero_le _) (by simp; omega)
        rw [List.drop_zero] at this; exact this
      have s2 : slc (B.drop a) (m : Int) ((B.length - a : Nat) : Int) = some ((B.drop a).drop m) := by
        have := slc_from (l := B.drop a) (a := m) (by simp; omega)
        rw [List.length_drop] at this; exact this
      have s3 : slc B (a : Int) ((a + m : Nat) : Int) = some ((B.drop a).take m) := by
        rw [slc_nat (by omega) (by omega), List.drop_take, show a + m - a = m by omega]
      refine ⟨(B.drop a).take m, true, ⟨B.drop (a + m), 0⟩, ⟨B, ((a + m : Nat) : Int), 0⟩, ?_, ?_, .ok B (a + m) (by omega) hB, fun _ => ⟨by omega, by simp; omega, rfl, by simp; omega⟩, by simp⟩
      · simp only [wire_Reader_take, wire_Reader_Err, Option.bind_some, List.length_drop]
        rw [if_neg (by simp), if_neg (by simp)]
        simp only [wire_Reader_take_c0, wire_Reader_take_c1, List.length_drop]
        rw [if_neg (by simp; omega), s1, s2, List.drop_drop]
        rfl
      · simp only [r01_Reader_take, ew]
        rw [if_neg (by simp), if_neg (by simp)]
        simp only [r01_Reader_take_c0, r01_Reader_take_c1]
        rw [if_neg (by simp; omega), e1, s3]
        rfl
/-- A number, its high byte first. -/
def numF (v : UInt64) (l : List UInt8) : UInt64 := l.foldl (fun v c => 256 * v + u64 (c.toNat : Int)) v
theorem num_loop (l : List UInt8) (hl : l.length ≤ 1000) : ∀ (k i : Nat) (v : UInt64), i + k = l.length → iter (r01_Reader_Num_l0 l) (v, (i : Int)) = some (numF v (l.drop i))
  | 0, i, v, h => by
    rw [iter_eq]
    simp only [r01_Reader_Num_l0, r01_Reader_Num_b0]
    rw [if_neg (by simp; omega), List.drop_of_length_le (by omega)]; rfl
  | k + 1, i, v, h => by
    rw [iter_eq]
    simp only [r01_Reader_Num_l0, r01_Reader_Num_b0]
    have hlt : i < l.length := by omega
    have e1 : w64 ((i : Int) + 1) = ((i + 1 : Nat) : Int) := by rw [show ((i : Int) + 1) = ((i + 1 : Nat) : Int) by simp]; exact w64_nat (by omega)
    rw [if_pos (by simp; omega), ix_nat, List.getElem?_eq_getElem hlt, Option.bind_some, e1, List.drop_eq_getElem_cons hlt]
    exact num_loop l hl k (i + 1) _ (by omega)
theorem num_rl {w : wire_Reader} {r : r01_Reader} (n : Nat) (hn : n ≤ 1000) (h : RL w r) : ∃ x ok w' r', wire_Reader_take n w = some (x, ok, w') ∧ r01_Reader_Num n r = some (numF 0 x, r') ∧ RL w' r' ∧
    (ok = true → x.length = n) ∧ (ok = false → x = []) := by
  obtain ⟨x, ok, w', r', h1, h2, h3, h4, h5⟩ := take_rl (n : Int) h
  refine ⟨x, ok, w', r', h1, ?_, h3, fun e => by simpa using (h4 e).2.1, fun e => (h5 e).1⟩
  simp only [r01_Reader_Num]
  rw [h2, Option.bind_some]
  cases ok with
  | false => rw [(h5 rfl).1]; rfl
  | true =>
    have hx := (h4 rfl).2.1
    simp only [Bool.not_true]
    have := num_loop x (by omega) x.length 0 0 (by omega)
    rw [show (((0 : Nat) : Int)) = 0 from rfl] at this
    rw [if_neg (by simp), this]; rfl
theorem u64_nat {n : Nat} (h : n < 18446744073709551616) : (u64 (n : Int)).toNat = n := by rw [u64_toNat']; omega
theorem u32_nat {n : Nat} (h : n < 4294967296) : (u32 (n : Int)).toNat = n := by rw [u32_toNat']; omega
theorem u16_nat {n : Nat} (h : n < 65536) : (u16 (n : Int)).toNat = n := by rw [u16_toNat']; omega
theorem byte_rl {w : wire_Reader} {r : r01_Reader} (h : RL w r) : ∃ c w' r', wire_Reader_Byte_1 w = some (c, w') ∧ r01_Reader_Num 1 r = some (u64 (c.toNat : Int), r') ∧ RL w' r' := by
  obtain ⟨x, ok, w', r', h1, h2, h3, h4, h5⟩ := num_rl 1 (by omega) h
  rw [show (((1 : Nat) : Int)) = 1 from rfl] at h1 h2
  simp only [wire_Reader_Byte_1]
  rw [h1, h2, Option.bind_some]
  cases ok with
  | false => rw [h5 rfl]; exact ⟨0, w', r', rfl, rfl, h3⟩
  | true =>
    obtain ⟨c, rfl⟩ := List.length_eq_one_iff.1 (h4 rfl)
    refine ⟨c, w', r', rfl, ?_, h3⟩
    simp only [numF, List.foldl_cons, List.foldl_nil]
    simp
theorem two_rl {w : wire_Reader} {r : r01_Reader} (h : RL w r) : ∃ c w' r', wire_Reader_Two w = some (c, w') ∧ r01_Reader_Num 2 r = some (u64 (c.toNat : Int), r') ∧ RL w' r' := by
  obtain ⟨x, ok, w', r', h1, h2, h3, h4, h5⟩ := num_rl 2 (by omega) h
  rw [show (((2 : Nat) : Int)) = 2 from rfl] at h1 h2
  simp only [wire_Reader_Two]
  rw [h1, h2, Option.bind_some]
  cases ok with
  | false => rw [h5 rfl]; exact ⟨0, w', r', rfl, rfl, h3⟩
  | true =>
    obtain ⟨c, d, rfl⟩ : ∃ c d, x = [c, d] := by
      match x, h4 rfl with
      | [c, d], _ => exact ⟨c, d, rfl⟩
    refine ⟨_, w', r', rfl, ?_, h3⟩
    simp only [numF, List.foldl_cons, List.foldl_nil]
    have hc := c.toNat_lt
    have hd := d.toNat_lt
    have e8 : (((8 : UInt64).toNat : Int)) = ((8 : Nat) : Int) := rfl
    have e256 : (256 : UInt64).toNat = 256 := rfl
    have e0 : (0 : UInt64).toNat = 0 := rfl
    congr 2
    rw [eq64, UInt64.toNat_add, UInt64.toNat_mul, UInt64.toNat_add, UInt64.toNat_mul, e256, e0, u64_nat (by omega), u64_nat (by omega), UInt16.toNat_or, e8, shl16_toNat (by omega), u16_nat (by omega), u16_nat (by omega), Nat.mod_eq_of_lt (show c.toNat * 2 ^ 8 < 65536 by omega), Nat.or_comm, or_add (by omega), u64_nat (by omega)]
    omega
theorem four_rl {w : wire_Reader} {r : r01_Reader} (h : RL w r) : ∃ c w' r', wire_Reader_Four_1 w = some (c, w') ∧ r01_Reader_Num 4 r = some (u64 (c.toNat : Int), r') ∧ RL w' r' := by
  obtain ⟨x, ok, w', r', h1, h2, h3, h4, h5⟩ := num_rl 4 (by omega) h
  rw [show (((4 : Nat) : Int)) = 4 from rfl] at h1 h2
  simp only [wire_Reader_Four_1]
  rw [h1, h2, Option.bind_some]
  cases ok with
  | false => rw [h5 rfl]; exact ⟨0, w', r', rfl, rfl, h3⟩
  | true =>
    obtain ⟨a, b, c, d, rfl⟩ : ∃ a b c d, x = [a, b, c, d] := by
      match x, h4 rfl with
      | [a, b, c, d], _ => exact ⟨a, b, c, d, rfl⟩
    refine ⟨_, w', r', rfl, ?_, h3⟩
    simp only [numF, List.foldl_cons, List.foldl_nil]
    have ha := a.toNat_lt
    have hb := b.toNat_lt
    have hc := c.toNat_lt
    have hd := d.toNat_lt
    have e8 : (((8 : UInt64).toNat : Int)) = ((8 : Nat) : Int) := rfl
    have e16 : (((16 : UInt64).toNat : Int)) = ((16 : Nat) : Int) := rfl
    have e24 : (((24 : UInt64).toNat : Int)) = ((24 : Nat) : Int) := rfl
    have e256 : (256 : UInt64).toNat = 256 := rfl
    have e0 : (0 : UInt64).toNat = 0 := rfl
    congr 2
    rw [eq64]
    simp only [UInt64.toNat_add, UInt64.toNat_mul, e256, e0, UInt32.toNat_or, e8, e16, e24]
    rw [u64_nat (by omega), u64_nat (by omega), u64_nat (by omega), u64_nat (by omega), shl32_toNat (by omega), shl32_toNat (by omega), shl32_toNat (by omega), u32_nat (by omega), u32_nat (by omega), u32_nat (by omega), u32_nat (by omega), Nat.mod_eq_of_lt (show a.toNat * 2 ^ 24 < 4294967296 by omega), Nat.mod_eq_of_lt (show b.toNat * 2 ^ 16 < 4294967296 by omega), Nat.mod_eq_of_lt (show c.toNat * 2 ^ 8 < 4294967296 by omega)]
    have s1 : a.toNat * 2 ^ 24 ||| b.toNat * 2 ^ 16 = (b.toNat + a.toNat * 256) * 2 ^ 16 := by rw [Nat.or_comm, or_add (by omega)]; omega
    have s2 : (b.toNat + a.toNat * 256) * 2 ^ 16 ||| c.toNat * 2 ^ 8 = (c.toNat + (b.toNat + a.toNat * 256) * 256) * 2 ^ 8 := by rw [Nat.or_comm, or_add (by omega)]; omega
    rw [s1, s2, Nat.or_comm, or_add (by omega), u64_nat (by omega)]
    omega
theorem var_rl {w : wire_Reader} {r : r01_Reader} (h : RL w r) : ∃ c w' r', wire_Reader_Var w = some (c, w') ∧ r01_Reader_Var r = some (c, r') ∧ RL w' r' := by
  cases h with
  | bad b B A e he => exact ⟨0, _, _, wRVar_bad _ he, rRVar_bad _ he, .bad b B A e he⟩
  | ok B a h hB =>
    have hs := (dec_lt 4 0 0 (B.drop a) (by decide)).2
    refine ⟨_, _, _, wRVar_eq _ (by simp; omega), rRVar_eq B a hB h, ?_⟩
    rw [List.drop_drop]
    by_cases he : (dec 4 0 0 (B.drop a)).2.2 = 0
    · rw [he]; exact .ok B _ (by simp at hs; omega) hB
    · exact .bad _ _ _ _ (by omega)
theorem bin_rl {w : wire_Reader} {r : r01_Reader} (h : RL w r) : ∃ c w' r', wire_Reader_Bin w = some (c, w') ∧ r01_Reader_Bin r = some (c, r') ∧ RL w' r' := by
  obtain ⟨n, w1, r1, h1, h2, h3⟩ := two_rl h
  obtain ⟨x, ok, w', r', h4, h5, h6, _⟩ := take_rl (w64 (n.toNat : Int)) h3
  have hn := n.toNat_lt
  refine ⟨x, w', r', ?_, ?_, h6⟩
  · simp only [wire_Reader_Bin]; rw [h1, Option.bind_some, h4]; rfl
  · simp only [r01_Reader_Bin]; rw [h2, Option.bind_some, u64_nat (by omega), h5]; rfl
theorem left_rl {w : wire_Reader} {r : r01_Reader} (h : RL w r) : ∃ n, wire_Reader_Left w = some (n, w) ∧ r01_Reader_Left r = some (n, r) := by
  cases h with
  | bad b B A e he =>
    refine ⟨0, ?_, ?_⟩
    · simp only [wire_Reader_Left, wire_Reader_Err, Option.bind_some]; rw [if_pos (by simpa using he)]
    · simp only [r01_Reader_Left]; rw [if_pos (by simpa using he)]
  | ok B a h hB =>
    have ew : w64 ((B.length : Int) - (a : Int)) = ((B.length - a : Nat) : Int) := by rw [show ((B.length : Int) - (a : Int)) = ((B.length - a : Nat) : Int) by omega]; exact w64_nat (by omega)
    refine ⟨((B.length - a : Nat) : Int), ?_, ?_⟩
    · simp only [wire_Reader_Left, wire_Reader_Err, Option.bind_some]; rw [if_neg (by simp), List.length_drop]
    · simp only [r01_Reader_Left, ew]; rw [if_neg (by simp)]
theorem rest_rl {w : wire_Reader} {r : r01_Reader} (h : RL w r) : ∃ c w' r', wire_Reader_Rest_1 w = some (c, w') ∧ r01_Reader_Rest r = some (c, r') ∧ RL w' r' := by
  obtain ⟨n, h1, h2⟩ := left_rl h
  obtain ⟨x, ok, w', r', h4, h5, h6, _⟩ := take_rl n h
  refine ⟨x, w', r', ?_, ?_, h6⟩
  · simp only [wire_Reader_Rest_1]; rw [h1, Option.bind_some, h4]; rfl
  · simp only [r01_Reader_Rest]; rw [h2, Option.bind_some, h5]; rfl
theorem sub_rl {w : wire_Reader} {r : r01_Reader} (n : Int) (h : RL w r) : ∃ w' r' ws rs, wire_Reader_Sub_1 n w = some (w', ws) ∧ r01_Reader_Sub n r = some (r', rs) ∧ RL w' r' ∧ RL ws rs := by
  obtain ⟨x, ok, w', r', h4, h5, h6, h7, h8⟩ := take_rl n h
  simp only [wire_Reader_Sub_1, r01_Reader_Sub]
  rw [h4, h5, Option.bind_some, Option.bind_some]
  cases ok with
  | false =>
    refine ⟨_, _, _, _, rfl, rfl, h6, ?_⟩
    rw [h6.err]
    exact .bad _ _ _ _ (by rw [← h6.err]; exact (h8 rfl).2)
  | true =>
    refine ⟨_, _, _, _, rfl, rfl, h6, ?_⟩
    simp only
    rw [(h7 rfl).2.2.1]
    exact .ok x 0 (Nat.zero_le _) (h7 rfl).2.2.2
end Go.Rv
