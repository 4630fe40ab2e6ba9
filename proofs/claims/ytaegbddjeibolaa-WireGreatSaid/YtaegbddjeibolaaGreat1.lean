/- Plain laws. -/
import Derived.Test.YtaegbddjeibolaaLib1
set_option linter.unusedSimpArgs false
set_option linter.unusedVariables false
set_option maxRecDepth 100000
namespace Go.Rv
theorem u16_nat {n : Nat} (h : n < 65536) : (u16 (n : Int)) = UInt16.ofNat n := by
  rw [eq16, u16_toNat']; simp only [UInt16.toNat_ofNat']; omega
theorem clone_eq (b : Option (List UInt8)) (h : (L b).length ≤ 140737488355328) : slices_Clone_s_byte_byte b = some b := by
  unfold slices_Clone_s_byte_byte
  cases b with
  | none => rfl
  | some l =>
    rw [if_neg (by simp), appO_some (by simp [room, L] at h ⊢; omega) (by simp [room, L] at h ⊢; omega)]
    simp [L]
def bw (n : Nat) : List UInt8 := [UInt8.ofNat (n / 256 % 256), UInt8.ofNat (n % 256)]
theorem wTwo7 (n : UInt16) : wire_Two (some [7]) n = some (some (7 :: bw n.toNat)) := by
  simp only [wire_Two]
  rw [clone_eq _ (by simp [L]), Option.bind_some, appO_some (by simp [room, L]) (by simp [room, L])]
  have e8 : (((8 : UInt64).toNat : Int)) = ((8 : Nat) : Int) := rfl
  have hn := n.toNat_lt
  simp only [Option.bind_some, L, Option.getD_some, bw, List.cons_append, List.nil_append]
  congr 3
  refine List.cons_eq_cons.2 ⟨?_, List.cons_eq_cons.2 ⟨?_, rfl⟩⟩
  · rw [eq8, u8_toNat', e8, shr16_toNat (by omega)]; simp only [UInt8.toNat_ofNat']; omega
  · rw [eq8, u8_toNat']; simp only [UInt8.toNat_ofNat']; omega
theorem bin_great (s : List UInt8) (h : 65535 < s.length) : wire_Bin (some [7]) s = some (some [7]) := by
  simp only [wire_Bin]
  rw [if_pos (by simp; omega), clone_eq _ (by simp [L])]
  rfl
theorem bin_least (s : List UInt8) (h : s.length ≤ 65535) : wire_Bin (some [7]) s = some (some (7 :: (bw s.length ++ s))) := by
  simp only [wire_Bin]
  rw [if_neg (by simp; omega), wTwo7, Option.bind_some, u16_nat (by omega)]
  have e : (UInt16.ofNat s.length).toNat = s.length := by simp only [UInt16.toNat_ofNat']; omega
  rw [e, appO_some (by simp [room, L, bw]; omega) (by simp [room, L, bw]; omega)]
  simp [L]
theorem take_eq (x b : List UInt8) (h : x.length + b.length ≤ 4611686018427387904) : wire_Reader_take (x.length : Int) ⟨x ++ b, 0⟩ = some (x, true, ⟨b, 0⟩) := by
  have s1 : slc (x ++ b) 0 (x.length : Int) = some x := by
    have := slc_nat (l := x ++ b) (a := 0) (b := x.length) (Nat.zero_le _) (by simp)
    simpa using this
  have s2 : slc (x ++ b) (x.length : Int) ((x ++ b).length : Int) = some b := by
    have := slc_from (l := x ++ b) (a := x.length) (by simp)
    rw [this]; simp
  simp only [wire_Reader_take, wire_Reader_Err, Option.bind_some]
  rw [if_neg (by simp), if_neg (by simp)]
  simp only [wire_Reader_take_c0, wire_Reader_take_c1]
  rw [if_neg (by simp; omega), s1, s2]
  rfl
theorem byte7 (b : List UInt8) (h : b.length ≤ 4611686018427380000) : wire_Reader_Byte ⟨7 :: b, 0⟩ = some (7, ⟨b, 0⟩) := by
  have := take_eq [7] b (by simp; omega)
  rw [show (([7] : List UInt8).length : Int) = 1 from rfl, show ([7] : List UInt8) ++ b = 7 :: b from rfl] at this
  simp only [wire_Reader_Byte]
  rw [this, Option.bind_some]
  rfl
theorem rTwo (n : Nat) (b : List UInt8) (h : b.length ≤ 4611686018427380000) : wire_Reader_Two ⟨bw n ++ b, 0⟩ = some (UInt16.ofNat n, ⟨b, 0⟩) := by
  have := take_eq (bw n) b (by simp [bw]; omega)
  rw [show ((bw n).length : Int) = 2 from rfl] at this
  simp only [wire_Reader_Two]
  rw [this, Option.bind_some]
  simp only [Bool.not_true, bw]
  rw [if_neg (by simp)]
  have e8 : (((8 : UInt64).toNat : Int)) = ((8 : Nat) : Int) := rfl
  have i0 : ix [UInt8.ofNat (n / 256 % 256), UInt8.ofNat (n % 256)] 0 = some (UInt8.ofNat (n / 256 % 256)) := rfl
  have i1 : ix [UInt8.ofNat (n / 256 % 256), UInt8.ofNat (n % 256)] 1 = some (UInt8.ofNat (n % 256)) := rfl
  have t0 : (UInt8.ofNat (n / 256 % 256)).toNat = n / 256 % 256 := by simp only [UInt8.toNat_ofNat']; omega
  have t1 : (UInt8.ofNat (n % 256)).toNat = n % 256 := by simp only [UInt8.toNat_ofNat']; omega
  rw [i0, i1, Option.bind_some, Option.bind_some, t0, t1, e8]
  congr 2
  rw [eq16, UInt16.toNat_or, shl16_toNat (by omega), u16_nat (by omega), u16_nat (by omega)]
  simp only [UInt16.toNat_ofNat']
  rw [Nat.mod_eq_of_lt (show n / 256 % 256 < 65536 by omega), Nat.mod_eq_of_lt (show n % 256 < 65536 by omega), Nat.mod_eq_of_lt (show n / 256 % 256 * 2 ^ 8 < 65536 by omega), Nat.or_comm, or_add (by omega)]
  omega
theorem rBin (x : List UInt8) (hx : x.length ≤ 65535) : wire_Reader_Bin ⟨bw x.length ++ x, 0⟩ = some (x, ⟨[], 0⟩) := by
  simp only [wire_Reader_Bin]
  rw [rTwo _ _ (by omega), Option.bind_some]
  have e : (UInt16.ofNat x.length).toNat = x.length := by simp only [UInt16.toNat_ofNat']; omega
  simp only [e]
  have := take_eq x [] (by simp; omega)
  rw [List.append_nil] at this
  rw [w64_nat (by omega), this]
  rfl
theorem repR_len {α : Type} : ∀ (n : Nat) (a : α), (repR n a).length = n
  | 0, _ => rfl
  | n + 1, a => by simp [repR, repR_len n]
theorem great_loop (c : UInt8) (k : Nat) (hk : k < 70000) : ∀ (f i : Nat) (l : List UInt8), i + f = k + 97 → l.length = k → ∃ q, iter (l01_WireGreat_l0 c (k : Int) k) ((i : Int), l) = some q ∧ q.length = k := by
  intro f
  induction f using Nat.strongRecOn with
  | _ f ih =>
    intro i l hi hl
    rw [iter_eq]
    simp only [l01_WireGreat_l0, l01_WireGreat_b0]
    by_cases hlt : i < k
    · rw [if_pos (by simp; omega), chk_d ⟨by omega, by omega⟩, Option.bind_some, ix_nat, List.getElem?_eq_getElem (by omega)]
      simp only [Option.bind_some]
      have e : w64 ((i : Int) + 97) = ((i + 97 : Nat) : Int) := by rw [w64_id (by omega) (by omega)]; omega
      rw [e, Int.toNat_natCast]
      exact ih (f - 97) (by omega) (i + 97) _ (by omega) (by rw [setR_len, hl])
    · rw [if_neg (by simp; omega)]
      exact ⟨l, rfl, hl⟩
theorem great_law (a1 : Int) (a2 : UInt8) : l01_WireGreat a1 a2 = some true := by
  unfold l01_WireGreat
  rw [chk_d (by decide), Option.bind_some]
  have hk : ((u64 a1) % (70000 : UInt64)).toNat < 70000 := by
    rw [UInt64.toNat_mod]; exact Nat.mod_lt _ (by decide)
  generalize ((u64 a1) % (70000 : UInt64)).toNat = k at hk ⊢
  rw [w64_nat (by omega)]
  rw [chk_d ⟨rfl, by omega, by simp only [room]; omega, by simp only [room]; omega⟩]
  simp only [Option.bind_some, Int.toNat_natCast]
  obtain ⟨q, h1, h2⟩ := great_loop a2 k hk (k + 97) 0 (repR k 0) (by omega) (repR_len _ _)
  rw [show ((0 : Nat) : Int) = 0 from rfl] at h1
  rw [h1, Option.bind_some, chk_d (by omega), Option.bind_some]
  have e : L (some (q.take k)) = q := by simp only [L, Option.getD_some]; exact List.take_of_length_le (by omega)
  simp only [e, l01_told_true]
  by_cases hg : 65535 < k
  · rw [bin_great q (by omega), Option.bind_some, if_pos (by simp; omega)]
    rfl
  · rw [bin_least q (by omega), Option.bind_some, if_neg (by simp; omega)]
    have hL : (((7 :: (bw q.length ++ q) : List UInt8).length : Nat) : Int) = w64 ((k : Int) + 3) := by
      rw [w64_id (by omega) (by omega)]
      simp [bw]; omega
    simp only [wire_Read, Option.bind_some, L, Option.getD_some]
    rw [if_pos trivial, if_pos, byte7 _ (by simp [bw]; omega)]
    · simp only [Option.bind_some]
      rw [if_pos (by decide), rBin q (by omega)]
      simp
    · exact decide_eq_true hL
theorem pure_WireGreat (x : tyL Tb [.g (.f (.a (.n .i64))), .g (.f (.a .u8))]) (hx : szArgs tab 4 [.g (.f (.a (.n .i64))), .g (.f (.a .u8))] x) : l01_WireGreat x.1 x.2.1 = some true := great_law _ _
end Go.Rv
