/- Plain laws. -/
import Derived.Test.YtaegbddjeibolaaDoorText4
set_option linter.unusedSimpArgs false
set_option linter.unusedVariables false
set_option maxRecDepth 100000
namespace Go.Rv
theorem chk_d {p : Prop} [Decidable p] (h : p) : chk (decide p) = some () := by simp [chk, h]
theorem w64_nat {n : Nat} (h : n ≤ 9223372036854775807) : w64 (n : Int) = n := w64_id (by omega) (by omega)
theorem repR_len {α : Type} : ∀ (n : Nat) (a : α), (repR n a).length = n
  | 0, _ => rfl
  | n + 1, a => by simp [repR, repR_len n]
theorem setR_get {α : Type} : ∀ (l : List α) (i j : Nat) (a : α), (setR l i a)[j]? = if i = j ∧ j < l.length then some a else l[j]?
  | [], i, j, a => by simp [setR]
  | x :: l, 0, 0, a => by simp [setR]
  | x :: l, 0, j + 1, a => by simp [setR]
  | x :: l, i + 1, 0, a => by simp [setR]
  | x :: l, i + 1, j + 1, a => by simp [setR, setR_get l i j a]
theorem setR_mem {α : Type} : ∀ (l : List α) (i : Nat) (a x : α), x ∈ setR l i a → x = a ∨ x ∈ l
  | [], _, _, _, h => by simp [setR] at h
  | y :: l, 0, a, x, h => by
    simp only [setR, List.mem_cons] at h ⊢
    rcases h with h | h
    · exact .inl h
    · exact .inr (.inr h)
  | y :: l, i + 1, a, x, h => by
    simp only [setR, List.mem_cons] at h ⊢
    rcases h with h | h
    · exact .inr (.inl h)
    · rcases setR_mem l i a x h with h | h
      · exact .inl h
      · exact .inr (.inr h)
theorem long_loop (k : Nat) (hk : k < 70000) : ∀ (f i : Nat) (l : List UInt8), i + f = k → l.length = k → (∀ j, j < i → l[j]? = some 97) → ∃ q, iter (l02_TextLongs_l0 (k : Int) k) ((i : Int), l) = some q ∧ q.length = k ∧ ∀ x ∈ q, x = 97 := by
  intro f
  induction f with
  | zero =>
    intro i l hi hl ha
    rw [iter_eq]
    simp only [l02_TextLongs_l0, l02_TextLongs_b0]
    rw [if_neg (by simp; omega)]
    refine ⟨l, rfl, hl, fun x hx => ?_⟩
    obtain ⟨j, hj, rfl⟩ := List.getElem_of_mem hx
    have := ha j (by omega)
    rw [List.getElem?_eq_getElem hj] at this
    exact Option.some.inj this
  | succ f ih =>
    intro i l hi hl ha
    rw [iter_eq]
    simp only [l02_TextLongs_l0, l02_TextLongs_b0]
    rw [if_pos (by simp; omega), chk_d ⟨by omega, by omega⟩, Option.bind_some, ix_nat, List.getElem?_eq_getElem (by omega)]
    simp only [Option.bind_some]
    have e : w64 ((i : Int) + 1) = ((i + 1 : Nat) : Int) := by rw [w64_id (by omega) (by omega)]; omega
    rw [e, Int.toNat_natCast]
    refine ih (i + 1) _ (by omega) (by rw [setR_len, hl]) fun j hj => ?_
    rw [setR_get]
    split
    · rfl
    · exact ha j (by omega)
theorem good_ascs : ∀ l : List UInt8, (∀ x ∈ l, x.toNat < 128 ∧ x.toNat ≠ 0) → good l = true
  | [], _ => good_nil
  | c :: t, h => by
    obtain ⟨h1, h2⟩ := h c (by simp)
    rw [good_asc c t h1 h2]
    exact good_ascs t fun x hx => h x (by simp [hx])
theorem longs_law (a1 : Int) (a2 : UInt8) : l02_TextLongs a1 a2 = some true := by
  unfold l02_TextLongs
  rw [chk_d (by decide), Option.bind_some]
  have hk : ((u64 a1) % (12 : UInt64)).toNat < 12 := by
    rw [UInt64.toNat_mod]; exact Nat.mod_lt _ (by decide)
  generalize ((u64 a1) % (12 : UInt64)).toNat = m at hk ⊢
  rw [w64_nat (by omega)]
  have e1 : w64 (65530 + (m : Int)) = ((65530 + m : Nat) : Int) := by rw [w64_id (by omega) (by omega)]; omega
  rw [e1]
  generalize hkm : 65530 + m = k
  have hk1 : 65530 ≤ k := by omega
  have hk2 : k < 65542 := by omega
  rw [chk_d ⟨rfl, by omega, by simp only [room]; omega, by simp only [room]; omega⟩]
  simp only [Option.bind_some, Int.toNat_natCast]
  obtain ⟨q, h1, h2, h3⟩ := long_loop k (by omega) k 0 (repR k 0) (by omega) (repR_len _ _) (fun j hj => absurd hj (Nat.not_lt_zero _))
  rw [show ((0 : Nat) : Int) = 0 from rfl] at h1
  have e2 : w64 ((k : Int).tdiv 2) = ((k / 2 : Nat) : Int) := by
    rw [show (k : Int).tdiv 2 = ((k / 2 : Nat) : Int) from rfl, w64_nat (by omega)]
  rw [h1, Option.bind_some, chk_d (by decide), Option.bind_some, chk_d (by decide), Option.bind_some, e2, chk_d ⟨by omega, by omega⟩, Option.bind_some, ix_nat, List.getElem?_eq_getElem (by omega)]
  simp only [Option.bind_some, Int.toNat_natCast, l02_told_true, if_true]
  rw [chk_d (by rw [setR_len]; omega), Option.bind_some, Option.bind_some]
  have e3 : L (some ((setR q (k / 2) (1 + a2 % 127)).take k)) = setR q (k / 2) (1 + a2 % 127) := by
    simp only [L, Option.getD_some]
    exact List.take_of_length_le (by rw [setR_len]; omega)
  have hg : good (setR q (k / 2) (1 + a2 % 127)) = true := by
    refine good_ascs _ fun x hx => ?_
    rcases setR_mem _ _ _ _ hx with h | h
    · subst h
      have : (a2 % 127).toNat < 127 := by rw [UInt8.toNat_mod]; exact Nat.mod_lt _ (by decide)
      rw [UInt8.toNat_add]
      have e : (1 : UInt8).toNat = 1 := rfl
      rw [e]; omega
    · rw [h3 x h]; decide
  rw [e3, tRight_eq, hg, setR_len, h2]
  simp
  omega
theorem pure_TextLongs (x : tyL Tb [.g (.f (.a (.n .i64))), .g (.f (.a .u8))]) (hx : szArgs tab 4 [.g (.f (.a (.n .i64))), .g (.f (.a .u8))] x) : l02_TextLongs x.1 x.2.1 = some true := longs_law _ _
end Go.Rv
