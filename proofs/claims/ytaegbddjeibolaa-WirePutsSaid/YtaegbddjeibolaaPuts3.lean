/- Plain laws. -/
import Derived.Test.YtaegbddjeibolaaPuts2
set_option linter.unusedSimpArgs false
set_option linter.unusedVariables false
set_option maxRecDepth 100000
namespace Go.Rv
def vbs (n : UInt32) : List UInt8 := if 268435455 < n.toNat then [] else vb n.toNat
def enc (n : UInt32) : List UInt8 := be 1 (u8 (n.toNat : Int)).toNat ++ (be 2 (u16 (n.toNat : Int)).toNat ++ (be 4 n.toNat ++ vbs n))
def encs (l : List UInt32) : List UInt8 := l.flatMap enc
def bin (x : List UInt8) : List UInt8 := be 2 x.length ++ x
def bins (l : List (List UInt8)) : List UInt8 := l.flatMap bin
theorem vbs_len (n : UInt32) : (vbs n).length ≤ 6 := by
  simp only [vbs]; split
  · simp
  · exact vb_len 5 n.toNat (u32_lt5 n)
theorem enc_len (n : UInt32) : (enc n).length ≤ 13 := by
  have := vbs_len n
  simp [enc, be_len]; omega
theorem wVar_some (b : List UInt8) (n : UInt32) (h : b.length ≤ lim) : wire_Var (some b) n = some (some (b ++ vbs n)) := by
  have h' : b.length ≤ 140737488300000 := h
  rw [wVar_eq _ _ (by simp [L]; omega), vbs]
  split <;> simp [L]
theorem rVar_some (b : List UInt8) (n : UInt32) (h : b.length ≤ lim) : r01_Var (some b) n = some (some (b ++ vbs n)) := by
  have h' : b.length ≤ 140737488300000 := h
  rw [rVar_eq _ _ (by simp [L]; omega), vbs]
  rfl
theorem w_next {i : Nat} (h : i ≤ 1000) : w64 ((i : Int) + 1) = ((i + 1 : Nat) : Int) := by rw [show ((i : Int) + 1) = ((i + 1 : Nat) : Int) by simp]; exact w64_nat (by omega)
theorem take_drop_cons {α : Type} {l : List α} {i m : Nat} (h : i < l.length) (hm : i < m) : (l.drop i).take (m - i) = l[i] :: (l.drop (i + 1)).take (m - (i + 1)) := by
  rw [List.drop_eq_getElem_cons h, show m - i = (m - (i + 1)) + 1 by omega, List.take_succ_cons]
theorem puts0 (l : Option (List UInt32)) : ∀ (k i : Nat) (b c : Option (List UInt8)) (p : List UInt8), i + k = 20 → L b = p → L c = p → p.length ≤ 1000 + 13 * i →
    ∃ b' c', iter (l01_WirePuts_l0 l) (b, c, (i : Int)) = some (b', c') ∧ L b' = p ++ encs (((L l).drop i).take (20 - i)) ∧ L c' = p ++ encs (((L l).drop i).take (20 - i)) := by
  intro k
  induction k with
  | zero =>
    intro i b c p hk hb hc hp
    refine ⟨b, c, ?_, ?_, ?_⟩
    · rw [iter_eq]
      simp only [l01_WirePuts_l0, l01_WirePuts_b0]
      by_cases hi : i < (L l).length
      · rw [if_pos (by simpa using hi), if_neg (by simp; omega)]
      · rw [if_neg (by simpa using hi)]
    · rw [show 20 - i = 0 by omega]; simp [encs, hb]
    · rw [show 20 - i = 0 by omega]; simp [encs, hc]
  | succ k ih =>
    intro i b c p hk hb hc hp
    by_cases hi : i < (L l).length
    · rw [iter_eq, take_drop_cons hi (by omega)]
      simp only [l01_WirePuts_l0, l01_WirePuts_b0]
      rw [if_pos (by simpa using hi), if_pos (by simp; omega), ix_nat, List.getElem?_eq_getElem hi]
      simp only [Option.bind_some]
      have hm := enc_len (L l)[i]
      have hv := vbs_len (L l)[i]
      have he : enc (L l)[i] = be 1 (u8 ((L l)[i].toNat : Int)).toNat ++ (be 2 (u16 ((L l)[i].toNat : Int)).toNat ++ (be 4 (L l)[i].toNat ++ vbs (L l)[i])) := rfl
      generalize (L l)[i] = n at hm hv he ⊢
      have hn := n.toNat_lt
      have hn8 := (u8 (n.toNat : Int)).toNat_lt
      have hn16 := (u16 (n.toNat : Int)).toNat_lt
      have hlim : (140737488300000 : Nat) = lim := rfl
      have n1 := rNum_eq c (u64 ((u8 (n.toNat : Int)).toNat : Int)) 1 (by omega) (by rw [hc]; omega)
      have n2 := rNum_eq (some (L c ++ be 1 (u64 ((u8 (n.toNat : Int)).toNat : Int)).toNat)) (u64 ((u16 (n.toNat : Int)).toNat : Int)) 2 (by omega) (by rw [hc]; simp [L, be_len]; omega)
      have n4 := rNum_eq (some (L c ++ be 1 (u64 ((u8 (n.toNat : Int)).toNat : Int)).toNat ++ be 2 (u64 ((u16 (n.toNat : Int)).toNat : Int)).toNat)) (u64 (n.toNat : Int)) 4 (by omega) (by rw [hc]; simp [L, be_len]; omega)
      simp only [L, Option.getD_some] at n2 n4
      rw [show (((1 : Nat) : Int)) = 1 from rfl] at n1
      rw [show (((2 : Nat) : Int)) = 2 from rfl] at n2
      rw [show (((4 : Nat) : Int)) = 4 from rfl] at n4
      have hc' : c.getD [] = p := hc
      rw [wByte_eq b _ (by rw [hb]; omega), Option.bind_some, wTwo_eq _ _ (by rw [hb]; simp [L, be_len]; omega), Option.bind_some, wFour_eq _ _ (by rw [hb]; simp [L, be_len]; omega), Option.bind_some,
        n1, Option.bind_some]
      simp only [L, Option.getD_some]
      rw [n2, Option.bind_some, n4, Option.bind_some, wVar_some _ _ (by have : b.getD [] = p := hb
                                                                        rw [this]; simp [be_len]; omega), Option.bind_some, rVar_some _ _ (by rw [hc']; simp [be_len]; omega), Option.bind_some, w_next (by omega), u64_nat (by omega), u64_nat (by omega), u64_nat (by omega)]
      obtain ⟨b', c', h1, h2, h3⟩ := ih (i + 1) (some (b.getD [] ++ be 1 (u8 (n.toNat : Int)).toNat ++ be 2 (u16 (n.toNat : Int)).toNat ++ be 4 n.toNat ++ vbs n)) (some (c.getD [] ++ be 1 (u8 (n.toNat : Int)).toNat ++ be 2 (u16 (n.toNat : Int)).toNat ++ be 4 n.toNat ++ vbs n)) (p ++ enc n) (by omega)
        (by have : b.getD [] = p := hb
            simp [L, this, he]) (by simp [L, hc', he]) (by simp; omega)
      refine ⟨b', c', h1, ?_, ?_⟩
      · show L b' = p ++ encs (n :: ((L l).drop (i + 1)).take (20 - (i + 1)))
        rw [h2]; simp [encs]
      · show L c' = p ++ encs (n :: ((L l).drop (i + 1)).take (20 - (i + 1)))
        rw [h3]; simp [encs]
    · refine ⟨b, c, ?_, ?_, ?_⟩
      · rw [iter_eq]
        simp only [l01_WirePuts_l0, l01_WirePuts_b0]
        rw [if_neg (by simpa using hi)]
      · rw [List.drop_of_length_le (by omega)]; simp [encs, hb]
      · rw [List.drop_of_length_le (by omega)]; simp [encs, hc]
theorem puts1 (l : Option (List (List UInt8))) : ∀ (k i : Nat) (b c : Option (List UInt8)) (p : List UInt8), i + k = 10 → L b = p → L c = p → p.length ≤ 2000 + 302 * i →
    iter (l01_WirePuts_l1 l) (b, c, (i : Int)) = some (.inl true) ∨
    ∃ b' c', iter (l01_WirePuts_l1 l) (b, c, (i : Int)) = some (.inr (b', c')) ∧ L b' = p ++ bins (((L l).drop i).take (10 - i)) ∧ L c' = p ++ bins (((L l).drop i).take (10 - i)) ∧ ∀ x ∈ ((L l).drop i).take (10 - i), x.length ≤ 300 := by
  intro k
  induction k with
  | zero =>
    intro i b c p hk hb hc hp
    refine Or.inr ⟨b, c, ?_, ?_, ?_, ?_⟩
    · rw [iter_eq]
      simp only [l01_WirePuts_l1, l01_WirePuts_b1]
      by_cases hi : i < (L l).length
      · rw [if_pos (by simpa using hi), if_neg (by simp; omega)]
      · rw [if_neg (by simpa using hi)]
    · rw [show 10 - i = 0 by omega]; simp [bins, hb]
    · rw [show 10 - i = 0 by omega]; simp [bins, hc]
    · rw [show 10 - i = 0 by omega]; simp
  | succ k ih =>
    intro i b c p hk hb hc hp
    by_cases hi : i < (L l).length
    · rw [iter_eq, take_drop_cons hi (by omega)]
      simp only [l01_WirePuts_l1, l01_WirePuts_b1]
      rw [if_pos (by simpa using hi), if_pos (by simp; omega), ix_nat, List.getElem?_eq_getElem hi]
      simp only [Option.bind_some]
      generalize (L l)[i] = x
      have hlim : (140737488300000 : Nat) = lim := rfl
      by_cases hx : x.length ≤ 300
      · rw [if_neg (by simp; omega), wBin_eq b x hx (by rw [hb]; omega), Option.bind_some, rBin_eq c x hx (by rw [hc]; omega), Option.bind_some, w_next (by omega), hb, hc]
        have := ih (i + 1) (some (p ++ (be 2 x.length ++ x))) (some (p ++ (be 2 x.length ++ x))) (p ++ bin x) (by omega) rfl rfl (by simp [bin, be_len]; omega)
        rcases this with h | ⟨b', c', h1, h2, h3, h4⟩
        · exact Or.inl h
        · refine Or.inr ⟨b', c', h1, ?_, ?_, ?_⟩
          · rw [h2]; simp [bins]
          · rw [h3]; simp [bins]
          · intro y hy
            rcases List.mem_cons.1 hy with rfl | hy
            · exact hx
            · exact h4 y hy
      · rw [if_pos (by simp; omega), l01_told_true]
        exact Or.inl rfl
    · refine Or.inr ⟨b, c, ?_, ?_, ?_, ?_⟩
      · rw [iter_eq]
        simp only [l01_WirePuts_l1, l01_WirePuts_b1]
        rw [if_neg (by simpa using hi)]
      · rw [List.drop_of_length_le (by omega)]; simp [bins, hb]
      · rw [List.drop_of_length_le (by omega)]; simp [bins, hc]
      · rw [List.drop_of_length_le (by omega)]; simp
theorem puts2 (l : Option (List UInt32)) (r : List UInt8) (hr : r.length ≤ 10000) : ∀ (k i : Nat), i + k = 20 →
    iter (l01_WirePuts_l2 l) ((i : Int), ⟨encs (((L l).drop i).take (20 - i)) ++ r, 0⟩) = some (.inr ⟨r, 0⟩) := by
  intro k
  have encs_len : ∀ q : List UInt32, (encs q).length ≤ 13 * q.length := by
    intro q
    induction q with
    | nil => simp [encs]
    | cons a q ih => have := enc_len a; simp [encs] at ih ⊢; omega
  induction k with
  | zero =>
    intro i hk
    rw [show 20 - i = 0 by omega, iter_eq]
    simp only [l01_WirePuts_l2, l01_WirePuts_b2, List.take_zero]
    by_cases hi : i < (L l).length
    · rw [if_pos (by simpa using hi), if_neg (by simp; omega)]; rfl
    · rw [if_neg (by simpa using hi)]; rfl
  | succ k ih =>
    intro i hk
    by_cases hi : i < (L l).length
    · rw [iter_eq, take_drop_cons hi (by omega)]
      have ih := ih (i + 1) (by omega)
      have hq := encs_len (((L l).drop (i + 1)).take (20 - (i + 1)))
      have hq2 : (((L l).drop (i + 1)).take (20 - (i + 1))).length ≤ 20 := by rw [List.length_take]; omega
      simp only [l01_WirePuts_l2, l01_WirePuts_b2]
      rw [if_pos (by simpa using hi), if_pos (by simp; omega), ix_nat, List.getElem?_eq_getElem hi]
      simp only [Option.bind_some]
      have he : encs ((L l)[i] :: ((L l).drop (i + 1)).take (20 - (i + 1))) = enc (L l)[i] ++ encs (((L l).drop (i + 1)).take (20 - (i + 1))) := by simp [encs]
      rw [he]
      generalize encs (((L l).drop (i + 1)).take (20 - (i + 1))) = q at hq ih ⊢
      have hv := vbs_len (L l)[i]
      have he : enc (L l)[i] = be 1 (u8 ((L l)[i].toNat : Int)).toNat ++ (be 2 (u16 ((L l)[i].toNat : Int)).toNat ++ (be 4 (L l)[i].toNat ++ vbs (L l)[i])) := rfl
      rw [he]
      have hvd : vbs (L l)[i] = if 268435455 < (L l)[i].toNat then [] else vb (L l)[i].toNat := rfl
      generalize (L l)[i] = n at hv hvd ⊢
      simp only [List.append_assoc]
      rw [rByte _ _ (by simp [be_len]; omega), Option.bind_some, if_neg (by simp), rTwo _ _ (by simp [be_len]; omega), Option.bind_some, if_neg (by simp), rFour _ _ (by simp; omega), Option.bind_some, if_neg (by simp)]
      have hmx : n ≤ (268435455 : UInt32) ↔ ¬ 268435455 < n.toNat := by
        rw [UInt32.le_iff_toNat_le]; show n.toNat ≤ 268435455 ↔ _; omega
      rw [w_next (by omega)]
      by_cases hx : 268435455 < n.toNat
      · rw [if_neg (by simp [hmx, hx]), hvd, if_pos hx, List.nil_append]
        exact ih
      · rw [if_pos (by simp [hmx, hx]), hvd, if_neg hx, rVar n _ (by omega) (by simp; omega), Option.bind_some, if_neg (by simp)]
        exact ih
    · rw [List.drop_of_length_le (by omega), List.take_nil, iter_eq]
      simp only [l01_WirePuts_l2, l01_WirePuts_b2]
      rw [if_neg (by simpa using hi)]; rfl
theorem puts3 (l : Option (List (List UInt8))) : ∀ (k i : Nat), i + k = 10 → (∀ x ∈ ((L l).drop i).take (10 - i), x.length ≤ 300) →
    iter (l01_WirePuts_l3 l) ((i : Int), ⟨bins (((L l).drop i).take (10 - i)), 0⟩) = some (.inr ⟨[], 0⟩) := by
  intro k
  have bins_len : ∀ q : List (List UInt8), (∀ x ∈ q, x.length ≤ 300) → (bins q).length ≤ 302 * q.length := by
    intro q
    induction q with
    | nil => simp [bins]
    | cons a q ih =>
      intro h
      have h1 := h a (by simp)
      have h2 := ih (fun x hx => h x (by simp [hx]))
      simp [bins, bin, be_len] at h2 ⊢; omega
  induction k with
  | zero =>
    intro i hk hx
    rw [show 10 - i = 0 by omega, iter_eq]
    simp only [l01_WirePuts_l3, l01_WirePuts_b3, List.take_zero]
    by_cases hi : i < (L l).length
    · rw [if_pos (by simpa using hi), if_neg (by simp; omega)]; rfl
    · rw [if_neg (by simpa using hi)]; rfl
  | succ k ih =>
    intro i hk hx
    by_cases hi : i < (L l).length
    · rw [take_drop_cons hi (by omega)] at hx
      rw [iter_eq, take_drop_cons hi (by omega)]
      have ih := ih (i + 1) (by omega) (fun x h => hx x (List.mem_cons_of_mem _ h))
      have hq := bins_len _ (fun x h => hx x (List.mem_cons_of_mem _ h))
      have hq2 : (((L l).drop (i + 1)).take (10 - (i + 1))).length ≤ 10 := by rw [List.length_take]; omega
      have hx0 := hx (L l)[i] (by simp)
      simp only [l01_WirePuts_l3, l01_WirePuts_b3]
      rw [if_pos (by simpa using hi), if_pos (by simp; omega), ix_nat, List.getElem?_eq_getElem hi]
      simp only [Option.bind_some]
      have he : bins ((L l)[i] :: ((L l).drop (i + 1)).take (10 - (i + 1))) = be 2 (L l)[i].length ++ (L l)[i] ++ bins (((L l).drop (i + 1)).take (10 - (i + 1))) := by simp [bins, bin]
      rw [he, rBin _ _ hx0 (by omega), Option.bind_some, if_neg (by simp), w_next (by omega)]
      exact ih
    · rw [List.drop_of_length_le (by omega), List.take_nil, iter_eq]
      simp only [l01_WirePuts_l3, l01_WirePuts_b3]
      rw [if_neg (by simpa using hi)]; rfl
theorem puts_law (a1 : Option (List UInt32)) (a2 : Option (List (List UInt8))) : l01_WirePuts a1 a2 = some true := by
  simp only [l01_WirePuts]
  obtain ⟨b, c, h1, h2, h3⟩ := puts0 a1 20 0 none none [] rfl rfl rfl (by simp)
  rw [show (((0 : Nat) : Int)) = 0 from rfl] at h1
  simp only [List.drop_zero, List.nil_append, Nat.sub_zero] at h2 h3
  rw [h1, Option.bind_some]
  have hl : (encs ((L a1).take 20)).length ≤ 2000 := by
    have : ∀ q : List UInt32, (encs q).length ≤ 13 * q.length := by
      intro q
      induction q with
      | nil => simp [encs]
      | cons a q ih => have := enc_len a; simp [encs] at ih ⊢; omega
    have h := this ((L a1).take 20)
    have : ((L a1).take 20).length ≤ 20 := by rw [List.length_take]; omega
    omega
  have hp := puts1 a2 10 0 b c _ rfl h2 h3 (by omega)
  rw [show (((0 : Nat) : Int)) = 0 from rfl] at hp
  simp only
  rcases hp with h | ⟨b', c', k1, k2, k3, k4⟩
  · rw [h]; rfl
  · simp only [List.drop_zero, Nat.sub_zero] at k2 k3 k4
    rw [k1, Option.bind_some, l01_told_true]
    simp only [Option.bind_some, wire_Read, Bool.not_true]
    rw [if_neg (by simp), if_neg (by simp [k2, k3]), k2]
    have p2 := puts2 a1 (bins ((L a2).take 10)) (by
      have bins_len : ∀ q : List (List UInt8), (∀ x ∈ q, x.length ≤ 300) → (bins q).length ≤ 302 * q.length := by
        intro q
        induction q with
        | nil => simp [bins]
        | cons a q ih =>
          intro h
          have h1 := h a (by simp)
          have h2 := ih (fun x hx => h x (by simp [hx]))
          simp [bins, bin, be_len] at h2 ⊢; omega
      have := bins_len _ k4
      have h10 : ((L a2).take 10).length ≤ 10 := by rw [List.length_take]; omega
      omega) 20 0 rfl
    have p3 := puts3 a2 10 0 rfl (by simpa using k4)
    rw [show (((0 : Nat) : Int)) = 0 from rfl] at p2 p3
    simp only [List.drop_zero, Nat.sub_zero] at p2 p3
    rw [p2, Option.bind_some]
    simp only
    rw [p3]
    rfl
theorem pure_WirePuts (x : tyL Tb [.g (.f (.a (.sl 2))), .g (.f (.a (.sl 3)))]) (hx : szArgs tab 4 [.g (.f (.a (.sl 2))), .g (.f (.a (.sl 3)))] x) : l01_WirePuts x.1 x.2.1 = some true := puts_law _ _
end Go.Rv
