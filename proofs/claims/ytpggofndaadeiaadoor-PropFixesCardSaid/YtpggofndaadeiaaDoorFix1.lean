/- Plain laws. -/
import Derived.Test.YtpggofndaadeiaaDoorSel2
set_option linter.unusedSimpArgs false
set_option linter.unusedVariables false
set_option maxRecDepth 100000
set_option maxRecDepth 100000
namespace Go.Rv
open Go.Lib
def idsL : List UInt8 := [1, 2, 3, 8, 9, 11, 17, 18, 19, 21, 22, 23, 24, 25, 26, 28, 31, 33, 34, 35, 36, 37, 38, 39, 40, 41, 42]
theorem fixl_loop (k : Int) : ∀ (f i : Nat) (o : Option (List UInt8)), idsL.length - i ≤ f → i ≤ idsL.length → (L o).length ≤ i →
    ∃ o', iter (r05_Fix_l0 k (some idsL)) (o, (i : Int)) = some o' ∧ L o' = L o ++ (idsL.drop i).filter (fun x => forB x k) := by
  intro f
  induction f with
  | zero =>
    intro i o h1 h2 h3
    refine ⟨o, ?_, ?_⟩
    · rw [iter_eq]
      simp only [r05_Fix_l0, r05_Fix_b0, L_some]
      rw [if_neg (by rw [decide_eq_true_eq]; omega)]
    · rw [show idsL.drop i = [] from List.drop_eq_nil_of_le (by omega)]; simp
  | succ f ih =>
    intro i o h1 h2 h3
    by_cases hlt : i < idsL.length
    · have hl : idsL.length = 27 := rfl
      have e : w64 ((i : Int) + 1) = ((i + 1 : Nat) : Int) := by rw [w64_id (by omega) (by omega)]; simp
      cases hb : forB idsL[i] k with
      | true =>
        have happ : appO 1 o (some [idsL[i]]) = some (some (L o ++ [idsL[i]])) := by
          have := appO_ne (n := 1) (x := o) (a := idsL[i]) (l := []) (by simp [room]; omega) (by simp [room]; omega)
          simpa using this
        obtain ⟨o', h4, h5⟩ := ih (i + 1) (some (L o ++ [idsL[i]])) (by omega) hlt (by simp; omega)
        refine ⟨o', ?_, ?_⟩
        · rw [iter_eq]
          simp only [r05_Fix_l0, r05_Fix_b0, L_some, ix_nat, List.getElem?_eq_getElem hlt, Option.bind_some, rfor_eq, hb, if_true, happ, e]
          rw [if_pos (by rw [decide_eq_true_eq]; omega)]
          exact h4
        · rw [h5, L_some, List.drop_eq_getElem_cons hlt, List.filter_cons, if_pos hb]; simp
      | false =>
        obtain ⟨o', h4, h5⟩ := ih (i + 1) o (by omega) hlt (by omega)
        refine ⟨o', ?_, ?_⟩
        · rw [iter_eq]
          simp only [r05_Fix_l0, r05_Fix_b0, L_some, ix_nat, List.getElem?_eq_getElem hlt, Option.bind_some, rfor_eq, hb, Bool.false_eq_true, if_false, e]
          rw [if_pos (by rw [decide_eq_true_eq]; omega)]
          exact h4
        · rw [h5, List.drop_eq_getElem_cons hlt, List.filter_cons, if_neg (by simp [hb])]
    · refine ⟨o, ?_, ?_⟩
      · rw [iter_eq]
        simp only [r05_Fix_l0, r05_Fix_b0, L_some]
        rw [if_neg (by rw [decide_eq_true_eq]; omega)]
      · rw [show idsL.drop i = [] from List.drop_eq_nil_of_le (by omega)]; simp
def idsOf (k : Int) : List UInt8 := idsL.filter (fun x => forB x k)
theorem ids_none : ∀ k : Fin 16, (decide (idsOf ((k.val : Int) + 1) = [])) = (decide (k.val = 11) || decide (k.val = 12)) := by decide +kernel
theorem ids_type : ∀ x ∈ idsL, x ≠ 0 ∧ 1 ≤ typeT x ∧ typeT x ≤ 7 ∧ (x = 11 → typeT x = 4) ∧ (x = 33 → typeT x = 2) ∧ (x = 35 → typeT x = 2) ∧ (x = 39 → typeT x = 3) ∧ (x = 8 → typeT x = 5) := by decide +kernel
theorem val_of {id : UInt8} {n : UInt32} {a b : List UInt8} (hr : rightB id n a b = true) (h1 : typeT id = 1 → n < 2) (h2 : (id = 11 ∨ id = 33 ∨ id = 35 ∨ id = 39) → n ≠ 0) (h3 : id = 8 → nameB a = true) : valueB id n a b = true := by
  rw [valueB, hr, Bool.true_and, valB]
  split
  · rename_i h; exact decide_eq_true (h1 h)
  · split
    · rename_i h
      simp only [Bool.or_eq_true, decide_eq_true_eq] at h
      have : n ≠ 0 := h2 (by rcases h with ((h | h) | h) | h <;> simp [h])
      simp [this]
    · split
      · rename_i h; exact h3 h
      · rfl
/-- One that is made to be one. -/
theorem fix_ok (p : r05_Prop) (k : Nat) (h1 : 1 ≤ k) (h16 : k ≤ 16) :
    ∃ q, r05_Fix p (k : Int) = some q ∧ (decide (q.Id = 0) = (decide (k = 12) || decide (k = 13))) ∧ (q.Id ≠ 0 → forB q.Id k = true ∧ valueB q.Id q.N q.A q.B = true ∧ q.A.length ≤ 100 ∧ q.B.length ≤ 100) := by
  obtain ⟨o, ho, hL⟩ := fixl_loop (k : Int) 27 0 none (by decide) (by decide) (by decide)
  rw [show ((0 : Nat) : Int) = 0 from rfl] at ho
  have hL : L o = idsOf k := by rw [hL]; rfl
  have hnone := ids_none ⟨k - 1, by omega⟩
  rw [show (((k - 1 : Nat) : Int) + 1) = (k : Int) by omega] at hnone
  have hk : (decide (k - 1 = 11) || decide (k - 1 = 12)) = (decide (k = 12) || decide (k = 13)) := by
    rw [show decide (k - 1 = 11) = decide (k = 12) from decide_eq_decide.2 (by omega), show decide (k - 1 = 12) = decide (k = 13) from decide_eq_decide.2 (by omega)]
  rw [hk] at hnone
  have ho' : iter (r05_Fix_l0 (k : Int) (some [(1 : UInt8), (2 : UInt8), (3 : UInt8), (8 : UInt8), (9 : UInt8), (11 : UInt8), (17 : UInt8), (18 : UInt8), (19 : UInt8), (21 : UInt8), (22 : UInt8), (23 : UInt8), (24 : UInt8), (25 : UInt8), (26 : UInt8), (28 : UInt8), (31 : UInt8), (33 : UInt8), (34 : UInt8), (35 : UInt8), (36 : UInt8), (37 : UInt8), (38 : UInt8), (39 : UInt8), (40 : UInt8), (41 : UInt8), (42 : UInt8)])) (none, 0) = some o := ho
  simp only [r05_Fix, r05_Ids, Option.bind_some]
  rw [ho', Option.bind_some, hL]
  by_cases he : idsOf (k : Int) = []
  · rw [he] at hnone ⊢
    refine ⟨⟨0, 0, [], []⟩, by rw [if_pos (by decide)], ?_, fun h => absurd rfl h⟩
    rw [← hnone]; decide
  · have hlen : (idsOf (k : Int)).length ≠ 0 := fun e => he (List.length_eq_zero_iff.1 e)
    have hlen2 : (idsOf (k : Int)).length ≤ 27 := List.length_filter_le _ _
    have hm : p.Id.toNat % (idsOf (k : Int)).length < (idsOf (k : Int)).length := Nat.mod_lt _ (by omega)
    have hc := p.Id.toNat_lt
    rw [if_neg (by rw [decide_eq_true_eq]; omega), chk_d (by omega), Option.bind_some, show w64 (p.Id.toNat : Int) = (p.Id.toNat : Int) from w64_id (by omega) (by omega),
      show ((p.Id.toNat : Int)).tmod ((idsOf (k : Int)).length : Int) = ((p.Id.toNat % (idsOf (k : Int)).length : Nat) : Int) by rw [Int.tmod_eq_emod_of_nonneg (by omega)]; simp, ix_nat, List.getElem?_eq_getElem hm, Option.bind_some]
    have hmem := List.getElem_mem hm
    generalize (idsOf (k : Int))[p.Id.toNat % (idsOf (k : Int)).length] = x at hmem ⊢
    simp only [idsOf, List.mem_filter] at hmem
    obtain ⟨hx, hfor⟩ := hmem
    obtain ⟨x0, t1, t7, i11, i33, i35, i39, i8⟩ := ids_type x hx
    have hz : decide (x = 0) = (decide (k = 12) || decide (k = 13)) := by
      rw [← hnone, decide_eq_false x0, decide_eq_false he]
    rw [rtype_eq, Option.bind_some]
    have hd2 : chk (decide ((2 : UInt32) ≠ 0)) = some () := by decide
    have hd3 : chk (decide ((65535 : UInt32) ≠ 0)) = some () := by decide
    have hd4 : chk (decide ((268435455 : UInt32) ≠ 0)) = some () := by decide
    have hex1 : typeT x = 1 → ¬ (x = 11 ∨ x = 33 ∨ x = 35 ∨ x = 39) := by
      rintro c (h | h | h | h)
      · rw [i11 h] at c; omega
      · rw [i33 h] at c; omega
      · rw [i35 h] at c; omega
      · rw [i39 h] at c; omega
    by_cases c1 : typeT x = 1
    · rw [if_pos (decide_eq_true c1), hd2, Option.bind_some]
      refine ⟨_, rfl, hz, fun _ => ⟨hfor, ?_, by simp, by simp⟩⟩
      have hm2 : p.N % 2 < 2 := by rw [UInt32.lt_iff_toNat_lt, UInt32.toNat_mod]; exact Nat.mod_lt _ (by decide)
      refine val_of ?_ (fun _ => hm2) (fun h => absurd h (hex1 c1)) (fun h => by rw [i8 h] at c1; omega)
      rw [rightB, if_pos c1]
      have : p.N % 2 < 256 := by rw [UInt32.lt_iff_toNat_lt] at hm2 ⊢; exact Nat.lt_trans hm2 (by decide)
      simp [this]
    rw [if_neg (by simpa using c1)]
    by_cases c2 : typeT x = 2
    · rw [if_pos (decide_eq_true c2), hd3, Option.bind_some]
      refine ⟨_, rfl, hz, fun _ => ⟨hfor, ?_, by simp, by simp⟩⟩
      have hm2 : (1 + p.N % 65535).toNat = 1 + p.N.toNat % 65535 := by
        rw [UInt32.toNat_add, UInt32.toNat_mod]
        show (1 + p.N.toNat % 65535) % 4294967296 = _
        omega
      refine val_of ?_ (fun h => absurd h c1) (fun _ h => ?_) (fun h => by rw [i8 h] at c2; omega)
      · rw [rightB, if_neg c1, if_pos c2]
        have : 1 + p.N % 65535 < 65536 := by rw [UInt32.lt_iff_toNat_lt, hm2]; show _ < 65536; omega
        simp [this]
      · have := congrArg UInt32.toNat h
        rw [hm2] at this
        have h0 : (0 : UInt32).toNat = 0 := rfl
        omega
    rw [if_neg (by simpa using c2)]
    by_cases c3 : typeT x = 3
    · rw [if_pos (decide_eq_true c3)]
      have hr : ∀ n, rightB x n [] [] = true := fun n => by rw [rightB, if_neg c1, if_neg c2, if_pos c3]; rfl
      by_cases c39 : x = 39
      · rw [if_pos (by simpa using c39)]
        by_cases hn : p.N = 0
        · rw [if_pos (by simpa using hn)]
          exact ⟨_, rfl, hz, fun _ => ⟨hfor, val_of (hr _) (fun h => absurd h c1) (fun _ => (by decide : (7 : UInt32) ≠ 0)) (fun h => by rw [i8 h] at c3; omega), by simp, by simp⟩⟩
        · rw [if_neg (by simpa using hn)]
          exact ⟨_, rfl, hz, fun _ => ⟨hfor, val_of (hr _) (fun h => absurd h c1) (fun _ h => hn h) (fun h => by rw [i8 h] at c3; omega), by simp, by simp⟩⟩
      · rw [if_neg (by simpa using c39)]
        refine ⟨_, rfl, hz, fun _ => ⟨hfor, val_of (hr _) (fun h => absurd h c1) (fun h => ?_) (fun h => by rw [i8 h] at c3; omega), by simp, by simp⟩⟩
        rcases h with h | h | h | h
        · rw [i11 h] at c3; omega
        · rw [i33 h] at c3; omega
        · rw [i35 h] at c3; omega
        · exact absurd h c39
    rw [if_neg (by simpa using c3)]
    by_cases c4 : typeT x = 4
    · rw [if_pos (decide_eq_true c4), hd4, Option.bind_some]
      refine ⟨_, rfl, hz, fun _ => ⟨hfor, ?_, by simp, by simp⟩⟩
      have hm2 : (1 + p.N % 268435455).toNat = 1 + p.N.toNat % 268435455 := by
        rw [UInt32.toNat_add, UInt32.toNat_mod]
        show (1 + p.N.toNat % 268435455) % 4294967296 = _
        omega
      refine val_of ?_ (fun h => absurd h c1) (fun _ h => ?_) (fun h => by rw [i8 h] at c4; omega)
      · rw [rightB, if_neg c1, if_neg c2, if_neg c3, if_pos c4]
        have : 1 + p.N % 268435455 < 268435456 := by rw [UInt32.lt_iff_toNat_lt, hm2]; show _ < 268435456; omega
        simp [this]
      · have := congrArg UInt32.toNat h
        rw [hm2] at this
        have h0 : (0 : UInt32).toNat = 0 := rfl
        omega
    rw [if_neg (by simpa using c4)]
    have hno : (x = 11 ∨ x = 33 ∨ x = 35 ∨ x = 39) → (0 : UInt32) ≠ 0 := by
      intro h
      exfalso
      rcases h with h | h | h | h
      · exact c4 (i11 h)
      · exact c2 (i33 h)
      · exact c2 (i35 h)
      · exact c3 (i39 h)
    by_cases c5 : typeT x = 5
    · rw [if_pos (decide_eq_true c5)]
      obtain ⟨m, q, m8, hq, hqe⟩ := fix_eq p.A
      have hql := hq.len
      rw [hqe, Option.bind_some]
      have hr : ∀ a, good a = true → rightB x 0 a [] = true := fun a h => by rw [rightB, if_neg c1, if_neg c2, if_neg c3, if_neg c4, if_pos c5, h]; rfl
      by_cases c8 : x = 8
      · rw [if_pos (by simpa using c8)]
        obtain ⟨m', q', m8', hq', h0', hqe'⟩ := tfix_eq p.A
        have hql' := hq'.len
        rw [hqe', Option.bind_some]
        refine ⟨_, rfl, hz, fun _ => ⟨hfor, val_of (hr _ hq'.good) (fun h => absurd h c1) hno (fun _ => ?_), by show q'.length ≤ 100; omega, by simp⟩⟩
        have hw : wild q' = false := not_wild fun b h => ⟨(hq'.bytes b h).2.1, (hq'.bytes b h).2.2.1⟩
        simp [nameB, h0', hq'.good, hw]
      · rw [if_neg (by simpa using c8)]
        exact ⟨_, rfl, hz, fun _ => ⟨hfor, val_of (hr _ hq.good) (fun h => absurd h c1) hno (fun h => absurd h c8), by show q.length ≤ 100; omega, by simp⟩⟩
    rw [if_neg (by simpa using c5)]
    have h8 : x ≠ 8 := fun h => c5 (i8 h)
    by_cases c6 : typeT x = 6
    · rw [if_pos (decide_eq_true c6)]
      have hcs := cut_slc p.A 9 (by omega)
      rw [show ((9 : Nat) : Int) = 9 from rfl] at hcs
      rw [hcs, Option.bind_some]
      exact ⟨_, rfl, hz, fun _ => ⟨hfor, val_of (by rw [rightB, if_neg c1, if_neg c2, if_neg c3, if_neg c4, if_neg c5, if_pos c6]; rfl) (fun h => absurd h c1) hno (fun h => absurd h h8), by show (p.A.take 9).length ≤ 100; simp; omega, by simp⟩⟩
    rw [if_neg (by simpa using c6)]
    have c7 : typeT x = 7 := by omega
    rw [if_pos (decide_eq_true c7)]
    obtain ⟨m, q, m8, hq, hqe⟩ := fix_eq p.A
    obtain ⟨m', q', m8', hq', hqe'⟩ := fix_eq p.B
    have hql := hq.len
    have hql' := hq'.len
    rw [hqe, Option.bind_some, hqe', Option.bind_some]
    exact ⟨_, rfl, hz, fun _ => ⟨hfor, val_of (by rw [rightB, if_neg c1, if_neg c2, if_neg c3, if_neg c4, if_neg c5, if_neg c6, if_pos c7, hq.good, hq'.good]; rfl) (fun h => absurd h c1) hno (fun h => absurd h h8), by show q.length ≤ 100; omega, by show q'.length ≤ 100; omega⟩⟩
theorem fixes_law (p : r05_Prop) (z : Int) : l05_PropFixes p z = some true := by
  simp only [l05_PropFixes]
  rw [show chk (decide ((16 : UInt64) ≠ 0)) = some () by decide, Option.bind_some]
  obtain ⟨j, hj⟩ : ∃ j : Nat, j = (u64 z % (16 : UInt64)).toNat := ⟨_, rfl⟩
  have hj16 : j < 16 := by rw [hj, UInt64.toNat_mod]; exact Nat.mod_lt _ (by decide)
  have ek : w64 (1 + w64 ((u64 z % (16 : UInt64)).toNat : Int)) = ((j + 1 : Nat) : Int) := by
    rw [← hj, w64_id (x := (j : Int)) (by omega) (by omega), w64_id (by omega) (by omega)]; omega
  rw [ek]
  obtain ⟨q, hq, hz, hok⟩ := fix_ok p (j + 1) (by omega) (by omega)
  rw [hq]
  simp only [Option.bind_some, l05_To, l05_From, l05_told_true, if_true]
  have d12 : decide (((j + 1 : Nat) : Int) = 12) = decide (j + 1 = 12) := by rw [Bool.eq_iff_iff]; simp; omega
  have d13 : decide (((j + 1 : Nat) : Int) = 13) = decide (j + 1 = 13) := by rw [Bool.eq_iff_iff]; simp; omega
  rw [d12, d13]
  by_cases h0 : q.Id = 0
  · rw [decide_eq_true h0] at hz ⊢
    cases h12 : decide (j + 1 = 12) <;> rw [h12] at hz <;> simp at hz ⊢
    simp [hz]
  · rw [decide_eq_false h0] at hz ⊢
    obtain ⟨a1, a2, a3, a4⟩ := hok h0
    cases h12 : decide (j + 1 = 12) <;> rw [h12] at hz <;> simp only [Bool.true_or, Bool.false_or] at hz
    · rw [← hz]
      simp only [Bool.false_eq_true, if_false, beq_self_eq_true, if_true]
      rw [pvalue_eq _ (by show q.A.length ≤ 1000; omega) (by show q.B.length ≤ 1000; omega), Option.bind_some]
      simp only [a2, if_true, pfor_eq, Option.bind_some, a1]
      simp
    · cases hz
theorem pure_PropFixes (x : tyL Tb [.g (.st 3), .g (.f (.a (.n .i64)))]) (hx : szArgs tab 4 [.g (.st 3), .g (.f (.a (.n .i64)))] x) : l05_PropFixes (⟨x.1.Id, x.1.N, x.1.A, x.1.B⟩ : r05_Prop) x.2.1 = some true := fixes_law _ _
end Go.Rv
