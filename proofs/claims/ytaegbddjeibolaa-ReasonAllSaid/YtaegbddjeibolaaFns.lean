/- What the functions of the reason codes come to, of every argument. -/
import Derived.Test.YtaegbddjeibolaaOps
import Derived.Laws.BitsLemmas
set_option linter.unusedSimpArgs false
set_option linter.unusedVariables false
namespace Go.Rv
open Go.Proofs
variable {L : World → Prop}
theorem wrap_i64 {x : Int} (h0 : -9223372036854775808 ≤ x) (h1 : x ≤ 9223372036854775807) : IntKind.i64.wrap x = x := by
  rw [IntKind.wrap_i64]; omega
def idx (v : UInt8) : List UInt8 → Int → Int
  | [], _ => -1
  | b :: l, i => if v = b then i else idx v l (i + 1)
theorem ev_ia {z : Nat} {rows : List (List PV)} {k : IntKind} {h : Heap} {i : Nat} {r : List PV} (hi : rows[i]? = some r) : POp.ev (.ia z) [.pv (.sl z rows), .i k (i : Int)] h = some (.eref r 0, h) := by simp [POp.ev, AV.i, hi]
theorem ev_ld0 {p : PV} {r : List PV} {h : Heap} : POp.ev (.load none) [.eref (p :: r) 0] h = some (.pv p, h) := by simp [POp.ev]
theorem pv_i {k : IntKind} {n : Int} : AV.pv (.lit (.int k n)) = .i k n := rfl
theorem bytes_get {l : List UInt8} {i : Nat} (h : i < l.length) : (bytesRows l)[i]? = some [.lit (.int .u8 l[i].toNat)] := by simp [bytesRows, byteRow, h]

theorem good_Index (l : List UInt8) (v : UInt8) (hl : l.length ≤ 9223372036854775806) :
    Fun Try.prog L 51 [.pv (.sl 1 (bytesRows l)), .i .u8 v.toNat] [] (.i .i64 (idx v l 0)) [] := by
  refine fun_of_wp Try.func51 ok51 (by kernel_rfl) (show 2 ≤ s51.n by decide) (by decide) ?_
  simp only [argEnv, Nat.reduceAdd]
  repeat with_reducible first | refine o_op ?_ | refine q_nil ?_ | refine q_then ?_ | refine q_seq ?_ | refine q_reg ?_ | refine n_drop ?_ | refine n_condT ?_ | refine n_condF ?_ | refine o_yes ?_ | refine o_no ?_ | refine o_nu ?_ | refine q_skip ?_ | refine q_ret ?_ | refine q_exit ?_ | refine q_block ?_ | refine q_thenR ?_ | refine q_thenE ?_ | refine q_blkN ?_ | refine q_blkR ?_ | refine q_blkE ?_ | refine q_blkX (by decide) ?_ | refine o_st ?_
  refine wpS_loop (X := Nat) (fun i => ⟨[(0, .pv (.sl 1 (bytesRows l))), (1, .i .u8 v.toNat), (7, .i .i64 (l.length : Int)), (8, .i .i64 (i : Int))], []⟩) (fun i => i ≤ l.length ∧ idx v l 0 = idx v (l.drop i) i) (fun i => l.length - i) 0 ?_ ?_ ?_
  · simp [bytesRows]
  · simp
  · rintro i ⟨h1, h2⟩
    repeat with_reducible first | refine o_op ?_ | refine q_nil ?_ | refine q_then ?_ | refine q_seq ?_ | refine q_reg ?_ | refine n_drop ?_ | refine n_condT ?_ | refine n_condF ?_ | refine o_yes ?_ | refine o_no ?_ | refine o_nu ?_ | refine q_skip ?_ | refine q_ret ?_ | refine q_exit ?_ | refine q_block ?_ | refine q_thenR ?_ | refine q_thenE ?_ | refine q_blkN ?_ | refine q_blkR ?_ | refine q_blkE ?_ | refine q_blkX (by decide) ?_ | refine o_st ?_
    refine n_cond (fun hc => ?_) (fun hc => ?_)
    · have hlt : i < l.length := by simpa using hc
      repeat with_reducible first | refine o_op ?_ | refine q_nil ?_ | refine q_then ?_ | refine q_seq ?_ | refine q_reg ?_ | refine n_drop ?_ | refine n_condT ?_ | refine n_condF ?_ | refine o_yes ?_ | refine o_no ?_ | refine o_nu ?_ | refine q_skip ?_ | refine q_ret ?_ | refine q_exit ?_ | refine q_block ?_ | refine q_thenR ?_ | refine q_thenE ?_ | refine q_blkN ?_ | refine q_blkR ?_ | refine q_blkE ?_ | refine q_blkX (by decide) ?_ | refine o_st ?_
      refine o_op (h2 := by simp only [ev_ia (bytes_get hlt)]; rfl) ?_
      refine o_op (h2 := by simp only [ev_ld0, pv_i]; rfl) ?_
      repeat with_reducible first | refine o_op ?_ | refine q_nil ?_ | refine q_then ?_ | refine q_seq ?_ | refine q_reg ?_ | refine n_drop ?_ | refine n_condT ?_ | refine n_condF ?_ | refine o_yes ?_ | refine o_no ?_ | refine o_nu ?_ | refine q_skip ?_ | refine q_ret ?_ | refine q_exit ?_ | refine q_block ?_ | refine q_thenR ?_ | refine q_thenE ?_ | refine q_blkN ?_ | refine q_blkR ?_ | refine q_blkE ?_ | refine q_blkX (by decide) ?_ | refine o_st ?_
      have hd : l.drop i = l[i] :: l.drop (i + 1) := List.drop_eq_getElem_cons hlt
      rw [hd] at h2
      simp only [idx] at h2
      refine n_cond (fun hc2 => ?_) (fun hc2 => ?_)
      · repeat with_reducible first | refine o_op ?_ | refine q_nil ?_ | refine q_then ?_ | refine q_seq ?_ | refine q_reg ?_ | refine n_drop ?_ | refine n_condT ?_ | refine n_condF ?_ | refine o_yes ?_ | refine o_no ?_ | refine o_nu ?_ | refine q_skip ?_ | refine q_ret ?_ | refine q_exit ?_ | refine q_block ?_ | refine q_thenR ?_ | refine q_thenE ?_ | refine q_blkN ?_ | refine q_blkR ?_ | refine q_blkE ?_ | refine q_blkX (by decide) ?_ | refine o_st ?_
        refine n_end ?_
        have : v = l[i] := by simp at hc2; exact UInt8.toNat_inj.1 (by exact_mod_cast hc2)
        rw [h2, if_pos this]; exact ⟨rfl, rfl⟩
      · repeat with_reducible first | refine o_op ?_ | refine q_nil ?_ | refine q_then ?_ | refine q_seq ?_ | refine q_reg ?_ | refine n_drop ?_ | refine n_condT ?_ | refine n_condF ?_ | refine o_yes ?_ | refine o_no ?_ | refine o_nu ?_ | refine q_skip ?_ | refine q_ret ?_ | refine q_exit ?_ | refine q_block ?_ | refine q_thenR ?_ | refine q_thenE ?_ | refine q_blkN ?_ | refine q_blkR ?_ | refine q_blkE ?_ | refine q_blkX (by decide) ?_ | refine o_st ?_
        have : ¬ v = l[i] := by intro h; simp [h] at hc2
        refine ⟨i + 1, ?_, ⟨by omega, by rw [h2, if_neg this]; rfl⟩, by omega⟩
        rw [wrap_i64 (by omega) (by omega)]
        rfl
    · repeat with_reducible first | refine o_op ?_ | refine q_nil ?_ | refine q_then ?_ | refine q_seq ?_ | refine q_reg ?_ | refine n_drop ?_ | refine n_condT ?_ | refine n_condF ?_ | refine o_yes ?_ | refine o_no ?_ | refine o_nu ?_ | refine q_skip ?_ | refine q_ret ?_ | refine q_exit ?_ | refine q_block ?_ | refine q_thenR ?_ | refine q_thenE ?_ | refine q_blkN ?_ | refine q_blkR ?_ | refine q_blkE ?_ | refine q_blkX (by decide) ?_ | refine o_st ?_
      refine n_end ?_
      have : ¬ i < l.length := by simpa using hc
      have h3 : l.drop i = [] := by apply List.drop_eq_nil_of_le; omega
      rw [h3] at h2
      exact ⟨by rw [h2]; rfl, rfl⟩
end Go.Rv

namespace Go.Rv
open Go.Proofs
variable {L : World → Prop}
def bytesA (l : List UInt8) : AV := .own 1 (bytesRows l)
def optA : Option (List UInt8) → AV
  | some l => bytesA l
  | none => .nilS
def fourthL (k : Int) : Option (List UInt8) :=
  if k = 2 then some [0, 1, 2, 3, 4, 5] else if k = 4 ∨ k = 5 ∨ k = 6 ∨ k = 7 ∨ k = 14 then some [0] else if k = 9 then some [0, 1, 2, 128] else none
theorem f45 (k : Int) : Fun Try.prog L 45 [.i .i64 k] [] (optA (fourthL k)) [] := by
  refine fun_of_wp Try.func45 ok45 (by kernel_rfl) (show 1 ≤ s45.n by decide) (by decide) ?_
  simp only [argEnv, Nat.reduceAdd]
  by_cases h2 : k = 2
  · subst h2
    repeat with_reducible first | refine o_op ?_ | refine q_nil ?_ | refine q_then ?_ | refine q_seq ?_ | refine q_reg ?_ | refine n_drop ?_ | refine n_condT ?_ | refine n_condF ?_ | refine o_yes ?_ | refine o_no ?_ | refine o_nu ?_ | refine q_skip ?_ | refine q_ret ?_ | refine q_exit ?_ | refine q_block ?_ | refine q_thenR ?_ | refine q_thenE ?_ | refine q_blkN ?_ | refine q_blkR ?_ | refine q_blkE ?_ | refine q_blkX (by decide) ?_ | refine o_st ?_
    refine o_op (r := bytesA [0, 1, 2, 3, 4, 5]) ?_ (h2 := by rfl)
    repeat with_reducible first | refine o_op ?_ | refine q_nil ?_ | refine q_then ?_ | refine q_seq ?_ | refine q_reg ?_ | refine n_drop ?_ | refine n_condT ?_ | refine n_condF ?_ | refine o_yes ?_ | refine o_no ?_ | refine o_nu ?_ | refine q_skip ?_ | refine q_ret ?_ | refine q_exit ?_ | refine q_block ?_ | refine q_thenR ?_ | refine q_thenE ?_ | refine q_blkN ?_ | refine q_blkR ?_ | refine q_blkE ?_ | refine q_blkX (by decide) ?_ | refine o_st ?_
    exact n_end ⟨rfl, rfl⟩
  by_cases h4 : k = 4 ∨ k = 5 ∨ k = 6 ∨ k = 7 ∨ k = 14
  · rcases h4 with rfl | rfl | rfl | rfl | rfl
    all_goals
      repeat with_reducible first | refine o_op ?_ | refine q_nil ?_ | refine q_then ?_ | refine q_seq ?_ | refine q_reg ?_ | refine n_drop ?_ | refine n_condT ?_ | refine n_condF ?_ | refine o_yes ?_ | refine o_no ?_ | refine o_nu ?_ | refine q_skip ?_ | refine q_ret ?_ | refine q_exit ?_ | refine q_block ?_ | refine q_thenR ?_ | refine q_thenE ?_ | refine q_blkN ?_ | refine q_blkR ?_ | refine q_blkE ?_ | refine q_blkX (by decide) ?_ | refine o_st ?_
      refine o_op (r := bytesA [0]) ?_ (h2 := by rfl)
      repeat with_reducible first | refine o_op ?_ | refine q_nil ?_ | refine q_then ?_ | refine q_seq ?_ | refine q_reg ?_ | refine n_drop ?_ | refine n_condT ?_ | refine n_condF ?_ | refine o_yes ?_ | refine o_no ?_ | refine o_nu ?_ | refine q_skip ?_ | refine q_ret ?_ | refine q_exit ?_ | refine q_block ?_ | refine q_thenR ?_ | refine q_thenE ?_ | refine q_blkN ?_ | refine q_blkR ?_ | refine q_blkE ?_ | refine q_blkX (by decide) ?_ | refine o_st ?_
      exact n_end ⟨rfl, rfl⟩
  by_cases h9 : k = 9
  · subst h9
    repeat with_reducible first | refine o_op ?_ | refine q_nil ?_ | refine q_then ?_ | refine q_seq ?_ | refine q_reg ?_ | refine n_drop ?_ | refine n_condT ?_ | refine n_condF ?_ | refine o_yes ?_ | refine o_no ?_ | refine o_nu ?_ | refine q_skip ?_ | refine q_ret ?_ | refine q_exit ?_ | refine q_block ?_ | refine q_thenR ?_ | refine q_thenE ?_ | refine q_blkN ?_ | refine q_blkR ?_ | refine q_blkE ?_ | refine q_blkX (by decide) ?_ | refine o_st ?_
    refine o_op (r := bytesA [0, 1, 2, 128]) ?_ (h2 := by rfl)
    repeat with_reducible first | refine o_op ?_ | refine q_nil ?_ | refine q_then ?_ | refine q_seq ?_ | refine q_reg ?_ | refine n_drop ?_ | refine n_condT ?_ | refine n_condF ?_ | refine o_yes ?_ | refine o_no ?_ | refine o_nu ?_ | refine q_skip ?_ | refine q_ret ?_ | refine q_exit ?_ | refine q_block ?_ | refine q_thenR ?_ | refine q_thenE ?_ | refine q_blkN ?_ | refine q_blkR ?_ | refine q_blkE ?_ | refine q_blkX (by decide) ?_ | refine o_st ?_
    exact n_end ⟨rfl, rfl⟩
  have e4 : ¬ k = 4 := fun h => h4 (by simp [h])
  have e5 : ¬ k = 5 := fun h => h4 (by simp [h])
  have e6 : ¬ k = 6 := fun h => h4 (by simp [h])
  have e7 : ¬ k = 7 := fun h => h4 (by simp [h])
  have e14 : ¬ k = 14 := fun h => h4 (by simp [h])
  repeat with_reducible first | refine o_op ?_ (h2 := by simp only [ev_all, reduceIte, Bool.false_eq_true, Int.reduceEq, Int.reduceLT, Int.reduceLE, decide_true, decide_false, Bool.not_true, Bool.not_false, gt_iff_lt, ge_iff_le, h2, e4, e5, e6, e7, e14, h9, decide_false] <;> rfl) | refine o_op ?_ | refine q_nil ?_ | refine q_then ?_ | refine q_seq ?_ | refine q_reg ?_ | refine n_drop ?_ | refine n_condT ?_ | refine n_condF ?_ | refine o_yes ?_ | refine o_no ?_ | refine o_nu ?_ | refine q_skip ?_ | refine q_ret ?_ | refine q_exit ?_ | refine q_block ?_ | refine q_thenR ?_ | refine q_thenE ?_ | refine q_blkN ?_ | refine q_blkR ?_ | refine q_blkE ?_ | refine q_blkX (by decide) ?_ | refine o_st ?_
  refine n_end ⟨?_, rfl⟩
  simp only [fourthL, h2, h4, h9, if_false, optA]
end Go.Rv

namespace Go.Rv
open Go.Proofs
variable {L : World → Prop}
def fifthL (k : Int) : Option (List UInt8) :=
  if k = 2 then some [0, 128, 129, 130, 131, 132, 133, 134, 135, 136, 137, 138, 140, 144, 149, 151, 153, 154, 155, 156, 157, 159]
  else if k = 4 ∨ k = 5 then some [0, 16, 128, 131, 135, 144, 145, 151, 153]
  else if k = 6 ∨ k = 7 then some [0, 146]
  else if k = 9 then some [0, 1, 2, 128, 131, 135, 143, 145, 151, 158, 161, 162]
  else if k = 11 then some [0, 17, 128, 131, 135, 143, 145]
  else if k = 14 then some [0, 4, 128, 129, 130, 131, 135, 137, 139, 141, 142, 143, 144, 147, 148, 149, 150, 151, 152, 153, 154, 155, 156, 157, 158, 159, 160, 161, 162]
  else if k = 15 then some [0, 24, 25] else none
theorem kinds (k : Int) : (k = 2 ∨ k = 4 ∨ k = 5 ∨ k = 6 ∨ k = 7 ∨ k = 9 ∨ k = 11 ∨ k = 14 ∨ k = 15) ∨ (¬ k = 2 ∧ ¬ k = 4 ∧ ¬ k = 5 ∧ ¬ k = 6 ∧ ¬ k = 7 ∧ ¬ k = 9 ∧ ¬ k = 11 ∧ ¬ k = 14 ∧ ¬ k = 15) := by omega
theorem f46 (k : Int) : Fun Try.prog L 46 [.i .i64 k] [] (optA (fifthL k)) [] := by
  refine fun_of_wp Try.func46 ok46 (by kernel_rfl) (show 1 ≤ s46.n by decide) (by decide) ?_
  simp only [argEnv, Nat.reduceAdd]
  rcases kinds k with h | ⟨h2, h4, h5, h6, h7, h9, h11, h14, h15⟩
  · rcases h with rfl | rfl | rfl | rfl | rfl | rfl | rfl | rfl | rfl
    all_goals
      repeat with_reducible first | refine o_op ?_ | refine q_nil ?_ | refine q_then ?_ | refine q_seq ?_ | refine q_reg ?_ | refine n_drop ?_ | refine n_condT ?_ | refine n_condF ?_ | refine o_yes ?_ | refine o_no ?_ | refine o_nu ?_ | refine q_skip ?_ | refine q_ret ?_ | refine q_exit ?_ | refine q_block ?_ | refine q_thenR ?_ | refine q_thenE ?_ | refine q_blkN ?_ | refine q_blkR ?_ | refine q_blkE ?_ | refine q_blkX (by decide) ?_ | refine o_st ?_
      refine o_op ?_ (h2 := by rfl)
      repeat with_reducible first | refine o_op ?_ | refine q_nil ?_ | refine q_then ?_ | refine q_seq ?_ | refine q_reg ?_ | refine n_drop ?_ | refine n_condT ?_ | refine n_condF ?_ | refine o_yes ?_ | refine o_no ?_ | refine o_nu ?_ | refine q_skip ?_ | refine q_ret ?_ | refine q_exit ?_ | refine q_block ?_ | refine q_thenR ?_ | refine q_thenE ?_ | refine q_blkN ?_ | refine q_blkR ?_ | refine q_blkE ?_ | refine q_blkX (by decide) ?_ | refine o_st ?_
      exact n_end ⟨rfl, rfl⟩
  · repeat with_reducible first | refine o_op ?_ (h2 := by simp only [ev_all, reduceIte, Bool.false_eq_true, Int.reduceEq, Int.reduceLT, Int.reduceLE, decide_true, decide_false, Bool.not_true, Bool.not_false, gt_iff_lt, ge_iff_le, h2, h4, h5, h6, h7, h9, h11, h14, h15] <;> rfl) | refine o_op ?_ | refine q_nil ?_ | refine q_then ?_ | refine q_seq ?_ | refine q_reg ?_ | refine n_drop ?_ | refine n_condT ?_ | refine n_condF ?_ | refine o_yes ?_ | refine o_no ?_ | refine o_nu ?_ | refine q_skip ?_ | refine q_ret ?_ | refine q_exit ?_ | refine q_block ?_ | refine q_thenR ?_ | refine q_thenE ?_ | refine q_blkN ?_ | refine q_blkR ?_ | refine q_blkE ?_ | refine q_blkX (by decide) ?_ | refine o_st ?_
    refine n_end ⟨?_, rfl⟩
    simp only [fifthL, h2, h4, h5, h6, h7, h9, h11, h14, h15, if_false, or_self, optA]
def allL (v k : Int) : Option (List UInt8) := if v = 4 then fourthL k else if v = 5 then fifthL k else none
theorem ref_opt (o : Option (List UInt8)) : refsOf (optA o) = [] := by cases o <;> rfl
theorem f15 (v k : Int) : Fun Try.prog L 15 [.i .i64 v, .i .i64 k] [] (optA (allL v k)) [] := by
  refine fun_of_wp Try.func15 ok15 (by kernel_rfl) (show 2 ≤ s15.n by decide) (by decide) ?_
  simp only [argEnv, Nat.reduceAdd]
  by_cases h4 : v = 4
  · subst h4
    repeat with_reducible first | refine o_op ?_ | refine q_nil ?_ | refine q_then ?_ | refine q_seq ?_ | refine q_reg ?_ | refine n_drop ?_ | refine n_condT ?_ | refine n_condF ?_ | refine o_yes ?_ | refine o_no ?_ | refine o_nu ?_ | refine q_skip ?_ | refine q_ret ?_ | refine q_exit ?_ | refine q_block ?_ | refine q_thenR ?_ | refine q_thenE ?_ | refine q_blkN ?_ | refine q_blkR ?_ | refine q_blkE ?_ | refine q_blkX (by decide) ?_ | refine o_st ?_
    refine o_call (f45 k) ?_ (hr2 := ref_opt _)
    repeat with_reducible first | refine o_op ?_ | refine q_nil ?_ | refine q_then ?_ | refine q_seq ?_ | refine q_reg ?_ | refine n_drop ?_ | refine n_condT ?_ | refine n_condF ?_ | refine o_yes ?_ | refine o_no ?_ | refine o_nu ?_ | refine q_skip ?_ | refine q_ret ?_ | refine q_exit ?_ | refine q_block ?_ | refine q_thenR ?_ | refine q_thenE ?_ | refine q_blkN ?_ | refine q_blkR ?_ | refine q_blkE ?_ | refine q_blkX (by decide) ?_ | refine o_st ?_
    have : allL 4 k = fourthL k := rfl
    rw [this]
    cases fourthL k <;> exact n_end ⟨rfl, rfl⟩
  by_cases h5 : v = 5
  · subst h5
    repeat with_reducible first | refine o_op ?_ | refine q_nil ?_ | refine q_then ?_ | refine q_seq ?_ | refine q_reg ?_ | refine n_drop ?_ | refine n_condT ?_ | refine n_condF ?_ | refine o_yes ?_ | refine o_no ?_ | refine o_nu ?_ | refine q_skip ?_ | refine q_ret ?_ | refine q_exit ?_ | refine q_block ?_ | refine q_thenR ?_ | refine q_thenE ?_ | refine q_blkN ?_ | refine q_blkR ?_ | refine q_blkE ?_ | refine q_blkX (by decide) ?_ | refine o_st ?_
    refine o_call (f46 k) ?_ (hr2 := ref_opt _)
    repeat with_reducible first | refine o_op ?_ | refine q_nil ?_ | refine q_then ?_ | refine q_seq ?_ | refine q_reg ?_ | refine n_drop ?_ | refine n_condT ?_ | refine n_condF ?_ | refine o_yes ?_ | refine o_no ?_ | refine o_nu ?_ | refine q_skip ?_ | refine q_ret ?_ | refine q_exit ?_ | refine q_block ?_ | refine q_thenR ?_ | refine q_thenE ?_ | refine q_blkN ?_ | refine q_blkR ?_ | refine q_blkE ?_ | refine q_blkX (by decide) ?_ | refine o_st ?_
    have : allL 5 k = fifthL k := rfl
    rw [this]
    cases fifthL k <;> exact n_end ⟨rfl, rfl⟩
  repeat with_reducible first | refine o_op ?_ (h2 := by simp only [ev_all, reduceIte, Bool.false_eq_true, Int.reduceEq, Int.reduceLT, Int.reduceLE, decide_true, decide_false, Bool.not_true, Bool.not_false, gt_iff_lt, ge_iff_le, h4, h5] <;> rfl) | refine o_op ?_ | refine q_nil ?_ | refine q_then ?_ | refine q_seq ?_ | refine q_reg ?_ | refine n_drop ?_ | refine n_condT ?_ | refine n_condF ?_ | refine o_yes ?_ | refine o_no ?_ | refine o_nu ?_ | refine q_skip ?_ | refine q_ret ?_ | refine q_exit ?_ | refine q_block ?_ | refine q_thenR ?_ | refine q_thenE ?_ | refine q_blkN ?_ | refine q_blkR ?_ | refine q_blkE ?_ | refine q_blkX (by decide) ?_ | refine o_st ?_
  refine n_end ⟨?_, rfl⟩
  simp only [allL, h4, h5, if_false, optA]
/-- A slice of bytes, or none. -/
def optS : Option (List UInt8) → AV
  | some l => .pv (.sl 1 (bytesRows l))
  | none => .nilS
theorem strip_opt (o : Option (List UInt8)) : strip (optA o) = optS o := by cases o <;> rfl
def optL : Option (List UInt8) → List UInt8
  | some l => l
  | none => []
theorem good_IndexN (v : UInt8) : Fun Try.prog L 51 [.nilS, .i .u8 v.toNat] [] (.i .i64 (-1)) [] := by
  refine fun_of_wp Try.func51 ok51 (by kernel_rfl) (show 2 ≤ s51.n by decide) (by decide) ?_
  simp only [argEnv, Nat.reduceAdd]
  repeat with_reducible first | refine o_op ?_ | refine q_nil ?_ | refine q_then ?_ | refine q_seq ?_ | refine q_reg ?_ | refine n_drop ?_ | refine n_condT ?_ | refine n_condF ?_ | refine o_yes ?_ | refine o_no ?_ | refine o_nu ?_ | refine q_skip ?_ | refine q_ret ?_ | refine q_exit ?_ | refine q_block ?_ | refine q_thenR ?_ | refine q_thenE ?_ | refine q_blkN ?_ | refine q_blkR ?_ | refine q_blkE ?_ | refine q_blkX (by decide) ?_ | refine o_st ?_
  refine wpS_loop (X := Unit) (fun _ => ⟨[(0, .nilS), (1, .i .u8 v.toNat), (7, .i .i64 0), (8, .i .i64 0)], []⟩) (fun _ => True) (fun _ => 0) () rfl trivial ?_
  rintro _ _
  repeat with_reducible first | refine o_op ?_ | refine q_nil ?_ | refine q_then ?_ | refine q_seq ?_ | refine q_reg ?_ | refine n_drop ?_ | refine n_condT ?_ | refine n_condF ?_ | refine o_yes ?_ | refine o_no ?_ | refine o_nu ?_ | refine q_skip ?_ | refine q_ret ?_ | refine q_exit ?_ | refine q_block ?_ | refine q_thenR ?_ | refine q_thenE ?_ | refine q_blkN ?_ | refine q_blkR ?_ | refine q_blkE ?_ | refine q_blkX (by decide) ?_ | refine o_st ?_
  exact n_end ⟨rfl, rfl⟩
theorem f51 (o : Option (List UInt8)) (v : UInt8) (hl : (optL o).length ≤ 9223372036854775806) : Fun Try.prog L 51 [optS o, .i .u8 v.toNat] [] (.i .i64 (idx v (optL o) 0)) [] := by
  cases o with
  | none => exact good_IndexN v
  | some l => exact good_Index l v hl
theorem idx_pos (v : UInt8) : ∀ (l : List UInt8) (i : Int), 0 ≤ i → decide (0 ≤ idx v l i) = l.contains v
  | [], i, h => by simp [idx]
  | b :: l, i, h => by
    simp only [idx]
    split
    · rename_i he; subst he; simp [h]
    · rename_i he
      rw [idx_pos v l (i + 1) (by omega)]
      simp [he]
theorem f43 (o : Option (List UInt8)) (v : UInt8) (hl : (optL o).length ≤ 9223372036854775806) : Fun Try.prog L 43 [optA o, .i .u8 v.toNat] [] (.b ((optL o).contains v)) [] := by
  refine fun_of_wp Try.func43 ok43 (by kernel_rfl) (show 2 ≤ s43.n by decide) (by decide) ?_
  simp only [argEnv, Nat.reduceAdd]
  repeat with_reducible first | refine o_op ?_ | refine q_nil ?_ | refine q_then ?_ | refine q_seq ?_ | refine q_reg ?_ | refine n_drop ?_ | refine n_condT ?_ | refine n_condF ?_ | refine o_yes ?_ | refine o_no ?_ | refine o_nu ?_ | refine q_skip ?_ | refine q_ret ?_ | refine q_exit ?_ | refine q_block ?_ | refine q_thenR ?_ | refine q_thenE ?_ | refine q_blkN ?_ | refine q_blkR ?_ | refine q_blkE ?_ | refine q_blkX (by decide) ?_ | refine o_st ?_
  refine o_callS (f51 o v hl) ?_ (hv := by simp [strip_opt, AV.i, strip]) (hr := by simp [refsL, ref_opt, AV.i, refsOf])
  repeat with_reducible first | refine o_op ?_ | refine q_nil ?_ | refine q_then ?_ | refine q_seq ?_ | refine q_reg ?_ | refine n_drop ?_ | refine n_condT ?_ | refine n_condF ?_ | refine o_yes ?_ | refine o_no ?_ | refine o_nu ?_ | refine q_skip ?_ | refine q_ret ?_ | refine q_exit ?_ | refine q_block ?_ | refine q_thenR ?_ | refine q_thenE ?_ | refine q_blkN ?_ | refine q_blkR ?_ | refine q_blkE ?_ | refine q_blkX (by decide) ?_ | refine o_st ?_
  refine n_end ⟨?_, rfl⟩
  rw [idx_pos v _ 0 (by omega)]
theorem len_all (v k : Int) : (optL (allL v k)).length ≤ 9223372036854775806 := by
  unfold allL
  split
  · unfold fourthL; repeat' split
    all_goals (simp [optL])
  · split
    · unfold fifthL; repeat' split
      all_goals (simp [optL])
    · simp [optL]
theorem f11 (v k : Int) (c : UInt8) : Fun Try.prog L 11 [.i .i64 v, .i .i64 k, .i .u8 c.toNat] [] (.b ((optL (allL v k)).contains c)) [] := by
  refine fun_of_wp Try.func11 ok11 (by kernel_rfl) (show 3 ≤ s11.n by decide) (by decide) ?_
  simp only [argEnv, Nat.reduceAdd]
  repeat with_reducible first | refine o_op ?_ | refine q_nil ?_ | refine q_then ?_ | refine q_seq ?_ | refine q_reg ?_ | refine n_drop ?_ | refine n_condT ?_ | refine n_condF ?_ | refine o_yes ?_ | refine o_no ?_ | refine o_nu ?_ | refine q_skip ?_ | refine q_ret ?_ | refine q_exit ?_ | refine q_block ?_ | refine q_thenR ?_ | refine q_thenE ?_ | refine q_blkN ?_ | refine q_blkR ?_ | refine q_blkE ?_ | refine q_blkX (by decide) ?_ | refine o_st ?_
  refine o_call (f15 v k) ?_ (hr2 := ref_opt _)
  repeat with_reducible first | refine o_op ?_ | refine q_nil ?_ | refine q_then ?_ | refine q_seq ?_ | refine q_reg ?_ | refine n_drop ?_ | refine n_condT ?_ | refine n_condF ?_ | refine o_yes ?_ | refine o_no ?_ | refine o_nu ?_ | refine q_skip ?_ | refine q_ret ?_ | refine q_exit ?_ | refine q_block ?_ | refine q_thenR ?_ | refine q_thenE ?_ | refine q_blkN ?_ | refine q_blkR ?_ | refine q_blkE ?_ | refine q_blkX (by decide) ?_ | refine o_st ?_
  refine o_call (f43 _ c (len_all v k)) ?_ (hr := by simp [refsL, ref_opt, AV.i, refsOf])
  repeat with_reducible first | refine o_op ?_ | refine q_nil ?_ | refine q_then ?_ | refine q_seq ?_ | refine q_reg ?_ | refine n_drop ?_ | refine n_condT ?_ | refine n_condF ?_ | refine o_yes ?_ | refine o_no ?_ | refine o_nu ?_ | refine q_skip ?_ | refine q_ret ?_ | refine q_exit ?_ | refine q_block ?_ | refine q_thenR ?_ | refine q_thenE ?_ | refine q_blkN ?_ | refine q_blkR ?_ | refine q_blkE ?_ | refine q_blkX (by decide) ?_ | refine o_st ?_
  exact n_end ⟨rfl, rfl⟩
end Go.Rv

namespace Go.Rv
open Go.Proofs
variable {L : World → Prop}
def failedB (v k : Int) (c : UInt8) (known : Bool) : Bool := known && (decide (128 ≤ (c.toNat : Int)) || (decide (v = 4) && decide (k = 2) && !decide ((c.toNat : Int) = 0)))
theorem f13 (v k : Int) (c : UInt8) : Fun Try.prog L 13 [.i .i64 v, .i .i64 k, .i .u8 c.toNat] [] (.b (failedB v k c ((optL (allL v k)).contains c))) [] := by
  refine fun_of_wp Try.func13 ok13 (by kernel_rfl) (show 3 ≤ s13.n by decide) (by decide) ?_
  simp only [argEnv, Nat.reduceAdd]
  ((repeat with_reducible first | refine o_op ?_ | refine q_nil ?_ | refine q_then ?_ | refine q_seq ?_ | refine q_reg ?_ | refine n_drop ?_ | refine n_condT ?_ | refine n_condF ?_ | refine o_yes ?_ | refine o_no ?_ | refine o_nu ?_ | refine q_skip ?_ | refine q_ret ?_ | refine q_exit ?_ | refine q_block ?_ | refine q_thenR ?_ | refine q_thenE ?_ | refine q_blkN ?_ | refine q_blkR ?_ | refine q_blkE ?_ | refine q_blkX (by decide) ?_ | refine o_st ?_); try (refine o_case (fun hb => ?_) (fun hb => ?_) <;> ((repeat with_reducible first | refine o_op ?_ | refine q_nil ?_ | refine q_then ?_ | refine q_seq ?_ | refine q_reg ?_ | refine n_drop ?_ | refine n_condT ?_ | refine n_condF ?_ | refine o_yes ?_ | refine o_no ?_ | refine o_nu ?_ | refine q_skip ?_ | refine q_ret ?_ | refine q_exit ?_ | refine q_block ?_ | refine q_thenR ?_ | refine q_thenE ?_ | refine q_blkN ?_ | refine q_blkR ?_ | refine q_blkE ?_ | refine q_blkX (by decide) ?_ | refine o_st ?_); try (refine o_case (fun hb => ?_) (fun hb => ?_) <;> (repeat with_reducible first | refine o_op ?_ | refine q_nil ?_ | refine q_then ?_ | refine q_seq ?_ | refine q_reg ?_ | refine n_drop ?_ | refine n_condT ?_ | refine n_condF ?_ | refine o_yes ?_ | refine o_no ?_ | refine o_nu ?_ | refine q_skip ?_ | refine q_ret ?_ | refine q_exit ?_ | refine q_block ?_ | refine q_thenR ?_ | refine q_thenE ?_ | refine q_blkN ?_ | refine q_blkR ?_ | refine q_blkE ?_ | refine q_blkX (by decide) ?_ | refine o_st ?_)))))
  all_goals
    refine o_call (f11 v k c) ?_
    ((repeat with_reducible first | refine o_op ?_ | refine q_nil ?_ | refine q_then ?_ | refine q_seq ?_ | refine q_reg ?_ | refine n_drop ?_ | refine n_condT ?_ | refine n_condF ?_ | refine o_yes ?_ | refine o_no ?_ | refine o_nu ?_ | refine q_skip ?_ | refine q_ret ?_ | refine q_exit ?_ | refine q_block ?_ | refine q_thenR ?_ | refine q_thenE ?_ | refine q_blkN ?_ | refine q_blkR ?_ | refine q_blkE ?_ | refine q_blkX (by decide) ?_ | refine o_st ?_); try (refine o_case (fun hb => ?_) (fun hb => ?_) <;> ((repeat with_reducible first | refine o_op ?_ | refine q_nil ?_ | refine q_then ?_ | refine q_seq ?_ | refine q_reg ?_ | refine n_drop ?_ | refine n_condT ?_ | refine n_condF ?_ | refine o_yes ?_ | refine o_no ?_ | refine o_nu ?_ | refine q_skip ?_ | refine q_ret ?_ | refine q_exit ?_ | refine q_block ?_ | refine q_thenR ?_ | refine q_thenE ?_ | refine q_blkN ?_ | refine q_blkR ?_ | refine q_blkE ?_ | refine q_blkX (by decide) ?_ | refine o_st ?_); try (refine o_case (fun hb => ?_) (fun hb => ?_) <;> (repeat with_reducible first | refine o_op ?_ | refine q_nil ?_ | refine q_then ?_ | refine q_seq ?_ | refine q_reg ?_ | refine n_drop ?_ | refine n_condT ?_ | refine n_condF ?_ | refine o_yes ?_ | refine o_no ?_ | refine o_nu ?_ | refine q_skip ?_ | refine q_ret ?_ | refine q_exit ?_ | refine q_block ?_ | refine q_thenR ?_ | refine q_thenE ?_ | refine q_blkN ?_ | refine q_blkR ?_ | refine q_blkE ?_ | refine q_blkX (by decide) ?_ | refine o_st ?_)))))
  all_goals
    refine n_end ⟨?_, rfl⟩
    simp_all [failedB]
  all_goals
    have : ¬ 128 ≤ (c.toNat : Int) := by omega
    simp [this]
def intRow (n : Int) : List PV := [.lit (.int .i64 n)]
def intsA (l : List Int) : AV := .own 1 (l.map intRow)
def optI : Option (List Int) → AV
  | some l => intsA l
  | none => .nilS
def spansL (v k : Int) : Option (List Int) :=
  if v = 4 then (if k = 2 then some [0, 5] else if k = 4 ∨ k = 5 ∨ k = 6 ∨ k = 7 ∨ k = 14 then some [0, 0] else if k = 9 then some [0, 2, 128, 128] else none)
  else if v = 5 then
    (if k = 2 then some [0, 0, 128, 138, 140, 140, 144, 144, 149, 149, 151, 151, 153, 157, 159, 159]
    else if k = 4 ∨ k = 5 then some [0, 0, 16, 16, 128, 128, 131, 131, 135, 135, 144, 145, 151, 151, 153, 153]
    else if k = 6 ∨ k = 7 then some [0, 0, 146, 146]
    else if k = 9 then some [0, 2, 128, 128, 131, 131, 135, 135, 143, 143, 145, 145, 151, 151, 158, 158, 161, 162]
    else if k = 11 then some [0, 0, 17, 17, 128, 128, 131, 131, 135, 135, 143, 143, 145, 145]
    else if k = 14 then some [0, 0, 4, 4, 128, 131, 135, 135, 137, 137, 139, 139, 141, 144, 147, 162]
    else if k = 15 then some [0, 0, 24, 25] else none)
  else none
theorem ref_optI (o : Option (List Int)) : refsOf (optI o) = [] := by cases o <;> rfl
theorem f44 (v k : Int) : Fun Try.prog L 44 [.i .i64 v, .i .i64 k] [] (optI (spansL v k)) [] := by
  refine fun_of_wp Try.func44 ok44 (by kernel_rfl) (show 2 ≤ s44.n by decide) (by decide) ?_
  simp only [argEnv, Nat.reduceAdd]
  by_cases v4 : v = 4
  · subst v4
    rcases kinds k with h | ⟨h2, h4, h5, h6, h7, h9, h11, h14, h15⟩
    · rcases h with rfl | rfl | rfl | rfl | rfl | rfl | rfl | rfl | rfl
      all_goals
        repeat with_reducible first | refine o_op ?_ | refine q_nil ?_ | refine q_then ?_ | refine q_seq ?_ | refine q_reg ?_ | refine n_drop ?_ | refine n_condT ?_ | refine n_condF ?_ | refine o_yes ?_ | refine o_no ?_ | refine o_nu ?_ | refine q_skip ?_ | refine q_ret ?_ | refine q_exit ?_ | refine q_block ?_ | refine q_thenR ?_ | refine q_thenE ?_ | refine q_blkN ?_ | refine q_blkR ?_ | refine q_blkE ?_ | refine q_blkX (by decide) ?_ | refine o_st ?_
        try (refine o_op ?_ (h2 := by rfl); repeat with_reducible first | refine o_op ?_ | refine q_nil ?_ | refine q_then ?_ | refine q_seq ?_ | refine q_reg ?_ | refine n_drop ?_ | refine n_condT ?_ | refine n_condF ?_ | refine o_yes ?_ | refine o_no ?_ | refine o_nu ?_ | refine q_skip ?_ | refine q_ret ?_ | refine q_exit ?_ | refine q_block ?_ | refine q_thenR ?_ | refine q_thenE ?_ | refine q_blkN ?_ | refine q_blkR ?_ | refine q_blkE ?_ | refine q_blkX (by decide) ?_ | refine o_st ?_)
        exact n_end ⟨rfl, rfl⟩
    · repeat with_reducible first | refine o_op ?_ (h2 := by simp only [ev_all, reduceIte, Bool.false_eq_true, Int.reduceEq, Int.reduceLT, Int.reduceLE, decide_true, decide_false, Bool.not_true, Bool.not_false, gt_iff_lt, ge_iff_le, h2, h4, h5, h6, h7, h9, h11, h14, h15] <;> rfl) | refine o_op ?_ | refine q_nil ?_ | refine q_then ?_ | refine q_seq ?_ | refine q_reg ?_ | refine n_drop ?_ | refine n_condT ?_ | refine n_condF ?_ | refine o_yes ?_ | refine o_no ?_ | refine o_nu ?_ | refine q_skip ?_ | refine q_ret ?_ | refine q_exit ?_ | refine q_block ?_ | refine q_thenR ?_ | refine q_thenE ?_ | refine q_blkN ?_ | refine q_blkR ?_ | refine q_blkE ?_ | refine q_blkX (by decide) ?_ | refine o_st ?_
      refine n_end ⟨?_, rfl⟩
      simp only [spansL, h2, h4, h5, h6, h7, h9, h11, h14, h15, if_false, if_true, or_self, optI]
  by_cases v5 : v = 5
  · subst v5
    rcases kinds k with h | ⟨h2, h4, h5, h6, h7, h9, h11, h14, h15⟩
    · rcases h with rfl | rfl | rfl | rfl | rfl | rfl | rfl | rfl | rfl
      all_goals
        repeat with_reducible first | refine o_op ?_ | refine q_nil ?_ | refine q_then ?_ | refine q_seq ?_ | refine q_reg ?_ | refine n_drop ?_ | refine n_condT ?_ | refine n_condF ?_ | refine o_yes ?_ | refine o_no ?_ | refine o_nu ?_ | refine q_skip ?_ | refine q_ret ?_ | refine q_exit ?_ | refine q_block ?_ | refine q_thenR ?_ | refine q_thenE ?_ | refine q_blkN ?_ | refine q_blkR ?_ | refine q_blkE ?_ | refine q_blkX (by decide) ?_ | refine o_st ?_
        try (refine o_op ?_ (h2 := by rfl); repeat with_reducible first | refine o_op ?_ | refine q_nil ?_ | refine q_then ?_ | refine q_seq ?_ | refine q_reg ?_ | refine n_drop ?_ | refine n_condT ?_ | refine n_condF ?_ | refine o_yes ?_ | refine o_no ?_ | refine o_nu ?_ | refine q_skip ?_ | refine q_ret ?_ | refine q_exit ?_ | refine q_block ?_ | refine q_thenR ?_ | refine q_thenE ?_ | refine q_blkN ?_ | refine q_blkR ?_ | refine q_blkE ?_ | refine q_blkX (by decide) ?_ | refine o_st ?_)
        exact n_end ⟨rfl, rfl⟩
    · repeat with_reducible first | refine o_op ?_ (h2 := by simp only [ev_all, reduceIte, Bool.false_eq_true, Int.reduceEq, Int.reduceLT, Int.reduceLE, decide_true, decide_false, Bool.not_true, Bool.not_false, gt_iff_lt, ge_iff_le, h2, h4, h5, h6, h7, h9, h11, h14, h15] <;> rfl) | refine o_op ?_ | refine q_nil ?_ | refine q_then ?_ | refine q_seq ?_ | refine q_reg ?_ | refine n_drop ?_ | refine n_condT ?_ | refine n_condF ?_ | refine o_yes ?_ | refine o_no ?_ | refine o_nu ?_ | refine q_skip ?_ | refine q_ret ?_ | refine q_exit ?_ | refine q_block ?_ | refine q_thenR ?_ | refine q_thenE ?_ | refine q_blkN ?_ | refine q_blkR ?_ | refine q_blkE ?_ | refine q_blkX (by decide) ?_ | refine o_st ?_
      refine n_end ⟨?_, rfl⟩
      simp only [spansL, h2, h4, h5, h6, h7, h9, h11, h14, h15, if_false, if_true, or_self, optI, v4]
  · repeat with_reducible first | refine o_op ?_ (h2 := by simp only [ev_all, reduceIte, Bool.false_eq_true, Int.reduceEq, Int.reduceLT, Int.reduceLE, decide_true, decide_false, Bool.not_true, Bool.not_false, gt_iff_lt, ge_iff_le, v4, v5] <;> rfl) | refine o_op ?_ | refine q_nil ?_ | refine q_then ?_ | refine q_seq ?_ | refine q_reg ?_ | refine n_drop ?_ | refine n_condT ?_ | refine n_condF ?_ | refine o_yes ?_ | refine o_no ?_ | refine o_nu ?_ | refine q_skip ?_ | refine q_ret ?_ | refine q_exit ?_ | refine q_block ?_ | refine q_thenR ?_ | refine q_thenE ?_ | refine q_blkN ?_ | refine q_blkR ?_ | refine q_blkE ?_ | refine q_blkX (by decide) ?_ | refine o_st ?_
    refine n_end ⟨?_, rfl⟩
    simp only [spansL, v4, v5, if_false, optI]
end Go.Rv

namespace Go.Rv
open Go.Proofs
variable {L : World → Prop}
def inSp (c : Int) : List Int → Bool
  | a :: b :: l => (decide (a ≤ c) && decide (c ≤ b)) || inSp c l
  | _ => false
def optIS : Option (List Int) → AV
  | some l => .pv (.sl 1 (l.map intRow))
  | none => .nilS
def optIL : Option (List Int) → List Int
  | some l => l
  | none => []
theorem strip_optI (o : Option (List Int)) : strip (optI o) = optIS o := by cases o <;> rfl
theorem ev_lenI {o : Option (List Int)} {h : Heap} : POp.ev .len [optIS o] h = some (.i .i64 ((optIL o).length : Int), h) := by cases o <;> simp [optIS, optIL, POp.ev, lenOf, AV.nilS, AV.i]
theorem ev_iaI {o : Option (List Int)} {h : Heap} {i : Nat} (hi : i < (optIL o).length) : POp.ev (.ia 1) [optIS o, .i .i64 (i : Int)] h = some (.eref (intRow (optIL o)[i]) 0, h) := by
  cases o with
  | none => simp [optIL] at hi
  | some l => simp only [optIL] at hi ⊢; simp only [optIS]; rw [ev_ia (r := intRow l[i]) (by simp [hi])]
theorem strip_optIS (o : Option (List Int)) : strip (optIS o) = optIS o := by cases o <;> rfl
theorem ev_ldI {n : Int} {h : Heap} : POp.ev (.load none) [.eref (intRow n) 0] h = some (.i .i64 n, h) := rfl
theorem len_sp (v k : Int) : (optIL (spansL v k)).length ≤ 100 := by
  unfold spansL
  repeat' split
  all_goals simp [optIL]
theorem f12 (v k : Int) (c : UInt8) : Fun Try.prog L 12 [.i .i64 v, .i .i64 k, .i .u8 c.toNat] [] (.b (inSp c.toNat (optIL (spansL v k)))) [] := by
  refine fun_of_wp Try.func12 ok12 (by kernel_rfl) (show 3 ≤ s12.n by decide) (by decide) ?_
  simp only [argEnv, Nat.reduceAdd]
  repeat with_reducible first | refine o_op ?_ | refine q_nil ?_ | refine q_then ?_ | refine q_seq ?_ | refine q_reg ?_ | refine n_drop ?_ | refine n_condT ?_ | refine n_condF ?_ | refine o_yes ?_ | refine o_no ?_ | refine o_nu ?_ | refine q_skip ?_ | refine q_ret ?_ | refine q_exit ?_ | refine q_block ?_ | refine q_thenR ?_ | refine q_thenE ?_ | refine q_blkN ?_ | refine q_blkR ?_ | refine q_blkE ?_ | refine q_blkX (by decide) ?_ | refine o_st ?_
  refine o_call (f44 v k) ?_ (hr2 := ref_optI _)
  repeat with_reducible first | refine o_op ?_ | refine q_nil ?_ | refine q_then ?_ | refine q_seq ?_ | refine q_reg ?_ | refine n_drop ?_ | refine n_condT ?_ | refine n_condF ?_ | refine o_yes ?_ | refine o_no ?_ | refine o_nu ?_ | refine q_skip ?_ | refine q_ret ?_ | refine q_exit ?_ | refine q_block ?_ | refine q_thenR ?_ | refine q_thenE ?_ | refine q_blkN ?_ | refine q_blkR ?_ | refine q_blkE ?_ | refine q_blkX (by decide) ?_ | refine o_st ?_
  have hlen := len_sp v k
  generalize spansL v k = o at hlen ⊢
  refine wpS_loop (X := Nat) (fun i => ⟨[(2, .i .u8 c.toNat), (7, optI o), (8, .i .i64 (i : Int))], []⟩) (fun i => i ≤ (optIL o).length + 1 ∧ inSp c.toNat (optIL o) = inSp c.toNat ((optIL o).drop i)) (fun i => (optIL o).length + 1 - i) 0 rfl (by simp) ?_
  rintro i ⟨h1, h2⟩
  have w1 : IntKind.i64.wrap ((i : Int) + 1) = ((i + 1 : Nat) : Int) := by rw [wrap_i64 (by omega) (by omega)]; rfl
  have w2 : IntKind.i64.wrap ((i : Int) + 2) = ((i + 2 : Nat) : Int) := by rw [wrap_i64 (by omega) (by omega)]; rfl
  have w3 : IntKind.i64.wrap ((c.toNat : Int)) = c.toNat := wrap_i64 (by omega) (by have := c.toNat_lt; omega)
  repeat with_reducible first | refine o_op ?_ (h2 := by simp only [ev_all, reduceIte, Bool.false_eq_true, Int.reduceEq, Int.reduceLT, Int.reduceLE, decide_true, decide_false, Bool.not_true, Bool.not_false, gt_iff_lt, ge_iff_le, w1, w2, ev_lenI] <;> rfl) (h1 := by simp only [rd_all, reduceIte, Nat.reduceEqDiff, strip_optI, strip_optIS] <;> rfl) | refine o_op ?_ | refine q_nil ?_ | refine q_then ?_ | refine q_seq ?_ | refine q_reg ?_ | refine n_drop ?_ | refine n_condT ?_ | refine n_condF ?_ | refine o_yes ?_ | refine o_no ?_ | refine o_nu ?_ | refine q_skip ?_ | refine q_ret ?_ | refine q_exit ?_ | refine q_block ?_ | refine q_thenR ?_ | refine q_thenE ?_ | refine q_blkN ?_ | refine q_blkR ?_ | refine q_blkE ?_ | refine q_blkX (by decide) ?_ | refine o_st ?_
  refine n_cond (fun hc => ?_) (fun hc => ?_)
  · have hlt : i + 1 < (optIL o).length := by have := of_decide_eq_true hc; omega
    have hd : (optIL o).drop i = (optIL o)[i] :: (optIL o)[i + 1] :: (optIL o).drop (i + 2) := by
      rw [List.drop_eq_getElem_cons (by omega), List.drop_eq_getElem_cons (i := i + 1) (by omega)]
    rw [hd] at h2
    simp only [inSp] at h2
    repeat with_reducible first | refine o_op ?_ (h2 := by simp only [ev_all, reduceIte, Bool.false_eq_true, Int.reduceEq, Int.reduceLT, Int.reduceLE, decide_true, decide_false, Bool.not_true, Bool.not_false, gt_iff_lt, ge_iff_le, w1, w2, w3, ev_lenI, ev_iaI (show i < (optIL o).length by omega), ev_iaI hlt, ev_ldI] <;> rfl) (h1 := by simp only [rd_all, reduceIte, Nat.reduceEqDiff, strip_optI, strip_optIS] <;> rfl) | refine o_op ?_ | refine q_nil ?_ | refine q_then ?_ | refine q_seq ?_ | refine q_reg ?_ | refine n_drop ?_ | refine n_condT ?_ | refine n_condF ?_ | refine o_yes ?_ | refine o_no ?_ | refine o_nu ?_ | refine q_skip ?_ | refine q_ret ?_ | refine q_exit ?_ | refine q_block ?_ | refine q_thenR ?_ | refine q_thenE ?_ | refine q_blkN ?_ | refine q_blkR ?_ | refine q_blkE ?_ | refine q_blkX (by decide) ?_ | refine o_st ?_
    refine o_case (fun hb => ?_) (fun hb => ?_)
    all_goals
      repeat with_reducible first | refine o_op ?_ (h2 := by simp only [ev_all, reduceIte, Bool.false_eq_true, Int.reduceEq, Int.reduceLT, Int.reduceLE, decide_true, decide_false, Bool.not_true, Bool.not_false, gt_iff_lt, ge_iff_le, w1, w2, w3, ev_lenI, ev_iaI (show i < (optIL o).length by omega), ev_iaI hlt, ev_ldI] <;> rfl) (h1 := by simp only [rd_all, reduceIte, Nat.reduceEqDiff, strip_optI, strip_optIS] <;> rfl) | refine o_op ?_ | refine q_nil ?_ | refine q_then ?_ | refine q_seq ?_ | refine q_reg ?_ | refine n_drop ?_ | refine n_condT ?_ | refine n_condF ?_ | refine o_yes ?_ | refine o_no ?_ | refine o_nu ?_ | refine q_skip ?_ | refine q_ret ?_ | refine q_exit ?_ | refine q_block ?_ | refine q_thenR ?_ | refine q_thenE ?_ | refine q_blkN ?_ | refine q_blkR ?_ | refine q_blkE ?_ | refine q_blkX (by decide) ?_ | refine o_st ?_
      try refine n_cond (fun hb2 => ?_) (fun hb2 => ?_)
    all_goals
      repeat with_reducible first | refine o_op ?_ (h2 := by simp only [ev_all, reduceIte, Bool.false_eq_true, Int.reduceEq, Int.reduceLT, Int.reduceLE, decide_true, decide_false, Bool.not_true, Bool.not_false, gt_iff_lt, ge_iff_le, w1, w2, w3] <;> rfl) | refine o_op ?_ | refine q_nil ?_ | refine q_then ?_ | refine q_seq ?_ | refine q_reg ?_ | refine n_drop ?_ | refine n_condT ?_ | refine n_condF ?_ | refine o_yes ?_ | refine o_no ?_ | refine o_nu ?_ | refine q_skip ?_ | refine q_ret ?_ | refine q_exit ?_ | refine q_block ?_ | refine q_thenR ?_ | refine q_thenE ?_ | refine q_blkN ?_ | refine q_blkR ?_ | refine q_blkE ?_ | refine q_blkX (by decide) ?_ | refine o_st ?_
      first
        | (refine n_end ⟨?_, rfl⟩
           have a1 := of_decide_eq_true hb
           have a2 := of_decide_eq_true hb2
           rw [h2, decide_eq_true a1, decide_eq_true a2]
           rfl)
        | (refine ⟨i + 2, rfl, ⟨by omega, ?_⟩, by omega⟩
           have e : (decide ((optIL o)[i] ≤ (c.toNat : Int)) && decide ((c.toNat : Int) ≤ (optIL o)[i + 1])) = false := by
             first
               | (have a2 := of_decide_eq_false hb2
                  rw [decide_eq_false a2, Bool.and_false])
               | (have a1 := of_decide_eq_false hb
                  rw [decide_eq_false a1, Bool.false_and])
           rw [h2, e]
           rfl)
  · have hge : (optIL o).length ≤ i + 1 := by have := of_decide_eq_false hc; omega
    repeat with_reducible first | refine o_op ?_ | refine q_nil ?_ | refine q_then ?_ | refine q_seq ?_ | refine q_reg ?_ | refine n_drop ?_ | refine n_condT ?_ | refine n_condF ?_ | refine o_yes ?_ | refine o_no ?_ | refine o_nu ?_ | refine q_skip ?_ | refine q_ret ?_ | refine q_exit ?_ | refine q_block ?_ | refine q_thenR ?_ | refine q_thenE ?_ | refine q_blkN ?_ | refine q_blkR ?_ | refine q_blkE ?_ | refine q_blkX (by decide) ?_ | refine o_st ?_
    refine n_end ⟨?_, rfl⟩
    rw [h2]
    have : ∀ l : List Int, l.length ≤ 1 → inSp c.toNat l = false := by
      intro l hl
      match l, hl with
      | [], _ => rfl
      | [_], _ => rfl
    rw [this _ (by simp; omega)]
theorem f14 (v k : Int) (c : UInt8) : Fun Try.prog L 14 [.i .i64 v, .i .i64 k, .i .u8 c.toNat] [] (.b (failedB v k c (inSp c.toNat (optIL (spansL v k))))) [] := by
  refine fun_of_wp Try.func14 ok14 (by kernel_rfl) (show 3 ≤ s14.n by decide) (by decide) ?_
  simp only [argEnv, Nat.reduceAdd]
  repeat with_reducible first | refine o_op ?_ | refine q_nil ?_ | refine q_then ?_ | refine q_seq ?_ | refine q_reg ?_ | refine n_drop ?_ | refine n_condT ?_ | refine n_condF ?_ | refine o_yes ?_ | refine o_no ?_ | refine o_nu ?_ | refine q_skip ?_ | refine q_ret ?_ | refine q_exit ?_ | refine q_block ?_ | refine q_thenR ?_ | refine q_thenE ?_ | refine q_blkN ?_ | refine q_blkR ?_ | refine q_blkE ?_ | refine q_blkX (by decide) ?_ | refine o_st ?_
  refine o_call (f12 v k c) ?_
  ((repeat with_reducible first | refine o_op ?_ | refine q_nil ?_ | refine q_then ?_ | refine q_seq ?_ | refine q_reg ?_ | refine n_drop ?_ | refine n_condT ?_ | refine n_condF ?_ | refine o_yes ?_ | refine o_no ?_ | refine o_nu ?_ | refine q_skip ?_ | refine q_ret ?_ | refine q_exit ?_ | refine q_block ?_ | refine q_thenR ?_ | refine q_thenE ?_ | refine q_blkN ?_ | refine q_blkR ?_ | refine q_blkE ?_ | refine q_blkX (by decide) ?_ | refine o_st ?_); try (refine o_case (fun hb => ?_) (fun hb => ?_) <;> ((repeat with_reducible first | refine o_op ?_ | refine q_nil ?_ | refine q_then ?_ | refine q_seq ?_ | refine q_reg ?_ | refine n_drop ?_ | refine n_condT ?_ | refine n_condF ?_ | refine o_yes ?_ | refine o_no ?_ | refine o_nu ?_ | refine q_skip ?_ | refine q_ret ?_ | refine q_exit ?_ | refine q_block ?_ | refine q_thenR ?_ | refine q_thenE ?_ | refine q_blkN ?_ | refine q_blkR ?_ | refine q_blkE ?_ | refine q_blkX (by decide) ?_ | refine o_st ?_); try (refine o_case (fun hb => ?_) (fun hb => ?_) <;> ((repeat with_reducible first | refine o_op ?_ | refine q_nil ?_ | refine q_then ?_ | refine q_seq ?_ | refine q_reg ?_ | refine n_drop ?_ | refine n_condT ?_ | refine n_condF ?_ | refine o_yes ?_ | refine o_no ?_ | refine o_nu ?_ | refine q_skip ?_ | refine q_ret ?_ | refine q_exit ?_ | refine q_block ?_ | refine q_thenR ?_ | refine q_thenE ?_ | refine q_blkN ?_ | refine q_blkR ?_ | refine q_blkE ?_ | refine q_blkX (by decide) ?_ | refine o_st ?_); try (refine o_case (fun hb => ?_) (fun hb => ?_) <;> ((repeat with_reducible first | refine o_op ?_ | refine q_nil ?_ | refine q_then ?_ | refine q_seq ?_ | refine q_reg ?_ | refine n_drop ?_ | refine n_condT ?_ | refine n_condF ?_ | refine o_yes ?_ | refine o_no ?_ | refine o_nu ?_ | refine q_skip ?_ | refine q_ret ?_ | refine q_exit ?_ | refine q_block ?_ | refine q_thenR ?_ | refine q_thenE ?_ | refine q_blkN ?_ | refine q_blkR ?_ | refine q_blkE ?_ | refine q_blkX (by decide) ?_ | refine o_st ?_); try (refine o_case (fun hb => ?_) (fun hb => ?_) <;> (repeat with_reducible first | refine o_op ?_ | refine q_nil ?_ | refine q_then ?_ | refine q_seq ?_ | refine q_reg ?_ | refine n_drop ?_ | refine n_condT ?_ | refine n_condF ?_ | refine o_yes ?_ | refine o_no ?_ | refine o_nu ?_ | refine q_skip ?_ | refine q_ret ?_ | refine q_exit ?_ | refine q_block ?_ | refine q_thenR ?_ | refine q_thenE ?_ | refine q_blkN ?_ | refine q_blkR ?_ | refine q_blkE ?_ | refine q_blkX (by decide) ?_ | refine o_st ?_)))))))))
  all_goals
    refine n_end ⟨?_, rfl⟩
    simp_all [failedB]
  all_goals
    have : ¬ 128 ≤ (c.toNat : Int) := by omega
    simp [this]
theorem same (v k : Int) (c : UInt8) : (optL (allL v k)).contains c = inSp c.toNat (optIL (spansL v k)) := by
  have key : ∀ (l : List UInt8) (m : List Int), ((List.range 256).all fun n => l.contains (UInt8.ofNat n) == inSp (n : Int) m) = true → l.contains c = inSp c.toNat m := by
    intro l m h
    have := List.all_eq_true.1 h c.toNat (List.mem_range.2 c.toNat_lt)
    simpa using this
  apply key
  unfold allL spansL fourthL fifthL
  by_cases v4 : v = 4
  · subst v4
    rcases kinds k with h | ⟨h2, h4, h5, h6, h7, h9, h11, h14, h15⟩
    · rcases h with rfl | rfl | rfl | rfl | rfl | rfl | rfl | rfl | rfl
      all_goals decide +kernel
    · simp only [h2, h4, h5, h6, h7, h9, h11, h14, h15, if_false, if_true, or_self, optL, optIL]
      decide +kernel
  by_cases v5 : v = 5
  · subst v5
    rcases kinds k with h | ⟨h2, h4, h5, h6, h7, h9, h11, h14, h15⟩
    · rcases h with rfl | rfl | rfl | rfl | rfl | rfl | rfl | rfl | rfl
      all_goals decide +kernel
    · simp only [h2, h4, h5, h6, h7, h9, h11, h14, h15, if_false, if_true, or_self, optL, optIL, v4]
      decide +kernel
  · simp only [v4, v5, if_false, optL, optIL]
    decide +kernel
end Go.Rv

namespace Go.Rv
open Go.Proofs
variable {L : World → Prop}
theorem f10 : Fun Try.prog L 10 [] [] (.b true) [] := by
  refine fun_of_wp Try.func10 ok10 (by kernel_rfl) (show 0 ≤ s10.n by decide) (by decide) ?_
  simp only [argEnv, Nat.reduceAdd]
  repeat with_reducible first | refine o_op ?_ | refine q_nil ?_ | refine q_then ?_ | refine q_seq ?_ | refine q_reg ?_ | refine n_drop ?_ | refine n_condT ?_ | refine n_condF ?_ | refine o_yes ?_ | refine o_no ?_ | refine o_nu ?_ | refine q_skip ?_ | refine q_ret ?_ | refine q_exit ?_ | refine q_block ?_ | refine q_thenR ?_ | refine q_thenE ?_ | refine q_blkN ?_ | refine q_blkR ?_ | refine q_blkE ?_ | refine q_blkX (by decide) ?_ | refine o_st ?_
  refine o_call (r := .b true) (f11 5 4 16) ?_
  repeat with_reducible first | refine o_op ?_ | refine q_nil ?_ | refine q_then ?_ | refine q_seq ?_ | refine q_reg ?_ | refine n_drop ?_ | refine n_condT ?_ | refine n_condF ?_ | refine o_yes ?_ | refine o_no ?_ | refine o_nu ?_ | refine q_skip ?_ | refine q_ret ?_ | refine q_exit ?_ | refine q_block ?_ | refine q_thenR ?_ | refine q_thenE ?_ | refine q_blkN ?_ | refine q_blkR ?_ | refine q_blkE ?_ | refine q_blkX (by decide) ?_ | refine o_st ?_
  refine o_call (r := .b false) (f11 4 4 16) ?_
  repeat with_reducible first | refine o_op ?_ | refine q_nil ?_ | refine q_then ?_ | refine q_seq ?_ | refine q_reg ?_ | refine n_drop ?_ | refine n_condT ?_ | refine n_condF ?_ | refine o_yes ?_ | refine o_no ?_ | refine o_nu ?_ | refine q_skip ?_ | refine q_ret ?_ | refine q_exit ?_ | refine q_block ?_ | refine q_thenR ?_ | refine q_thenE ?_ | refine q_blkN ?_ | refine q_blkR ?_ | refine q_blkE ?_ | refine q_blkX (by decide) ?_ | refine o_st ?_
  refine o_call (r := .b true) (f13 4 2 5) ?_
  repeat with_reducible first | refine o_op ?_ | refine q_nil ?_ | refine q_then ?_ | refine q_seq ?_ | refine q_reg ?_ | refine n_drop ?_ | refine n_condT ?_ | refine n_condF ?_ | refine o_yes ?_ | refine o_no ?_ | refine o_nu ?_ | refine q_skip ?_ | refine q_ret ?_ | refine q_exit ?_ | refine q_block ?_ | refine q_thenR ?_ | refine q_thenE ?_ | refine q_blkN ?_ | refine q_blkR ?_ | refine q_blkE ?_ | refine q_blkX (by decide) ?_ | refine o_st ?_
  refine o_call (r := .b false) (f13 5 4 16) ?_
  repeat with_reducible first | refine o_op ?_ | refine q_nil ?_ | refine q_then ?_ | refine q_seq ?_ | refine q_reg ?_ | refine n_drop ?_ | refine n_condT ?_ | refine n_condF ?_ | refine o_yes ?_ | refine o_no ?_ | refine o_nu ?_ | refine q_skip ?_ | refine q_ret ?_ | refine q_exit ?_ | refine q_block ?_ | refine q_thenR ?_ | refine q_thenE ?_ | refine q_blkN ?_ | refine q_blkR ?_ | refine q_blkE ?_ | refine q_blkX (by decide) ?_ | refine o_st ?_
  refine o_call (r := .b true) (f13 5 4 151) ?_
  repeat with_reducible first | refine o_op ?_ | refine q_nil ?_ | refine q_then ?_ | refine q_seq ?_ | refine q_reg ?_ | refine n_drop ?_ | refine n_condT ?_ | refine n_condF ?_ | refine o_yes ?_ | refine o_no ?_ | refine o_nu ?_ | refine q_skip ?_ | refine q_ret ?_ | refine q_exit ?_ | refine q_block ?_ | refine q_thenR ?_ | refine q_thenE ?_ | refine q_blkN ?_ | refine q_blkR ?_ | refine q_blkE ?_ | refine q_blkX (by decide) ?_ | refine o_st ?_
  refine o_call (r := bytesA [0, 24, 25]) (f15 5 15) ?_
  repeat with_reducible first | refine o_op ?_ | refine q_nil ?_ | refine q_then ?_ | refine q_seq ?_ | refine q_reg ?_ | refine n_drop ?_ | refine n_condT ?_ | refine n_condF ?_ | refine o_yes ?_ | refine o_no ?_ | refine o_nu ?_ | refine q_skip ?_ | refine q_ret ?_ | refine q_exit ?_ | refine q_block ?_ | refine q_thenR ?_ | refine q_thenE ?_ | refine q_blkN ?_ | refine q_blkR ?_ | refine q_blkE ?_ | refine q_blkX (by decide) ?_ | refine o_st ?_
  refine o_op (r := .i .i64 3) ?_ (h2 := by rfl)
  repeat with_reducible first | refine o_op ?_ | refine q_nil ?_ | refine q_then ?_ | refine q_seq ?_ | refine q_reg ?_ | refine n_drop ?_ | refine n_condT ?_ | refine n_condF ?_ | refine o_yes ?_ | refine o_no ?_ | refine o_nu ?_ | refine q_skip ?_ | refine q_ret ?_ | refine q_exit ?_ | refine q_block ?_ | refine q_thenR ?_ | refine q_thenE ?_ | refine q_blkN ?_ | refine q_blkR ?_ | refine q_blkE ?_ | refine q_blkX (by decide) ?_ | refine o_st ?_
  exact n_end ⟨rfl, rfl⟩
theorem f3 (v k : Int) (c : UInt8) : Fun Try.prog L 3 [.i .i64 v, .i .i64 k, .i .u8 c.toNat] [] (.b true) [] := by
  refine fun_of_wp Try.func3 ok3 (by kernel_rfl) (show 3 ≤ s3.n by decide) (by decide) ?_
  simp only [argEnv, Nat.reduceAdd]
  repeat with_reducible first | refine o_op ?_ | refine q_nil ?_ | refine q_then ?_ | refine q_seq ?_ | refine q_reg ?_ | refine n_drop ?_ | refine n_condT ?_ | refine n_condF ?_ | refine o_yes ?_ | refine o_no ?_ | refine o_nu ?_ | refine q_skip ?_ | refine q_ret ?_ | refine q_exit ?_ | refine q_block ?_ | refine q_thenR ?_ | refine q_thenE ?_ | refine q_blkN ?_ | refine q_blkR ?_ | refine q_blkE ?_ | refine q_blkX (by decide) ?_ | refine o_st ?_
  refine o_call f10 ?_
  repeat with_reducible first | refine o_op ?_ | refine q_nil ?_ | refine q_then ?_ | refine q_seq ?_ | refine q_reg ?_ | refine n_drop ?_ | refine n_condT ?_ | refine n_condF ?_ | refine o_yes ?_ | refine o_no ?_ | refine o_nu ?_ | refine q_skip ?_ | refine q_ret ?_ | refine q_exit ?_ | refine q_block ?_ | refine q_thenR ?_ | refine q_thenE ?_ | refine q_blkN ?_ | refine q_blkR ?_ | refine q_blkE ?_ | refine q_blkX (by decide) ?_ | refine o_st ?_
  refine o_call (f11 v k c) ?_
  repeat with_reducible first | refine o_op ?_ | refine q_nil ?_ | refine q_then ?_ | refine q_seq ?_ | refine q_reg ?_ | refine n_drop ?_ | refine n_condT ?_ | refine n_condF ?_ | refine o_yes ?_ | refine o_no ?_ | refine o_nu ?_ | refine q_skip ?_ | refine q_ret ?_ | refine q_exit ?_ | refine q_block ?_ | refine q_thenR ?_ | refine q_thenE ?_ | refine q_blkN ?_ | refine q_blkR ?_ | refine q_blkE ?_ | refine q_blkX (by decide) ?_ | refine o_st ?_
  refine o_call (f12 v k c) ?_
  repeat with_reducible first | refine o_op ?_ (h2 := by simp only [ev_all, reduceIte, Bool.false_eq_true, Int.reduceEq, Int.reduceLT, Int.reduceLE, decide_true, decide_false, Bool.not_true, Bool.not_false, gt_iff_lt, ge_iff_le, same, beq_self_eq_true] <;> rfl) | refine o_op ?_ | refine q_nil ?_ | refine q_then ?_ | refine q_seq ?_ | refine q_reg ?_ | refine n_drop ?_ | refine n_condT ?_ | refine n_condF ?_ | refine o_yes ?_ | refine o_no ?_ | refine o_nu ?_ | refine q_skip ?_ | refine q_ret ?_ | refine q_exit ?_ | refine q_block ?_ | refine q_thenR ?_ | refine q_thenE ?_ | refine q_blkN ?_ | refine q_blkR ?_ | refine q_blkE ?_ | refine q_blkX (by decide) ?_ | refine o_st ?_
  refine o_call (f13 v k c) ?_
  repeat with_reducible first | refine o_op ?_ | refine q_nil ?_ | refine q_then ?_ | refine q_seq ?_ | refine q_reg ?_ | refine n_drop ?_ | refine n_condT ?_ | refine n_condF ?_ | refine o_yes ?_ | refine o_no ?_ | refine o_nu ?_ | refine q_skip ?_ | refine q_ret ?_ | refine q_exit ?_ | refine q_block ?_ | refine q_thenR ?_ | refine q_thenE ?_ | refine q_blkN ?_ | refine q_blkR ?_ | refine q_blkE ?_ | refine q_blkX (by decide) ?_ | refine o_st ?_
  refine o_call (f14 v k c) ?_
  repeat with_reducible first | refine o_op ?_ (h2 := by simp only [ev_all, reduceIte, Bool.false_eq_true, Int.reduceEq, Int.reduceLT, Int.reduceLE, decide_true, decide_false, Bool.not_true, Bool.not_false, gt_iff_lt, ge_iff_le, same, beq_self_eq_true] <;> rfl) | refine o_op ?_ | refine q_nil ?_ | refine q_then ?_ | refine q_seq ?_ | refine q_reg ?_ | refine n_drop ?_ | refine n_condT ?_ | refine n_condF ?_ | refine o_yes ?_ | refine o_no ?_ | refine o_nu ?_ | refine q_skip ?_ | refine q_ret ?_ | refine q_exit ?_ | refine q_block ?_ | refine q_thenR ?_ | refine q_thenE ?_ | refine q_blkN ?_ | refine q_blkR ?_ | refine q_blkE ?_ | refine q_blkX (by decide) ?_ | refine o_st ?_
  exact n_end ⟨rfl, rfl⟩
end Go.Rv

namespace Go.Rv
open Go.Proofs
variable {L : World → Prop}
def outA : List UInt8 → AV
  | [] => .nilS
  | b :: l => bytesA (b :: l)
theorem ref_out (l : List UInt8) : refsOf (outA l) = [] := by cases l <;> rfl
def sel (sp : List Int) (c : Nat) : List UInt8 := ((List.range c).filter fun (n : Nat) => inSp (n : Int) sp).map UInt8.ofNat
theorem sel_len (sp : List Int) (c : Nat) : (sel sp c).length ≤ c := by
  simp only [sel, List.length_map]
  exact Nat.le_trans (List.length_filter_le _ _) (by simp)
theorem f12n (v k : Int) (n : Nat) (h : n < 256) : Fun Try.prog L 12 [.i .i64 v, .i .i64 k, .i .u8 (n : Int)] [] (.b (inSp (n : Int) (optIL (spansL v k)))) [] := by
  have := f12 (L := L) v k (UInt8.ofNat n)
  have e : (UInt8.ofNat n).toNat = n := by simp; omega
  rwa [e] at this
theorem wrap_u8n {n : Nat} (h : n < 256) : IntKind.u8.wrap (n : Int) = n := by rw [IntKind.wrap_u8]; omega
theorem ev_app1 {l : List UInt8} {n : Nat} {h : Heap} (hl : l.length ≤ 256) (hn : n < 256) : POp.ev (.app 1 1) [outA l, .own 1 [[.lit (.int .u8 (n : Int))]]] h = some (outA (l ++ [UInt8.ofNat n]), h) := by
  have e : ((UInt8.ofNat n).toNat : Int) = n := by simp; omega
  cases l with
  | nil =>
    have e2 : (n : Int) = (n : Int) % 256 := by omega
    simp [POp.ev, rowsOf, outA, appR, AV.nilS, bytesA, bytesRows, byteRow, room]
    exact e2
  | cons b l =>
    simp at hl
    have h1 : (l.length + 1 + 1) * 1 ≤ room := by simp [room]; omega
    have e2 : (n : Int) = (n : Int) % 256 := by omega
    simp [POp.ev, rowsOf, outA, appR, bytesA, bytesRows, byteRow]
    exact ⟨by simp [room]; omega, e2⟩
theorem ev_bs1 {n : Int} {h : Heap} : POp.ev (.bslice 1 1 [.lit (.int .u8 0)] [0]) [.i .u8 n] h = some (.own 1 [[.lit (.int .u8 n)]], h) := rfl
theorem f16 (v k : Int) : Fun Try.prog L 16 [.i .i64 v, .i .i64 k] [] (outA (sel (optIL (spansL v k)) 256)) [] := by
  refine fun_of_wp Try.func16 ok16 (by kernel_rfl) (show 2 ≤ s16.n by decide) (by decide) ?_
  simp only [argEnv, Nat.reduceAdd]
  repeat with_reducible first | refine o_op ?_ | refine q_nil ?_ | refine q_then ?_ | refine q_seq ?_ | refine q_reg ?_ | refine n_drop ?_ | refine n_condT ?_ | refine n_condF ?_ | refine o_yes ?_ | refine o_no ?_ | refine o_nu ?_ | refine q_skip ?_ | refine q_ret ?_ | refine q_exit ?_ | refine q_block ?_ | refine q_thenR ?_ | refine q_thenE ?_ | refine q_blkN ?_ | refine q_blkR ?_ | refine q_blkE ?_ | refine q_blkX (by decide) ?_ | refine o_st ?_
  refine wpS_loop (X := Nat) (fun c => ⟨[(0, .i .i64 v), (1, .i .i64 k), (5, outA (sel (optIL (spansL v k)) c)), (6, .i .i64 (c : Int))], []⟩) (fun c => c ≤ 256) (fun c => 256 - c) 0 rfl (by simp) ?_
  intro c hc
  have hlen := sel_len (optIL (spansL v k)) c
  have w1 : IntKind.i64.wrap ((c : Int) + 1) = ((c + 1 : Nat) : Int) := by rw [wrap_i64 (by omega) (by omega)]; rfl
  have hs : sel (optIL (spansL v k)) (c + 1) = if inSp (c : Int) (optIL (spansL v k)) = true then sel (optIL (spansL v k)) c ++ [UInt8.ofNat c] else sel (optIL (spansL v k)) c := by
    simp only [sel, List.range_succ, List.filter_append, List.map_append]
    cases hq : inSp (c : Int) (optIL (spansL v k)) <;> simp [hq]
  repeat with_reducible first | refine o_op ?_ | refine q_nil ?_ | refine q_then ?_ | refine q_seq ?_ | refine q_reg ?_ | refine n_drop ?_ | refine n_condT ?_ | refine n_condF ?_ | refine o_yes ?_ | refine o_no ?_ | refine o_nu ?_ | refine q_skip ?_ | refine q_ret ?_ | refine q_exit ?_ | refine q_block ?_ | refine q_thenR ?_ | refine q_thenE ?_ | refine q_blkN ?_ | refine q_blkR ?_ | refine q_blkE ?_ | refine q_blkX (by decide) ?_ | refine o_st ?_
  refine n_cond (fun hb => ?_) (fun hb => ?_)
  · have hlt : c < 256 := by have := of_decide_eq_true hb; omega
    repeat with_reducible first | refine o_op ?_ (h2 := by simp only [ev_all, reduceIte, Bool.false_eq_true, Int.reduceEq, Int.reduceLT, Int.reduceLE, decide_true, decide_false, Bool.not_true, Bool.not_false, gt_iff_lt, ge_iff_le, w1, wrap_u8n hlt] <;> rfl) | refine o_op ?_ | refine q_nil ?_ | refine q_then ?_ | refine q_seq ?_ | refine q_reg ?_ | refine n_drop ?_ | refine n_condT ?_ | refine n_condF ?_ | refine o_yes ?_ | refine o_no ?_ | refine o_nu ?_ | refine q_skip ?_ | refine q_ret ?_ | refine q_exit ?_ | refine q_block ?_ | refine q_thenR ?_ | refine q_thenE ?_ | refine q_blkN ?_ | refine q_blkR ?_ | refine q_blkE ?_ | refine q_blkX (by decide) ?_ | refine o_st ?_
    refine o_call (f12n v k c hlt) ?_
    repeat with_reducible first | refine o_op ?_ | refine q_nil ?_ | refine q_then ?_ | refine q_seq ?_ | refine q_reg ?_ | refine n_drop ?_ | refine n_condT ?_ | refine n_condF ?_ | refine o_yes ?_ | refine o_no ?_ | refine o_nu ?_ | refine q_skip ?_ | refine q_ret ?_ | refine q_exit ?_ | refine q_block ?_ | refine q_thenR ?_ | refine q_thenE ?_ | refine q_blkN ?_ | refine q_blkR ?_ | refine q_blkE ?_ | refine q_blkX (by decide) ?_ | refine o_st ?_
    refine n_cond (fun hb2 => ?_) (fun hb2 => ?_)
    · repeat with_reducible first | refine o_op ?_ (h2 := by simp only [ev_all, reduceIte, Bool.false_eq_true, Int.reduceEq, Int.reduceLT, Int.reduceLE, decide_true, decide_false, Bool.not_true, Bool.not_false, gt_iff_lt, ge_iff_le, w1, wrap_u8n hlt, ev_bs1, ev_app1 (Nat.le_trans hlen hc) hlt] <;> rfl) | refine o_op ?_ | refine q_nil ?_ | refine q_then ?_ | refine q_seq ?_ | refine q_reg ?_ | refine n_drop ?_ | refine n_condT ?_ | refine n_condF ?_ | refine o_yes ?_ | refine o_no ?_ | refine o_nu ?_ | refine q_skip ?_ | refine q_ret ?_ | refine q_exit ?_ | refine q_block ?_ | refine q_thenR ?_ | refine q_thenE ?_ | refine q_blkN ?_ | refine q_blkR ?_ | refine q_blkE ?_ | refine q_blkX (by decide) ?_ | refine o_st ?_
      refine ⟨c + 1, ?_, hlt, by omega⟩
      rw [hs, if_pos hb2]
    · repeat with_reducible first | refine o_op ?_ (h2 := by simp only [ev_all, reduceIte, Bool.false_eq_true, Int.reduceEq, Int.reduceLT, Int.reduceLE, decide_true, decide_false, Bool.not_true, Bool.not_false, gt_iff_lt, ge_iff_le, w1] <;> rfl) | refine o_op ?_ | refine q_nil ?_ | refine q_then ?_ | refine q_seq ?_ | refine q_reg ?_ | refine n_drop ?_ | refine n_condT ?_ | refine n_condF ?_ | refine o_yes ?_ | refine o_no ?_ | refine o_nu ?_ | refine q_skip ?_ | refine q_ret ?_ | refine q_exit ?_ | refine q_block ?_ | refine q_thenR ?_ | refine q_thenE ?_ | refine q_blkN ?_ | refine q_blkR ?_ | refine q_blkE ?_ | refine q_blkX (by decide) ?_ | refine o_st ?_
      refine ⟨c + 1, ?_, hlt, by omega⟩
      rw [hs, if_neg (by rw [hb2]; exact Bool.false_ne_true)]
  · have : c = 256 := by have := of_decide_eq_false hb; omega
    subst this
    repeat with_reducible first | refine o_op ?_ | refine q_nil ?_ | refine q_then ?_ | refine q_seq ?_ | refine q_reg ?_ | refine n_drop ?_ | refine n_condT ?_ | refine n_condF ?_ | refine o_yes ?_ | refine o_no ?_ | refine o_nu ?_ | refine q_skip ?_ | refine q_ret ?_ | refine q_exit ?_ | refine q_block ?_ | refine q_thenR ?_ | refine q_thenE ?_ | refine q_blkN ?_ | refine q_blkR ?_ | refine q_blkE ?_ | refine q_blkX (by decide) ?_ | refine o_st ?_
    cases sel (optIL (spansL v k)) 256 <;> exact n_end ⟨rfl, rfl⟩
end Go.Rv

namespace Go.Rv
open Go.Proofs
variable {L : World → Prop}
theorem rowsBytes_rows (l : List UInt8) : rowsBytes (bytesRows l) = some l := by
  induction l with
  | nil => rfl
  | cons b l ih =>
    have : bytesRows (b :: l) = byteRow b :: bytesRows l := rfl
    rw [this]
    simp only [rowsBytes, ih]
    simp [rowByte, byteRow]
theorem ev_b2sO {o : Option (List UInt8)} {h : Heap} : POp.ev .b2s [optA o] h = some (.s ⟨(optL o).toArray⟩, h) := by
  cases o with
  | none => simp [POp.ev, optA, AV.nilS, rowsOf, rowsBytes, optL]
  | some l => simp [POp.ev, optA, bytesA, rowsOf, rowsBytes_rows, optL]
theorem ev_b2sW {l : List UInt8} {h : Heap} : POp.ev .b2s [outA l] h = some (.s ⟨l.toArray⟩, h) := by
  cases l with
  | nil => simp [POp.ev, outA, AV.nilS, rowsOf, rowsBytes]
  | cons b l => simp [POp.ev, outA, bytesA, rowsOf, rowsBytes_rows]
theorem ev_lenS {o : Option (List UInt8)} {h : Heap} : POp.ev .len [optS o] h = some (.i .i64 ((optL o).length : Int), h) := by cases o <;> simp [optS, optL, POp.ev, lenOf, AV.nilS, AV.i, bytesRows]
theorem ev_iaS {o : Option (List UInt8)} {h : Heap} {i : Nat} (hi : i < (optL o).length) : POp.ev (.ia 1) [optS o, .i .i64 (i : Int)] h = some (.eref (byteRow (optL o)[i]) 0, h) := by
  cases o with
  | none => simp [optL] at hi
  | some l => simp only [optL] at hi ⊢; simp only [optS]; rw [ev_ia (bytes_get hi)]; rfl
theorem strip_optS (o : Option (List UInt8)) : strip (optS o) = optS o := by cases o <;> rfl
theorem ev_ldB {b : UInt8} {h : Heap} : POp.ev (.load none) [.eref (byteRow b) 0] h = some (.i .u8 b.toNat, h) := rfl
def risesB : List UInt8 → Bool
  | a :: b :: l => decide (a.toNat < b.toNat) && risesB (b :: l)
  | _ => true
theorem rises_get : ∀ (l : List UInt8), risesB l = true → ∀ (i : Nat) (h : i + 1 < l.length), l[i].toNat < l[i + 1].toNat
  | [], _, i, h => by simp at h
  | [_], _, i, h => by simp at h
  | a :: b :: l, hr, i, h => by
    simp [risesB] at hr
    cases i with
    | zero => exact hr.1
    | succ i =>
      have := rises_get (b :: l) hr.2 i (by simpa using h)
      simpa using this
theorem by_kinds (F : Option (List UInt8) → Option (List Int) → Prop) (h0 : F none none) (h4 : ∀ k ∈ [2, 4, 5, 6, 7, 9, 11, 14, 15], F (allL 4 k) (spansL 4 k)) (h5 : ∀ k ∈ [2, 4, 5, 6, 7, 9, 11, 14, 15], F (allL 5 k) (spansL 5 k)) (v k : Int) : F (allL v k) (spansL v k) := by
  by_cases v4 : v = 4
  · subst v4
    rcases kinds k with h | ⟨h2, h4', h5, h6, h7, h9, h11, h14, h15⟩
    · exact h4 k (by rcases h with rfl | rfl | rfl | rfl | rfl | rfl | rfl | rfl | rfl <;> simp)
    · simp only [allL, spansL, fourthL, h2, h4', h5, h6, h7, h9, h11, h14, h15, if_false, if_true, or_self]; exact h0
  by_cases v5 : v = 5
  · subst v5
    rcases kinds k with h | ⟨h2, h4', h5', h6, h7, h9, h11, h14, h15⟩
    · exact h5 k (by rcases h with rfl | rfl | rfl | rfl | rfl | rfl | rfl | rfl | rfl <;> simp)
    · simp only [allL, spansL, fifthL, h2, h4', h5', h6, h7, h9, h11, h14, h15, if_false, if_true, or_self, v4]; exact h0
  · simp only [allL, spansL, v4, v5, if_false]; exact h0
theorem all_rises (v k : Int) : risesB (optL (allL v k)) = true := by_kinds (fun o _ => risesB (optL o) = true) rfl (by decide +kernel) (by decide +kernel) v k
theorem all_sel (v k : Int) : optL (allL v k) = sel (optIL (spansL v k)) 256 := by_kinds (fun o p => optL o = sel (optIL p) 256) (by decide +kernel) (by decide +kernel) (by decide +kernel) v k
set_option maxHeartbeats 4000000 in
theorem f4 (v k : Int) : Fun Try.prog L 4 [.i .i64 v, .i .i64 k] [] (.b true) [] := by
  refine fun_of_wp Try.func4 ok4 (by kernel_rfl) (show 2 ≤ s4.n by decide) (by decide) ?_
  simp only [argEnv, Nat.reduceAdd]
  repeat with_reducible first | refine o_op ?_ | refine q_nil ?_ | refine q_then ?_ | refine q_seq ?_ | refine q_reg ?_ | refine n_drop ?_ | refine n_condT ?_ | refine n_condF ?_ | refine o_yes ?_ | refine o_no ?_ | refine o_nu ?_ | refine q_skip ?_ | refine q_ret ?_ | refine q_exit ?_ | refine q_block ?_ | refine q_thenR ?_ | refine q_thenE ?_ | refine q_blkN ?_ | refine q_blkR ?_ | refine q_blkE ?_ | refine q_blkX (by decide) ?_ | refine o_st ?_
  refine o_call (f15 v k) ?_ (hr2 := ref_opt _)
  repeat with_reducible first | refine o_op ?_ | refine q_nil ?_ | refine q_then ?_ | refine q_seq ?_ | refine q_reg ?_ | refine n_drop ?_ | refine n_condT ?_ | refine n_condF ?_ | refine o_yes ?_ | refine o_no ?_ | refine o_nu ?_ | refine q_skip ?_ | refine q_ret ?_ | refine q_exit ?_ | refine q_block ?_ | refine q_thenR ?_ | refine q_thenE ?_ | refine q_blkN ?_ | refine q_blkR ?_ | refine q_blkE ?_ | refine q_blkX (by decide) ?_ | refine o_st ?_
  refine o_call (f16 v k) ?_ (hr2 := ref_out _)
  repeat with_reducible first | refine o_op ?_ | refine q_nil ?_ | refine q_then ?_ | refine q_seq ?_ | refine q_reg ?_ | refine n_drop ?_ | refine n_condT ?_ | refine n_condF ?_ | refine o_yes ?_ | refine o_no ?_ | refine o_nu ?_ | refine q_skip ?_ | refine q_ret ?_ | refine q_exit ?_ | refine q_block ?_ | refine q_thenR ?_ | refine q_thenE ?_ | refine q_blkN ?_ | refine q_blkR ?_ | refine q_blkE ?_ | refine q_blkX (by decide) ?_ | refine o_st ?_
  have hlen := len_all v k
  have hris := all_rises v k
  have hcall : ∀ c : UInt8, Fun Try.prog L 11 [.i .i64 v, .i .i64 k, .i .u8 c.toNat] [] (.b ((optL (allL v k)).contains c)) [] := f11 v k
  have hsel := all_sel v k
  generalize allL v k = o at hlen hris hcall hsel ⊢
  refine wpS_loop (X := Nat) (fun i => ⟨[(0, .i .i64 v), (1, .i .i64 k), (5, optA o), (6, outA (sel (optIL (spansL v k)) 256)), (7, .i .i64 (i : Int))], []⟩) (fun i => i ≤ (optL o).length) (fun i => (optL o).length - i) 0 rfl (by simp) ?_
  intro i hi
  repeat with_reducible first | refine o_op ?_ (h2 := by simp only [ev_all, reduceIte, Bool.false_eq_true, Int.reduceEq, Int.reduceLT, Int.reduceLE, decide_true, decide_false, Bool.not_true, Bool.not_false, gt_iff_lt, ge_iff_le, ev_lenS] <;> rfl) (h1 := by simp only [rd_all, reduceIte, Nat.reduceEqDiff, strip_opt, strip_optS] <;> rfl) | refine o_op ?_ | refine q_nil ?_ | refine q_then ?_ | refine q_seq ?_ | refine q_reg ?_ | refine n_drop ?_ | refine n_condT ?_ | refine n_condF ?_ | refine o_yes ?_ | refine o_no ?_ | refine o_nu ?_ | refine q_skip ?_ | refine q_ret ?_ | refine q_exit ?_ | refine q_block ?_ | refine q_thenR ?_ | refine q_thenE ?_ | refine q_blkN ?_ | refine q_blkR ?_ | refine q_blkE ?_ | refine q_blkX (by decide) ?_ | refine o_st ?_
  refine n_cond (fun hb => ?_) (fun hb => ?_)
  · have hlt : i < (optL o).length := by have := of_decide_eq_true hb; omega
    have w1 : IntKind.i64.wrap ((i : Int) + 1) = ((i + 1 : Nat) : Int) := by rw [wrap_i64 (by omega) (by omega)]; rfl
    have hcon : (optL o).contains (optL o)[i] = true := by simp
    have hc2 : Fun Try.prog L 11 [.i .i64 v, .i .i64 k, .i .u8 (optL o)[i].toNat] [] (.b true) [] := by have := hcall (optL o)[i]; rwa [hcon] at this
    repeat with_reducible first | refine o_op ?_ | refine q_nil ?_ | refine q_then ?_ | refine q_seq ?_ | refine q_reg ?_ | refine n_drop ?_ | refine n_condT ?_ | refine n_condF ?_ | refine o_yes ?_ | refine o_no ?_ | refine o_nu ?_ | refine q_skip ?_ | refine q_ret ?_ | refine q_exit ?_ | refine q_block ?_ | refine q_thenR ?_ | refine q_thenE ?_ | refine q_blkN ?_ | refine q_blkR ?_ | refine q_blkE ?_ | refine q_blkX (by decide) ?_ | refine o_st ?_
    refine n_draw ?_
    repeat first | refine d_op ?_ | refine d_yes ?_ | refine d_no ?_ | refine d_nu ?_ | with_reducible refine q_nilD ?_
    refine d_case (fun h0 => ?_) (fun h0 => ?_)
    · have hpos : 0 < i := by have := of_decide_eq_true h0; omega
      obtain ⟨j, rfl⟩ : ∃ j, i = j + 1 := ⟨i - 1, by omega⟩
      have w2 : IntKind.i64.wrap (((j + 1 : Nat) : Int) - 1) = (j : Int) := by rw [wrap_i64 (by omega) (by omega)]; omega
      have hlt2 := rises_get _ hris j hlt
      have hge : decide (((optL o)[j + 1].toNat : Int) ≤ ((optL o)[j].toNat : Int)) = false := decide_eq_false (by omega)
      repeat first | refine d_op ?_ (h2 := by simp only [ev_all, reduceIte, Bool.false_eq_true, Int.reduceEq, Int.reduceLT, Int.reduceLE, decide_true, decide_false, Bool.not_true, Bool.not_false, gt_iff_lt, ge_iff_le, w2, ev_iaS (show j < (optL o).length by omega), ev_iaS hlt, ev_ldB, hge] <;> rfl) (h1 := by simp only [rd_all, reduceIte, Nat.reduceEqDiff, strip_opt, strip_optS] <;> rfl) | refine d_op ?_ | refine d_yes ?_ | refine d_no ?_ | refine d_nu ?_ | with_reducible refine q_nilD ?_
      refine d_call hc2 ?_
      repeat first | refine d_op ?_ | refine d_yes ?_ | refine d_no ?_ | refine d_nu ?_ | with_reducible refine q_nilD ?_
      repeat with_reducible first | refine o_op ?_ (h2 := by simp only [ev_all, reduceIte, Bool.false_eq_true, Int.reduceEq, Int.reduceLT, Int.reduceLE, decide_true, decide_false, Bool.not_true, Bool.not_false, gt_iff_lt, ge_iff_le, w1] <;> rfl) | refine o_op ?_ | refine q_nil ?_ | refine q_then ?_ | refine q_seq ?_ | refine q_reg ?_ | refine n_drop ?_ | refine n_condT ?_ | refine n_condF ?_ | refine o_yes ?_ | refine o_no ?_ | refine o_nu ?_ | refine q_skip ?_ | refine q_ret ?_ | refine q_exit ?_ | refine q_block ?_ | refine q_thenR ?_ | refine q_thenE ?_ | refine q_blkN ?_ | refine q_blkR ?_ | refine q_blkE ?_ | refine q_blkX (by decide) ?_ | refine o_st ?_
      exact ⟨j + 1 + 1, rfl, hlt, by omega⟩
    · repeat first | refine d_op ?_ (h2 := by simp only [ev_all, reduceIte, Bool.false_eq_true, Int.reduceEq, Int.reduceLT, Int.reduceLE, decide_true, decide_false, Bool.not_true, Bool.not_false, gt_iff_lt, ge_iff_le, ev_iaS hlt, ev_ldB] <;> rfl) (h1 := by simp only [rd_all, reduceIte, Nat.reduceEqDiff, strip_opt, strip_optS] <;> rfl) | refine d_op ?_ | refine d_yes ?_ | refine d_no ?_ | refine d_nu ?_ | with_reducible refine q_nilD ?_
      refine d_call hc2 ?_
      repeat first | refine d_op ?_ | refine d_yes ?_ | refine d_no ?_ | refine d_nu ?_ | with_reducible refine q_nilD ?_
      repeat with_reducible first | refine o_op ?_ (h2 := by simp only [ev_all, reduceIte, Bool.false_eq_true, Int.reduceEq, Int.reduceLT, Int.reduceLE, decide_true, decide_false, Bool.not_true, Bool.not_false, gt_iff_lt, ge_iff_le, w1] <;> rfl) | refine o_op ?_ | refine q_nil ?_ | refine q_then ?_ | refine q_seq ?_ | refine q_reg ?_ | refine n_drop ?_ | refine n_condT ?_ | refine n_condF ?_ | refine o_yes ?_ | refine o_no ?_ | refine o_nu ?_ | refine q_skip ?_ | refine q_ret ?_ | refine q_exit ?_ | refine q_block ?_ | refine q_thenR ?_ | refine q_thenE ?_ | refine q_blkN ?_ | refine q_blkR ?_ | refine q_blkE ?_ | refine q_blkX (by decide) ?_ | refine o_st ?_
      exact ⟨i + 1, rfl, hlt, by omega⟩
  · repeat with_reducible first | refine o_op ?_ | refine q_nil ?_ | refine q_then ?_ | refine q_seq ?_ | refine q_reg ?_ | refine n_drop ?_ | refine n_condT ?_ | refine n_condF ?_ | refine o_yes ?_ | refine o_no ?_ | refine o_nu ?_ | refine q_skip ?_ | refine q_ret ?_ | refine q_exit ?_ | refine q_block ?_ | refine q_thenR ?_ | refine q_thenE ?_ | refine q_blkN ?_ | refine q_blkR ?_ | refine q_blkE ?_ | refine q_blkX (by decide) ?_ | refine o_st ?_
    refine o_call f10 ?_
    repeat with_reducible first | refine o_op ?_ (h2 := by simp only [ev_all, reduceIte, Bool.false_eq_true, Int.reduceEq, Int.reduceLT, Int.reduceLE, decide_true, decide_false, Bool.not_true, Bool.not_false, gt_iff_lt, ge_iff_le, ev_b2sO, ev_b2sW, hsel, eq_self] <;> rfl) | refine o_op ?_ | refine q_nil ?_ | refine q_then ?_ | refine q_seq ?_ | refine q_reg ?_ | refine n_drop ?_ | refine n_condT ?_ | refine n_condF ?_ | refine o_yes ?_ | refine o_no ?_ | refine o_nu ?_ | refine q_skip ?_ | refine q_ret ?_ | refine q_exit ?_ | refine q_block ?_ | refine q_thenR ?_ | refine q_thenE ?_ | refine q_blkN ?_ | refine q_blkR ?_ | refine q_blkE ?_ | refine q_blkX (by decide) ?_ | refine o_st ?_
    exact n_end ⟨rfl, rfl⟩
end Go.Rv
