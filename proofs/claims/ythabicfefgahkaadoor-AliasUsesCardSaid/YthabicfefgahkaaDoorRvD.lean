/- A typed interpreter of the program's code, and that it is sound; part 4. -/
import Derived.Test.YthabicfefgahkaaDoorRvC
import Derived.Laws.BitsLemmas
import Derived.Laws.BitsAllLaws
import Derived.Laws.Bits64
import Derived.WalkKit
import Derived.ProofKit
import Derived.OpenShut
import Derived.ShutString
import Derived.ChangeOld
import Derived.Below
import Derived.SizedLaws
import Derived.Carry
set_option linter.unusedSimpArgs false
set_option linter.unusedVariables false
set_option maxRecDepth 100000
namespace Go.Rv
open Go.RowKit
abbrev w64 (n : Int) : Int := IntKind.i64.wrap n
abbrev As (l : List UInt8) : AV := .s ⟨l.toArray⟩
/-- A slice's rows, or none. -/
abbrev L {α : Type} (o : Option (List α)) : List α := o.getD []
def oA {α : Type} (z : Nat) (row : α → List PV) : Option (List α) → AV
  | none => .nilS
  | some l => .own z (l.map row)
def oP {α : Type} (z : Nat) (row : α → List PV) : Option (List α) → PV
  | none => .lit (.slice none 0 0)
  | some l => .sl z (l.map row)
abbrev oS {α : Type} (z : Nat) (row : α → List PV) (o : Option (List α)) : AV := .pv (oP z row o)
theorem strip_oA {α : Type} {z : Nat} {row : α → List PV} (o : Option (List α)) : strip (oA z row o) = oS z row o := by cases o <;> rfl
theorem strip_oS {α : Type} {z : Nat} {row : α → List PV} (o : Option (List α)) : strip (oS z row o) = oS z row o := rfl
theorem refs_oA {α : Type} {z : Nat} {row : α → List PV} (o : Option (List α)) : refsOf (oA z row o) = [] := by cases o <;> rfl
theorem refs_oS {α : Type} {z : Nat} {row : α → List PV} (o : Option (List α)) : refsOf (oS z row o) = [] := by cases o <;> rfl
theorem ren_oA {α : Type} {z : Nat} {row : α → List PV} {σ : Nat → Nat} (o : Option (List α)) : ren σ (oA z row o) = oA z row o := by cases o <;> rfl
theorem ren_oS {α : Type} {z : Nat} {row : α → List PV} {σ : Nat → Nat} (o : Option (List α)) : ren σ (oS z row o) = oS z row o := by cases o <;> rfl
theorem not_junk_oA {α : Type} {z : Nat} {row : α → List PV} (o : Option (List α)) : notTup (oA z row o) = true := by cases o <;> rfl
theorem not_junk_oS {α : Type} {z : Nat} {row : α → List PV} (o : Option (List α)) : notTup (oS z row o) = true := by cases o <;> rfl
-- what the partial operations yield
def ix {α : Type} (l : List α) (i : Int) : Option α := if 0 ≤ i then l[i.toNat]? else none
def slc {α : Type} (l : List α) (lo hi : Int) : Option (List α) := if 0 ≤ lo ∧ lo ≤ hi ∧ hi ≤ l.length then some ((l.take hi.toNat).drop lo.toNat) else none
def slO {α : Type} (o : Option (List α)) (lo hi : Int) : Option (Option (List α)) := match o with
  | none => if 0 ≤ lo ∧ lo ≤ hi ∧ hi ≤ 0 then some none else none
  | some l => (slc l lo hi).map some
def catS (a b : List UInt8) : Option (List UInt8) := if a.length + b.length ≤ 9223372036854775807 then some (a ++ b) else none
def s2b (l : List UInt8) : Option (Option (List UInt8)) := if l.length ≤ room then some (some l) else none
def appO {α : Type} (bytes : Nat) (x y : Option (List α)) : Option (Option (List α)) := match x, L y with
  | none, [] => some none
  | none, a :: l => if (l.length + 1) * bytes ≤ room ∧ l.length + 1 ≤ room then some (some (a :: l)) else none
  | some l, m => if (l.length + m.length) * bytes ≤ room ∧ l.length + m.length ≤ room then some (some (l ++ m)) else none
def chk (b : Bool) : Option Unit := if b then some () else none
theorem chk_ex {b : Bool} {u : Unit} (h : chk b = some u) : b = true := by cases b <;> simp [chk] at h ⊢
theorem bind_ex {α β : Type} {x : Option α} {f : α → Option β} {r : β} (h : x.bind f = some r) : ∃ a, x = some a ∧ f a = some r := by
  cases x with
  | none => cases h
  | some a => exact ⟨a, rfl, h⟩
theorem ite_t {α : Type} {c : Bool} {a b : Option α} {r : α} (hc : c = true) (h : (if c then a else b) = some r) : a = some r := by rw [if_pos hc] at h; exact h
theorem ite_f {α : Type} {c : Bool} {a b : Option α} {r : α} (hc : c = false) (h : (if c then a else b) = some r) : b = some r := by rw [if_neg (by rw [hc]; exact Bool.false_ne_true)] at h; exact h
def up {σ α : Type} (x : Option α) : Option (σ ⊕ α) := x.map Sum.inr
theorem up_ex {σ α : Type} {x : Option α} {e : σ ⊕ α} {d : α} (h : up x = some e) (hd : ∀ a, e = .inr a → a = d) : x = some d := by
  cases x with
  | none => cases h
  | some a =>
    simp only [up, Option.map_some, Option.some.injEq] at h
    rw [hd a h.symm]
/-- Again and again. -/
def iter {σ α : Type} (step : σ → Option (σ ⊕ α)) (s : σ) : Option α := do
  match ← step s with
  | .inl s' => iter step s'
  | .inr a => some a
    partial_fixpoint
def iterN {σ α : Type} (step : σ → Option (σ ⊕ α)) : Nat → σ → Option α
  | 0, _ => none
  | n + 1, s => match step s with
    | some (.inl s') => iterN step n s'
    | some (.inr a) => some a
    | none => none
theorem iter_eq {σ α : Type} (step : σ → Option (σ ⊕ α)) (s : σ) : iter step s = match step s with
    | some (.inl s') => iter step s'
    | some (.inr a) => some a
    | none => none := by
  rw [iter]
  cases step s with
  | none => rfl
  | some e => cases e <;> rfl
theorem iter_N {σ α : Type} {step : σ → Option (σ ⊕ α)} {s : σ} {a : α} (h : iter step s = some a) : ∃ n, iterN step n s = some a := by
  refine iter.partial_correctness step (fun s a => ∃ n, iterN step n s = some a) ?_ s a h
  intro it ih s a h
  cases hs : step s with
  | none => rw [hs] at h; cases h
  | some e =>
    rw [hs] at h
    cases e with
    | inl s' =>
      obtain ⟨n, hn⟩ := ih s' a h
      exact ⟨n + 1, by simp only [iterN, hs]; exact hn⟩
    | inr b =>
      refine ⟨1, ?_⟩
      simp only [iterN, hs]; exact h
theorem N_iter {σ α : Type} {step : σ → Option (σ ⊕ α)} : ∀ {n : Nat} {s : σ} {a : α}, iterN step n s = some a → iter step s = some a
  | 0, _, _, h => by cases h
  | n + 1, s, a, h => by
    rw [iter_eq]
    simp only [iterN] at h
    cases hs : step s with
    | none => rw [hs] at h; cases h
    | some e =>
      rw [hs] at h
      cases e with
      | inl s' => exact N_iter h
      | inr b => exact h
/-- How a loop is shown to end well: something that holds, something that falls. -/
theorem iter_spec {σ α : Type} {step : σ → Option (σ ⊕ α)} (I : σ → Prop) (m : σ → Nat) (F : σ → α)
    (h : ∀ s, I s → (∃ s', step s = some (.inl s') ∧ I s' ∧ m s' < m s ∧ F s' = F s) ∨ step s = some (.inr (F s))) : ∀ s, I s → iter step s = some (F s) := by
  have key : ∀ n s, m s < n → I s → iter step s = some (F s) := by
    intro n
    induction n with
    | zero => intro s hs; omega
    | succ n ih =>
      intro s hm hI
      rw [iter_eq]
      rcases h s hI with ⟨s', h1, h2, h3, h4⟩ | h1
      · simp only [h1]; rw [← h4]; exact ih s' (by omega) h2
      · simp only [h1]
  exact fun s => key (m s + 1) s (by omega)
variable {P : Program} {W : World → Prop} {b c : SCode} {Q : SExit → St → Prop}
theorem q_loop {σ α : Type} (f : σ → St) {step : σ → Option (σ ⊕ α)} {x0 : σ} {d : α} {s : St} (h : iter step x0 = some d) (h0 : s = f x0)
    (hb : ∀ x e, step x = some e → (∀ a, e = .inr a → a = d) → wpS P W b (thenQ (fun s' => ∃ y, e = .inl y ∧ s' = f y) Q) (f x)) : wpS P W (.loop b) Q s := by
  obtain ⟨n, hn⟩ := iter_N h
  refine ⟨fun n s => ∃ x, s = f x ∧ iterN step n x = some d, ⟨n, x0, h0, hn⟩, ?_⟩
  rintro n s ⟨x, rfl, hx⟩
  cases n with
  | zero => cases hx
  | succ n =>
    simp only [iterN] at hx
    split at hx
    · rename_i s' hs
      refine wpS_mono b _ (thenQ_mono ?_ fun _ _ h => h) (hb x _ hs (fun a ha => by cases ha))
      rintro s ⟨y, hy, rfl⟩
      cases hy
      exact ⟨n, by omega, _, rfl, hx⟩
    · rename_i a hs
      cases hx
      refine wpS_mono b _ (thenQ_mono ?_ fun _ _ h => h) (hb x _ hs (fun a ha => by cases ha; rfl))
      rintro s ⟨y, hy, rfl⟩
      cases hy
    · cases hx
theorem q_seqJ {X α : Type} (f : X → St) (J : X → Option α) {d : α} {s : St} (hk : ∀ x, J x = some d → wpS P W c Q (f x)) (ha : wpS P W b (thenQ (fun s' => ∃ x, s' = f x ∧ J x = some d) Q) s) : wpS P W (.seq b c) Q s := by
  refine wpS_mono b s (thenQ_mono ?_ fun _ _ h => h) ha
  rintro s ⟨x, rfl, h⟩
  exact hk x h

abbrev A8 (x : UInt8) : AV := .i .u8 (x.toNat : Int)
def u8 (x : Int) : UInt8 := UInt8.ofNat (x % 256).toNat
theorem u8_toNat (x : Int) : ((u8 x).toNat : Int) = x % 256 := by
  have h := Int.emod_lt_of_pos x (show (0 : Int) < 256 by decide)
  have h2 := Int.emod_nonneg x (show (256 : Int) ≠ 0 by decide)
  simp only [u8, UInt8.toNat_ofNat']
  omega
theorem u8_wrap (x : Int) : IntKind.u8.wrap x = ((u8 x).toNat : Int) := by rw [u8_toNat, IntKind.wrap_u8]
theorem u8_id (x : UInt8) : u8 (x.toNat : Int) = x := by
  apply UInt8.toNat_inj.1
  have h := u8_toNat (x.toNat : Int)
  have h2 := x.toNat_lt
  omega
theorem u8_lt (x : UInt8) : (x.toNat : Int) < 256 := by have := x.toNat_lt; omega
theorem u8_inj {a b : UInt8} (h : (a.toNat : Int) = b.toNat) : a = b := UInt8.toNat_inj.1 (by exact_mod_cast h)
theorem u8_bv (a : UInt8) : BitVec.ofInt 8 (a.toNat : Int) = a.toBitVec := by
  apply BitVec.eq_of_toNat_eq
  have := a.toNat_lt
  simp [BitVec.ofInt_natCast, BitVec.toNat_ofNat, Nat.mod_eq_of_lt this]
theorem u8_eq {a : Int} {b : UInt8} (h : a % 256 = b.toNat) : IntKind.u8.wrap a = (b.toNat : Int) := by rw [IntKind.wrap_u8, h]
section
variable {t : ET} {a b : UInt8} {h : Heap}
theorem ev_add_u8 : POp.ev (.bin .add t) [A8 a, A8 b] h = some (A8 (a + b), h) := by
  simp only [POp.ev, AV.i, binV, isShift, intV, if_true, Bool.false_eq_true, if_false, Option.map_some]
  rw [u8_eq (b := a + b)]; simp [UInt8.toNat_add]
theorem ev_sub_u8 : POp.ev (.bin .sub t) [A8 a, A8 b] h = some (A8 (a - b), h) := by
  simp only [POp.ev, AV.i, binV, isShift, intV, if_true, Bool.false_eq_true, if_false, Option.map_some]
  rw [u8_eq (b := a - b)]
  have ha := a.toNat_lt
  have hb := b.toNat_lt
  rw [UInt8.toNat_sub]
  omega
theorem ev_mul_u8 : POp.ev (.bin .mul t) [A8 a, A8 b] h = some (A8 (a * b), h) := by
  simp only [POp.ev, AV.i, binV, isShift, intV, if_true, Bool.false_eq_true, if_false, Option.map_some]
  rw [u8_eq (b := a * b)]
  rw [UInt8.toNat_mul]
  generalize a.toNat = p
  generalize b.toNat = q
  have e : (p : Int) * (q : Int) = ((p * q : Nat) : Int) := by simp
  rw [e]
  generalize p * q = r
  omega
theorem ev_quo_u8 (hb : chk (decide (b ≠ 0)) = some ()) : POp.ev (.bin .quo t) [A8 a, A8 b] h = some (A8 (a / b), h) := by
  have hb := of_decide_eq_true (chk_ex hb)
  have hb' : ¬ ((b.toNat : Int) = 0) := fun e => hb (u8_inj (by simpa using e))
  simp only [POp.ev, AV.i, binV, isShift, intV, if_true, Bool.false_eq_true, if_false, Option.map_some, hb']
  rw [u8_eq (b := a / b)]
  have ha := a.toNat_lt
  rw [UInt8.toNat_div, Int.tdiv_eq_ediv_of_nonneg (by omega)]
  have : a.toNat / b.toNat ≤ a.toNat := Nat.div_le_self _ _
  have e : ((a.toNat : Int) / (b.toNat : Int)) = ((a.toNat / b.toNat : Nat) : Int) := by simp
  rw [e]
  generalize a.toNat / b.toNat = q at this ⊢
  omega
theorem ev_rem_u8 (hb : chk (decide (b ≠ 0)) = some ()) : POp.ev (.bin .rem t) [A8 a, A8 b] h = some (A8 (a % b), h) := by
  have hb := of_decide_eq_true (chk_ex hb)
  have hb' : ¬ ((b.toNat : Int) = 0) := fun e => hb (u8_inj (by simpa using e))
  simp only [POp.ev, AV.i, binV, isShift, intV, if_true, Bool.false_eq_true, if_false, Option.map_some, hb']
  rw [UInt8.toNat_mod, Int.tmod_eq_emod_of_nonneg (by omega)]
  simp
theorem ev_and_u8 : POp.ev (.bin .and t) [A8 a, A8 b] h = some (A8 (a &&& b), h) := by
  simp only [POp.ev, AV.i, binV, isShift, intV, if_true, Bool.false_eq_true, if_false, Option.map_some]
  have e : (((BitVec.ofInt 8 (a.toNat : Int) &&& BitVec.ofInt 8 (b.toNat : Int)).toNat : Nat) : Int) % 256 = (a &&& b).toNat := by
    rw [u8_bv, u8_bv, ← UInt8.toBitVec_and, UInt8.toNat_toBitVec]
    have := (a &&& b).toNat_lt
    omega
  exact congrArg (fun z => some (AV.i .u8 z, h)) (u8_eq e)
theorem ev_or_u8 : POp.ev (.bin .or t) [A8 a, A8 b] h = some (A8 (a ||| b), h) := by
  simp only [POp.ev, AV.i, binV, isShift, intV, if_true, Bool.false_eq_true, if_false, Option.map_some]
  have e : (((BitVec.ofInt 8 (a.toNat : Int) ||| BitVec.ofInt 8 (b.toNat : Int)).toNat : Nat) : Int) % 256 = (a ||| b).toNat := by
    rw [u8_bv, u8_bv, ← UInt8.toBitVec_or, UInt8.toNat_toBitVec]
    have := (a ||| b).toNat_lt
    omega
  exact congrArg (fun z => some (AV.i .u8 z, h)) (u8_eq e)
theorem ev_xor_u8 : POp.ev (.bin .xor t) [A8 a, A8 b] h = some (A8 (a ^^^ b), h) := by
  simp only [POp.ev, AV.i, binV, isShift, intV, if_true, Bool.false_eq_true, if_false, Option.map_some]
  have e : (((BitVec.ofInt 8 (a.toNat : Int) ^^^ BitVec.ofInt 8 (b.toNat : Int)).toNat : Nat) : Int) % 256 = (a ^^^ b).toNat := by
    rw [u8_bv, u8_bv, ← UInt8.toBitVec_xor, UInt8.toNat_toBitVec]
    have := (a ^^^ b).toNat_lt
    omega
  exact congrArg (fun z => some (AV.i .u8 z, h)) (u8_eq e)
theorem ev_andNot_u8 : POp.ev (.bin .andNot t) [A8 a, A8 b] h = some (A8 (a &&& ~~~b), h) := by
  simp only [POp.ev, AV.i, binV, isShift, intV, if_true, Bool.false_eq_true, if_false, Option.map_some]
  have e : (((BitVec.ofInt 8 (a.toNat : Int) &&& ~~~BitVec.ofInt 8 (b.toNat : Int)).toNat : Nat) : Int) % 256 = (a &&& ~~~b).toNat := by
    rw [u8_bv, u8_bv, ← UInt8.toBitVec_not, ← UInt8.toBitVec_and, UInt8.toNat_toBitVec]
    have := (a &&& ~~~b).toNat_lt
    omega
  exact congrArg (fun z => some (AV.i .u8 z, h)) (u8_eq e)
theorem ev_eql_u8 : POp.ev (.bin .eql t) [A8 a, A8 b] h = some (.b (decide (a = b)), h) := by
  simp only [POp.ev, AV.i, binV, isShift, intV, if_true, Bool.false_eq_true, if_false, Option.map_some]
  have e : decide (a = b) = ((a.toNat : Int) == (b.toNat : Int)) := by
    by_cases hab : a = b
    · subst hab; simp
    · have : ¬ ((a.toNat : Int) = b.toNat) := fun e => hab (u8_inj e)
      simp [hab, this]
  rw [e]
theorem ev_neq_u8 : POp.ev (.bin .neq t) [A8 a, A8 b] h = some (.b ((!decide (a = b))), h) := by
  simp only [POp.ev, AV.i, binV, isShift, intV, if_true, Bool.false_eq_true, if_false, Option.map_some]
  have e : decide (a = b) = ((a.toNat : Int) == (b.toNat : Int)) := by
    by_cases hab : a = b
    · subst hab; simp
    · have : ¬ ((a.toNat : Int) = b.toNat) := fun e => hab (u8_inj e)
      simp [hab, this]
  rw [e]; rfl
theorem ev_lss_u8 : POp.ev (.bin .lss t) [A8 a, A8 b] h = some (.b (decide (a < b)), h) := by
  simp only [POp.ev, AV.i, binV, isShift, intV, if_true, Bool.false_eq_true, if_false, Option.map_some]
  have e : (decide (a < b)) = true ↔ ((a.toNat : Int) < b.toNat) := by simp [UInt8.lt_iff_toNat_lt, GT.gt, GE.ge]
  congr 3
  rw [Bool.eq_iff_iff, decide_eq_true_iff]
  exact e.symm
theorem ev_leq_u8 : POp.ev (.bin .leq t) [A8 a, A8 b] h = some (.b (decide (a ≤ b)), h) := by
  simp only [POp.ev, AV.i, binV, isShift, intV, if_true, Bool.false_eq_true, if_false, Option.map_some]
  have e : (decide (a ≤ b)) = true ↔ ((a.toNat : Int) ≤ b.toNat) := by simp [UInt8.le_iff_toNat_le, GT.gt, GE.ge]
  congr 3
  rw [Bool.eq_iff_iff, decide_eq_true_iff]
  exact e.symm
theorem ev_gtr_u8 : POp.ev (.bin .gtr t) [A8 a, A8 b] h = some (.b (decide (a > b)), h) := by
  simp only [POp.ev, AV.i, binV, isShift, intV, if_true, Bool.false_eq_true, if_false, Option.map_some]
  have e : (decide (a > b)) = true ↔ ((a.toNat : Int) > b.toNat) := by simp [UInt8.lt_iff_toNat_lt, GT.gt, GE.ge]
  congr 3
  rw [Bool.eq_iff_iff, decide_eq_true_iff]
  exact e.symm
theorem ev_geq_u8 : POp.ev (.bin .geq t) [A8 a, A8 b] h = some (.b (decide (a ≥ b)), h) := by
  simp only [POp.ev, AV.i, binV, isShift, intV, if_true, Bool.false_eq_true, if_false, Option.map_some]
  have e : (decide (a ≥ b)) = true ↔ ((a.toNat : Int) ≥ b.toNat) := by simp [UInt8.le_iff_toNat_le, GT.gt, GE.ge]
  congr 3
  rw [Bool.eq_iff_iff, decide_eq_true_iff]
  exact e.symm

def shl_u8 (a : UInt8) (y : Int) : UInt8 := u8 (a.toNat * 2 ^ (min y.toNat 8))
def shr_u8 (a : UInt8) (y : Int) : UInt8 := u8 ((a.toNat : Int) / 2 ^ (min y.toNat 8))
theorem ev_shl_u8 {k' : IntKind} {y : Int} (hy : chk (decide (0 ≤ y)) = some ()) : POp.ev (.bin .shl t) [A8 a, .i k' y] h = some (A8 (shl_u8 a y), h) := by
  have hy := of_decide_eq_true (chk_ex hy)
  simp only [POp.ev, AV.i, binV, isShift, shiftV, if_true, Option.map_some, show ¬ y < 0 by omega, if_false, IntKind.bits]
  rw [u8_wrap]; rfl
theorem ev_shr_u8 {k' : IntKind} {y : Int} (hy : chk (decide (0 ≤ y)) = some ()) : POp.ev (.bin .shr t) [A8 a, .i k' y] h = some (A8 (shr_u8 a y), h) := by
  have hy := of_decide_eq_true (chk_ex hy)
  simp only [POp.ev, AV.i, binV, isShift, shiftV, if_true, Option.map_some, show ¬ y < 0 by omega, if_false, IntKind.bits]
  have hp : (0 : Int) < 2 ^ (min y.toNat 8) := Int.pow_pos (by decide)
  rw [Int.fdiv_eq_ediv_of_nonneg _ (Int.le_of_lt hp)]
  have ha := a.toNat_lt
  have h1 : (0 : Int) ≤ (a.toNat : Int) / 2 ^ (min y.toNat 8) := Int.ediv_nonneg (by omega) (Int.le_of_lt hp)
  have h2 : (a.toNat : Int) / 2 ^ (min y.toNat 8) ≤ a.toNat := Int.ediv_le_self _ (by omega)
  have := u8_toNat ((a.toNat : Int) / 2 ^ (min y.toNat 8))
  simp only [shr_u8, this]
  rw [Int.emod_eq_of_lt h1 (by omega)]
theorem ev_cint_u8 {k' : IntKind} {x : Int} : POp.ev (.cint .u8) [.i k' x] h = some (A8 (u8 x), h) := by
  simp only [POp.ev, AV.i]
  rw [u8_wrap]
theorem ev_min_u8 : POp.ev .min [A8 a, A8 b] h = some (A8 (if b < a then b else a), h) := by
  simp only [POp.ev, AV.i]
  by_cases hab : b < a
  · have : (b.toNat : Int) < a.toNat := by have := UInt8.lt_iff_toNat_lt.1 hab; omega
    simp [hab, this]
  · have : ¬ (b.toNat : Int) < a.toNat := fun e => hab (UInt8.lt_iff_toNat_lt.2 (by omega))
    simp [hab, this]
theorem ev_max_u8 : POp.ev .max [A8 a, A8 b] h = some (A8 (if b > a then b else a), h) := by
  simp only [POp.ev, AV.i]
  by_cases hab : b > a
  · have : (b.toNat : Int) > a.toNat := by have := UInt8.lt_iff_toNat_lt.1 hab; omega
    simp [hab, this]
  · have : ¬ (b.toNat : Int) > a.toNat := fun e => hab (UInt8.lt_iff_toNat_lt.2 (by omega))
    simp [hab, this]
end

abbrev A16 (x : UInt16) : AV := .i .u16 (x.toNat : Int)
def u16 (x : Int) : UInt16 := UInt16.ofNat (x % 65536).toNat
theorem u16_toNat (x : Int) : ((u16 x).toNat : Int) = x % 65536 := by
  have h := Int.emod_lt_of_pos x (show (0 : Int) < 65536 by decide)
  have h2 := Int.emod_nonneg x (show (65536 : Int) ≠ 0 by decide)
  simp only [u16, UInt16.toNat_ofNat']
  omega
theorem u16_wrap (x : Int) : IntKind.u16.wrap x = ((u16 x).toNat : Int) := by rw [u16_toNat, IntKind.wrap_u16]
theorem u16_id (x : UInt16) : u16 (x.toNat : Int) = x := by
  apply UInt16.toNat_inj.1
  have h := u16_toNat (x.toNat : Int)
  have h2 := x.toNat_lt
  omega
theorem u16_lt (x : UInt16) : (x.toNat : Int) < 65536 := by have := x.toNat_lt; omega
theorem u16_inj {a b : UInt16} (h : (a.toNat : Int) = b.toNat) : a = b := UInt16.toNat_inj.1 (by exact_mod_cast h)
theorem u16_bv (a : UInt16) : BitVec.ofInt 16 (a.toNat : Int) = a.toBitVec := by
  apply BitVec.eq_of_toNat_eq
  have := a.toNat_lt
  simp [BitVec.ofInt_natCast, BitVec.toNat_ofNat, Nat.mod_eq_of_lt this]
theorem u16_eq {a : Int} {b : UInt16} (h : a % 65536 = b.toNat) : IntKind.u16.wrap a = (b.toNat : Int) := by rw [IntKind.wrap_u16, h]
section
variable {t : ET} {a b : UInt16} {h : Heap}
theorem ev_add_u16 : POp.ev (.bin .add t) [A16 a, A16 b] h = some (A16 (a + b), h) := by
  simp only [POp.ev, AV.i, binV, isShift, intV, if_true, Bool.false_eq_true, if_false, Option.map_some]
  rw [u16_eq (b := a + b)]; simp [UInt16.toNat_add]
theorem ev_sub_u16 : POp.ev (.bin .sub t) [A16 a, A16 b] h = some (A16 (a - b), h) := by
  simp only [POp.ev, AV.i, binV, isShift, intV, if_true, Bool.false_eq_true, if_false, Option.map_some]
  rw [u16_eq (b := a - b)]
  have ha := a.toNat_lt
  have hb := b.toNat_lt
  rw [UInt16.toNat_sub]
  omega
theorem ev_mul_u16 : POp.ev (.bin .mul t) [A16 a, A16 b] h = some (A16 (a * b), h) := by
  simp only [POp.ev, AV.i, binV, isShift, intV, if_true, Bool.false_eq_true, if_false, Option.map_some]
  rw [u16_eq (b := a * b)]
  rw [UInt16.toNat_mul]
  generalize a.toNat = p
  generalize b.toNat = q
  have e : (p : Int) * (q : Int) = ((p * q : Nat) : Int) := by simp
  rw [e]
  generalize p * q = r
  omega
theorem ev_quo_u16 (hb : chk (decide (b ≠ 0)) = some ()) : POp.ev (.bin .quo t) [A16 a, A16 b] h = some (A16 (a / b), h) := by
  have hb := of_decide_eq_true (chk_ex hb)
  have hb' : ¬ ((b.toNat : Int) = 0) := fun e => hb (u16_inj (by simpa using e))
  simp only [POp.ev, AV.i, binV, isShift, intV, if_true, Bool.false_eq_true, if_false, Option.map_some, hb']
  rw [u16_eq (b := a / b)]
  have ha := a.toNat_lt
  rw [UInt16.toNat_div, Int.tdiv_eq_ediv_of_nonneg (by omega)]
  have : a.toNat / b.toNat ≤ a.toNat := Nat.div_le_self _ _
  have e : ((a.toNat : Int) / (b.toNat : Int)) = ((a.toNat / b.toNat : Nat) : Int) := by simp
  rw [e]
  generalize a.toNat / b.toNat = q at this ⊢
  omega
theorem ev_rem_u16 (hb : chk (decide (b ≠ 0)) = some ()) : POp.ev (.bin .rem t) [A16 a, A16 b] h = some (A16 (a % b), h) := by
  have hb := of_decide_eq_true (chk_ex hb)
  have hb' : ¬ ((b.toNat : Int) = 0) := fun e => hb (u16_inj (by simpa using e))
  simp only [POp.ev, AV.i, binV, isShift, intV, if_true, Bool.false_eq_true, if_false, Option.map_some, hb']
  rw [UInt16.toNat_mod, Int.tmod_eq_emod_of_nonneg (by omega)]
  simp
theorem ev_and_u16 : POp.ev (.bin .and t) [A16 a, A16 b] h = some (A16 (a &&& b), h) := by
  simp only [POp.ev, AV.i, binV, isShift, intV, if_true, Bool.false_eq_true, if_false, Option.map_some]
  have e : (((BitVec.ofInt 16 (a.toNat : Int) &&& BitVec.ofInt 16 (b.toNat : Int)).toNat : Nat) : Int) % 65536 = (a &&& b).toNat := by
    rw [u16_bv, u16_bv, ← UInt16.toBitVec_and, UInt16.toNat_toBitVec]
    have := (a &&& b).toNat_lt
    omega
  exact congrArg (fun z => some (AV.i .u16 z, h)) (u16_eq e)
theorem ev_or_u16 : POp.ev (.bin .or t) [A16 a, A16 b] h = some (A16 (a ||| b), h) := by
  simp only [POp.ev, AV.i, binV, isShift, intV, if_true, Bool.false_eq_true, if_false, Option.map_some]
  have e : (((BitVec.ofInt 16 (a.toNat : Int) ||| BitVec.ofInt 16 (b.toNat : Int)).toNat : Nat) : Int) % 65536 = (a ||| b).toNat := by
    rw [u16_bv, u16_bv, ← UInt16.toBitVec_or, UInt16.toNat_toBitVec]
    have := (a ||| b).toNat_lt
    omega
  exact congrArg (fun z => some (AV.i .u16 z, h)) (u16_eq e)
theorem ev_xor_u16 : POp.ev (.bin .xor t) [A16 a, A16 b] h = some (A16 (a ^^^ b), h) := by
  simp only [POp.ev, AV.i, binV, isShift, intV, if_true, Bool.false_eq_true, if_false, Option.map_some]
  have e : (((BitVec.ofInt 16 (a.toNat : Int) ^^^ BitVec.ofInt 16 (b.toNat : Int)).toNat : Nat) : Int) % 65536 = (a ^^^ b).toNat := by
    rw [u16_bv, u16_bv, ← UInt16.toBitVec_xor, UInt16.toNat_toBitVec]
    have := (a ^^^ b).toNat_lt
    omega
  exact congrArg (fun z => some (AV.i .u16 z, h)) (u16_eq e)
theorem ev_andNot_u16 : POp.ev (.bin .andNot t) [A16 a, A16 b] h = some (A16 (a &&& ~~~b), h) := by
  simp only [POp.ev, AV.i, binV, isShift, intV, if_true, Bool.false_eq_true, if_false, Option.map_some]
  have e : (((BitVec.ofInt 16 (a.toNat : Int) &&& ~~~BitVec.ofInt 16 (b.toNat : Int)).toNat : Nat) : Int) % 65536 = (a &&& ~~~b).toNat := by
    rw [u16_bv, u16_bv, ← UInt16.toBitVec_not, ← UInt16.toBitVec_and, UInt16.toNat_toBitVec]
    have := (a &&& ~~~b).toNat_lt
    omega
  exact congrArg (fun z => some (AV.i .u16 z, h)) (u16_eq e)
theorem ev_eql_u16 : POp.ev (.bin .eql t) [A16 a, A16 b] h = some (.b (decide (a = b)), h) := by
  simp only [POp.ev, AV.i, binV, isShift, intV, if_true, Bool.false_eq_true, if_false, Option.map_some]
  have e : decide (a = b) = ((a.toNat : Int) == (b.toNat : Int)) := by
    by_cases hab : a = b
    · subst hab; simp
    · have : ¬ ((a.toNat : Int) = b.toNat) := fun e => hab (u16_inj e)
      simp [hab, this]
  rw [e]
theorem ev_neq_u16 : POp.ev (.bin .neq t) [A16 a, A16 b] h = some (.b ((!decide (a = b))), h) := by
  simp only [POp.ev, AV.i, binV, isShift, intV, if_true, Bool.false_eq_true, if_false, Option.map_some]
  have e : decide (a = b) = ((a.toNat : Int) == (b.toNat : Int)) := by
    by_cases hab : a = b
    · subst hab; simp
    · have : ¬ ((a.toNat : Int) = b.toNat) := fun e => hab (u16_inj e)
      simp [hab, this]
  rw [e]; rfl
theorem ev_lss_u16 : POp.ev (.bin .lss t) [A16 a, A16 b] h = some (.b (decide (a < b)), h) := by
  simp only [POp.ev, AV.i, binV, isShift, intV, if_true, Bool.false_eq_true, if_false, Option.map_some]
  have e : (decide (a < b)) = true ↔ ((a.toNat : Int) < b.toNat) := by simp [UInt16.lt_iff_toNat_lt, GT.gt, GE.ge]
  congr 3
  rw [Bool.eq_iff_iff, decide_eq_true_iff]
  exact e.symm
theorem ev_leq_u16 : POp.ev (.bin .leq t) [A16 a, A16 b] h = some (.b (decide (a ≤ b)), h) := by
  simp only [POp.ev, AV.i, binV, isShift, intV, if_true, Bool.false_eq_true, if_false, Option.map_some]
  have e : (decide (a ≤ b)) = true ↔ ((a.toNat : Int) ≤ b.toNat) := by simp [UInt16.le_iff_toNat_le, GT.gt, GE.ge]
  congr 3
  rw [Bool.eq_iff_iff, decide_eq_true_iff]
  exact e.symm
theorem ev_gtr_u16 : POp.ev (.bin .gtr t) [A16 a, A16 b] h = some (.b (decide (a > b)), h) := by
  simp only [POp.ev, AV.i, binV, isShift, intV, if_true, Bool.false_eq_true, if_false, Option.map_some]
  have e : (decide (a > b)) = true ↔ ((a.toNat : Int) > b.toNat) := by simp [UInt16.lt_iff_toNat_lt, GT.gt, GE.ge]
  congr 3
  rw [Bool.eq_iff_iff, decide_eq_true_iff]
  exact e.symm
theorem ev_geq_u16 : POp.ev (.bin .geq t) [A16 a, A16 b] h = some (.b (decide (a ≥ b)), h) := by
  simp only [POp.ev, AV.i, binV, isShift, intV, if_true, Bool.false_eq_true, if_false, Option.map_some]
  have e : (decide (a ≥ b)) = true ↔ ((a.toNat : Int) ≥ b.toNat) := by simp [UInt16.le_iff_toNat_le, GT.gt, GE.ge]
  congr 3
  rw [Bool.eq_iff_iff, decide_eq_true_iff]
  exact e.symm

def shl_u16 (a : UInt16) (y : Int) : UInt16 := u16 (a.toNat * 2 ^ (min y.toNat 16))
def shr_u16 (a : UInt16) (y : Int) : UInt16 := u16 ((a.toNat : Int) / 2 ^ (min y.toNat 16))
theorem ev_shl_u16 {k' : IntKind} {y : Int} (hy : chk (decide (0 ≤ y)) = some ()) : POp.ev (.bin .shl t) [A16 a, .i k' y] h = some (A16 (shl_u16 a y), h) := by
  have hy := of_decide_eq_true (chk_ex hy)
  simp only [POp.ev, AV.i, binV, isShift, shiftV, if_true, Option.map_some, show ¬ y < 0 by omega, if_false, IntKind.bits]
  rw [u16_wrap]; rfl
theorem ev_shr_u16 {k' : IntKind} {y : Int} (hy : chk (decide (0 ≤ y)) = some ()) : POp.ev (.bin .shr t) [A16 a, .i k' y] h = some (A16 (shr_u16 a y), h) := by
  have hy := of_decide_eq_true (chk_ex hy)
  simp only [POp.ev, AV.i, binV, isShift, shiftV, if_true, Option.map_some, show ¬ y < 0 by omega, if_false, IntKind.bits]
  have hp : (0 : Int) < 2 ^ (min y.toNat 16) := Int.pow_pos (by decide)
  rw [Int.fdiv_eq_ediv_of_nonneg _ (Int.le_of_lt hp)]
  have ha := a.toNat_lt
  have h1 : (0 : Int) ≤ (a.toNat : Int) / 2 ^ (min y.toNat 16) := Int.ediv_nonneg (by omega) (Int.le_of_lt hp)
  have h2 : (a.toNat : Int) / 2 ^ (min y.toNat 16) ≤ a.toNat := Int.ediv_le_self _ (by omega)
  have := u16_toNat ((a.toNat : Int) / 2 ^ (min y.toNat 16))
  simp only [shr_u16, this]
  rw [Int.emod_eq_of_lt h1 (by omega)]
theorem ev_cint_u16 {k' : IntKind} {x : Int} : POp.ev (.cint .u16) [.i k' x] h = some (A16 (u16 x), h) := by
  simp only [POp.ev, AV.i]
  rw [u16_wrap]
theorem ev_min_u16 : POp.ev .min [A16 a, A16 b] h = some (A16 (if b < a then b else a), h) := by
  simp only [POp.ev, AV.i]
  by_cases hab : b < a
  · have : (b.toNat : Int) < a.toNat := by have := UInt16.lt_iff_toNat_lt.1 hab; omega
    simp [hab, this]
  · have : ¬ (b.toNat : Int) < a.toNat := fun e => hab (UInt16.lt_iff_toNat_lt.2 (by omega))
    simp [hab, this]
theorem ev_max_u16 : POp.ev .max [A16 a, A16 b] h = some (A16 (if b > a then b else a), h) := by
  simp only [POp.ev, AV.i]
  by_cases hab : b > a
  · have : (b.toNat : Int) > a.toNat := by have := UInt16.lt_iff_toNat_lt.1 hab; omega
    simp [hab, this]
  · have : ¬ (b.toNat : Int) > a.toNat := fun e => hab (UInt16.lt_iff_toNat_lt.2 (by omega))
    simp [hab, this]
end

abbrev A32 (x : UInt32) : AV := .i .u32 (x.toNat : Int)
def u32 (x : Int) : UInt32 := UInt32.ofNat (x % 4294967296).toNat
theorem u32_toNat (x : Int) : ((u32 x).toNat : Int) = x % 4294967296 := by
  have h := Int.emod_lt_of_pos x (show (0 : Int) < 4294967296 by decide)
  have h2 := Int.emod_nonneg x (show (4294967296 : Int) ≠ 0 by decide)
  simp only [u32, UInt32.toNat_ofNat']
  omega
theorem u32_wrap (x : Int) : IntKind.u32.wrap x = ((u32 x).toNat : Int) := by rw [u32_toNat, IntKind.wrap_u32]
theorem u32_id (x : UInt32) : u32 (x.toNat : Int) = x := by
  apply UInt32.toNat_inj.1
  have h := u32_toNat (x.toNat : Int)
  have h2 := x.toNat_lt
  omega
theorem u32_lt (x : UInt32) : (x.toNat : Int) < 4294967296 := by have := x.toNat_lt; omega
theorem u32_inj {a b : UInt32} (h : (a.toNat : Int) = b.toNat) : a = b := UInt32.toNat_inj.1 (by exact_mod_cast h)
theorem u32_bv (a : UInt32) : BitVec.ofInt 32 (a.toNat : Int) = a.toBitVec := by
  apply BitVec.eq_of_toNat_eq
  have := a.toNat_lt
  simp [BitVec.ofInt_natCast, BitVec.toNat_ofNat, Nat.mod_eq_of_lt this]
theorem u32_eq {a : Int} {b : UInt32} (h : a % 4294967296 = b.toNat) : IntKind.u32.wrap a = (b.toNat : Int) := by rw [IntKind.wrap_u32, h]
section
variable {t : ET} {a b : UInt32} {h : Heap}
theorem ev_add_u32 : POp.ev (.bin .add t) [A32 a, A32 b] h = some (A32 (a + b), h) := by
  simp only [POp.ev, AV.i, binV, isShift, intV, if_true, Bool.false_eq_true, if_false, Option.map_some]
  rw [u32_eq (b := a + b)]; simp [UInt32.toNat_add]
theorem ev_sub_u32 : POp.ev (.bin .sub t) [A32 a, A32 b] h = some (A32 (a - b), h) := by
  simp only [POp.ev, AV.i, binV, isShift, intV, if_true, Bool.false_eq_true, if_false, Option.map_some]
  rw [u32_eq (b := a - b)]
  have ha := a.toNat_lt
  have hb := b.toNat_lt
  rw [UInt32.toNat_sub]
  omega
theorem ev_mul_u32 : POp.ev (.bin .mul t) [A32 a, A32 b] h = some (A32 (a * b), h) := by
  simp only [POp.ev, AV.i, binV, isShift, intV, if_true, Bool.false_eq_true, if_false, Option.map_some]
  rw [u32_eq (b := a * b)]
  rw [UInt32.toNat_mul]
  generalize a.toNat = p
  generalize b.toNat = q
  have e : (p : Int) * (q : Int) = ((p * q : Nat) : Int) := by simp
  rw [e]
  generalize p * q = r
  omega
theorem ev_quo_u32 (hb : chk (decide (b ≠ 0)) = some ()) : POp.ev (.bin .quo t) [A32 a, A32 b] h = some (A32 (a / b), h) := by
  have hb := of_decide_eq_true (chk_ex hb)
  have hb' : ¬ ((b.toNat : Int) = 0) := fun e => hb (u32_inj (by simpa using e))
  simp only [POp.ev, AV.i, binV, isShift, intV, if_true, Bool.false_eq_true, if_false, Option.map_some, hb']
  rw [u32_eq (b := a / b)]
  have ha := a.toNat_lt
  rw [UInt32.toNat_div, Int.tdiv_eq_ediv_of_nonneg (by omega)]
  have : a.toNat / b.toNat ≤ a.toNat := Nat.div_le_self _ _
  have e : ((a.toNat : Int) / (b.toNat : Int)) = ((a.toNat / b.toNat : Nat) : Int) := by simp
  rw [e]
  generalize a.toNat / b.toNat = q at this ⊢
  omega
theorem ev_rem_u32 (hb : chk (decide (b ≠ 0)) = some ()) : POp.ev (.bin .rem t) [A32 a, A32 b] h = some (A32 (a % b), h) := by
  have hb := of_decide_eq_true (chk_ex hb)
  have hb' : ¬ ((b.toNat : Int) = 0) := fun e => hb (u32_inj (by simpa using e))
  simp only [POp.ev, AV.i, binV, isShift, intV, if_true, Bool.false_eq_true, if_false, Option.map_some, hb']
  rw [UInt32.toNat_mod, Int.tmod_eq_emod_of_nonneg (by omega)]
  simp
theorem ev_and_u32 : POp.ev (.bin .and t) [A32 a, A32 b] h = some (A32 (a &&& b), h) := by
  simp only [POp.ev, AV.i, binV, isShift, intV, if_true, Bool.false_eq_true, if_false, Option.map_some]
  have e : (((BitVec.ofInt 32 (a.toNat : Int) &&& BitVec.ofInt 32 (b.toNat : Int)).toNat : Nat) : Int) % 4294967296 = (a &&& b).toNat := by
    rw [u32_bv, u32_bv, ← UInt32.toBitVec_and, UInt32.toNat_toBitVec]
    have := (a &&& b).toNat_lt
    omega
  exact congrArg (fun z => some (AV.i .u32 z, h)) (u32_eq e)
theorem ev_or_u32 : POp.ev (.bin .or t) [A32 a, A32 b] h = some (A32 (a ||| b), h) := by
  simp only [POp.ev, AV.i, binV, isShift, intV, if_true, Bool.false_eq_true, if_false, Option.map_some]
  have e : (((BitVec.ofInt 32 (a.toNat : Int) ||| BitVec.ofInt 32 (b.toNat : Int)).toNat : Nat) : Int) % 4294967296 = (a ||| b).toNat := by
    rw [u32_bv, u32_bv, ← UInt32.toBitVec_or, UInt32.toNat_toBitVec]
    have := (a ||| b).toNat_lt
    omega
  exact congrArg (fun z => some (AV.i .u32 z, h)) (u32_eq e)
theorem ev_xor_u32 : POp.ev (.bin .xor t) [A32 a, A32 b] h = some (A32 (a ^^^ b), h) := by
  simp only [POp.ev, AV.i, binV, isShift, intV, if_true, Bool.false_eq_true, if_false, Option.map_some]
  have e : (((BitVec.ofInt 32 (a.toNat : Int) ^^^ BitVec.ofInt 32 (b.toNat : Int)).toNat : Nat) : Int) % 4294967296 = (a ^^^ b).toNat := by
    rw [u32_bv, u32_bv, ← UInt32.toBitVec_xor, UInt32.toNat_toBitVec]
    have := (a ^^^ b).toNat_lt
    omega
  exact congrArg (fun z => some (AV.i .u32 z, h)) (u32_eq e)
theorem ev_andNot_u32 : POp.ev (.bin .andNot t) [A32 a, A32 b] h = some (A32 (a &&& ~~~b), h) := by
  simp only [POp.ev, AV.i, binV, isShift, intV, if_true, Bool.false_eq_true, if_false, Option.map_some]
  have e : (((BitVec.ofInt 32 (a.toNat : Int) &&& ~~~BitVec.ofInt 32 (b.toNat : Int)).toNat : Nat) : Int) % 4294967296 = (a &&& ~~~b).toNat := by
    rw [u32_bv, u32_bv, ← UInt32.toBitVec_not, ← UInt32.toBitVec_and, UInt32.toNat_toBitVec]
    have := (a &&& ~~~b).toNat_lt
    omega
  exact congrArg (fun z => some (AV.i .u32 z, h)) (u32_eq e)
theorem ev_eql_u32 : POp.ev (.bin .eql t) [A32 a, A32 b] h = some (.b (decide (a = b)), h) := by
  simp only [POp.ev, AV.i, binV, isShift, intV, if_true, Bool.false_eq_true, if_false, Option.map_some]
  have e : decide (a = b) = ((a.toNat : Int) == (b.toNat : Int)) := by
    by_cases hab : a = b
    · subst hab; simp
    · have : ¬ ((a.toNat : Int) = b.toNat) := fun e => hab (u32_inj e)
      simp [hab, this]
  rw [e]
theorem ev_neq_u32 : POp.ev (.bin .neq t) [A32 a, A32 b] h = some (.b ((!decide (a = b))), h) := by
  simp only [POp.ev, AV.i, binV, isShift, intV, if_true, Bool.false_eq_true, if_false, Option.map_some]
  have e : decide (a = b) = ((a.toNat : Int) == (b.toNat : Int)) := by
    by_cases hab : a = b
    · subst hab; simp
    · have : ¬ ((a.toNat : Int) = b.toNat) := fun e => hab (u32_inj e)
      simp [hab, this]
  rw [e]; rfl
theorem ev_lss_u32 : POp.ev (.bin .lss t) [A32 a, A32 b] h = some (.b (decide (a < b)), h) := by
  simp only [POp.ev, AV.i, binV, isShift, intV, if_true, Bool.false_eq_true, if_false, Option.map_some]
  have e : (decide (a < b)) = true ↔ ((a.toNat : Int) < b.toNat) := by simp [UInt32.lt_iff_toNat_lt, GT.gt, GE.ge]
  congr 3
  rw [Bool.eq_iff_iff, decide_eq_true_iff]
  exact e.symm
theorem ev_leq_u32 : POp.ev (.bin .leq t) [A32 a, A32 b] h = some (.b (decide (a ≤ b)), h) := by
  simp only [POp.ev, AV.i, binV, isShift, intV, if_true, Bool.false_eq_true, if_false, Option.map_some]
  have e : (decide (a ≤ b)) = true ↔ ((a.toNat : Int) ≤ b.toNat) := by simp [UInt32.le_iff_toNat_le, GT.gt, GE.ge]
  congr 3
  rw [Bool.eq_iff_iff, decide_eq_true_iff]
  exact e.symm
theorem ev_gtr_u32 : POp.ev (.bin .gtr t) [A32 a, A32 b] h = some (.b (decide (a > b)), h) := by
  simp only [POp.ev, AV.i, binV, isShift, intV, if_true, Bool.false_eq_true, if_false, Option.map_some]
  have e : (decide (a > b)) = true ↔ ((a.toNat : Int) > b.toNat) := by simp [UInt32.lt_iff_toNat_lt, GT.gt, GE.ge]
  congr 3
  rw [Bool.eq_iff_iff, decide_eq_true_iff]
  exact e.symm
theorem ev_geq_u32 : POp.ev (.bin .geq t) [A32 a, A32 b] h = some (.b (decide (a ≥ b)), h) := by
  simp only [POp.ev, AV.i, binV, isShift, intV, if_true, Bool.false_eq_true, if_false, Option.map_some]
  have e : (decide (a ≥ b)) = true ↔ ((a.toNat : Int) ≥ b.toNat) := by simp [UInt32.le_iff_toNat_le, GT.gt, GE.ge]
  congr 3
  rw [Bool.eq_iff_iff, decide_eq_true_iff]
  exact e.symm

def shl_u32 (a : UInt32) (y : Int) : UInt32 := u32 (a.toNat * 2 ^ (min y.toNat 32))
def shr_u32 (a : UInt32) (y : Int) : UInt32 := u32 ((a.toNat : Int) / 2 ^ (min y.toNat 32))
theorem ev_shl_u32 {k' : IntKind} {y : Int} (hy : chk (decide (0 ≤ y)) = some ()) : POp.ev (.bin .shl t) [A32 a, .i k' y] h = some (A32 (shl_u32 a y), h) := by
  have hy := of_decide_eq_true (chk_ex hy)
  simp only [POp.ev, AV.i, binV, isShift, shiftV, if_true, Option.map_some, show ¬ y < 0 by omega, if_false, IntKind.bits]
  rw [u32_wrap]; rfl
theorem ev_shr_u32 {k' : IntKind} {y : Int} (hy : chk (decide (0 ≤ y)) = some ()) : POp.ev (.bin .shr t) [A32 a, .i k' y] h = some (A32 (shr_u32 a y), h) := by
  have hy := of_decide_eq_true (chk_ex hy)
  simp only [POp.ev, AV.i, binV, isShift, shiftV, if_true, Option.map_some, show ¬ y < 0 by omega, if_false, IntKind.bits]
  have hp : (0 : Int) < 2 ^ (min y.toNat 32) := Int.pow_pos (by decide)
  rw [Int.fdiv_eq_ediv_of_nonneg _ (Int.le_of_lt hp)]
  have ha := a.toNat_lt
  have h1 : (0 : Int) ≤ (a.toNat : Int) / 2 ^ (min y.toNat 32) := Int.ediv_nonneg (by omega) (Int.le_of_lt hp)
  have h2 : (a.toNat : Int) / 2 ^ (min y.toNat 32) ≤ a.toNat := Int.ediv_le_self _ (by omega)
  have := u32_toNat ((a.toNat : Int) / 2 ^ (min y.toNat 32))
  simp only [shr_u32, this]
  rw [Int.emod_eq_of_lt h1 (by omega)]
theorem ev_cint_u32 {k' : IntKind} {x : Int} : POp.ev (.cint .u32) [.i k' x] h = some (A32 (u32 x), h) := by
  simp only [POp.ev, AV.i]
  rw [u32_wrap]
theorem ev_min_u32 : POp.ev .min [A32 a, A32 b] h = some (A32 (if b < a then b else a), h) := by
  simp only [POp.ev, AV.i]
  by_cases hab : b < a
  · have : (b.toNat : Int) < a.toNat := by have := UInt32.lt_iff_toNat_lt.1 hab; omega
    simp [hab, this]
  · have : ¬ (b.toNat : Int) < a.toNat := fun e => hab (UInt32.lt_iff_toNat_lt.2 (by omega))
    simp [hab, this]
theorem ev_max_u32 : POp.ev .max [A32 a, A32 b] h = some (A32 (if b > a then b else a), h) := by
  simp only [POp.ev, AV.i]
  by_cases hab : b > a
  · have : (b.toNat : Int) > a.toNat := by have := UInt32.lt_iff_toNat_lt.1 hab; omega
    simp [hab, this]
  · have : ¬ (b.toNat : Int) > a.toNat := fun e => hab (UInt32.lt_iff_toNat_lt.2 (by omega))
    simp [hab, this]
end

abbrev A64 (x : UInt64) : AV := .i .u64 (x.toNat : Int)
def u64 (x : Int) : UInt64 := UInt64.ofNat (x % 18446744073709551616).toNat
theorem u64_toNat (x : Int) : ((u64 x).toNat : Int) = x % 18446744073709551616 := by
  have h := Int.emod_lt_of_pos x (show (0 : Int) < 18446744073709551616 by decide)
  have h2 := Int.emod_nonneg x (show (18446744073709551616 : Int) ≠ 0 by decide)
  simp only [u64, UInt64.toNat_ofNat']
  omega
theorem u64_wrap (x : Int) : IntKind.u64.wrap x = ((u64 x).toNat : Int) := by rw [u64_toNat, IntKind.wrap_u64]
theorem u64_id (x : UInt64) : u64 (x.toNat : Int) = x := by
  apply UInt64.toNat_inj.1
  have h := u64_toNat (x.toNat : Int)
  have h2 := x.toNat_lt
  omega
theorem u64_lt (x : UInt64) : (x.toNat : Int) < 18446744073709551616 := by have := x.toNat_lt; omega
theorem u64_inj {a b : UInt64} (h : (a.toNat : Int) = b.toNat) : a = b := UInt64.toNat_inj.1 (by exact_mod_cast h)
theorem u64_bv (a : UInt64) : BitVec.ofInt 64 (a.toNat : Int) = a.toBitVec := by
  apply BitVec.eq_of_toNat_eq
  have := a.toNat_lt
  simp [BitVec.ofInt_natCast, BitVec.toNat_ofNat, Nat.mod_eq_of_lt this]
theorem u64_eq {a : Int} {b : UInt64} (h : a % 18446744073709551616 = b.toNat) : IntKind.u64.wrap a = (b.toNat : Int) := by rw [IntKind.wrap_u64, h]
section
variable {t : ET} {a b : UInt64} {h : Heap}
theorem ev_add_u64 : POp.ev (.bin .add t) [A64 a, A64 b] h = some (A64 (a + b), h) := by
  simp only [POp.ev, AV.i, binV, isShift, intV, if_true, Bool.false_eq_true, if_false, Option.map_some]
  rw [u64_eq (b := a + b)]; simp [UInt64.toNat_add]
theorem ev_sub_u64 : POp.ev (.bin .sub t) [A64 a, A64 b] h = some (A64 (a - b), h) := by
  simp only [POp.ev, AV.i, binV, isShift, intV, if_true, Bool.false_eq_true, if_false, Option.map_some]
  rw [u64_eq (b := a - b)]
  have ha := a.toNat_lt
  have hb := b.toNat_lt
  rw [UInt64.toNat_sub]
  omega
theorem ev_mul_u64 : POp.ev (.bin .mul t) [A64 a, A64 b] h = some (A64 (a * b), h) := by
  simp only [POp.ev, AV.i, binV, isShift, intV, if_true, Bool.false_eq_true, if_false, Option.map_some]
  rw [u64_eq (b := a * b)]
  rw [UInt64.toNat_mul]
  generalize a.toNat = p
  generalize b.toNat = q
  have e : (p : Int) * (q : Int) = ((p * q : Nat) : Int) := by simp
  rw [e]
  generalize p * q = r
  omega
theorem ev_quo_u64 (hb : chk (decide (b ≠ 0)) = some ()) : POp.ev (.bin .quo t) [A64 a, A64 b] h = some (A64 (a / b), h) := by
  have hb := of_decide_eq_true (chk_ex hb)
  have hb' : ¬ ((b.toNat : Int) = 0) := fun e => hb (u64_inj (by simpa using e))
  simp only [POp.ev, AV.i, binV, isShift, intV, if_true, Bool.false_eq_true, if_false, Option.map_some, hb']
  rw [u64_eq (b := a / b)]
  have ha := a.toNat_lt
  rw [UInt64.toNat_div, Int.tdiv_eq_ediv_of_nonneg (by omega)]
  have : a.toNat / b.toNat ≤ a.toNat := Nat.div_le_self _ _
  have e : ((a.toNat : Int) / (b.toNat : Int)) = ((a.toNat / b.toNat : Nat) : Int) := by simp
  rw [e]
  generalize a.toNat / b.toNat = q at this ⊢
  omega
theorem ev_rem_u64 (hb : chk (decide (b ≠ 0)) = some ()) : POp.ev (.bin .rem t) [A64 a, A64 b] h = some (A64 (a % b), h) := by
  have hb := of_decide_eq_true (chk_ex hb)
  have hb' : ¬ ((b.toNat : Int) = 0) := fun e => hb (u64_inj (by simpa using e))
  simp only [POp.ev, AV.i, binV, isShift, intV, if_true, Bool.false_eq_true, if_false, Option.map_some, hb']
  rw [UInt64.toNat_mod, Int.tmod_eq_emod_of_nonneg (by omega)]
  simp
theorem ev_and_u64 : POp.ev (.bin .and t) [A64 a, A64 b] h = some (A64 (a &&& b), h) := by
  simp only [POp.ev, AV.i, binV, isShift, intV, if_true, Bool.false_eq_true, if_false, Option.map_some]
  have e : (((BitVec.ofInt 64 (a.toNat : Int) &&& BitVec.ofInt 64 (b.toNat : Int)).toNat : Nat) : Int) % 18446744073709551616 = (a &&& b).toNat := by
    rw [u64_bv, u64_bv, ← UInt64.toBitVec_and, UInt64.toNat_toBitVec]
    have := (a &&& b).toNat_lt
    omega
  exact congrArg (fun z => some (AV.i .u64 z, h)) (u64_eq e)
theorem ev_or_u64 : POp.ev (.bin .or t) [A64 a, A64 b] h = some (A64 (a ||| b), h) := by
  simp only [POp.ev, AV.i, binV, isShift, intV, if_true, Bool.false_eq_true, if_false, Option.map_some]
  have e : (((BitVec.ofInt 64 (a.toNat : Int) ||| BitVec.ofInt 64 (b.toNat : Int)).toNat : Nat) : Int) % 18446744073709551616 = (a ||| b).toNat := by
    rw [u64_bv, u64_bv, ← UInt64.toBitVec_or, UInt64.toNat_toBitVec]
    have := (a ||| b).toNat_lt
    omega
  exact congrArg (fun z => some (AV.i .u64 z, h)) (u64_eq e)
theorem ev_xor_u64 : POp.ev (.bin .xor t) [A64 a, A64 b] h = some (A64 (a ^^^ b), h) := by
  simp only [POp.ev, AV.i, binV, isShift, intV, if_true, Bool.false_eq_true, if_false, Option.map_some]
  have e : (((BitVec.ofInt 64 (a.toNat : Int) ^^^ BitVec.ofInt 64 (b.toNat : Int)).toNat : Nat) : Int) % 18446744073709551616 = (a ^^^ b).toNat := by
    rw [u64_bv, u64_bv, ← UInt64.toBitVec_xor, UInt64.toNat_toBitVec]
    have := (a ^^^ b).toNat_lt
    omega
  exact congrArg (fun z => some (AV.i .u64 z, h)) (u64_eq e)
theorem ev_andNot_u64 : POp.ev (.bin .andNot t) [A64 a, A64 b] h = some (A64 (a &&& ~~~b), h) := by
  simp only [POp.ev, AV.i, binV, isShift, intV, if_true, Bool.false_eq_true, if_false, Option.map_some]
  have e : (((BitVec.ofInt 64 (a.toNat : Int) &&& ~~~BitVec.ofInt 64 (b.toNat : Int)).toNat : Nat) : Int) % 18446744073709551616 = (a &&& ~~~b).toNat := by
    rw [u64_bv, u64_bv, ← UInt64.toBitVec_not, ← UInt64.toBitVec_and, UInt64.toNat_toBitVec]
    have := (a &&& ~~~b).toNat_lt
    omega
  exact congrArg (fun z => some (AV.i .u64 z, h)) (u64_eq e)
theorem ev_eql_u64 : POp.ev (.bin .eql t) [A64 a, A64 b] h = some (.b (decide (a = b)), h) := by
  simp only [POp.ev, AV.i, binV, isShift, intV, if_true, Bool.false_eq_true, if_false, Option.map_some]
  have e : decide (a = b) = ((a.toNat : Int) == (b.toNat : Int)) := by
    by_cases hab : a = b
    · subst hab; simp
    · have : ¬ ((a.toNat : Int) = b.toNat) := fun e => hab (u64_inj e)
      simp [hab, this]
  rw [e]
theorem ev_neq_u64 : POp.ev (.bin .neq t) [A64 a, A64 b] h = some (.b ((!decide (a = b))), h) := by
  simp only [POp.ev, AV.i, binV, isShift, intV, if_true, Bool.false_eq_true, if_false, Option.map_some]
  have e : decide (a = b) = ((a.toNat : Int) == (b.toNat : Int)) := by
    by_cases hab : a = b
    · subst hab; simp
    · have : ¬ ((a.toNat : Int) = b.toNat) := fun e => hab (u64_inj e)
      simp [hab, this]
  rw [e]; rfl
theorem ev_lss_u64 : POp.ev (.bin .lss t) [A64 a, A64 b] h = some (.b (decide (a < b)), h) := by
  simp only [POp.ev, AV.i, binV, isShift, intV, if_true, Bool.false_eq_true, if_false, Option.map_some]
  have e : (decide (a < b)) = true ↔ ((a.toNat : Int) < b.toNat) := by simp [UInt64.lt_iff_toNat_lt, GT.gt, GE.ge]
  congr 3
  rw [Bool.eq_iff_iff, decide_eq_true_iff]
  exact e.symm
theorem ev_leq_u64 : POp.ev (.bin .leq t) [A64 a, A64 b] h = some (.b (decide (a ≤ b)), h) := by
  simp only [POp.ev, AV.i, binV, isShift, intV, if_true, Bool.false_eq_true, if_false, Option.map_some]
  have e : (decide (a ≤ b)) = true ↔ ((a.toNat : Int) ≤ b.toNat) := by simp [UInt64.le_iff_toNat_le, GT.gt, GE.ge]
  congr 3
  rw [Bool.eq_iff_iff, decide_eq_true_iff]
  exact e.symm
theorem ev_gtr_u64 : POp.ev (.bin .gtr t) [A64 a, A64 b] h = some (.b (decide (a > b)), h) := by
  simp only [POp.ev, AV.i, binV, isShift, intV, if_true, Bool.false_eq_true, if_false, Option.map_some]
  have e : (decide (a > b)) = true ↔ ((a.toNat : Int) > b.toNat) := by simp [UInt64.lt_iff_toNat_lt, GT.gt, GE.ge]
  congr 3
  rw [Bool.eq_iff_iff, decide_eq_true_iff]
  exact e.symm
theorem ev_geq_u64 : POp.ev (.bin .geq t) [A64 a, A64 b] h = some (.b (decide (a ≥ b)), h) := by
  simp only [POp.ev, AV.i, binV, isShift, intV, if_true, Bool.false_eq_true, if_false, Option.map_some]
  have e : (decide (a ≥ b)) = true ↔ ((a.toNat : Int) ≥ b.toNat) := by simp [UInt64.le_iff_toNat_le, GT.gt, GE.ge]
  congr 3
  rw [Bool.eq_iff_iff, decide_eq_true_iff]
  exact e.symm

def shl_u64 (a : UInt64) (y : Int) : UInt64 := u64 (a.toNat * 2 ^ (min y.toNat 64))
def shr_u64 (a : UInt64) (y : Int) : UInt64 := u64 ((a.toNat : Int) / 2 ^ (min y.toNat 64))
theorem ev_shl_u64 {k' : IntKind} {y : Int} (hy : chk (decide (0 ≤ y)) = some ()) : POp.ev (.bin .shl t) [A64 a, .i k' y] h = some (A64 (shl_u64 a y), h) := by
  have hy := of_decide_eq_true (chk_ex hy)
  simp only [POp.ev, AV.i, binV, isShift, shiftV, if_true, Option.map_some, show ¬ y < 0 by omega, if_false, IntKind.bits]
  rw [u64_wrap]; rfl
theorem ev_shr_u64 {k' : IntKind} {y : Int} (hy : chk (decide (0 ≤ y)) = some ()) : POp.ev (.bin .shr t) [A64 a, .i k' y] h = some (A64 (shr_u64 a y), h) := by
  have hy := of_decide_eq_true (chk_ex hy)
  simp only [POp.ev, AV.i, binV, isShift, shiftV, if_true, Option.map_some, show ¬ y < 0 by omega, if_false, IntKind.bits]
  have hp : (0 : Int) < 2 ^ (min y.toNat 64) := Int.pow_pos (by decide)
  rw [Int.fdiv_eq_ediv_of_nonneg _ (Int.le_of_lt hp)]
  have ha := a.toNat_lt
  have h1 : (0 : Int) ≤ (a.toNat : Int) / 2 ^ (min y.toNat 64) := Int.ediv_nonneg (by omega) (Int.le_of_lt hp)
  have h2 : (a.toNat : Int) / 2 ^ (min y.toNat 64) ≤ a.toNat := Int.ediv_le_self _ (by omega)
  have := u64_toNat ((a.toNat : Int) / 2 ^ (min y.toNat 64))
  simp only [shr_u64, this]
  rw [Int.emod_eq_of_lt h1 (by omega)]
theorem ev_cint_u64 {k' : IntKind} {x : Int} : POp.ev (.cint .u64) [.i k' x] h = some (A64 (u64 x), h) := by
  simp only [POp.ev, AV.i]
  rw [u64_wrap]
theorem ev_min_u64 : POp.ev .min [A64 a, A64 b] h = some (A64 (if b < a then b else a), h) := by
  simp only [POp.ev, AV.i]
  by_cases hab : b < a
  · have : (b.toNat : Int) < a.toNat := by have := UInt64.lt_iff_toNat_lt.1 hab; omega
    simp [hab, this]
  · have : ¬ (b.toNat : Int) < a.toNat := fun e => hab (UInt64.lt_iff_toNat_lt.2 (by omega))
    simp [hab, this]
theorem ev_max_u64 : POp.ev .max [A64 a, A64 b] h = some (A64 (if b > a then b else a), h) := by
  simp only [POp.ev, AV.i]
  by_cases hab : b > a
  · have : (b.toNat : Int) > a.toNat := by have := UInt64.lt_iff_toNat_lt.1 hab; omega
    simp [hab, this]
  · have : ¬ (b.toNat : Int) > a.toNat := fun e => hab (UInt64.lt_iff_toNat_lt.2 (by omega))
    simp [hab, this]
end

section
variable {α : Type} {z n : Nat} {row : α → List PV} {o x y : Option (List α)} {h : Heap} {k : IntKind} {i lo hi : Int} {s u v : List UInt8} {t : ET}
theorem ev_quo_i64 {a b : Int} (hb : chk (decide (b ≠ 0)) = some ()) : POp.ev (.bin .quo t) [.i .i64 a, .i .i64 b] h = some (.i .i64 (w64 (a.tdiv b)), h) := by
  have hb := of_decide_eq_true (chk_ex hb)
  simp [POp.ev, AV.i, binV, isShift, intV, hb]
theorem ev_rem_i64 {a b : Int} (hb : chk (decide (b ≠ 0)) = some ()) : POp.ev (.bin .rem t) [.i .i64 a, .i .i64 b] h = some (.i .i64 (a.tmod b), h) := by
  have hb := of_decide_eq_true (chk_ex hb)
  simp [POp.ev, AV.i, binV, isShift, intV, hb]
theorem ev_eql_i64 {a b : Int} : POp.ev (.bin .eql t) [.i .i64 a, .i .i64 b] h = some (.b (decide (a = b)), h) := ev_all.2.2.2.2.2.2.2.2.2.2.1 _ _ _ _ _
theorem ev_and_i64 {a b : Int} : POp.ev (.bin .and t) [.i .i64 a, .i .i64 b] h = some (.i .i64 (w64 ((BitVec.ofInt 64 a &&& BitVec.ofInt 64 b).toNat)), h) := rfl
theorem ev_shl_i64 {k' : IntKind} {a y : Int} (hy : chk (decide (0 ≤ y)) = some ()) : POp.ev (.bin .shl t) [.i .i64 a, .i k' y] h = some (.i .i64 (w64 (a * 2 ^ (min y.toNat 64))), h) := by
  have hy := of_decide_eq_true (chk_ex hy)
  simp only [POp.ev, AV.i, binV, isShift, shiftV, if_true, Option.map_some, show ¬ y < 0 by omega, if_false, IntKind.bits]
def imin (a b : Int) : Int := if b < a then b else a
def imax (a b : Int) : Int := if b > a then b else a
theorem ev_min_i64 {a b : Int} : POp.ev .min [.i .i64 a, .i .i64 b] h = some (.i .i64 (imin a b), h) := rfl
theorem ev_max_i64 {a b : Int} : POp.ev .max [.i .i64 a, .i .i64 b] h = some (.i .i64 (imax a b), h) := rfl
theorem ev_len_A : POp.ev .len [oA z row o] h = some (.i .i64 ((L o).length : Int), h) := by cases o <;> simp [oA, POp.ev, AV.nilS, lenOf, AV.i]
theorem ev_len_S : POp.ev .len [oS z row o] h = some (.i .i64 ((L o).length : Int), h) := by cases o <;> simp [oS, oP, POp.ev, AV.nilS, lenOf, AV.i]
theorem ev_lens_s : POp.ev .lens [As s] h = some (.i .i64 (s.length : Int), h) := by
  have e : (ByteArray.mk s.toArray).size = s.length := by simp [ByteArray.size]
  simp only [POp.ev, AV.s, e]
theorem ev_nil_S : POp.ev (.bin .eql .sl) [oS z row o, .nilS] h = some (.b o.isNone, h) := by cases o <;> simp [oS, oP, POp.ev, AV.nilS, binV, eqAtom, AV.b]
theorem ev_nonil_S : POp.ev (.bin .neq .sl) [oS z row o, .nilS] h = some (.b (!o.isNone), h) := by cases o <;> simp [oS, oP, POp.ev, AV.nilS, binV, eqAtom, AV.b]
theorem ev_ix_S {a : α} (hi : ix (L o) i = some a) : POp.ev (.ia z) [oS z row o, .i k i] h = some (.eref (row a) 0, h) := by
  simp only [ix] at hi
  split at hi
  · rename_i hp
    cases o with
    | none => simp [L] at hi
    | some l =>
      simp only [L, Option.getD_some] at hi
      simp [oS, oP, POp.ev, AV.i, hp, hi]
  · cases hi
theorem ev_six {a : UInt8} (hi : ix s i = some a) : POp.ev .sidx [As s, .i k i] h = some (A8 a, h) := by
  simp only [ix] at hi
  split at hi
  · rename_i hp
    simp only [POp.ev, AV.s, AV.i, hp, if_true]
    simp only [hi, Option.map_some]
  · cases hi
theorem size_mk (l : List UInt8) : (ByteArray.mk l.toArray).size = l.length := by simp [ByteArray.size]
theorem ext_mk (l : List UInt8) (a b : Nat) : (ByteArray.mk l.toArray).extract a b = ⟨((l.take b).drop a).toArray⟩ := by
  apply ByteArray.ext
  rw [ByteArray.data_extract]
  apply Array.ext'
  simp only [Array.toList_extract, List.extract_eq_take_drop, List.drop_take]
theorem ev_sl2 {r : List UInt8} (hs : slc s lo hi = some r) {k' : IntKind} : POp.ev (.sstr true true) [As s, .i k lo, .i k' hi] h = some (As r, h) := by
  simp only [slc] at hs
  split at hs
  · rename_i hp
    simp only [Option.some.injEq] at hs; subst hs
    simp only [POp.ev, AV.s, AV.i, bounds, size_mk, hp, and_self, if_true, Option.map_some, ext_mk]
  · cases hs
theorem ev_sl1 {r : List UInt8} (hs : slc s lo (s.length : Int) = some r) : POp.ev (.sstr true false) [As s, .i k lo] h = some (As r, h) := by
  simp only [slc] at hs
  split at hs
  · rename_i hp
    simp only [Option.some.injEq] at hs; subst hs
    simp only [POp.ev, AV.s, AV.i, bounds, size_mk, hp, and_self, if_true, Option.map_some, ext_mk, Int.toNat_natCast]
  · cases hs
theorem ev_slh {r : List UInt8} (hs : slc s 0 hi = some r) : POp.ev (.sstr false true) [As s, .i k hi] h = some (As r, h) := by
  simp only [slc] at hs
  split at hs
  · rename_i hp
    simp only [Option.some.injEq] at hs; subst hs
    simp only [POp.ev, AV.s, AV.i, bounds, size_mk, hp, and_self, if_true, Option.map_some, ext_mk, Int.toNat_zero]
  · cases hs
theorem ev_ss2 {r : Option (List α)} (hs : slO o lo hi = some r) {k' : IntKind} : POp.ev (.ssl z true true) [oS z row o, .i k lo, .i k' hi] h = some (oS z row r, h) := by
  cases o with
  | none =>
    simp only [slO] at hs
    split at hs
    · rename_i hp
      simp only [Option.some.injEq] at hs; subst hs
      simp [oS, oP, POp.ev, AV.nilS, AV.i, bounds, hp]
    · cases hs
  | some l =>
    simp only [slO, slc] at hs
    split at hs
    · rename_i hp
      simp only [Option.map_some, Option.some.injEq] at hs; subst hs
      simp only [oS, oP, POp.ev, AV.i, bounds, List.length_map, hp, and_self, if_true, Option.map_some, List.map_drop, List.map_take]
    · cases hs
theorem ev_ss1 {r : Option (List α)} (hs : slO o lo ((L o).length : Int) = some r) : POp.ev (.ssl z true false) [oS z row o, .i k lo] h = some (oS z row r, h) := by
  cases o with
  | none =>
    simp only [slO, L, Option.getD_none, List.length_nil] at hs
    split at hs
    · rename_i hp
      simp only [Option.some.injEq] at hs; subst hs
      simp at hp
      simp [oS, oP, POp.ev, AV.nilS, AV.i, bounds, hp]
    · cases hs
  | some l =>
    simp only [slO, slc, L, Option.getD_some] at hs
    split at hs
    · rename_i hp
      simp only [Option.map_some, Option.some.injEq] at hs; subst hs
      simp only [oS, oP, POp.ev, AV.i, bounds, List.length_map, hp, and_self, if_true, Option.map_some, List.map_drop, List.map_take, Int.toNat_natCast]
    · cases hs
theorem ev_ssh {r : Option (List α)} (hs : slO o 0 hi = some r) : POp.ev (.ssl z false true) [oS z row o, .i k hi] h = some (oS z row r, h) := by
  cases o with
  | none =>
    simp only [slO] at hs
    split at hs
    · rename_i hp
      simp only [Option.some.injEq] at hs; subst hs
      simp at hp
      simp [oS, oP, POp.ev, AV.nilS, AV.i, bounds, hp]
    · cases hs
  | some l =>
    simp only [slO, slc] at hs
    split at hs
    · rename_i hp
      simp only [Option.map_some, Option.some.injEq] at hs; subst hs
      simp only [oS, oP, POp.ev, AV.i, bounds, List.length_map, hp, and_self, if_true, Option.map_some, List.map_drop, List.map_take, Int.toNat_zero, List.drop_zero]
    · cases hs
theorem ev_ss0 : POp.ev (.ssl z false false) [oS z row o] h = some (oS z row o, h) := by
  cases o with
  | none => simp [oS, oP, POp.ev, AV.nilS, bounds]
  | some l => simp only [oS, oP, POp.ev, bounds, if_true, Option.map_some, List.length_map, List.drop_zero]; rw [List.take_of_length_le (by simp)]
theorem ev_cat {r : List UInt8} (hs : catS u v = some r) : POp.ev (.bin .add t) [As u, As v] h = some (As r, h) := by
  simp only [catS] at hs
  split at hs
  · rename_i hp
    simp only [Option.some.injEq] at hs; subst hs
    simp only [POp.ev, AV.s, binV, strV, size_mk, hp, if_true, Option.map_some]
    have e : (ByteArray.mk u.toArray ++ ByteArray.mk v.toArray) = ByteArray.mk (u ++ v).toArray := by
      apply ByteArray.ext
      simp
    rw [e]
  · cases hs
theorem mk_eq {u v : List UInt8} : (ByteArray.mk u.toArray = ByteArray.mk v.toArray) ↔ u = v := by
  constructor
  · intro e
    have := congrArg (fun b => b.data.toList) e
    simpa using this
  · rintro rfl; rfl
theorem mk_dec {u v : List UInt8} : decide (ByteArray.mk u.toArray = ByteArray.mk v.toArray) = decide (u = v) := decide_eq_decide.2 mk_eq
theorem ev_eql_s : POp.ev (.bin .eql t) [As u, As v] h = some (.b (decide (u = v)), h) := by
  simp only [POp.ev, AV.s, binV, strV, Option.map_some, mk_dec]
theorem ev_neq_s : POp.ev (.bin .neq t) [As u, As v] h = some (.b (!decide (u = v)), h) := by
  simp only [POp.ev, AV.s, binV, strV, Option.map_some, mk_dec]
theorem ev_s2b {r : Option (List UInt8)} (hs : s2b s = some r) : POp.ev .s2b [As s] h = some (oS 1 byteRow r, h) := by
  simp only [s2b] at hs
  split at hs
  · rename_i hp
    simp only [Option.some.injEq] at hs; subst hs
    simp only [POp.ev, AV.s, size_mk, hp, if_true, oS, oP, bytesRows]
  · cases hs
theorem rowsBytes_map (l : List UInt8) : rowsBytes (l.map byteRow) = some l := by
  induction l with
  | nil => rfl
  | cons b l ih =>
    simp only [List.map_cons, rowsBytes, ih]
    simp [rowByte, byteRow]
theorem ev_b2s_A {o : Option (List UInt8)} : POp.ev .b2s [oA 1 byteRow o] h = some (As (L o), h) := by
  cases o <;> simp [oA, POp.ev, AV.nilS, rowsOf, rowsBytes_map, rowsBytes]
theorem ev_b2s_S {o : Option (List UInt8)} : POp.ev .b2s [oS 1 byteRow o] h = some (As (L o), h) := by
  cases o <;> simp [oS, oP, POp.ev, AV.nilS, rowsOf, rowsBytes_map, rowsBytes]
theorem rowsOf_A : rowsOf z (oA z row o) = some ((L o).map row) := by cases o <;> simp [oA, AV.nilS, rowsOf]
theorem rowsOf_S : rowsOf z (oS z row o) = some ((L o).map row) := by cases o <;> simp [oS, oP, AV.nilS, rowsOf]
theorem appR_A {r : Option (List α)} (hs : appO n x y = some r) : appR z n (oA z row x) ((L y).map row) = some (oA z row r) := by
  simp only [appO] at hs
  cases x with
  | none =>
    generalize L y = m at hs ⊢
    cases m with
    | nil => simp at hs; subst hs; rfl
    | cons a l =>
      simp only at hs
      split at hs
      · rename_i hp
        simp only [Option.some.injEq] at hs; subst hs
        simp [oA, AV.nilS, appR, hp]
      · cases hs
  | some l =>
    generalize L y = m at hs ⊢
    simp only at hs
    split at hs
    · rename_i hp
      simp only [Option.some.injEq] at hs; subst hs
      simp [oA, appR, hp]
    · cases hs
theorem ev_app_AA {r : Option (List α)} (hs : appO n x y = some r) : POp.ev (.app z n) [oA z row x, oA z row y] h = some (oA z row r, h) := by
  simp only [POp.ev, rowsOf_A, appR_A hs, Option.map_some]
theorem ev_app_AS {r : Option (List α)} (hs : appO n x y = some r) : POp.ev (.app z n) [oA z row x, oS z row y] h = some (oA z row r, h) := by
  simp only [POp.ev, rowsOf_S, appR_A hs, Option.map_some]
theorem ev_apps {x r : Option (List UInt8)} (hs : appO 1 x (some s) = some r) : POp.ev .apps [oA 1 byteRow x, As s] h = some (oA 1 byteRow r, h) := by
  have := appR_A (z := 1) (row := byteRow) hs
  simp only [L, Option.getD_some] at this
  simp only [POp.ev, AV.s, bytesRows, this, Option.map_some]
end
end Go.Rv

namespace Go.Rv
open Go.RowKit
def rdC : AV → Env → Nat → Nat → AV × Env
  | .tup vs, e, t, i => ((nth vs i).getD .junk, put e t (.tup (setNth vs i .junk)))
  | _, e, _, _ => (.junk, e)
/-- The reading of slots, of components of tuples, of owned lists. -/
theorem rx_all : (∀ e t i, rdA e (.c t i) = rdC (lk e t) e t i) ∧ (∀ vs e t i, rdC (.tup vs) e t i = ((nth vs i).getD .junk, put e t (.tup (setNth vs i .junk)))) ∧
    (∀ x l, nth (x :: l) 0 = some x) ∧ (∀ x l n, nth (x :: l) (n + 1) = nth l n) ∧ (∀ x l v, setNth (x :: l) 0 v = v :: l) ∧ (∀ x l n v, setNth (x :: l) (n + 1) v = x :: setNth l n v) ∧ (∀ (a d : AV), (some a).getD d = a) :=
  ⟨fun e t i => by simp only [rdA]; cases lk e t <;> rfl, fun _ _ _ _ => rfl, fun _ _ => rfl, fun _ _ _ => rfl, fun _ _ _ => rfl, fun _ _ _ _ => rfl, fun _ _ => rfl⟩
theorem oAs {α : Type} {z : Nat} {row : α → List PV} (o : Option (List α)) : strip (oA z row o) = .pv (oP z row o) := by cases o <;> rfl
theorem rf_all : (refsL [] = []) ∧ (∀ a l, refsL (a :: l) = refsOf a ++ refsL l) ∧ (∀ id off, refsOf (.ref id off) = [id]) ∧ (∀ id off n z, refsOf (.view id off n z) = [id]) ∧ (∀ p, refsOf (.pv p) = []) ∧
    (∀ k n, refsOf (.i k n) = []) ∧ (∀ b, refsOf (.b b) = []) ∧ (∀ s, refsOf (.s s) = []) ∧ (refsOf .nilS = []) ∧ (refsOf .nilP = []) ∧ (refsOf .junk = []) ∧ (∀ cs, refsOf (.agg cs) = refsL cs) ∧ (∀ cs, refsOf (.tup cs) = refsL cs) ∧
    (∀ r o, refsOf (.eref r o) = []) ∧ (∀ f a b, refsOf (.clo f a b) = refsL a ++ refsL b) ∧ (∀ (l : List Nat), [] ++ l = l) ∧ (∀ (a : Nat) (l m : List Nat), (a :: l) ++ m = a :: (l ++ m)) :=
  ⟨rfl, fun _ _ => rfl, fun _ _ => rfl, fun _ _ _ _ => rfl, fun _ => rfl, fun _ _ => rfl, fun _ => rfl, fun _ => rfl, rfl, rfl, rfl, fun _ => rfl, fun _ => rfl, fun _ _ => rfl, fun _ _ _ => rfl, fun _ => rfl, fun _ _ _ => rfl⟩
theorem refs_A {α : Type} {z : Nat} {row : α → List PV} (o : Option (List α)) : refsOf (oA z row o) = [] := by cases o <;> rfl
theorem rn_all : (∀ σ, renL σ [] = []) ∧ (∀ σ a l, renL σ (a :: l) = ren σ a :: renL σ l) ∧ (∀ σ id off, ren σ (.ref id off) = .ref (σ id) off) ∧ (∀ σ id off n z, ren σ (.view id off n z) = .view (σ id) off n z) ∧ (∀ σ p, ren σ (.pv p) = .pv p) ∧
    (∀ σ k n, ren σ (.i k n) = .i k n) ∧ (∀ σ b, ren σ (.b b) = .b b) ∧ (∀ σ s, ren σ (.s s) = .s s) ∧ (∀ σ, ren σ .nilS = .nilS) ∧ (∀ σ, ren σ .nilP = .nilP) ∧ (∀ σ, ren σ .junk = .junk) ∧ (∀ σ cs, ren σ (.agg cs) = .agg (renL σ cs)) ∧ (∀ σ cs, ren σ (.tup cs) = .tup (renL σ cs)) ∧
    (∀ σ r o, ren σ (.eref r o) = .eref r o) ∧ (∀ σ f a b, ren σ (.clo f a b) = .clo f (renL σ a) (renL σ b)) :=
  ⟨fun _ => rfl, fun _ _ _ => rfl, fun _ _ _ => rfl, fun _ _ _ _ _ => rfl, fun _ _ => rfl, fun _ _ _ => rfl, fun _ _ => rfl, fun _ _ => rfl, fun _ => rfl, fun _ => rfl, fun _ => rfl, fun _ _ => rfl, fun _ _ => rfl, fun _ _ _ => rfl, fun _ _ _ _ => rfl⟩
theorem ren_A {α : Type} {z : Nat} {row : α → List PV} {σ : Nat → Nat} (o : Option (List α)) : ren σ (oA z row o) = oA z row o := by cases o <;> rfl
theorem notTup_A {α : Type} {z : Nat} {row : α → List PV} (o : Option (List α)) : notTup (oA z row o) = true := by cases o <;> rfl
theorem cells_A {α : Type} {z : Nat} {row : α → List PV} (o : Option (List α)) : cellsOf (oA z row o) = [oA z row o] := by cases o <;> rfl
theorem adm_A {α : Type} {z : Nat} {row : α → List PV} (o : Option (List α)) : adm (oA z row o) (.pv (oP z row o)) := .inr (oAs o)
theorem adm_n {α : Type} {z : Nat} {row : α → List PV} : adm (oA z row none) .nilS := .inl rfl
section
variable {P : Program} {W0 : World} {L : World → Prop}
theorem Good.adm {as bs : List AV} {H H' : Heap} {f : FuncId} {r : AV} (x : admL as bs) (g : Good P L f bs H r H') : Good P L f as H r H' := by
  intro W0 hL φ gh w vs hi hh hl ha
  obtain ⟨h1, h2⟩ := admL_get x
  refine g W0 hL φ gh w vs hi hh (by omega) fun i b v p q => ?_
  have hlt : i < as.length := by rw [h1]; exact (List.getElem?_eq_some_iff.1 p).1
  obtain ⟨b', hb, hx⟩ := h2 i as[i] (by simp [hlt])
  rw [hb] at p
  simp only [Option.some.injEq] at p
  subst p
  exact (ha i as[i] v (by simp [hlt]) q).adm hx
end
/-- The end of a function. -/
def FinR (r : AV) (H : Heap) : AV → Heap → Prop := fun r' h' => adm r' r ∧ admH h' H
theorem good_of_wpF {P : Program} {L : World → Prop} {f : FuncId} {fn : Func} {sf : SFn} {as : List AV} {H H' : Heap} {r : AV} (hf : P.funcs[f]? = some fn) (hok : fnOk P fn sf = true) (hwk : wkOk H.length sf.body = true) (hl : as.length ≤ sf.n) (hH : H.length ≤ H'.length)
    (hw : wpS P L sf.body (endQ sf.res H'.length (FinR r H')) ⟨argEnv 0 as, H⟩) : Good P L f as H r H' := by
  intro W0 hL φ g w vs hinv hh hvl hva
  simp only [fnOk, Bool.and_eq_true, beq_iff_eq] at hok
  obtain ⟨⟨hm, hn⟩, hr⟩ := hok
  split at hm
  case h_2 => cases hm
  rename_i c hc
  refine calls_of_wp hf hc ?_
  refine wp_mono (code_sound (n0 := H.length) (φ0 := φ) (g0 := g) (w0 := w) hL sf.body c _ _ _ w hwk hm hw ?_) ?_
  · refine ⟨⟨φ, g, ⟨hinv, hh, fun t => ?_⟩, Tr.refl⟩, by simp [hvl]; omega, rfl⟩
    simp only [lk_argEnv, Nat.zero_le, if_true, Nat.sub_zero]
    cases ha : as[t]? with
    | none => exact RepA.junk
    | some a =>
      have hlt : t < vs.length := by rw [hvl]; exact (List.getElem?_eq_some_iff.1 ha).1
      have := hva t a vs[t] ha (by simp [hlt])
      have he : (vs.toArray ++ Array.replicate (fn.ntmps - vs.toArray.size) undef).getD t undef = vs[t] := by
        simp [Array.getD_eq_getD_getElem?, Array.getElem?_append, hlt]
      simp only [Option.getD_some]
      rw [he]
      exact this
  · intro e a w' hq
    have key : ∀ s, endQ sf.res H'.length (FinR r H') .ret s → At W0 H.length φ g w sf.n s a w' →
        a.defers = [] ∧ ∃ v, (results fn a.tmps).run P w' = .ok v w' ∧ ∃ v_1 φ' g', Ending.returned v = .returned v_1 ∧ Inv W0 g' w' ∧ RepH W0.heap.size φ' g' w' H' ∧ RepA W0.heap.size H'.length φ' g' w' .res r v_1 ∧ Tr W0 H.length φ g w H'.length φ' g' w' := by
      rintro s ⟨r', hr', hk, h1, h2, hadm, hadmH⟩ ⟨⟨φ', g', hsr, htr⟩, hN, hd⟩
      have hlen : (s.heap.take H'.length).length = H'.length := by simp; omega
      generalize hH0 : s.heap.take H'.length = H0 at h2 hadmH hlen
      rw [← hlen] at hH0 h1 h2 hH hk
      have hH' := hH0
      refine ⟨hd, ?_⟩
      have hrr : ∃ l, resVs s sf.res = some l ∧ r' = tupA l := by
        unfold resAll at hr'
        split at hr'
        · rename_i x hx; exact ⟨_, hx, by simpa [tupA] using hr'.symm⟩
        · rename_i l hne hx
          refine ⟨_, hx, ?_⟩
          simp only [Option.some.injEq] at hr'
          match l, hne with
          | [], _ => exact hr'.symm
          | [x], hne => exact absurd rfl (hne x)
          | _ :: _ :: _, _ => exact hr'.symm
        · cases hr'
      obtain ⟨l, hl', rfl⟩ := hrr
      obtain ⟨g2, us, q1, q2, q3, q4, q5, q6, q7, q8, q9⟩ := res_spec sf.res fn.results.toList 0 g' s.env l hsr hr hl'
      have h3 : ∃ g3 : Gh, Inv W0 g3 w' ∧ RepH W0.heap.size φ' g3 w' s.heap ∧ RepA W0.heap.size s.heap.length φ' g3 w' .res (tupA l) (tupV us) ∧ g3.lim = g2.lim ∧ ∀ b, g2.ow b = none → g3.ow b = none := by
        match l, us, q6, q8 with
        | [], [], _, _ => exact ⟨g2, q3, q4, .tup _ _ rfl (fun i a v p => by simp at p), rfl, fun _ h => h⟩
        | [x], [u], _, q8 =>
          have hkk := KeepU.reroot W0.heap.size g2 w' (.sub .res 0) .res
          exact ⟨g2.reroot (.sub .res 0) .res, q3.reroot _ _, q4.reroot (by simp [Loc.root]) (by simp [Loc.root]), .b _ _ ((q8 0 x u rfl rfl).keep (Ext.reroot _ _ _ _ _) (Nat.le_refl _) (fun _ _ => rfl) hkk.k0 hkk.k1), rfl, fun _ => reroot_none⟩
        | x :: y :: l, u :: v :: us, q6, q8 => exact ⟨g2, q3, q4, .tup _ _ (by simpa using q6.symm) (fun i a z p q => by simpa using q8 i a z p (by simpa using q)), rfl, fun _ h => h⟩
      obtain ⟨g3, i1, i2, i3, i4, i5⟩ := h3
      have hz1 : RepH W0.heap.size φ' g3 w' H0 := by
        intro id hid
        have hid' : id < s.heap.length := by omega
        have hob : hget H0 id = hget s.heap id := by
          rw [← hH0, hget_eq, hget_eq, List.getElem?_take, if_pos hid]
        have hmem : hget H0 id ∈ H0 := by
          rw [hget_eq, List.getElem?_eq_getElem hid]; simp
        have hrefs := List.all_eq_true.1 h2 _ hmem
        rw [hob] at hrefs ⊢
        have z := (i2 id hid').mv (n' := H0.length) (φ' := φ') (id' := id) (σ := _root_.id) (Ext.refl _ _ _) rfl ⟨fun _ h => ⟨rfl, rfl, h⟩⟩ (fun _ => ⟨fun _ h => ⟨rfl, rfl, h⟩⟩) (fun i hi _ => ⟨by
          have := List.all_eq_true.1 hrefs i hi
          simpa using this, rfl⟩)
        rwa [renL_id] at z
      have hz2 : RepA W0.heap.size H0.length φ' g3 w' .res (tupA l) (tupV us) := by
        have z := i3.mv (n' := H0.length) (φ' := φ') (σ := _root_.id) (Ext.refl _ _ _) KeepU.refl (fun i hi _ => ⟨by
          have := List.all_eq_true.1 h1 i hi
          simpa using this, rfl⟩)
        rwa [ren_id] at z
      refine ⟨tupV us, results_run q5 q7, _, φ', g3, rfl, i1, hz1.adm hadmH, by rw [← hlen]; exact hz2.adm hadm, ?_⟩
      rw [← hlen]
      refine ⟨⟨htr.ext.size, fun b => by rw [i4, q1]; exact htr.ext.lim b, htr.ext.cell, htr.ext.csz⟩, fun b hb hn => ?_, hH, htr.phi⟩
      obtain ⟨a1, a2, a3⟩ := htr.none b hb hn
      exact ⟨a1, by rw [i4, q1]; exact a2, i5 b (q2 b a3)⟩
    cases e with
    | normal => obtain ⟨s, h1, h2⟩ := hq; exact key s h1 h2
    | ret => obtain ⟨s, h1, h2⟩ := hq; exact key s h1 h2
    | exit i => obtain ⟨s, h1, h2⟩ := hq; exact h1.elim
    | goto l => exact hq.elim
    | panic ch => exact hq.elim
    | outgrown => exact hq.elim
theorem fun_of_wpF {P : Program} {L : World → Prop} {f : FuncId} {fn : Func} {sf : SFn} {as : List AV} {H H' : Heap} {r : AV} (hf : P.funcs[f]? = some fn) (hok : fnOk P fn sf = true) (hwk : wkOk H.length sf.body = true) (hen : enterOk P f = true) (hl : Nat.ble as.length sf.n = true) (hH : Nat.ble H.length H'.length = true)
    (hw : wpS P L sf.body (endQ sf.res H'.length (FinR r H')) ⟨argEnv 0 as, H⟩) : Fun P L f as H r H' := ⟨hen, good_of_wpF hf hok hwk (Nat.le_of_ble_eq_true hl) (Nat.le_of_ble_eq_true hH) hw⟩
section
variable {P : Program} {L : World → Prop} {op : POp} {args : List Arg} {d : Nat} {od : Option Nat} {os : List SOp} {K : St → Prop} {e e' : Env} {h h' : Heap} {vs vs' : List AV} {r : AV} {e2 et ef : Env} {t : Nat} {b want x : Bool} {f : FuncId} {ts : List Nat} {sc p q : SCode} {Q : SExit → St → Prop} {c : Nat} {rs : List SRes} {k : Nat} {R : AV → Heap → Prop} {x' : SExit}
theorem t_op (h4 : wpO P L os K ⟨e2, h'⟩) (h1 : rdAs e args = (vs, e') := by simp only [rd_all, rx_all, pt_all, oAs, reduceIte, Nat.reduceEqDiff, Nat.reduceLT] <;> rfl) (h2 : op.ev vs h = some (r, h') := by rfl)
    (h3 : put e' d r = e2 := by simp only [pt_all, reduceIte, Nat.reduceEqDiff, Nat.reduceLT] <;> rfl) : wpO P L (⟨op, args, some d, none⟩ :: os) K ⟨e, h⟩ := by
  refine wpO_op (s1 := ⟨e2, h'⟩) ?_ h4
  simp [step1, guardOk, h1, h2, putD, h3]
theorem t_st (h4 : wpO P L os K ⟨e', h'⟩) (h1 : rdAs e args = (vs, e') := by simp only [rd_all, rx_all, pt_all, oAs, reduceIte, Nat.reduceEqDiff, Nat.reduceLT] <;> rfl) (h2 : op.ev vs h = some (r, h') := by rfl) : wpO P L (⟨op, args, none, none⟩ :: os) K ⟨e, h⟩ := by
  refine wpO_op (s1 := ⟨e', h'⟩) ?_ h4
  simp [step1, guardOk, h1, h2, putD]
theorem t_call (w : wpO P L os K ⟨e2, h⟩) (hgood : Fun P L f vs' [] r []) (h1 : rdAs e args = (vs, e') := by simp only [rd_all, rx_all, pt_all, oAs, reduceIte, Nat.reduceEqDiff, Nat.reduceLT] <;> rfl) (hv : admL vs vs' := by exact admL_r)
    (hr : refsL vs = [] := by (try simp only [rf_all, refs_A]) <;> rfl) (hr2 : refsOf r = [] := by (try simp only [rf_all, refs_A]) <;> rfl)
    (h3 : put e' d r = e2 := by simp only [pt_all, reduceIte, Nat.reduceEqDiff, Nat.reduceLT] <;> rfl) : wpO P L (⟨.call (some f), args, some d, none⟩ :: os) K ⟨e, h⟩ :=
  q_call0 rfl rfl (by simp [calleeOf, h1]) hgood.1 (hgood.2.adm hv) ⟨hr, hr2⟩ (by simp [h1, putD, h3]) w
theorem t_callN (w : wpO P L os K ⟨e', h⟩) (hgood : Fun P L f vs' [] r []) (h1 : rdAs e args = (vs, e') := by simp only [rd_all, rx_all, pt_all, oAs, reduceIte, Nat.reduceEqDiff, Nat.reduceLT] <;> rfl) (hv : admL vs vs' := by exact admL_r)
    (hr : refsL vs = [] := by (try simp only [rf_all, refs_A]) <;> rfl) (hr2 : refsOf r = [] := by (try simp only [rf_all, refs_A]) <;> rfl) : wpO P L (⟨.call (some f), args, none, none⟩ :: os) K ⟨e, h⟩ :=
  q_call0 rfl rfl (by simp [calleeOf, h1]) hgood.1 (hgood.2.adm hv) ⟨hr, hr2⟩ (by simp [h1, putD]) w
theorem t_callH {l : List Nat} {as' bs : List AV} {H H' H2 : Heap} {r2 : AV} (w : wpO P L os K ⟨e2, H2⟩) (hgood : Fun P L f bs H r H') (h2 : subHeap h l = H := by (simp only [subHeap, List.map, hget, rn_all, ren_A]) <;> rfl) (h7 : mergeH (backOf l h.length) h l H' = H2 := by (simp only [mergeH, putAll, hset, List.length, List.drop, List.map, List.cons_append, List.nil_append, List.append_nil, rn_all, ren_A]) <;> rfl)
    (h8 : ren (backOf l h.length) r = r2 := by (try simp only [rn_all, ren_A]) <;> rfl)
    (h1 : rdAs e args = (vs, e') := by simp only [rd_all, rx_all, pt_all, oAs, reduceIte, Nat.reduceEqDiff, Nat.reduceLT] <;> rfl) (h6 : renL (posOf l) vs = as' := by (simp only [rn_all, ren_A]) <;> rfl) (hv : admL as' bs := by exact admL_r)
    (h5 : closedB h l vs = true := by simp only [closedB, rf_all, refs_A, hget, List.all_cons, List.all_nil] <;> rfl) (h3 : put e' d r2 = e2 := by simp only [pt_all, reduceIte, Nat.reduceEqDiff, Nat.reduceLT] <;> rfl) :
    wpO P L (⟨.call (some f), args, some d, none⟩ :: os) K ⟨e, h⟩ := by
  refine q_call (o := ⟨.call (some f), args, some d, none⟩) (f := some f) (fid := f) (as := vs) (as' := as') (l := l) (H := H) (H' := H') (H'' := H2) (r := r) rfl rfl (by simp [calleeOf, h1]) hgood.1 h5 h6 h2 (hgood.2.adm hv) h7 ?_
  simpa [h1, putD, h8, h3] using w
theorem t_callHN {l : List Nat} {as' bs : List AV} {H H' H2 : Heap} (w : wpO P L os K ⟨e', H2⟩) (hgood : Fun P L f bs H r H') (h2 : subHeap h l = H := by (simp only [subHeap, List.map, hget, rn_all, ren_A]) <;> rfl) (h7 : mergeH (backOf l h.length) h l H' = H2 := by (simp only [mergeH, putAll, hset, List.length, List.drop, List.map, List.cons_append, List.nil_append, List.append_nil, rn_all, ren_A]) <;> rfl)
    (h1 : rdAs e args = (vs, e') := by simp only [rd_all, rx_all, pt_all, oAs, reduceIte, Nat.reduceEqDiff, Nat.reduceLT] <;> rfl) (h6 : renL (posOf l) vs = as' := by (simp only [rn_all, ren_A]) <;> rfl) (hv : admL as' bs := by exact admL_r)
    (h5 : closedB h l vs = true := by simp only [closedB, rf_all, refs_A, hget, List.all_cons, List.all_nil] <;> rfl) :
    wpO P L (⟨.call (some f), args, none, none⟩ :: os) K ⟨e, h⟩ := by
  refine q_call (o := ⟨.call (some f), args, none, none⟩) (f := some f) (fid := f) (as := vs) (as' := as') (l := l) (H := H) (H' := H') (H'' := H2) (r := r) rfl rfl (by simp [calleeOf, h1]) hgood.1 h5 h6 h2 (hgood.2.adm hv) h7 ?_
  simpa [h1, putD] using w
/-- Two ways, by what a slot holds. -/
theorem o_cs (t : Nat) (ht : b = true → wpO P L os K ⟨et, h⟩) (hf : b = false → wpO P L os K ⟨ef, h⟩) (h1 : lk e t = .b b := by simp only [rd_all, reduceIte, Nat.reduceEqDiff] <;> rfl) (hs : srt e = true := by rfl) (e1 : put e t (.b true) = et := by simp only [pt_all, reduceIte, Nat.reduceEqDiff, Nat.reduceLT] <;> rfl)
    (e2 : put e t (.b false) = ef := by simp only [pt_all, reduceIte, Nat.reduceEqDiff, Nat.reduceLT] <;> rfl) : wpO P L os K ⟨e, h⟩ := by
  have hp := put_self (a := .b b) hs h1 (by simp [AV.b])
  cases b with
  | true => rw [← e1, hp] at ht; exact ht rfl
  | false => rw [← e2, hp] at hf; exact hf rfl
theorem d_cs (t : Nat) {us : List (List Nat)} {Fs : List Foot} (ht : b = true → wpD P L os us Fs K ⟨et, h⟩) (hf : b = false → wpD P L os us Fs K ⟨ef, h⟩) (h1 : lk e t = .b b := by simp only [rd_all, reduceIte, Nat.reduceEqDiff] <;> rfl) (hs : srt e = true := by rfl) (e1 : put e t (.b true) = et := by simp only [pt_all, reduceIte, Nat.reduceEqDiff, Nat.reduceLT] <;> rfl)
    (e2 : put e t (.b false) = ef := by simp only [pt_all, reduceIte, Nat.reduceEqDiff, Nat.reduceLT] <;> rfl) : wpD P L os us Fs K ⟨e, h⟩ := by
  have hp := put_self (a := .b b) hs h1 (by simp [AV.b])
  cases b with
  | true => rw [← e1, hp] at ht; exact ht rfl
  | false => rw [← e2, hp] at hf; exact hf rfl
-- what touches memory
theorem ev_alloc {zs : List AV} {n : Nat} {h2 : Heap} (hn : h.length = n) (hh : h ++ [zs] = h2) : POp.ev (.alloc zs) [] h = some (.ref n 0, h2) := by subst hn hh; rfl
theorem ev_box {a : AV} {cs : List AV} {n : Nat} {h2 : Heap} (hn : h.length = n) (h1 : notTup a = true) (hc : cellsOf (strip a) = cs) (hh : h ++ [cs] = h2) : POp.ev .box [a] h = some (.ref n 0, h2) := by subst hn hc hh; simp [POp.ev, h1]
theorem ev_ld1 {id off : Nat} {a a' : AV} (h1 : nth (hget h id) off = some a) (h2 : strip a = a') : POp.ev (.load none) [.ref id off] h = some (a', h) := by subst h2; simp [POp.ev, h1]
theorem ev_ldn {id off k : Nat} {cs : List AV} (h1 : Nat.ble (off + k) (hget h id).length = true) (h2 : stripL (((hget h id).drop off).take k) = cs) : POp.ev (.load (some k)) [.ref id off] h = some (.agg cs, h) := by
  have := Nat.le_of_ble_eq_true h1
  subst h2; simp [POp.ev, this]
theorem ev_lde {row : List PV} {off k : Nat} {cs : List AV} (h1 : Nat.ble (off + k) row.length = true) (h2 : ((row.drop off).take k).map AV.pv = cs) : POp.ev (.load (some k)) [.eref row off] h = some (.agg cs, h) := by
  have := Nat.le_of_ble_eq_true h1
  subst h2; simp [POp.ev, this]
theorem ev_ldm {id off : Nat} {a : AV} {h2 : Heap} (h1 : nth (hget h id) off = some a) (hh : hset h id (setNth (hget h id) off .junk) = h2) : POp.ev .loadm [.ref id off] h = some (a, h2) := by subst hh; simp [POp.ev, h1]
theorem ev_stn {id off k : Nat} {a : AV} {cs : List AV} {h2 : Heap} (h0 : notTup a = true) (h1 : cellsOf a = cs) (hk : Nat.beq cs.length k = true) (hle : Nat.ble (off + k) (hget h id).length = true) (hh : hset h id (splice (hget h id) off cs) = h2) :
    POp.ev (.store k) [.ref id off, a] h = some (.junk, h2) := by
  have e1 := Nat.eq_of_beq_eq_true hk
  have e2 := Nat.le_of_ble_eq_true hle
  subst h1 hh
  simp [POp.ev, h0, e1, e2]
theorem ev_fld1 {off : Nat} {cs : List AV} {a a' : AV} (h1 : nth cs off = some a) (h2 : strip a = a') : POp.ev (.fld off none) [.agg cs] h = some (a', h) := by subst h2; simp [POp.ev, h1]
theorem ev_fldn {off k : Nat} {cs ds : List AV} (h1 : Nat.ble (off + k) cs.length = true) (h2 : stripL ((cs.drop off).take k) = ds) : POp.ev (.fld off (some k)) [.agg cs] h = some (.agg ds, h) := by
  have := Nat.le_of_ble_eq_true h1
  subst h2; simp [POp.ev, this]
theorem ev_bld {zs as cs : List AV} {offs : List (Nat × Nat)} (h1 : buildL zs offs as = some cs) : POp.ev (.build zs offs) as h = some (.agg cs, h) := by simp [POp.ev, h1]
theorem bl_nil {cs : List AV} : buildL cs [] [] = some cs := rfl
theorem bl_cons {cs as ds es : List AV} {off sz : Nat} {offs : List (Nat × Nat)} {a : AV} (h1 : notTup a = true) (h2 : cellsOf (strip a) = es) (h3 : Nat.beq es.length sz = true) (h4 : Nat.ble (off + sz) cs.length = true) (h5 : buildL (splice cs off es) offs as = some ds) :
    buildL cs ((off, sz) :: offs) (a :: as) = some ds := by
  have e1 := Nat.eq_of_beq_eq_true h3
  have e2 := Nat.le_of_ble_eq_true h4
  subst h2
  simp [buildL, h1, e1, e2, h5]
theorem ev_pickT {a b : AV} : POp.ev .pick [.b true, a, b] h = some (a, h) := rfl
theorem ev_pickF {a b : AV} : POp.ev .pick [.b false, a, b] h = some (b, h) := rfl
theorem ev_not {b : Bool} : POp.ev (.un .not) [.b b] h = some (.b (!b), h) := rfl
theorem ev_eql_b {a b : Bool} : POp.ev (.bin .eql .b) [.b a, .b b] h = some (.b (a == b), h) := rfl
theorem ev_neq_b {a b : Bool} : POp.ev (.bin .neq .b) [.b a, .b b] h = some (.b (!(a == b)), h) := rfl
theorem chk0 {b : Bool} (h : b = true) : chk b = some () := by subst h; rfl
theorem chk_nat {n : Nat} : chk (decide ((0 : Int) ≤ (n : Int))) = some () := by simp [chk]
theorem n_fin {r0 : AV} {H H0 : Heap} (h1 : resAll ⟨e, h⟩ rs = some r0) (h5 : adm r0 r) (h2 : h.take k = H0) (h6 : admH H0 H) (hx : ∀ i, x' ≠ .exit i := by intro i hi; cases hi) (hk : Nat.ble k h.length = true := by rfl)
    (h3 : (refsOf r0).all (fun i => decide (i < k)) = true := by (try simp only [rf_all, refs_A]) <;> rfl) (h4 : H0.all (fun ob => (refsL ob).all fun i => decide (i < k)) = true := by (try simp only [rf_all, refs_A, List.all_cons]) <;> rfl) : endQ rs k (FinR r H) x' ⟨e, h⟩ := by
  subst h2
  have := Nat.le_of_ble_eq_true hk
  cases x' with
  | exit i => exact absurd rfl (hx i)
  | normal => exact ⟨r0, h1, this, h3, h4, h5, h6⟩
  | ret => exact ⟨r0, h1, this, h3, h4, h5, h6⟩
end
end Go.Rv
namespace Go.Rv
open Go.RowKit
theorem cl_agg {cs : List AV} : cellsOf (.agg cs) = stripL cs := rfl
theorem cl_pv {p : PV} : cellsOf (.pv p) = [.pv p] := rfl
/-- Objects, written and read. -/
theorem hp_all : (∀ x h o, hset (x :: h) 0 o = o :: h) ∧ (∀ x h n o, hset (x :: h) (n + 1) o = x :: hset h n o) ∧ (∀ x h, hget (x :: h) 0 = x) ∧ (∀ x h n, hget (x :: h) (n + 1) = hget h n) ∧
    (∀ x l v, setNth (x :: l) 0 v = v :: l) ∧ (∀ x l n v, setNth (x :: l) (n + 1) v = x :: setNth l n v) ∧ (∀ l off cs, splice l off cs = l.take off ++ (cs ++ l.drop (off + cs.length))) ∧
    (∀ (x : AV) l n, (x :: l).take (n + 1) = x :: l.take n) ∧ (∀ (l : List AV), l.take 0 = []) ∧ (∀ (x : AV) l n, (x :: l).drop (n + 1) = l.drop n) ∧ (∀ (l : List AV), l.drop 0 = l) ∧ (∀ n, ([] : List AV).drop n = []) ∧
    (∀ (x : AV) l m, (x :: l) ++ m = x :: (l ++ m)) ∧ (∀ (l : List AV), [] ++ l = l) ∧ (∀ (x : AV) l, (x :: l).length = l.length + 1) ∧ (([] : List AV).length = 0) :=
  ⟨fun _ _ _ => rfl, fun _ _ _ _ => rfl, fun _ _ => rfl, fun _ _ _ => rfl, fun _ _ _ => rfl, fun _ _ _ _ => rfl, fun _ _ _ => by simp [splice], fun _ _ _ => rfl, fun _ => rfl, fun _ _ _ => rfl, fun _ => rfl, fun n => by cases n <;> rfl, fun _ _ _ => rfl, fun _ => rfl, fun _ _ => rfl, rfl⟩
-- the results
theorem ra0 {s : St} (h : resVs s [] = some []) : resAll s [] = some (.tup []) := rfl
theorem ra1 {s : St} {rs : List SRes} {a : AV} (h : resVs s rs = some [a]) : resAll s rs = some a := by simp [resAll, h]
theorem ran {s : St} {rs : List SRes} {a b : AV} {l : List AV} (h : resVs s rs = some (a :: b :: l)) : resAll s rs = some (.tup (a :: b :: l)) := by simp [resAll, h]
theorem rs_nil {s : St} : resVs s [] = some [] := rfl
theorem rs_tmp {e e2 : Env} {h : Heap} {t : Nat} {rs : List SRes} {a : AV} {l : List AV} (h1 : lk e t = a := by simp only [rd_all, reduceIte, Nat.reduceEqDiff] <;> rfl) (h2 : notTup a = true := by first | rfl | exact notTup_A _)
    (h3 : rm e t = e2 := by simp only [rd_all, reduceIte, Nat.reduceEqDiff] <;> rfl) (h4 : resVs ⟨e2, h⟩ rs = some l) : resVs ⟨e, h⟩ (.tmp t :: rs) = some (a :: l) := by
  have : resV ⟨e, h⟩ (.tmp t) = some a := by
    simp only [resV, h1]
    cases a <;> first | rfl | cases h2
  simp [resVs, this, h3, h4]
theorem rs_cell {e : Env} {h : Heap} {t id off : Nat} {rs : List SRes} {a a' : AV} {l : List AV} (h1 : lk e t = .ref id off := by simp only [rd_all, reduceIte, Nat.reduceEqDiff] <;> rfl) (h2 : nth (hget h id) off = some a := by rfl) (h3 : strip a = a' := by first | exact oAs _ | rfl) (h4 : resVs ⟨e, h⟩ rs = some l) :
    resVs ⟨e, h⟩ (.cell t none :: rs) = some (a' :: l) := by
  subst h3
  simp [resVs, resV, h1, h2, h4]
theorem rs_celln {e : Env} {h : Heap} {t id off k : Nat} {rs : List SRes} {cs : List AV} {l : List AV} (h1 : lk e t = .ref id off := by simp only [rd_all, reduceIte, Nat.reduceEqDiff] <;> rfl) (h2 : Nat.ble (off + k) (hget h id).length = true := by rfl)
    (h3 : stripL (((hget h id).drop off).take k) = cs := by simp only [hp_all, rd_all, oAs] <;> rfl) (h4 : resVs ⟨e, h⟩ rs = some l) : resVs ⟨e, h⟩ (.cell t (some k) :: rs) = some (.agg cs :: l) := by
  have := Nat.le_of_ble_eq_true h2
  subst h3
  simp [resVs, resV, h1, this, h4]
section
variable {P : Program} {L : World → Prop} {op : POp} {args : List Arg} {d : Nat} {od : Option Nat} {os : List SOp} {K : St → Prop} {e e' : Env} {h h' : Heap} {vs vs' : List AV} {r : AV} {e2 et ef : Env} {t : Nat} {b want : Bool}
  {f : FuncId} {us : List (List Nat)} {Fs : List Foot} {F : Foot} {sc p q : SCode} {Q : SExit → St → Prop} {W : World → Prop} {c : SCode}
theorem u_op (h4 : wpD P L os us.tail (Fs ++ [F]) K ⟨e2, h'⟩) (h1 : rdAs e args = (vs, e') := by simp only [rd_all, rx_all, pt_all, oAs, reduceIte, Nat.reduceEqDiff, Nat.reduceLT] <;> rfl) (h2 : op.ev vs h = some (r, h') := by rfl)
    (h3 : put e' d r = e2 := by simp only [pt_all, reduceIte, Nat.reduceEqDiff, Nat.reduceLT] <;> rfl) (h5 : footOf op vs h = F := by rfl) (h6 : F.ord.all (fun i => decide (i < h.length)) = true := by rfl) (h7 : footsOk (us.headD []) Fs F = true := by rfl) :
    wpD P L (⟨op, args, some d, none⟩ :: os) us Fs K ⟨e, h⟩ := d_op h4 h1 h2 h3 h5 h6 h7
theorem u_st (h4 : wpD P L os us.tail (Fs ++ [F]) K ⟨e', h'⟩) (h1 : rdAs e args = (vs, e') := by simp only [rd_all, rx_all, pt_all, oAs, reduceIte, Nat.reduceEqDiff, Nat.reduceLT] <;> rfl) (h2 : op.ev vs h = some (r, h') := by rfl)
    (h5 : footOf op vs h = F := by rfl) (h6 : F.ord.all (fun i => decide (i < h.length)) = true := by rfl) (h7 : footsOk (us.headD []) Fs F = true := by rfl) :
    wpD P L (⟨op, args, none, none⟩ :: os) us Fs K ⟨e, h⟩ := by
  have hne : ∀ f, op ≠ .call f := by rintro f rfl; simp [POp.ev] at h2
  simp only [wpD, guardOk, h1, h2, h5]
  exact ⟨h6, h7, by simpa only [putD] using h4⟩
theorem u_call (w : wpD P L os us.tail (Fs ++ [.none]) K ⟨e2, h⟩) (hgood : Fun P L f vs' [] r []) (h1 : rdAs e args = (vs, e') := by simp only [rd_all, rx_all, pt_all, oAs, reduceIte, Nat.reduceEqDiff, Nat.reduceLT] <;> rfl) (hv : admL vs vs' := by exact admL_r)
    (hr : refsL vs = [] := by (try simp only [rf_all, refs_A]) <;> rfl) (hr2 : refsOf r = [] := by (try simp only [rf_all, refs_A]) <;> rfl)
    (h3 : put e' d r = e2 := by simp only [pt_all, reduceIte, Nat.reduceEqDiff, Nat.reduceLT] <;> rfl) : wpD P L (⟨.call (some f), args, some d, none⟩ :: os) us Fs K ⟨e, h⟩ :=
  d_call ⟨hgood.1, hgood.2.adm hv⟩ w h1 hr hr2 h3
theorem un_nil {h : Heap} {l0 wr : List Nat} {H' : Heap} : ∀ i ∈ ([] : List Nat), wr.contains i = true ∨ renL (backOf l0 h.length) (hget H' (posOf l0 i)) = hget h i := fun i hi => by cases hi
theorem un_cons {h : Heap} {l0 wr : List Nat} {H' : Heap} {j : Nat} {l : List Nat} (hj : wr.contains j = true ∨ renL (backOf l0 h.length) (hget H' (posOf l0 j)) = hget h j)
    (hl : ∀ i ∈ l, wr.contains i = true ∨ renL (backOf l0 h.length) (hget H' (posOf l0 i)) = hget h i) : ∀ i ∈ j :: l, wr.contains i = true ∨ renL (backOf l0 h.length) (hget H' (posOf l0 i)) = hget h i := by
  intro i hi
  rcases List.mem_cons.1 hi with rfl | hi
  · exact hj
  · exact hl i hi
theorem u_callH {l wr : List Nat} {as' bs : List AV} {H H' H2 : Heap} {r2 : AV} {gr : Option Nat} (w : wpD P L os us.tail (Fs ++ [⟨l, wr, gr⟩]) K ⟨e2, H2⟩) (hgood : Fun P L f bs H r H') (hu : ∀ i ∈ l, wr.contains i = true ∨ renL (backOf l h.length) (hget H' (posOf l i)) = hget h i)
    (h2 : subHeap h l = H := by (simp only [subHeap, List.map, hget, rn_all, ren_A]) <;> rfl) (h7 : mergeH (backOf l h.length) h l H' = H2 := by (simp only [mergeH, putAll, hset, List.length, List.drop, List.map, List.cons_append, List.nil_append, List.append_nil, rn_all, ren_A]) <;> rfl)
    (h8 : ren (backOf l h.length) r = r2 := by (try simp only [rn_all, ren_A]) <;> rfl)
    (h1 : rdAs e args = (vs, e') := by simp only [rd_all, rx_all, pt_all, oAs, reduceIte, Nat.reduceEqDiff, Nat.reduceLT] <;> rfl) (h6 : renL (posOf l) vs = as' := by (simp only [rn_all, ren_A]) <;> rfl) (hv : admL as' bs := by exact admL_r)
    (h5 : closedB h l vs = true := by simp only [closedB, rf_all, refs_A, hget, List.all_cons, List.all_nil] <;> rfl) (h3 : put e' d r2 = e2 := by simp only [pt_all, reduceIte, Nat.reduceEqDiff, Nat.reduceLT] <;> rfl)
    (h9 : Nat.ble l.length H'.length = true := by rfl) (h10 : wr.all (fun i => l.contains i) = true := by rfl) (h11 : growOf l r H' h.length = gr := by (try simp only [growOf, rf_all, refs_A, List.all_cons]) <;> rfl) (h12 : footsOk (us.headD []) Fs ⟨l, wr, gr⟩ = true := by rfl) :
    wpD P L (⟨.call (some f), args, some d, none⟩ :: os) us Fs K ⟨e, h⟩ := by
  subst h11 h6 h2
  simp only [wpD, guardOk, calleeOf, h1]
  exact ⟨hgood.1, l, r, H', wr, h5, hgood.2.adm hv, Nat.le_of_ble_eq_true h9, h10, hu, h12, by simpa only [putD, h8, h3, h7] using w⟩
theorem u_callHN {l wr : List Nat} {as' bs : List AV} {H H' H2 : Heap} {gr : Option Nat} (w : wpD P L os us.tail (Fs ++ [⟨l, wr, gr⟩]) K ⟨e', H2⟩) (hgood : Fun P L f bs H r H') (hu : ∀ i ∈ l, wr.contains i = true ∨ renL (backOf l h.length) (hget H' (posOf l i)) = hget h i)
    (h2 : subHeap h l = H := by (simp only [subHeap, List.map, hget, rn_all, ren_A]) <;> rfl) (h7 : mergeH (backOf l h.length) h l H' = H2 := by (simp only [mergeH, putAll, hset, List.length, List.drop, List.map, List.cons_append, List.nil_append, List.append_nil, rn_all, ren_A]) <;> rfl)
    (h1 : rdAs e args = (vs, e') := by simp only [rd_all, rx_all, pt_all, oAs, reduceIte, Nat.reduceEqDiff, Nat.reduceLT] <;> rfl) (h6 : renL (posOf l) vs = as' := by (simp only [rn_all, ren_A]) <;> rfl) (hv : admL as' bs := by exact admL_r)
    (h5 : closedB h l vs = true := by simp only [closedB, rf_all, refs_A, hget, List.all_cons, List.all_nil] <;> rfl)
    (h9 : Nat.ble l.length H'.length = true := by rfl) (h10 : wr.all (fun i => l.contains i) = true := by rfl) (h11 : growOf l r H' h.length = gr := by (try simp only [growOf, rf_all, refs_A, List.all_cons]) <;> rfl) (h12 : footsOk (us.headD []) Fs ⟨l, wr, gr⟩ = true := by rfl) :
    wpD P L (⟨.call (some f), args, none, none⟩ :: os) us Fs K ⟨e, h⟩ := by
  subst h11 h6 h2
  simp only [wpD, guardOk, calleeOf, h1]
  exact ⟨hgood.1, l, r, H', wr, h5, hgood.2.adm hv, Nat.le_of_ble_eq_true h9, h10, hu, h12, by simpa only [putD, h7] using w⟩
theorem u_yes (w : wpD P L (⟨op, args, od, none⟩ :: os) us Fs K ⟨e, h⟩) (h1 : lk e t = .b want := by simp only [rd_all, reduceIte, Nat.reduceEqDiff] <;> rfl) : wpD P L (⟨op, args, od, some (t, want)⟩ :: os) us Fs K ⟨e, h⟩ := d_yes w h1
/-- Ways meet; some slots are let go. -/
theorem q_seqJD {X α : Type} (f : X → St) (J : X → Option α) {d : α} {s : St} {ts : List Nat} (hk : ∀ x, J x = some d → wpS P W c Q (f x)) (ha : wpS P W sc (thenQ (fun s' => ∃ x, (⟨dropL ts s'.env, s'.heap⟩ : St) = f x ∧ J x = some d) Q) s) : wpS P W (.seq sc (.drop ts c)) Q s := by
  refine wpS_mono sc s (thenQ_mono ?_ fun _ _ h => h) ha
  rintro s ⟨x, hx, h⟩
  have := hk x h
  rw [← hx] at this
  exact this
end
end Go.Rv
namespace Go.Rv
open Go.RowKit
def rowI (x : Int) : List PV := [.lit (.int .i64 x)]
def rowB (x : Bool) : List PV := [.lit (.bool x)]
def rowS (x : List UInt8) : List PV := [.lit (.string ⟨x.toArray⟩)]
def row_u16 (x : UInt16) : List PV := [.lit (.int .u16 (x.toNat : Int))]
def row_u32 (x : UInt32) : List PV := [.lit (.int .u32 (x.toNat : Int))]
def row_u64 (x : UInt64) : List PV := [.lit (.int .u64 (x.toNat : Int))]
def rowL {α : Type} (z : Nat) (row : α → List PV) (x : Option (List α)) : List PV := [oP z row x]
section
variable {h : Heap} {a b : Int} {t : ET}
theorem ev_add_i64 : POp.ev (.bin .add t) [.i .i64 a, .i .i64 b] h = some (.i .i64 (w64 (a + b)), h) := rfl
theorem ev_sub_i64 : POp.ev (.bin .sub t) [.i .i64 a, .i .i64 b] h = some (.i .i64 (w64 (a - b)), h) := rfl
theorem ev_mul_i64 : POp.ev (.bin .mul t) [.i .i64 a, .i .i64 b] h = some (.i .i64 (w64 (a * b)), h) := rfl
theorem ev_lss_i64 : POp.ev (.bin .lss t) [.i .i64 a, .i .i64 b] h = some (.b (decide (a < b)), h) := rfl
theorem ev_leq_i64 : POp.ev (.bin .leq t) [.i .i64 a, .i .i64 b] h = some (.b (decide (a ≤ b)), h) := rfl
theorem ev_gtr_i64 : POp.ev (.bin .gtr t) [.i .i64 a, .i .i64 b] h = some (.b (decide (a > b)), h) := rfl
theorem ev_geq_i64 : POp.ev (.bin .geq t) [.i .i64 a, .i .i64 b] h = some (.b (decide (a ≥ b)), h) := rfl
theorem ev_neq_i64 : POp.ev (.bin .neq t) [.i .i64 a, .i .i64 b] h = some (.b (!decide (a = b)), h) := ev_all.2.2.2.2.2.2.2.2.2.2.2.1 _ _ _ _ _
theorem ev_cint_i64 {k' : IntKind} {x : Int} : POp.ev (.cint .i64) [.i k' x] h = some (.i .i64 (w64 x), h) := rfl
theorem ev_neg_i64 : POp.ev (.un .neg) [.i .i64 a] h = some (.i .i64 (w64 (0 - a)), h) := rfl
end
end Go.Rv

namespace Go.Rv
open Go.RowKit
/-- Typed values. T: the types of slices' elements, by number. -/
inductive TV (T : Nat → Type) where
  | n (k : IntKind) (x : Int)
  | u8 (x : UInt8)
  | u16 (x : UInt16)
  | u32 (x : UInt32)
  | u64 (x : UInt64)
  | b (x : Bool)
  | s (l : List UInt8)
  | bs (o : Option (List UInt8))
  | bo (o : Option (List UInt8))
  | sl (k : Nat) (o : Option (List (T k)))
  | ow (k : Nat) (o : Option (List (T k)))
  | nilS
  | nilP
  | nilF
  | ref (id off : Nat)
  | e8 (x : UInt8)
  | er (k : Nat) (x : T k) (off : Nat)
  | agg (cs : List (TV T))
  | tup (vs : List (TV T))
  | clo (f : Nat) (a c : List (TV T))
  | vw (k id n : Nat)
  | vr (k id : Nat) (i : Int) (off : Nat)
  | blk (k : Nat) (l : List (T k))
  | junk
/-- Cells of rows. -/
inductive Tm where
  | n (k : IntKind) | u8 | u16 | u32 | u64 | b | s | bs | sl (k : Nat)
variable {T : Nat → Type}
abbrev Tm.ty (T : Nat → Type) : Tm → Type
  | .n _ => Int | .u8 => UInt8 | .u16 => UInt16 | .u32 => UInt32 | .u64 => UInt64 | .b => Bool | .s => List UInt8 | .bs => Option (List UInt8) | .sl k => Option (List (T k))
abbrev tyA (T : Nat → Type) : List Tm → Type
  | [] => Unit
  | a :: l => a.ty T × tyA T l
def injA : (a : Tm) → a.ty T → TV T
  | .n k, x => .n k x | .u8, x => .u8 x | .u16, x => .u16 x | .u32, x => .u32 x | .u64, x => .u64 x | .b, x => .b x | .s, x => .s x | .bs, x => .bs x | .sl k, x => .sl k x
def injAL : (l : List Tm) → tyA T l → List (TV T)
  | [], _ => []
  | a :: l, x => injA a x.1 :: injAL l x.2
/-- What is told of the elements' types. -/
structure Tab (T : Nat → Type) where
  sh : Nat → List Tm
  un : (k : Nat) → T k → tyA T (sh k)
  bk : (k : Nat) → tyA T (sh k) → T k
  prow : (k : Nat) → T k → List PV
  b8 : List (T 0) → List UInt8
def Tab.sz (tb : Tab T) (k : Nat) : Nat := (tb.sh k).length
def pvA (tb : Tab T) : (a : Tm) → a.ty T → PV
  | .n k, x => .lit (.int k x) | .u8, x => .lit (.int .u8 (UInt8.toNat x : Int)) | .u16, x => .lit (.int .u16 (UInt16.toNat x : Int)) | .u32, x => .lit (.int .u32 (UInt32.toNat x : Int)) | .u64, x => .lit (.int .u64 (UInt64.toNat x : Int))
  | .b, x => .lit (.bool x) | .s, x => .lit (.string ⟨List.toArray x⟩) | .bs, x => oP 1 byteRow x | .sl k, x => oP (tb.sz k) (tb.prow k) x
def pvAL (tb : Tab T) : (l : List Tm) → tyA T l → List PV
  | [], _ => []
  | a :: l, x => pvA tb a x.1 :: pvAL tb l x.2
structure Tab.Ok (tb : Tab T) : Prop where
  um : ∀ k x, tb.un k (tb.bk k x) = x
  row : ∀ k x, tb.prow k x = pvAL tb (tb.sh k) (tb.un k x)
  z8 : tb.sh 0 = [.u8]
  b8 : ∀ l, (tb.b8 l).map byteRow = l.map (tb.prow 0)
def Tab.rw (tb : Tab T) (k : Nat) (x : T k) : List (TV T) := injAL (tb.sh k) (tb.un k x)
mutual
def av (tb : Tab T) : TV T → AV
  | .n k x => .i k x
  | .u8 x => .i .u8 (x.toNat : Int)
  | .u16 x => .i .u16 (x.toNat : Int)
  | .u32 x => .i .u32 (x.toNat : Int)
  | .u64 x => .i .u64 (x.toNat : Int)
  | .b x => .b x
  | .s l => .s ⟨l.toArray⟩
  | .bs o => .pv (oP 1 byteRow o)
  | .bo o => oA 1 byteRow o
  | .sl k o => .pv (oP (tb.sz k) (tb.prow k) o)
  | .ow k o => oA (tb.sz k) (tb.prow k) o
  | .nilS => .nilS
  | .nilP => .nilP
  | .nilF => .pv (.lit .nilFunc)
  | .ref i o => .ref i o
  | .e8 x => .eref (byteRow x) 0
  | .er k x off => .eref (tb.prow k x) off
  | .agg cs => .agg (avL tb cs)
  | .tup cs => .tup (avL tb cs)
  | .clo f a c => .clo (.func f) (avL tb a) (avL tb c)
  | .vw k id n => .view id 0 n (tb.sz k)
  | .vr k id i off => .ref id (i.toNat * tb.sz k + off)
  | .blk _ _ => .junk
  | .junk => .junk
def avL (tb : Tab T) : List (TV T) → List AV
  | [] => []
  | a :: l => av tb a :: avL tb l
end
abbrev TEnv (T : Nat → Type) := List (Nat × TV T)
abbrev THeap (T : Nat → Type) := List (List (TV T))
structure TSt (T : Nat → Type) where
  env : TEnv T
  heap : THeap T
def lkT : TEnv T → Nat → TV T
  | [], _ => .junk
  | (k, v) :: e, t => if k = t then v else lkT e t
def rmT : TEnv T → Nat → TEnv T
  | [], _ => []
  | (k, v) :: e, t => if k = t then rmT e t else (k, v) :: rmT e t
def putT' : TEnv T → Nat → TV T → TEnv T
  | [], t, v => [(t, v)]
  | (k, x) :: e, t, v => if t < k then (t, v) :: (k, x) :: e else if k = t then (t, v) :: e else (k, x) :: putT' e t v
mutual
def stripT : TV T → TV T
  | .ow k o => .sl k o
  | .bo o => .bs o
  | .agg cs => .agg (stripTL cs)
  | .tup cs => .tup (stripTL cs)
  | .n k x => .n k x | .u8 x => .u8 x | .u16 x => .u16 x | .u32 x => .u32 x | .u64 x => .u64 x | .b x => .b x | .s l => .s l | .bs o => .bs o | .sl k o => .sl k o | .nilS => .nilS | .nilP => .nilP | .nilF => .nilF
  | .ref i o => .ref i o | .e8 x => .e8 x | .er k x o => .er k x o | .clo f a c => .clo f a c | .vw k i n => .vw k i n | .vr k j i o => .vr k j i o | .blk k l => .blk k l | .junk => .junk
def stripTL : List (TV T) → List (TV T)
  | [] => []
  | a :: l => stripT a :: stripTL l
end
def nthT : List (TV T) → Nat → Option (TV T)
  | [], _ => none
  | x :: _, 0 => some x
  | _ :: l, n + 1 => nthT l n
def setNthT : List (TV T) → Nat → TV T → List (TV T)
  | [], _, _ => []
  | _ :: l, 0, v => v :: l
  | x :: l, n + 1, v => x :: setNthT l n v
def hsetT : THeap T → Nat → List (TV T) → THeap T
  | [], _, _ => []
  | _ :: h, 0, o => o :: h
  | x :: h, n + 1, o => x :: hsetT h n o
def hgetT : THeap T → Nat → List (TV T)
  | [], _ => []
  | x :: _, 0 => x
  | _ :: h, n + 1 => hgetT h n
def spliceT (l : List (TV T)) (off : Nat) (cs : List (TV T)) : List (TV T) := l.take off ++ cs ++ l.drop (off + cs.length)
def dropTL : List Nat → TEnv T → TEnv T
  | [], e => e
  | t :: ts, e => dropTL ts (rmT e t)
def cellsT : TV T → List (TV T)
  | .agg cs => stripTL cs
  | a => [a]
def notTupT : TV T → Bool
  | .tup _ => false
  | .junk => false
  | .blk _ _ => false
  | _ => true
mutual
def refsT : TV T → List Nat
  | .ref id _ => [id]
  | .agg cs => refsTL cs
  | .tup cs => refsTL cs
  | .clo _ a b => refsTL a ++ refsTL b
  | .vw _ id _ => [id]
  | .vr _ id _ _ => [id]
  | .blk _ _ => []
  | .n _ _ => [] | .u8 _ => [] | .u16 _ => [] | .u32 _ => [] | .u64 _ => [] | .b _ => [] | .s _ => [] | .bs _ => [] | .bo _ => [] | .sl _ _ => [] | .ow _ _ => [] | .nilS => [] | .nilP => [] | .nilF => [] | .e8 _ => [] | .er _ _ _ => [] | .junk => []
def refsTL : List (TV T) → List Nat
  | [] => []
  | a :: l => refsT a ++ refsTL l
end
mutual
def renT (σ : Nat → Nat) : TV T → TV T
  | .ref id o => .ref (σ id) o
  | .agg cs => .agg (renTL σ cs)
  | .tup cs => .tup (renTL σ cs)
  | .clo f a b => .clo f (renTL σ a) (renTL σ b)
  | .vw k id n => .vw k (σ id) n
  | .vr k id i off => .vr k (σ id) i off
  | .blk k l => .blk k l
  | .n k x => .n k x | .u8 x => .u8 x | .u16 x => .u16 x | .u32 x => .u32 x | .u64 x => .u64 x | .b x => .b x | .s l => .s l | .bs o => .bs o | .bo o => .bo o | .sl k o => .sl k o | .ow k o => .ow k o | .nilS => .nilS | .nilP => .nilP | .nilF => .nilF
  | .e8 x => .e8 x | .er k x o => .er k x o | .junk => .junk
def renTL (σ : Nat → Nat) : List (TV T) → List (TV T)
  | [] => []
  | a :: l => renT σ a :: renTL σ l
end
def reachT (h : THeap T) : Nat → List Nat → List Nat → List Nat
  | 0, _, acc => acc
  | _ + 1, [], acc => acc
  | n + 1, i :: t, acc => if acc.contains i then reachT h n t acc else reachT h n (refsTL (hgetT h i) ++ t) (acc ++ [i])
def subHeapT (h : THeap T) (l : List Nat) : THeap T := l.map fun i => renTL (posOf l) (hgetT h i)
def putAllT (f : Nat → Nat) : THeap T → List Nat → THeap T → THeap T
  | h, i :: l, o :: H => putAllT f (hsetT h i (renTL f o)) l H
  | h, _, _ => h
def mergeHT (f : Nat → Nat) (h : THeap T) (l : List Nat) (H : THeap T) : THeap T := putAllT f h l H ++ (H.drop l.length).map (renTL f)
def closedT (h : THeap T) (l : List Nat) (as : List (TV T)) : Bool :=
  (refsTL as).all (fun i => l.contains i) && l.all (fun i => decide (i < h.length) && (refsTL (hgetT h i)).all fun j => l.contains j) && nodupB l
/-- Arguments. -/
inductive TArg (T : Nat → Type) where
  | v (t : Nat)
  | m (t : Nat)
  | c (t i : Nat)
  | k (a : TV T)
def rdT : TEnv T → TArg T → TV T × TEnv T
  | e, .v t => (stripT (lkT e t), e)
  | e, .m t => (lkT e t, rmT e t)
  | e, .c t i => match lkT e t with
    | .tup vs => ((nthT vs i).getD .junk, putT' e t (.tup (setNthT vs i .junk)))
    | _ => (.junk, e)
  | e, .k a => (a, e)
def rdTs : TEnv T → List (TArg T) → List (TV T) × TEnv T
  | e, [] => ([], e)
  | e, x :: xs => let r := rdT e x; let q := rdTs r.2 xs; (r.1 :: q.1, q.2)

-- ---------- the words in AV ----------
variable (tb : Tab T)
def avE (e : TEnv T) : Env := e.map fun p => (p.1, av tb p.2)
/-- Rows that are written, as an object. -/
def avO (o : List (TV T)) : List AV := match o with
  | [.blk k l] => (l.map (tb.prow k)).flatten.map AV.pv
  | o => avL tb o
def avH (h : THeap T) : Heap := h.map (avO tb)
def avS (s : TSt T) : St := ⟨avE tb s.env, avH tb s.heap⟩
def avArg : TArg T → Arg
  | .v t => .v t
  | .m t => .m t
  | .c t i => .c t i
  | .k a => .k (av tb a)
variable {tb}
theorem avL_map : ∀ l : List (TV T), avL tb l = l.map (av tb)
  | [] => rfl
  | a :: l => by simp [avL, avL_map l]
theorem lk_av : ∀ (e : TEnv T) (t : Nat), lk (avE tb e) t = av tb (lkT e t)
  | [], t => by simp [avE, lk, lkT, av]
  | (k, v) :: e, t => by
    simp only [avE, List.map_cons, lk, lkT]
    split
    · rfl
    · exact lk_av e t
theorem rm_av : ∀ (e : TEnv T) (t : Nat), rm (avE tb e) t = avE tb (rmT e t)
  | [], t => rfl
  | (k, v) :: e, t => by
    have ih := rm_av e t
    simp only [avE] at ih
    simp only [avE, List.map_cons, rm, rmT]
    split
    · exact ih
    · simp only [List.map_cons]; rw [ih]
theorem put_av : ∀ (e : TEnv T) (t : Nat) (v : TV T), put (avE tb e) t (av tb v) = avE tb (putT' e t v)
  | [], t, v => rfl
  | (k, x) :: e, t, v => by
    have ih := put_av e t v
    simp only [avE] at ih
    simp only [avE, List.map_cons, put, putT']
    split
    · simp
    · split
      · simp
      · simp only [List.map_cons]; rw [ih]
mutual
theorem strip_av : ∀ a : TV T, strip (av tb a) = av tb (stripT a)
  | .ow k o => by simp only [av, stripT]; exact oAs o
  | .bo o => by simp only [av, stripT]; exact oAs o
  | .agg cs => by simp only [av, stripT, strip, stripL_av cs]
  | .tup cs => by simp only [av, stripT, strip, stripL_av cs]
  | .n _ _ => rfl | .u8 _ => rfl | .u16 _ => rfl | .u32 _ => rfl | .u64 _ => rfl | .b _ => rfl | .s _ => rfl | .bs _ => rfl | .sl _ _ => rfl | .nilS => rfl | .nilP => rfl | .nilF => rfl | .ref _ _ => rfl | .e8 _ => rfl | .er _ _ _ => rfl | .clo _ _ _ => rfl | .vw _ _ _ => rfl | .vr _ _ _ _ => rfl | .blk _ _ => rfl | .junk => rfl
theorem stripL_av : ∀ l : List (TV T), stripL (avL tb l) = avL tb (stripTL l)
  | [] => rfl
  | a :: l => by simp only [avL, stripL, stripTL, strip_av a, stripL_av l]
end
mutual
theorem stripT_stripT : ∀ a : TV T, stripT (stripT a) = stripT a
  | .agg cs => by simp only [stripT, stripTL_stripTL cs]
  | .tup cs => by simp only [stripT, stripTL_stripTL cs]
  | .ow _ _ => rfl | .bo _ => rfl | .n _ _ => rfl | .u8 _ => rfl | .u16 _ => rfl | .u32 _ => rfl | .u64 _ => rfl | .b _ => rfl | .s _ => rfl | .bs _ => rfl | .sl _ _ => rfl | .nilS => rfl | .nilP => rfl | .nilF => rfl | .ref _ _ => rfl | .e8 _ => rfl | .er _ _ _ => rfl | .clo _ _ _ => rfl | .vw _ _ _ => rfl | .vr _ _ _ _ => rfl | .blk _ _ => rfl | .junk => rfl
theorem stripTL_stripTL : ∀ l : List (TV T), stripTL (stripTL l) = stripTL l
  | [] => rfl
  | a :: l => by simp only [stripTL, stripT_stripT a, stripTL_stripTL l]
end
theorem nth_av : ∀ (l : List (TV T)) (n : Nat), nth (avL tb l) n = (nthT l n).map (av tb)
  | [], n => rfl
  | a :: l, 0 => rfl
  | a :: l, n + 1 => nth_av l n
theorem setNth_av : ∀ (l : List (TV T)) (n : Nat) (v : TV T), setNth (avL tb l) n (av tb v) = avL tb (setNthT l n v)
  | [], n, v => rfl
  | a :: l, 0, v => rfl
  | a :: l, n + 1, v => by simp only [avL, setNth, setNthT, setNth_av l n v]
theorem hset_av : ∀ (h : THeap T) (n : Nat) (o : List (TV T)), hset (avH tb h) n (avO tb o) = avH tb (hsetT h n o)
  | [], n, o => rfl
  | a :: l, 0, o => rfl
  | a :: l, n + 1, o => by
    have ih := hset_av l n o
    simp only [avH] at ih
    simp only [avH, List.map_cons, hset, hsetT, ih]
theorem hget_av : ∀ (h : THeap T) (n : Nat), hget (avH tb h) n = avO tb (hgetT h n)
  | [], n => rfl
  | a :: l, 0 => rfl
  | a :: l, n + 1 => hget_av l n
/-- No rows that are written. -/
def nb : List (TV T) → Bool
  | [.blk _ _] => false
  | _ => true
theorem avO_nb {o : List (TV T)} (h : nb o = true) : avO tb o = avL tb o := by
  unfold avO
  split
  · cases h
  · rfl
theorem hset_nb {h : THeap T} {n : Nat} {o : List (TV T)} (hn : nb o = true) : hset (avH tb h) n (avL tb o) = avH tb (hsetT h n o) := by rw [← avO_nb hn, hset_av]
theorem hget_nb {h : THeap T} {n : Nat} (hn : nb (hgetT h n) = true) : hget (avH tb h) n = avL tb (hgetT h n) := by rw [hget_av, avO_nb hn]
theorem take_av (l : List (TV T)) (n : Nat) : (avL tb l).take n = avL tb (l.take n) := by simp [avL_map, List.map_take]
theorem drop_av (l : List (TV T)) (n : Nat) : (avL tb l).drop n = avL tb (l.drop n) := by simp [avL_map, List.map_drop]
theorem app_av (l m : List (TV T)) : avL tb l ++ avL tb m = avL tb (l ++ m) := by simp [avL_map]
theorem len_av (l : List (TV T)) : (avL tb l).length = l.length := by simp [avL_map]
theorem splice_av (l : List (TV T)) (off : Nat) (cs : List (TV T)) : splice (avL tb l) off (avL tb cs) = avL tb (spliceT l off cs) := by
  simp only [splice, spliceT, take_av, drop_av, app_av, len_av]
theorem dropL_av : ∀ (ts : List Nat) (e : TEnv T), dropL ts (avE tb e) = avE tb (dropTL ts e)
  | [], e => rfl
  | t :: ts, e => by simp only [dropL, dropTL, rm_av, dropL_av ts]
theorem oA_cases {α : Type} {z : Nat} {row : α → List PV} (o : Option (List α)) : oA z row o = .nilS ∨ ∃ rows, oA z row o = .own z rows := by
  cases o with
  | none => exact .inl rfl
  | some l => exact .inr ⟨_, rfl⟩
theorem cells_av (a : TV T) : cellsOf (av tb a) = avL tb (cellsT a) := by
  cases a <;> first | rfl | (simp only [av, cellsT, avL]; exact cells_A _) | (simp only [av, cellsT, cellsOf, stripL_av])
theorem notTup_av (a : TV T) : notTup (av tb a) = notTupT a := by
  cases a <;> first | rfl | (simp only [av, notTupT]; exact notTup_A _)
mutual
theorem refs_av : ∀ a : TV T, refsOf (av tb a) = refsT a
  | .ow k o => by simp only [av, refsT]; exact refs_A o
  | .bo o => by simp only [av, refsT]; exact refs_A o
  | .agg cs => by simp only [av, refsT, refsOf, refsL_av cs]
  | .tup cs => by simp only [av, refsT, refsOf, refsL_av cs]
  | .clo f a c => by simp only [av, refsT, refsOf, refsL_av a, refsL_av c]
  | .n _ _ => rfl | .u8 _ => rfl | .u16 _ => rfl | .u32 _ => rfl | .u64 _ => rfl | .b _ => rfl | .s _ => rfl | .bs _ => rfl | .sl _ _ => rfl | .nilS => rfl | .nilP => rfl | .nilF => rfl | .ref _ _ => rfl | .e8 _ => rfl | .er _ _ _ => rfl | .vw _ _ _ => rfl | .vr _ _ _ _ => rfl | .blk _ _ => rfl | .junk => rfl
theorem refsL_av : ∀ l : List (TV T), refsL (avL tb l) = refsTL l
  | [] => rfl
  | a :: l => by simp only [avL, refsL, refsTL, refs_av a, refsL_av l]
end
mutual
theorem ren_av (σ : Nat → Nat) : ∀ a : TV T, ren σ (av tb a) = av tb (renT σ a)
  | .ow k o => by simp only [av, renT]; exact ren_A o
  | .bo o => by simp only [av, renT]; exact ren_A o
  | .agg cs => by simp only [av, renT, ren, renL_av σ cs]
  | .tup cs => by simp only [av, renT, ren, renL_av σ cs]
  | .clo f a c => by simp only [av, renT, ren, renL_av σ a, renL_av σ c]
  | .n _ _ => rfl | .u8 _ => rfl | .u16 _ => rfl | .u32 _ => rfl | .u64 _ => rfl | .b _ => rfl | .s _ => rfl | .bs _ => rfl | .sl _ _ => rfl | .nilS => rfl | .nilP => rfl | .nilF => rfl | .ref _ _ => rfl | .e8 _ => rfl | .er _ _ _ => rfl | .vw _ _ _ => rfl | .vr _ _ _ _ => rfl | .blk _ _ => rfl | .junk => rfl
theorem renL_av (σ : Nat → Nat) : ∀ l : List (TV T), renL σ (avL tb l) = avL tb (renTL σ l)
  | [] => rfl
  | a :: l => by simp only [avL, renL, renTL, ren_av σ a, renL_av σ l]
end
theorem refsP : ∀ l : List PV, refsL (l.map AV.pv) = []
  | [] => rfl
  | a :: l => by simp only [List.map_cons, refsL, refsOf, refsP l]; rfl
theorem renP (σ : Nat → Nat) : ∀ l : List PV, renL σ (l.map AV.pv) = l.map AV.pv
  | [] => rfl
  | a :: l => by simp only [List.map_cons, renL, ren, renP σ l]
theorem refsO_av (o : List (TV T)) : refsL (avO tb o) = refsTL o := by
  unfold avO
  split
  · rw [refsP]; rfl
  · exact refsL_av o
theorem nb_ren (σ : Nat → Nat) : ∀ o : List (TV T), nb (renTL σ o) = nb o
  | [] => rfl
  | [a] => by cases a <;> rfl
  | a :: b :: o => by cases a <;> rfl
theorem renO_av (σ : Nat → Nat) (o : List (TV T)) : renL σ (avO tb o) = avO tb (renTL σ o) := by
  cases hn : nb o with
  | true => rw [avO_nb hn, avO_nb (by rw [nb_ren, hn]), renL_av]
  | false =>
    match o, hn with
    | [.blk k l], _ => exact renP σ _
theorem subHeap_av (h : THeap T) (l : List Nat) : subHeap (avH tb h) l = avH tb (subHeapT h l) := by
  simp only [subHeap, subHeapT, avH, List.map_map]
  refine List.map_congr_left fun i _ => ?_
  have := hget_av (tb := tb) h i
  simp only [avH] at this
  simp only [this, renO_av, Function.comp]
theorem putAll_av (f : Nat → Nat) : ∀ (l : List Nat) (h H : THeap T), putAll f (avH tb h) l (avH tb H) = avH tb (putAllT f h l H)
  | [], h, H => by cases H <;> rfl
  | i :: l, h, [] => rfl
  | i :: l, h, o :: H => by
    have e : avH tb (o :: H) = avO tb o :: avH tb H := rfl
    rw [e]
    simp only [putAll, putAllT, renO_av, hset_av]
    exact putAll_av f l _ H
theorem mergeH_av (f : Nat → Nat) (h : THeap T) (l : List Nat) (H : THeap T) : mergeH f (avH tb h) l (avH tb H) = avH tb (mergeHT f h l H) := by
  simp only [mergeH, mergeHT, putAll_av]
  simp only [avH, List.map_append, ← List.map_drop, List.map_map]
  congr 1
  refine List.map_congr_left fun o _ => ?_
  simp [renO_av, Function.comp]
theorem lenH_av (h : THeap T) : (avH tb h).length = h.length := by simp [avH]
theorem closed_av (h : THeap T) (l : List Nat) (as : List (TV T)) : closedB (avH tb h) l (avL tb as) = closedT h l as := by
  simp only [closedB, closedT, refsL_av, hget_av, refsO_av, lenH_av]
theorem rdA_av (e : TEnv T) (x : TArg T) : rdA (avE tb e) (avArg tb x) = (av tb (rdT e x).1, avE tb (rdT e x).2) := by
  cases x with
  | v t => simp only [rdA, avArg, rdT, lk_av, strip_av]
  | m t => simp only [rdA, avArg, rdT, lk_av, rm_av]
  | k a => rfl
  | c t i =>
    simp only [avArg, rdT]
    rw [rx_all.1, lk_av]
    cases h : lkT e t with
    | tup vs =>
      simp only [av, rdC]
      rw [nth_av]
      have hj : (AV.junk) = av tb (.junk : TV T) := rfl
      rw [hj, setNth_av]
      have : AV.tup (avL tb (setNthT vs i .junk)) = av tb (.tup (setNthT vs i .junk)) := rfl
      rw [this, put_av]
      cases nthT vs i <;> rfl
    | bo o => rcases oA_cases (z := 1) (row := byteRow) o with h | ⟨r, h⟩ <;> (simp only [av]; rw [h]; rfl)
    | ow k o => rcases oA_cases (z := tb.sz k) (row := tb.prow k) o with h | ⟨r, h⟩ <;> (simp only [av]; rw [h]; rfl)
    | _ => rfl
theorem rdAs_av : ∀ (xs : List (TArg T)) (e : TEnv T), rdAs (avE tb e) (xs.map (avArg tb)) = (avL tb (rdTs e xs).1, avE tb (rdTs e xs).2)
  | [], e => rfl
  | x :: xs, e => by
    simp only [List.map_cons, rdAs, rdTs, rdA_av, rdAs_av xs, avL]
end Go.Rv

set_option maxHeartbeats 4000000
namespace Go.Rv
open Go.RowKit
variable {T : Nat → Type} {tb : Tab T}
/-- What an operation comes to. -/
inductive OR (T : Nat → Type) : Type 1 where
  | no
  | ok (r : TV T) (h : THeap T)
  | opt {β : Type} (o : Option β) (f : β → TV T) (h : THeap T)
  | alt (l : List (Bool × TV T)) (h : THeap T)
  | opth {β : Type} (o : Option β) (f : β → TV T × THeap T)
def altR {ρ : Type} (k : TV T → THeap T → Option ρ) (h : THeap T) : List (Bool × TV T) → Option ρ
  | [] => none
  | (c, v) :: l => if c then k v h else altR k h l
def OR.go {ρ : Type} (x : OR T) (k : TV T → THeap T → Option ρ) : Option ρ :=
  match x with
  | .no => none
  | .ok r h => k r h
  | .opt o f h => o.bind fun x => k (f x) h
  | .alt l h => altR k h l
  | .opth o f => o.bind fun x => k (f x).1 (f x).2
def OR.all (p : TV T → THeap T → Prop) : OR T → Prop
  | .no => True
  | .ok r h => p r h
  | .opt o f h => ∀ x, o = some x → p (f x) h
  | .alt l h => ∀ c v, (c, v) ∈ l → c = true → p v h
  | .opth o f => ∀ x, o = some x → p (f x).1 (f x).2
theorem alt_go {ρ : Type} {k : TV T → THeap T → Option ρ} {h : THeap T} {d : ρ} : ∀ {l : List (Bool × TV T)}, altR k h l = some d → ∃ c v, (c, v) ∈ l ∧ c = true ∧ k v h = some d
  | [], hd => by cases hd
  | (c, v) :: l, hd => by
    simp only [altR] at hd
    split at hd
    · rename_i hc; exact ⟨c, v, List.mem_cons_self, hc, hd⟩
    · obtain ⟨c', v', h1, h2⟩ := alt_go hd
      exact ⟨c', v', List.mem_cons_of_mem _ h1, h2⟩
theorem OR.go_all {ρ : Type} {x : OR T} {k : TV T → THeap T → Option ρ} {p : TV T → THeap T → Prop} {d : ρ} (h : x.go k = some d) (hp : x.all p) : ∃ r h', p r h' ∧ k r h' = some d := by
  cases x with
  | no => cases h
  | ok r h' => exact ⟨r, h', hp, h⟩
  | opt o f h' =>
    obtain ⟨x, h1, h2⟩ := bind_ex h
    exact ⟨f x, h', hp x h1, h2⟩
  | alt l h' =>
    obtain ⟨c, v, h1, h2, h3⟩ := alt_go h
    exact ⟨v, h', hp c v h1 h2, h3⟩
  | opth o f =>
    obtain ⟨x, h1, h2⟩ := bind_ex h
    exact ⟨_, _, hp x h1, h2⟩
theorem altR_par {ρ σ : Type} {k : TV T → THeap T → Option σ} {f : σ → Option ρ} {h : THeap T} : ∀ {l : List (Bool × TV T)}, altR (fun r h => (k r h).bind f) h l = (altR k h l).bind f
  | [] => rfl
  | (c, v) :: l => by
    simp only [altR, altR_par]
    split <;> rfl
theorem OR.par {ρ σ : Type} {x : OR T} {k : TV T → THeap T → Option σ} {f : σ → Option ρ} : x.go (fun r h => (k r h).bind f) = (x.go k).bind f := by
  cases x with
  | no => rfl
  | ok r h' => rfl
  | opt o f h' => cases o <;> rfl
  | alt l h' => exact altR_par
  | opth o f => cases o <;> rfl
/-- A whole number's value, and whether its kind has a sign. -/
def imgT : TV T → Option (Bool × Int)
  | .n _ x => some (true, x)
  | .u8 x => some (false, (x.toNat : Int))
  | .u16 x => some (false, (x.toNat : Int))
  | .u32 x => some (false, (x.toNat : Int))
  | .u64 x => some (false, (x.toNat : Int))
  | _ => none
theorem img_av {v : TV T} {sg : Bool} {x : Int} (h : imgT v = some (sg, x)) : ∃ k, av tb v = .i k x ∧ (sg = false → 0 ≤ x) := by
  cases v <;> simp [imgT] at h <;> obtain ⟨rfl, rfl⟩ := h <;> exact ⟨_, rfl, by simp⟩
def intR (o : BinOp) (k : IntKind) (a b : Int) (h : THeap T) : OR T :=
  match o with
  | .add => .ok (.n k (k.wrap (a + b))) h
  | .sub => .ok (.n k (k.wrap (a - b))) h
  | .mul => .ok (.n k (k.wrap (a * b))) h
  | .quo => .opt (chk (decide (b ≠ 0))) (fun _ => .n k (k.wrap (a.tdiv b))) h
  | .rem => .opt (chk (decide (b ≠ 0))) (fun _ => .n k (a.tmod b)) h
  | .and => .ok (.n k (k.wrap ((BitVec.ofInt k.bits a &&& BitVec.ofInt k.bits b).toNat))) h
  | .or => .ok (.n k (k.wrap ((BitVec.ofInt k.bits a ||| BitVec.ofInt k.bits b).toNat))) h
  | .xor => .ok (.n k (k.wrap ((BitVec.ofInt k.bits a ^^^ BitVec.ofInt k.bits b).toNat))) h
  | .andNot => .ok (.n k (k.wrap ((BitVec.ofInt k.bits a &&& ~~~ BitVec.ofInt k.bits b).toNat))) h
  | .eql => .ok (.b (decide (a = b))) h
  | .neq => .ok (.b (!decide (a = b))) h
  | .lss => .ok (.b (decide (a < b))) h
  | .leq => .ok (.b (decide (a ≤ b))) h
  | .gtr => .ok (.b (decide (a > b))) h
  | .geq => .ok (.b (decide (a ≥ b))) h
  | _ => .no
def shR (o : BinOp) (sg : Bool) (y : Int) (l r : TV T) (h : THeap T) : OR T :=
  match o with
  | .shl => if sg then .opt (chk (decide (0 ≤ y))) (fun _ => l) h else .ok l h
  | .shr => if sg then .opt (chk (decide (0 ≤ y))) (fun _ => r) h else .ok r h
  | _ => .no
def u8R (o : BinOp) (a b : UInt8) (h : THeap T) : OR T :=
  match o with
  | .add => .ok (.u8 (a + b)) h
  | .sub => .ok (.u8 (a - b)) h
  | .mul => .ok (.u8 (a * b)) h
  | .quo => .opt (chk (decide (b ≠ 0))) (fun _ => .u8 (a / b)) h
  | .rem => .opt (chk (decide (b ≠ 0))) (fun _ => .u8 (a % b)) h
  | .and => .ok (.u8 (a &&& b)) h
  | .or => .ok (.u8 (a ||| b)) h
  | .xor => .ok (.u8 (a ^^^ b)) h
  | .andNot => .ok (.u8 (a &&& ~~~b)) h
  | .eql => .ok (.b (decide (a = b))) h
  | .neq => .ok (.b (!decide (a = b))) h
  | .lss => .ok (.b (decide (a < b))) h
  | .leq => .ok (.b (decide (a ≤ b))) h
  | .gtr => .ok (.b (decide (a > b))) h
  | .geq => .ok (.b (decide (a ≥ b))) h
  | _ => .no
def u16R (o : BinOp) (a b : UInt16) (h : THeap T) : OR T :=
  match o with
  | .add => .ok (.u16 (a + b)) h
  | .sub => .ok (.u16 (a - b)) h
  | .mul => .ok (.u16 (a * b)) h
  | .quo => .opt (chk (decide (b ≠ 0))) (fun _ => .u16 (a / b)) h
  | .rem => .opt (chk (decide (b ≠ 0))) (fun _ => .u16 (a % b)) h
  | .and => .ok (.u16 (a &&& b)) h
  | .or => .ok (.u16 (a ||| b)) h
  | .xor => .ok (.u16 (a ^^^ b)) h
  | .andNot => .ok (.u16 (a &&& ~~~b)) h
  | .eql => .ok (.b (decide (a = b))) h
  | .neq => .ok (.b (!decide (a = b))) h
  | .lss => .ok (.b (decide (a < b))) h
  | .leq => .ok (.b (decide (a ≤ b))) h
  | .gtr => .ok (.b (decide (a > b))) h
  | .geq => .ok (.b (decide (a ≥ b))) h
  | _ => .no
def u32R (o : BinOp) (a b : UInt32) (h : THeap T) : OR T :=
  match o with
  | .add => .ok (.u32 (a + b)) h
  | .sub => .ok (.u32 (a - b)) h
  | .mul => .ok (.u32 (a * b)) h
  | .quo => .opt (chk (decide (b ≠ 0))) (fun _ => .u32 (a / b)) h
  | .rem => .opt (chk (decide (b ≠ 0))) (fun _ => .u32 (a % b)) h
  | .and => .ok (.u32 (a &&& b)) h
  | .or => .ok (.u32 (a ||| b)) h
  | .xor => .ok (.u32 (a ^^^ b)) h
  | .andNot => .ok (.u32 (a &&& ~~~b)) h
  | .eql => .ok (.b (decide (a = b))) h
  | .neq => .ok (.b (!decide (a = b))) h
  | .lss => .ok (.b (decide (a < b))) h
  | .leq => .ok (.b (decide (a ≤ b))) h
  | .gtr => .ok (.b (decide (a > b))) h
  | .geq => .ok (.b (decide (a ≥ b))) h
  | _ => .no
def u64R (o : BinOp) (a b : UInt64) (h : THeap T) : OR T :=
  match o with
  | .add => .ok (.u64 (a + b)) h
  | .sub => .ok (.u64 (a - b)) h
  | .mul => .ok (.u64 (a * b)) h
  | .quo => .opt (chk (decide (b ≠ 0))) (fun _ => .u64 (a / b)) h
  | .rem => .opt (chk (decide (b ≠ 0))) (fun _ => .u64 (a % b)) h
  | .and => .ok (.u64 (a &&& b)) h
  | .or => .ok (.u64 (a ||| b)) h
  | .xor => .ok (.u64 (a ^^^ b)) h
  | .andNot => .ok (.u64 (a &&& ~~~b)) h
  | .eql => .ok (.b (decide (a = b))) h
  | .neq => .ok (.b (!decide (a = b))) h
  | .lss => .ok (.b (decide (a < b))) h
  | .leq => .ok (.b (decide (a ≤ b))) h
  | .gtr => .ok (.b (decide (a > b))) h
  | .geq => .ok (.b (decide (a ≥ b))) h
  | _ => .no
def eqR (o : BinOp) (x : Bool) (h : THeap T) : OR T :=
  match o with
  | .eql => .ok (.b x) h
  | .neq => .ok (.b (!x)) h
  | _ => .no
def binR (o : BinOp) (t : ET) (x y : TV T) (h : THeap T) : OR T :=
  match x with
  | .u8 a => if isShift o then (match imgT y with | some p => shR o p.1 p.2 (.u8 (shl_u8 a p.2)) (.u8 (shr_u8 a p.2)) h | none => .no) else (match y with | .u8 b => u8R o a b h | _ => .no)
  | .u16 a => if isShift o then (match imgT y with | some p => shR o p.1 p.2 (.u16 (shl_u16 a p.2)) (.u16 (shr_u16 a p.2)) h | none => .no) else (match y with | .u16 b => u16R o a b h | _ => .no)
  | .u32 a => if isShift o then (match imgT y with | some p => shR o p.1 p.2 (.u32 (shl_u32 a p.2)) (.u32 (shr_u32 a p.2)) h | none => .no) else (match y with | .u32 b => u32R o a b h | _ => .no)
  | .u64 a => if isShift o then (match imgT y with | some p => shR o p.1 p.2 (.u64 (shl_u64 a p.2)) (.u64 (shr_u64 a p.2)) h | none => .no) else (match y with | .u64 b => u64R o a b h | _ => .no)
  | .n k a => if isShift o then (match imgT y with | some p => (match k with | .i64 => shR o p.1 p.2 (.n .i64 (w64 (a * 2 ^ (min p.2.toNat 64)))) (.n .i64 (a.fdiv (2 ^ (min p.2.toNat 64)))) h | _ => .no) | none => .no) else (match y with | .n k' b => if k = k' then intR o k a b h else .no | _ => .no)
  | .b a => (match y with | .b b => (match t with | .b => eqR o (a == b) h | _ => .no) | _ => .no)
  | .s a => (match y with | .s b => (match o with | .add => .opt (catS a b) (fun r => .s r) h | _ => eqR o (decide (a = b)) h) | _ => .no)
  | .nilP => (match y with | .nilP => (match t with | .p => eqR o true h | _ => .no) | .ref _ _ => (match t with | .p => eqR o false h | _ => .no) | _ => .no)
  | .ref _ _ => (match y with | .nilP => (match t with | .p => eqR o false h | _ => .no) | _ => .no)
  | .nilF => (match y with | .nilF => (match t with | .f => eqR o true h | _ => .no) | _ => .no)
  | .clo _ _ _ => (match y with | .nilF => (match t with | .f => eqR o false h | _ => .no) | _ => .no)
  | .nilS => (match y with | .nilS => (match t with | .sl => eqR o true h | _ => .no) | _ => .no)
  | .sl _ q => (match y with | .nilS => (match t with | .sl => eqR o q.isNone h | _ => .no) | _ => .no)
  | .bs q => (match y with | .nilS => (match t with | .sl => eqR o q.isNone h | _ => .no) | _ => .no)
  | _ => .no
/-- Sound: what comes of it is what the operation comes to. -/
abbrev Snd (tb : Tab T) (op : POp) (as : List AV) (h : Heap) (x : OR T) : Prop := x.all fun r h' => op.ev as h = some (av tb r, avH tb h')
theorem ev_shr_i64 {t : ET} {k' : IntKind} {a y : Int} {h : Heap} (hy : chk (decide (0 ≤ y)) = some ()) : POp.ev (.bin .shr t) [.i .i64 a, .i k' y] h = some (.i .i64 (a.fdiv (2 ^ (min y.toNat 64))), h) := by
  have hy := of_decide_eq_true (chk_ex hy)
  simp only [POp.ev, AV.i, binV, isShift, shiftV, if_true, Option.map_some, show ¬ y < 0 by omega, if_false, IntKind.bits]
theorem int_snd {o : BinOp} {t : ET} {k : IntKind} {a b : Int} {h : THeap T} (hs : isShift o = false) : Snd tb (.bin o t) [.i k a, .i k b] (avH tb h) (intR o k a b h) := by
  cases o <;> simp only [intR, OR.all, av] <;> first
    | rfl
    | trivial
    | exact (ev_all.2.2.2.2.2.2.2.2.2.2.1 _ _ _ _ _)
    | exact (ev_all.2.2.2.2.2.2.2.2.2.2.2.1 _ _ _ _ _)
    | (intro x hb; have hb := of_decide_eq_true (chk_ex hb); simp [POp.ev, AV.i, binV, isShift, intV, hb])
    | (simp only [POp.ev, AV.i, binV, isShift, intV, if_true, Bool.false_eq_true, if_false, Option.map_some])
theorem sh_snd {o : BinOp} {t : ET} {x y : AV} {sg : Bool} {i : Int} {l r : TV T} {h : THeap T} (hs : sg = false → 0 ≤ i)
    (hl : chk (decide (0 ≤ i)) = some () → POp.ev (.bin .shl t) [x, y] (avH tb h) = some (av tb l, avH tb h)) (hr : chk (decide (0 ≤ i)) = some () → POp.ev (.bin .shr t) [x, y] (avH tb h) = some (av tb r, avH tb h)) :
    Snd tb (.bin o t) [x, y] (avH tb h) (shR o sg i l r h) := by
  have h0 : sg = false → chk (decide (0 ≤ i)) = some () := fun e => by have := hs e; simp [chk, this]
  cases o <;> simp only [shR, OR.all] <;> cases sg <;> simp only [if_true, Bool.false_eq_true, if_false, OR.all] <;> first
    | exact hl (h0 rfl)
    | exact hr (h0 rfl)
    | (intro _ hx; exact hl hx)
    | (intro _ hx; exact hr hx)
theorem u8_snd {o : BinOp} {t : ET} {a b : UInt8} {h : THeap T} (hs : isShift o = false) : Snd tb (.bin o t) [A8 a, A8 b] (avH tb h) (u8R o a b h) := by
  cases o with
  | add => exact ev_add_u8
  | sub => exact ev_sub_u8
  | mul => exact ev_mul_u8
  | and => exact ev_and_u8
  | or => exact ev_or_u8
  | xor => exact ev_xor_u8
  | andNot => exact ev_andNot_u8
  | eql => exact ev_eql_u8
  | neq => exact ev_neq_u8
  | lss => exact ev_lss_u8
  | leq => exact ev_leq_u8
  | gtr => exact ev_gtr_u8
  | geq => exact ev_geq_u8
  | quo => exact fun _ hb => ev_quo_u8 hb
  | rem => exact fun _ hb => ev_rem_u8 hb
  | _ => cases hs
theorem u16_snd {o : BinOp} {t : ET} {a b : UInt16} {h : THeap T} (hs : isShift o = false) : Snd tb (.bin o t) [A16 a, A16 b] (avH tb h) (u16R o a b h) := by
  cases o with
  | add => exact ev_add_u16
  | sub => exact ev_sub_u16
  | mul => exact ev_mul_u16
  | and => exact ev_and_u16
  | or => exact ev_or_u16
  | xor => exact ev_xor_u16
  | andNot => exact ev_andNot_u16
  | eql => exact ev_eql_u16
  | neq => exact ev_neq_u16
  | lss => exact ev_lss_u16
  | leq => exact ev_leq_u16
  | gtr => exact ev_gtr_u16
  | geq => exact ev_geq_u16
  | quo => exact fun _ hb => ev_quo_u16 hb
  | rem => exact fun _ hb => ev_rem_u16 hb
  | _ => cases hs
theorem u32_snd {o : BinOp} {t : ET} {a b : UInt32} {h : THeap T} (hs : isShift o = false) : Snd tb (.bin o t) [A32 a, A32 b] (avH tb h) (u32R o a b h) := by
  cases o with
  | add => exact ev_add_u32
  | sub => exact ev_sub_u32
  | mul => exact ev_mul_u32
  | and => exact ev_and_u32
  | or => exact ev_or_u32
  | xor => exact ev_xor_u32
  | andNot => exact ev_andNot_u32
  | eql => exact ev_eql_u32
  | neq => exact ev_neq_u32
  | lss => exact ev_lss_u32
  | leq => exact ev_leq_u32
  | gtr => exact ev_gtr_u32
  | geq => exact ev_geq_u32
  | quo => exact fun _ hb => ev_quo_u32 hb
  | rem => exact fun _ hb => ev_rem_u32 hb
  | _ => cases hs
theorem u64_snd {o : BinOp} {t : ET} {a b : UInt64} {h : THeap T} (hs : isShift o = false) : Snd tb (.bin o t) [A64 a, A64 b] (avH tb h) (u64R o a b h) := by
  cases o with
  | add => exact ev_add_u64
  | sub => exact ev_sub_u64
  | mul => exact ev_mul_u64
  | and => exact ev_and_u64
  | or => exact ev_or_u64
  | xor => exact ev_xor_u64
  | andNot => exact ev_andNot_u64
  | eql => exact ev_eql_u64
  | neq => exact ev_neq_u64
  | lss => exact ev_lss_u64
  | leq => exact ev_leq_u64
  | gtr => exact ev_gtr_u64
  | geq => exact ev_geq_u64
  | quo => exact fun _ hb => ev_quo_u64 hb
  | rem => exact fun _ hb => ev_rem_u64 hb
  | _ => cases hs
theorem eq_snd {o : BinOp} {t : ET} {x y : AV} {q : Bool} {h : THeap T} (h1 : POp.ev (.bin .eql t) [x, y] (avH tb h) = some (.b q, avH tb h)) (h2 : POp.ev (.bin .neq t) [x, y] (avH tb h) = some (.b (!q), avH tb h)) :
    Snd tb (.bin o t) [x, y] (avH tb h) (eqR o q h) := by
  cases o <;> simp only [eqR, OR.all, av] <;> first | exact h1 | exact h2
theorem bin_snd {o : BinOp} {t : ET} {x y : TV T} {h : THeap T} : Snd tb (.bin o t) [av tb x, av tb y] (avH tb h) (binR o t x y h) := by
  have no : ∀ {op : POp} {as : List AV} {h : Heap}, Snd tb op as h (.no : OR T) := trivial
  cases x with
  | u8 a =>
    simp only [binR]
    split
    · split
      · rename_i p hp
        obtain ⟨k, e, h0⟩ := img_av (tb := tb) hp
        rw [e]
        exact sh_snd h0 ev_shl_u8 ev_shr_u8
      · exact no
    · rename_i hs
      cases y with
      | u8 b => exact u8_snd (by simpa using hs)
      | _ => exact no
  | u16 a =>
    simp only [binR]
    split
    · split
      · rename_i p hp
        obtain ⟨k, e, h0⟩ := img_av (tb := tb) hp
        rw [e]
        exact sh_snd h0 ev_shl_u16 ev_shr_u16
      · exact no
    · rename_i hs
      cases y with
      | u16 b => exact u16_snd (by simpa using hs)
      | _ => exact no
  | u32 a =>
    simp only [binR]
    split
    · split
      · rename_i p hp
        obtain ⟨k, e, h0⟩ := img_av (tb := tb) hp
        rw [e]
        exact sh_snd h0 ev_shl_u32 ev_shr_u32
      · exact no
    · rename_i hs
      cases y with
      | u32 b => exact u32_snd (by simpa using hs)
      | _ => exact no
  | u64 a =>
    simp only [binR]
    split
    · split
      · rename_i p hp
        obtain ⟨k, e, h0⟩ := img_av (tb := tb) hp
        rw [e]
        exact sh_snd h0 ev_shl_u64 ev_shr_u64
      · exact no
    · rename_i hs
      cases y with
      | u64 b => exact u64_snd (by simpa using hs)
      | _ => exact no
  | n k a =>
    simp only [binR]
    split
    · split
      · rename_i p hp
        obtain ⟨k', e, h0⟩ := img_av (tb := tb) hp
        rw [e]
        cases k with
        | i64 => exact sh_snd h0 ev_shl_i64 ev_shr_i64
        | _ => exact no
      · exact no
    · rename_i hs
      cases y with
      | n k' b =>
        simp only
        split
        · rename_i hk; subst hk; exact int_snd (by simpa using hs)
        · exact no
      | _ => exact no
  | b a =>
    cases y with
    | b b =>
      cases t with
      | b => exact eq_snd rfl rfl
      | _ => exact no
    | _ => exact no
  | s a =>
    cases y with
    | s b =>
      cases o with
      | add => exact fun r hr => ev_cat hr
      | _ => exact eq_snd ev_eql_s ev_neq_s
    | _ => exact no
  | nilP =>
    cases y with
    | nilP =>
      cases t with
      | p => exact eq_snd rfl rfl
      | _ => exact no
    | ref =>
      cases t with
      | p => exact eq_snd rfl rfl
      | _ => exact no
    | _ => exact no
  | ref =>
    cases y with
    | nilP =>
      cases t with
      | p => exact eq_snd rfl rfl
      | _ => exact no
    | _ => exact no
  | nilF =>
    cases y with
    | nilF =>
      cases t with
      | f => exact eq_snd rfl rfl
      | _ => exact no
    | _ => exact no
  | clo =>
    cases y with
    | nilF =>
      cases t with
      | f => exact eq_snd rfl rfl
      | _ => exact no
    | _ => exact no
  | nilS =>
    cases y with
    | nilS =>
      cases t with
      | sl => exact eq_snd rfl rfl
      | _ => exact no
    | _ => exact no
  | sl k q =>
    cases y with
    | nilS =>
      cases t with
      | sl => exact eq_snd ev_nil_S ev_nonil_S
      | _ => exact no
    | _ => exact no
  | bs q =>
    cases y with
    | nilS =>
      cases t with
      | sl => exact eq_snd ev_nil_S ev_nonil_S
      | _ => exact no
    | _ => exact no
  | _ => exact no
end Go.Rv

set_option maxHeartbeats 4000000
namespace Go.Rv
open Go.RowKit
variable {T : Nat → Type} {tb : Tab T}
inductive TOp (T : Nat → Type) where
  | mv
  | pick
  | alloc (zs : List (TV T))
  | box
  | build (zs : List (TV T)) (offs : List (Nat × Nat))
  | bslice (k n : Nat) (z : T k) (idx : List Nat)
  | b8 (n : Nat) (idx : List Nat)
  | load (n : Option Nat)
  | loadm
  | store (n : Nat)
  | nilck
  | bin (o : BinOp) (t : ET)
  | eqs (neg : Bool) (ts : List ET)
  | un (o : UnOp)
  | cint (k : IntKind)
  | s2b
  | b2s
  | cid
  | sstr (lo hi : Bool)
  | ssl (sz : Nat) (lo hi : Bool)
  | fa (off : Nat)
  | fld (off : Nat) (n : Option Nat)
  | ia (sz : Nat)
  | iarr (len sz : Nat)
  | sidx
  | aidx (len sz : Nat) (n : Option Nat)
  | ext (i : Nat)
  | extm
  | len
  | lens
  | min
  | max
  | app (sz bytes : Nat)
  | apps
  | appv (k bytes : Nat)
  | sarr (n : Nat)
  | b2v
  | mksl (k bytes : Nat) (z : T k)
  | mkf (f nf : Nat)
  | call (f : Option Nat) (i : Nat)
def erO (tb : Tab T) : TOp T → POp
  | .mv => .mv | .pick => .pick | .alloc zs => .alloc (avL tb zs) | .box => .box | .build zs offs => .build (avL tb zs) offs
  | .bslice k n z idx => .bslice (tb.sz k) n (tb.prow k z) idx | .b8 n idx => .bslice 1 n (byteRow 0) idx
  | .load n => .load n | .loadm => .loadm | .store n => .store n | .nilck => .nilck | .bin o t => .bin o t | .eqs n ts => .eqs n ts | .un o => .un o | .cint k => .cint k | .s2b => .s2b | .b2s => .b2s | .cid => .cid
  | .sstr lo hi => .sstr lo hi | .ssl sz lo hi => .ssl sz lo hi | .fa off => .fa off | .fld off n => .fld off n | .ia sz => .ia sz | .iarr l sz => .iarr l sz | .sidx => .sidx | .aidx l sz n => .aidx l sz n
  | .ext i => .ext i | .extm => .extm | .len => .len | .lens => .lens | .min => .min | .max => .max | .app sz b => .app sz b | .apps => .apps | .appv k b => .appv (tb.sz k) b | .sarr n => .sarr n | .b2v => .b2v | .mksl k b z => .mksl (tb.sz k) b ((tb.prow k z).map AV.pv) | .mkf f nf => .mkf (.func f) nf | .call f _ => .call f
def isR0T : TV T → Bool
  | .ow _ _ => false | .bo _ => false | .agg _ => false | .tup _ => false | .clo _ _ _ => false | .junk => false | .blk _ _ => false
  | _ => true
theorem isR0_av {v : TV T} (h : isR0T v = true) : isR0 (av tb v) = true := by
  cases v <;> first | rfl | cases h
/-- Values of cells. -/
def prjA (a : Tm) (v : TV T) : Option (a.ty T) :=
  match a, v with
  | .n k, .n k' x => if k' = k then some x else none
  | .u8, .u8 x => some x
  | .u16, .u16 x => some x
  | .u32, .u32 x => some x
  | .u64, .u64 x => some x
  | .b, .b x => some x
  | .s, .s x => some x
  | .bs, .bs o => some o
  | .bs, .nilS => some none
  | .sl k, .sl k' o => if h : k' = k then some (h ▸ o) else none
  | .sl k, .nilS => some none
  | _, _ => none
def prjAL : (l : List Tm) → List (TV T) → Option (tyA T l)
  | [], [] => some ()
  | a :: l, v :: vs => (prjA a v).bind fun x => (prjAL l vs).bind fun y => some (x, y)
  | _, _ => none
theorem prjA_av {a : Tm} {v : TV T} {x : a.ty T} (h : prjA a v = some x) : av tb v = .pv (pvA tb a x) := by
  unfold prjA at h
  split at h <;> first
    | (cases h; done)
    | (cases h; rfl)
    | (split at h
       · rename_i hk; subst hk; cases h; rfl
       · cases h)
theorem prjAL_av : ∀ {l : List Tm} {vs : List (TV T)} {x : tyA T l}, prjAL l vs = some x → avL tb vs = (pvAL tb l x).map AV.pv
  | [], [], x, h => rfl
  | a :: l, v :: vs, x, h => by
    simp only [prjAL] at h
    obtain ⟨y, h1, h⟩ := bind_ex h
    obtain ⟨z, h2, h⟩ := bind_ex h
    cases h
    simp only [avL, pvAL, List.map_cons, prjA_av h1, prjAL_av h2]
  | [], _ :: _, x, h => by cases h
  | _ :: _, [], x, h => by cases h
theorem inj_av : ∀ (a : Tm) (x : a.ty T), av tb (injA a x) = .pv (pvA tb a x) := by
  intro a x; cases a <;> rfl
theorem injAL_av : ∀ (l : List Tm) (x : tyA T l), avL tb (injAL l x) = (pvAL tb l x).map AV.pv
  | [], _ => rfl
  | a :: l, x => by simp only [injAL, avL, pvAL, List.map_cons, inj_av, injAL_av l]
theorem rw_av (ok : tb.Ok) (k : Nat) (x : T k) : avL tb (tb.rw k x) = (tb.prow k x).map AV.pv := by rw [Tab.rw, injAL_av, ok.row]
theorem prow_len (ok : tb.Ok) (k : Nat) (x : T k) : (tb.prow k x).length = (tb.rw k x).length := by
  have := congrArg List.length (rw_av ok k x)
  rw [len_av] at this; simpa using this.symm
/-- An element out of cells. -/
def mkT (tb : Tab T) (k : Nat) (cs : List (TV T)) : Option (T k) := (prjAL (tb.sh k) cs).bind fun x => some (tb.bk k x)
theorem mkT_av (ok : tb.Ok) {k : Nat} {cs : List (TV T)} {x : T k} (h : mkT tb k cs = some x) : avL tb cs = (tb.prow k x).map AV.pv := by
  obtain ⟨y, h1, h2⟩ := bind_ex h
  cases h2
  rw [prjAL_av h1, ok.row, ok.um]
def srcT (k : Nat) : TV T → Option (Option (List (T k)))
  | .sl k' o => if h : k' = k then some (h ▸ o) else none
  | .ow k' o => if h : k' = k then some (h ▸ o) else none
  | .nilS => some none
  | _ => none
def srcB : TV T → Option (Option (List UInt8))
  | .bs o => some o
  | .bo o => some o
  | .nilS => some none
  | _ => none
def buildT : List (TV T) → List (Nat × Nat) → List (TV T) → Option (List (TV T))
  | cs, [], [] => some cs
  | cs, (off, sz) :: offs, a :: as =>
    if notTupT a && Nat.beq (cellsT (stripT a)).length sz && Nat.ble (off + sz) cs.length then buildT (spliceT cs off (cellsT (stripT a))) offs as else none
  | _, _, _ => none
def setR {α : Type} : List α → Nat → α → List α
  | [], _, _ => []
  | _ :: l, 0, r => r :: l
  | x :: l, n + 1, r => x :: setR l n r
def repR {α : Type} : Nat → α → List α
  | 0, _ => []
  | n + 1, a => a :: repR n a
def rowsT (tb : Tab T) (k : Nat) : List (T k) → List Nat → List (TV T) → Option (List (T k))
  | rows, [], [] => some rows
  | rows, i :: is, a :: as => (mkT tb k (cellsT (stripT a))).bind fun x => if Nat.blt i rows.length then rowsT tb k (setR rows i x) is as else none
  | _, _, _ => none
def rowsB : List UInt8 → List Nat → List (TV T) → Option (List UInt8)
  | rows, [], [] => some rows
  | rows, i :: is, .u8 a :: as => if Nat.blt i rows.length then rowsB (setR rows i a) is as else none
  | _, _, _ => none
def altO (i : Int) (f : Nat → Option (TV T)) : Nat → Nat → Option (List (Bool × TV T))
  | _, 0 => some []
  | j, n + 1 => (f j).bind fun v => (altO i f (j + 1) n).bind fun l => some ((decide (i = (j : Int)), v) :: l)
def OR.ofO (h : THeap T) : Option (List (Bool × TV T)) → OR T
  | some l => .alt l h
  | none => .no
def fldT (cs : List (TV T)) (off : Nat) : Option Nat → Option (TV T)
  | none => (nthT cs off).bind fun c => some (stripT c)
  | some m => if Nat.ble (off + m) cs.length then some (.agg (stripTL ((cs.drop off).take m))) else none
def OR.ofV (h : THeap T) : Option (TV T) → OR T
  | some v => .ok v h
  | none => .no
def cintT (k : IntKind) (x : Int) : TV T :=
  match k with
  | .u8 => .u8 (u8 x) | .u16 => .u16 (u16 x) | .u32 => .u32 (u32 x) | .u64 => .u64 (u64 x)
  | k => .n k (k.wrap x)
def sliceR {α : Type} (lo hi : Bool) (n : Int) (is : List (TV T)) (f : Int → Int → Option α) (g : α → TV T) (z : TV T) (h : THeap T) : OR T :=
  match lo, hi, is with
  | true, true, [a, b] => (match imgT a, imgT b with | some p, some q => .opt (f p.2 q.2) g h | _, _ => .no)
  | true, false, [a] => (match imgT a with | some p => .opt (f p.2 n) g h | _ => .no)
  | false, true, [b] => (match imgT b with | some q => .opt (f 0 q.2) g h | _ => .no)
  | false, false, [] => .ok z h
  | _, _, _ => .no
/-- == of atoms, of cells. -/
def atomT (t : ET) (a b : TV T) : Option Bool :=
  match t, a, b with
  | .b, .b x, .b y => some (x == y)
  | .i, .u8 x, .u8 y => some (decide (x = y))
  | .i, .u16 x, .u16 y => some (decide (x = y))
  | .i, .u32 x, .u32 y => some (decide (x = y))
  | .i, .u64 x, .u64 y => some (decide (x = y))
  | .i, .n k x, .n k' y => if k = k' then some (decide (x = y)) else none
  | .s, .s x, .s y => some (decide (x = y))
  | _, _, _ => none
def eqT : List ET → List (TV T) → List (TV T) → Option Bool
  | [], [], [] => some true
  | [t], [a], [b] => atomT t a b
  | t :: ts, a :: as, b :: bs => (atomT t a b).bind fun r => (eqT ts as bs).bind fun q => some (r && q)
  | _, _, _ => none
/-- Does so much lie within? -/
def inB (off : Nat) (n : Option Nat) (sz : Nat) : Bool := match n with
  | none => Nat.blt off sz
  | some m => Nat.ble (off + m) sz
/-- A field of a row that is written. -/
def ldB (tb : Tab T) (k off : Nat) (n : Option Nat) (i : Int) (o : List (TV T)) (h : THeap T) : OR T := match o with
  | [.blk k' l] => if hk : k' = k then (if inB off n (tb.sz k) then .opt (ix (hk ▸ l) i) (fun x => (fldT (tb.rw k x) off n).getD .junk) h else .no) else .no
  | _ => .no
def stB (tb : Tab T) (k id off n : Nat) (i : Int) (a : TV T) (o : List (TV T)) (h : THeap T) : OR T := match o with
  | [.blk k' l] => if hk : k' = k then (if notTupT a && Nat.beq (cellsT a).length n && Nat.ble (off + n) (tb.sz k) then
      .opth ((ix (hk ▸ l : List (T k)) i).bind fun x => mkT tb k (spliceT (tb.rw k x) off (cellsT a))) (fun y => (.junk, hsetT h id [.blk k (setR (hk ▸ l : List (T k)) i.toNat y)])) else .no) else .no
  | _ => .no
def bytesT : List (TV T) → Option (List UInt8)
  | [] => some []
  | .u8 x :: l => (bytesT l).bind fun r => some (x :: r)
  | _ => none
def b2vT (tb : Tab T) (o : List (TV T)) (n : Nat) (h : THeap T) : OR T := match o with
  | [.blk 0 l] => .opt (chk (decide (n ≤ l.length))) (fun _ => .s ((tb.b8 l).take n)) h
  | o => if nb o && Nat.ble n o.length then (match bytesT (o.take n) with | some l => .ok (.s l) h | none => .no) else .no
def evR (tb : Tab T) (op : TOp T) (as : List (TV T)) (h : THeap T) : OR T :=
  match op with
  | .mv => (match as with | [a] => .ok a h | _ => .no)
  | .pick => (match as with | [.b true, a, _] => .ok a h | [.b false, _, b] => .ok b h | _ => .no)
  | .alloc zs => (match as with | [] => if nb zs then .ok (.ref h.length 0) (h ++ [zs]) else .no | _ => .no)
  | .box => (match as with | [a] => if notTupT a && nb (cellsT (stripT a)) then .ok (.ref h.length 0) (h ++ [cellsT (stripT a)]) else .no | _ => .no)
  | .mkf f nf => if as.all isR0T then .ok (.clo f (as.take nf) (as.drop nf)) h else .no
  | .build zs offs => (match buildT zs offs as with | some cs => .ok (.agg cs) h | none => .no)
  | .bslice k n z idx => (match rowsT tb k (repR n z) idx as with | some l => .ok (.ow k (some l)) h | none => .no)
  | .b8 n idx => (match rowsB (repR n 0) idx as with | some l => .ok (.bo (some l)) h | none => .no)
  | .load n => (match as with
    | [.ref id off] => if nb (hgetT h id) then OR.ofV h (fldT (hgetT h id) off n) else .no
    | [.vr k id i off] => ldB tb k off n i (hgetT h id) h
    | [.e8 x] => (match n with | none => .ok (.u8 x) h | some _ => .no)
    | [.er k x off] => OR.ofV h (fldT (tb.rw k x) off n)
    | _ => .no)
  | .loadm => (match as with | [.ref id off] => (match nthT (hgetT h id) off with | some c => if nb (hgetT h id) && nb (setNthT (hgetT h id) off .junk) then .ok c (hsetT h id (setNthT (hgetT h id) off .junk)) else .no | none => .no) | _ => .no)
  | .store n => (match as with
    | [.ref id off, a] => if notTupT a && Nat.beq (cellsT a).length n && Nat.ble (off + n) (hgetT h id).length && nb (hgetT h id) && nb (spliceT (hgetT h id) off (cellsT a)) then .ok .junk (hsetT h id (spliceT (hgetT h id) off (cellsT a))) else .no
    | [.vr k id i off, a] => stB tb k id off n i a (hgetT h id) h
    | _ => .no)
  | .nilck => (match as with | [.ref id off] => .ok (.ref id off) h | [.er k x off] => .ok (.er k x off) h | [.e8 x] => .ok (.e8 x) h | [.vr k id i off] => .ok (.vr k id i off) h | _ => .no)
  | .bin o t => (match as with | [x, y] => binR o t x y h | _ => .no)
  | .eqs neg ts => (match as with | [.agg cs, .agg ds] => (match eqT ts cs ds with | some q => .ok (.b (if neg then !q else q)) h | none => .no) | _ => .no)
  | .un o => (match o, as with | .not, [.b x] => .ok (.b (!x)) h | .neg, [.n k x] => .ok (.n k (k.wrap (0 - x))) h | _, _ => .no)
  | .cint k => (match as with | [a] => (match imgT a with | some p => .ok (cintT k p.2) h | none => .no) | _ => .no)
  | .s2b => (match as with | [.s l] => .opt (s2b l) (fun r => .bs r) h | _ => .no)
  | .b2s => (match as with | [.bs o] => .ok (.s (L o)) h | [.bo o] => .ok (.s (L o)) h | _ => .no)
  | .cid => (match as with | [.s l] => .ok (.s l) h | _ => .no)
  | .sstr lo hi => (match as with | .s l :: is => sliceR lo hi (l.length : Int) is (slc l) (fun r => .s r) (.s l) h | _ => .no)
  | .ssl sz lo hi => (match as with
    | .bs o :: is => if sz = 1 then sliceR lo hi ((L o).length : Int) is (slO o) (fun r => .bs r) (.bs o) h else .no
    | .sl k o :: is => if sz = tb.sz k then sliceR lo hi ((L o).length : Int) is (slO o) (fun r => .sl k r) (.sl k o) h else .no
    | _ => .no)
  | .fa off => (match as with | [.ref id o] => .ok (.ref id (o + off)) h | [.er k x o] => .ok (.er k x (o + off)) h | [.vr k id i o] => .ok (.vr k id i (o + off)) h | _ => .no)
  | .fld off n => (match as with | [.agg cs] => OR.ofV h (fldT cs off n) | _ => .no)
  | .ia sz => (match as with
    | [.bs o, y] => (match imgT y with | some p => if sz = 1 then .opt (ix (L o) p.2) (fun a => .e8 a) h else .no | none => .no)
    | [.sl k o, y] => (match imgT y with | some p => if sz = tb.sz k then .opt (ix (L o) p.2) (fun a => .er k a 0) h else .no | none => .no)
    | [.vw k id n, y] => (match imgT y with | some p => if sz = tb.sz k then .opt (chk (decide (0 ≤ p.2 ∧ p.2 < (n : Int)))) (fun _ => .vr k id p.2 0) h else .no | none => .no)
    | _ => .no)
  | .iarr n sz => (match as with
    | [.ref id off, y] => (match imgT y with | some p => OR.ofO h (altO p.2 (fun j => some (.ref id (off + j * sz))) 0 n) | none => .no)
    | [.er k x off, y] => (match imgT y with | some p => OR.ofO h (altO p.2 (fun j => some (.er k x (off + j * sz))) 0 n) | none => .no)
    | _ => .no)
  | .sidx => (match as with | [.s l, y] => (match imgT y with | some p => .opt (ix l p.2) (fun a => .u8 a) h | none => .no) | _ => .no)
  | .aidx n sz m => (match as with | [.agg cs, y] => (match imgT y with | some p => OR.ofO h (altO p.2 (fun j => fldT cs (j * sz) m) 0 n) | none => .no) | _ => .no)
  | .ext i => (match as with | [.tup vs] => OR.ofV h (nthT vs i) | _ => .no)
  | .extm => (match as with | [a] => if notTupT a then .ok a h else .no | _ => .no)
  | .len => (match as with | [.bs o] => .ok (.n .i64 ((L o).length : Int)) h | [.bo o] => .ok (.n .i64 ((L o).length : Int)) h | [.sl k o] => .ok (.n .i64 ((L o).length : Int)) h | [.ow k o] => .ok (.n .i64 ((L o).length : Int)) h | [.nilS] => .ok (.n .i64 0) h | [.vw _ _ n] => .ok (.n .i64 (n : Int)) h | _ => .no)
  | .lens => (match as with | [.s l] => .ok (.n .i64 (l.length : Int)) h | _ => .no)
  | .min => (match as with
    | [.n .i64 a, .n .i64 b] => .ok (.n .i64 (imin a b)) h | [.u8 a, .u8 b] => .ok (.u8 (if b < a then b else a)) h | [.u16 a, .u16 b] => .ok (.u16 (if b < a then b else a)) h
    | [.u32 a, .u32 b] => .ok (.u32 (if b < a then b else a)) h | [.u64 a, .u64 b] => .ok (.u64 (if b < a then b else a)) h | _ => .no)
  | .max => (match as with
    | [.n .i64 a, .n .i64 b] => .ok (.n .i64 (imax a b)) h | [.u8 a, .u8 b] => .ok (.u8 (if b > a then b else a)) h | [.u16 a, .u16 b] => .ok (.u16 (if b > a then b else a)) h
    | [.u32 a, .u32 b] => .ok (.u32 (if b > a then b else a)) h | [.u64 a, .u64 b] => .ok (.u64 (if b > a then b else a)) h | _ => .no)
  | .app sz bytes => (match as with
    | [.ow k x, y] => (match srcT k y with | some y => if sz = tb.sz k then .opt (appO bytes x y) (fun r => .ow k r) h else .no | none => .no)
    | [.sl k none, y] => (match srcT k y with | some y => if sz = tb.sz k then .opt (appO bytes none y) (fun r => .ow k r) h else .no | none => .no)
    | [.bo x, y] => (match srcB y with | some y => if sz = 1 then .opt (appO bytes x y) (fun r => .bo r) h else .no | none => .no)
    | [.bs none, y] => (match srcB y with | some y => if sz = 1 then .opt (appO bytes none y) (fun r => .bo r) h else .no | none => .no)
    | _ => .no)
  | .apps => (match as with
    | [.bo x, .s l] => .opt (appO 1 x (some l)) (fun r => .bo r) h
    | [.bs none, .s l] => .opt (appO 1 none (some l)) (fun r => .bo r) h
    | _ => .no)
  | .appv k b => (match as with
    | [.ow k' (some []), y] => if k' = k then (match srcT k y with | some y => .opth (chk (decide ((L y).length * b ≤ room ∧ (L y).length ≤ room))) (fun _ => (.vw k h.length (L y).length, h ++ [[.blk k (L y)]])) | none => .no) else .no
    | _ => .no)
  | .sarr n => (match as with | [.ref id 0] => if Nat.beq (tb.sz 99999) 0 then .ok (.vw 99999 id n) h else .no | _ => .no)
  | .b2v => (match as with
    | [.vw _ id n] => b2vT tb (hgetT h id) n h
    | _ => .no)
  | .mksl k b z => (match as with
    | [x, y] => (match imgT x, imgT y with
      | some p, some q => .opth (chk (decide (p.2 = q.2 ∧ 0 ≤ p.2 ∧ p.2 * (b : Int) ≤ (room : Int) ∧ p.2 ≤ (room : Int)))) (fun _ => (.vw k h.length p.2.toNat, h ++ [[.blk k (repR p.2.toNat z)]]))
      | _, _ => .no)
    | _ => .no)
  | .call _ _ => .no

-- ---------- sound ----------
theorem no_snd {op : POp} {as : List AV} {h : Heap} : Snd tb op as h (.no : OR T) := trivial
theorem ofV_snd {op : POp} {as : List AV} {h : THeap T} {o : Option (TV T)} (hs : ∀ v, o = some v → op.ev as (avH tb h) = some (av tb v, avH tb h)) : Snd tb op as (avH tb h) (OR.ofV h o) := by
  cases o with
  | none => exact no_snd
  | some v => exact hs v rfl
theorem altO_mem {i : Int} {f : Nat → Option (TV T)} : ∀ {n j : Nat} {l : List (Bool × TV T)}, altO i f j n = some l → ∀ c v, (c, v) ∈ l → c = true → ∃ m : Nat, i = (m : Int) ∧ m < j + n ∧ f m = some v
  | 0, j, l, h, c, v, hm, hc => by cases h; cases hm
  | n + 1, j, l, h, c, v, hm, hc => by
    simp only [altO] at h
    obtain ⟨w, h1, h⟩ := bind_ex h
    obtain ⟨l', h2, h⟩ := bind_ex h
    cases h
    rcases List.mem_cons.1 hm with e | hm
    · cases e
      exact ⟨j, by simpa using hc, by omega, h1⟩
    · obtain ⟨m, a, b, d⟩ := altO_mem h2 c v hm hc
      exact ⟨m, a, by omega, d⟩
theorem ofO_snd {op : POp} {as : List AV} {h : THeap T} {i : Int} {f : Nat → Option (TV T)} {n : Nat} (hs : ∀ (m : Nat) v, i = (m : Int) → m < n → f m = some v → op.ev as (avH tb h) = some (av tb v, avH tb h)) :
    Snd tb op as (avH tb h) (OR.ofO h (altO i f 0 n)) := by
  cases hl : altO i f 0 n with
  | none => exact no_snd
  | some l =>
    intro c v hm hc
    obtain ⟨m, h1, h2, h3⟩ := altO_mem hl c v hm hc
    exact hs m v h1 (by omega) h3
theorem fld_av {cs : List (TV T)} {off : Nat} {n : Option Nat} {v : TV T} (h : fldT cs off n = some v) :
    (match n with
      | none => (nth (avL tb cs) off).map strip
      | some k => if off + k ≤ (avL tb cs).length then some (.agg (stripL (((avL tb cs).drop off).take k))) else none) = some (av tb v) := by
  cases n with
  | none =>
    obtain ⟨c, h1, h2⟩ := bind_ex h
    cases h2
    simp only [nth_av, h1, Option.map_some, strip_av]
  | some m =>
    simp only [fldT] at h
    split at h
    · rename_i hb
      cases h
      have := Nat.le_of_ble_eq_true hb
      simp only [len_av, this, if_true, drop_av, take_av, stripL_av, av]
    · cases h
theorem lde_snd (ok : tb.Ok) {k : Nat} {x : T k} {off : Nat} {n : Option Nat} {v : TV T} {h : THeap T} (hv : fldT (tb.rw k x) off n = some v) : POp.ev (.load n) [.eref (tb.prow k x) off] (avH tb h) = some (av tb v, avH tb h) := by
  have e := fld_av (tb := tb) hv
  rw [rw_av ok] at e
  cases n with
  | none =>
    simp only [nth_eq, List.getElem?_map] at e
    simp only [POp.ev]
    cases hp : (tb.prow k x)[off]? with
    | none => simp [hp] at e
    | some p => simp only [hp, Option.map_some, Option.some.injEq] at e ⊢; rw [← e]; rfl
  | some m =>
    simp only [List.length_map] at e
    simp only [POp.ev]
    split at e
    · rename_i hle
      rw [if_pos hle]
      simp only [Option.some.injEq] at e ⊢
      rw [← e]
      have : ∀ l : List PV, stripL (l.map AV.pv) = l.map AV.pv := by
        intro l; induction l with
        | nil => rfl
        | cons a l ih => simp only [List.map_cons, stripL, ih]; rfl
      rw [← List.map_drop, ← List.map_take, this]
    · cases e
theorem slice_snd {α : Type} {op : POp} {x : AV} {lo hi : Bool} {n : Int} {is : List (TV T)} {f : Int → Int → Option α} {g : α → TV T} {z : TV T} {h : THeap T}
    (h2 : ∀ k k' a b r, f a b = some r → lo = true → hi = true → op.ev [x, .i k a, .i k' b] (avH tb h) = some (av tb (g r), avH tb h))
    (h1 : ∀ k a r, f a n = some r → lo = true → hi = false → op.ev [x, .i k a] (avH tb h) = some (av tb (g r), avH tb h))
    (hh : ∀ k b r, f 0 b = some r → lo = false → hi = true → op.ev [x, .i k b] (avH tb h) = some (av tb (g r), avH tb h))
    (h0 : lo = false → hi = false → op.ev [x] (avH tb h) = some (av tb z, avH tb h)) : Snd tb op (x :: avL tb is) (avH tb h) (sliceR lo hi n is f g z h) := by
  unfold sliceR
  split
  · split
    · rename_i p q hp hq
      obtain ⟨k, e, _⟩ := img_av (tb := tb) hp
      obtain ⟨k', e', _⟩ := img_av (tb := tb) hq
      simp only [avL, e, e']
      exact fun r hr => h2 k k' _ _ r hr rfl rfl
    · exact no_snd
  · split
    · rename_i p hp
      obtain ⟨k, e, _⟩ := img_av (tb := tb) hp
      simp only [avL, e]
      exact fun r hr => h1 k _ r hr rfl rfl
    · exact no_snd
  · split
    · rename_i p hp
      obtain ⟨k, e, _⟩ := img_av (tb := tb) hp
      simp only [avL, e]
      exact fun r hr => hh k _ r hr rfl rfl
    · exact no_snd
  · exact h0 rfl rfl
  · exact no_snd
theorem build_av : ∀ {offs : List (Nat × Nat)} {cs as ds : List (TV T)}, buildT cs offs as = some ds → buildL (avL tb cs) offs (avL tb as) = some (avL tb ds)
  | [], cs, [], ds, h => by cases h; rfl
  | [], cs, _ :: _, ds, h => by cases h
  | _ :: _, cs, [], ds, h => by cases h
  | (off, sz) :: offs, cs, a :: as, ds, h => by
    simp only [buildT] at h
    split at h
    · rename_i hc
      simp only [Bool.and_eq_true] at hc
      obtain ⟨⟨h1, h2⟩, h3⟩ := hc
      have e2 := Nat.eq_of_beq_eq_true h2
      have e3 := Nat.le_of_ble_eq_true h3
      simp only [avL, buildL, strip_av, cells_av, notTup_av, len_av, h1, e2, e3, and_self, if_true, splice_av]
      exact build_av h
    · cases h
theorem pvs_map (l : List PV) : pvs (l.map AV.pv) = some l := by
  induction l with
  | nil => rfl
  | cons p l ih => simp [pvs, ih]
mutual
theorem strip2 : ∀ a : AV, strip (strip a) = strip a
  | .own _ _ => rfl
  | .agg cs => by simp only [strip, strip2L cs]
  | .tup cs => by simp only [strip, strip2L cs]
  | .pv _ => rfl | .ref _ _ => rfl | .eref _ _ => rfl | .view _ _ _ _ => rfl | .clo _ _ _ => rfl | .junk => rfl
theorem strip2L : ∀ l : List AV, stripL (stripL l) = stripL l
  | [] => rfl
  | a :: l => by simp only [stripL, strip2 a, strip2L l]
end
theorem pcells_of' {x : AV} {row : List PV} (h : cellsOf (strip x) = row.map AV.pv) : pcells x = some row := by
  unfold pcells
  have h2 := strip2 x
  generalize strip x = y at h h2 ⊢
  have one : ∀ {p : AV}, [p] = row.map AV.pv → ∃ q, p = .pv q ∧ row = [q] := by
    intro p h
    cases row with
    | nil => simp at h
    | cons q row =>
      cases row with
      | nil => simp at h; exact ⟨q, h, rfl⟩
      | cons => simp at h
  cases y with
  | agg cs =>
    simp only [cellsOf] at h
    simp only [strip, AV.agg.injEq] at h2
    rw [h2] at h
    simp only [h, pvs_map]
  | pv p => obtain ⟨q, h3, h4⟩ := one h; cases h3; subst h4; rfl
  | own => obtain ⟨q, h3, h4⟩ := one h; cases h3
  | ref => obtain ⟨q, h3, h4⟩ := one h; cases h3
  | eref => obtain ⟨q, h3, h4⟩ := one h; cases h3
  | view => obtain ⟨q, h3, h4⟩ := one h; cases h3
  | tup => obtain ⟨q, h3, h4⟩ := one h; cases h3
  | clo => obtain ⟨q, h3, h4⟩ := one h; cases h3
  | junk => obtain ⟨q, h3, h4⟩ := one h; cases h3
theorem pcells_of {a : TV T} {row : List PV} (h : avL tb (cellsT (stripT a)) = row.map AV.pv) : pcells (av tb a) = some row := by
  rw [← cells_av, ← strip_av] at h
  exact pcells_of' h
theorem setRow_R : ∀ (l : List (List PV)) (i : Nat) (r : List PV), setRow l i r = setR l i r
  | [], i, r => rfl
  | x :: l, 0, r => rfl
  | x :: l, n + 1, r => by simp only [setRow, setR, setRow_R l n r]
theorem setR_len {α : Type} : ∀ (l : List α) (i : Nat) (r : α), (setR l i r).length = l.length
  | [], i, r => rfl
  | x :: l, 0, r => rfl
  | x :: l, n + 1, r => by simp [setR, setR_len l n r]
theorem rep_R {α : Type} (n : Nat) (a : α) : repR n a = List.replicate n a := by
  induction n with
  | zero => rfl
  | succ n ih => simp [repR, ih, List.replicate_succ]
theorem setR_map {α β : Type} (f : α → β) : ∀ (l : List α) (i : Nat) (r : α), (setR l i r).map f = setR (l.map f) i (f r)
  | [], i, r => rfl
  | x :: l, 0, r => rfl
  | x :: l, n + 1, r => by simp [setR, setR_map f l n r]
theorem rows_snd (ok : tb.Ok) {k : Nat} : ∀ {idx : List Nat} {rows l : List (T k)} {as : List (TV T)}, rowsT tb k rows idx as = some l → rowsL (tb.sz k) (rows.map (tb.prow k)) idx (avL tb as) = some (l.map (tb.prow k))
  | [], rows, l, [], h => by cases h; rfl
  | [], rows, l, _ :: _, h => by cases h
  | _ :: _, rows, l, [], h => by cases h
  | i :: is, rows, l, a :: as, h => by
    simp only [rowsT] at h
    obtain ⟨x, h1, h⟩ := bind_ex h
    split at h
    · rename_i hlt
      have hlt : i < rows.length := Nat.le_of_ble_eq_true hlt
      have hp := pcells_of (tb := tb) (mkT_av ok h1)
      have hl : (tb.prow k x).length = tb.sz k := by
        rw [ok.row]
        have : ∀ (l : List Tm) (y : tyA T l), (pvAL tb l y).length = l.length := by
          intro l; induction l with
          | nil => intro y; rfl
          | cons a l ih => intro y; simp [pvAL, ih]
        exact this _ _
      simp only [avL, rowsL, hp, hl, List.length_map, hlt, and_self, if_true, setRow_R]
      rw [← setR_map]
      exact rows_snd ok h
    · cases h
theorem rowsB_snd : ∀ {idx : List Nat} {rows l : List UInt8} {as : List (TV T)}, rowsB rows idx as = some l → rowsL 1 (rows.map byteRow) idx (avL tb as) = some (l.map byteRow)
  | [], rows, l, [], h => by cases h; rfl
  | [], rows, l, _ :: _, h => by cases h
  | _ :: _, rows, l, [], h => by cases h
  | i :: is, rows, l, a :: as, h => by
    cases a <;> simp only [rowsB] at h <;> try cases h
    rename_i x
    split at h
    · rename_i hlt
      have hlt : i < rows.length := Nat.le_of_ble_eq_true hlt
      have hp : pcells (av tb (.u8 x : TV T)) = some (byteRow x) := rfl
      have hl : (byteRow x).length = 1 := rfl
      simp only [avL, rowsL, hp, hl, List.length_map, hlt, and_self, if_true, setRow_R]
      rw [← setR_map]
      exact rowsB_snd h
    · cases h
theorem src_av {k : Nat} {v : TV T} {y : Option (List (T k))} (h : srcT k v = some y) : av tb v = oS (tb.sz k) (tb.prow k) y ∨ av tb v = oA (tb.sz k) (tb.prow k) y := by
  unfold srcT at h
  split at h
  · split at h
    · rename_i hk; subst hk; cases h; exact .inl rfl
    · cases h
  · split at h
    · rename_i hk; subst hk; cases h; exact .inr rfl
    · cases h
  · cases h; exact .inl rfl
  · cases h
theorem srcB_av {v : TV T} {y : Option (List UInt8)} (h : srcB v = some y) : av tb v = oS 1 byteRow y ∨ av tb v = oA 1 byteRow y := by
  unfold srcB at h
  split at h
  · cases h; exact .inl rfl
  · cases h; exact .inr rfl
  · cases h; exact .inl rfl
  · cases h
theorem app_snd {α : Type} {z n : Nat} {row : α → List PV} {x y r : Option (List α)} {v : AV} {h : Heap} (hv : v = oS z row y ∨ v = oA z row y) (hr : appO n x y = some r) : POp.ev (.app z n) [oA z row x, v] h = some (oA z row r, h) := by
  rcases hv with rfl | rfl
  · exact ev_app_AS hr
  · exact ev_app_AA hr
theorem cint_snd {k k' : IntKind} {x : Int} {h : Heap} : POp.ev (.cint k) [.i k' x] h = some (av tb (cintT k x : TV T), h) := by
  cases k <;> first
    | exact ev_cint_u8
    | exact ev_cint_u16
    | exact ev_cint_u32
    | exact ev_cint_u64
    | rfl
theorem map_pr {o : Option AV} {v : AV} {h : Heap} (e : o.map strip = some v) : (o.map fun c => (strip c, h)) = some (v, h) := by
  cases o with
  | none => cases e
  | some c => simp only [Option.map_some, Option.some.injEq] at e ⊢; rw [e]
theorem ev_sl0 {s : List UInt8} {h : Heap} : POp.ev (.sstr false false) [As s] h = some (As s, h) := by
  simp only [POp.ev, AV.s, bounds, Option.map_some, ext_mk, size_mk]; simp
theorem dec8 (x y : UInt8) : ((x.toNat : Int) == (y.toNat : Int)) = decide (x = y) := by
  rw [Bool.eq_iff_iff]; simp [← UInt8.toNat_inj]; omega
theorem dec16 (x y : UInt16) : ((x.toNat : Int) == (y.toNat : Int)) = decide (x = y) := by
  rw [Bool.eq_iff_iff]; simp [← UInt16.toNat_inj]; omega
theorem dec32 (x y : UInt32) : ((x.toNat : Int) == (y.toNat : Int)) = decide (x = y) := by
  rw [Bool.eq_iff_iff]; simp [← UInt32.toNat_inj]; omega
theorem dec64 (x y : UInt64) : ((x.toNat : Int) == (y.toNat : Int)) = decide (x = y) := by
  rw [Bool.eq_iff_iff]; simp [← UInt64.toNat_inj]; omega
theorem atom_av {t : ET} {a b : TV T} {q : Bool} (h : atomT t a b = some q) : eqAtom t (av tb a) (av tb b) = some q := by
  unfold atomT at h
  split at h <;> first
    | (cases h; done)
    | (cases h; simp only [av, AV.i, AV.b, AV.s, eqAtom, if_true, dec8, dec16, dec32, dec64]; done)
    | (split at h
       · rename_i hk; subst hk; cases h
         simp only [av, AV.i, eqAtom, if_true]
         rename_i x y
         rw [show (x == y) = decide (x = y) by rw [Bool.eq_iff_iff]; simp]
       · cases h)
    | (cases h
       simp only [av, AV.s, eqAtom]
       rename_i x y
       congr 1
       rw [Bool.eq_iff_iff]
       simp)
theorem eqT_av : ∀ {ts : List ET} {as bs : List (TV T)} {q : Bool}, eqT ts as bs = some q → eqCells ts (avL tb as) (avL tb bs) = some q := by
  intro ts
  induction ts with
  | nil =>
    intro as bs q h
    cases as <;> cases bs <;> simp [eqT] at h
    subst h; rfl
  | cons t ts ih =>
    intro as bs q h
    cases as with
    | nil => cases bs <;> simp [eqT] at h
    | cons a as =>
      cases bs with
      | nil => simp [eqT] at h
      | cons b bs =>
        have gen : (atomT t a b).bind (fun r => (eqT ts as bs).bind fun q => some (r && q)) = some q → eqCells (t :: ts) (avL tb (a :: as)) (avL tb (b :: bs)) = some q := by
          intro h
          obtain ⟨r, h1, h⟩ := bind_ex h
          obtain ⟨q', h2, h⟩ := bind_ex h
          cases h
          simp only [avL, eqCells, atom_av h1]
          cases r with
          | true => simp only [Bool.true_and]; exact ih h2
          | false => simp
        cases ts with
        | nil =>
          cases as with
          | nil =>
            cases bs with
            | nil =>
              refine gen ?_
              simp only [eqT] at h
              rw [h]; simp [eqT]
            | cons => simp [eqT] at h
          | cons => cases bs <;> simp [eqT] at h
        | cons t2 ts => exact gen (by simpa [eqT] using h)
theorem prow_sz (ok : tb.Ok) (k : Nat) (x : T k) : (tb.prow k x).length = tb.sz k := by
  rw [ok.row]
  have : ∀ (l : List Tm) (y : tyA T l), (pvAL tb l y).length = l.length := by
    intro l; induction l with
    | nil => intro y; rfl
    | cons a l ih => intro y; simp [pvAL, ih]
  exact this _ _
theorem rw_sz (ok : tb.Ok) (k : Nat) (x : T k) : (tb.rw k x).length = tb.sz k := by rw [← prow_len ok, prow_sz ok]
theorem flat_slice {α : Type} {sz : Nat} : ∀ {rows : List (List α)} {i off m : Nat} {r : List α}, (∀ r ∈ rows, r.length = sz) → rows[i]? = some r → off + m ≤ sz →
    i * sz + off + m ≤ rows.flatten.length ∧ (rows.flatten.drop (i * sz + off)).take m = (r.drop off).take m
  | [], i, off, m, r, _, h, _ => by simp at h
  | x :: rows, 0, off, m, r, hs, h, hm => by
    simp at h; subst h
    have hx := hs x (by simp)
    simp only [List.flatten_cons, Nat.zero_mul, Nat.zero_add, List.length_append]
    refine ⟨by omega, ?_⟩
    rw [List.drop_append_of_le_length (by omega), List.take_append_of_le_length (by simp; omega)]
  | x :: rows, i + 1, off, m, r, hs, h, hm => by
    simp at h
    have hx := hs x (by simp)
    obtain ⟨a, b⟩ := flat_slice (fun r hr => hs r (by simp [hr])) h hm
    simp only [List.flatten_cons, List.length_append, Nat.add_mul, Nat.one_mul]
    refine ⟨by omega, ?_⟩
    rw [← b, List.drop_append, List.drop_of_length_le (by omega), List.nil_append]
    congr 2
    omega
theorem flat_set {α : Type} {sz : Nat} : ∀ {rows : List (List α)} {i off : Nat} {r cs : List α}, (∀ r ∈ rows, r.length = sz) → rows[i]? = some r → off + cs.length ≤ sz →
    rows.flatten.take (i * sz + off) ++ cs ++ rows.flatten.drop (i * sz + off + cs.length) = (setR rows i (r.take off ++ cs ++ r.drop (off + cs.length))).flatten
  | [], i, off, r, cs, _, h, _ => by simp at h
  | x :: rows, 0, off, r, cs, hs, h, hm => by
    simp at h; subst h
    have hx := hs x (by simp)
    simp only [List.flatten_cons, Nat.zero_mul, Nat.zero_add, setR]
    rw [List.take_append_of_le_length (by omega), List.drop_append_of_le_length (by omega)]
    simp
  | x :: rows, i + 1, off, r, cs, hs, h, hm => by
    simp at h
    have hx := hs x (by simp)
    have ih := flat_set (fun r hr => hs r (by simp [hr])) h hm
    simp only [List.flatten_cons, setR]
    rw [← ih]
    rw [List.take_append, List.drop_append, List.take_of_length_le (by rw [Nat.add_mul]; omega), List.drop_of_length_le (by rw [Nat.add_mul]; omega)]
    rw [show (i + 1) * sz + off - x.length = i * sz + off by rw [Nat.add_mul]; omega, show (i + 1) * sz + off + cs.length - x.length = i * sz + off + cs.length by rw [Nat.add_mul]; omega]
    simp
theorem fld_some {cs : List (TV T)} {off : Nat} {n : Option Nat} (h : inB off n cs.length = true) : ∃ v, fldT cs off n = some v := by
  cases n with
  | none =>
    have hlt : off < cs.length := Nat.le_of_ble_eq_true h
    have : ∀ (l : List (TV T)) (i : Nat), i < l.length → ∃ v, nthT l i = some v := by
      intro l; induction l with
      | nil => intro i h; simp at h
      | cons a l ih =>
        intro i h
        cases i with
        | zero => exact ⟨a, rfl⟩
        | succ i => exact ih i (by simpa using h)
    obtain ⟨v, hv⟩ := this cs off hlt
    exact ⟨stripT v, by simp only [fldT, hv, Option.bind_some]⟩
  | some m =>
    simp only [inB] at h
    exact ⟨_, by simp only [fldT]; rw [if_pos h]⟩
theorem ix_get {α : Type} {l : List α} {i : Int} {x : α} (h : ix l i = some x) : l[i.toNat]? = some x := by
  simp only [ix] at h
  split at h
  · exact h
  · cases h
theorem rows_sz (ok : tb.Ok) {k : Nat} (l : List (T k)) : ∀ r ∈ l.map (tb.prow k), r.length = tb.sz k := by
  intro r hr
  simp only [List.mem_map] at hr
  obtain ⟨x, _, rfl⟩ := hr
  exact prow_sz ok k x
theorem ldB_snd (ok : tb.Ok) {k id off : Nat} {n : Option Nat} {i : Int} {h : THeap T} : Snd tb (.load n) [.ref id (i.toNat * tb.sz k + off)] (avH tb h) (ldB tb k off n i (hgetT h id) h) := by
  unfold ldB
  split
  case h_2 => exact no_snd
  rename_i k' l hg
  split
  case isFalse => exact no_snd
  rename_i hk
  subst hk
  split
  case isFalse => exact no_snd
  rename_i hb
  intro x hx
  have hx := ix_get hx
  have e : hget (avH tb h) id = ((l.map (tb.prow k')).flatten).map AV.pv := by rw [hget_av, hg]; rfl
  obtain ⟨v, hv⟩ := fld_some (cs := tb.rw k' x) (by rw [rw_sz ok]; exact hb)
  have e2 := fld_av (tb := tb) hv
  rw [rw_av ok] at e2
  simp only [hv, Option.getD_some]
  have hr : (l.map (tb.prow k'))[i.toNat]? = some (tb.prow k' x) := by simp [hx]
  simp only [POp.ev, e]
  cases n with
  | none =>
    have hlt : off < tb.sz k' := Nat.le_of_ble_eq_true hb
    have hlt' : off < (tb.prow k' x).length := by rw [prow_sz ok]; exact hlt
    have hc : (tb.prow k' x)[off]? = some ((tb.prow k' x)[off]'hlt') := List.getElem?_eq_getElem hlt'
    have h3 := flat_get (rows_sz ok l) hr hc
    simp only [nth_eq, List.getElem?_map, hc, h3] at e2 ⊢
    simp only [Option.map_some, Option.some.injEq] at e2 ⊢
    rw [e2]
  | some m =>
    have hle : off + m ≤ tb.sz k' := Nat.le_of_ble_eq_true hb
    obtain ⟨h3, h4⟩ := flat_slice (rows_sz ok l) hr hle
    have hl2 : (tb.prow k' x).length = tb.sz k' := prow_sz ok k' x
    simp only [List.length_map, hl2, hle, if_true, Option.some.injEq] at e2
    simp only [List.length_map, h3, if_true]
    rw [← e2, ← List.map_drop, ← List.map_take, h4, ← List.map_drop, ← List.map_take]
theorem setR_eq_map {α β : Type} (f : α → β) (l : List α) (i : Nat) (r : α) : (setR l i r).map f = setR (l.map f) i (f r) := setR_map f l i r
theorem stB_snd (ok : tb.Ok) {k id off n : Nat} {i : Int} {a : TV T} {h : THeap T} : Snd tb (.store n) [.ref id (i.toNat * tb.sz k + off), av tb a] (avH tb h) (stB tb k id off n i a (hgetT h id) h) := by
  unfold stB
  split
  case h_2 => exact no_snd
  rename_i k' l hg
  split
  case isFalse => exact no_snd
  rename_i hk
  subst hk
  split
  case isFalse => exact no_snd
  rename_i hc
  simp only [Bool.and_eq_true] at hc
  obtain ⟨⟨h1, h2⟩, h3⟩ := hc
  have h2 := Nat.eq_of_beq_eq_true h2
  have h3 := Nat.le_of_ble_eq_true h3
  intro y hy
  obtain ⟨x, hx, hm⟩ := bind_ex hy
  have hx := ix_get hx
  have e : hget (avH tb h) id = ((l.map (tb.prow k')).flatten).map AV.pv := by rw [hget_av, hg]; rfl
  have hr : (l.map (tb.prow k'))[i.toNat]? = some (tb.prow k' x) := by simp [hx]
  have hle := (flat_slice (m := n) (rows_sz ok l) hr h3).1
  have hm2 := mkT_av ok hm
  rw [← splice_av, rw_av ok] at hm2
  have hnb : nb [(.blk k' (setR l i.toNat y) : TV T)] = false := rfl
  simp only [POp.ev]
  rw [notTup_av, cells_av, len_av, e, List.length_map, if_pos ⟨h1, h2, hle⟩]
  have hgoal : hset (avH tb h) id (splice (((l.map (tb.prow k')).flatten).map AV.pv) (i.toNat * tb.sz k' + off) (avL tb (cellsT a))) = avH tb (hsetT h id [.blk k' (setR l i.toNat y)]) := by
    rw [← hset_av]
    congr 1
    show _ = ((setR l i.toNat y).map (tb.prow k')).flatten.map AV.pv
    have hl : off + (avL tb (cellsT a)).length ≤ tb.sz k' := by rw [len_av, h2]; exact h3
    have q := flat_set (rows := (l.map (tb.prow k')).map (List.map AV.pv)) (i := i.toNat) (off := off) (r := (tb.prow k' x).map AV.pv) (cs := avL tb (cellsT a)) (sz := tb.sz k') (fun r hr => by
      simp only [List.mem_map] at hr
      obtain ⟨_, ⟨z, _, rfl⟩, rfl⟩ := hr
      rw [List.length_map, prow_sz ok]) (by simp [hx]) hl
    have f1 : ((l.map (tb.prow k')).map (List.map AV.pv)).flatten = ((l.map (tb.prow k')).flatten).map AV.pv := by rw [List.map_flatten]
    rw [f1] at q
    simp only [splice] at hm2 ⊢
    rw [q, hm2, setR_map, List.map_flatten, setR_map]
  rw [hgoal]
  rfl
theorem rep_flat (n : Nat) (r : List PV) : rep n (r.map AV.pv) = (List.replicate n r).flatten.map AV.pv := by
  simp only [rep]
  rw [List.map_flatten, List.map_replicate]
theorem bytesT_av : ∀ {cs : List (TV T)} {l : List UInt8}, bytesT cs = some l → bytesA (avL tb cs) = some l
  | [], l, h => by cases h; rfl
  | c :: cs, l, h => by
    unfold bytesT at h
    split at h
    · rename_i e; cases e
    · rename_i x l' e
      cases e
      obtain ⟨r, h1, h2⟩ := bind_ex h
      cases h2
      simp only [avL, av, AV.i, bytesA, bytesT_av h1, Option.map_some, Int.toNat_natCast, UInt8.ofNat_toNat]
    · cases h
theorem src_rows {k : Nat} {v : TV T} {y : Option (List (T k))} (h : srcT k v = some y) : rowsOf (tb.sz k) (av tb v) = some ((L y).map (tb.prow k)) := by
  rcases src_av (tb := tb) h with e | e <;> rw [e] <;> cases y <;> simp [oS, oP, oA, rowsOf, L, AV.nilS]
theorem evR_snd (ok : tb.Ok) (op : TOp T) (as : List (TV T)) (h : THeap T) : Snd tb (erO tb op) (avL tb as) (avH tb h) (evR tb op as h) := by
  cases op with
  | bin o t => simp only [evR]; split; exact bin_snd; exact no_snd
  | call f i => exact no_snd
  | mv => simp only [evR]; split; exact rfl; exact no_snd
  | pick => simp only [evR]; split; exact rfl; exact rfl; exact no_snd
  | alloc zs =>
    simp only [evR]; split
    · split
      · rename_i hn
        simp only [OR.all, erO, avL]
        exact ev_alloc (by simp [avH]) (by simp [avH, avO_nb hn])
      · exact no_snd
    · exact no_snd
  | box =>
    simp only [evR]; split
    · split
      · rename_i a hn
        simp only [Bool.and_eq_true] at hn
        simp only [OR.all, erO, avL]
        exact ev_box (by simp [avH]) (by rw [notTup_av]; exact hn.1) (by rw [strip_av, cells_av]) (by simp [avH, avO_nb hn.2])
      · exact no_snd
    · exact no_snd
  | mkf f nf =>
    simp only [evR]; split
    · rename_i hall
      have h2 : (avL tb as).all isR0 = true := by
        rw [avL_map, List.all_map, List.all_eq_true]
        intro x hx
        exact isR0_av (List.all_eq_true.1 hall x hx)
      show POp.ev (.mkf (.func f) nf) (avL tb as) (avH tb h) = some (av tb (.clo f (as.take nf) (as.drop nf)), avH tb h)
      simp only [POp.ev]
      rw [if_pos h2]
      simp only [av, avL_map, List.map_take, List.map_drop]
    · exact no_snd
  | build zs offs =>
    simp only [evR]; split
    · rename_i cs hb; exact ev_bld (build_av hb)
    · exact no_snd
  | bslice k n z idx =>
    simp only [evR]; split
    · rename_i l hl
      have := rows_snd ok hl
      rw [rep_R, List.map_replicate] at this
      simp only [OR.all, erO, POp.ev, this, Option.map_some]
      rfl
    · exact no_snd
  | b8 n idx =>
    simp only [evR]; split
    · rename_i l hl
      have := rowsB_snd (tb := tb) hl
      rw [rep_R, List.map_replicate] at this
      simp only [OR.all, erO, POp.ev, this, Option.map_some]
      rfl
    · exact no_snd
  | load n =>
    simp only [evR]; split
    · rename_i id off
      split
      · rename_i hnb
        refine ofV_snd fun v hv => ?_
        have := fld_av (tb := tb) hv
        simp only [erO, avL, av, POp.ev, hget_nb hnb]
        cases n with
        | none => exact map_pr this
        | some m => simp only at this ⊢; split at this <;> rename_i hle <;> simp only [hle, if_true, if_false] <;> simp at this ⊢; exact this
      · exact no_snd
    · exact ldB_snd ok
    · split
      · exact rfl
      · exact no_snd
    · exact ofV_snd fun v hv => lde_snd ok hv
    · exact no_snd
  | loadm =>
    simp only [evR]; split
    · split
      · rename_i id off c hc
        split
        · rename_i hn
          simp only [Bool.and_eq_true] at hn
          refine ev_ldm ?_ ?_
          · rw [hget_nb hn.1, nth_av, hc]; rfl
          · rw [hget_nb hn.1]
            have : AV.junk = av tb (.junk : TV T) := rfl
            rw [this, setNth_av, hset_nb hn.2]
        · exact no_snd
      · exact no_snd
    · exact no_snd
  | store n =>
    simp only [evR]; split
    · split
      · rename_i id off a hc
        simp only [Bool.and_eq_true] at hc
        obtain ⟨⟨⟨⟨h1, h2⟩, h3⟩, h4⟩, h5⟩ := hc
        exact ev_stn (by rw [notTup_av]; exact h1) (cells_av a) (by rw [len_av]; exact h2) (by rw [hget_nb h4, len_av]; exact h3) (by rw [hget_nb h4, splice_av, hset_nb h5])
      · exact no_snd
    · exact stB_snd ok
    · exact no_snd
  | nilck => simp only [evR]; split; exact rfl; exact rfl; exact rfl; exact rfl; exact no_snd
  | eqs neg ts =>
    simp only [evR]; split
    · split
      · rename_i cs ds q hq
        simp only [OR.all, erO, avL, av, POp.ev, eqT_av hq, Option.map_some]
      · exact no_snd
    · exact no_snd
  | un o => simp only [evR]; split; exact rfl; exact rfl; exact no_snd
  | cint k =>
    simp only [evR]; split
    · split
      · rename_i p hp
        obtain ⟨k', e, _⟩ := img_av (tb := tb) hp
        simp only [OR.all, erO, avL, e]
        exact cint_snd
      · exact no_snd
    · exact no_snd
  | s2b => simp only [evR]; split; exact fun r hr => ev_s2b hr; exact no_snd
  | b2s => simp only [evR]; split; exact ev_b2s_S; exact ev_b2s_A; exact no_snd
  | cid => simp only [evR]; split; exact rfl; exact no_snd
  | sstr lo hi =>
    simp only [evR]; split
    · refine slice_snd ?_ ?_ ?_ ?_
      · rintro k k' a b r hr rfl rfl; exact ev_sl2 hr
      · rintro k a r hr rfl rfl; exact ev_sl1 hr
      · rintro k a r hr rfl rfl; exact ev_slh hr
      · rintro rfl rfl
        exact ev_sl0
    · exact no_snd
  | ssl sz lo hi =>
    simp only [evR]; split
    · split
      · rename_i hz; subst hz
        refine slice_snd ?_ ?_ ?_ ?_
        · rintro k k' a b r hr rfl rfl; exact ev_ss2 hr
        · rintro k a r hr rfl rfl; exact ev_ss1 hr
        · rintro k a r hr rfl rfl; exact ev_ssh hr
        · rintro rfl rfl; exact ev_ss0
      · exact no_snd
    · split
      · rename_i hz; subst hz
        refine slice_snd ?_ ?_ ?_ ?_
        · rintro k k' a b r hr rfl rfl; exact ev_ss2 hr
        · rintro k a r hr rfl rfl; exact ev_ss1 hr
        · rintro k a r hr rfl rfl; exact ev_ssh hr
        · rintro rfl rfl; exact ev_ss0
      · exact no_snd
    · exact no_snd
  | fa off =>
    simp only [evR]; split
    · exact rfl
    · exact rfl
    · rename_i k id i o
      simp only [OR.all, erO, avL, av, POp.ev, Nat.add_assoc]
    · exact no_snd
  | fld off n =>
    simp only [evR]; split
    · refine ofV_snd fun v hv => ?_
      have := fld_av (tb := tb) hv
      simp only [erO, avL, av, POp.ev]
      cases n with
      | none => exact map_pr this
      | some m => simp only at this ⊢; split at this <;> rename_i hle <;> simp only [hle, if_true, if_false] <;> simp at this ⊢; exact this
    · exact no_snd
  | ia sz =>
    simp only [evR]; split
    · split
      · split
        · rename_i p hp hz; subst hz
          obtain ⟨k', e, _⟩ := img_av (tb := tb) hp
          simp only [OR.all, erO, avL, e]
          exact fun x hx => ev_ix_S hx
        · exact no_snd
      · exact no_snd
    · split
      · split
        · rename_i p hp hz; subst hz
          obtain ⟨k', e, _⟩ := img_av (tb := tb) hp
          simp only [OR.all, erO, avL, e]
          exact fun x hx => ev_ix_S hx
        · exact no_snd
      · exact no_snd
    · split
      · split
        · rename_i k id n _ _ p hp hz
          subst hz
          obtain ⟨k', e, _⟩ := img_av (tb := tb) hp
          intro _ hc
          have hc := of_decide_eq_true (chk_ex hc)
          simp only [erO, avL, e, av, AV.i, POp.ev]
          rw [if_pos hc]
          simp
        · exact no_snd
      · exact no_snd
    · exact no_snd
  | iarr n sz =>
    simp only [evR]; split
    · split
      · rename_i p hp
        obtain ⟨k', e, _⟩ := img_av (tb := tb) hp
        refine ofO_snd fun m v hi hm hf => ?_
        cases hf
        simp only [erO, avL, e, hi, AV.i, av, POp.ev]
        rw [if_pos ⟨by omega, by omega⟩]
        simp
      · exact no_snd
    · split
      · rename_i p hp
        obtain ⟨k', e, _⟩ := img_av (tb := tb) hp
        refine ofO_snd fun m v hi hm hf => ?_
        cases hf
        simp only [erO, avL, e, hi, AV.i, av, POp.ev]
        rw [if_pos ⟨by omega, by omega⟩]
        simp
      · exact no_snd
    · exact no_snd
  | sidx =>
    simp only [evR]; split
    · split
      · rename_i p hp
        obtain ⟨k', e, _⟩ := img_av (tb := tb) hp
        simp only [OR.all, erO, avL, e]
        exact fun x hx => ev_six hx
      · exact no_snd
    · exact no_snd
  | aidx n sz m =>
    simp only [evR]; split
    · split
      · rename_i p hp
        obtain ⟨k', e, _⟩ := img_av (tb := tb) hp
        refine ofO_snd fun j v hi hm hf => ?_
        have := fld_av (tb := tb) hf
        simp only [erO, avL, e, hi, AV.i, av, POp.ev]
        rw [if_pos ⟨by omega, by omega⟩]
        simp only [Int.toNat_natCast]
        cases m with
        | none => exact map_pr this
        | some q => simp only at this ⊢; split at this <;> rename_i hle <;> simp only [hle, if_true, if_false] <;> simp at this ⊢; exact this
      · exact no_snd
    · exact no_snd
  | ext i =>
    simp only [evR]; split
    · refine ofV_snd fun v hv => ?_
      simp only [erO, avL, av, POp.ev, nth_av, hv, Option.map_some]
    · exact no_snd
  | extm =>
    simp only [evR]; split
    · split
      · rename_i a hn
        simp only [OR.all, erO, avL, POp.ev]
        have := notTup_av (tb := tb) a
        rw [hn] at this
        generalize av tb a = x at this ⊢
        cases x <;> first | rfl | cases this
      · exact no_snd
    · exact no_snd
  | len => simp only [evR]; split; exact ev_len_S; exact ev_len_A; exact ev_len_S; exact ev_len_A; exact rfl; exact rfl; exact no_snd
  | lens => simp only [evR]; split; exact ev_lens_s; exact no_snd
  | min => simp only [evR]; split; exact rfl; exact ev_min_u8; exact ev_min_u16; exact ev_min_u32; exact ev_min_u64; exact no_snd
  | max => simp only [evR]; split; exact rfl; exact ev_max_u8; exact ev_max_u16; exact ev_max_u32; exact ev_max_u64; exact no_snd
  | app sz n =>
    simp only [evR]; split
    · split
      · split
        · rename_i hs hz; subst hz; exact fun r hr => app_snd (src_av hs) hr
        · exact no_snd
      · exact no_snd
    · split
      · split
        · rename_i hs hz; subst hz; exact fun r hr => app_snd (x := none) (src_av hs) hr
        · exact no_snd
      · exact no_snd
    · split
      · split
        · rename_i hs hz; subst hz; exact fun r hr => app_snd (srcB_av hs) hr
        · exact no_snd
      · exact no_snd
    · split
      · split
        · rename_i hs hz; subst hz; exact fun r hr => app_snd (x := none) (srcB_av hs) hr
        · exact no_snd
      · exact no_snd
    · exact no_snd
  | appv k b =>
    simp only [evR]; split
    · split
      · rename_i hk
        subst hk
        split
        · rename_i y hs
          intro _ hc
          have hc := of_decide_eq_true (chk_ex hc)
          have e : (avH tb h).length = h.length := by simp [avH]
          have hr := src_rows (tb := tb) hs
          simp only [erO, avL, av, oA, List.map_nil, POp.ev, hr, e, List.length_map]
          rw [if_pos ⟨trivial, hc.1, hc.2⟩]
          simp only [avH, List.map_append, List.map_cons, List.map_nil, avO]
        · exact no_snd
      · exact no_snd
    · exact no_snd
  | sarr n =>
    simp only [evR]; split
    · split
      · rename_i hz
        simp only [OR.all, erO, avL, av, POp.ev, Nat.eq_of_beq_eq_true hz]
      · exact no_snd
    · exact no_snd
  | b2v =>
    simp only [evR]; split
    · rename_i k0 id n
      unfold b2vT
      split
      · rename_i l hl
        intro u hu
        have hle : n ≤ l.length := of_decide_eq_true (chk_ex hu)
        have hg : hget (avH tb h) id = ((tb.b8 l).map byteRow).flatten.map AV.pv := by rw [hget_av, hl, ok.b8]; rfl
        have hlen : (((tb.b8 l).map byteRow).flatten.map AV.pv).length = l.length := by
          have e1 : ∀ x : List UInt8, (x.map byteRow).flatten.length = x.length := by
            intro x; induction x with
            | nil => rfl
            | cons a x ih => simp [byteRow, ih]
          have e2 := congrArg List.length (ok.b8 l)
          rw [List.length_map, List.length_map] at e2
          rw [List.length_map, e1, e2]
        have hb : ∀ (x : List UInt8) (n : Nat), bytesA (((x.map byteRow).flatten.map AV.pv).take n) = some (x.take n) := by
          intro x
          induction x with
          | nil => intro n; simp [bytesA]
          | cons a x ih =>
            intro n
            cases n with
            | zero => simp [bytesA]
            | succ n =>
              have := ih n
              simp only [List.map_cons, List.flatten_cons, byteRow, List.cons_append, List.nil_append, List.take_succ_cons]
              simp only [bytesA]
              rw [this]
              simp
        simp only [erO, avL, av, POp.ev, hg, List.drop_zero, Nat.zero_add]
        rw [if_pos (by rw [hlen]; exact hle), hb]
        rfl
      · split
        · rename_i hc
          simp only [Bool.and_eq_true] at hc
          have hle := Nat.le_of_ble_eq_true hc.2
          split
          · rename_i l hl
            simp only [OR.all, erO, avL, av, POp.ev, hget_nb hc.1, Nat.zero_add, len_av, List.drop_zero, take_av]
            rw [if_pos hle, bytesT_av hl]
            rfl
          · exact no_snd
        · exact no_snd
    · exact no_snd
  | mksl k b z =>
    simp only [evR]; split
    · split
      · rename_i p q hp hq
        obtain ⟨k1, e1, _⟩ := img_av (tb := tb) hp
        obtain ⟨k2, e2, _⟩ := img_av (tb := tb) hq
        intro _ hc
        have hc := of_decide_eq_true (chk_ex hc)
        simp only [erO, avL, e1, e2, AV.i, av, POp.ev]
        rw [if_pos ⟨hc.1, hc.2.1, hc.2.2.1, hc.2.2.2, by rw [List.length_map, prow_sz ok]⟩]
        have e : (avH tb h).length = h.length := by simp [avH]
        simp only [e]
        congr 2
        simp only [avH, List.map_append, List.map_cons, List.map_nil, avO, rep_flat, rep_R, List.map_replicate]
      · exact no_snd
    · exact no_snd
  | apps => simp only [evR]; split; exact fun r hr => ev_apps hr; exact fun r hr => ev_apps (x := none) hr; exact no_snd
end Go.Rv

set_option maxHeartbeats 4000000
namespace Go.Rv
open Go.RowKit
variable {T : Nat → Type}
structure TSOp (T : Nat → Type) where
  op : TOp T
  args : List (TArg T)
  dst : Option Nat
  guard : Option (Nat × Bool)
/-- What a call comes to. -/
structure Orc (T : Nat → Type) : Type 1 where
  run : {ρ : Type} → List (TV T) → THeap T → (TV T → THeap T → Option ρ) → Option ρ
/-- What a piece of code comes to. -/
structure Cut (T : Nat → Type) : Type 1 where
  run : {ρ : Type} → TSt T → (SExit → TSt T → Option ρ) → Option ρ
inductive TCode (T : Nat → Type) : Type 1 where
  | skip
  | reg (ops : List (TSOp T)) (draw : Option (List (List Nat)))
  | seq (a b : TCode T)
  | cond (c : Nat) (a b : TCode T)
  | block (id : Nat) (b : TCode T)
  | loop (b : TCode T)
  | exit (id : Nat)
  | ret
  | drop (ts : List Nat) (c : TCode T)
  | cut (k : Nat) (o : Cut T) (c : TCode T)
  | fin (k : Nat) (o : Cut T) (c : TCode T)
  | frz (ts : List Nat) (n : Option Nat) (c : TCode T)
  | fend (n : Nat) (c : TCode T)
variable (tb : Tab T)
def erS (o : TSOp T) : SOp := ⟨erO tb o.op, o.args.map (avArg tb), o.dst, o.guard⟩
def erC : TCode T → SCode
  | .skip => .skip
  | .reg ops d => .reg (ops.map (erS tb)) d
  | .seq a b => .seq (erC a) (erC b)
  | .cond c a b => .cond c (erC a) (erC b)
  | .block i b => .block i (erC b)
  | .loop b => .loop (erC b)
  | .exit i => .exit i
  | .ret => .ret
  | .drop ts c => .drop ts (erC c)
  | .cut k _ c => .weak k (erC c)
  | .fin k _ c => .fin k (erC c)
  | .frz _ _ c => .frzB (erC c)
  | .fend _ c => .frzE (erC c)
def putDT (e : TEnv T) (d : Option Nat) (a : TV T) : TEnv T :=
  match d with
  | some t => putT' e t a
  | none => e
def rmDT (e : TEnv T) (d : Option Nat) : TEnv T :=
  match d with
  | some t => putT' e t (.tup [])
  | none => e
def srtT : TEnv T → Bool
  | [] => true
  | [_] => true
  | (k, _) :: (j, y) :: e => decide (k < j) && srtT ((j, y) :: e)
def noOwnT : TV T → Bool
  | .ow _ _ => false | .bo _ => false | _ => true
def isRaT : TV T → Bool
  | .agg cs => cs.all noOwnT
  | a => isR0T a
def calleeT : Option Nat → List (TV T) → Option (Nat × List (TV T))
  | some f, as => some (f, as)
  | none, .clo f fs cs :: as => if as.all isRaT then some (f, fs ++ (as ++ cs)) else none
  | none, _ => none
abbrev Orcs (T : Nat → Type) := List (Nat × Orc T)
def findO : Orcs T → Nat → Nat → Option (Orc T)
  | [], _, _ => none
  | (f, o) :: _, 0, g => if Nat.beq f g then some o else none
  | _ :: l, n + 1, g => findO l n g
def growT (l : List Nat) (r : TV T) (H' : THeap T) (n : Nat) : Option Nat :=
  if H'.length = l.length ∧ (refsT r).all (fun i => decide (i < l.length)) = true ∧ H'.all (fun ob => (refsTL ob).all fun i => decide (i < l.length)) = true then none else some n
section
variable {ρ : Type}
def callT (orcs : Orcs T) (i : Nat) (f : Option Nat) (as : List (TV T)) (h : THeap T) (k : TV T → THeap T → List Nat → TV T → THeap T → Option ρ) : Option ρ :=
  match calleeT f as with
  | some (fid, as') => match findO orcs i fid with
    | some o =>
      let l := reachT h 300 (refsTL as') []
      if closedT h l as' then o.run (renTL (posOf l) as') (subHeapT h l) fun r H' => k (renT (backOf l h.length) r) (mergeHT (backOf l h.length) h l H') l r H' else none
    | none => none
  | none => none
/-- A slot that tells which of two is picked. -/
def pickS (o : TOp T) (args : List (TArg T)) : Option Nat :=
  match o, args with
  | .pick, .v t :: _ => some t
  | .pick, .m t :: _ => some t
  | _, _ => none
/-- Two ways, by what a slot holds. -/
def splitT (t : Nat) (s : TSt T) (k : TSt T → Option ρ) : Option ρ :=
  match lkT s.env t with
  | .b c => if srtT s.env then (if c then k ⟨putT' s.env t (.b true), s.heap⟩ else k ⟨putT' s.env t (.b false), s.heap⟩) else none
  | _ => none
def actT (tb : Tab T) (orcs : Orcs T) (o : TSOp T) (s : TSt T) (k : TSt T → Option ρ) : Option ρ :=
  match o.op with
  | .call f i => callT orcs i f (rdTs s.env o.args).1 s.heap fun r h _ _ _ => k ⟨putDT (rdTs s.env o.args).2 o.dst r, h⟩
  | op => (evR tb op (rdTs s.env o.args).1 s.heap).go fun r h => k ⟨putDT (rdTs s.env o.args).2 o.dst r, h⟩
def actP (tb : Tab T) (orcs : Orcs T) (o : TSOp T) (s : TSt T) (k : TSt T → Option ρ) : Option ρ :=
  match pickS o.op o.args with
  | some t => splitT t s fun s => actT tb orcs o s k
  | none => actT tb orcs o s k
def runO (tb : Tab T) (orcs : Orcs T) : List (TSOp T) → TSt T → (TSt T → Option ρ) → Option ρ
  | [], s, k => k s
  | o :: os, s, k =>
    match o.guard with
    | none => actP tb orcs o s fun s => runO tb orcs os s k
    | some (t, w) => match lkT s.env t with
      | .tup [] => runO tb orcs os ⟨rmDT s.env o.dst, s.heap⟩ k
      | _ => splitT t s fun s => match lkT s.env t, w with
        | .b true, true => actP tb orcs o s fun s => runO tb orcs os s k
        | .b false, false => actP tb orcs o s fun s => runO tb orcs os s k
        | _, _ => runO tb orcs os ⟨rmDT s.env o.dst, s.heap⟩ k
def actD (tb : Tab T) (orcs : Orcs T) (o : TSOp T) (u : List Nat) (Fs : List Foot) (s : TSt T) (k : Foot → TSt T → Option ρ) : Option ρ :=
  match o.op with
  | .call f i => callT orcs i f (rdTs s.env o.args).1 s.heap fun r h l r0 H' =>
      if footsOk u Fs ⟨l, l, growT l r0 H' s.heap.length⟩ then k ⟨l, l, growT l r0 H' s.heap.length⟩ ⟨putDT (rdTs s.env o.args).2 o.dst r, h⟩ else none
  | op => (evR tb op (rdTs s.env o.args).1 s.heap).go fun r h =>
      if (footOf (erO tb op) (avL tb (rdTs s.env o.args).1) (avH tb s.heap)).ord.all (fun i => decide (i < s.heap.length)) && footsOk u Fs (footOf (erO tb op) (avL tb (rdTs s.env o.args).1) (avH tb s.heap)) then
        k (footOf (erO tb op) (avL tb (rdTs s.env o.args).1) (avH tb s.heap)) ⟨putDT (rdTs s.env o.args).2 o.dst r, h⟩ else none
def actDP (tb : Tab T) (orcs : Orcs T) (o : TSOp T) (u : List Nat) (Fs : List Foot) (s : TSt T) (k : Foot → TSt T → Option ρ) : Option ρ :=
  match pickS o.op o.args with
  | some t => splitT t s fun s => actD tb orcs o u Fs s k
  | none => actD tb orcs o u Fs s k
def runD (tb : Tab T) (orcs : Orcs T) : List (TSOp T) → List (List Nat) → List Foot → TSt T → (TSt T → Option ρ) → Option ρ
  | [], _, _, s, k => k s
  | o :: os, us, Fs, s, k =>
    match o.guard with
    | none => actDP tb orcs o (us.headD []) Fs s fun F s => runD tb orcs os us.tail (Fs ++ [F]) s k
    | some (t, w) => match lkT s.env t with
      | .tup [] => runD tb orcs os us.tail (Fs ++ [.none]) ⟨rmDT s.env o.dst, s.heap⟩ k
      | _ => splitT t s fun s => match lkT s.env t, w with
        | .b true, true => actDP tb orcs o (us.headD []) Fs s fun F s => runD tb orcs os us.tail (Fs ++ [F]) s k
        | .b false, false => actDP tb orcs o (us.headD []) Fs s fun F s => runD tb orcs os us.tail (Fs ++ [F]) s k
        | _, _ => runD tb orcs os us.tail (Fs ++ [.none]) ⟨rmDT s.env o.dst, s.heap⟩ k
/-- The value of rows that are written no more. -/
def frzV (tb : Tab T) (j : Nat) (l : List (T j)) : TV T := if hj : j = 0 then .bs (some (tb.b8 (hj ▸ l))) else .sl j (some l)
def frz1K (tb : Tab T) (F : List Nat) (h : THeap T) (v : TV T) (k : TV T → Option ρ) : Option ρ := match v with
  | .vw j id n => if F.contains id then (match hgetT h id with
    | [.blk j' l] => if hj : j' = j then (if Nat.blt 0 (tb.sz j) then (chk (decide (n ≤ l.length))).bind fun _ => k (frzV tb j ((hj ▸ l : List (T j)).take n)) else none) else none
    | _ => none) else k (.vw j id n)
  | v => k v
def frzLK (tb : Tab T) (F : List Nat) (h : THeap T) : List (TV T) → (List (TV T) → Option ρ) → Option ρ
  | [], k => k []
  | v :: vs, k => frz1K tb F h v fun v => frzLK tb F h vs fun vs => k (v :: vs)
def frzAK (tb : Tab T) (F : List Nat) (h : THeap T) (v : TV T) (k : TV T → Option ρ) : Option ρ := match v with
  | .agg cs => frzLK tb F h cs fun cs => k (.agg cs)
  | .tup cs => frzLK tb F h cs fun cs => k (.tup cs)
  | v => frz1K tb F h v k
def frzEK (tb : Tab T) (F : List Nat) (h : THeap T) : TEnv T → (TEnv T → Option ρ) → Option ρ
  | [], k => k []
  | (t, v) :: e, k => frzAK tb F h v fun v => frzEK tb F h e fun e => k ((t, v) :: e)
def frzHK (tb : Tab T) (F : List Nat) (h : THeap T) : Nat → THeap T → (THeap T → Option ρ) → Option ρ
  | _, [], k => k []
  | i, o :: os, k => if F.contains i then frzHK tb F h (i + 1) os fun os => k ([] :: os) else (if nb o then frzLK tb F h o fun o => if nb o then frzHK tb F h (i + 1) os fun os => k (o :: os) else none else frzHK tb F h (i + 1) os fun os => k (o :: os))
def frzK (tb : Tab T) (F : List Nat) (s : TSt T) (k : TSt T → Option ρ) : Option ρ := frzEK tb F s.heap s.env fun e => frzHK tb F s.heap 0 s.heap fun h => k ⟨e, h⟩
/-- Which rows: those that these slots see; all of objects from n on. -/
def selV (e : TEnv T) : List Nat → List Nat
  | [] => []
  | t :: ts => match lkT e t with
    | .vw _ id _ => id :: selV e ts
    | _ => selV e ts
def selN (n : Nat) : Nat → THeap T → List Nat
  | _, [] => []
  | i, o :: os => if Nat.ble n i && !nb o then i :: selN n (i + 1) os else selN n (i + 1) os
def selT (s : TSt T) (ts : List Nat) (n : Option Nat) : List Nat := match n with
  | none => selV s.env ts
  | some n => selV s.env ts ++ selN n 0 s.heap
def runS (tb : Tab T) (orcs : Orcs T) : TCode T → TSt T → (SExit → TSt T → Option ρ) → Option ρ
  | .skip, s, k => k .normal s
  | .reg ops none, s, k => runO tb orcs ops s (k .normal)
  | .reg ops (some us), s, k => if srtT s.env then runD tb orcs ops us [] s (k .normal) else none
  | .seq a b, s, k => runS tb orcs a s fun e s => match e with
    | .normal => runS tb orcs b s k
    | e => k e s
  | .cond c a b, s, k => match lkT s.env c with
    | .b x => if x then runS tb orcs a s k else runS tb orcs b s k
    | _ => none
  | .block id b, s, k => runS tb orcs b s fun e s => match e with
    | .exit i => if Nat.beq i id then k .normal s else k (.exit i) s
    | e => k e s
  | .loop _, _, _ => none
  | .exit i, s, k => k (.exit i) s
  | .ret, s, k => k .ret s
  | .drop ts c, s, k => runS tb orcs c ⟨dropTL ts s.env, s.heap⟩ k
  | .cut _ o _, s, k => o.run s k
  | .fin _ o c, s, k => runS tb orcs c s fun e s => match e with
    | .normal => o.run s k
    | e => k e s
  | .frz ts n c, s, k => frzK tb (selT s ts n) s fun s => runS tb orcs c s k
  | .fend n c, s, k => runS tb orcs c s fun e s => frzK tb (selT s [] (some n)) s (k e)
end
-- ---------- the same, whatever goes on behind ----------
structure Orc.Par (o : Orc T) : Prop where
  par : ∀ {ρ σ : Type} (as : List (TV T)) (h : THeap T) (k : TV T → THeap T → Option σ) (f : σ → Option ρ), o.run as h (fun r h => (k r h).bind f) = (o.run as h k).bind f
structure Cut.Par (o : Cut T) : Prop where
  par : ∀ {ρ σ : Type} (s : TSt T) (k : SExit → TSt T → Option σ) (f : σ → Option ρ), o.run s (fun e t => (k e t).bind f) = (o.run s k).bind f
def allC (p : Nat → Cut T → TCode T → Prop) : TCode T → Prop
  | .seq a b => allC p a ∧ allC p b
  | .cond _ a b => allC p a ∧ allC p b
  | .block _ b => allC p b
  | .loop b => allC p b
  | .drop _ c => allC p c
  | .cut k o c => p k o c
  | .fin k o c => p k o .skip ∧ allC p c
  | .frz _ _ c => allC p c
  | .fend _ c => allC p c
  | _ => True
def OrcsPar (orcs : Orcs T) : Prop := ∀ i f o, findO orcs i f = some o → o.Par
section
variable {tb} {ρ σ : Type} {orcs : Orcs T} {f : σ → Option ρ}
theorem callT_par (ho : OrcsPar orcs) {i : Nat} {g : Option Nat} {as : List (TV T)} {h : THeap T} {k : TV T → THeap T → List Nat → TV T → THeap T → Option σ} :
    callT orcs i g as h (fun r h l r0 H' => (k r h l r0 H').bind f) = (callT orcs i g as h k).bind f := by
  unfold callT
  split
  · rename_i fid as' hc
    cases hf : findO orcs i fid with
    | none => rfl
    | some o =>
      simp only
      split
      · exact (ho _ _ _ hf).par _ _ _ _
      · rfl
  · rfl
theorem splitT_par {t : Nat} {s : TSt T} {k : TSt T → Option σ} : splitT t s (fun s => (k s).bind f) = (splitT t s k).bind f := by
  unfold splitT
  split
  · split
    · split <;> rfl
    · rfl
  · rfl
theorem actT_par (ho : OrcsPar orcs) {o : TSOp T} {s : TSt T} {k : TSt T → Option σ} : actT tb orcs o s (fun s => (k s).bind f) = (actT tb orcs o s k).bind f := by
  unfold actT
  split
  · exact callT_par ho
  · exact OR.par
theorem actP_par (ho : OrcsPar orcs) {o : TSOp T} {s : TSt T} {k : TSt T → Option σ} : actP tb orcs o s (fun s => (k s).bind f) = (actP tb orcs o s k).bind f := by
  unfold actP
  split
  · simp only [actT_par ho]; exact splitT_par
  · exact actT_par ho
theorem runO_par (ho : OrcsPar orcs) {k : TSt T → Option σ} : ∀ {ops : List (TSOp T)} {s : TSt T}, runO tb orcs ops s (fun s => (k s).bind f) = (runO tb orcs ops s k).bind f
  | [], s => rfl
  | o :: os, s => by
    simp only [runO]
    split
    · simp only [runO_par ho (ops := os)]; exact actP_par ho
    · split
      · exact runO_par ho
      · rw [← splitT_par]
        congr 1; funext s
        split
        · simp only [runO_par ho (ops := os)]; exact actP_par ho
        · simp only [runO_par ho (ops := os)]; exact actP_par ho
        · exact runO_par ho
theorem actD_par (ho : OrcsPar orcs) {o : TSOp T} {u : List Nat} {Fs : List Foot} {s : TSt T} {k : Foot → TSt T → Option σ} : actD tb orcs o u Fs s (fun F s => (k F s).bind f) = (actD tb orcs o u Fs s k).bind f := by
  unfold actD
  split
  · rw [← callT_par ho]; congr 1; funext r h l r0 H'; split <;> rfl
  · rw [← OR.par]; congr 1; funext r h; split <;> rfl
theorem actDP_par (ho : OrcsPar orcs) {o : TSOp T} {u : List Nat} {Fs : List Foot} {s : TSt T} {k : Foot → TSt T → Option σ} : actDP tb orcs o u Fs s (fun F s => (k F s).bind f) = (actDP tb orcs o u Fs s k).bind f := by
  unfold actDP
  split
  · simp only [actD_par ho]; exact splitT_par
  · exact actD_par ho
theorem runD_par (ho : OrcsPar orcs) {k : TSt T → Option σ} : ∀ {ops : List (TSOp T)} {us : List (List Nat)} {Fs : List Foot} {s : TSt T}, runD tb orcs ops us Fs s (fun s => (k s).bind f) = (runD tb orcs ops us Fs s k).bind f
  | [], us, Fs, s => rfl
  | o :: os, us, Fs, s => by
    simp only [runD]
    split
    · simp only [runD_par ho (ops := os)]; exact actDP_par ho
    · split
      · exact runD_par ho
      · rw [← splitT_par]
        congr 1; funext s
        split
        · simp only [runD_par ho (ops := os)]; exact actDP_par ho
        · simp only [runD_par ho (ops := os)]; exact actDP_par ho
        · exact runD_par ho
theorem frz1K_par {F : List Nat} {h : THeap T} {v : TV T} {k : TV T → Option σ} : frz1K tb F h v (fun v => (k v).bind f) = (frz1K tb F h v k).bind f := by
  unfold frz1K
  split
  · split
    · split
      · split
        · split
          · rename_i n _ _ _ l _ _ _
            cases chk (decide (n ≤ l.length)) <;> rfl
          · rfl
        · rfl
      · rfl
    · rfl
  · rfl
theorem frzLK_par {F : List Nat} {h : THeap T} : ∀ {vs : List (TV T)} {k : List (TV T) → Option σ}, frzLK tb F h vs (fun v => (k v).bind f) = (frzLK tb F h vs k).bind f
  | [], k => rfl
  | v :: vs, k => by simp only [frzLK, frzLK_par (vs := vs)]; exact frz1K_par
theorem frzAK_par {F : List Nat} {h : THeap T} {v : TV T} {k : TV T → Option σ} : frzAK tb F h v (fun v => (k v).bind f) = (frzAK tb F h v k).bind f := by
  unfold frzAK
  split
  · exact frzLK_par
  · exact frzLK_par
  · exact frz1K_par
theorem frzEK_par {F : List Nat} {h : THeap T} : ∀ {e : TEnv T} {k : TEnv T → Option σ}, frzEK tb F h e (fun v => (k v).bind f) = (frzEK tb F h e k).bind f
  | [], k => rfl
  | (t, v) :: vs, k => by simp only [frzEK, frzEK_par (e := vs)]; exact frzAK_par
theorem frzHK_par {F : List Nat} {h : THeap T} : ∀ {os : THeap T} {i : Nat} {k : THeap T → Option σ}, frzHK tb F h i os (fun v => (k v).bind f) = (frzHK tb F h i os k).bind f
  | [], i, k => rfl
  | o :: os, i, k => by
    simp only [frzHK]
    split
    · exact frzHK_par
    · split
      · rw [← frzLK_par]; congr 1; funext o; split
        · exact frzHK_par
        · rfl
      · exact frzHK_par
theorem frzK_par {F : List Nat} {s : TSt T} {k : TSt T → Option σ} : frzK tb F s (fun v => (k v).bind f) = (frzK tb F s k).bind f := by
  unfold frzK
  simp only [frzHK_par]
  exact frzEK_par
theorem runS_par (ho : OrcsPar orcs) : ∀ {c : TCode T}, allC (fun _ o _ => o.Par) c → ∀ {k : SExit → TSt T → Option σ} {s : TSt T}, runS tb orcs c s (fun e s => (k e s).bind f) = (runS tb orcs c s k).bind f := by
  intro c
  induction c with
  | skip => intro _ k s; rfl
  | reg ops d =>
    intro _ k s
    cases d with
    | none => exact runO_par ho
    | some us => simp only [runS]; split; exact runD_par ho; rfl
  | seq a b iha ihb =>
    intro hc k s
    simp only [runS]
    rw [← iha hc.1]
    congr 1; funext e s
    cases e with
    | normal => exact ihb hc.2
    | _ => rfl
  | cond c a b iha ihb =>
    intro hc k s
    simp only [runS]
    split
    · split
      · exact iha hc.1
      · exact ihb hc.2
    · rfl
  | block id b ih =>
    intro hc k s
    simp only [runS]
    rw [← ih hc]
    congr 1; funext e s
    cases e with
    | exit i => simp only; split <;> rfl
    | _ => rfl
  | loop b ih => intro _ k s; rfl
  | exit i => intro _ k s; rfl
  | ret => intro _ k s; rfl
  | drop ts c ih => intro hc k s; exact ih hc
  | cut n o c ih => intro hc k s; exact hc.par _ _ _
  | fin n o c ih =>
    intro hc k s
    simp only [runS]
    rw [← ih hc.2]
    congr 1; funext e s
    cases e with
    | normal => exact hc.1.par _ _ _
    | _ => rfl
  | frz ts n c ih =>
    intro hc k s
    simp only [runS, ih hc]
    exact frzK_par
  | fend n c ih =>
    intro hc k s
    simp only [runS]
    rw [← ih hc]
    congr 1; funext e s
    exact frzK_par
end
end Go.Rv

set_option maxHeartbeats 4000000
namespace Go.Rv
open Go.RowKit
variable {T : Nat → Type} {tb : Tab T} {P : Program} {W : World → Prop}
structure Orc.Ok (P : Program) (W : World → Prop) (tb : Tab T) (f : Nat) (o : Orc T) : Prop extends o.Par where
  en : enterOk P f = true
  snd : ∀ {ρ : Type} (as : List (TV T)) (h : THeap T) (k : TV T → THeap T → Option ρ) (d : ρ), o.run as h k = some d → ∃ r H', Good P W f (avL tb as) (avH tb h) (av tb r) (avH tb H') ∧ h.length ≤ H'.length ∧ k r H' = some d
def OrcsOk (P : Program) (W : World → Prop) (tb : Tab T) (orcs : Orcs T) : Prop := ∀ i f o, findO orcs i f = some o → o.Ok P W tb f
theorem OrcsOk.par {orcs : Orcs T} (h : OrcsOk P W tb orcs) : OrcsPar orcs := fun i f o e => (h i f o e).toPar
/-- What a run's end asks. -/
abbrev EndT (tb : Tab T) {ρ : Type} (k : SExit → TSt T → Option ρ) (d : ρ) : SExit → St → Prop := fun e s' => ∃ t, s' = avS tb t ∧ k e t = some d
structure Cut.Ok (P : Program) (W : World → Prop) (tb : Tab T) (n : Nat) (o : Cut T) (c : TCode T) : Prop extends o.Par where
  snd : ∀ {ρ : Type} (s : TSt T) (k : SExit → TSt T → Option ρ) (d : ρ), o.run s k = some d → wpS P W (.weak n (erC tb c)) (EndT tb k d) (avS tb s)
theorem putD_av (e : TEnv T) (d : Option Nat) (a : TV T) : putD (avE tb e) d (av tb a) = avE tb (putDT e d a) := by
  cases d with
  | none => rfl
  | some t => exact put_av e t a
theorem rmD_av (e : TEnv T) (d : Option Nat) : rmD (avE tb e) d = avE tb (rmDT e d) := by
  cases d with
  | none => rfl
  | some t => exact put_av e t (.tup [])
theorem srt_av : ∀ {e : TEnv T}, srtT e = true → srt (avE tb e) = true
  | [], _ => rfl
  | [_], _ => rfl
  | (k, _) :: (j, y) :: e, h => by
    simp only [srtT, Bool.and_eq_true] at h
    have := srt_av h.2
    simp only [avE, List.map_cons] at this ⊢
    simp only [srt, Bool.and_eq_true]
    exact ⟨h.1, this⟩
theorem lk_putT : ∀ (e : TEnv T) (t : Nat) (v : TV T), lkT (putT' e t v) t = v
  | [], t, v => by simp [putT', lkT]
  | (k, x) :: e, t, v => by
    simp only [putT']
    split
    · simp [lkT]
    · split
      · simp [lkT]
      · rename_i h1 h2
        simp only [lkT, h2, if_false]
        exact lk_putT e t v
theorem noOwn_av {v : TV T} (h : noOwnT v = true) : noOwn (av tb v) = true := by
  cases v <;> first | rfl | cases h
theorem isRa_av {v : TV T} (h : isRaT v = true) : isRa (av tb v) = true := by
  cases v with
  | agg cs =>
    have h : cs.all noOwnT = true := h
    show (avL tb cs).all noOwn = true
    rw [avL_map, List.all_map, List.all_eq_true]
    intro x hx
    exact noOwn_av (List.all_eq_true.1 h x hx)
  | _ => first | rfl | cases h
theorem callee_av {g : Option Nat} {as as' : List (TV T)} {fid : Nat} (h : calleeT g as = some (fid, as')) : calleeOf g (avL tb as) = some (fid, avL tb as') := by
  unfold calleeT at h
  split at h
  · cases h; rfl
  · split at h
    · rename_i f fs cs as hall
      cases h
      have h2 : (avL tb as).all isRa = true := by
        rw [avL_map, List.all_map, List.all_eq_true]
        intro x hx
        exact isRa_av (List.all_eq_true.1 hall x hx)
      simp only [avL, av, calleeOf, h2, if_true]
      simp [avL_map]
    · cases h
  · cases h
theorem grow_av (l : List Nat) (r : TV T) (H' : THeap T) (n : Nat) : growOf l (av tb r) (avH tb H') n = growT l r H' n := by
  unfold growOf growT
  rw [refs_av, lenH_av]
  have : (avH tb H').all (fun ob => (refsL ob).all fun i => decide (i < l.length)) = H'.all (fun ob => (refsTL ob).all fun i => decide (i < l.length)) := by
    simp only [avH, List.all_map, Function.comp_def, refsO_av]
  rw [this]
section
variable {ρ : Type} {orcs : Orcs T} {d : ρ}
theorem callT_snd (ho : OrcsOk P W tb orcs) {i : Nat} {g : Option Nat} {as : List (TV T)} {h : THeap T} {k : TV T → THeap T → List Nat → TV T → THeap T → Option ρ} (hk : callT orcs i g as h k = some d) :
    ∃ fid as' l r H', calleeOf g (avL tb as) = some (fid, avL tb as') ∧ enterOk P fid = true ∧ closedB (avH tb h) l (avL tb as') = true ∧ Good P W fid (renL (posOf l) (avL tb as')) (subHeap (avH tb h) l) (av tb r) (avH tb H') ∧
      l.length ≤ H'.length ∧ k (renT (backOf l h.length) r) (mergeHT (backOf l h.length) h l H') l r H' = some d := by
  unfold callT at hk
  split at hk
  · rename_i fid as' hc
    cases hf : findO orcs i fid with
    | none => rw [hf] at hk; cases hk
    | some o =>
      rw [hf] at hk
      simp only at hk
      split at hk
      · rename_i hcl
        obtain ⟨r, H', h1, h2, h3⟩ := (ho _ _ _ hf).snd _ _ _ _ hk
        refine ⟨fid, as', _, r, H', callee_av hc, (ho _ _ _ hf).en, by rw [closed_av]; exact hcl, ?_, ?_, h3⟩
        · rw [renL_av, subHeap_av]; exact h1
        · simpa [subHeapT] using h2
      · cases hk
  · cases hk
variable {K : St → Prop} {os : List SOp}
theorem splitT_snd {t : Nat} {s : TSt T} {k : TSt T → Option ρ} (h : splitT t s k = some d) (hk : ∀ s' x, lkT s'.env t = .b x → k s' = some d → wpO P W os K (avS tb s')) : wpO P W os K (avS tb s) := by
  unfold splitT at h
  split at h
  · rename_i c hc
    split at h
    · rename_i hs
      have h1 : lk (avE tb s.env) t = .b c := by rw [lk_av, hc]; rfl
      refine o_cs t (b := c) (et := avE tb (putT' s.env t (.b true))) (ef := avE tb (putT' s.env t (.b false))) (fun e => ?_) (fun e => ?_) h1 (srt_av hs) (put_av _ _ (.b true)) (put_av _ _ (.b false))
      · subst e
        exact hk ⟨_, s.heap⟩ true (lk_putT _ _ _) (by simpa using h)
      · subst e
        exact hk ⟨_, s.heap⟩ false (lk_putT _ _ _) (by simpa using h)
    · cases h
  · cases h
theorem splitD_snd {us : List (List Nat)} {Fs : List Foot} {t : Nat} {s : TSt T} {k : TSt T → Option ρ} (h : splitT t s k = some d) (hk : ∀ s' x, lkT s'.env t = .b x → k s' = some d → wpD P W os us Fs K (avS tb s')) : wpD P W os us Fs K (avS tb s) := by
  unfold splitT at h
  split at h
  · rename_i c hc
    split at h
    · rename_i hs
      have h1 : lk (avE tb s.env) t = .b c := by rw [lk_av, hc]; rfl
      refine d_cs t (b := c) (et := avE tb (putT' s.env t (.b true))) (ef := avE tb (putT' s.env t (.b false))) (fun e => ?_) (fun e => ?_) h1 (srt_av hs) (put_av _ _ (.b true)) (put_av _ _ (.b false))
      · subst e
        exact hk ⟨_, s.heap⟩ true (lk_putT _ _ _) (by simpa using h)
      · subst e
        exact hk ⟨_, s.heap⟩ false (lk_putT _ _ _) (by simpa using h)
    · cases h
  · cases h
theorem actT_snd (ok : tb.Ok) (ho : OrcsOk P W tb orcs) {o : TSOp T} {s : TSt T} {k : TSt T → Option ρ} (h : actT tb orcs o s k = some d) (hk : ∀ s', k s' = some d → wpO P W os K (avS tb s')) :
    wpO P W (⟨erO tb o.op, o.args.map (avArg tb), o.dst, none⟩ :: os) K (avS tb s) := by
  unfold actT at h
  split at h
  · rename_i f ci hop
    obtain ⟨fid, as', l, r, H', h1, h2, h3, h4, h5, h6⟩ := callT_snd ho h
    simp only [wpO, guardOk, hop, erO, avS, rdAs_av, h1]
    refine ⟨h2, l, _, _, h3, h4, ?_⟩
    rw [lenH_av, ren_av, mergeH_av]
    dsimp only
    rw [putD_av]
    exact hk _ h6
  · obtain ⟨r, h', h1, h2⟩ := OR.go_all h (evR_snd ok _ _ _)
    refine wpO_op (s1 := avS tb ⟨putDT (rdTs s.env o.args).2 o.dst r, h'⟩) ?_ (hk _ h2)
    simp only [step1, guardOk, avS, rdAs_av, h1, putD_av]
theorem actP_snd (ok : tb.Ok) (ho : OrcsOk P W tb orcs) {o : TSOp T} {s : TSt T} {k : TSt T → Option ρ} (h : actP tb orcs o s k = some d) (hk : ∀ s', k s' = some d → wpO P W os K (avS tb s')) :
    wpO P W (⟨erO tb o.op, o.args.map (avArg tb), o.dst, none⟩ :: os) K (avS tb s) := by
  unfold actP at h
  split at h
  · exact splitT_snd h fun s' x _ hs => actT_snd ok ho hs hk
  · exact actT_snd ok ho h hk
theorem yes_w {op : POp} {args : List Arg} {dst : Option Nat} {t : Nat} {w : Bool} {s : TSt T} (h1 : lkT s.env t = .b w) (h : wpO P W (⟨op, args, dst, none⟩ :: os) K (avS tb s)) : wpO P W (⟨op, args, dst, some (t, w)⟩ :: os) K (avS tb s) :=
  o_yes h (by rw [lk_av, h1]; rfl)
theorem no_w {op : POp} {args : List Arg} {dst : Option Nat} {t : Nat} {w : Bool} {s : TSt T} (h1 : lkT s.env t = .b (!w)) (h : wpO P W os K (avS tb ⟨rmDT s.env dst, s.heap⟩)) : wpO P W (⟨op, args, dst, some (t, w)⟩ :: os) K (avS tb s) :=
  o_no (e2 := avE tb (rmDT s.env dst)) h (by rw [lk_av, h1]; rfl) (rmD_av _ _)
theorem nu_w {op : POp} {args : List Arg} {dst : Option Nat} {t : Nat} {w : Bool} {s : TSt T} (h1 : lkT s.env t = .tup []) (h : wpO P W os K (avS tb ⟨rmDT s.env dst, s.heap⟩)) : wpO P W (⟨op, args, dst, some (t, w)⟩ :: os) K (avS tb s) :=
  o_nu (e2 := avE tb (rmDT s.env dst)) h (by rw [lk_av, h1]; rfl) (rmD_av _ _)
theorem runO_snd (ok : tb.Ok) (ho : OrcsOk P W tb orcs) {k : TSt T → Option ρ} : ∀ {ops : List (TSOp T)} {s : TSt T}, runO tb orcs ops s k = some d → wpO P W (ops.map (erS tb)) (fun s' => ∃ t, s' = avS tb t ∧ k t = some d) (avS tb s)
  | [], s, h => ⟨s, rfl, h⟩
  | o :: os, s, h => by
    obtain ⟨op, args, dst, guard⟩ := o
    simp only [runO] at h
    simp only [List.map_cons, erS]
    cases guard with
    | none => exact actP_snd ok ho h fun s' hs => runO_snd ok ho hs
    | some p =>
      obtain ⟨t, w⟩ := p
      simp only at h
      split at h
      · rename_i hl
        exact nu_w hl (runO_snd ok ho h)
      · refine splitT_snd h fun s' x hx hs => ?_
        rw [hx] at hs
        cases x <;> cases w <;> simp only at hs
        · exact yes_w hx (actP_snd ok ho (o := ⟨op, args, dst, some (t, false)⟩) hs fun s' hs => runO_snd ok ho hs)
        · exact no_w hx (runO_snd ok ho hs)
        · exact no_w hx (runO_snd ok ho hs)
        · exact yes_w hx (actP_snd ok ho (o := ⟨op, args, dst, some (t, true)⟩) hs fun s' hs => runO_snd ok ho hs)
theorem actD_snd (ok : tb.Ok) (ho : OrcsOk P W tb orcs) {o : TSOp T} {us : List (List Nat)} {Fs : List Foot} {s : TSt T} {k : Foot → TSt T → Option ρ} (h : actD tb orcs o (us.headD []) Fs s k = some d)
    (hk : ∀ F s', k F s' = some d → wpD P W os us.tail (Fs ++ [F]) K (avS tb s')) : wpD P W (⟨erO tb o.op, o.args.map (avArg tb), o.dst, none⟩ :: os) us Fs K (avS tb s) := by
  unfold actD at h
  split at h
  · rename_i f ci hop
    obtain ⟨fid, as', l, r, H', h1, h2, h3, h4, h5, h6⟩ := callT_snd ho h
    split at h6
    · rename_i hf
      simp only [wpD, guardOk, hop, erO, avS, rdAs_av, h1]
      refine ⟨h2, l, _, _, l, h3, h4, by rw [lenH_av]; exact h5, by simp, fun i hi => .inl (by simpa using hi), ?_, ?_⟩
      · rw [lenH_av, grow_av]; exact hf
      · rw [lenH_av, grow_av, ren_av, mergeH_av]
        dsimp only
        rw [putD_av]
        exact hk _ _ h6
    · cases h6
  · rename_i hne
    obtain ⟨r, h', h1, h2⟩ := OR.go_all h (evR_snd ok _ _ _)
    split at h2
    · rename_i hf
      simp only [Bool.and_eq_true] at hf
      have hne' : ∀ g, erO tb o.op ≠ .call g := by
        intro g hg
        have h1' := h1
        rw [hg] at h1'
        simp [POp.ev] at h1'
      simp only [wpD, guardOk, avS, rdAs_av, h1]
      have hord : ((footOf (erO tb o.op) (avL tb (rdTs s.env o.args).fst) (avH tb s.heap)).ord.all fun i => decide (i < (avH tb s.heap).length)) = true := by
        refine List.all_eq_true.2 fun i hi => decide_eq_true ?_
        rw [lenH_av]
        exact of_decide_eq_true (List.all_eq_true.1 hf.1 i hi)
      refine ⟨hord, hf.2, ?_⟩
      rw [putD_av]
      exact hk _ _ h2
    · cases h2
theorem actDP_snd (ok : tb.Ok) (ho : OrcsOk P W tb orcs) {o : TSOp T} {us : List (List Nat)} {Fs : List Foot} {s : TSt T} {k : Foot → TSt T → Option ρ} (h : actDP tb orcs o (us.headD []) Fs s k = some d)
    (hk : ∀ F s', k F s' = some d → wpD P W os us.tail (Fs ++ [F]) K (avS tb s')) : wpD P W (⟨erO tb o.op, o.args.map (avArg tb), o.dst, none⟩ :: os) us Fs K (avS tb s) := by
  unfold actDP at h
  split at h
  · exact splitD_snd h fun s' x _ hs => actD_snd ok ho hs hk
  · exact actD_snd ok ho h hk
theorem dyes_w {us : List (List Nat)} {Fs : List Foot} {op : POp} {args : List Arg} {dst : Option Nat} {t : Nat} {w : Bool} {s : TSt T} (h1 : lkT s.env t = .b w) (h : wpD P W (⟨op, args, dst, none⟩ :: os) us Fs K (avS tb s)) : wpD P W (⟨op, args, dst, some (t, w)⟩ :: os) us Fs K (avS tb s) :=
  d_yes h (by rw [lk_av, h1]; rfl)
theorem dno_w {us : List (List Nat)} {Fs : List Foot} {op : POp} {args : List Arg} {dst : Option Nat} {t : Nat} {w : Bool} {s : TSt T} (h1 : lkT s.env t = .b (!w)) (h : wpD P W os us.tail (Fs ++ [.none]) K (avS tb ⟨rmDT s.env dst, s.heap⟩)) : wpD P W (⟨op, args, dst, some (t, w)⟩ :: os) us Fs K (avS tb s) :=
  d_no (e2 := avE tb (rmDT s.env dst)) h (by rw [lk_av, h1]; rfl) (rmD_av _ _)
theorem dnu_w {us : List (List Nat)} {Fs : List Foot} {op : POp} {args : List Arg} {dst : Option Nat} {t : Nat} {w : Bool} {s : TSt T} (h1 : lkT s.env t = .tup []) (h : wpD P W os us.tail (Fs ++ [.none]) K (avS tb ⟨rmDT s.env dst, s.heap⟩)) : wpD P W (⟨op, args, dst, some (t, w)⟩ :: os) us Fs K (avS tb s) :=
  d_nu (e2 := avE tb (rmDT s.env dst)) h (by rw [lk_av, h1]; rfl) (rmD_av _ _)
theorem runD_snd (ok : tb.Ok) (ho : OrcsOk P W tb orcs) {k : TSt T → Option ρ} : ∀ {ops : List (TSOp T)} {us : List (List Nat)} {Fs : List Foot} {s : TSt T}, runD tb orcs ops us Fs s k = some d →
    wpD P W (ops.map (erS tb)) us Fs (fun s' => ∃ t, s' = avS tb t ∧ k t = some d) (avS tb s)
  | [], us, Fs, s, h => ⟨s, rfl, h⟩
  | o :: os, us, Fs, s, h => by
    obtain ⟨op, args, dst, guard⟩ := o
    simp only [runD] at h
    simp only [List.map_cons, erS]
    cases guard with
    | none => exact actDP_snd ok ho h fun F s' hs => runD_snd ok ho hs
    | some p =>
      obtain ⟨t, w⟩ := p
      simp only at h
      split at h
      · rename_i hl
        exact dnu_w hl (runD_snd ok ho h)
      · refine splitD_snd h fun s' x hx hs => ?_
        rw [hx] at hs
        cases x <;> cases w <;> simp only at hs
        · exact dyes_w hx (actDP_snd ok ho (o := ⟨op, args, dst, some (t, false)⟩) hs fun F s' hs => runD_snd ok ho hs)
        · exact dno_w hx (runD_snd ok ho hs)
        · exact dno_w hx (runD_snd ok ho hs)
        · exact dyes_w hx (actDP_snd ok ho (o := ⟨op, args, dst, some (t, true)⟩) hs fun F s' hs => runD_snd ok ho hs)
theorem take_flat {α : Type} {sz : Nat} : ∀ {rows : List (List α)} {n : Nat}, (∀ r ∈ rows, r.length = sz) → rows.flatten.take (n * sz) = (rows.take n).flatten
  | [], n, _ => by simp
  | x :: rows, 0, _ => by simp
  | x :: rows, n + 1, hs => by
    have hx := hs x (by simp)
    simp only [List.flatten_cons, List.take_succ_cons, Nat.add_mul, Nat.one_mul]
    rw [List.take_append, List.take_of_length_le (by omega), ← take_flat (fun r hr => hs r (by simp [hr]))]
    congr 2
    omega
theorem flat_len {α : Type} {sz : Nat} : ∀ {rows : List (List α)}, (∀ r ∈ rows, r.length = sz) → rows.flatten.length = rows.length * sz
  | [], _ => by simp
  | x :: rows, hs => by
    have hx := hs x (by simp)
    have ih := flat_len (rows := rows) (sz := sz) (fun r hr => hs r (by simp [hr]))
    simp only [List.flatten_cons, List.length_append, List.length_cons, Nat.add_mul, Nat.one_mul]
    omega
theorem frzV_av (ok : tb.Ok) {j : Nat} {l : List (T j)} : av tb (frzV tb j l) = .pv (.sl (tb.sz j) (l.map (tb.prow j))) := by
  unfold frzV
  split
  · rename_i hj
    subst hj
    have e : tb.sz 0 = 1 := by simp only [Tab.sz, ok.z8]; rfl
    rw [e, ← ok.b8]
    rfl
  · rfl
theorem frz1K_snd (ok : tb.Ok) {F : List Nat} {h : THeap T} {v : TV T} {k : TV T → Option ρ} (hk : frz1K tb F h v k = some d) : ∃ v', frzC (avH tb h) (fun i => F.contains i) (av tb v) (av tb v') ∧ k v' = some d := by
  unfold frz1K at hk
  split at hk
  · rename_i j id n
    split at hk
    · rename_i hF
      split at hk
      · rename_i j' l hg
        split at hk
        · rename_i hj
          subst hj
          split at hk
          · rename_i hz
            obtain ⟨_, hc, hk⟩ := bind_ex hk
            have hc := of_decide_eq_true (chk_ex hc)
            have hr := rows_sz ok l
            have e : hget (avH tb h) id = ((l.map (tb.prow j')).flatten).map AV.pv := by rw [hget_av, hg]; rfl
            refine ⟨_, .inr ⟨id, 0, n, _, tb.sz j', (l.take n).map (tb.prow j'), rfl, frzV_av ok, hF, Nat.le_of_ble_eq_true hz, by simp; omega, rows_sz ok _, ?_, ?_⟩, hk⟩
            · rw [e, List.length_map, flat_len hr, List.length_map, Nat.zero_add]
              exact Nat.mul_le_mul_right _ hc
            · rw [e, List.drop_zero, ← List.map_take, take_flat hr, List.map_take]
          · cases hk
        · cases hk
      · cases hk
    · exact ⟨_, .inl rfl, hk⟩
  · exact ⟨_, .inl rfl, hk⟩
theorem frzLK_snd (ok : tb.Ok) {F : List Nat} {h : THeap T} : ∀ {vs : List (TV T)} {k : List (TV T) → Option ρ}, frzLK tb F h vs k = some d → ∃ vs', frzL (avH tb h) (fun i => F.contains i) (avL tb vs) (avL tb vs') ∧ k vs' = some d
  | [], k, hk => ⟨[], trivial, hk⟩
  | v :: vs, k, hk => by
    obtain ⟨v', h1, h2⟩ := frz1K_snd ok hk
    obtain ⟨vs', h3, h4⟩ := frzLK_snd ok h2
    exact ⟨v' :: vs', ⟨h1, h3⟩, h4⟩
theorem frzL_M {H : Heap} {F : Nat → Bool} : ∀ {as bs : List AV}, frzL H F as bs → frzM H F as bs
  | [], [], _ => trivial
  | [], _ :: _, h => h.elim
  | _ :: _, [], h => h.elim
  | a :: as, b :: bs, h => ⟨.inl h.1, frzL_M h.2⟩
theorem frzL_rfl {H : Heap} {F : Nat → Bool} : ∀ as : List AV, frzL H F as as
  | [] => trivial
  | a :: as => ⟨.inl rfl, frzL_rfl as⟩
theorem frzAK_snd (ok : tb.Ok) {F : List Nat} {h : THeap T} {v : TV T} {k : TV T → Option ρ} (hk : frzAK tb F h v k = some d) : ∃ v', frzA (avH tb h) (fun i => F.contains i) (av tb v) (av tb v') ∧ k v' = some d := by
  unfold frzAK at hk
  split at hk
  · obtain ⟨cs', h1, h2⟩ := frzLK_snd ok hk
    exact ⟨_, .inl (.inr ⟨_, _, rfl, rfl, h1⟩), h2⟩
  · obtain ⟨cs', h1, h2⟩ := frzLK_snd ok hk
    exact ⟨_, .inr ⟨_, _, rfl, rfl, frzL_M h1⟩, h2⟩
  · obtain ⟨v', h1, h2⟩ := frz1K_snd ok hk
    exact ⟨v', .inl (.inl h1), h2⟩
theorem frzEK_snd (ok : tb.Ok) {F : List Nat} {h : THeap T} : ∀ {e : TEnv T} {k : TEnv T → Option ρ}, frzEK tb F h e k = some d → ∃ e', (∀ t, frzA (avH tb h) (fun i => F.contains i) (lk (avE tb e) t) (lk (avE tb e') t)) ∧ k e' = some d
  | [], k, hk => ⟨[], fun t => .inl (.inl (.inl rfl)), hk⟩
  | (t, v) :: vs, k, hk => by
    obtain ⟨v', h1, h2⟩ := frzAK_snd ok hk
    obtain ⟨vs', h3, h4⟩ := frzEK_snd ok h2
    refine ⟨(t, v') :: vs', fun u => ?_, h4⟩
    simp only [avE, List.map_cons, lk]
    split
    · exact h1
    · exact h3 u
theorem frzHK_snd (ok : tb.Ok) {F : List Nat} {h : THeap T} : ∀ {os : THeap T} {i : Nat} {k : THeap T → Option ρ}, frzHK tb F h i os k = some d → ∃ os', os'.length = os.length ∧ (∀ j, j < os.length → frzO (avH tb h) (fun i => F.contains i) (i + j) (hget (avH tb os) j) (hget (avH tb os') j)) ∧ k os' = some d
  | [], i, k, hk => ⟨[], rfl, fun j hj => by simp at hj, hk⟩
  | o :: os, i, k, hk => by
    have key : ∀ o', frzO (avH tb h) (fun i => F.contains i) i (avO tb o) (avO tb o') → (frzHK tb F h (i + 1) os fun os => k (o' :: os)) = some d → ∃ os', os'.length = (o :: os).length ∧ (∀ j, j < (o :: os).length → frzO (avH tb h) (fun i => F.contains i) (i + j) (hget (avH tb (o :: os)) j) (hget (avH tb os') j)) ∧ k os' = some d := by
      intro o' ho hk
      obtain ⟨os', h1, h2, h3⟩ := frzHK_snd ok hk
      refine ⟨o' :: os', by simp [h1], fun j hj => ?_, h3⟩
      cases j with
      | zero => exact ho
      | succ j =>
        have := h2 j (by simpa using hj)
        rw [show i + (j + 1) = i + 1 + j by omega]
        exact this
    simp only [frzHK] at hk
    split at hk
    · rename_i hF
      refine key [] ?_ hk
      simp only [frzO, hF, if_true]
      rfl
    · rename_i hF
      have hF : F.contains i = false := by simpa using hF
      split at hk
      · rename_i hn
        obtain ⟨o', h1, h2⟩ := frzLK_snd ok hk
        split at h2
        · rename_i hn'
          refine key o' ?_ h2
          simp only [frzO, hF]
          rw [avO_nb hn, avO_nb hn']
          exact h1
        · cases h2
      · refine key o ?_ hk
        simp only [frzO, hF]
        exact frzL_rfl _
theorem frzK_snd (ok : tb.Ok) {F : List Nat} {s : TSt T} {k : TSt T → Option ρ} (hk : frzK tb F s k = some d) : ∃ s', frzS (fun i => F.contains i) (avS tb s) (avS tb s') ∧ k s' = some d := by
  obtain ⟨e', h1, h2⟩ := frzEK_snd ok hk
  obtain ⟨h', h3, h4, h5⟩ := frzHK_snd ok h2
  refine ⟨⟨e', h'⟩, ⟨h1, by simp [avS, lenH_av, h3], fun i hi => ?_⟩, h5⟩
  have := h4 i (by simpa [avS, lenH_av] using hi)
  rw [Nat.zero_add] at this
  exact this
theorem runS_snd (ok : tb.Ok) (ho : OrcsOk P W tb orcs) : ∀ {c : TCode T}, allC (fun n o c => o.Ok P W tb n c) c → ∀ {ρ : Type} {d : ρ} {k : SExit → TSt T → Option ρ} {s : TSt T}, runS tb orcs c s k = some d →
    wpS P W (erC tb c) (EndT tb k d) (avS tb s) := by
  intro c
  induction c with
  | skip => intro _ ρ d k s h; exact ⟨s, rfl, h⟩
  | reg ops us =>
    intro _ ρ d k s h
    cases us with
    | none => exact runO_snd ok ho h
    | some us =>
      simp only [runS] at h
      split at h
      · rename_i hs; exact ⟨srt_av hs, runD_snd ok ho h⟩
      · cases h
  | seq a b iha ihb =>
    intro hc ρ d k s h
    refine wpS_mono (erC tb a) _ ?_ (iha hc.1 h)
    rintro e s' ⟨t, rfl, ht⟩
    cases e with
    | normal => exact ihb hc.2 ht
    | _ => exact ⟨t, rfl, ht⟩
  | cond c a b iha ihb =>
    intro hc ρ d k s h
    simp only [runS] at h
    split at h
    · rename_i x hx
      have h1 : lk (avS tb s).env c = .pv (.lit (.bool x)) := by
        show lk (avE tb s.env) c = _
        rw [lk_av, hx]; rfl
      refine q_cond h1 (fun e => ?_) (fun e => ?_)
      · subst e; exact iha hc.1 (by simpa using h)
      · subst e; exact ihb hc.2 (by simpa using h)
    · cases h
  | block id b ih =>
    intro hc ρ d k s h
    refine wpS_mono (erC tb b) _ ?_ (ih hc h)
    rintro e s' ⟨t, rfl, ht⟩
    cases e with
    | normal => exact ⟨t, rfl, ht⟩
    | ret => exact ⟨t, rfl, ht⟩
    | exit i =>
      simp only at ht
      simp only [blockQ]
      split at ht
      · rename_i hi
        rw [if_pos (Nat.eq_of_beq_eq_true hi)]
        exact ⟨t, rfl, ht⟩
      · rename_i hi
        rw [if_neg (fun e => hi (by subst e; exact Nat.beq_refl _))]
        exact ⟨t, rfl, ht⟩
  | loop b ih => intro _ ρ d k s h; cases h
  | exit i => intro _ ρ d k s h; exact ⟨s, rfl, h⟩
  | ret => intro _ ρ d k s h; exact ⟨s, rfl, h⟩
  | drop ts c ih =>
    intro hc ρ d k s h
    have := ih hc h
    simp only [erC, wpS, avS, dropL_av] at this ⊢
    exact this
  | cut n o c ih => intro hc ρ d k s h; exact hc.snd _ _ _ h
  | fin n o c ih =>
    intro hc ρ d k s h
    refine wpS_mono (erC tb c) _ ?_ (ih hc.2 h)
    rintro e s' ⟨t, rfl, ht⟩
    cases e with
    | normal => exact hc.1.snd _ _ _ ht
    | _ => exact ⟨t, rfl, ht⟩
  | frz ts n c ih =>
    intro hc ρ d k s h
    obtain ⟨s', h1, h2⟩ := frzK_snd ok h
    exact ⟨_, _, h1, ih hc h2⟩
  | fend n c ih =>
    intro hc ρ d k s h
    refine wpS_mono (erC tb c) _ ?_ (ih hc h)
    rintro e s' ⟨t, rfl, ht⟩
    obtain ⟨s', h1, h2⟩ := frzK_snd ok ht
    exact ⟨_, _, h1, s', rfl, h2⟩
end
end Go.Rv

namespace Go.Rv
open Go.RowKit
variable {T : Nat → Type} {tb : Tab T} {P : Program} {W : World → Prop}
/-- Shapes of values: atoms; with lists of them; with tuples. -/
inductive F0 where
  | a (x : Tm)
  | bo
  | ow (k : Nat)
  | e8
  | er (k off : Nat)
  | ref (i o : Nat)
  | vw (k i : Nat)
  | vr (k i o : Nat)
  | blk (k : Nat)
  | nilS | nilP | nilF | junk
  | ci (k : IntKind) (n : Int) | c8 (n : UInt8) | c16 (n : UInt16) | c32 (n : UInt32) | c64 (n : UInt64) | cb (b : Bool) | cs
inductive F1 where
  | f (x : F0)
  | st (k : Nat)
  | agg (l : List F0)
  | clo (f : Nat) (a c : List F0)
inductive Sh where
  | g (x : F1)
  | tup (l : List F1)
def F0.ty (T : Nat → Type) : F0 → Type
  | .a x => x.ty T
  | .bo => Option (List UInt8)
  | .ow k => Option (List (T k))
  | .e8 => UInt8
  | .er k _ => T k
  | .vw _ _ => Nat
  | .vr _ _ _ => Int
  | .blk k => List (T k)
  | _ => Unit
def ty0 (T : Nat → Type) : List F0 → Type
  | [] => Unit
  | s :: l => s.ty T × ty0 T l
def F1.ty (T : Nat → Type) : F1 → Type
  | .f x => x.ty T
  | .st k => T k
  | .agg l => ty0 T l
  | .clo _ a c => ty0 T a × ty0 T c
def ty1 (T : Nat → Type) : List F1 → Type
  | [] => Unit
  | s :: l => s.ty T × ty1 T l
def Sh.ty (T : Nat → Type) : Sh → Type
  | .g x => x.ty T
  | .tup l => ty1 T l
def inj0 : (s : F0) → s.ty T → TV T
  | .a a, x => injA a x
  | .bo, x => .bo x
  | .ow k, x => .ow k x
  | .e8, x => .e8 x
  | .er k off, x => .er k x off
  | .ref i o, _ => .ref i o
  | .vw k i, n => .vw k i n
  | .vr k i o, x => .vr k i x o
  | .blk k, l => .blk k l
  | .nilS, _ => .nilS
  | .nilP, _ => .nilP
  | .nilF, _ => .nilF
  | .junk, _ => .junk
  | .ci k n, _ => .n k n | .c8 n, _ => .u8 n | .c16 n, _ => .u16 n | .c32 n, _ => .u32 n | .c64 n, _ => .u64 n | .cb b, _ => .b b | .cs, _ => .s []
def inj0L : (l : List F0) → ty0 T l → List (TV T)
  | [], _ => []
  | s :: l, x => inj0 s x.1 :: inj0L l x.2
def inj1 (tb : Tab T) : (s : F1) → s.ty T → TV T
  | .f a, x => inj0 a x
  | .st k, x => .agg (tb.rw k x)
  | .agg l, x => .agg (inj0L l x)
  | .clo f a c, x => .clo f (inj0L a x.1) (inj0L c x.2)
def inj1L (tb : Tab T) : (l : List F1) → ty1 T l → List (TV T)
  | [], _ => []
  | s :: l, x => inj1 tb s x.1 :: inj1L tb l x.2
def inj (tb : Tab T) : (s : Sh) → s.ty T → TV T
  | .g s, x => inj1 tb s x
  | .tup l, x => .tup (inj1L tb l x)
def prjBo : TV T → Option (Option (List UInt8))
  | .bo o => some o
  | .bs none => some none
  | .nilS => some none
  | _ => none
def prjOw (k : Nat) : TV T → Option (Option (List (T k)))
  | .ow k' o => if h : k' = k then some (h ▸ o) else none
  | .sl k' none => if k' = k then some none else none
  | .nilS => some none
  | _ => none
def prjSt (tb : Tab T) (k : Nat) : TV T → Option (T k)
  | .agg cs => mkT tb k cs
  | _ => none
def prjE8 : TV T → Option UInt8
  | .e8 x => some x
  | _ => none
def prjEr (k off : Nat) : TV T → Option (T k)
  | .er k' x off' => if h : k' = k then (if Nat.beq off' off then some (h ▸ x) else none) else none
  | _ => none
def prjRef (i o : Nat) : TV T → Option Unit
  | .ref i' o' => if Nat.beq i' i && Nat.beq o' o then some () else none
  | _ => none
def prjVw (k i : Nat) : TV T → Option Nat
  | .vw k' i' n => if Nat.beq k' k && Nat.beq i' i then some n else none
  | _ => none
def prjVr (k i o : Nat) : TV T → Option Int
  | .vr k' i' x o' => if Nat.beq k' k && Nat.beq i' i && Nat.beq o' o then some x else none
  | _ => none
def prjC (c : Nat) : TV T → Option Unit
  | .nilS => if Nat.beq c 0 then some () else none
  | .nilP => if Nat.beq c 1 then some () else none
  | .nilF => if Nat.beq c 2 then some () else none
  | .junk => if Nat.beq c 3 then some () else none
  | _ => none
/-- Just this word. -/
def prjK : TV T → TV T → Option Unit
  | .n k n, .n k' x => if k' = k then (if decide (x = n) then some () else none) else none
  | .u8 n, .u8 x => if decide (x = n) then some () else none
  | .u16 n, .u16 x => if decide (x = n) then some () else none
  | .u32 n, .u32 x => if decide (x = n) then some () else none
  | .u64 n, .u64 x => if decide (x = n) then some () else none
  | .b n, .b x => if decide (x = n) then some () else none
  | .s n, .s x => if decide (x = n) then some () else none
  | _, _ => none
def aggO : TV T → Option (List (TV T))
  | .agg cs => some cs
  | _ => none
def tupO : TV T → Option (List (TV T))
  | .tup cs => some cs
  | _ => none
def cloO : TV T → Option (Nat × List (TV T) × List (TV T))
  | .clo f a c => some (f, a, c)
  | _ => none
theorem aggO_eq {v : TV T} {cs : List (TV T)} (h : aggO v = some cs) : v = .agg cs := by cases v <;> cases h <;> rfl
theorem tupO_eq {v : TV T} {cs : List (TV T)} (h : tupO v = some cs) : v = .tup cs := by cases v <;> cases h <;> rfl
theorem cloO_eq {v : TV T} {p : Nat × List (TV T) × List (TV T)} (h : cloO v = some p) : v = .clo p.1 p.2.1 p.2.2 := by cases v <;> cases h <;> rfl
def prj0 (s : F0) (v : TV T) : Option (s.ty T) :=
  match s with
  | .a a => prjA a v
  | .bo => prjBo v
  | .ow k => prjOw k v
  | .e8 => prjE8 v
  | .er k off => prjEr k off v
  | .ref i o => prjRef i o v
  | .vw k i => prjVw k i v
  | .vr k i o => prjVr k i o v
  | .blk _ => none
  | .nilS => prjC 0 v
  | .nilP => prjC 1 v
  | .nilF => prjC 2 v
  | .junk => prjC 3 v
  | .ci k n => prjK (.n k n) v | .c8 n => prjK (.u8 n) v | .c16 n => prjK (.u16 n) v | .c32 n => prjK (.u32 n) v | .c64 n => prjK (.u64 n) v | .cb b => prjK (.b b) v | .cs => prjK (.s []) v
def prj0L : (l : List F0) → List (TV T) → Option (ty0 T l)
  | [], [] => some ()
  | s :: l, v :: vs => (prj0 s v).bind fun x => (prj0L l vs).bind fun y => some (x, y)
  | _, _ => none
def prj1 (tb : Tab T) (s : F1) (v : TV T) : Option (s.ty T) :=
  match s with
  | .f a => prj0 a v
  | .st k => prjSt tb k v
  | .agg l => (aggO v).bind fun cs => prj0L l cs
  | .clo f a c => (cloO v).bind fun p => if Nat.beq p.1 f then (prj0L a p.2.1).bind fun x => (prj0L c p.2.2).bind fun y => some (x, y) else none
def prj1L (tb : Tab T) : (l : List F1) → List (TV T) → Option (ty1 T l)
  | [], [] => some ()
  | s :: l, v :: vs => (prj1 tb s v).bind fun x => (prj1L tb l vs).bind fun y => some (x, y)
  | _, _ => none
def prjX (tb : Tab T) (s : Sh) (v : TV T) : Option (s.ty T) :=
  match s with
  | .g a => prj1 tb a v
  | .tup l => (tupO v).bind fun cs => prj1L tb l cs
theorem prjBo_av {v : TV T} {x : Option (List UInt8)} (h : prjBo v = some x) : av tb v = av tb (.bo x) := by
  unfold prjBo at h
  split at h <;> cases h <;> rfl
theorem prjOw_av {k : Nat} {v : TV T} {x : Option (List (T k))} (h : prjOw k v = some x) : av tb v = av tb (.ow k x) := by
  unfold prjOw at h
  split at h
  · split at h
    · rename_i hk; subst hk; cases h; rfl
    · cases h
  · split at h
    · rename_i hk; subst hk; cases h; rfl
    · cases h
  · cases h; rfl
  · cases h
theorem prjSt_av (ok : tb.Ok) {k : Nat} {v : TV T} {x : T k} (h : prjSt tb k v = some x) : av tb v = av tb (.agg (tb.rw k x)) := by
  unfold prjSt at h
  split at h
  · simp only [av, mkT_av ok h, rw_av ok]
  · cases h
theorem prjE8_av {v : TV T} {x : UInt8} (h : prjE8 v = some x) : av tb v = av tb (.e8 x) := by
  unfold prjE8 at h
  split at h <;> cases h; rfl
theorem prjEr_av {k off : Nat} {v : TV T} {x : T k} (h : prjEr k off v = some x) : av tb v = av tb (.er k x off) := by
  unfold prjEr at h
  split at h
  · split at h
    · rename_i hk; subst hk
      split at h
      · rename_i ho; cases h; rw [Nat.eq_of_beq_eq_true ho]
      · cases h
    · cases h
  · cases h
theorem prjRef_av {i o : Nat} {v : TV T} {x : Unit} (h : prjRef i o v = some x) : v = .ref i o := by
  unfold prjRef at h
  split at h
  · split at h
    · rename_i ho
      simp only [Bool.and_eq_true] at ho
      rw [Nat.eq_of_beq_eq_true ho.1, Nat.eq_of_beq_eq_true ho.2]
    · cases h
  · cases h
theorem prjVw_av {k i : Nat} {v : TV T} {x : Nat} (h : prjVw k i v = some x) : v = .vw k i x := by
  unfold prjVw at h
  split at h
  · split at h
    · rename_i ho
      simp only [Bool.and_eq_true] at ho
      cases h
      rw [Nat.eq_of_beq_eq_true ho.1, Nat.eq_of_beq_eq_true ho.2]
    · cases h
  · cases h
theorem prjVr_av {k i o : Nat} {v : TV T} {x : Int} (h : prjVr k i o v = some x) : v = .vr k i x o := by
  unfold prjVr at h
  split at h
  · split at h
    · rename_i ho
      simp only [Bool.and_eq_true] at ho
      cases h
      rw [Nat.eq_of_beq_eq_true ho.1.1, Nat.eq_of_beq_eq_true ho.1.2, Nat.eq_of_beq_eq_true ho.2]
    · cases h
  · cases h
theorem prjC_av {c : Nat} {v : TV T} {x : Unit} (h : prjC c v = some x) : (c = 0 → v = .nilS) ∧ (c = 1 → v = .nilP) ∧ (c = 2 → v = .nilF) ∧ (c = 3 → v = .junk) := by
  unfold prjC at h
  split at h
  all_goals first
    | (cases h; done)
    | (split at h
       · rename_i hc; have := Nat.eq_of_beq_eq_true hc; subst this; simp
       · cases h)
theorem prjK_eq {a v : TV T} {x : Unit} (h : prjK a v = some x) : v = a := by
  unfold prjK at h
  split at h
  · split at h
    · rename_i hk; subst hk
      split at h
      · rename_i hd; rw [of_decide_eq_true hd]
      · cases h
    · cases h
  all_goals first
    | (cases h; done)
    | (split at h
       · rename_i hd; rw [of_decide_eq_true hd]
       · cases h)
theorem prj0_av {s : F0} {v : TV T} {x : s.ty T} (h : prj0 s v = some x) : av tb v = av tb (inj0 s x) := by
  cases s with
  | a a => exact (prjA_av h).trans (inj_av a x).symm
  | bo => exact prjBo_av h
  | ow k => exact prjOw_av h
  | e8 => exact prjE8_av h
  | er k off => exact prjEr_av h
  | ref i o => exact congrArg (av tb) (prjRef_av h)
  | vw k i => exact congrArg (av tb) (prjVw_av h)
  | vr k i o => exact congrArg (av tb) (prjVr_av h)
  | blk k => cases h
  | nilS => exact congrArg (av tb) ((prjC_av h).1 rfl)
  | nilP => exact congrArg (av tb) ((prjC_av h).2.1 rfl)
  | nilF => exact congrArg (av tb) ((prjC_av h).2.2.1 rfl)
  | junk => exact congrArg (av tb) ((prjC_av h).2.2.2 rfl)
  | ci k n => exact congrArg (av tb) (prjK_eq h)
  | c8 n => exact congrArg (av tb) (prjK_eq h)
  | c16 n => exact congrArg (av tb) (prjK_eq h)
  | c32 n => exact congrArg (av tb) (prjK_eq h)
  | c64 n => exact congrArg (av tb) (prjK_eq h)
  | cb b => exact congrArg (av tb) (prjK_eq h)
  | cs => exact congrArg (av tb) (prjK_eq h)
theorem prj0L_av : ∀ {l : List F0} {vs : List (TV T)} {x : ty0 T l}, prj0L l vs = some x → avL tb vs = avL tb (inj0L l x)
  | [], [], x, h => rfl
  | [], _ :: _, x, h => by cases h
  | _ :: _, [], x, h => by cases h
  | s :: l, v :: vs, x, h => by
    simp only [prj0L] at h
    obtain ⟨y, h1, h⟩ := bind_ex h
    obtain ⟨z, h2, h⟩ := bind_ex h
    cases h
    simp only [avL, inj0L, prj0_av (tb := tb) h1, prj0L_av h2]
theorem prj1_av (ok : tb.Ok) {s : F1} {v : TV T} {x : s.ty T} (h : prj1 tb s v = some x) : av tb v = av tb (inj1 tb s x) := by
  cases s with
  | f a => exact prj0_av h
  | st k => exact prjSt_av ok h
  | agg l =>
    obtain ⟨cs, h0, h⟩ := bind_ex h
    rw [aggO_eq h0]
    exact congrArg AV.agg (prj0L_av h)
  | clo f a c =>
    obtain ⟨p, h0, h⟩ := bind_ex h
    rw [cloO_eq h0]
    split at h
    · rename_i hf
      obtain ⟨y, h1, h⟩ := bind_ex h
      obtain ⟨z, h2, h⟩ := bind_ex h
      cases h
      have e := Nat.eq_of_beq_eq_true hf
      show AV.clo (.func p.1) (avL tb p.2.1) (avL tb p.2.2) = AV.clo (.func f) (avL tb (inj0L a y)) (avL tb (inj0L c z))
      rw [prj0L_av h1, prj0L_av h2, e]
    · cases h
theorem prj1L_av (ok : tb.Ok) : ∀ {l : List F1} {vs : List (TV T)} {x : ty1 T l}, prj1L tb l vs = some x → avL tb vs = avL tb (inj1L tb l x)
  | [], [], x, h => rfl
  | [], _ :: _, x, h => by cases h
  | _ :: _, [], x, h => by cases h
  | s :: l, v :: vs, x, h => by
    simp only [prj1L] at h
    obtain ⟨y, h1, h⟩ := bind_ex h
    obtain ⟨z, h2, h⟩ := bind_ex h
    cases h
    simp only [avL, inj1L, prj1_av ok h1, prj1L_av ok h2]
theorem prjX_av (ok : tb.Ok) (s : Sh) (v : TV T) (x : s.ty T) (h : prjX tb s v = some x) : av tb v = av tb (inj tb s x) := by
  cases s with
  | g a => exact prj1_av ok h
  | tup l =>
    obtain ⟨cs, h0, h⟩ := bind_ex h
    rw [tupO_eq h0]
    exact congrArg AV.tup (prj1L_av ok h)
def orElse {α : Type} : Option α → Option α → Option α
  | some a, _ => some a
  | none, o => o
/-- The values in a word of a shape; owners may be let go. -/
def prj (tb : Tab T) (s : Sh) (v : TV T) : Option (s.ty T) := orElse (prjX tb s v) (prjX tb s (stripT v))
theorem prj_adm (ok : tb.Ok) {s : Sh} {v : TV T} {x : s.ty T} (h : prj tb s v = some x) : adm (av tb v) (av tb (inj tb s x)) := by
  unfold prj at h
  cases h1 : prjX tb s v with
  | some y =>
    rw [h1] at h
    simp only [orElse, Option.some.injEq] at h
    subst h
    exact .inl (prjX_av ok s v _ h1)
  | none =>
    rw [h1] at h
    simp only [orElse] at h
    refine .inr ?_
    rw [strip_av]
    exact prjX_av ok s _ _ h
def tyL (T : Nat → Type) : List Sh → Type
  | [] => Unit
  | s :: l => s.ty T × tyL T l
def injL (tb : Tab T) : (l : List Sh) → tyL T l → List (TV T)
  | [], _ => []
  | s :: l, x => inj tb s x.1 :: injL tb l x.2
def prjL (tb : Tab T) : (l : List Sh) → List (TV T) → Option (tyL T l)
  | [], [] => some ()
  | s :: l, v :: vs => (prj tb s v).bind fun x => (prjL tb l vs).bind fun y => some (x, y)
  | _, _ => none
theorem prjL_adm (ok : tb.Ok) : ∀ {l : List Sh} {vs : List (TV T)} {x : tyL T l}, prjL tb l vs = some x → admL (avL tb vs) (avL tb (injL tb l x))
  | [], [], x, h => trivial
  | [], _ :: _, x, h => by cases h
  | _ :: _, [], x, h => by cases h
  | s :: l, v :: vs, x, h => by
    simp only [prjL] at h
    obtain ⟨y, h1, h⟩ := bind_ex h
    obtain ⟨z, h2, h⟩ := bind_ex h
    cases h
    exact ⟨prj_adm ok h1, prjL_adm ok h2⟩
def tyH (T : Nat → Type) : List (List Sh) → Type
  | [] => Unit
  | l :: h => tyL T l × tyH T h
def injH (tb : Tab T) : (h : List (List Sh)) → tyH T h → THeap T
  | [], _ => []
  | l :: h, x => injL tb l x.1 :: injH tb h x.2
def prjBlk (k : Nat) : List (TV T) → Option (List (T k))
  | [.blk k' l] => if h : k' = k then some (h ▸ l) else none
  | _ => none
theorem prjBlk_eq {k : Nat} {o : List (TV T)} {l : List (T k)} (h : prjBlk k o = some l) : o = [.blk k l] := by
  unfold prjBlk at h
  split at h
  · split at h
    · rename_i hk; subst hk; cases h; rfl
    · cases h
  · cases h
def blkS : Sh → Option Nat
  | .g (.f (.blk k)) => some k
  | _ => none
def prjB : (s : Sh) → List (TV T) → Option (s.ty T)
  | .g (.f (.blk k)), o => prjBlk k o
  | _, _ => none
theorem prjB_eq {s : Sh} {o : List (TV T)} {x : s.ty T} (h : prjB s o = some x) : o = [inj tb s x] := by
  cases s with
  | g f =>
    cases f with
    | f a =>
      cases a with
      | blk k => exact prjBlk_eq h
      | _ => cases h
    | _ => cases h
  | tup l => cases h
def isBlk : Sh → Bool
  | .g (.f (.blk _)) => true
  | _ => false
/-- An object; of the empty shape: let go. -/
def prjO (tb : Tab T) : (l : List Sh) → List (TV T) → Option (tyL T l)
  | [], _ => some ()
  | s :: l, o => if isBlk s then (match l with | [] => (prjB s o).bind fun x => some (x, ()) | _ :: _ => none) else (prjL tb (s :: l) o).bind fun x => if nb o && nb (injL tb (s :: l) x) then some x else none
theorem admL_rfl : ∀ l : List AV, admL l l
  | [] => trivial
  | a :: l => ⟨.inl rfl, admL_rfl l⟩
theorem prjO_adm (ok : tb.Ok) {l : List Sh} {o : List (TV T)} {x : tyL T l} (h : prjO tb l o = some x) : admO (avO tb o) (avO tb (injL tb l x)) := by
  cases l with
  | nil => exact .inr rfl
  | cons s l =>
    simp only [prjO] at h
    split at h
    · cases l with
      | nil =>
        obtain ⟨y, h1, h⟩ := bind_ex h
        cases h
        rw [prjB_eq (tb := tb) h1]
        exact .inl (admL_rfl _)
      | cons => cases h
    · obtain ⟨y, h1, h⟩ := bind_ex h
      split at h
      · rename_i hn
        cases h
        simp only [Bool.and_eq_true] at hn
        rw [avO_nb hn.1, avO_nb hn.2]
        exact .inl (prjL_adm ok h1)
      · cases h
def prjH (tb : Tab T) : (h : List (List Sh)) → THeap T → Option (tyH T h)
  | [], [] => some ()
  | l :: h, o :: os => (prjO tb l o).bind fun x => (prjH tb h os).bind fun y => some (x, y)
  | _, _ => none
theorem prjH_adm (ok : tb.Ok) : ∀ {h : List (List Sh)} {os : THeap T} {x : tyH T h}, prjH tb h os = some x → admH (avH tb os) (avH tb (injH tb h x))
  | [], [], x, h => trivial
  | [], _ :: _, x, h => by cases h
  | _ :: _, [], x, h => by cases h
  | l :: hs, o :: os, x, h => by
    simp only [prjH] at h
    obtain ⟨y, h1, h⟩ := bind_ex h
    obtain ⟨z, h2, h⟩ := bind_ex h
    cases h
    exact ⟨prjO_adm ok h1, prjH_adm ok h2⟩
theorem injH_len : ∀ (sh : List (List Sh)) (x : tyH T sh), (injH tb sh x).length = sh.length
  | [], _ => rfl
  | _ :: l, x => by simp [injH, injH_len l]
def tyE (T : Nat → Type) : List (Nat × Sh) → Type
  | [] => Unit
  | (_, s) :: l => s.ty T × tyE T l
def injE (tb : Tab T) : (l : List (Nat × Sh)) → tyE T l → TEnv T
  | [], _ => []
  | (k, s) :: l, x => (k, inj tb s x.1) :: injE tb l x.2
def prjE (tb : Tab T) : (l : List (Nat × Sh)) → TEnv T → Option (tyE T l)
  | [], [] => some ()
  | (k, s) :: l, (k', v) :: e => if Nat.beq k' k then (prj tb s v).bind fun x => (prjE tb l e).bind fun y => some (x, y) else none
  | _, _ => none
theorem prjE_adm (ok : tb.Ok) : ∀ {l : List (Nat × Sh)} {e : TEnv T} {x : tyE T l}, prjE tb l e = some x → ∀ t, adm (lk (avE tb e) t) (lk (avE tb (injE tb l x)) t)
  | [], [], x, h, t => .inl rfl
  | [], _ :: _, x, h, t => by cases h
  | _ :: _, [], x, h, t => by cases h
  | (k, s) :: l, (k', v) :: e, x, h, t => by
    simp only [prjE] at h
    split at h
    · rename_i hk
      obtain ⟨y, h1, h⟩ := bind_ex h
      obtain ⟨z, h2, h⟩ := bind_ex h
      cases h
      have := Nat.eq_of_beq_eq_true hk
      subst this
      simp only [avE, List.map_cons, injE, lk]
      split
      · exact prj_adm ok h1
      · exact prjE_adm ok h2 t
    · cases h
/-- Shapes of states. -/
structure SSh where
  env : List (Nat × Sh)
  heap : List (List Sh)
def SSh.ty (T : Nat → Type) (s : SSh) : Type := tyE T s.env × tyH T s.heap
def injS (tb : Tab T) (sh : SSh) (x : sh.ty T) : TSt T := ⟨injE tb sh.env x.1, injH tb sh.heap x.2⟩
/-- No word leads out of so many objects. -/
def chkS (m : Nat) (s : TSt T) : Bool := s.env.all (fun p => (refsT p.2).all fun i => Nat.blt i m) && s.heap.all fun o => (refsTL o).all fun i => Nat.blt i m
def prjS (tb : Tab T) (n : Nat) (sh : SSh) (s : TSt T) : Option (sh.ty T) :=
  if Nat.ble n sh.heap.length && Nat.ble sh.heap.length s.heap.length then
    (prjE tb sh.env s.env).bind fun x => (prjH tb sh.heap (s.heap.take sh.heap.length)).bind fun y => if chkS sh.heap.length (injS tb sh (x, y)) then some (x, y) else none
  else none
theorem blt_lt {i k : Nat} (h : Nat.blt i k = true) : i < k := Nat.le_of_ble_eq_true h
theorem lk_all {p : AV → Bool} (hp : p .junk = true) : ∀ {e : TEnv T}, (∀ q ∈ e, p (av tb q.2) = true) → ∀ t, p (lk (avE tb e) t) = true
  | [], _, t => hp
  | (k, v) :: e, h, t => by
    simp only [avE, List.map_cons, lk]
    split
    · exact h _ List.mem_cons_self
    · exact lk_all hp (fun q hq => h q (List.mem_cons_of_mem _ hq)) t
theorem prjS_adm (ok : tb.Ok) {n : Nat} {sh : SSh} {s : TSt T} {x : sh.ty T} (h : prjS tb n sh s = some x) : admS (avS tb s) (avS tb (injS tb sh x)) ∧ n ≤ (avS tb (injS tb sh x)).heap.length := by
  simp only [prjS] at h
  split at h
  · rename_i hb
    simp only [Bool.and_eq_true] at hb
    obtain ⟨b1, b2⟩ := hb
    have b1 := Nat.le_of_ble_eq_true b1
    have b2 := Nat.le_of_ble_eq_true b2
    obtain ⟨y, h1, h⟩ := bind_ex h
    obtain ⟨z, h2, h⟩ := bind_ex h
    split at h
    · rename_i hc
      cases h
      have el : (avS tb (injS tb sh (y, z))).heap.length = sh.heap.length := by
        show (avH tb (injH tb sh.heap z)).length = _
        rw [lenH_av, injH_len]
      have el2 : (avS tb s).heap.length = s.heap.length := lenH_av _
      simp only [chkS, Bool.and_eq_true] at hc
      refine ⟨⟨prjE_adm ok h1, by rw [el, el2]; exact b2, ?_, fun t => ?_, ?_⟩, by rw [el]; exact b1⟩
      · rw [el]
        have : (avS tb s).heap.take sh.heap.length = avH tb (s.heap.take sh.heap.length) := by simp [avS, avH, List.map_take]
        rw [this]
        exact prjH_adm ok h2
      · rw [el]
        refine lk_all (p := fun a => (refsOf a).all fun i => decide (i < sh.heap.length)) rfl (fun q hq => ?_) t
        refine List.all_eq_true.2 fun i hi => decide_eq_true ?_
        rw [refs_av] at hi
        exact blt_lt (List.all_eq_true.1 (List.all_eq_true.1 hc.1 q hq) i hi)
      · rw [el]
        refine List.all_eq_true.2 fun ob hob => List.all_eq_true.2 fun i hi => decide_eq_true ?_
        simp only [avS, avH, List.mem_map] at hob
        obtain ⟨o, ho', rfl⟩ := hob
        rw [refsO_av] at hi
        exact blt_lt (List.all_eq_true.1 (List.all_eq_true.1 hc.2 o ho') i hi)
    · cases h
  · cases h
theorem allC_mono {p q : Nat → Cut T → TCode T → Prop} (hpq : ∀ n o c, p n o c → q n o c) : ∀ {c : TCode T}, allC p c → allC q c := by
  intro c
  induction c with
  | seq a b iha ihb => exact fun h => ⟨iha h.1, ihb h.2⟩
  | cond _ a b iha ihb => exact fun h => ⟨iha h.1, ihb h.2⟩
  | block _ b ih => exact ih
  | loop b ih => exact ih
  | drop _ c ih => exact ih
  | cut n o c ih => exact hpq n o c
  | fin n o c ih => exact fun h => ⟨hpq _ _ _ h.1, ih h.2⟩
  | frz _ _ c ih => exact ih
  | fend _ c ih => exact ih
  | _ => exact fun _ => trivial
section
variable {orcs : Orcs T}
abbrev CutsOk (P : Program) (W : World → Prop) (tb : Tab T) (c : TCode T) : Prop := allC (fun n o c => o.Ok P W tb n c) c
/-- A piece that is run once. -/
def cutJ (tb : Tab T) (n : Nat) (sh : SSh) (B : (ρ : Type) → sh.ty T → (SExit → TSt T → Option ρ) → Option ρ) : Cut T := ⟨fun s k => (prjS tb n sh s).bind fun x => B _ x k⟩
theorem cutJ_ok (ok : tb.Ok) (ho : OrcsOk P W tb orcs) {c : TCode T} (hc : CutsOk P W tb c) {n : Nat} {sh : SSh} {B : (ρ : Type) → sh.ty T → (SExit → TSt T → Option ρ) → Option ρ}
    (fact : ∀ {ρ : Type} (x : sh.ty T) (k : SExit → TSt T → Option ρ), runS tb orcs c (injS tb sh x) k = B ρ x k) : (cutJ tb n sh B).Ok P W tb n c := by
  refine ⟨⟨fun {ρ σ} s k f => ?_⟩, fun {ρ} s k d h => ?_⟩
  · simp only [cutJ]
    cases prjS tb n sh s with
    | none => rfl
    | some x =>
      simp only [Option.bind_some]
      rw [← fact, ← fact]
      exact runS_par ho.par (allC_mono (fun n o c h => h.toPar) hc)
  · obtain ⟨x, h1, h2⟩ := bind_ex h
    rw [← fact] at h2
    exact ⟨_, (prjS_adm ok h1).1, (prjS_adm ok h1).2, runS_snd ok ho hc h2⟩
/-- A loop. -/
def cutL {Z Y : Type} (tb : Tab T) (n : Nat) (sh : SSh) (z0 : sh.ty T → Z) (step : sh.ty T → Z → Option (Z ⊕ Y)) (EX : (ρ : Type) → sh.ty T → Y → (SExit → TSt T → Option ρ) → Option ρ) : Cut T :=
  ⟨fun s k => (prjS tb n sh s).bind fun x => (iter (step x) (z0 x)).bind fun y => EX _ x y k⟩
theorem cutL_ok {Z Y : Type} (ok : tb.Ok) (ho : OrcsOk P W tb orcs) {c : TCode T} (hc : CutsOk P W tb c) {n : Nat} {sh : SSh} {z0 : sh.ty T → Z} {step : sh.ty T → Z → Option (Z ⊕ Y)} {EX : (ρ : Type) → sh.ty T → Y → (SExit → TSt T → Option ρ) → Option ρ}
    (B : (ρ : Type) → sh.ty T → Z → (Z → Option ρ) → (Y → Option ρ) → Option ρ) (up : sh.ty T → Z → TSt T) (ex : sh.ty T → Y → SExit × TSt T) (pz : TSt T → Option Z) (py : SExit → TSt T → Option Y)
    (h0 : ∀ x, injS tb sh x = up x (z0 x)) (hstep : ∀ x z, step x z = B _ x z (fun z => some (.inl z)) (fun y => some (.inr y)))
    (hEX : ∀ {ρ : Type} x y (k : SExit → TSt T → Option ρ), EX _ x y k = k (ex x y).1 (ex x y).2) (hne : ∀ x y, (ex x y).1 ≠ .normal)
    (hpz : ∀ x z, pz (up x z) = some z) (hpy : ∀ x y, py (ex x y).1 (ex x y).2 = some y)
    (fact : ∀ {ρ : Type} (x : sh.ty T) (z : Z) (k : SExit → TSt T → Option ρ), runS tb orcs c (up x z) k = B _ x z (fun z => k .normal (up x z)) (fun y => EX _ x y k)) : (cutL tb n sh z0 step EX).Ok P W tb n (.loop c) := by
  refine ⟨⟨fun {ρ σ} s k f => ?_⟩, fun {ρ} s k d h => ?_⟩
  · simp only [cutL]
    cases prjS tb n sh s with
    | none => rfl
    | some x =>
      simp only [Option.bind_some]
      cases iter (step x) (z0 x) with
      | none => rfl
      | some y => simp only [Option.bind_some, hEX]
  · obtain ⟨x, h1, h⟩ := bind_ex h
    obtain ⟨y, h2, h3⟩ := bind_ex h
    rw [hEX] at h3
    refine ⟨_, (prjS_adm ok h1).1, (prjS_adm ok h1).2, ?_⟩
    rw [h0]
    simp only [erC]
    refine q_loop (f := fun z => avS tb (up x z)) h2 rfl fun z e hs he => ?_
    let k1 : SExit → TSt T → Option (Z ⊕ Y) := fun e t => match e with
      | .normal => (pz t).bind fun z => some (.inl z)
      | e => (py e t).bind fun y => some (.inr y)
    let C : SExit → TSt T → Prop := fun e t => (e = .normal ∧ ∃ z', t = up x z') ∨ ∃ y', (e, t) = ex x y'
    let k2 : SExit → TSt T → Option (Z ⊕ Y) := fun e t => @ite _ (C e t) (Classical.propDecidable _) (k1 e t) none
    have e1 : ∀ z', k2 .normal (up x z') = some (.inl z') := fun z' => by
      simp only [k2]
      rw [if_pos (.inl ⟨rfl, z', rfl⟩)]
      simp only [k1, hpz, Option.bind_some]
    have e2 : ∀ y', EX _ x y' k2 = some (.inr y') := fun y' => by
      rw [hEX]
      simp only [k2]
      rw [if_pos (.inr ⟨y', rfl⟩)]
      have h1 := hne x y'
      have h2 := hpy x y'
      generalize (ex x y').1 = e at h1 h2 ⊢
      cases e with
      | normal => exact absurd rfl h1
      | _ => simp only [k1, h2, Option.bind_some]
    have hr : runS tb orcs c (up x z) k2 = some e := by
      rw [fact, ← hs, hstep]
      congr 1
      · funext z'; exact e1 z'
      · funext y'; exact e2 y'
    refine wpS_mono (erC tb c) _ ?_ (runS_snd ok ho hc hr)
    rintro e' s' ⟨t, rfl, ht⟩
    simp only [k2] at ht
    split at ht
    · rename_i hC
      rcases hC with ⟨rfl, z', rfl⟩ | ⟨y', hy⟩
      · simp only [k1, hpz, Option.bind_some, Option.some.injEq] at ht
        exact ⟨z', ht.symm, rfl⟩
      · have h1 := hne x y'
        have h2 := hpy x y'
        rw [← hy] at h1 h2
        simp only at h1 h2
        have h4 : e = .inr y' := by
          cases e' with
          | normal => exact absurd rfl h1
          | _ => simp only [k1, h2, Option.bind_some, Option.some.injEq] at ht; exact ht.symm
        have h5 := he y' h4
        subst h5
        rw [← hy] at h3
        cases e' with
        | normal => exact absurd rfl h1
        | _ => exact ⟨t, rfl, h3⟩
    · cases ht
end
end Go.Rv

namespace Go.Rv
open Go.RowKit
variable {T : Nat → Type} {tb : Tab T} {P : Program} {W : World → Prop}
def resVT (s : TSt T) : SRes → Option (TV T)
  | .tmp t => if notTupT (lkT s.env t) then some (lkT s.env t) else none
  | .cell t n => match lkT s.env t with
    | .ref id off => if nb (hgetT s.heap id) then fldT (hgetT s.heap id) off n else none
    | _ => none
def resVsT : TSt T → List SRes → Option (List (TV T))
  | _, [] => some []
  | s, r :: rs => (resVT s r).bind fun a => (resVsT (match r with | .tmp t => ⟨rmT s.env t, s.heap⟩ | _ => s) rs).bind fun l => some (a :: l)
def tupT : List (TV T) → TV T
  | [a] => a
  | l => .tup l
def resAllT (s : TSt T) (rs : List SRes) : Option (TV T) := (resVsT s rs).bind fun l => some (tupT l)
theorem resV_av {s : TSt T} {r : SRes} {a : TV T} (h : resVT s r = some a) : resV (avS tb s) r = some (av tb a) := by
  cases r with
  | tmp t =>
    simp only [resVT] at h
    split at h
    · rename_i hn
      cases h
      have e : lk (avS tb s).env t = av tb (lkT s.env t) := lk_av _ _
      rw [← notTup_av (tb := tb)] at hn
      simp only [resV, e]
      generalize av tb (lkT s.env t) = x at hn ⊢
      cases x <;> first | rfl | cases hn
    · cases h
  | cell t n =>
    simp only [resVT] at h
    split at h
    · rename_i id off hl
      split at h
      case isFalse => cases h
      rename_i hnb
      have e : lk (avS tb s).env t = .ref id off := by
        show lk (avE tb s.env) t = _
        rw [lk_av, hl]; rfl
      have h2 := fld_av (tb := tb) h
      simp only [resV, e]
      rw [show hget (avS tb s).heap id = avL tb (hgetT s.heap id) from hget_nb hnb]
      cases n with
      | none => exact h2
      | some m => exact h2
    · cases h
theorem resVs_av : ∀ {rs : List SRes} {s : TSt T} {l : List (TV T)}, resVsT s rs = some l → resVs (avS tb s) rs = some (avL tb l)
  | [], s, l, h => by cases h; rfl
  | r :: rs, s, l, h => by
    simp only [resVsT] at h
    obtain ⟨a, h1, h⟩ := bind_ex h
    obtain ⟨l', h2, h⟩ := bind_ex h
    cases h
    have e2 := resVs_av h2
    simp only [resVs, resV_av h1]
    cases r with
    | tmp t =>
      simp only [avS, rm_av] at e2 ⊢
      rw [e2]; rfl
    | cell t n => simp only at e2 ⊢; rw [e2]; rfl
theorem resAll_av {s : TSt T} {rs : List SRes} {r : TV T} (h : resAllT s rs = some r) : resAll (avS tb s) rs = some (av tb r) := by
  obtain ⟨l, h1, h2⟩ := bind_ex h
  cases h2
  have := resVs_av (tb := tb) h1
  match l, this with
  | [], e => simp only [resAll, e]; rfl
  | [a], e => simp only [resAll, e]; rfl
  | a :: b :: l, e => simp only [resAll, e]; rfl
/-- How a function's results are told. -/
structure RSp (T : Nat → Type) (tb : Tab T) (Y : Type) where
  py : TV T → THeap T → Option Y
  rs : Y → TV T × THeap T
def endB (k : Nat) (r : TV T) (h : THeap T) : Bool := Nat.ble k h.length && (refsT r).all (fun i => Nat.blt i k) && (h.take k).all (fun ob => (refsTL ob).all fun i => Nat.blt i k)
structure RSp.Ok {Y : Type} (R : RSp T tb Y) : Prop where
  ok : ∀ r h y, R.py r h = some y → endB (R.rs y).2.length r h = true ∧ adm (av tb r) (av tb (R.rs y).1) ∧ admH (avH tb (h.take (R.rs y).2.length)) (avH tb (R.rs y).2)
def RSp.one {Y : Type} (tb : Tab T) (sr : Sh) (sh : List (List Sh)) (to : sr.ty T → tyH T sh → Y) (ofr : Y → sr.ty T) (ofh : Y → tyH T sh) : RSp T tb Y :=
  ⟨fun r h => if endB sh.length r h then (prj tb sr r).bind fun a => (prjH tb sh (h.take sh.length)).bind fun b => some (to a b) else none, fun y => (inj tb sr (ofr y), injH tb sh (ofh y))⟩
theorem RSp.one_ok {Y : Type} (ok : tb.Ok) {sr : Sh} {sh : List (List Sh)} {to : sr.ty T → tyH T sh → Y} {ofr : Y → sr.ty T} {ofh : Y → tyH T sh} (h1 : ∀ a b, ofr (to a b) = a) (h2 : ∀ a b, ofh (to a b) = b) : (RSp.one tb sr sh to ofr ofh).Ok := by
  refine ⟨fun r h y hp => ?_⟩
  simp only [RSp.one] at hp
  split at hp
  · rename_i hb
    obtain ⟨a, p1, hp⟩ := bind_ex hp
    obtain ⟨b, p2, hp⟩ := bind_ex hp
    cases hp
    simp only [RSp.one, h1, h2, injH_len]
    exact ⟨hb, prj_adm ok p1, prjH_adm ok p2⟩
  · cases hp
def sumEl {α β : Type} (f : α → TV T × THeap T) (g : β → TV T × THeap T) : α ⊕ β → TV T × THeap T
  | .inl a => f a
  | .inr b => g b
def RSp.or {Y Z : Type} (A : RSp T tb Y) (B : RSp T tb Z) : RSp T tb (Y ⊕ Z) :=
  ⟨fun r h => orElse ((A.py r h).bind fun y => some (.inl y)) ((B.py r h).bind fun y => some (.inr y)), sumEl A.rs B.rs⟩
theorem RSp.or_ok {Y Z : Type} {A : RSp T tb Y} {B : RSp T tb Z} (ha : A.Ok) (hb : B.Ok) : (RSp.or A B).Ok := by
  refine ⟨fun r h y hp => ?_⟩
  simp only [RSp.or] at hp
  cases h1 : A.py r h with
  | some z =>
    rw [h1] at hp
    simp only [Option.bind_some, orElse, Option.some.injEq] at hp
    subst hp
    exact ha.ok r h z h1
  | none =>
    rw [h1] at hp
    simp only [Option.bind_none, orElse] at hp
    obtain ⟨z, p1, hp⟩ := bind_ex hp
    cases hp
    exact hb.ok r h z p1
def kR {Y : Type} (R : RSp T tb Y) (res : List SRes) : SExit → TSt T → Option Y
  | .exit _, _ => none
  | _, t => (resAllT t res).bind fun r => R.py r t.heap
def argT : Nat → List (TV T) → TEnv T
  | _, [] => []
  | k, a :: as => (k, a) :: argT (k + 1) as
theorem argT_av : ∀ (as : List (TV T)) (k : Nat), avE tb (argT k as) = argEnv k (avL tb as)
  | [], k => rfl
  | a :: as, k => by
    have := argT_av as (k + 1)
    simp only [avE] at this
    simp only [avE, argT, List.map_cons, avL, argEnv, this]
theorem kR_end {Y : Type} {R : RSp T tb Y} (ho : R.Ok) {res : List SRes} {e : SExit} {t : TSt T} {y : Y} (h : kR R res e t = some y) :
    endQ res (avH tb (R.rs y).2).length (FinR (av tb (R.rs y).1) (avH tb (R.rs y).2)) e (avS tb t) := by
  have key : ∀ r, resAllT t res = some r → R.py r t.heap = some y → ∃ r', resAll (avS tb t) res = some r' ∧ (avH tb (R.rs y).2).length ≤ (avS tb t).heap.length ∧ (refsOf r').all (fun i => decide (i < (avH tb (R.rs y).2).length)) = true ∧
      ((avS tb t).heap.take (avH tb (R.rs y).2).length).all (fun ob => (refsL ob).all fun i => decide (i < (avH tb (R.rs y).2).length)) = true ∧ FinR (av tb (R.rs y).1) (avH tb (R.rs y).2) r' ((avS tb t).heap.take (avH tb (R.rs y).2).length) := by
    intro r hr hp
    obtain ⟨h1, h2, h3⟩ := ho.ok r t.heap y hp
    have el : (avH tb (R.rs y).2).length = (R.rs y).2.length := lenH_av _
    have et : (avS tb t).heap.take (R.rs y).2.length = avH tb (t.heap.take (R.rs y).2.length) := by simp [avS, avH, List.map_take]
    simp only [endB, Bool.and_eq_true] at h1
    obtain ⟨⟨b1, b2⟩, b3⟩ := h1
    have bl : ∀ {i k : Nat}, Nat.blt i k = true → i < k := fun h => Nat.le_of_ble_eq_true h
    refine ⟨_, resAll_av hr, ?_, ?_, ?_, ?_⟩
    · rw [el]
      have : (avS tb t).heap.length = t.heap.length := lenH_av _
      rw [this]; exact Nat.le_of_ble_eq_true b1
    · rw [refs_av, el]
      exact List.all_eq_true.2 fun i hi => decide_eq_true (bl (List.all_eq_true.1 b2 i hi))
    · rw [el, et]
      refine List.all_eq_true.2 fun ob hob => List.all_eq_true.2 fun i hi => decide_eq_true ?_
      simp only [avH, List.mem_map] at hob
      obtain ⟨o, ho', rfl⟩ := hob
      rw [refsO_av] at hi
      exact bl (List.all_eq_true.1 (List.all_eq_true.1 b3 o ho') i hi)
    · rw [el, et]; exact ⟨h2, h3⟩
  cases e with
  | exit i => cases h
  | normal =>
    obtain ⟨r, h1, h2⟩ := bind_ex h
    exact key r h1 h2
  | ret =>
    obtain ⟨r, h1, h2⟩ := bind_ex h
    exact key r h1 h2
theorem Good.admH {as : List AV} {H H0 H' : Heap} {f : FuncId} {r : AV} (x : Rv.admH H H0) (g : Good P W f as H0 r H') : Good P W f as H r H' := by
  intro W0 hL φ gh w vs hi hh hl ha
  have e := (admH_get x).1
  rw [e] at ha ⊢
  exact g W0 hL φ gh w vs hi (hh.adm x) hl ha
section
variable {orcs : Orcs T} {Y : Type}
/-- A function's word. -/
def mkOrc (tb : Tab T) (sa : List Sh) (sh : List (List Sh)) (F : tyL T sa → tyH T sh → Option Y) (RX : (ρ : Type) → Y → (TV T → THeap T → Option ρ) → Option ρ) : Orc T :=
  ⟨fun as h k => (prjL tb sa as).bind fun x => (prjH tb sh h).bind fun z => (F x z).bind fun y => RX _ y k⟩
theorem fun_run (ok : tb.Ok) (ho : OrcsOk P W tb orcs) {f : FuncId} {fn : Func} {c : TCode T} {res : List SRes} {n : Nat} {as : List (TV T)} {H : THeap T} {R : RSp T tb Y} (hR : R.Ok) {y : Y}
    (hf : P.funcs[f]? = some fn) (hok : fnOk P fn ⟨erC tb c, res, n⟩ = true) (hwk : wkOk H.length (erC tb c) = true) (hen : enterOk P f = true) (hl : Nat.ble as.length n = true) (hH : Nat.ble H.length (R.rs y).2.length = true) (hc : CutsOk P W tb c)
    (hrun : runS tb orcs c ⟨argT 0 as, H⟩ (kR R res) = some y) : Fun P W f (avL tb as) (avH tb H) (av tb (R.rs y).1) (avH tb (R.rs y).2) := by
  refine fun_of_wpF hf hok (by rw [lenH_av]; exact hwk) hen (by rw [len_av]; exact hl) (by rw [lenH_av, lenH_av]; exact hH) ?_
  have := runS_snd ok ho hc hrun
  simp only [avS, argT_av] at this
  refine wpS_mono (erC tb c) _ ?_ this
  rintro e s' ⟨t, rfl, ht⟩
  exact kR_end hR ht
theorem mkOrc_ok (ok : tb.Ok) {f : FuncId} {sa : List Sh} {sh : List (List Sh)} {F : tyL T sa → tyH T sh → Option Y} {RX : (ρ : Type) → Y → (TV T → THeap T → Option ρ) → Option ρ} {R : RSp T tb Y} (hen : enterOk P f = true)
    (hRX : ∀ (ρ : Type) y (k : TV T → THeap T → Option ρ), RX ρ y k = k (R.rs y).1 (R.rs y).2) (hlen : ∀ y, Nat.ble sh.length (R.rs y).2.length = true)
    (hfun : ∀ x z y, F x z = some y → Fun P W f (avL tb (injL tb sa x)) (avH tb (injH tb sh z)) (av tb (R.rs y).1) (avH tb (R.rs y).2)) : (mkOrc tb sa sh F RX).Ok P W tb f := by
  refine ⟨⟨fun {ρ σ} as h k g => ?_⟩, hen, fun {ρ} as h k d hd => ?_⟩
  · simp only [mkOrc]
    cases prjL tb sa as with
    | none => rfl
    | some x =>
      simp only [Option.bind_some]
      cases prjH tb sh h with
      | none => rfl
      | some z =>
        simp only [Option.bind_some]
        cases F x z with
        | none => rfl
        | some y => simp only [Option.bind_some, hRX]
  · obtain ⟨x, h1, hd⟩ := bind_ex hd
    obtain ⟨z, h2, hd⟩ := bind_ex hd
    obtain ⟨y, h3, hd⟩ := bind_ex hd
    rw [hRX] at hd
    refine ⟨_, _, ((hfun x z y h3).2.admH (prjH_adm ok h2)).adm (prjL_adm ok h1), ?_, hd⟩
    have e : h.length = sh.length := by
      have := (admH_get (prjH_adm ok h2)).1
      rw [lenH_av, lenH_av, injH_len] at this; exact this
    rw [e]
    exact Nat.le_of_ble_eq_true (hlen y)
/-- All at once: a function's word, by its run. -/
theorem orc_ok (ok : tb.Ok) (ho : OrcsOk P W tb orcs) {f : FuncId} {fn : Func} {c : TCode T} {res : List SRes} {n : Nat} {sa : List Sh} {sh : List (List Sh)} {F : tyL T sa → tyH T sh → Option Y} {RX : (ρ : Type) → Y → (TV T → THeap T → Option ρ) → Option ρ} {R : RSp T tb Y} (hR : R.Ok)
    (hf : P.funcs[f]? = some fn) (hok : fnOk P fn ⟨erC tb c, res, n⟩ = true) (hwk : wkOk sh.length (erC tb c) = true) (hen : enterOk P f = true) (hl : Nat.ble sa.length n = true) (hc : CutsOk P W tb c)
    (hRX : ∀ (ρ : Type) y (k : TV T → THeap T → Option ρ), RX ρ y k = k (R.rs y).1 (R.rs y).2) (hlen : ∀ y, Nat.ble sh.length (R.rs y).2.length = true)
    (fact : ∀ x z, runS tb orcs c ⟨argT 0 (injL tb sa x), injH tb sh z⟩ (kR R res) = F x z) : (mkOrc tb sa sh F RX).Ok P W tb f := by
  refine mkOrc_ok ok hen hRX hlen fun x z y hF => ?_
  have : ∀ (l : List Sh) (x : tyL T l), (injL tb l x).length = l.length := by
    intro l; induction l with
    | nil => intro x; rfl
    | cons a l ih => intro x; simp [injL, ih]
  exact fun_run ok ho hR hf hok (by rw [injH_len]; exact hwk) hen (by rw [this]; exact hl) (by rw [injH_len]; exact hlen y) hc (by rw [fact]; exact hF)
end
theorem cS {p : Nat → Cut T → TCode T → Prop} {a b : TCode T} (h1 : allC p a) (h2 : allC p b) : allC p (.seq a b) := ⟨h1, h2⟩
theorem cC {p : Nat → Cut T → TCode T → Prop} {a b : TCode T} {t : Nat} (h1 : allC p a) (h2 : allC p b) : allC p (.cond t a b) := ⟨h1, h2⟩
theorem cB {p : Nat → Cut T → TCode T → Prop} {a : TCode T} {t : Nat} (h1 : allC p a) : allC p (.block t a) := h1
theorem cL {p : Nat → Cut T → TCode T → Prop} {a : TCode T} (h1 : allC p a) : allC p (.loop a) := h1
theorem cD {p : Nat → Cut T → TCode T → Prop} {a : TCode T} {ts : List Nat} (h1 : allC p a) : allC p (.drop ts a) := h1
theorem cZ {p : Nat → Cut T → TCode T → Prop} {a : TCode T} {ts : List Nat} {n : Option Nat} (h1 : allC p a) : allC p (.frz ts n a) := h1
theorem cY {p : Nat → Cut T → TCode T → Prop} {a : TCode T} {n : Nat} (h1 : allC p a) : allC p (.fend n a) := h1
theorem cF {p : Nat → Cut T → TCode T → Prop} {n : Nat} {o : Cut T} {a : TCode T} (h1 : p n o .skip) (h2 : allC p a) : allC p (.fin n o a) := ⟨h1, h2⟩
theorem cT {p : Nat → Cut T → TCode T → Prop} {n : Nat} {o : Cut T} {a : TCode T} (h1 : p n o a) : allC p (.cut n o a) := h1
def eqE : SExit → SExit → Bool
  | .normal, .normal => true
  | .ret, .ret => true
  | .exit i, .exit j => Nat.beq i j
  | _, _ => false
theorem orcs_nil : OrcsOk P W tb [] := fun i f o h => by cases h
theorem orcs_cons {orcs : Orcs T} {f : Nat} {o : Orc T} (h1 : o.Ok P W tb f) (h2 : OrcsOk P W tb orcs) : OrcsOk P W tb ((f, o) :: orcs) := by
  intro i g p h
  cases i with
  | zero =>
    simp only [findO] at h
    split at h
    · rename_i hb
      cases h
      have := Nat.eq_of_beq_eq_true hb
      subst this; exact h1
    · cases h
  | succ i => exact h2 i g p h
end Go.Rv

namespace Go.Rv
open Go.RowKit
variable {T : Nat → Type} {tb : Tab T} {P : Program}
def tmK : Tm → Option IntKind
  | .n .i64 => some .i64 | .n .i32 => some .i32 | .n .i16 => some .i16 | .n .i8 => some .i8
  | .u8 => some .u8 | .u16 => some .u16 | .u32 => some .u32 | .u64 => some .u64
  | _ => none
def okFs (P : Program) (r : TypeId → List Tm → Bool) : List Field → Nat → List Tm → Bool
  | [], _, [] => true
  | f :: fs, off, l => Nat.beq f.offset off && Nat.ble (P.cellsOf f.type) l.length && r f.type (l.take (P.cellsOf f.type)) && okFs P r fs (off + P.cellsOf f.type) (l.drop (P.cellsOf f.type))
  | _, _, _ => false
def okAs (m : Nat) (r : List Tm → Bool) : Nat → List Tm → Bool
  | 0, [] => true
  | n + 1, l => Nat.ble m l.length && r (l.take m) && okAs m r n (l.drop m)
  | _, _ => false
/-- A type's cells are such as these. -/
def okTy (P : Program) (tb : Tab T) : Nat → TypeId → List Tm → Bool
  | 0, _, _ => false
  | n + 1, t, l =>
    match P.underlying t with
    | some .bool => (match l with | [.b] => true | _ => false)
    | some (.int k) => (match l with | [a] => (match tmK a with | some k' => decide (k' = k) | none => false) | _ => false)
    | some .string => (match l with | [.s] => true | _ => false)
    | some (.slice e) => (match l with
      | [.bs] => (match P.underlying e with | some (.int .u8) => Nat.beq (P.cellsOf e) 1 | _ => false)
      | [.sl k] => Nat.beq (P.cellsOf e) (tb.sz k) && Nat.blt 0 (P.cellsOf e) && okTy P tb n e (tb.sh k)
      | _ => false)
    | some (.struct fs) => Nat.beq (P.cellsOf t) l.length && okFs P (okTy P tb n) fs.toList 0 l
    | some (.array m e) => Nat.beq (P.cellsOf t) l.length && okAs (P.cellsOf e) (okTy P tb n e) m l
    | _ => false
/-- Sizes. -/
def szA (tb : Tab T) : Nat → (a : Tm) → a.ty T → Prop
  | 0, _, _ => True
  | d + 1, .s, x => List.length (α := UInt8) x ≤ maxLen
  | d + 1, .bs, x => (L (α := UInt8) x).length ≤ maxLen
  | d + 1, .sl k, x => (L (α := T k) x).length ≤ maxLen ∧ ∀ y ∈ L (α := T k) x, szL (szA tb d) (tb.sh k) (tb.un k y)
  | _, _, _ => True
where szL (f : (a : Tm) → a.ty T → Prop) : (l : List Tm) → tyA T l → Prop
  | [], _ => True
  | a :: l, x => f a x.1 ∧ szL f l x.2

abbrev g00 : Gh := ⟨fun _ => 0, fun _ => none⟩
def RepsP (W : World) : List PV → List Value → Prop
  | [], [] => True
  | p :: ps, v :: vs => RepP W.heap.size g00 W p v ∧ RepsP W ps vs
  | _, _ => False
theorem RepsP.len {W : World} : ∀ {ps : List PV} {vs : List Value}, RepsP W ps vs → ps.length = vs.length
  | [], [], _ => rfl
  | [], _ :: _, h => h.elim
  | _ :: _, [], h => h.elim
  | _ :: _, _ :: _, h => by simp [RepsP.len h.2]
theorem RepsP.get {W : World} : ∀ {ps : List PV} {vs : List Value}, RepsP W ps vs → ∀ (i : Nat) (p : PV) (v : Value), ps[i]? = some p → vs[i]? = some v → RepP W.heap.size g00 W p v
  | [], [], _, i, p, v, h, _ => by simp at h
  | [], _ :: _, h, _, _, _, _, _ => h.elim
  | _ :: _, [], h, _, _, _, _, _ => h.elim
  | a :: ps, b :: vs, h, i, p, v, hp, hv => by
    cases i with
    | zero => simp at hp hv; subst hp hv; exact h.1
    | succ i => simp at hp hv; exact RepsP.get h.2 i p v hp hv
theorem RepsP.app {W : World} : ∀ {ps qs : List PV} {vs ws : List Value}, RepsP W ps vs → RepsP W qs ws → RepsP W (ps ++ qs) (vs ++ ws)
  | [], _, [], _, _, h => h
  | [], _, _ :: _, _, h, _ => h.elim
  | _ :: _, _, [], _, h, _ => h.elim
  | _ :: _, _, _ :: _, _, h, k => ⟨h.1, RepsP.app h.2 k⟩
/-- Cells in two parts. -/
theorem join_ty (tb : Tab T) (f : (a : Tm) → a.ty T → Prop) : ∀ (m : Nat) (l : List Tm) (x : tyA T (l.take m)) (y : tyA T (l.drop m)), szA.szL f (l.take m) x → szA.szL f (l.drop m) y →
    ∃ z : tyA T l, pvAL tb l z = pvAL tb (l.take m) x ++ pvAL tb (l.drop m) y ∧ szA.szL f l z
  | 0, l, x, y, hx, hy => ⟨y, rfl, hy⟩
  | m + 1, [], x, y, hx, hy => ⟨(), rfl, trivial⟩
  | m + 1, a :: l, x, y, hx, hy => by
    obtain ⟨z, h1, h2⟩ := join_ty tb f m l x.2 y hx.2 hy
    exact ⟨(x.1, z), by show pvA tb a x.1 :: pvAL tb l z = pvA tb a x.1 :: (pvAL tb (l.take m) x.2 ++ pvAL tb (l.drop m) y); rw [h1], hx.1, h2⟩
theorem list_of {α : Type} {p : Nat → α → Prop} : ∀ (n : Nat), (∀ i, i < n → ∃ x, p i x) → ∃ l : List α, l.length = n ∧ ∀ i x, l[i]? = some x → p i x
  | 0, _ => ⟨[], rfl, fun i x h => by simp at h⟩
  | n + 1, h => by
    obtain ⟨l, h1, h2⟩ := list_of n fun i hi => h i (by omega)
    obtain ⟨x, hx⟩ := h n (by omega)
    refine ⟨l ++ [x], by simp [h1], fun i y hy => ?_⟩
    by_cases hi : i < n
    · rw [List.getElem?_append_left (by omega)] at hy
      exact h2 i y hy
    · rw [List.getElem?_append_right (by omega)] at hy
      have : i = n := by
        have := (List.getElem?_eq_some_iff.1 hy).1
        simp at this; omega
      subst this
      simp [h1] at hy
      subst hy; exact hx
theorem uN_of {k : IntKind} {n : Int} (h : (Lit.int k n).wf = true) : (k = .u8 → ((UInt8.ofNat n.toNat).toNat : Int) = n) ∧ (k = .u16 → ((UInt16.ofNat n.toNat).toNat : Int) = n) ∧ (k = .u32 → ((UInt32.ofNat n.toNat).toNat : Int) = n) ∧ (k = .u64 → ((UInt64.ofNat n.toNat).toNat : Int) = n) := by
  refine ⟨?_, ?_, ?_, ?_⟩ <;> rintro rfl
  · have := bounds_u8 h; simp; omega
  · have := bounds_u16 h; simp; omega
  · have := bounds_u32 h; simp; omega
  · have := bounds_u64 h; simp; omega
section
variable {H : Type} {enc : TypeId × Value → H} {W : World} {spare : Nat → Bool} {held : Bool}
theorem read_int {k : IntKind} {a : Tm} {n : Int} (hk : tmK a = some k) (hw : (Lit.int k n).wf = true) : ∃ x : tyA T [a], RepsP W (pvAL tb [a] x) [.int k n] ∧ ∀ d, szA.szL (szA tb d) [a] x := by
  obtain ⟨h8, h16, h32, h64⟩ := uN_of hw
  cases a with
  | n j => cases j <;> simp [tmK] at hk <;> subst hk <;> exact ⟨(n, ()), ⟨.lit _ rfl, trivial⟩, fun d => ⟨by cases d <;> trivial, trivial⟩⟩
  | u8 => simp [tmK] at hk; subst hk; exact ⟨(UInt8.ofNat n.toNat, ()), ⟨by simp only [pvA]; rw [h8 rfl]; exact .lit _ rfl, trivial⟩, fun d => ⟨by cases d <;> trivial, trivial⟩⟩
  | u16 => simp [tmK] at hk; subst hk; exact ⟨(UInt16.ofNat n.toNat, ()), ⟨by simp only [pvA]; rw [h16 rfl]; exact .lit _ rfl, trivial⟩, fun d => ⟨by cases d <;> trivial, trivial⟩⟩
  | u32 => simp [tmK] at hk; subst hk; exact ⟨(UInt32.ofNat n.toNat, ()), ⟨by simp only [pvA]; rw [h32 rfl]; exact .lit _ rfl, trivial⟩, fun d => ⟨by cases d <;> trivial, trivial⟩⟩
  | u64 => simp [tmK] at hk; subst hk; exact ⟨(UInt64.ofNat n.toNat, ()), ⟨by simp only [pvA]; rw [h64 rfl]; exact .lit _ rfl, trivial⟩, fun d => ⟨by cases d <;> trivial, trivial⟩⟩
  | _ => simp [tmK] at hk
theorem addP (b o i : Nat) : (⟨b, o, none⟩ : Addr).add i = ⟨b, o + i, none⟩ := by unfold Addr.add; split <;> simp_all
/-- The rows of a slice. -/
theorem read_rows {α : Type} {z : Nat} {row : α → List PV} {a : Addr} {len cap : Nat} {l : List α} (hz : 0 < z) (hl : l.length = len) (hcap : len ≤ cap) (hrow : ∀ x, (row x).length = z)
    (hc : ∀ i x, l[i]? = some x → ∃ cs, W.cells? 0 (a.add (i * z)) z = some cs ∧ RepsP W (row x) cs) : RepP W.heap.size g00 W (oP z row (some l)) (.slice (some a) len cap) := by
  simp only [oP]
  cases l with
  | nil => simp at hl; subst hl; exact .none _ _ _
  | cons x0 l0 =>
    have hlen := hl
    -- no spot, and the block is there
    obtain ⟨cs0, h0, r0⟩ := hc 0 x0 rfl
    obtain ⟨_, hl0, hg0⟩ := World.cells?_some h0
    obtain ⟨c0, hc0⟩ : ∃ c0, cs0[0]? = some c0 := by
      cases cs0 with
      | nil => simp at hl0; omega
      | cons c _ => exact ⟨c, rfl⟩
    obtain ⟨b, off, spot⟩ := a
    have g0 := hg0 0 hz
    rw [hc0, Nat.zero_mul] at g0
    have e00 : ((⟨b, off, spot⟩ : Addr).add 0).add 0 = ⟨b, off, spot⟩ := by simp [Addr.add]
    rw [e00] at g0
    have hspot : spot = none := World.cell?_spot g0
    subst hspot
    have hb : b < W.heap.size := by
      have := World.cells?_block h0 hz
      simpa [Addr.add] using this
    subst hl
    have key : ∀ i r j c, ((x0 :: l0).map row)[i]? = some r → r[j]? = some c → ∃ u, W.cell? ⟨b, off + (i * z + j), none⟩ = some u ∧ RepP W.heap.size g00 W c u := by
      intro i r j c hi hj
      rw [List.getElem?_map] at hi
      cases hx : (x0 :: l0)[i]? with
      | none => rw [hx] at hi; cases hi
      | some x =>
        rw [hx] at hi
        simp only [Option.map_some, Option.some.injEq] at hi
        subst hi
        obtain ⟨cs, h1, h2⟩ := hc i x hx
        obtain ⟨_, hl1, hg1⟩ := World.cells?_some h1
        have hj' : j < z := by rw [← hrow x]; exact (List.getElem?_eq_some_iff.1 hj).1
        have := hg1 j hj'
        rw [addP, addP] at this
        have hjc : j < cs.length := by omega
        refine ⟨cs[j], ?_, RepsP.get h2 j c _ hj (by simp [hjc])⟩
        rw [show off + (i * z + j) = off + i * z + j by omega, this]
        simp [hjc]
    have fin : RepP W.heap.size g00 W (.sl z ((x0 :: l0).map row)) (.slice (some ⟨b, off, none⟩) ((x0 :: l0).map row).length cap) := by
      refine RepP.sl z _ b off cap (fun i j => (W.cell? ⟨b, off + (i * z + j), none⟩).getD undef) ?_ (fun o _ _ => .inl hb) hb (by simpa using hcap) ?_ ?_
      · intro r hr
        simp only [List.mem_map] at hr
        obtain ⟨x, _, rfl⟩ := hr
        exact hrow x
      · intro i r j c hi hj
        obtain ⟨u, h1, _⟩ := key i r j c hi hj
        rw [h1]; rfl
      · intro i r j c hi hj
        obtain ⟨u, h1, h2⟩ := key i r j c hi hj
        simp only [h1, Option.getD_some]; exact h2
    rw [List.length_map] at fin
    exact fin
theorem read_fs {r : TypeId → List Tm → Bool} {q : TypeId → List Value → Prop} {d : Nat} (hr : ∀ t l cs, r t l = true → q t cs → ∃ x : tyA T l, RepsP W (pvAL tb l x) cs ∧ szA.szL (szA tb d) l x) : ∀ (fs : List Field) (off : Nat) (l : List Tm) (cs : List Value),
    okFs P r fs off l = true → cs.length = off + l.length → (∀ f ∈ fs, q f.type ((cs.drop f.offset).take (P.cellsOf f.type))) → ∃ x : tyA T l, RepsP W (pvAL tb l x) (cs.drop off) ∧ szA.szL (szA tb d) l x
  | [], off, [], cs, _, hl, _ => by
    simp at hl
    exact ⟨(), by rw [List.drop_of_length_le (by omega)]; trivial, trivial⟩
  | [], off, _ :: _, cs, h, _, _ => by cases h
  | f :: fs, off, l, cs, h, hl, hq => by
    simp only [okFs, Bool.and_eq_true] at h
    obtain ⟨⟨⟨h1, h2⟩, h3⟩, h4⟩ := h
    have e1 := Nat.eq_of_beq_eq_true h1
    have e2 := Nat.le_of_ble_eq_true h2
    obtain ⟨x, hx, sx⟩ := hr _ _ _ h3 (hq f List.mem_cons_self)
    obtain ⟨y, hy, sy⟩ := read_fs hr fs (off + P.cellsOf f.type) (l.drop (P.cellsOf f.type)) cs h4 (by simp; omega) (fun g hg => hq g (List.mem_cons_of_mem _ hg))
    obtain ⟨z, hz, sz⟩ := join_ty tb _ _ l x y sx sy
    refine ⟨z, ?_, sz⟩
    rw [hz]
    have : cs.drop off = (cs.drop f.offset).take (P.cellsOf f.type) ++ cs.drop (off + P.cellsOf f.type) := by
      rw [e1, ← List.drop_drop, List.take_append_drop]
    rw [this]
    exact hx.app hy
theorem read_as {r : List Tm → Bool} {q : List Value → Prop} {d m : Nat} (hr : ∀ l cs, r l = true → q cs → ∃ x : tyA T l, RepsP W (pvAL tb l x) cs ∧ szA.szL (szA tb d) l x) : ∀ (n i : Nat) (l : List Tm) (cs : List Value),
    okAs m r n l = true → cs.length = i * m + l.length → (∀ j, j < i + n → q ((cs.drop (j * m)).take m)) → ∃ x : tyA T l, RepsP W (pvAL tb l x) (cs.drop (i * m)) ∧ szA.szL (szA tb d) l x
  | 0, i, [], cs, _, hl, _ => by
    simp at hl
    exact ⟨(), by rw [List.drop_of_length_le (by omega)]; trivial, trivial⟩
  | 0, i, _ :: _, cs, h, _, _ => by cases h
  | n + 1, i, l, cs, h, hl, hq => by
    simp only [okAs, Bool.and_eq_true] at h
    obtain ⟨⟨h2, h3⟩, h4⟩ := h
    have e2 := Nat.le_of_ble_eq_true h2
    obtain ⟨x, hx, sx⟩ := hr _ _ h3 (hq i (by omega))
    have em : (i + 1) * m = i * m + m := by rw [Nat.add_mul]; omega
    obtain ⟨y, hy, sy⟩ := read_as hr n (i + 1) (l.drop m) cs h4 (by simp; rw [em]; omega) (fun j hj => hq j (by omega))
    obtain ⟨z, hz, sz⟩ := join_ty tb _ _ l x y sx sy
    refine ⟨z, ?_, sz⟩
    rw [hz]
    have : cs.drop (i * m) = (cs.drop (i * m)).take m ++ cs.drop ((i + 1) * m) := by
      rw [em, ← List.drop_drop, List.take_append_drop]
    rw [this]
    exact hx.app hy
/-- What is read as data is a typed word. -/
theorem read_ty (ok : tb.Ok) {d : Nat} : ∀ (n : Nat) (d : Nat) (t : TypeId) (l : List Tm) (fuel : Nat) (cs : List Value) (y : DataW H × List MemPlace), okTy P tb n t l = true → DataW.trod enc P W 0 spare held fuel t cs = some y →
    ∃ x : tyA T l, RepsP W (pvAL tb l x) cs ∧ szA.szL (szA tb d) l x := by
  intro n
  induction n with
  | zero => intro d t l fuel cs y h; cases h
  | succ n ih =>
    intro d t l fuel cs y h hd
    simp only [okTy] at h
    cases hu : P.underlying t with
    | none => rw [hu] at h; cases h
    | some u =>
      rw [hu] at h
      cases u with
      | bool =>
        simp only at h
        split at h
        · obtain ⟨b, rfl, _⟩ := DataW.trod_bool hu hd
          exact ⟨(b, ()), ⟨.lit _ rfl, trivial⟩, ⟨by cases d <;> trivial, trivial⟩⟩
        · cases h
      | int k =>
        simp only at h
        split at h
        · split at h
          · rename_i a k' hk
            have := of_decide_eq_true h
            subst this
            obtain ⟨m, rfl, _, hw⟩ := DataW.trod_int hu hd
            obtain ⟨x, h1, h2⟩ := read_int (tb := tb) (W := W) hk hw
            exact ⟨x, h1, h2 d⟩
          · cases h
        · cases h
      | string =>
        simp only at h
        split at h
        · obtain ⟨s, rfl, _, hs⟩ := DataW.trod_string hu hd
          refine ⟨(s.data.toList, ()), ⟨.lit _ rfl, trivial⟩, ⟨?_, trivial⟩⟩
          cases d with
          | zero => trivial
          | succ d =>
            show s.data.toList.length ≤ maxLen
            rw [Array.length_toList]; exact hs
        · cases h
      | slice e =>
        simp only at h
        split at h
        · -- bytes
          split at h
          · rename_i he
            have hc := Nat.eq_of_beq_eq_true h
            rcases DataW.trod_slice hu hd with ⟨rfl, _⟩ | ⟨a, len, cap, elems, rest, m, _, rfl, _, hb, hlc, hcm, hel, hget, _⟩
            · exact ⟨(none, ()), ⟨.lit _ rfl, trivial⟩, ⟨by
                cases d with
                | zero => trivial
                | succ d => exact Nat.zero_le _, trivial⟩⟩
            · rw [hc] at hget
              have hx : ∀ i, i < len → ∃ b : UInt8, ∃ cs, W.cells? 0 (a.add (i * 1)) 1 = some cs ∧ RepsP W (byteRow b) cs := by
                intro i hi
                have hg := hget i hi
                have hlt : i < elems.length := by omega
                rw [List.getElem?_eq_getElem hlt] at hg
                obtain ⟨cs, h1, h2⟩ := Option.bind_eq_some_iff.1 hg
                obtain ⟨z, rfl, _, hw⟩ := DataW.trod_int he h2
                refine ⟨UInt8.ofNat z.toNat, _, h1, ?_, trivial⟩
                show RepP _ _ _ (.lit (.int .u8 ((UInt8.ofNat z.toNat).toNat : Int))) _
                rw [(uN_of hw).1 rfl]; exact .lit _ rfl
              obtain ⟨xs, hl, hxs⟩ := list_of len hx
              refine ⟨(some xs, ()), ⟨read_rows (by omega) hl hlc (fun _ => rfl) hxs, trivial⟩, ⟨?_, trivial⟩⟩
              cases d with
              | zero => trivial
              | succ d =>
                show xs.length ≤ maxLen
                omega
          · cases h
        · -- others
          rename_i k
          simp only [Bool.and_eq_true] at h
          obtain ⟨⟨hc, hp⟩, he⟩ := h
          have hc := Nat.eq_of_beq_eq_true hc
          have hp : 0 < P.cellsOf e := Nat.le_of_ble_eq_true hp
          rcases DataW.trod_slice hu hd with ⟨rfl, _⟩ | ⟨a, len, cap, elems, rest, m, _, rfl, _, hb, hlc, hcm, hel, hget, _⟩
          · refine ⟨(none, ()), ⟨.lit _ rfl, trivial⟩, ⟨?_, trivial⟩⟩
            cases d with
            | zero => trivial
            | succ d => exact ⟨by simp [L], fun y hy => by simp [L] at hy⟩
          · rw [hc] at hget hp
            have hx : ∀ i, i < len → ∃ x : T k, (∃ cs, W.cells? 0 (a.add (i * tb.sz k)) (tb.sz k) = some cs ∧ RepsP W (tb.prow k x) cs) ∧ szA.szL (szA tb (d - 1)) (tb.sh k) (tb.un k x) := by
              intro i hi
              have hg := hget i hi
              have hlt : i < elems.length := by omega
              rw [List.getElem?_eq_getElem hlt] at hg
              obtain ⟨cs, h1, h2⟩ := Option.bind_eq_some_iff.1 hg
              obtain ⟨x, h3, h4⟩ := ih (d - 1) e (tb.sh k) m cs _ he h2
              refine ⟨tb.bk k x, ⟨cs, h1, ?_⟩, ?_⟩
              · rw [ok.row, ok.um]; exact h3
              · rw [ok.um]; exact h4
            obtain ⟨xs, hl, hxs⟩ := list_of len hx
            refine ⟨(some xs, ()), ⟨read_rows hp hl hlc (prow_sz ok k) fun i x hix => (hxs i x hix).1, trivial⟩, ⟨?_, trivial⟩⟩
            cases d with
            | zero => trivial
            | succ d =>
              refine ⟨by simp only [L, Option.getD_some]; omega, fun y hy => ?_⟩
              simp only [L, Option.getD_some] at hy
              obtain ⟨i, hi⟩ := List.getElem?_of_mem hy
              exact (hxs i y hi).2
        · cases h
      | struct fs =>
        simp only [Bool.and_eq_true] at h
        obtain ⟨hc, hf⟩ := h
        have hc := Nat.eq_of_beq_eq_true hc
        obtain ⟨xs, m, _, _, hl, hxl, hget⟩ := DataW.trod_struct hu hd
        obtain ⟨x, h1, h2⟩ := read_fs (tb := tb) (W := W) (d := d) (q := fun t cs => ∃ fuel y, DataW.trod enc P W 0 spare held fuel t cs = some y) (fun t l cs hr ⟨fuel, y, hy⟩ => ih d t l fuel cs y hr hy) fs.toList 0 l cs hf (by omega) (by
          intro f hf
          obtain ⟨i, hi⟩ := List.getElem?_of_mem hf
          have := hget i f (by simpa using hi)
          have hlt : i < xs.length := by
            have := (List.getElem?_eq_some_iff.1 hi).1
            simp at this; omega
          exact ⟨m, xs[i], by rw [this]; simp [hlt]⟩)
        exact ⟨x, h1, h2⟩
      | array m e =>
        simp only [Bool.and_eq_true] at h
        obtain ⟨hc, hf⟩ := h
        have hc := Nat.eq_of_beq_eq_true hc
        cases fuel with
        | zero => simp [DataW.trod] at hd
        | succ fu =>
          unfold DataW.trod at hd
          rw [hu] at hd
          have hd2 : (if cs.length = P.cellsOf t then ((List.range m).mapM fun i => DataW.trod enc P W 0 spare held fu e ((cs.drop (i * P.cellsOf e)).take (P.cellsOf e))).map fun xs => ((.agg (xs.map (·.1)), xs.flatMap (·.2)) : DataW H × List MemPlace) else none) = some y := by
            cases cs with
            | nil => exact hd
            | cons v cs => cases cs with
              | nil => cases v <;> first | exact hd | (rename_i o; cases o <;> exact hd)
              | cons => exact hd
          split at hd2
          · rename_i hl
            obtain ⟨xs, hm, _⟩ := Option.map_eq_some_iff.1 hd2
            obtain ⟨x, h1, h2⟩ := read_as (tb := tb) (W := W) (d := d) (q := fun cs => ∃ fuel y, DataW.trod enc P W 0 spare held fuel e cs = some y) (fun l cs hr ⟨fuel, y, hy⟩ => ih d e l fuel cs y hr hy) m 0 l cs hf (by rw [Nat.zero_mul]; omega) (by
              intro j hj
              have hxl := mapM_some_length hm
              simp at hxl
              have := mapM_some_get hm j j (List.getElem?_range (by omega))
              exact ⟨fu, xs[j]'(by omega), by rw [this]; simp [show j < xs.length by omega]⟩)
            rw [Nat.zero_mul] at h1
            exact ⟨x, h1, h2⟩
          · cases hd2
      | _ => cases h
end
def isAggT (P : Program) (t : TypeId) : Bool :=
  match P.underlying t with
  | some (.struct _) => true
  | some (.array _ _) => true
  | _ => false
def okArg (P : Program) (tb : Tab T) (n : Nat) (t : TypeId) : Sh → Bool
  | .g (.f (.a a)) => !isAggT P t && okTy P tb n t [a]
  | .g (.st k) => isAggT P t && okTy P tb n t (tb.sh k)
  | _ => false
def okArgs (P : Program) (tb : Tab T) (n : Nat) : List TypeId → List Sh → Bool
  | [], [] => true
  | t :: ts, s :: ss => okArg P tb n t s && okArgs P tb n ts ss
  | _, _ => false
def szSh (tb : Tab T) (d : Nat) : (s : Sh) → s.ty T → Prop
  | .g (.f (.a a)), x => szA tb d a x
  | .g (.st k), x => szA.szL (szA tb d) (tb.sh k) (tb.un k x)
  | _, _ => True
def szArgs (tb : Tab T) (d : Nat) : (l : List Sh) → tyL T l → Prop
  | [], _ => True
  | s :: l, x => szSh tb d s x.1 ∧ szArgs tb d l x.2
theorem notAgg_cells {W : World} {r : Reach} {b : Nat} {t : TypeId} {v : Value} {a : Tm} {n : Nat} (h : isAggT P t = false) (ht : okTy P tb n t [a] = true) (hv : Value.okWide P W r b t v) : v.cells.toList = [v] := by
  cases n with
  | zero => cases ht
  | succ n =>
    simp only [okTy] at ht
    simp only [isAggT] at h
    simp only [Value.okWide] at hv
    cases hu : P.underlying t with
    | none => rw [hu] at ht; cases ht
    | some u =>
      rw [hu] at ht h hv
      cases u with
      | struct fs => simp at h
      | array m e => simp at h
      | bool =>
        simp only [Cell.okWide, hu] at hv
        cases v <;> simp_all [Cell.ok, Value.cells]
      | int k =>
        simp only [Cell.okWide, hu] at hv
        cases v <;> simp_all [Cell.ok, Value.cells]
      | string =>
        simp only [Cell.okWide, hu] at hv
        cases v <;> simp_all [Cell.ok, Value.cells]
      | slice e =>
        simp only [Cell.okWide, hu] at hv
        cases v <;> simp_all [Cell.ok, Value.cells]
      | _ => cases ht
theorem agg_cells {W : World} {r : Reach} {b : Nat} {t : TypeId} {v : Value} (h : isAggT P t = true) (hv : Value.okWide P W r b t v) : ∃ cs, v = .agg cs := by
  simp only [isAggT] at h
  simp only [Value.okWide] at hv
  split at h
  · rename_i hu; rw [hu] at hv; obtain ⟨cs, h1, _⟩ := hv; exact ⟨cs, h1⟩
  · rename_i hu; rw [hu] at hv; obtain ⟨cs, h1, _⟩ := hv; exact ⟨cs, h1⟩
  · cases h
section
variable {H : Type} {enc : TypeId × Value → H} {W : World} {spare : Nat → Bool} {held : Bool}
theorem read_arg (ok : tb.Ok) {n d : Nat} {r : Reach} {b : Nat} {t : TypeId} {s : Sh} {v : Value} {dd : DataW H} {ps : List MemPlace} {l : Loc} (h : okArg P tb n t s = true) (hv : Value.okWide P W r b t v) (hd : DataW.Trod enc P W 0 spare held t v dd ps) :
    ∃ x : s.ty T, RepA W.heap.size 0 (fun i => i) g00 W l (av tb (inj tb s x)) v ∧ szSh tb d s x := by
  unfold okArg at h
  split at h
  · rename_i a
    simp only [Bool.and_eq_true, Bool.not_eq_true'] at h
    obtain ⟨fuel, hd⟩ := hd
    rw [notAgg_cells h.1 h.2 hv] at hd
    obtain ⟨x, h1, h2⟩ := read_ty (tb := tb) (W := W) ok (d := d) n d t [a] fuel _ _ h.2 hd
    refine ⟨x.1, ?_, h2.1⟩
    have e : av tb (inj tb (.g (.f (.a a))) x.1) = .pv (pvA tb a x.1) := inj_av a x.1
    rw [e]
    exact .b _ _ (.c _ _ (.zero _ _ (.pv _ _ h1.1)))
  · rename_i k
    simp only [Bool.and_eq_true] at h
    obtain ⟨cs, rfl⟩ := agg_cells h.1 hv
    obtain ⟨fuel, hd⟩ := hd
    have e0 : (Value.agg cs).cells.toList = cs.toList := rfl
    rw [e0] at hd
    obtain ⟨x, h1, h2⟩ := read_ty (tb := tb) (W := W) ok (d := d) n d t (tb.sh k) fuel _ _ h.2 hd
    refine ⟨tb.bk k x, ?_, by show szA.szL (szA tb d) (tb.sh k) (tb.un k (tb.bk k x)); rw [ok.um]; exact h2⟩
    have e : av tb (inj tb (.g (.st k)) (tb.bk k x)) = .agg ((tb.prow k (tb.bk k x)).map AV.pv) := by
      show AV.agg (avL tb (tb.rw k (tb.bk k x))) = _
      rw [rw_av ok]
    rw [e, ok.row, ok.um]
    refine .b _ _ (.agg _ _ (by rw [List.length_map, h1.len]; simp) (fun i a v p q => ?_) (fun v hv => ?_))
    · rw [List.getElem?_map] at p
      cases hp : (pvAL tb (tb.sh k) x)[i]? with
      | none => rw [hp] at p; cases p
      | some c =>
        rw [hp] at p
        simp only [Option.map_some, Option.some.injEq] at p
        subst p
        exact .zero _ _ (.pv _ _ (h1.get i c v hp (by simpa using q)))
    · obtain ⟨i, hi⟩ := List.getElem?_of_mem (Array.mem_toList_iff.2 hv)
      have hlt : i < (pvAL tb (tb.sh k) x).length := by
        rw [h1.len]; exact (List.getElem?_eq_some_iff.1 hi).1
      exact (h1.get i _ v (List.getElem?_eq_getElem hlt) hi).one
  · cases h
theorem read_args (ok : tb.Ok) {n d : Nat} {r : Reach} {b : Nat} : ∀ {ts : List TypeId} {ss : List Sh} {vs : List Value} {ds : List (DataW H)} {ps : List MemPlace} (k : Nat), okArgs P tb n ts ss = true → (∀ (j : Nat) t v, ts[j]? = some t → vs[j]? = some v → Value.okWide P W r b t v) →
    DataW.TrodAll enc P W 0 spare held ts vs ds ps → ∃ x : tyL T ss, vs.length = ss.length ∧ szArgs tb d ss x ∧ ∀ (i : Nat) (a : AV) (v : Value), (avL tb (injL tb ss x))[i]? = some a → vs[i]? = some v → RepA W.heap.size 0 (fun i => i) g00 W (.env (k + i)) a v
  | [], [], vs, ds, ps, k, _, _, h => by
    obtain ⟨rfl, _, _⟩ := Go.ChangeShapes.trodAll_nil h
    exact ⟨(), rfl, trivial, fun i a v p => by simp [injL, avL] at p⟩
  | [], _ :: _, _, _, _, _, h, _, _ => by cases h
  | _ :: _, [], _, _, _, _, h, _, _ => by cases h
  | t :: ts, s :: ss, vs, ds, ps, k, h, hv, hd => by
    simp only [okArgs, Bool.and_eq_true] at h
    obtain ⟨v, vs1, d1, ds1, a, b1, rfl, rfl, rfl, h1, h2⟩ := Go.ChangeShapes.trodAll_cons hd
    obtain ⟨x, hx, sx⟩ := read_arg (tb := tb) (d := d) (l := .env (k + 0)) ok h.1 (hv 0 t v rfl rfl) h1
    obtain ⟨y, hl, sy, hy⟩ := read_args ok (k + 1) h.2 (fun j t v p q => hv (j + 1) t v (by simpa using p) (by simpa using q)) h2
    refine ⟨(x, y), by simp [hl], ⟨sx, sy⟩, fun i a v p q => ?_⟩
    cases i with
    | zero => simp [injL, avL] at p q; subst p q; exact hx
    | succ i =>
      simp only [injL, avL, List.getElem?_cons_succ] at p q
      have := hy i a v p q
      rwa [show k + 1 + i = k + (i + 1) by omega] at this
end
theorem trodAll_below {H : Type} {enc : TypeId × Value → H} {W W' : World} (hl : laidOutB P = true) (hb : Below W.heap.size W W') : ∀ {ts : List TypeId} {vs : List Value} {ds : List (DataW H)} {ps : List MemPlace}, (ts.all fun t => P.readableRec t && decide (t < P.types.size)) = true →
    DataW.TrodAll enc P W 0 (fun _ => true) true ts vs ds ps → (∀ x ∈ ps, x.block < W.heap.size) → DataW.TrodAll enc P W' 0 (fun b => decide (b < W.heap.size)) true ts vs ds ps
  | [], vs, ds, ps, _, h, _ => by
    obtain ⟨rfl, rfl, rfl⟩ := Go.ChangeShapes.trodAll_nil h
    rfl
  | t :: ts, vs, ds, ps, hr, h, hlt => by
    simp only [List.all_cons, Bool.and_eq_true] at hr
    obtain ⟨v, vs1, d1, ds1, a, b1, rfl, rfl, rfl, h1, h2⟩ := Go.ChangeShapes.trodAll_cons h
    exact ⟨a, b1, Below.trod hl hr.1.1 (of_decide_eq_true hr.1.2) h1 hb (fun x hx => hlt x (by simp [hx])), trodAll_below hl hb hr.2 h2 (fun x hx => hlt x (by simp [hx])), rfl⟩
theorem trodAll_len {H : Type} {enc : TypeId × Value → H} {W : World} {b : Nat} {sp : Nat → Bool} {hd : Bool} : ∀ {ts : List TypeId} {vs : List Value} {ds : List (DataW H)} {ps : List MemPlace}, DataW.TrodAll enc P W b sp hd ts vs ds ps → ds.length = ts.length
  | [], vs, ds, ps, h => by obtain ⟨_, rfl, _⟩ := Go.ChangeShapes.trodAll_nil h; rfl
  | t :: ts, vs, ds, ps, h => by
    obtain ⟨v, vs1, d1, ds1, a, b1, rfl, rfl, rfl, h1, h2⟩ := Go.ChangeShapes.trodAll_cons h
    simp [trodAll_len h2]
/-- A law, lifted. -/
theorem law_lifted {C : Checked} {os : Os} {f : FuncId} {fn : Func} {s : ChangeSpec} {conds : List PathCond} {H : Type} {enc : TypeId × Value → H} {T : Nat → Type} {tb : Tab T} {sa : List Sh} {n d : Nat} {tr : TypeId} (ok : tb.Ok)
    (own : ownKnob C.prog.godebug = none) (started : os.Started) (noInit : C.prog.inits.idxOf? f = none) (hfn : C.prog.funcs[f]? = some fn)
    (witness : ∃ (w : World) (tape : Tape) (i : Input), w.os = os ∧ (w.forCall tape i).Shaped C.prog ∧ i.vars = [] ∧ Input.okWide C.prog (w.forCall tape i) .any w.heap.size f i ∧
      s.pre6 enc C.prog fn conds false (w.forCall tape i).memory i.args ∧ ({} : Assume).holds C.prog (lone (Frame.enter C.prog f i.args .normal) [] (w.forCall tape i)))
    (hvars : s.vars = []) (hspec : ∀ ds : List (DataW H), ds.length = fn.params.toList.length → s.fn H ds = { results := [.lit (.bool true)], args := ds }) (hres : fn.resultTypes = #[tr]) (htr : C.prog.underlying tr = some .bool)
    (hlaid : laidOutB C.prog = true) (hread : (fn.params.toList.all fun t => C.prog.readableRec t && decide (t < C.prog.types.size)) = true) (hok : okArgs C.prog tb n fn.params.toList sa = true)
    (hgood : ∀ x : tyL T sa, szArgs tb d sa x → Fun C.prog (fun _ => True) f (avL tb (injL tb sa x)) [] (.b true) []) :
    ReturnsInHanded {} C os f .any (s.pre6 enc C.prog fn conds false) (s.post enc C.prog fn false true false false) := by
  refine returnsInHanded_of_change_sized (C := C) own started noInit hfn witness ?_
  intro W base args ds gs before hval hW hcnd hsz _
  have hW' := hW
  obtain ⟨p, q, hA, hV, rfl, hfz, hnd⟩ := hW
  rw [hvars] at hV
  obtain ⟨rfl, rfl⟩ := Go.ChangeShapes.trodVars_none hV
  obtain ⟨x, hl, sx, hx⟩ := read_args (tb := tb) (d := d) (n := n) ok 0 hok (fun j t v p q => hval j t v (by simpa using p) (by simpa using q)) hA
  have hc := (hgood x sx).calls (vs := args.toList) (W := W) (by
    rw [hl, len_av]
    have : ∀ (l : List Sh) (x : tyL T l), (injL tb l x).length = l.length := by
      intro l; induction l with
      | nil => intro x; rfl
      | cons a l ih => intro x; simp [injL, ih]
    exact (this _ _).symm) (fun i a v p q => by have := hx i a v p q; rwa [Nat.zero_add] at this)
  rw [Array.toArray_toList] at hc
  refine hc.mono fun e W' ⟨he, bel⟩ => ?_
  subst he
  have hdl := trodAll_len hA
  have es : s.fn H (ds ++ []) = { results := [.lit (.bool true)], args := ds } := by rw [List.append_nil]; exact hspec ds hdl
  refine ⟨_, rfl, ds, [], _, [], p, [], hW', ?_, ?_, ?_, bel.frame _, fun h => by cases h⟩
  · rw [es, hres]
    exact Go.ChangeShapes.trodAll_mk1 (shut_bool htr _)
  · rw [es]
    exact trodAll_below hlaid bel hread hA (fun x hx => by
      have := hW'.lt x (by simp [hx])
      exact this)
  · rw [es, hvars]; rfl
end Go.Rv
namespace Go.Rv
open Go.RowKit
variable {T : Nat → Type} {tb : Tab T} {P : Program}
/-- A law's word that says true. -/
theorem law_good {f : Nat} {o : Orc T} (h : o.Ok P (fun _ => True) tb f) {sa : List Sh} (x : tyL T sa) (hr : o.run (injL tb sa x) [] (fun r H => some (r, H)) = some (.b true, [])) : Fun P (fun _ => True) f (avL tb (injL tb sa x)) [] (.b true) [] := by
  obtain ⟨r, H', h1, _, h3⟩ := h.snd _ _ _ _ hr
  simp only [Option.some.injEq, Prod.mk.injEq] at h3
  obtain ⟨rfl, rfl⟩ := h3
  exact ⟨h.en, h1⟩
theorem iter_run {σ α : Type} {step : σ → Option (σ ⊕ α)} {s : σ} (n : Nat) (h : (iterN step n s).isSome = true) : iter step s = iterN step n s := by
  cases hn : iterN step n s with
  | none => rw [hn] at h; cases h
  | some a => exact N_iter hn
end Go.Rv
