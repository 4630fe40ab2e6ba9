/- Plain laws. -/
import Derived.Test.YtlmnicmjhcblcaaGreatDoorWalk
import Derived.Lib.ValidLaws
import Derived.Lib.TrimUEq
import Derived.Lib.RuneCount
import Derived.Lib.SplitLaws
import Derived.Lib.IndexAny
set_option linter.unusedSimpArgs false
set_option linter.unusedVariables false
set_option maxRecDepth 100000
namespace Go.Rv
open Go.Lib
-- numbers (as in Lib1)
theorem xv1 {x : Int} (h0 : -9223372036854775808 ≤ x) (h1 : x ≤ 9223372036854775807) : w64 x = x := by
  show IntKind.i64.wrap x = x
  rw [IntKind.wrap_i64]; omega
theorem xv7 {α : Type} {l : List α} {i : Nat} : ix l (i : Int) = l[i]? := by simp [ix]
end Go.Rv
namespace Go.Rv
open Go.Lib
end Go.Rv
namespace Go.Rv
open Go.Lib
theorem xv79 : ∀ (l : List UInt8) (c : UInt8), -1 ≤ indexByte l c ∧ (0 ≤ indexByte l c ↔ c ∈ l)
  | [], c => by simp [indexByte]
  | b :: l, c => by
    obtain ⟨h1, h2⟩ := xv79 l c
    simp only [indexByte]
    by_cases hb : b = c
    . subst hb; simp
    . have e1 : (b == c) = false := by simpa using hb
      have e2 : c ∈ b :: l ↔ c ∈ l := by
        rw [List.mem_cons]
        exact ⟨fun h => h.resolve_left (fun e => hb e.symm), Or.inr⟩
      rw [e1, e2, ← h2]
      simp only [Bool.false_eq_true, if_false]
      by_cases hi : indexByte l c = -1
      . rw [hi]; simp
      . have e3 : (indexByte l c == -1) = false := by simpa using hi
        rw [e3]
        simp only [Bool.false_eq_true, if_false]
        omega
def good (l : List UInt8) : Bool := validD l && !decide ((0 : UInt8) ∈ l)
theorem xv58 (s : List UInt8) : fn85 s = some (decide (s.length ≤ 65535) && good s) := by
  simp only [fn85, good]
  by_cases h : s.length ≤ 65535
  . rw [if_pos (by simpa using by omega)]
    simp only [fn23]
    rw [if_pos (by omega), Option.bind_some]
    cases hv : validD s with
    | false => simp
    | true =>
      rw [if_pos rfl]
      simp only [fn24, Option.bind_some]
      have := (xv79 s 0).2
      by_cases h0 : (0 : UInt8) ∈ s
      . simp [h0, this.2 h0, h]
      . simp [h0, mt this.1 h0, h]
  . rw [if_neg (by simpa using by omega)]
    simp [h]
end Go.Rv
namespace Go.Rv
theorem xv117 {α : Type} {l : List α} {a b : Nat} (h1 : a ≤ b) (h2 : b ≤ l.length) : slc l (a : Int) (b : Int) = some ((l.take b).drop a) := by
  simp only [slc, Int.toNat_natCast]
  rw [if_pos ⟨by omega, by omega, by omega⟩]
theorem xv12 (s : List UInt8) (h : s.length ≤ 9000) : fn85 s = some (good s) := by
  rw [xv58, decide_eq_true (by omega), Bool.true_and]
-- ---------- numbers ----------
theorem xv120 {n : Nat} (h : n ≤ 9223372036854775807) : w64 (n : Int) = n := xv1 (by omega) (by omega)
theorem u8_toNat' {x : Int} : (u8 x).toNat = (x % 256).toNat := by
  have := yv497 x; omega
theorem u16_toNat' {x : Int} : (u16 x).toNat = (x % 65536).toNat := by
  simp only [u16, UInt16.toNat_ofNat']
  have h := Int.emod_lt_of_pos x (show (0 : Int) < 65536 by decide)
  omega
theorem u32_toNat' {x : Int} : (u32 x).toNat = (x % 4294967296).toNat := by
  simp only [u32, UInt32.toNat_ofNat']
  have h := Int.emod_lt_of_pos x (show (0 : Int) < 4294967296 by decide)
  omega
theorem xv29 {a : UInt32} {y : Nat} (hy : y ≤ 32) : (yv485 a (y : Int)).toNat = a.toNat / 2 ^ y := by
  simp only [yv485, u32_toNat', Int.toNat_natCast, Nat.min_eq_left hy]
  have : ((a.toNat : Int) / 2 ^ y) = ((a.toNat / 2 ^ y : Nat) : Int) := by simp
  rw [this]
  have h := a.toNat_lt
  have : a.toNat / 2 ^ y ≤ a.toNat := Nat.div_le_self _ _
  generalize a.toNat / 2 ^ y = q at this ⊢
  omega
theorem xv66 {a : UInt16} {y : Nat} (hy : y ≤ 16) : (yv484 a (y : Int)).toNat = a.toNat / 2 ^ y := by
  simp only [yv484, u16_toNat', Int.toNat_natCast, Nat.min_eq_left hy]
  have : ((a.toNat : Int) / 2 ^ y) = ((a.toNat / 2 ^ y : Nat) : Int) := by simp
  rw [this]
  have h := a.toNat_lt
  have : a.toNat / 2 ^ y ≤ a.toNat := Nat.div_le_self _ _
  generalize a.toNat / 2 ^ y = q at this ⊢
  omega
theorem hi7 (c : UInt8) : (c ||| (128 : UInt8)).toNat = c.toNat % 128 + 128 := by
  have h : ∀ n : Fin 256, ((UInt8.ofNat n.val) ||| (128 : UInt8)).toNat = n.val % 128 + 128 := by decide +kernel
  have := h ⟨c.toNat, c.toNat_lt⟩
  simpa using this
theorem eq8 {c d : UInt8} : c = d ↔ c.toNat = d.toNat := ⟨fun h => by rw [h], fun h => UInt8.toNat_inj.1 h⟩
theorem chk_d {p : Prop} [Decidable p] (h : p) : chk (decide p) = some () := by simp [chk, h]
theorem xv147 {α : Type} {l : List α} {a : Nat} (h : a ≤ l.length) : slc l (a : Int) (l.length : Int) = some (l.drop a) := by
  rw [xv117 h (Nat.le_refl _), List.take_length]
theorem xv16 {α : Type} {n : Nat} {x : List α} {y : Option (List α)} (h1 : (x.length + (L y).length) * n ≤ room) (h2 : x.length + (L y).length ≤ room) : appO n (some x) y = some (some (x ++ L y)) := by
  simp only [appO]
  rw [if_pos ⟨h1, h2⟩]
theorem xv71 {α : Type} {n : Nat} {a : α} {l : List α} (h1 : (l.length + 1) * n ≤ room) (h2 : l.length + 1 ≤ room) : appO n none (some (a :: l)) = some (some (a :: l)) := by
  simp only [appO, L, Option.getD_some]
  rw [if_pos ⟨h1, h2⟩]
theorem xv70 {α : Type} {n : Nat} {x : Option (List α)} {a : α} {l : List α} (h1 : ((L x).length + l.length + 1) * n ≤ room) (h2 : (L x).length + l.length + 1 ≤ room) : appO n x (some (a :: l)) = some (some (L x ++ a :: l)) := by
  cases x with
  | none => simp only [L, Option.getD_none, List.length_nil, Nat.zero_add, List.nil_append] at h1 h2 ⊢; exact xv71 h1 h2
  | some x => exact xv16 (y := some (a :: l)) (by simpa [L, Nat.add_assoc] using h1) (by simpa [L, Nat.add_assoc] using h2)
end Go.Rv
namespace Go.Rv
open Go.Lib
theorem xv151 {α : Type} (l : List α) : L (some l) = l := rfl
def wild (s : List UInt8) : Bool := s.contains 43 || s.contains 35
theorem xv122 : ∀ s : List UInt8, containsAny s [43, 35] = wild s := by
  intro s
  induction s with
  | nil => rfl
  | cons b l ih =>
    have h := indexAny_ge [43, 35] l
    simp only [containsAny, wild] at ih ⊢
    rw [indexAny]
    by_cases hb : ([43, 35] : List UInt8).contains b = true
    . rw [if_pos hb]
      simp at hb
      rcases hb with rfl | rfl <;> simp
    . rw [if_neg hb]
      simp at hb
      have n1 : ¬ (43 : UInt8) = b := fun e => hb.1 e.symm
      have n2 : ¬ (35 : UInt8) = b := fun e => hb.2 e.symm
      simp only [List.contains_cons, beq_iff_eq, n1, n2, decide_false, Bool.false_or] at ih ⊢
      rw [show ((43 : UInt8) == b) = false by simpa using n1, show ((35 : UInt8) == b) = false by simpa using n2, Bool.false_or, Bool.false_or, ← ih]
      by_cases hm : indexAny l [43, 35] = -1
      . rw [hm]; rfl
      . rw [if_neg (by simpa using hm)]
        exact decide_eq_decide.2 (by omega)
theorem xv51 (s : List UInt8) (hl : s.length ≤ 70000) : fn88 s = some (wild s) := by
  simp only [fn88, fn17]
  rw [if_true, if_pos (by omega), Option.bind_some, xv122]
def lv : List UInt8 -> List (List UInt8)
  | [] => [[]]
  | b :: t => if b = 47 then [] :: lv t else match lv t with
    | [] => [[b]]
    | x :: l => (b :: x) :: l
theorem xv31 (b c : UInt8) (l : List UInt8) : index (b :: l) [c] = if b = c then 0 else if index l [c] = -1 then -1 else index l [c] + 1 := by
  rw [index]
  by_cases h : b = c
  . subst h; simp [List.isPrefixOf]
  . simp [List.isPrefixOf, h, Ne.symm h]
theorem xv148 : ∀ s : List UInt8, splitK [47] 0 (count s [47]) s = lv s := by
  intro s
  induction s with
  | nil => rfl
  | cons b t ih =>
    by_cases h : b = 47
    . subst h
      rw [count_cons_eq, Nat.add_comm, splitK]
      have e : index (47 :: t) [47] = 0 := by rw [xv31, if_pos rfl]
      rw [e, if_neg (by decide)]
      simp only [lv, if_true]
      rw [← ih]; rfl
    . rw [count_cons_ne b 47 t h]
      simp only [lv, if_neg h]
      rw [← ih]
      have hge := index_ge t [47]
      have hix : index (b :: t) [47] = if index t [47] = -1 then -1 else index t [47] + 1 := by rw [xv31, if_neg h]
      cases hk : count t [47] with
      | zero => rfl
      | succ k =>
        have hm : index t [47] ≠ -1 := fun e => by rw [count_miss e] at hk; cases hk
        obtain ⟨j, hj⟩ : ∃ j : Nat, index t [47] = j := ⟨(index t [47]).toNat, by omega⟩
        simp only [splitK]
        rw [hix, if_neg hm, hj]
        rw [if_neg (by simp; omega), if_neg (by simp)]
        simp only
        rw [show ((j : Int) + 1).toNat = j + 1 by omega, Int.toNat_natCast]
        simp [Nat.add_right_comm]
theorem xv110 (s : List UInt8) (hl : s.length ≤ 70000) : fn47 s [47] = some (some (lv s)) := by
  simp only [fn47]
  rw [if_pos (by omega), splitB_data]
  exact congrArg (fun l => some (some l)) (xv148 s)
end Go.Rv
namespace Go.Rv
open Go.Lib
theorem lv_ne : ∀ s, lv s ≠ []
  | [] => by simp [lv]
  | b :: t => by
    simp only [lv]
    split
    . simp
    . split <;> simp
theorem xv161 : ∀ s, (lv s).length ≤ s.length + 1
  | [] => by simp [lv]
  | b :: t => by
    have := xv161 t
    simp only [lv]
    split
    . simp; omega
    . split
      . simp
      . rename_i h; rw [h] at this; simp at this ⊢; omega
def nameB (s : List UInt8) : Bool := !decide (s = []) && good s && !wild s
theorem xv50 (s : List UInt8) (hl : s.length ≤ 9000) : fn89 s = some (nameB s) := by
  simp only [fn89, xv12 s hl, xv51 s (by omega), nameB, Option.bind_some]
  by_cases h : s = []
  . simp [h]
  . cases good s <;> simp [h]
end Go.Rv
namespace Go.Rv
open Go.Lib
def okL (x : List UInt8) (last : Bool) : Bool := decide (x = [43]) || (decide (x = [35]) && last) || !wild x
def xv85 : List (List UInt8) -> Bool
  | [] => true
  | x :: l => okL x l.isEmpty && xv85 l
def xv106 (s : List UInt8) : Bool := !decide (s = []) && xv85 (lv s)
theorem xv18 : ∀ (s x : List UInt8), x ∈ lv s -> x.length ≤ s.length
  | [], x, h => by simp [lv] at h; simp [h]
  | b :: t, x, h => by
    simp only [lv] at h
    split at h
    . rcases List.mem_cons.1 h with rfl | h
      . simp
      . have := xv18 t x h; simp; omega
    . split at h
      . rename_i e; exact absurd e (lv_ne t)
      . rename_i y l e
        rcases List.mem_cons.1 h with rfl | h
        . have := xv18 t y (by rw [e]; simp); simp; omega
        . have := xv18 t x (by rw [e]; simp [h]); simp; omega
theorem xv43 {α : Type} (l : List α) (i : Nat) (h : i < l.length) : (l.drop (i + 1)).isEmpty = decide (i + 1 = l.length) := by
  rw [Bool.eq_iff_iff]
  simp [List.isEmpty_iff]
  omega
theorem xv67 (l : List (List UInt8)) (hl : l.length ≤ 70000) (hx : ∀ x ∈ l, x.length ≤ 70000) : ∀ (f i : Nat), l.length - i ≤ f -> i ≤ l.length ->
    iter (fn71_l0 (some l) (some l) (l.length : Int)) (i : Int) = some (if xv85 (l.drop i) then .inr () else .inl ()) := by
  intro f
  induction f with
  | zero =>
    intro i h1 h2
    rw [yv715]
    simp only [fn71_l0, fn71_b0]
    rw [if_neg (by simp; omega), show l.drop i = [] from List.drop_eq_nil_of_le (by omega)]
    rfl
  | succ f ih =>
    intro i h1 h2
    rw [yv715]
    simp only [fn71_l0, fn71_b0, xv151]
    by_cases hlt : i < l.length
    . have hw := xv51 l[i] (hx _ (List.getElem_mem hlt))
      have e : w64 ((i : Int) + 1) = ((i + 1 : Nat) : Int) := by rw [xv1 (by omega) (by omega)]; simp
      have e2 : w64 ((l.length : Int) - 1) = ((l.length - 1 : Nat) : Int) := by rw [xv1 (by omega) (by omega)]; omega
      have ih := ih (i + 1) (by omega) (by omega)
      have hemp := xv43 l i hlt
      rw [if_pos (by simp; omega), xv7, List.getElem?_eq_getElem hlt, Option.bind_some, List.drop_eq_getElem_cons hlt, e]
      simp only [e2, xv85, okL, hemp, fn71_c1, hw, Option.bind_some]
      generalize l[i] = x at hw ⊢
      by_cases h43 : x = [43]
      . rw [if_pos (by simpa using h43), if_pos (by simpa using h43)]
        refine ih.trans ?_
        simp [h43]
      . rw [if_neg (by simpa using h43)]
        by_cases h35 : x = [35]
        . rw [if_pos (by simpa using h35)]
          by_cases hlast : i + 1 = l.length
          . rw [if_pos (by simp; omega)]
            refine ih.trans ?_
            simp [h35, hlast]
          . rw [if_neg (by simp; omega)]
            have : wild x = true := by rw [h35]; rfl
            rw [this, if_pos rfl]
            simp [h43, h35, hlast, show wild [35] = true from rfl]
        . rw [if_neg (by simpa using h35), if_neg (by decide)]
          cases wild x
          . rw [if_neg (by decide)]
            refine ih.trans ?_
            simp
          . rw [if_pos rfl]
            simp [h43, h35]
    . rw [if_neg (by simp; omega), show l.drop i = [] from List.drop_eq_nil_of_le (by omega)]
      rfl
theorem xv59 (s : List UInt8) (hl : s.length ≤ 9000) : fn71 s = some (xv106 s) := by
  simp only [fn71, xv106]
  by_cases h : s = []
  . simp [h]
  . rw [if_neg (by simpa using h), xv110 s (by omega), Option.bind_some]
    have h2 := xv161 s
    have := xv67 (lv s) (by omega) (fun x hx => by have := xv18 s x hx; omega) (lv s).length 0 (by omega) (by omega)
    rw [show ((0 : Nat) : Int) = 0 from rfl] at this
    simp only [xv151]
    rw [this, List.drop_zero]
    simp only [h, decide_false, Bool.not_false, Bool.true_and]
    cases xv85 (lv s) <;> rfl
end Go.Rv
namespace Go.Rv
open Go.Lib
abbrev shP : List UInt8 := [36, 115, 104, 97, 114, 101, 47]
def cutO : List UInt8 -> Option (List UInt8 × List UInt8)
  | [] => none
  | b :: t => if b = 47 then some ([], t) else (cutO t).map fun p => (b :: p.1, p.2)
def cutR (t : List UInt8) : Option (List UInt8 × List UInt8) -> List UInt8 × List UInt8 × Bool
  | none => (t, [], false)
  | some (a, b) => (a, b, true)
theorem xv174 : ∀ t : List UInt8, cut t [47] = cutR t (cutO t) := by
  intro t
  induction t with
  | nil => rfl
  | cons b t ih =>
    have hge := index_ge t [47]
    simp only [cut] at ih ⊢
    rw [xv31]
    simp only [cutO]
    by_cases h : b = 47
    . rw [if_pos h]; subst h
      rw [if_pos (by decide)]
      simp [cutR]
    . rw [if_neg h]
      by_cases hm : index t [47] = -1
      . rw [hm] at ih ⊢
        rw [if_neg (by decide)] at ih
        rw [if_pos rfl, if_neg (by decide)]
        cases hc : cutO t with
        | none => simp [h, cutR]
        | some p => rw [hc] at ih; simp [cutR] at ih
      . rw [if_neg hm]
        obtain ⟨j, hj⟩ : ∃ j : Nat, index t [47] = j := ⟨(index t [47]).toNat, by omega⟩
        rw [hj] at ih ⊢
        rw [if_pos (by omega)] at ih
        rw [if_pos (by omega)]
        cases hc : cutO t with
        | none => rw [hc] at ih; simp [cutR] at ih
        | some p =>
          rw [hc] at ih
          simp only [cutR, Prod.mk.injEq, Int.toNat_natCast] at ih
          simp only [h, if_false, Option.map_some, cutR, show ((j : Int) + 1).toNat = j + 1 by omega, List.take_succ_cons, ih.1]
          rw [← ih.2.1]
          simp [Nat.add_right_comm]
theorem xv118 (s : List UInt8) (hl : s.length ≤ 70000) : fn72 s [47] = some (cutR s (cutO s)) := by
  simp only [fn72]
  rw [if_pos (by omega), xv174]
theorem xv159 (s p : List UInt8) (hl : s.length ≤ 70000) (hp : p.length ≤ 100) : fn6 s p = some (decide (s.take p.length = p)) := by
  simp only [fn6]
  by_cases h : p.length ≤ s.length
  . rw [if_pos (by simp; omega)]
    have := xv117 (l := s) (a := 0) (b := p.length) (by omega) h
    rw [show ((0 : Nat) : Int) = 0 from rfl] at this
    rw [this]; rfl
  . rw [if_neg (by simp; omega)]
    congr 1
    symm
    apply decide_eq_false
    intro e
    have := congrArg List.length e
    simp at this
    omega
theorem xv112 (s : List UInt8) (hl : s.length ≤ 70000) : fn21 s shP = some (if s.take 7 = shP then (s.drop 7, true) else (s, false)) := by
  simp only [fn21, fn7, xv159 s shP hl (by decide), Option.bind_some, show shP.length = 7 from rfl]
  by_cases h : s.take 7 = shP
  . have h7 : 7 ≤ s.length := by
      have := congrArg List.length h
      simp at this; omega
    simp only [h, decide_true, Bool.not_true, Bool.false_eq_true, if_false, if_true]
    rw [show ((7 : Nat) : Int) = 7 from rfl]
    have := xv147 (l := s) (a := 7) h7
    rw [show ((7 : Nat) : Int) = 7 from rfl] at this
    rw [this]; rfl
  . simp [h]
def shr (s : List UInt8) : Option (Option (List UInt8 × List UInt8)) := if s.take 7 = shP then some (cutO (s.drop 7)) else none
theorem xv75 : ∀ {t a b : List UInt8}, cutO t = some (a, b) -> a.length ≤ t.length ∧ b.length ≤ t.length
  | [], a, b, h => by cases h
  | x :: t, a, b, h => by
    simp only [cutO] at h
    split at h
    . cases h; simp
    . cases hq : cutO t with
      | none => rw [hq] at h; cases h
      | some p =>
        rw [hq] at h; cases h
        have := xv75 (a := p.1) (b := p.2) hq
        simp; omega
def shrF (s : List UInt8) : Option (Option (List UInt8 × List UInt8)) -> Bool
  | none => xv106 s
  | some none => false
  | some (some (a, b)) => !decide (a = []) && !wild a && xv106 b
def xv17 (s : List UInt8) : Bool := good s && shrF s (shr s)
theorem xv38 (s : List UInt8) (hl : s.length ≤ 9000) : fn59 s = some (xv17 s) := by
  simp only [fn59, xv12 s hl, xv112 s (by omega), Option.bind_some, xv17]
  cases good s with
  | false => simp
  | true =>
    simp only [Bool.not_true, Bool.false_eq_true, if_false, Bool.true_and]
    by_cases h : s.take 7 = shP
    . have hs : shr s = some (cutO (s.drop 7)) := if_pos h
      rw [if_pos h, hs]
      simp only [Bool.not_true, Bool.false_eq_true, if_false]
      rw [xv118 _ (by simp; omega), Option.bind_some]
      cases hc : cutO (s.drop 7) with
      | none => simp [cutR, shrF]
      | some p =>
        obtain ⟨a, b⟩ := p
        have hlen := xv75 hc
        simp at hlen
        simp only [cutR, shrF, if_true, xv51 a (by omega), xv59 b (by omega), Option.bind_some]
        by_cases ha : a = []
        . simp [ha]
        . simp only [ha, decide_false, Bool.not_false, Bool.true_and, if_true]
          cases wild a <;> simp
    . have hs : shr s = none := if_neg h
      rw [if_neg h, hs]
      simp [shrF, xv59 s hl]
def xv37 (s : List UInt8) : List UInt8 × List UInt8 × Bool := match shr s with
  | some (some (a, b)) => if xv17 s then (a, b, true) else ([], [], false)
  | _ => ([], [], false)
theorem xv96 (s : List UInt8) (hl : s.length ≤ 9000) : fn60 s = some (xv37 s) := by
  simp only [fn60, xv112 s (by omega), Option.bind_some, xv38 s hl, xv37]
  by_cases h : s.take 7 = shP
  . have hs : shr s = some (cutO (s.drop 7)) := if_pos h
    rw [if_pos h]
    simp only [Bool.not_true, Bool.false_eq_true, if_false]
    have hf : xv17 s = (good s && shrF s (shr s)) := rfl
    rw [hs] at hf ⊢
    rw [xv118 _ (by simp; omega)]
    cases hc : cutO (s.drop 7) with
    | none =>
      rw [hc] at hf
      have : xv17 s = false := by rw [hf]; simp [shrF]
      simp [this]
    | some p =>
      obtain ⟨a, b⟩ := p
      cases xv17 s <;> rfl
  . have hs : shr s = none := if_neg h
    rw [if_neg h, hs]; rfl
end Go.Rv
namespace Go.Rv
open Go.Lib
theorem all8 {p : UInt8 -> Prop} (h : ∀ n : Fin 256, p (UInt8.ofNat n.val)) : ∀ x, p x := by
  intro x
  have := h ⟨x.toNat, x.toNat_lt⟩
  simpa using this
theorem xv121 : iter fn86_l0 ((some []), 1) = some (some [1, 2, 3, 4, 5, 6, 7, 8, 9, 10, 11, 14, 15, 16]) := by
  rw [yv757 17 (by kernel_rfl)]
  kernel_rfl
def typeT (id : UInt8) : Int := (fn141 id).getD 0
def xv104 (id : UInt8) : Option (List Int) := (fn117 id).getD none
theorem xv165 : ∀ id, fn86 id = some ⟨typeT id, xv104 id⟩ := by
  intro id
  simp only [fn86, xv121, Option.bind_some]
  revert id
  refine all8 ?_
  decide +kernel
theorem xv44 (id : UInt8) : fn107 id = some (typeT id) := by simp only [fn107, xv165, Option.bind_some]
theorem xv105 : ∀ id, (L (xv104 id)).length ≤ 20 := by
  refine all8 ?_
  decide +kernel
theorem xv80 (o : Option (List Int)) (k : Int) (hl : (L o).length ≤ 70000) : ∀ (f i : Nat), (L o).length - i ≤ f -> i ≤ (L o).length ->
    (((L o).drop i).contains k = true -> ∃ j : Nat, iter (fn15_l0 o k ((L o).length : Int)) (i : Int) = some (.inl (j : Int))) ∧ (((L o).drop i).contains k = false -> iter (fn15_l0 o k ((L o).length : Int)) (i : Int) = some (.inr ())) := by
  intro f
  induction f with
  | zero =>
    intro i h1 h2
    rw [yv715]
    simp only [fn15_l0, fn15_b0]
    rw [if_neg (by simp; omega), show (L o).drop i = [] from List.drop_eq_nil_of_le (by omega)]
    exact ⟨fun h => (by cases h), fun _ => rfl⟩
  | succ f ih =>
    intro i h1 h2
    rw [yv715]
    simp only [fn15_l0, fn15_b0]
    by_cases hlt : i < (L o).length
    . have e : w64 ((i : Int) + 1) = ((i + 1 : Nat) : Int) := by rw [xv1 (by omega) (by omega)]; simp
      rw [if_pos (by simp; omega), xv7, List.getElem?_eq_getElem hlt, Option.bind_some, List.drop_eq_getElem_cons hlt, List.contains_cons]
      by_cases hc : k = (L o)[i]
      . rw [if_pos (by simpa using hc)]
        refine ⟨fun _ => ⟨i, rfl⟩, fun h => ?_⟩
        rw [show (k == (L o)[i]) = true by simpa using hc] at h
        cases h
      . rw [if_neg (by simpa using hc), show (k == (L o)[i]) = false by simpa using hc, Bool.false_or, e]
        exact ih (i + 1) (by omega) hlt
    . rw [if_neg (by simp; omega), show (L o).drop i = [] from List.drop_eq_nil_of_le (by omega)]
      exact ⟨fun h => (by cases h), fun _ => rfl⟩
theorem xv40 (o : Option (List Int)) (k : Int) (hl : (L o).length ≤ 70000) : fn13 o k = some ((L o).contains k) := by
  simp only [fn13, fn15]
  have := xv80 o k hl (L o).length 0 (by omega) (by omega)
  rw [show ((0 : Nat) : Int) = 0 from rfl, List.drop_zero] at this
  cases hc : (L o).contains k with
  | true =>
    obtain ⟨j, hj⟩ := this.1 hc
    rw [hj]
    show some (decide ((j : Int) ≥ 0)) = some true
    rw [decide_eq_true (by omega)]
  | false => rw [this.2 hc]; rfl
def forB (id : UInt8) (k : Int) : Bool := (L (xv104 id)).contains k
theorem xv116 (id : UInt8) (k : Int) : fn133 id k = some (forB id k) := by
  have := xv105 id
  simp only [fn133, xv165, Option.bind_some, xv40 _ k (show (L (xv104 id)).length ≤ 70000 by omega), forB]
def xv83 (id : UInt8) (k : Int) : Bool := forB id k && (decide (id = 38) || (decide (id = 11) && decide (k = 3)))
theorem xv107 (id : UInt8) (k : Int) : fn91 id k = some (xv83 id k) := by
  simp only [fn91, xv116, Option.bind_some, xv83]
  cases forB id k <;> cases decide (id = 38) <;> cases decide (id = 11) <;> simp
def xv46 (id : UInt8) (n : UInt32) (a b : List UInt8) : Bool :=
  if typeT id = 1 then decide (n < 256) && (decide (a = []) && decide (b = []))
  else if typeT id = 2 then decide (n < 65536) && (decide (a = []) && decide (b = []))
  else if typeT id = 3 then decide (a = []) && decide (b = [])
  else if typeT id = 4 then decide (n < 268435456) && (decide (a = []) && decide (b = []))
  else if typeT id = 5 then decide (n = 0) && good a && decide (b = [])
  else if typeT id = 6 then decide (n = 0) && decide (b = [])
  else if typeT id = 7 then decide (n = 0) && good a && good b
  else false
theorem le32 (n : UInt32) : decide (n ≤ (268435455 : UInt32)) = decide (n < (268435456 : UInt32)) := by
  rw [Bool.eq_iff_iff]
  simp only [decide_eq_true_eq, UInt32.le_iff_toNat_le, UInt32.lt_iff_toNat_lt]
  show n.toNat ≤ 268435455 ↔ n.toNat < 268435456
  omega
theorem xv56 (p : fn132) (ha : p.A.length ≤ 9000) (hb : p.B.length ≤ 9000) : fn87 p = some (xv46 p.Id p.N p.A p.B) := by
  have hla : decide ((p.A.length : Int) ≤ 65535) = true := decide_eq_true (by omega)
  simp only [fn87, fn87_c0, xv44, Option.bind_some, xv12 _ ha, xv12 _ hb, xv46, le32, hla]
  generalize typeT p.Id = t
  by_cases h1 : t = 1 <;> by_cases h2 : t = 2 <;> by_cases h3 : t = 3 <;> by_cases h4 : t = 4 <;> by_cases h5 : t = 5 <;> by_cases h6 : t = 6 <;> by_cases h7 : t = 7 <;> (try (exfalso; omega)) <;>
    simp only [h1, h2, h3, h4, h5, h6, h7, decide_true, decide_false, if_true, if_false, Bool.false_eq_true] <;>
    cases decide (p.A = []) <;> cases decide (p.B = []) <;> cases decide (p.N = 0) <;> cases decide (p.N < 256) <;> cases decide (p.N < 65536) <;> cases decide (p.N < 268435456) <;> cases good p.A <;> cases good p.B <;> simp
end Go.Rv
namespace Go.Rv
open Go.Lib
def valB (id : UInt8) (n : UInt32) (a : List UInt8) : Bool :=
  if typeT id = 1 then decide (n < 2)
  else if decide (id = 11) || decide (id = 33) || decide (id = 35) || decide (id = 39) then !decide (n = 0)
  else if id = 8 then nameB a
  else true
def xv68 (id : UInt8) (n : UInt32) (a b : List UInt8) : Bool := xv46 id n a b && valB id n a
theorem le1 (n : UInt32) : decide (n ≤ (1 : UInt32)) = decide (n < (2 : UInt32)) := by
  rw [Bool.eq_iff_iff]
  simp only [decide_eq_true_eq, UInt32.le_iff_toNat_le, UInt32.lt_iff_toNat_lt]
  show n.toNat ≤ 1 ↔ n.toNat < 2
  omega
theorem xv109 (p : fn132) (ha : p.A.length ≤ 9000) (hb : p.B.length ≤ 9000) : fn90 p = some (xv68 p.Id p.N p.A p.B) := by
  simp only [fn90, fn90_c0, xv56 p ha hb, xv44, Option.bind_some, le1, xv50 p.A ha, xv68, valB]
  cases xv46 p.Id p.N p.A p.B with
  | false => simp
  | true =>
    simp only [Bool.not_true, Bool.false_eq_true, if_false, Bool.true_and]
    by_cases h1 : typeT p.Id = 1
    . simp [h1]
    . simp only [h1, decide_false, Bool.false_eq_true, if_false]
      by_cases a11 : p.Id = 11
      . simp [a11]
      . by_cases a33 : p.Id = 33
        . simp [a33]
        . by_cases a35 : p.Id = 35
          . simp [a35]
          . by_cases a39 : p.Id = 39
            . simp [a39]
            . by_cases a8 : p.Id = 8 <;> simp [a11, a33, a35, a39, a8]
end Go.Rv
namespace Go.Rv
-- ---------- loops over a list ----------
def runL {σ α β : Type} (g : σ -> α -> σ ⊕ β) (e : σ -> β) : σ -> List α -> β
  | s, [] => e s
  | s, a :: l => match g s a with
    | .inl s' => runL g e s' l
    | .inr b => b
def stepL {Z σ β : Type} (mk : σ -> Int -> Z) (i : Nat) : σ ⊕ β -> Z ⊕ β
  | .inl s' => .inl (mk s' ((i + 1 : Nat) : Int))
  | .inr b => .inr b
theorem xv20 {Z σ β α : Type} (l : List α) (step : Z -> Option (Z ⊕ β)) (mk : σ -> Int -> Z) (g : σ -> α -> σ ⊕ β) (e : σ -> β) (I : Nat -> σ -> Prop)
    (hin : ∀ s i (h : i < l.length), I i s -> step (mk s (i : Int)) = some (stepL mk i (g s l[i])))
    (hI : ∀ s i (h : i < l.length) s', I i s -> g s l[i] = .inl s' -> I (i + 1) s')
    (hout : ∀ s, I l.length s -> step (mk s (l.length : Int)) = some (.inr (e s))) (s : σ) (h0 : I 0 s) :
    iter step (mk s 0) = some (runL g e s l) := by
  have key : ∀ (f i : Nat) (s : σ), l.length - i ≤ f -> i ≤ l.length -> I i s -> iter step (mk s (i : Int)) = some (runL g e s (l.drop i)) := by
    intro f
    induction f with
    | zero =>
      intro i s h1 h2 h3
      have : i = l.length := by omega
      subst this
      rw [yv715, hout s h3, List.drop_length]
      rfl
    | succ f ih =>
      intro i s h1 h2 h3
      by_cases hlt : i < l.length
      . rw [yv715, hin s i hlt h3, List.drop_eq_getElem_cons hlt]
        simp only [runL]
        cases hg : g s l[i] with
        | inl s' => exact ih (i + 1) s' (by omega) hlt (hI s i hlt s' h3 hg)
        | inr b => rfl
      . have : i = l.length := by omega
        subst this
        rw [yv715, hout s h3, List.drop_length]
        rfl
  exact key l.length 0 s (by omega) (by omega) h0
theorem xv4 {i : Nat} (h : i < 9223372036854775807) : w64 ((i : Int) + 1) = ((i + 1 : Nat) : Int) := by
  rw [xv1 (by omega) (by omega)]; simp
end Go.Rv
namespace Go.Rv
-- ---------- conversions ----------
def pQ (x : fn153) : fn132 := ⟨x.Id, x.N, x.A, x.B⟩
def pR (x : fn132) : fn153 := ⟨x.Id, x.N, x.A, x.B⟩
def fQ (x : fn104) : fn53 := ⟨x.Text, x.Opt⟩
def fR (x : fn53) : fn104 := ⟨x.Text, x.Opt⟩
def nP (p : fn54) : fn105 := ⟨p.Kind, p.Dup, p.Retain, p.QoS, p.Id, p.Clean, p.Keep, p.Client, p.HasWill, p.HasUser, p.HasPass, p.WillQoS, p.WillRetain, some ((L p.WillProps).map pR), p.WillTopic, p.WillLoad, p.User, p.Pass, p.Present, p.Code, p.Topic, p.Load, some ((L p.Filters).map fR), some (L p.Codes), some ((L p.Props).map pR)⟩
structure FewR (p : fn105) : Prop where
  wp : (L p.WillProps).length ≤ 30
  pp : (L p.Props).length ≤ 30
  fl : (L p.Filters).length ≤ 30
  tx : p.Client.length + p.WillTopic.length + p.WillLoad.length + p.User.length + p.Pass.length + p.Topic.length + p.Load.length + (L p.Codes).length ≤ 3000
  ft : ∀ f ∈ L p.Filters, f.Text.length ≤ 300
  pt : ∀ x ∈ L p.Props, x.A.length ≤ 300 ∧ x.B.length ≤ 300
  wt : ∀ x ∈ L p.WillProps, x.A.length ≤ 300 ∧ x.B.length ≤ 300
theorem nif {α : Type} (c : Bool) (x y : α) : (if (!c) = true then some x else some y) = some (if c = true then y else x) := by cases c <;> rfl
theorem xv69 {α : Type} (l : List α) (step : Int -> Option (Int ⊕ (Unit ⊕ Unit))) (q : α -> Bool)
    (hin : ∀ i (h : i < l.length), step (i : Int) = some (if q l[i] then .inl ((i + 1 : Nat) : Int) else .inr (.inl ()))) (hout : step (l.length : Int) = some (.inr (.inr ()))) :
    iter step 0 = some (if l.all q then .inr () else .inl ()) := by
  have := xv20 l step (fun (_ : Unit) i => i) (fun (_ : Unit) (a : α) => if q a then (.inl () : Unit ⊕ (Unit ⊕ Unit)) else .inr (.inl ())) (fun _ => .inr ()) (fun i s => True)
    (fun s i hi hI => by rw [hin i hi]; cases q l[i] <;> rfl) (fun _ _ _ _ _ _ => trivial) (fun s hI => hout) () trivial
  rw [this]
  have : ∀ l : List α, runL (fun (_ : Unit) (a : α) => if q a then (.inl () : Unit ⊕ (Unit ⊕ Unit)) else .inr (.inl ())) (fun _ => .inr ()) () l = if l.all q then .inr () else .inl () := by
    intro l
    induction l with
    | nil => rfl
    | cons a l ih =>
      by_cases hq : q a = true
      . rw [show (a :: l).all q = l.all q by rw [List.all_cons, hq, Bool.true_and]]
        simp only [runL]
        rw [if_pos hq]; exact ih
      . rw [show (a :: l).all q = false by rw [List.all_cons, show q a = false by simpa using hq, Bool.false_and]]
        simp only [runL]
        rw [if_neg hq]; rfl
  rw [this]
theorem xv26 {α : Type} (l m : List α) (hlen : l.length = m.length) (step : Int -> Option (Int ⊕ (Unit ⊕ Unit))) (q : α -> α -> Bool)
    (hin : ∀ i (h : i < l.length), step (i : Int) = some (if q l[i] (m[i]'(by omega)) then .inl ((i + 1 : Nat) : Int) else .inr (.inl ()))) (hout : step (l.length : Int) = some (.inr (.inr ()))) (hq : ∀ a b, q a b = true ↔ a = b) :
    ∃ r, iter step 0 = some r ∧ ((r = .inr () ∧ l = m) ∨ (r = .inl () ∧ l ≠ m)) := by
  have := xv69 (l.zip m) step (fun x => q x.1 x.2)
    (fun i hi => by
      have h1 : i < l.length := by simp at hi; omega
      rw [hin i h1]
      simp)
    (by rw [show (l.zip m).length = l.length by simp; omega]; exact hout)
  refine ⟨_, this, ?_⟩
  have key : (l.zip m).all (fun x => q x.1 x.2) = true ↔ l = m := by
    clear this hin hout
    induction l generalizing m with
    | nil =>
      cases m with
      | nil => simp
      | cons => simp at hlen
    | cons a l ih =>
      cases m with
      | nil => simp at hlen
      | cons b m =>
        rw [List.zip_cons_cons, List.all_cons, Bool.and_eq_true, hq, ih m (by simpa using hlen)]
        simp
  by_cases h : l = m
  . left; rw [key.2 h]; exact ⟨rfl, h⟩
  . right
    have : (l.zip m).all (fun x => q x.1 x.2) = false := by
      cases hh : (l.zip m).all (fun x => q x.1 x.2) with
      | false => rfl
      | true => exact absurd (key.1 hh) h
    rw [this]; exact ⟨rfl, h⟩
theorem xv92 (a b : Option (List fn132)) (hl : (L a).length ≤ 100000) : fn84 a b = some (decide ((L a).map pR = (L b).map pR)) := by
  simp only [fn84, fn4]
  have inj : (L a).map pR = (L b).map pR ↔ L a = L b := ⟨fun h => by
    have := congrArg (List.map pQ) h
    rw [List.map_map, List.map_map] at this
    simpa [show (pQ ∘ pR) = id from rfl] using this, fun h => by rw [h]⟩
  by_cases hlen : (L a).length = (L b).length
  . rw [if_neg (by simp [hlen])]
    obtain ⟨r, e, h⟩ := xv26 (L a) (L b) hlen (fn4_l0 a b ((L a).length : Int)) (fun x y => (decide (x.Id = y.Id)) && ((decide (x.N = y.N)) && ((decide (x.A = y.A)) && (decide (x.B = y.B)))))
      (fun i hi => by
        simp only [fn4_l0, fn4_b0]
        rw [if_pos (by simp; omega), xv7, xv7, List.getElem?_eq_getElem hi, List.getElem?_eq_getElem (show i < (L b).length by omega), xv4 (by omega)]
        simp only [Option.bind_some]
        exact nif _ _ _)
      (by simp only [fn4_l0, fn4_b0]; rw [if_neg (by simp)])
      (fun x y => by
        obtain ⟨a, b, c, d⟩ := x
        obtain ⟨a', b', c', d'⟩ := y
        simp)
    rw [e]
    rcases h with ⟨rfl, h⟩ | ⟨rfl, h⟩
    . rw [decide_eq_true (inj.2 h)]; rfl
    . rw [decide_eq_false (fun q => h (inj.1 q))]; rfl
  . rw [if_pos (by simp; omega), decide_eq_false (fun h => hlen (by rw [inj.1 h]))]
    rfl
theorem xv144 (a b : Option (List UInt8)) (hl : (L a).length ≤ 100000) : fn10 a b = some (decide (L a = L b)) := by
  simp only [fn10]
  by_cases hlen : (L a).length = (L b).length
  . rw [if_neg (by simp [hlen])]
    obtain ⟨r, e, h⟩ := xv26 (L a) (L b) hlen (fn10_l0 a b ((L a).length : Int)) (fun x y => decide (x = y))
      (fun i hi => by
        simp only [fn10_l0, fn10_b0]
        rw [if_pos (by simp; omega), xv7, xv7, List.getElem?_eq_getElem hi, List.getElem?_eq_getElem (show i < (L b).length by omega), xv4 (by omega)]
        simp only [Option.bind_some]
        exact nif _ _ _)
      (by simp only [fn10_l0, fn10_b0]; rw [if_neg (by simp)])
      (fun x y => by simp)
    rw [e]
    rcases h with ⟨rfl, h⟩ | ⟨rfl, h⟩
    . rw [decide_eq_true h]; rfl
    . rw [decide_eq_false h]; rfl
  . rw [if_pos (by simp; omega), decide_eq_false (fun h => hlen (by rw [h]))]
theorem xv145 (a b : Option (List fn53)) (hl : (L a).length ≤ 100000) : fn2 a b = some (decide ((L a).map fR = (L b).map fR)) := by
  simp only [fn2]
  have inj : (L a).map fR = (L b).map fR ↔ L a = L b := ⟨fun h => by
    have := congrArg (List.map fQ) h
    rw [List.map_map, List.map_map] at this
    simpa [show (fQ ∘ fR) = id from rfl] using this, fun h => by rw [h]⟩
  by_cases hlen : (L a).length = (L b).length
  . rw [if_neg (by simp [hlen])]
    obtain ⟨r, e, h⟩ := xv26 (L a) (L b) hlen (fn2_l0 a b ((L a).length : Int)) (fun x y => (decide (x.Text = y.Text)) && (decide (x.Opt = y.Opt)))
      (fun i hi => by
        simp only [fn2_l0, fn2_b0]
        rw [if_pos (by simp; omega), xv7, xv7, List.getElem?_eq_getElem hi, List.getElem?_eq_getElem (show i < (L b).length by omega), xv4 (by omega)]
        simp only [Option.bind_some]
        exact nif _ _ _)
      (by simp only [fn2_l0, fn2_b0]; rw [if_neg (by simp)])
      (fun x y => by
        obtain ⟨a, b⟩ := x
        obtain ⟨a', b'⟩ := y
        simp)
    rw [e]
    rcases h with ⟨rfl, h⟩ | ⟨rfl, h⟩
    . rw [decide_eq_true (inj.2 h)]; rfl
    . rw [decide_eq_false (fun q => h (inj.1 q))]; rfl
  . rw [if_pos (by simp; omega), decide_eq_false (fun h => hlen (by rw [inj.1 h]))]
end Go.Rv
namespace Go.Rv
theorem tif (c d : Bool) : (if c = true then some d else some false) = some (c && d) := by cases c <;> rfl
theorem xv175 (a b : fn54) : nP a = nP b ↔ (a.Kind = b.Kind ∧ a.Dup = b.Dup ∧ a.Retain = b.Retain ∧ a.QoS = b.QoS ∧ a.Id = b.Id ∧ a.Clean = b.Clean ∧ a.Keep = b.Keep ∧ a.Client = b.Client ∧ a.HasWill = b.HasWill ∧ a.HasUser = b.HasUser ∧ a.HasPass = b.HasPass ∧ a.WillQoS = b.WillQoS ∧ a.WillRetain = b.WillRetain ∧ (L a.WillProps).map pR = (L b.WillProps).map pR ∧ a.WillTopic = b.WillTopic ∧ a.WillLoad = b.WillLoad ∧ a.User = b.User ∧ a.Pass = b.Pass ∧ a.Present = b.Present ∧ a.Code = b.Code ∧ a.Topic = b.Topic ∧ a.Load = b.Load ∧ (L a.Filters).map fR = (L b.Filters).map fR ∧ L a.Codes = L b.Codes ∧ (L a.Props).map pR = (L b.Props).map pR) := by
  simp only [nP, fn105.mk.injEq, Option.some.injEq]
structure FewP (q : fn54) : Prop where
  wp : (L q.WillProps).length ≤ 1000
  pp : (L q.Props).length ≤ 1000
  fl : (L q.Filters).length ≤ 1000
  cd : (L q.Codes).length ≤ 100000
theorem xv166 (a b : fn54) (h : FewP a) : fn68 a b = some (decide (nP a = nP b)) := by
  have h1 := h.wp; have h2 := h.pp; have h3 := h.fl; have h4 := h.cd
  simp only [fn68, fn31, Option.bind_some]
  rw [xv145 _ _ (by omega)]
  simp only [Option.bind_some]
  rw [xv144 _ _ h4]
  simp only [Option.bind_some]
  rw [xv92 _ _ (by omega)]
  simp only [Option.bind_some]
  rw [xv92 _ _ (by omega)]
  simp only [Option.bind_some, tif]
  congr 1
  rw [Bool.eq_iff_iff]
  simp only [Bool.and_eq_true, decide_eq_true_eq, beq_iff_eq, xv175]
  constructor
  . rintro ⟨⟨a1, a2, a3, a4, a5, a6, a7, a8, a9, a10, a11, a12, a13, a14, a15, a16, a17, a18, a19, a20, a21⟩, b1, b2, b3, b4⟩
    exact ⟨a1, a2, a3, a10, a13, a4, a14, a15, a6, a7, a8, a11, a5, b4, a16, a17, a18, a19, a9, a12, a20, a21, b1, b2, b3⟩
  . rintro ⟨a1, a2, a3, a10, a13, a4, a14, a15, a6, a7, a8, a11, a5, b4, a16, a17, a18, a19, a9, a12, a20, a21, b1, b2, b3⟩
    exact ⟨⟨a1, a2, a3, a4, a5, a6, a7, a8, a9, a10, a11, a12, a13, a14, a15, a16, a17, a18, a19, a20, a21⟩, b1, b2, b3, b4⟩
def z0 (p : fn105) : fn105 := ⟨p.Kind, false, false, 0, 0, false, 0, [], false, false, false, 0, false, some [], [], [], [], [], false, 0, [], [], some [], some [], some []⟩
def bareN (p : fn105) : fn105 :=
  if p.Kind = 1 then ⟨p.Kind, false, false, 0, 0, p.Clean, p.Keep, p.Client, p.HasWill, p.HasUser, p.HasPass, if p.HasWill then p.WillQoS else 0, if p.HasWill then p.WillRetain else false, if p.HasWill then p.WillProps else some [], if p.HasWill then p.WillTopic else [], if p.HasWill then p.WillLoad else [], if p.HasUser then p.User else [], if p.HasPass then p.Pass else [], false, 0, [], [], some [], some [], p.Props⟩
  else if p.Kind = 2 then { z0 p with Present := p.Present, Code := p.Code, Props := p.Props }
  else if p.Kind = 3 then { z0 p with Dup := p.Dup, QoS := p.QoS, Retain := p.Retain, Topic := p.Topic, Id := p.Id, Load := p.Load, Props := p.Props }
  else if p.Kind = 4 ∨ p.Kind = 5 ∨ p.Kind = 6 ∨ p.Kind = 7 then { z0 p with Id := p.Id, Code := p.Code, Props := p.Props }
  else if p.Kind = 8 ∨ p.Kind = 10 then { z0 p with Id := p.Id, Filters := p.Filters, Props := p.Props }
  else if p.Kind = 9 ∨ p.Kind = 11 then { z0 p with Id := p.Id, Codes := p.Codes, Props := p.Props }
  else if p.Kind = 14 ∨ p.Kind = 15 then { z0 p with Code := p.Code, Props := p.Props }
  else z0 p
theorem xv152 (q : fn54) : ∃ b, fn67 q = some b ∧ nP b = bareN (nP q) := by
  have hk : (nP q).Kind = q.Kind := rfl
  simp only [fn67]
  by_cases h1 : q.Kind = 1
  . rw [if_pos (by simpa using h1)]
    simp only [fn18, fn18_c0, fn18_c1]
    unfold bareN
    rw [if_pos (show (nP q).Kind = 1 from h1)]
    obtain ⟨kd, dup, ret, qos, id, cl, kp, ct, hw, hu, hp, wq, wr, wp, wt, wl, us, ps, pr, co, tp, ld, fs, cs, pp⟩ := q
    cases hw <;> cases hu <;> cases hp <;> exact ⟨_, rfl, rfl⟩
  . rw [if_neg (by simpa using h1)]
    by_cases h2 : q.Kind = 2
    . rw [if_pos (by simpa using h2)]
      refine ⟨_, rfl, ?_⟩
      unfold bareN
      rw [if_neg (show ¬ (nP q).Kind = 1 from h1), if_pos (show (nP q).Kind = 2 from h2)]
      rfl
    . rw [if_neg (by simpa using h2)]
      by_cases h3 : q.Kind = 3
      . rw [if_pos (by simpa using h3)]
        refine ⟨_, rfl, ?_⟩
        unfold bareN
        rw [if_neg (show ¬ (nP q).Kind = 1 from h1), if_neg (show ¬ (nP q).Kind = 2 from h2), if_pos (show (nP q).Kind = 3 from h3)]
        rfl
      . rw [if_neg (by simpa using h3)]
        unfold bareN
        rw [if_neg (show ¬ (nP q).Kind = 1 from h1), if_neg (show ¬ (nP q).Kind = 2 from h2), if_neg (show ¬ (nP q).Kind = 3 from h3), hk]
        simp only [fn67_c0, fn67_c1, fn67_c2, fn67_c3]
        by_cases h4 : q.Kind = 4
        . rw [if_pos (by simpa using h4), if_pos (by simpa using h4), if_pos (show (q.Kind = 4 ∨ q.Kind = 5 ∨ q.Kind = 6 ∨ q.Kind = 7) by omega)]; exact ⟨_, rfl, rfl⟩
        . rw [if_neg (by simpa using h4)]
          by_cases h5 : q.Kind = 5
          . rw [if_pos (by simpa using h5), if_pos (by simpa using h5), if_pos (show (q.Kind = 4 ∨ q.Kind = 5 ∨ q.Kind = 6 ∨ q.Kind = 7) by omega)]; exact ⟨_, rfl, rfl⟩
          . rw [if_neg (by simpa using h5)]
            by_cases h6 : q.Kind = 6
            . rw [if_pos (by simpa using h6), if_pos (by simpa using h6), if_pos (show (q.Kind = 4 ∨ q.Kind = 5 ∨ q.Kind = 6 ∨ q.Kind = 7) by omega)]; exact ⟨_, rfl, rfl⟩
            . rw [if_neg (by simpa using h6)]
              by_cases h7 : q.Kind = 7
              . rw [if_pos (by simpa using h7), if_pos (show (q.Kind = 4 ∨ q.Kind = 5 ∨ q.Kind = 6 ∨ q.Kind = 7) by omega)]; exact ⟨_, rfl, rfl⟩
              . rw [if_neg (by simpa using h7), if_neg (show ¬ (q.Kind = 4 ∨ q.Kind = 5 ∨ q.Kind = 6 ∨ q.Kind = 7) by omega)]
                by_cases h8 : q.Kind = 8
                . rw [if_pos (by simpa using h8), if_pos (by simpa using h8), if_pos (show (q.Kind = 8 ∨ q.Kind = 10) by omega)]; exact ⟨_, rfl, rfl⟩
                . rw [if_neg (by simpa using h8)]
                  by_cases h10 : q.Kind = 10
                  . rw [if_pos (by simpa using h10), if_pos (show (q.Kind = 8 ∨ q.Kind = 10) by omega)]; exact ⟨_, rfl, rfl⟩
                  . rw [if_neg (by simpa using h10), if_neg (show ¬ (q.Kind = 8 ∨ q.Kind = 10) by omega)]
                    by_cases h9 : q.Kind = 9
                    . rw [if_pos (by simpa using h9), if_pos (by simpa using h9), if_pos (show (q.Kind = 9 ∨ q.Kind = 11) by omega)]; exact ⟨_, rfl, rfl⟩
                    . rw [if_neg (by simpa using h9)]
                      by_cases h11 : q.Kind = 11
                      . rw [if_pos (by simpa using h11), if_pos (show (q.Kind = 9 ∨ q.Kind = 11) by omega)]; exact ⟨_, rfl, rfl⟩
                      . rw [if_neg (by simpa using h11), if_neg (show ¬ (q.Kind = 9 ∨ q.Kind = 11) by omega)]
                        by_cases h14 : q.Kind = 14
                        . rw [if_pos (by simpa using h14), if_pos (by simpa using h14), if_pos (show (q.Kind = 14 ∨ q.Kind = 15) by omega)]; exact ⟨_, rfl, rfl⟩
                        . rw [if_neg (by simpa using h14)]
                          by_cases h15 : q.Kind = 15
                          . rw [if_pos (by simpa using h15), if_pos (show (q.Kind = 14 ∨ q.Kind = 15) by omega)]; exact ⟨_, rfl, rfl⟩
                          . rw [if_neg (by simpa using h15), if_neg (show ¬ (q.Kind = 14 ∨ q.Kind = 15) by omega)]; exact ⟨_, rfl, rfl⟩
end Go.Rv
namespace Go.Rv
theorem xv64 (o : Option (List UInt8)) (k : UInt8) (hl : (L o).length ≤ 70000) : ∀ (f i : Nat), (L o).length - i ≤ f -> i ≤ (L o).length ->
    (((L o).drop i).contains k = true -> ∃ j : Nat, iter (fn11_l0 o k ((L o).length : Int)) (i : Int) = some (.inl (j : Int))) ∧ (((L o).drop i).contains k = false -> iter (fn11_l0 o k ((L o).length : Int)) (i : Int) = some (.inr ())) := by
  intro f
  induction f with
  | zero =>
    intro i h1 h2
    rw [yv715]
    simp only [fn11_l0, fn11_b0]
    rw [if_neg (by simp; omega), show (L o).drop i = [] from List.drop_eq_nil_of_le (by omega)]
    exact ⟨fun h => (by cases h), fun _ => rfl⟩
  | succ f ih =>
    intro i h1 h2
    rw [yv715]
    simp only [fn11_l0, fn11_b0]
    by_cases hlt : i < (L o).length
    . have e : w64 ((i : Int) + 1) = ((i + 1 : Nat) : Int) := by rw [xv1 (by omega) (by omega)]; simp
      rw [if_pos (by simp; omega), xv7, List.getElem?_eq_getElem hlt, Option.bind_some, List.drop_eq_getElem_cons hlt, List.contains_cons]
      by_cases hc : k = (L o)[i]
      . rw [if_pos (by simpa using hc)]
        refine ⟨fun _ => ⟨i, rfl⟩, fun h => ?_⟩
        rw [show (k == (L o)[i]) = true by simpa using hc] at h
        cases h
      . rw [if_neg (by simpa using hc), show (k == (L o)[i]) = false by simpa using hc, Bool.false_or, e]
        exact ih (i + 1) (by omega) hlt
    . rw [if_neg (by simp; omega), show (L o).drop i = [] from List.drop_eq_nil_of_le (by omega)]
      exact ⟨fun h => (by cases h), fun _ => rfl⟩
theorem xv63 (o : Option (List UInt8)) (k : UInt8) (hl : (L o).length ≤ 70000) : fn9 o k = some ((L o).contains k) := by
  simp only [fn9, fn11]
  have := xv64 o k hl (L o).length 0 (by omega) (by omega)
  rw [show ((0 : Nat) : Int) = 0 from rfl, List.drop_zero] at this
  cases hc : (L o).contains k with
  | true =>
    obtain ⟨j, hj⟩ := this.1 hc
    rw [hj]
    show some (decide ((j : Int) ≥ 0)) = some true
    rw [decide_eq_true (by omega)]
  | false => rw [this.2 hc]; rfl

def xv155 (v k : Int) : List UInt8 := L ((fn92 v k).getD none)
def knB (v k : Int) (c : UInt8) : Bool := (xv155 v k).contains c
def r03N (v k : Int) (c : UInt8) : Option Bool := (fn122 v k).bind fun x4 => (iterN (fn123_l0 c x4) 20 0).bind fun | .inl _ => some true | .inr _ => some false
def bothK (v k : Int) : Prop := ∃ l, fn92 v k = some l ∧ (L l).length ≤ 1000 ∧ ∀ c, r03N v k c = some ((L l).contains c)
theorem xv30 (v k : Int) (h1 : fn92 v k = some none) (h2 : fn122 v k = some none) : bothK v k := ⟨none, h1, by simp [L], fun c => by
  simp only [r03N, h2, Option.bind_some]
  rfl⟩
theorem xv124 : bothK 4 2 := ⟨_, rfl, by decide, all8 (by decide +kernel)⟩
theorem xv125 : bothK 4 4 := ⟨_, rfl, by decide, all8 (by decide +kernel)⟩
theorem xv126 : bothK 4 5 := ⟨_, rfl, by decide, all8 (by decide +kernel)⟩
theorem xv127 : bothK 4 6 := ⟨_, rfl, by decide, all8 (by decide +kernel)⟩
theorem xv128 : bothK 4 7 := ⟨_, rfl, by decide, all8 (by decide +kernel)⟩
theorem xv129 : bothK 4 9 := ⟨_, rfl, by decide, all8 (by decide +kernel)⟩
theorem xv98 : bothK 4 14 := ⟨_, rfl, by decide, all8 (by decide +kernel)⟩
theorem xv130 : bothK 5 2 := ⟨_, rfl, by decide, all8 (by decide +kernel)⟩
theorem xv131 : bothK 5 4 := ⟨_, rfl, by decide, all8 (by decide +kernel)⟩
theorem xv132 : bothK 5 5 := ⟨_, rfl, by decide, all8 (by decide +kernel)⟩
theorem xv133 : bothK 5 6 := ⟨_, rfl, by decide, all8 (by decide +kernel)⟩
theorem xv134 : bothK 5 7 := ⟨_, rfl, by decide, all8 (by decide +kernel)⟩
theorem xv135 : bothK 5 9 := ⟨_, rfl, by decide, all8 (by decide +kernel)⟩
theorem xv99 : bothK 5 11 := ⟨_, rfl, by decide, all8 (by decide +kernel)⟩
theorem xv100 : bothK 5 14 := ⟨_, rfl, by decide, all8 (by decide +kernel)⟩
theorem xv101 : bothK 5 15 := ⟨_, rfl, by decide, all8 (by decide +kernel)⟩

theorem both (v k : Int) : bothK v k := by
  by_cases hv : v = 4
  . subst hv
    by_cases h2 : k = 2
    . subst h2; exact xv124
    by_cases h4 : k = 4
    . subst h4; exact xv125
    by_cases h5 : k = 5
    . subst h5; exact xv126
    by_cases h6 : k = 6
    . subst h6; exact xv127
    by_cases h7 : k = 7
    . subst h7; exact xv128
    by_cases h9 : k = 9
    . subst h9; exact xv129
    by_cases h14 : k = 14
    . subst h14; exact xv98
    exact xv30 4 k (by simp [fn92, fn45, fn45_c0, h2, h4, h5, h6, h7, h9, h14]) (by simp [fn122, fn122_c0, h2, h4, h5, h6, h7, h9, h14])
  . by_cases hv5 : v = 5
    . subst hv5
      by_cases h2 : k = 2
      . subst h2; exact xv130
      by_cases h4 : k = 4
      . subst h4; exact xv131
      by_cases h5 : k = 5
      . subst h5; exact xv132
      by_cases h6 : k = 6
      . subst h6; exact xv133
      by_cases h7 : k = 7
      . subst h7; exact xv134
      by_cases h9 : k = 9
      . subst h9; exact xv135
      by_cases h11 : k = 11
      . subst h11; exact xv99
      by_cases h14 : k = 14
      . subst h14; exact xv100
      by_cases h15 : k = 15
      . subst h15; exact xv101
      exact xv30 5 k (by simp [fn92, fn57, fn57_c0, fn57_c1, h2, h4, h5, h6, h7, h9, h11, h14, h15]) (by simp [fn122, fn122_c1, fn122_c2, h2, h4, h5, h6, h7, h9, h11, h14, h15])
    . exact xv30 v k (by simp [fn92, hv, hv5]) (by simp [fn122, hv, hv5])
theorem xv81 (v k : Int) (c : UInt8) : fn58 v k c = some (knB v k c) := by
  obtain ⟨l, h1, h2, h3⟩ := both v k
  simp only [fn58, h1, Option.bind_some, knB, xv155, Option.getD_some]
  rw [xv63 l c (by omega)]
  rfl
end Go.Rv
namespace Go.Rv
-- ---------- the one of an id ----------
def hasId (l : List fn153) (id : UInt8) : Bool := l.any (fun a => decide (a.Id = id))
def zP : fn153 := ⟨0, 0, [], []⟩
def getN (l : List fn153) (id : UInt8) : fn153 × Bool := match l.find? (fun a => decide (a.Id = id)) with | some a => (a, true) | none => (zP, false)
theorem xv140 (l : List fn153) (id : UInt8) : (getN l id).2 = hasId l id := by
  simp only [getN, hasId]
  cases h : l.find? (fun a => decide (a.Id = id)) with
  | none =>
    have := List.find?_eq_none.1 h
    symm
    simp only [List.any_eq_false]
    exact fun x hx => this x hx
  | some a =>
    symm
    simp only [List.any_eq_true]
    exact ⟨a, List.mem_of_find?_eq_some h, List.find?_some (p := fun a : fn153 => decide (a.Id = id)) h⟩
theorem xv114 (id : UInt8) : ∀ (l : List fn132) (s : Nat),
    ((l.find? (fun a => decide (a.Id = id)) = none) ∧ runL (fun (s : Nat) (a : fn132) => if a.Id = id then (.inr (.inl ((s : Int), id)) : Nat ⊕ ((Int × UInt8) ⊕ UInt8)) else .inl (s + 1)) (fun _ => .inr id) s l = .inr id) ∨
    (∃ k a, l[k]? = some a ∧ l.find? (fun a => decide (a.Id = id)) = some a ∧ runL (fun (s : Nat) (a : fn132) => if a.Id = id then (.inr (.inl ((s : Int), id)) : Nat ⊕ ((Int × UInt8) ⊕ UInt8)) else .inl (s + 1)) (fun _ => .inr id) s l = .inl (((s + k : Nat) : Int), id))
  | [], s => .inl ⟨rfl, rfl⟩
  | a :: l, s => by
    by_cases h : a.Id = id
    . right
      refine ⟨0, a, rfl, by rw [List.find?_cons, decide_eq_true h], ?_⟩
      simp only [runL]
      rw [if_pos h]
      rfl
    . rcases xv114 id l (s + 1) with ⟨h1, h2⟩ | ⟨k, x, h1, h2, h3⟩
      . left
        refine ⟨by rw [List.find?_cons, decide_eq_false h]; exact h1, ?_⟩
        simp only [runL]
        rw [if_neg h]
        exact h2
      . right
        refine ⟨k + 1, x, by simpa using h1, by rw [List.find?_cons, decide_eq_false h]; exact h2, ?_⟩
        simp only [runL]
        rw [if_neg h]
        refine h3.trans ?_
        congr 2
        omega
theorem xv55 (o : Option (List fn132)) (id : UInt8) (hl : (L o).length ≤ 100000) : ∃ p, fn108 o id = some (p, (getN ((L o).map pR) id).2) ∧ pR p = (getN ((L o).map pR) id).1 := by
  simp only [fn108, fn3]
  have := xv20 (L o) (fn3_l0 o ((L o).length : Int)) (fun (_ : Nat) i => (i, id)) (fun (s : Nat) (a : fn132) => if a.Id = id then (.inr (.inl ((s : Int), id)) : Nat ⊕ ((Int × UInt8) ⊕ UInt8)) else .inl (s + 1)) (fun _ => .inr id) (fun i s => s = i)
    (fun s i hi hI => by
      subst hI
      simp only [fn3_l0, fn3_b0, fn69]
      rw [if_pos (by simp; omega), xv7, List.getElem?_eq_getElem hi]
      simp only [Option.bind_some]
      by_cases h : (L o)[s].Id = id
      . rw [if_pos (by simpa using h), if_pos h]; rfl
      . rw [if_neg (by simpa using h), if_neg h, xv4 (by omega)]; rfl)
    (fun s i hi s' hI hg => by
      subst hI
      split at hg
      . cases hg
      . simpa using hg.symm)
    (fun s hI => by
      simp only [fn3_l0, fn3_b0]
      rw [if_neg (by simp)])
    0 rfl
  rw [this]
  have hmap : ((L o).map pR).find? (fun a => decide (a.Id = id)) = ((L o).find? (fun a => decide (a.Id = id))).map pR := by rw [List.find?_map]; rfl
  rcases xv114 id (L o) 0 with ⟨h1, h2⟩ | ⟨k, x, h1, h2, h3⟩
  . rw [h2]
    simp only [Option.bind_some]
    rw [if_pos (by simp)]
    simp only [getN, hmap, h1, Option.map_none]
    exact ⟨_, rfl, rfl⟩
  . rw [h3]
    simp only [Option.bind_some, Nat.zero_add]
    rw [if_neg (by simp), xv7, h1]
    simp only [getN, hmap, h2, Option.map_some, Option.bind_some]
    exact ⟨_, rfl, rfl⟩
def ordB (k : Int) (prev : Option fn153) (a : fn153) : Bool := match prev with
  | none => true
  | some p => !decide (p.Id > a.Id) && (!decide (p.Id = a.Id) || xv83 a.Id k)
def chk1 (k : Int) (prev : Option fn153) (a : fn153) : Bool := xv68 a.Id a.N a.A a.B && forB a.Id k && ordB k prev a
def chkL (k : Int) : Option fn153 -> List fn153 -> Bool
  | _, [] => true
  | p, a :: l => chk1 k p a && chkL k (some a) l
def xv5 (k : Int) (l : List fn153) : Bool := !decide (l.length > 1024) && chkL k none l && (hasId l 21 || !hasId l 22)
def xv108 {α : Type} (l : List α) (i : Nat) : Option α := if i = 0 then none else l[i - 1]?
theorem xv111 (k : Int) : ∀ (l : List fn132) (p : Option fn132), runL (fun (p : Option fn132) (a : fn132) => if chk1 k (p.map pR) (pR a) then (.inl (some a) : Option fn132 ⊕ (fn132 ⊕ Unit)) else .inr (.inl a)) (fun _ => .inr ()) p l = .inr () ∧ chkL k (p.map pR) (l.map pR) = true ∨ (∃ a, runL (fun (p : Option fn132) (a : fn132) => if chk1 k (p.map pR) (pR a) then (.inl (some a) : Option fn132 ⊕ (fn132 ⊕ Unit)) else .inr (.inl a)) (fun _ => .inr ()) p l = .inl a) ∧ chkL k (p.map pR) (l.map pR) = false
  | [], p => .inl ⟨rfl, rfl⟩
  | a :: l, p => by
    simp only [runL, List.map_cons, chkL]
    by_cases h : chk1 k (p.map pR) (pR a) = true
    . rw [if_pos h, h, Bool.true_and]
      exact xv111 k l (some a)
    . right
      rw [if_neg h]
      refine ⟨⟨a, rfl⟩, ?_⟩
      rw [show chk1 k (p.map pR) (pR a) = false by simpa using h, Bool.false_and]
theorem xv54 (k : Int) (o : Option (List fn132)) (hl : (L o).length ≤ 100000) (ht : ∀ x ∈ L o, x.A.length ≤ 9000 ∧ x.B.length ≤ 9000) : fn70 k o = some (xv5 k ((L o).map pR)) := by
  simp only [fn70]
  by_cases hlen : (L o).length > 1024
  . rw [if_pos (by simp; omega)]
    simp only [xv5, List.length_map]
    rw [decide_eq_true hlen]
    rfl
  . rw [if_neg (by simp; omega)]
    have := xv20 (L o) (fn70_l0 k o o ((L o).length : Int)) (fun (_ : Option fn132) i => i) (fun (p : Option fn132) (a : fn132) => if chk1 k (p.map pR) (pR a) then (.inl (some a) : Option fn132 ⊕ (fn132 ⊕ Unit)) else .inr (.inl a)) (fun _ => .inr ()) (fun i s => s = xv108 (L o) i)
      (fun s i hi hI => by
        subst hI
        have hx := ht _ (List.getElem_mem hi)
        simp only [fn70_l0, fn70_b0]
        rw [if_pos (by simp; omega), xv7, List.getElem?_eq_getElem hi]
        simp only [Option.bind_some]
        rw [xv109 _ hx.1 hx.2, xv4 (by omega)]
        simp only [Option.bind_some, xv116]
        by_cases hv : xv68 (L o)[i].Id (L o)[i].N (L o)[i].A (L o)[i].B = true
        . rw [if_neg (by simp [hv])]
          by_cases hf : forB (L o)[i].Id k = true
          . rw [if_neg (by simp [hf])]
            have hc : ∀ p, chk1 k p (pR (L o)[i]) = ordB k p (pR (L o)[i]) := fun p => by
              simp only [chk1]
              rw [show xv68 (pR (L o)[i]).Id (pR (L o)[i]).N (pR (L o)[i]).A (pR (L o)[i]).B = true from hv, show forB (pR (L o)[i]).Id k = true from hf]
              simp
            rw [hc]
            cases i with
            | zero => rw [if_pos (by simp)]; rfl
            | succ j =>
              have hj : j < (L o).length := by omega
              rw [if_neg (by simp; omega), show w64 (((j + 1 : Nat) : Int) - 1) = (j : Int) from by rw [xv1 (by omega) (by omega)]; omega, xv7, List.getElem?_eq_getElem hj]
              simp only [Option.bind_some, xv107]
              have ep : (xv108 (L o) (j + 1)).map pR = some (pR (L o)[j]) := by
                simp only [xv108, Nat.add_one_sub_one]
                rw [if_neg (by omega), List.getElem?_eq_getElem hj]
                rfl
              rw [ep]
              have eo : ordB k (some (pR (L o)[j])) (pR (L o)[j + 1]) = (!decide ((L o)[j].Id > (L o)[j + 1].Id) && (!decide ((L o)[j].Id = (L o)[j + 1].Id) || xv83 (L o)[j + 1].Id k)) := rfl
              by_cases h1 : (L o)[j].Id > (L o)[j + 1].Id
              . rw [if_pos (by simpa using h1), if_neg (by rw [eo]; simp [h1])]; rfl
              . rw [if_neg (by simpa using h1)]
                by_cases h2 : (L o)[j].Id = (L o)[j + 1].Id
                . rw [if_pos (by simpa using h2)]
                  by_cases h3 : xv83 (L o)[j + 1].Id k = true
                  . rw [if_neg (by simp [h3]), if_pos (by rw [eo]; simp [h1, h3])]; rfl
                  . rw [if_pos (by simpa using h3), if_neg (by rw [eo]; simp [h2, h3])]; rfl
                . rw [if_neg (by simpa using h2), if_pos (by rw [eo]; simp [h1, h2])]; rfl
          . rw [if_pos (by simpa using hf), if_neg (by simp only [chk1]; intro q; simp only [Bool.and_eq_true] at q; exact hf q.1.2)]; rfl
        . rw [if_pos (by simpa using hv), if_neg (by simp only [chk1]; intro q; simp only [Bool.and_eq_true] at q; exact hv q.1.1)]; rfl)
      (fun s i hi s' hI hg => by
        split at hg
        . simp only [Sum.inl.injEq] at hg
          rw [← hg]
          simp only [xv108, Nat.add_one_sub_one]
          rw [if_neg (by omega), List.getElem?_eq_getElem hi]
        . cases hg)
      (fun s hI => by
        simp only [fn70_l0, fn70_b0]
        rw [if_neg (by simp)])
      none rfl
    rw [this]
    have hd : decide (((L o).map pR).length > 1024) = false := decide_eq_false (by simpa using hlen)
    obtain ⟨p1, g1, _⟩ := xv55 o 22 hl
    obtain ⟨p2, g2, _⟩ := xv55 o 21 hl
    rcases xv111 k (L o) none with ⟨e1, e2⟩ | ⟨⟨a, e1⟩, e2⟩
    . have e2 : chkL k none ((L o).map pR) = true := e2
      rw [e1]
      simp only [Option.bind_some]
      rw [g1]
      simp only [Option.bind_some]
      rw [g2]
      simp only [Option.bind_some, xv140]
      simp only [xv5]
      rw [hd, e2]
      cases hasId ((L o).map pR) 21 <;> simp
    . have e2 : chkL k none ((L o).map pR) = false := e2
      rw [e1]
      simp only [xv5]
      rw [hd, e2]
      rfl
end Go.Rv
namespace Go.Rv
-- ---------- filters ----------
def optN (v k : Int) (sh : Bool) (o : UInt8) : Bool :=
  !decide ((o &&& (3 : UInt8)) > (2 : UInt8)) && !decide (o ≥ (48 : UInt8)) && (if k = 10 then decide (o = 0) else if v = 4 then decide (o ≤ (2 : UInt8)) else (!sh || decide ((o &&& (4 : UInt8)) = 0)))
def wantN (v k : Int) (f : fn104) : Bool := xv17 f.Text && optN v k (xv37 f.Text).2.2 f.Opt
theorem xv171 (v k : Int) (f : fn53) (hl : f.Text.length ≤ 9000) : fn16 f v k = some (wantN v k (fR f)) := by
  simp only [fn16, xv96 _ hl, xv38 _ hl, Option.bind_some, fn16_c0, fn16_c1]
  have e : wantN v k (fR f) = (xv17 f.Text && optN v k (xv37 f.Text).2.2 f.Opt) := rfl
  rw [e]
  simp only [optN]
  cases hf : xv17 f.Text with
  | false => simp
  | true =>
    by_cases h3 : (f.Opt &&& (3 : UInt8)) > (2 : UInt8)
    . simp [h3]
    . by_cases h48 : f.Opt ≥ (48 : UInt8)
      . simp [h3, h48]
      . by_cases hk : k = 10
        . simp [h3, h48, hk]
        . by_cases hv : v = 4
          . simp [h3, h48, hk, hv]
          . cases hs : (xv37 f.Text).2.2 <;> simp [h3, h48, hk, hv]
theorem xv136 {α : Type} (want : α -> Bool) (v : Int) (p : fn54) : ∀ (l : List α) (s : Nat),
    (l.all want = true ∧ runL (fun (s : Nat) (a : α) => if want a then .inl (s + 1) else (.inr (.inl ((s : Int), v, p)) : Nat ⊕ ((Int × Int × fn54) ⊕ (Int × fn54)))) (fun _ => .inr (v, p)) s l = .inr (v, p)) ∨
    (l.all want = false ∧ ∃ k : Nat, runL (fun (s : Nat) (a : α) => if want a then .inl (s + 1) else (.inr (.inl ((s : Int), v, p)) : Nat ⊕ ((Int × Int × fn54) ⊕ (Int × fn54)))) (fun _ => .inr (v, p)) s l = .inl ((k : Int), v, p))
  | [], s => .inl ⟨rfl, rfl⟩
  | a :: l, s => by
    by_cases h : want a = true
    . have e : (a :: l).all want = l.all want := by rw [List.all_cons, h, Bool.true_and]
      rw [e]
      simp only [runL]
      rw [if_pos h]
      exact xv136 want v p l (s + 1)
    . right
      refine ⟨by rw [List.all_cons, show want a = false by simpa using h, Bool.false_and], s, ?_⟩
      simp only [runL]
      rw [if_neg h]
theorem cf_eq (o : Option (List fn53)) (v : Int) (p : fn54) (hl : (L o).length ≤ 100000) (ht : ∀ f ∈ L o, f.Text.length ≤ 9000) :
    fn0 o v p = some (!((L o).map fR).all (wantN v p.Kind), v, p) := by
  simp only [fn0, fn1]
  have hall : ((L o).map fR).all (wantN v p.Kind) = (L o).all (fun f => wantN v p.Kind (fR f)) := by rw [List.all_map]; rfl
  have := xv20 (L o) (fn1_l0 o ((L o).length : Int)) (fun (_ : Nat) i => (i, v, p)) (fun (s : Nat) (a : fn53) => if wantN v p.Kind (fR a) then .inl (s + 1) else (.inr (.inl ((s : Int), v, p)) : Nat ⊕ ((Int × Int × fn54) ⊕ (Int × fn54)))) (fun _ => .inr (v, p)) (fun i s => s = i)
    (fun s i hi hI => by
      subst hI
      simp only [fn1_l0, fn1_b0, fn25]
      rw [if_pos (by simp; omega), xv7, List.getElem?_eq_getElem hi]
      simp only [Option.bind_some]
      rw [xv171 v _ _ (ht _ (List.getElem_mem hi))]
      simp only [Option.bind_some]
      rw [xv4 (by omega)]
      by_cases h : wantN v p.Kind (fR (L o)[s]) = true
      . have e : wantN v p.Kind (fR ⟨(L o)[s].Text, (L o)[s].Opt⟩) = true := h
        rw [if_neg (by simp [e]), if_pos h]; rfl
      . have e : wantN v p.Kind (fR ⟨(L o)[s].Text, (L o)[s].Opt⟩) = false := by simpa using h
        rw [if_pos (by simp [e]), if_neg h]; rfl)
    (fun s i hi s' hI hg => by
      subst hI
      split at hg
      . simpa using hg.symm
      . cases hg)
    (fun s hI => by
      simp only [fn1_l0, fn1_b0]
      rw [if_neg (by simp)]) 0 rfl
  rw [this, hall]
  rcases xv136 (fun f => wantN v p.Kind (fR f)) v p (L o) 0 with ⟨e1, e2⟩ | ⟨e1, k, e2⟩
  . rw [e1, e2]; rfl
  . rw [e1, e2]
    simp only [Option.bind_some]
    rw [decide_eq_true (show (k : Int) ≥ 0 by omega)]
    rfl
theorem cc_eq (o : Option (List UInt8)) (v : Int) (p : fn54) (hl : (L o).length ≤ 100000) :
    fn5 o v p = some (!(L o).all (knB v p.Kind), v, p) := by
  simp only [fn5, fn8]
  have := xv20 (L o) (fn8_l0 o ((L o).length : Int)) (fun (_ : Nat) i => (i, v, p)) (fun (s : Nat) (a : UInt8) => if knB v p.Kind a then .inl (s + 1) else (.inr (.inl ((s : Int), v, p)) : Nat ⊕ ((Int × Int × fn54) ⊕ (Int × fn54)))) (fun _ => .inr (v, p)) (fun i s => s = i)
    (fun s i hi hI => by
      subst hI
      simp only [fn8_l0, fn8_b0, fn35]
      rw [if_pos (by simp; omega), xv7, List.getElem?_eq_getElem hi]
      simp only [Option.bind_some]
      rw [xv81]
      simp only [Option.bind_some]
      rw [xv4 (by omega)]
      by_cases h : knB v p.Kind (L o)[s] = true
      . rw [if_neg (by simp [h]), if_pos h]; rfl
      . rw [if_pos (by simpa using h), if_neg h]; rfl)
    (fun s i hi s' hI hg => by
      subst hI
      split at hg
      . simpa using hg.symm
      . cases hg)
    (fun s hI => by
      simp only [fn8_l0, fn8_b0]
      rw [if_neg (by simp)]) 0 rfl
  rw [this]
  rcases xv136 (knB v p.Kind) v p (L o) 0 with ⟨e1, e2⟩ | ⟨e1, k, e2⟩
  . rw [e1, e2]; rfl
  . rw [e1, e2]
    simp only [Option.bind_some]
    rw [decide_eq_true (show (k : Int) ≥ 0 by omega)]
    rfl
def xv13 (n : Nat) : Bool := decide (1 ≤ n) && decide (n ≤ 1024)
theorem xv62 (n : Nat) : fn46 (n : Int) = some (xv13 n) := by
  simp only [fn46, xv13]
  by_cases h : 1 ≤ n
  . rw [if_pos (by simp; omega), decide_eq_true h, Bool.true_and]
    congr 1
    exact decide_eq_decide.2 (by omega)
  . rw [if_neg (by simp; omega), decide_eq_false h, Bool.false_and]
def xv23 (v : Int) (p : fn105) : Bool := xv13 (L p.Filters).length && (L p.Filters).all (wantN v p.Kind)
def xv103 (v : Int) (p : fn105) : Bool := if v = 4 ∧ p.Kind = 11 then decide ((L p.Codes).length = 0) else xv13 (L p.Codes).length && (L p.Codes).all (knB v p.Kind)
structure MidP (q : fn54) : Prop extends FewP q where
  ft : ∀ f ∈ L q.Filters, f.Text.length ≤ 9000
  pt : ∀ x ∈ L q.Props, x.A.length ≤ 9000 ∧ x.B.length ≤ 9000
  wt : ∀ x ∈ L q.WillProps, x.A.length ≤ 9000 ∧ x.B.length ≤ 9000
  cl : q.Client.length ≤ 9000
  tp : q.Topic.length ≤ 9000
  wo : q.WillTopic.length ≤ 9000
  us : q.User.length ≤ 9000
theorem xv77 (v : Int) (q : fn54) (h : MidP q) : fn34 v q = some (xv23 v (nP q)) := by
  have h3 := h.fl
  simp only [fn34]
  rw [xv62]
  simp only [Option.bind_some]
  have e : xv23 v (nP q) = (xv13 (L q.Filters).length && ((L q.Filters).map fR).all (wantN v q.Kind)) := by
    show (xv13 ((L q.Filters).map fR).length && _) = _
    rw [List.length_map]; rfl
  rw [e]
  cases xv13 (L q.Filters).length with
  | false => rfl
  | true =>
    rw [if_pos rfl, cf_eq _ _ _ (by omega) h.ft]
    simp
theorem xv138 (v : Int) (q : fn54) (h : MidP q) : fn61 v q = some (xv103 v (nP q)) := by
  have h4 := h.cd
  have c0 : ∀ (k : Bool -> Int -> fn54 -> Option Bool) (hk : ∀ b v p, k b v p = some b), fn61_c0 v q k = some (xv13 (L q.Codes).length && (L q.Codes).all (knB v q.Kind)) := by
    intro k hk
    simp only [fn61_c0]
    rw [xv62]
    simp only [Option.bind_some]
    cases xv13 (L q.Codes).length with
    | false => rw [if_neg (by simp), hk]; rfl
    | true =>
      rw [if_pos rfl, cc_eq _ _ _ h4]
      simp only [Option.bind_some, hk]
      simp
  have e : xv103 v (nP q) = if v = 4 ∧ q.Kind = 11 then decide ((L q.Codes).length = 0) else xv13 (L q.Codes).length && (L q.Codes).all (knB v q.Kind) := rfl
  rw [e]
  simp only [fn61]
  by_cases hv : v = 4
  . rw [if_pos (by simpa using hv)]
    by_cases hk : q.Kind = 11
    . rw [if_pos (by simpa using hk), if_pos ⟨hv, hk⟩]
      congr 1
      exact decide_eq_decide.2 (by omega)
    . rw [if_neg (by simpa using hk), if_neg (fun h => hk h.2), c0 _ (fun _ _ _ => rfl)]
  . rw [if_neg (by simpa using hv), if_neg (fun h => hv h.1), c0 _ (fun _ _ _ => rfl)]
-- ---------- publish, connect ----------
def pubN (v : Int) (p : fn105) : Bool :=
  !decide (p.QoS > 2) && !(p.Dup && decide (p.QoS = 0)) && (decide (p.Id = 0) == decide (p.QoS = 0)) && (nameB p.Topic || (decide (v = 5) && decide (p.Topic = []) && hasId (L p.Props) 35))
theorem xv89 (v : Int) (q : fn54) (h : MidP q) : fn33 v q = some (pubN v (nP q)) := by
  have h2 := h.pp
  obtain ⟨p1, g1, _⟩ := xv55 q.Props 35 (by omega)
  have e : pubN v (nP q) = (!decide (q.QoS > 2) && !(q.Dup && decide (q.QoS = 0)) && (decide (q.Id = 0) == decide (q.QoS = 0)) && (nameB q.Topic || (decide (v = 5) && decide (q.Topic = []) && hasId ((L q.Props).map pR) 35))) := rfl
  rw [e]
  simp only [fn33, fn33_c0, g1, xv50 _ h.tp, Option.bind_some, xv140]
  by_cases a1 : q.QoS > 2
  . simp [a1]
  . cases a2 : q.Dup <;> by_cases a3 : q.QoS = 0 <;> by_cases a4 : q.Id = 0 <;> cases a5 : nameB q.Topic <;> by_cases a6 : v = 5 <;> by_cases a7 : q.Topic = [] <;> simp [a1, a3, a4, a6, a7]
def conN (v : Int) (p : fn105) : Bool :=
  !(p.HasWill && (decide (p.WillQoS > 2) || !nameB p.WillTopic)) && (decide (v = 5) || ((p.HasUser || !p.HasPass) && (p.Clean || !decide (p.Client = []))))
theorem xv74 (v : Int) (q : fn54) (h : MidP q) : fn32 v q = some (conN v (nP q)) := by
  have e : conN v (nP q) = (!(q.HasWill && (decide (q.WillQoS > 2) || !nameB q.WillTopic)) && (decide (v = 5) || ((q.HasUser || !q.HasPass) && (q.Clean || !decide (q.Client = []))))) := rfl
  rw [e]
  simp only [fn32, fn32_c0, xv50 _ h.wo, Option.bind_some]
  cases a1 : q.HasWill <;> by_cases a2 : q.WillQoS > 2 <;> cases a3 : nameB q.WillTopic <;> by_cases a4 : v = 5 <;> cases a5 : q.HasUser <;> cases a6 : q.HasPass <;> cases a7 : q.Clean <;> simp [a2, a4]
end Go.Rv
namespace Go.Rv
def vb (n : Nat) : List UInt8 := if h : n < 128 then [UInt8.ofNat n] else UInt8.ofNat (n % 128 + 128) :: vb (n / 128)
theorem vb_lt {n : Nat} (h : n < 128) : vb n = [UInt8.ofNat n] := by rw [vb, dif_pos h]
theorem vb_ge {n : Nat} (h : ¬ n < 128) : vb n = UInt8.ofNat (n % 128 + 128) :: vb (n / 128) := by rw [vb, dif_neg h]
theorem xv52 : ∀ (k n : Nat), n < 128 ^ k -> (vb n).length ≤ k + 1
  | 0, n, h => by rw [vb_lt (by omega)]; simp
  | k + 1, n, h => by
    by_cases hn : n < 128
    . rw [vb_lt hn]; simp
    . rw [vb_ge hn]
      have := xv52 k (n / 128) (by rw [Nat.pow_succ] at h; exact Nat.div_lt_of_lt_mul (by omega))
      simp; omega
theorem xv119 (x : UInt32) : x.toNat < 128 ^ 5 := by
  have := x.toNat_lt
  have e : (128 : Nat) ^ 5 = 34359738368 := by decide
  omega
theorem xv61 : ∀ (m : Nat) (x : UInt32) (out : Option (List UInt8)), x.toNat < m -> (L out).length + (vb x.toNat).length ≤ 140737488355328 ->
    ((iter fn135_l0 (x, out)).bind fun (x9, x10) => (appO 1 x10 (some [u8 (x9.toNat : Int)])).bind fun x11 => some x11) = some (some (L out ++ vb x.toNat))
  | 0, x, out, h, _ => by omega
  | m + 1, x, out, h, hr => by
    have hx := x.toNat_lt
    rw [yv715]
    simp only [fn135_l0, fn135_b0]
    by_cases h1 : 128 ≤ x.toNat
    . have hge : (x ≥ (128 : UInt32)) := by show (128 : UInt32) ≤ x; rw [UInt32.le_iff_toNat_le]; exact h1
      rw [vb_ge (by omega)] at hr ⊢
      rw [if_pos (by simpa using hge), xv70 (by simp [room] at hr ⊢; omega) (by simp [room] at hr ⊢; omega), Option.bind_some]
      simp only [Option.bind]
      have e7 : (((7 : UInt64).toNat : Int)) = ((7 : Nat) : Int) := rfl
      have hs : (yv485 x ((7 : UInt64).toNat : Int)).toNat = x.toNat / 128 := by rw [e7, xv29 (by omega)]
      have ih := xv61 m (yv485 x ((7 : UInt64).toNat : Int)) (some (L out ++ [u8 (x.toNat : Int) ||| 128])) (by rw [hs]; omega) (by rw [hs]; simp [L] at hr ⊢; omega)
      simp only [Option.bind] at ih
      rw [ih, hs]
      have e8 : (u8 (x.toNat : Int) ||| 128) = UInt8.ofNat (x.toNat % 128 + 128) := by
        rw [eq8, hi7, u8_toNat']
        simp only [UInt8.toNat_ofNat']
        omega
      rw [e8]
      simp [L]
    . have hge : ¬ (x ≥ (128 : UInt32)) := by intro hh; have := UInt32.le_iff_toNat_le.1 hh; exact h1 this
      rw [vb_lt (by omega)] at hr ⊢
      rw [if_neg (by simpa using hge)]
      simp only [Option.bind]
      rw [xv70 (by simp [room] at hr ⊢; omega) (by simp [room] at hr ⊢; omega)]
      have e8 : u8 (x.toNat : Int) = UInt8.ofNat x.toNat := by rw [eq8, u8_toNat']; simp only [UInt8.toNat_ofNat']; omega
      simp [e8]
theorem xv160 {n : UInt32} : n > (268435455 : UInt32) ↔ 268435455 < n.toNat := UInt32.lt_iff_toNat_lt
theorem xv39 (b : Option (List UInt8)) (h : (L b).length ≤ 140737488355328) : fn14 b = some b := by
  cases b with
  | none => rfl
  | some l =>
    simp only [fn14]
    rw [if_neg (by simp), xv16 (by simpa [room, L] using h) (by simpa [room, L] using h)]
    rfl
theorem xv60 (b : Option (List UInt8)) (n : UInt32) (h : (L b).length ≤ 140737488355000) : fn135 b n = some (if 268435455 < n.toNat then b else some (L b ++ vb n.toNat)) := by
  simp only [fn135]
  rw [xv39 b (by omega), Option.bind_some]
  have hl := xv52 5 n.toNat (xv119 n)
  by_cases hn : 268435455 < n.toNat
  . rw [if_pos (by simpa [xv160] using hn), if_pos hn]
  . rw [if_neg (by simpa [xv160] using hn), if_neg hn]
    exact xv61 _ n b (Nat.lt_succ_self _) (by omega)
def be : Nat -> Nat -> List UInt8
  | 0, _ => []
  | k + 1, n => UInt8.ofNat (n / 256 ^ k % 256) :: be k n
theorem xv2 : ∀ (k n : Nat), (be k n).length = k
  | 0, _ => rfl
  | k + 1, n => by simp [be, xv2 k n]
theorem be1 (n : Nat) : be 1 n = [UInt8.ofNat (n % 256)] := by simp [be]
theorem be2 (n : Nat) : be 2 n = [UInt8.ofNat (n / 256 % 256), UInt8.ofNat (n % 256)] := by simp [be]
theorem be4 (n : Nat) : be 4 n = [UInt8.ofNat (n / 16777216 % 256), UInt8.ofNat (n / 65536 % 256), UInt8.ofNat (n / 256 % 256), UInt8.ofNat (n % 256)] := by simp [be]
theorem xv168 {n m : Nat} (h : n % 256 = m % 256) : u8 (n : Int) = UInt8.ofNat m := by
  rw [eq8, u8_toNat']; simp only [UInt8.toNat_ofNat']; omega
def lim : Nat := 140737488300000
theorem clone_eq' (b : Option (List UInt8)) (h : (L b).length ≤ lim) : fn14 b = some b := xv39 b (by simp only [lim] at h; omega)
theorem xv72 (b : Option (List UInt8)) (a : UInt8) (l : List UInt8) (h : (L b).length + l.length + 1 ≤ lim) : appO 1 b (some (a :: l)) = some (some (L b ++ a :: l)) := by
  simp only [lim] at h
  exact xv70 (by simp [room]; omega) (by simp [room]; omega)
theorem xv15 (b : Option (List UInt8)) (c : UInt8) (h : (L b).length + 1 ≤ lim) : fn109 b c = some (some (L b ++ be 1 c.toNat)) := by
  simp only [fn109]
  have hc := c.toNat_lt
  rw [clone_eq' b (by omega), Option.bind_some, xv72 b c [] (by simpa using h), be1, Nat.mod_eq_of_lt (by omega), UInt8.ofNat_toNat]; rfl
theorem xv27 (b : Option (List UInt8)) (n : UInt16) (h : (L b).length + 2 ≤ lim) : fn134 b n = some (some (L b ++ be 2 n.toNat)) := by
  simp only [fn134]
  have e8 : (((8 : UInt64).toNat : Int)) = ((8 : Nat) : Int) := rfl
  rw [clone_eq' b (by omega), Option.bind_some, e8, xv72 b _ _ (by simpa using h), be2, xv66 (by omega), xv168 (m := n.toNat / 256 % 256) (by omega), xv168 (m := n.toNat % 256) (by omega)]; rfl
theorem xv150 (b : Option (List UInt8)) (n : UInt32) (h : (L b).length + 4 ≤ lim) : fn110 b n = some (some (L b ++ be 4 n.toNat)) := by
  simp only [fn110]
  have hn := n.toNat_lt
  have e16 : (((16 : UInt64).toNat : Int)) = ((16 : Nat) : Int) := rfl
  rw [e16, xv27 b _ (by omega), Option.bind_some, xv27 _ _ (by simp [L, xv2] at h ⊢; omega), be2, be2, be4, u16_toNat', u16_toNat', xv29 (by omega)]
  simp only [Option.bind_some, L, Option.getD_some, List.append_assoc, List.cons_append, List.nil_append]
  congr 3
  have e1 : (((n.toNat / 2 ^ 16 : Nat) : Int) % 65536).toNat = n.toNat / 65536 := by omega
  have e2 : ((n.toNat : Int) % 65536).toNat = n.toNat % 65536 := by omega
  rw [e1, e2, show n.toNat / 65536 / 256 = n.toNat / 16777216 by omega, show n.toNat % 65536 / 256 % 256 = n.toNat / 256 % 256 by omega, show n.toNat % 65536 % 256 = n.toNat % 256 by omega]
theorem xv167 {n : Nat} (h : n < 65536) : (u16 (n : Int)).toNat = n := by rw [u16_toNat']; omega
theorem xv11 (b : Option (List UInt8)) (x : List UInt8) (hx : x.length ≤ 65535) (h : (L b).length + x.length + 2 ≤ lim) : fn136 b x = some (some (L b ++ (be 2 x.length ++ x))) := by
  simp only [fn136]
  have hl : (L b).length + x.length + 2 ≤ 140737488300000 := h
  rw [if_neg (by simp; omega), xv27 b _ (by omega), Option.bind_some, xv167 (by omega), xv16 (by simp [room, L, xv2] at hl ⊢; omega) (by simp [room, L, xv2] at hl ⊢; omega)]
  simp [L]
end Go.Rv
namespace Go.Rv
def binN (x : List UInt8) : List UInt8 := be 2 x.length ++ x
def oneN (p : fn153) : List UInt8 := p.Id :: (
  if typeT p.Id = 1 then be 1 p.N.toNat else if typeT p.Id = 2 then be 2 p.N.toNat else if typeT p.Id = 3 then be 4 p.N.toNat
  else if typeT p.Id = 4 then (if 268435455 < p.N.toNat then [] else vb p.N.toNat) else if typeT p.Id = 7 then binN p.A ++ binN p.B else binN p.A)
def secN (l : List fn153) : List UInt8 := l.flatMap oneN
def okB (p : fn153) : Bool := xv46 p.Id p.N p.A p.B
theorem xv170 (n : UInt32) : (vb n.toNat).length ≤ 6 := xv52 5 n.toNat (xv119 n)
theorem xv84 (p : fn153) (ha : p.A.length ≤ 9000) (hb : p.B.length ≤ 9000) : (oneN p).length ≤ 18100 := by
  have := xv170 p.N
  simp only [oneN, binN]
  split
  . simp [xv2]
  . split
    . simp [xv2]
    . split
      . simp [xv2]
      . split
        . split <;> simp <;> omega
        . split <;> simp [xv2] <;> omega
theorem xv173 (n : Nat) : be 1 (u8 (n : Int)).toNat = be 1 n := by
  rw [be1, be1, u8_toNat']
  congr 2
  omega
theorem xv153 (n : Nat) : be 2 (u16 (n : Int)).toNat = be 2 n := by
  have h : (u16 (n : Int)).toNat = n % 65536 := by rw [u16_toNat']; omega
  have e1 : n % 65536 / 256 % 256 = n / 256 % 256 := by omega
  have e2 : n % 65536 % 256 = n % 256 := by omega
  rw [be2, be2, h, e1, e2]
theorem xv162 (b : Option (List UInt8)) (p : fn132) (ha : p.A.length ≤ 9000) (hb : p.B.length ≤ 9000) (h : (L b).length ≤ 130000000000000) :
    ∃ o, fn111 b p = some o ∧ L o = L b ++ oneN (pR p) := by
  have hl : lim = 140737488300000 := rfl
  simp only [fn111]
  rw [xv72 b p.Id [] (by rw [hl]; simp; omega)]
  simp only [Option.bind_some, xv44]
  have e : oneN (pR p) = p.Id :: (
    if typeT p.Id = 1 then be 1 p.N.toNat else if typeT p.Id = 2 then be 2 p.N.toNat else if typeT p.Id = 3 then be 4 p.N.toNat
    else if typeT p.Id = 4 then (if 268435455 < p.N.toNat then [] else vb p.N.toNat) else if typeT p.Id = 7 then binN p.A ++ binN p.B else binN p.A) := rfl
  rw [e]
  have hlen : (L (some (L b ++ [p.Id]))).length = (L b).length + 1 := by simp [L]
  by_cases h1 : typeT p.Id = 1
  . rw [if_pos (by simpa using h1), if_pos h1, xv15 _ _ (by rw [hlen, hl]; omega), xv173]
    exact ⟨_, rfl, by simp [L]⟩
  . rw [if_neg (by simpa using h1), if_neg h1]
    by_cases h2 : typeT p.Id = 2
    . rw [if_pos (by simpa using h2), if_pos h2, xv27 _ _ (by rw [hlen, hl]; omega), xv153]
      exact ⟨_, rfl, by simp [L]⟩
    . rw [if_neg (by simpa using h2), if_neg h2]
      by_cases h3 : typeT p.Id = 3
      . rw [if_pos (by simpa using h3), if_pos h3, xv150 _ _ (by rw [hlen, hl]; omega)]
        exact ⟨_, rfl, by simp [L]⟩
      . rw [if_neg (by simpa using h3), if_neg h3]
        by_cases h4 : typeT p.Id = 4
        . rw [if_pos (by simpa using h4), if_pos h4, xv60 _ _ (by rw [hlen]; omega)]
          refine ⟨_, rfl, ?_⟩
          split <;> simp [L]
        . rw [if_neg (by simpa using h4), if_neg h4]
          by_cases h7 : typeT p.Id = 7
          . rw [if_pos (by simpa using h7), if_pos h7, xv11 _ _ (by omega) (by rw [hlen, hl]; omega)]
            simp only [Option.bind_some]
            rw [xv11 _ _ (by omega) (by rw [hl]; simp [L, xv2]; simp [L] at h; omega)]
            exact ⟨_, rfl, by simp [L, binN]⟩
          . rw [if_neg (by simpa using h7), if_neg h7, xv11 _ _ (by omega) (by rw [hlen, hl]; omega)]
            exact ⟨_, rfl, by simp [L, binN]⟩
theorem xv87 (g : fn132 -> Option (List UInt8) -> Option (List UInt8)) (hg : ∀ p s, L (g p s) = L s ++ oneN (pR p)) : ∀ (l : List fn132) (s : Option (List UInt8)),
    ((l.map pR).all okB = true ∧ ∃ o, runL (fun (s : Option (List UInt8)) (a : fn132) => if okB (pR a) then .inl (g a s) else (.inr (.inl a) : Option (List UInt8) ⊕ (fn132 ⊕ Option (List UInt8)))) (fun s => .inr s) s l = .inr o ∧ L o = L s ++ secN (l.map pR)) ∨
    ((l.map pR).all okB = false ∧ ∃ a, runL (fun (s : Option (List UInt8)) (a : fn132) => if okB (pR a) then .inl (g a s) else (.inr (.inl a) : Option (List UInt8) ⊕ (fn132 ⊕ Option (List UInt8)))) (fun s => .inr s) s l = .inl a)
  | [], s => .inl ⟨rfl, s, rfl, by simp [secN]⟩
  | a :: l, s => by
    by_cases h : okB (pR a) = true
    . have e : ((a :: l).map pR).all okB = (l.map pR).all okB := by rw [List.map_cons, List.all_cons, h, Bool.true_and]
      rw [e]
      simp only [runL]
      rw [if_pos h]
      rcases xv87 g hg l (g a s) with ⟨h1, o, h2, h3⟩ | ⟨h1, x, h2⟩
      . exact .inl ⟨h1, o, h2, by rw [h3, hg]; simp [secN, List.append_assoc]⟩
      . exact .inr ⟨h1, x, h2⟩
    . right
      refine ⟨by rw [List.map_cons, List.all_cons, show okB (pR a) = false by simpa using h, Bool.false_and], a, ?_⟩
      simp only [runL]
      rw [if_neg h]
theorem xv94 (l : List fn153) (h : ∀ x ∈ l, x.A.length ≤ 9000 ∧ x.B.length ≤ 9000) : (secN l).length ≤ 18100 * l.length := by
  induction l with
  | nil => simp [secN]
  | cons a l ih =>
    have h1 := xv84 a (h a (by simp)).1 (h a (by simp)).2
    have h2 := ih (fun x hx => h x (by simp [hx]))
    have e : secN (a :: l) = oneN a ++ secN l := rfl
    rw [e, List.length_append, List.length_cons]
    omega
theorem xv163 (o : Option (List fn132)) (hl : (L o).length ≤ 1000) (ht : ∀ x ∈ L o, x.A.length ≤ 9000 ∧ x.B.length ≤ 9000) :
    (((L o).map pR).all okB = true ∧ ∃ x, fn48 o = some (x, true) ∧ L x = secN ((L o).map pR)) ∨ (((L o).map pR).all okB = false ∧ fn48 o = some (none, false)) := by
  simp only [fn48]
  have htm : ∀ x ∈ (L o).map pR, x.A.length ≤ 9000 ∧ x.B.length ≤ 9000 := fun x hx => by
    obtain ⟨y, hy, rfl⟩ := List.mem_map.1 hx
    exact ht y hy
  have g : ∀ (p : fn132) (s : Option (List UInt8)), ∃ r : Option (List UInt8), L r = L s ++ oneN (pR p) ∧ (p.A.length ≤ 9000 ∧ p.B.length ≤ 9000 -> (L s).length ≤ 130000000000000 -> fn111 s p = some r) := by
    intro p s
    by_cases hp : (p.A.length ≤ 9000 ∧ p.B.length ≤ 9000) ∧ (L s).length ≤ 130000000000000
    . obtain ⟨r, e1, e2⟩ := xv162 s p hp.1.1 hp.1.2 hp.2
      exact ⟨r, e2, fun _ _ => e1⟩
    . exact ⟨some (L s ++ oneN (pR p)), rfl, fun h1 h2 => absurd ⟨h1, h2⟩ hp⟩
  have hex : ∃ G : fn132 -> Option (List UInt8) -> Option (List UInt8), ∀ p s, L (G p s) = L s ++ oneN (pR p) ∧ (p.A.length ≤ 9000 ∧ p.B.length ≤ 9000 -> (L s).length ≤ 130000000000000 -> fn111 s p = some (G p s)) :=
    ⟨fun p s => (g p s).choose, fun p s => (g p s).choose_spec⟩
  obtain ⟨G, hG⟩ := hex
  have := xv20 (L o) (fn48_l0 o ((L o).length : Int)) (fun (s : Option (List UInt8)) i => (s, i)) (fun (s : Option (List UInt8)) (a : fn132) => if okB (pR a) then .inl (G a s) else (.inr (.inl a) : Option (List UInt8) ⊕ (fn132 ⊕ Option (List UInt8)))) (fun s => .inr s) (fun i s => (L s).length ≤ 18100 * i)
    (fun s i hi hI => by
      have hx := ht _ (List.getElem_mem hi)
      simp only [fn48_l0, fn48_b0]
      rw [if_pos (by simp; omega), xv7, List.getElem?_eq_getElem hi]
      simp only [Option.bind_some]
      rw [xv56 _ hx.1 hx.2]
      simp only [Option.bind_some]
      have e : okB (pR (L o)[i]) = xv46 (L o)[i].Id (L o)[i].N (L o)[i].A (L o)[i].B := rfl
      rw [e]
      by_cases h : xv46 (L o)[i].Id (L o)[i].N (L o)[i].A (L o)[i].B = true
      . rw [if_neg (by simp [h]), if_pos h, show fn111 s (⟨(L o)[i].Id, (L o)[i].N, (L o)[i].A, (L o)[i].B⟩ : fn132) = some (G (L o)[i] s) from (hG _ s).2 hx (by omega), xv4 (by omega)]
        rfl
      . rw [if_pos (by simpa using h), if_neg h]; rfl)
    (fun s i hi s' hI hg => by
      have hx := ht _ (List.getElem_mem hi)
      split at hg
      . simp only [Sum.inl.injEq] at hg
        rw [← hg, (hG _ _).1, List.length_append]
        have := xv84 (pR (L o)[i]) hx.1 hx.2
        omega
      . cases hg)
    (fun s hI => by
      simp only [fn48_l0, fn48_b0]
      rw [if_neg (by simp)]) none (by simp [L])
  rw [this]
  rcases xv87 G (fun p s => (hG p s).1) (L o) none with ⟨h1, x, h2, h3⟩ | ⟨h1, x, h2⟩
  . left
    have h3 : L x = secN ((L o).map pR) := by rw [h3]; simp [L]
    refine ⟨h1, x, ?_, h3⟩
    rw [h2]
    simp only [Option.bind_some]
    have := xv94 _ htm
    rw [List.length_map] at this
    rw [decide_eq_true]
    rw [h3]; omega
  . right
    exact ⟨h1, by rw [h2]; rfl⟩
def putN (l : List fn153) : List UInt8 := vb (secN l).length ++ secN l
theorem xv90 (l : List fn153) (hl : l.length ≤ 1000) (h : ∀ x ∈ l, x.A.length ≤ 9000 ∧ x.B.length ≤ 9000) : (putN l).length ≤ 18100 * l.length + 6 := by
  have h1 := xv94 l h
  have h2 := xv52 4 (secN l).length (by have : (128 : Nat) ^ 4 = 268435456 := (by decide); omega)
  simp only [putN, List.length_append]
  omega
theorem xv86 (b : Option (List UInt8)) (o : Option (List fn132)) (hb : (L b).length ≤ 130000000000000) (hl : (L o).length ≤ 1000) (ht : ∀ x ∈ L o, x.A.length ≤ 9000 ∧ x.B.length ≤ 9000) :
    fn112 b o = if ((L o).map pR).all okB then some (some (L b ++ putN ((L o).map pR))) else some b := by
  have hl2 : lim = 140737488300000 := rfl
  have htm : ∀ x ∈ (L o).map pR, x.A.length ≤ 9000 ∧ x.B.length ≤ 9000 := fun x hx => by
    obtain ⟨y, hy, rfl⟩ := List.mem_map.1 hx
    exact ht y hy
  have hs := xv94 _ htm
  rw [List.length_map] at hs
  simp only [fn112]
  rcases xv163 o hl ht with ⟨h1, x, h2, h3⟩ | ⟨h1, h2⟩
  . rw [h1, h2, if_pos rfl]
    simp only [Option.bind_some]
    have hu : (u32 ((L x).length : Int)).toNat = (secN ((L o).map pR)).length := by rw [h3, u32_toNat']; omega
    rw [if_neg (by simp), xv60 _ _ (by omega), hu, if_neg (by omega)]
    simp only [Option.bind_some]
    have h4 := xv52 4 (secN ((L o).map pR)).length (by have : (128 : Nat) ^ 4 = 268435456 := (by decide); omega)
    rw [xv16 (y := x) (by rw [h3]; simp [room]; omega) (by rw [h3]; simp [room]; omega), h3]
    simp [putN]
  . rw [h1, h2]
    simp only [Option.bind_some]
    rw [xv39 b (by omega)]
    rfl
theorem xv88 (o : Option (List fn132)) (hl : (L o).length ≤ 1000) (ht : ∀ x ∈ L o, x.A.length ≤ 9000 ∧ x.B.length ≤ 9000) :
    fn94 o = some (if ((L o).map pR).all okB then ((putN ((L o).map pR)).length : Int) else 0) := by
  simp only [fn94]
  rw [xv86 none o (by simp [L]) hl ht]
  cases ((L o).map pR).all okB <;> rfl
end Go.Rv
namespace Go.Rv
-- ---------- what is asked of its kind alone ----------
def ownN (v : Int) (p : fn105) : Bool :=
  if p.Kind = 1 then conN v p
  else if p.Kind = 2 then knB v p.Kind p.Code && (!p.Present || decide (p.Code = 0))
  else if p.Kind = 3 then pubN v p
  else if p.Kind = 8 ∨ p.Kind = 10 then !decide (p.Id = 0) && xv23 v p
  else if p.Kind = 9 ∨ p.Kind = 11 then !decide (p.Id = 0) && xv103 v p
  else if p.Kind = 12 ∨ p.Kind = 13 then true
  else if p.Kind = 14 then knB v p.Kind p.Code
  else if p.Kind = 15 then knB v p.Kind p.Code && hasId (L p.Props) 21
  else !decide (p.Id = 0) && knB v p.Kind p.Code
theorem xv176 (v : Int) (q : fn54) (h : MidP q) : fn93 v q = some (ownN v (nP q)) := by
  have h2 := h.pp
  obtain ⟨p1, g1, _⟩ := xv55 q.Props 21 (by omega)
  have hf := xv77 v q h
  have hc := xv138 v q h
  have e : ownN v (nP q) = if q.Kind = 1 then conN v (nP q)
    else if q.Kind = 2 then knB v q.Kind q.Code && (!q.Present || decide (q.Code = 0))
    else if q.Kind = 3 then pubN v (nP q)
    else if q.Kind = 8 ∨ q.Kind = 10 then !decide (q.Id = 0) && xv23 v (nP q)
    else if q.Kind = 9 ∨ q.Kind = 11 then !decide (q.Id = 0) && xv103 v (nP q)
    else if q.Kind = 12 ∨ q.Kind = 13 then true
    else if q.Kind = 14 then knB v q.Kind q.Code
    else if q.Kind = 15 then knB v q.Kind q.Code && hasId ((L q.Props).map pR) 21
    else !decide (q.Id = 0) && knB v q.Kind q.Code := rfl
  rw [e]
  simp only [fn93, fn93_c0, fn93_c1, fn93_c2, fn93_c3, xv81, xv74 v q h, xv89 v q h, hc, g1, Option.bind_some, xv140]
  rw [show fn34 v (⟨q.Kind, q.Dup, q.Retain, q.QoS, q.Id, q.Clean, q.Keep, q.Client, q.HasWill, q.HasUser, q.HasPass, q.WillQoS, q.WillRetain, q.WillProps, q.WillTopic, q.WillLoad, q.User, q.Pass, q.Present, q.Code, q.Topic, q.Load, q.Filters, q.Codes, q.Props⟩ : fn54) = some (xv23 v (nP q)) from hf]
  simp only [Option.bind_some]
  by_cases k1 : q.Kind = 1
  . simp [k1]
  . by_cases k2 : q.Kind = 2
    . cases a1 : knB v 2 q.Code <;> cases a2 : q.Present <;> simp [k2, a1]
    . by_cases k3 : q.Kind = 3
      . simp [k3]
      . by_cases k8 : q.Kind = 8
        . by_cases i0 : q.Id = 0 <;> simp [k8, i0]
        . by_cases k10 : q.Kind = 10
          . by_cases i0 : q.Id = 0 <;> simp [k10, i0]
          . by_cases k9 : q.Kind = 9
            . by_cases i0 : q.Id = 0 <;> simp [k9, i0]
            . by_cases k11 : q.Kind = 11
              . by_cases i0 : q.Id = 0 <;> simp [k11, i0]
              . by_cases k12 : q.Kind = 12
                . simp [k12]
                . by_cases k13 : q.Kind = 13
                  . simp [k13]
                  . by_cases k14 : q.Kind = 14
                    . simp [k14]
                    . by_cases k15 : q.Kind = 15
                      . cases a1 : knB v 15 q.Code <;> simp [k15, a1]
                      . by_cases i0 : q.Id = 0 <;> simp [k1, k2, k3, k8, k10, k9, k11, k12, k13, k14, k15, i0]
-- ---------- texts ----------
def textB (s : List UInt8) : Bool := decide (s.length ≤ 65535) && good s
def xv35 (p : fn105) : Bool := textB p.Client && textB p.WillTopic && textB p.User && textB p.Topic && decide (p.WillLoad.length ≤ 65535) && decide (p.Pass.length ≤ 65535)
theorem xv149 (q : fn54) : fn56 q = some (xv35 (nP q)) := by
  have e : xv35 (nP q) = (textB q.Client && textB q.WillTopic && textB q.User && textB q.Topic && decide (q.WillLoad.length ≤ 65535) && decide (q.Pass.length ≤ 65535)) := rfl
  rw [e]
  simp only [fn56]
  have := xv69 [q.Client, q.WillTopic, q.User, q.Topic] (fn56_l0 (some [q.Client, q.WillTopic, q.User, q.Topic]) ((L (some [q.Client, q.WillTopic, q.User, q.Topic])).length : Int)) textB
    (fun i hi => by
      have hi4 : i < 4 := hi
      simp only [fn56_l0, fn56_b0]
      rw [if_pos (by simp [L]; omega), xv7, show (L (some [q.Client, q.WillTopic, q.User, q.Topic]))[i]? = some ([q.Client, q.WillTopic, q.User, q.Topic][i]) from List.getElem?_eq_getElem hi]
      simp only [Option.bind_some]
      rw [xv58, xv4 (by omega)]
      simp only [Option.bind_some]
      exact nif _ _ _)
    (by simp only [fn56_l0, fn56_b0]; rw [if_neg (by simp [L])])
  rw [this]
  have e4 : [q.Client, q.WillTopic, q.User, q.Topic].all textB = (textB q.Client && textB q.WillTopic && textB q.User && textB q.Topic) := by simp [Bool.and_assoc]
  rw [e4]
  have d1 : decide ((q.WillLoad.length : Int) ≤ 65535) = decide (q.WillLoad.length ≤ 65535) := decide_eq_decide.2 (by omega)
  have d2 : decide ((q.Pass.length : Int) ≤ 65535) = decide (q.Pass.length ≤ 65535) := decide_eq_decide.2 (by omega)
  rw [d1, d2]
  cases (textB q.Client && textB q.WillTopic && textB q.User && textB q.Topic) with
  | false => rfl
  | true =>
    simp only [Option.bind_some, if_true]
    cases decide (q.WillLoad.length ≤ 65535) <;> rfl
-- ---------- the rest ----------
def sizeI (l : List fn153) : Int := if l.all okB then ((putN l).length : Int) else 0
def sectI (v : Int) (l : List fn153) : Int := if v = 4 then 0 else sizeI l
theorem xv49 (l : List fn153) (hl : l.length ≤ 1000) (h : ∀ x ∈ l, x.A.length ≤ 9000 ∧ x.B.length ≤ 9000) : 0 ≤ sizeI l ∧ sizeI l ≤ 18200000 := by
  have := xv90 l hl h
  simp only [sizeI]
  split <;> omega
theorem xv36 (v : Int) (o : Option (List fn132)) (hl : (L o).length ≤ 1000) (ht : ∀ x ∈ L o, x.A.length ≤ 9000 ∧ x.B.length ≤ 9000) : fn36 v o = some (sectI v ((L o).map pR)) := by
  simp only [fn36, xv88 o hl ht, Option.bind_some, sectI, sizeI]
  by_cases hv : v = 4 <;> simp [hv]
def binI (s : List UInt8) : Int := 2 + (s.length : Int)
theorem xv3 (s : List UInt8) (h : s.length ≤ 4000000000) : fn37 s = some (binI s) := by
  simp only [fn37, binI]
  rw [xv1 (by omega) (by omega)]
def xv9 (k : Int) (l : List fn104) : Int := (l.map (fun f => binI f.Text + if k = 8 then 1 else 0)).sum
theorem xv57 (k : Int) : ∀ (l : List fn53) (n : Int), runL (fun (n : Int) (f : fn53) => (.inl (n + (binI f.Text + if k = 8 then 1 else 0)) : Int ⊕ Int)) (fun n => n) n l = n + xv9 k (l.map fR)
  | [], n => by simp [runL, xv9]
  | a :: l, n => by
    simp only [runL]
    rw [xv57 k l]
    have e : xv9 k ((a :: l).map fR) = (binI a.Text + if k = 8 then 1 else 0) + xv9 k (l.map fR) := rfl
    rw [e]; omega
theorem xv143 (k : Int) (l : List fn104) (h : ∀ f ∈ l, f.Text.length ≤ 9000) : 0 ≤ xv9 k l ∧ xv9 k l ≤ 9100 * (l.length : Int) := by
  induction l with
  | nil => simp [xv9]
  | cons a l ih =>
    have h1 := h a (by simp)
    have h2 := ih (fun f hf => h f (by simp [hf]))
    have e : xv9 k (a :: l) = (binI a.Text + if k = 8 then 1 else 0) + xv9 k l := rfl
    rw [e, List.length_cons]
    simp only [binI]
    split <;> omega
theorem xv32 (q : fn54) (h : MidP q) : fn20 q = some (xv9 q.Kind ((L q.Filters).map fR)) := by
  have h3 := h.fl
  simp only [fn20]
  have := xv20 (L q.Filters) (fn20_l0 q.Filters ((L q.Filters).length : Int) q) (fun (n : Int) i => (n, i)) (fun (n : Int) (f : fn53) => (.inl (n + (binI f.Text + if q.Kind = 8 then 1 else 0)) : Int ⊕ Int)) (fun n => n) (fun i s => 0 ≤ s ∧ s ≤ 9100 * (i : Int))
    (fun s i hi hI => by
      have hx := h.ft _ (List.getElem_mem hi)
      simp only [fn20_l0, fn20_b0]
      rw [if_pos (by simp; omega), xv7, List.getElem?_eq_getElem hi, xv4 (by omega)]
      simp only [Option.bind_some]
      rw [xv3 _ (by omega)]
      simp only [Option.bind_some]
      have hb : binI (L q.Filters)[i].Text = 2 + ((L q.Filters)[i].Text.length : Int) := rfl
      by_cases hk : q.Kind = 8
      . rw [if_pos (by simpa using hk), xv1 (x := s + binI (L q.Filters)[i].Text) (by omega) (by omega), xv1 (by omega) (by omega), if_pos hk]
        simp only [stepL]
        rw [Int.add_assoc]
      . rw [if_neg (by simpa using hk), xv1 (x := s + binI (L q.Filters)[i].Text) (by omega) (by omega), if_neg hk, Int.add_zero]
        rfl)
    (fun s i hi s' hI hg => by
      have hx := h.ft _ (List.getElem_mem hi)
      simp only [Sum.inl.injEq] at hg
      subst hg
      have hb : binI (L q.Filters)[i].Text = 2 + ((L q.Filters)[i].Text.length : Int) := rfl
      split <;> omega)
    (fun s hI => by
      simp only [fn20_l0, fn20_b0]
      rw [if_neg (by simp)]) 0 (by omega)
  rw [this, xv57]
  simp
def codeI (v : Int) (p : fn105) : Int := if v = 4 ∨ (p.Code = 0 ∧ (L p.Props).length = 0) then 0 else if (L p.Props).length = 0 then 1 else 1 + sizeI (L p.Props)
theorem xv65 (v : Int) (q : fn54) (h : MidP q) : fn29 v q = some (codeI v (nP q)) := by
  have h2 := h.pp
  have hpt : ∀ x ∈ (L q.Props).map pR, x.A.length ≤ 9000 ∧ x.B.length ≤ 9000 := fun x hx => by
    obtain ⟨y, hy, rfl⟩ := List.mem_map.1 hx
    exact h.pt y hy
  have hs := xv49 ((L q.Props).map pR) (by simpa using h2) hpt
  have e : codeI v (nP q) = if v = 4 ∨ (q.Code = 0 ∧ ((L q.Props).map pR).length = 0) then 0 else if ((L q.Props).map pR).length = 0 then 1 else 1 + sizeI ((L q.Props).map pR) := rfl
  rw [e, List.length_map]
  have hsz : fn94 q.Props = some (sizeI ((L q.Props).map pR)) := by rw [xv88 q.Props h2 h.pt]; rfl
  simp only [fn29, fn29_c0, fn29_c1, hsz, Option.bind_some]
  rw [xv1 (x := 1 + sizeI ((L q.Props).map pR)) (by omega) (by omega)]
  have hz : (((L q.Props).length : Int) = 0) ↔ (L q.Props).length = 0 := by omega
  by_cases hv : v = 4
  . simp [hv]
  . by_cases hc : q.Code = 0 <;> by_cases hp : (L q.Props).length = 0 <;> simp [hv, hc, hp, hz]
def restI (v : Int) (p : fn105) : Int :=
  if p.Kind = 1 then 10 + sectI v (L p.Props) + binI p.Client + (if p.HasWill then sectI v (L p.WillProps) + binI p.WillTopic + binI p.WillLoad else 0) + (if p.HasUser then binI p.User else 0) + (if p.HasPass then binI p.Pass else 0)
  else if p.Kind = 2 then 2 + sectI v (L p.Props)
  else if p.Kind = 3 then binI p.Topic + sectI v (L p.Props) + (p.Load.length : Int) + (if p.QoS > 0 then 2 else 0)
  else if p.Kind = 4 ∨ p.Kind = 5 ∨ p.Kind = 6 ∨ p.Kind = 7 then 2 + codeI v p
  else if p.Kind = 8 ∨ p.Kind = 10 then 2 + sectI v (L p.Props) + xv9 p.Kind (L p.Filters)
  else if p.Kind = 9 ∨ p.Kind = 11 then 2 + sectI v (L p.Props) + ((L p.Codes).length : Int)
  else if p.Kind = 14 ∨ p.Kind = 15 then codeI v p
  else 0
end Go.Rv
namespace Go.Rv
structure MidQ (q : fn54) : Prop extends MidP q where
  ld : q.Load.length ≤ 1000000
  ps : q.Pass.length ≤ 1000000
  wl : q.WillLoad.length ≤ 1000000
theorem MidP.ptm {q : fn54} (h : MidP q) : ∀ x ∈ (L q.Props).map pR, x.A.length ≤ 9000 ∧ x.B.length ≤ 9000 := fun x hx => by
  obtain ⟨y, hy, rfl⟩ := List.mem_map.1 hx
  exact h.pt y hy
theorem MidP.wtm {q : fn54} (h : MidP q) : ∀ x ∈ (L q.WillProps).map pR, x.A.length ≤ 9000 ∧ x.B.length ≤ 9000 := fun x hx => by
  obtain ⟨y, hy, rfl⟩ := List.mem_map.1 hx
  exact h.wt y hy
theorem MidP.ftm {q : fn54} (h : MidP q) : ∀ x ∈ (L q.Filters).map fR, x.Text.length ≤ 9000 := fun x hx => by
  obtain ⟨y, hy, rfl⟩ := List.mem_map.1 hx
  exact h.ft y hy
theorem xv95 (v : Int) (l : List fn153) (hl : l.length ≤ 1000) (h : ∀ x ∈ l, x.A.length ≤ 9000 ∧ x.B.length ≤ 9000) : 0 ≤ sectI v l ∧ sectI v l ≤ 18200000 := by
  have := xv49 l hl h
  simp only [sectI]
  split <;> omega
theorem xv137 (v : Int) (p : fn105) (hl : (L p.Props).length ≤ 1000) (h : ∀ x ∈ L p.Props, x.A.length ≤ 9000 ∧ x.B.length ≤ 9000) : 0 ≤ codeI v p ∧ codeI v p ≤ 18200001 := by
  have := xv49 _ hl h
  simp only [codeI]
  split
  . omega
  . split <;> omega
theorem xv28 (v : Int) (q : fn54) (h : MidQ q) : fn73 v q = some (restI v (nP q)) ∧ restI v (nP q) ≤ 268435455 ∧ 0 ≤ restI v (nP q) := by
  have h1 := h.wp; have h2 := h.pp; have h3 := h.fl; have h4 := h.cd
  have m := h.toMidP
  have l1 := h.cl; have l2 := h.tp; have l3 := h.wo; have l4 := h.us; have l5 := h.ld; have l6 := h.ps; have l7 := h.wl
  have s1 := xv95 v ((L q.Props).map pR) (by simpa using h2) m.ptm
  have s2 := xv95 v ((L q.WillProps).map pR) (by simpa using h1) m.wtm
  have s3 := xv137 v (nP q) (by simpa [nP, L] using h2) m.ptm
  have s4 := xv143 q.Kind ((L q.Filters).map fR) m.ftm
  rw [List.length_map] at s4
  have e : restI v (nP q) = if q.Kind = 1 then 10 + sectI v ((L q.Props).map pR) + binI q.Client + (if q.HasWill then sectI v ((L q.WillProps).map pR) + binI q.WillTopic + binI q.WillLoad else 0) + (if q.HasUser then binI q.User else 0) + (if q.HasPass then binI q.Pass else 0)
    else if q.Kind = 2 then 2 + sectI v ((L q.Props).map pR)
    else if q.Kind = 3 then binI q.Topic + sectI v ((L q.Props).map pR) + (q.Load.length : Int) + (if q.QoS > 0 then 2 else 0)
    else if q.Kind = 4 ∨ q.Kind = 5 ∨ q.Kind = 6 ∨ q.Kind = 7 then 2 + codeI v (nP q)
    else if q.Kind = 8 ∨ q.Kind = 10 then 2 + sectI v ((L q.Props).map pR) + xv9 q.Kind ((L q.Filters).map fR)
    else if q.Kind = 9 ∨ q.Kind = 11 then 2 + sectI v ((L q.Props).map pR) + ((L q.Codes).length : Int)
    else if q.Kind = 14 ∨ q.Kind = 15 then codeI v (nP q)
    else 0 := rfl
  have b1 : binI q.Client = 2 + (q.Client.length : Int) := rfl
  have b2 : binI q.WillTopic = 2 + (q.WillTopic.length : Int) := rfl
  have b3 : binI q.WillLoad = 2 + (q.WillLoad.length : Int) := rfl
  have b4 : binI q.User = 2 + (q.User.length : Int) := rfl
  have b5 : binI q.Pass = 2 + (q.Pass.length : Int) := rfl
  have b6 : binI q.Topic = 2 + (q.Topic.length : Int) := rfl
  refine ⟨?_, ?_, ?_⟩
  . rw [e]
    simp only [fn73]
    by_cases k1 : q.Kind = 1
    . rw [if_pos (by simpa using k1), if_pos k1]
      have rc1 : ∀ x : Int, 0 ≤ x -> x ≤ 100000000 -> fn19_c1 x q (fun y => some y) = some (x + if q.HasPass = true then binI q.Pass else 0) := by
        intro x x0 x1
        simp only [fn19_c1]
        rw [xv3 q.Pass (by omega)]
        simp only [Option.bind_some]
        split
        . rw [xv1 (by omega) (by omega)]
        . rw [Int.add_zero]
      have rc0 : ∀ x : Int, 0 ≤ x -> x ≤ 90000000 -> fn19_c0 x q (fun y => some y) = some (x + (if q.HasUser = true then binI q.User else 0) + if q.HasPass = true then binI q.Pass else 0) := by
        intro x x0 x1
        simp only [fn19_c0]
        rw [xv3 q.User (by omega)]
        simp only [Option.bind_some]
        split
        . rw [xv1 (by omega) (by omega), rc1 _ (by omega) (by omega)]
        . rw [rc1 _ (by omega) (by omega), Int.add_zero]
      simp only [fn19]
      rw [xv36 v q.Props h2 h.pt]
      simp only [Option.bind_some]
      rw [xv3 q.Client (by omega)]
      simp only [Option.bind_some]
      rw [xv36 v q.WillProps h1 h.wt]
      simp only [Option.bind_some]
      rw [xv3 q.WillTopic (by omega), xv3 q.WillLoad (by omega)]
      simp only [Option.bind_some]
      rw [xv1 (x := 10 + sectI v ((L q.Props).map pR)) (by omega) (by omega), xv1 (x := 10 + sectI v ((L q.Props).map pR) + binI q.Client) (by omega) (by omega)]
      by_cases hw : q.HasWill = true
      . rw [if_pos hw, if_pos hw, xv1 (x := sectI v ((L q.WillProps).map pR) + binI q.WillTopic) (by omega) (by omega), xv1 (x := sectI v ((L q.WillProps).map pR) + binI q.WillTopic + binI q.WillLoad) (by omega) (by omega), xv1 (by omega) (by omega), rc0 _ (by omega) (by omega)]; rfl
      . rw [if_neg hw, if_neg hw, rc0 _ (by omega) (by omega), Int.add_zero]; rfl
    . rw [if_neg (by simpa using k1), if_neg k1]
      by_cases k2 : q.Kind = 2
      . rw [if_pos (by simpa using k2), if_pos k2, xv36 v q.Props h2 h.pt]
        simp only [Option.bind_some]
        rw [xv1 (by omega) (by omega)]
      . rw [if_neg (by simpa using k2), if_neg k2]
        by_cases k3 : q.Kind = 3
        . rw [if_pos (by simpa using k3), if_pos k3, xv3 q.Topic (by omega)]
          simp only [Option.bind_some]
          rw [xv36 v q.Props h2 h.pt]
          simp only [Option.bind_some]
          rw [xv1 (x := binI q.Topic + sectI v ((L q.Props).map pR)) (by omega) (by omega), xv1 (x := binI q.Topic + sectI v ((L q.Props).map pR) + (q.Load.length : Int)) (by omega) (by omega), xv1 (x := binI q.Topic + sectI v ((L q.Props).map pR) + (q.Load.length : Int) + 2) (by omega) (by omega)]
          by_cases hq : q.QoS > 0
          . rw [if_pos (by simpa using hq), if_pos hq]
          . rw [if_neg (by simpa using hq), if_neg hq, Int.add_zero]
        . rw [if_neg (by simpa using k3), if_neg k3]
          simp only [fn73_c0, fn73_c1, fn73_c2, fn73_c3]
          rw [show fn29 v (⟨q.Kind, q.Dup, q.Retain, q.QoS, q.Id, q.Clean, q.Keep, q.Client, q.HasWill, q.HasUser, q.HasPass, q.WillQoS, q.WillRetain, q.WillProps, q.WillTopic, q.WillLoad, q.User, q.Pass, q.Present, q.Code, q.Topic, q.Load, q.Filters, q.Codes, q.Props⟩ : fn54) = some (codeI v (nP q)) from xv65 v q m,
            show fn20 (⟨q.Kind, q.Dup, q.Retain, q.QoS, q.Id, q.Clean, q.Keep, q.Client, q.HasWill, q.HasUser, q.HasPass, q.WillQoS, q.WillRetain, q.WillProps, q.WillTopic, q.WillLoad, q.User, q.Pass, q.Present, q.Code, q.Topic, q.Load, q.Filters, q.Codes, q.Props⟩ : fn54) = some (xv9 q.Kind ((L q.Filters).map fR)) from xv32 q m,
            xv36 v q.Props h2 h.pt]
          simp only [Option.bind_some]
          rw [xv1 (x := 2 + codeI v (nP q)) (by omega) (by omega), xv1 (x := 2 + sectI v ((L q.Props).map pR)) (by omega) (by omega), xv1 (x := 2 + sectI v ((L q.Props).map pR) + xv9 q.Kind ((L q.Filters).map fR)) (by omega) (by omega), xv1 (x := 2 + sectI v ((L q.Props).map pR) + ((L q.Codes).length : Int)) (by omega) (by omega)]
          by_cases k4 : q.Kind = 4
          . simp [k4]
          . by_cases k5 : q.Kind = 5
            . simp [k5]
            . by_cases k6 : q.Kind = 6
              . simp [k6]
              . by_cases k7 : q.Kind = 7
                . simp [k7]
                . by_cases k8 : q.Kind = 8
                  . simp [k8]
                  . by_cases k10 : q.Kind = 10
                    . simp [k10]
                    . by_cases k9 : q.Kind = 9
                      . simp [k9]
                      . by_cases k11 : q.Kind = 11
                        . simp [k11]
                        . by_cases k14 : q.Kind = 14
                          . simp [k14]
                          . by_cases k15 : q.Kind = 15
                            . simp [k15]
                            . simp [k4, k5, k6, k7, k8, k9, k10, k11, k14, k15]
  . rw [e]
    repeat (split; (try (split <;> split <;> split)) <;> (try split) <;> omega)
    omega
  . rw [e]
    repeat (split; (try (split <;> split <;> split)) <;> (try split) <;> omega)
    omega
-- ---------- may it be? ----------
def verB (v k : Int) : Bool := (decide (v = 4) || decide (v = 5)) && decide (1 ≤ k) && decide (k ≤ 15) && !(decide (v = 4) && decide (k = 15))
def xv24 (v : Int) (p : fn105) : Bool :=
  verB v p.Kind && decide (p = bareN p) && xv35 p && !(decide (v = 4) && decide ((L p.Props).length + (L p.WillProps).length > 0)) && xv5 p.Kind (L p.Props) && xv5 16 (L p.WillProps) && ownN v p
theorem xv91 (v : Int) (q : fn54) (h : MidQ q) : fn62 v q = some (xv24 v (nP q)) := by
  have h1 := h.wp; have h2 := h.pp
  have m := h.toMidP
  obtain ⟨b, hb1, hb2⟩ := xv152 q
  obtain ⟨r1, r2, r3⟩ := xv28 v q h
  have c3 : fn62_c3 v q (fun x => some x) = some (xv5 q.Kind ((L q.Props).map pR) && xv5 16 ((L q.WillProps).map pR) && ownN v (nP q)) := by
    simp only [fn62_c3]
    rw [xv54 _ _ (by omega) h.pt]
    simp only [Option.bind_some]
    rw [xv54 _ _ (by omega) h.wt]
    simp only [Option.bind_some]
    rw [xv176 v q m]
    simp only [Option.bind_some]
    rw [show fn73 v (⟨q.Kind, q.Dup, q.Retain, q.QoS, q.Id, q.Clean, q.Keep, q.Client, q.HasWill, q.HasUser, q.HasPass, q.WillQoS, q.WillRetain, q.WillProps, q.WillTopic, q.WillLoad, q.User, q.Pass, q.Present, q.Code, q.Topic, q.Load, q.Filters, q.Codes, q.Props⟩ : fn54) = _ from r1]
    simp only [Option.bind_some]
    rw [decide_eq_true r2]
    cases xv5 q.Kind ((L q.Props).map pR) <;> cases xv5 16 ((L q.WillProps).map pR) <;> cases ownN v (nP q) <;> rfl
  have hs : fn68 (⟨q.Kind, q.Dup, q.Retain, q.QoS, q.Id, q.Clean, q.Keep, q.Client, q.HasWill, q.HasUser, q.HasPass, q.WillQoS, q.WillRetain, q.WillProps, q.WillTopic, q.WillLoad, q.User, q.Pass, q.Present, q.Code, q.Topic, q.Load, q.Filters, q.Codes, q.Props⟩ : fn54) b = some (decide (nP q = bareN (nP q))) := by
    rw [← hb2]; exact xv166 q b m.toFewP
  have c1 : ∀ z : Bool, fn62_c1 v z q (some false) (fn62_c3 v q (fun x => some x)) = some (!z && (decide (nP q = bareN (nP q)) && xv35 (nP q) && !(decide (v = 4) && decide ((L q.Props).length + (L q.WillProps).length > 0)) && (xv5 q.Kind ((L q.Props).map pR) && xv5 16 ((L q.WillProps).map pR) && ownN v (nP q)))) := by
    intro z
    rw [c3]
    simp only [fn62_c1, fn62_c2, hb1, Option.bind_some]
    rw [show fn68 (⟨q.Kind, q.Dup, q.Retain, q.QoS, q.Id, q.Clean, q.Keep, q.Client, q.HasWill, q.HasUser, q.HasPass, q.WillQoS, q.WillRetain, q.WillProps, q.WillTopic, q.WillLoad, q.User, q.Pass, q.Present, q.Code, q.Topic, q.Load, q.Filters, q.Codes, q.Props⟩ : fn54) (⟨b.Kind, b.Dup, b.Retain, b.QoS, b.Id, b.Clean, b.Keep, b.Client, b.HasWill, b.HasUser, b.HasPass, b.WillQoS, b.WillRetain, b.WillProps, b.WillTopic, b.WillLoad, b.User, b.Pass, b.Present, b.Code, b.Topic, b.Load, b.Filters, b.Codes, b.Props⟩ : fn54) = _ from hs]
    rw [show fn56 (⟨q.Kind, q.Dup, q.Retain, q.QoS, q.Id, q.Clean, q.Keep, q.Client, q.HasWill, q.HasUser, q.HasPass, q.WillQoS, q.WillRetain, q.WillProps, q.WillTopic, q.WillLoad, q.User, q.Pass, q.Present, q.Code, q.Topic, q.Load, q.Filters, q.Codes, q.Props⟩ : fn54) = _ from xv149 q]
    simp only [Option.bind_some]
    rw [xv1 (x := ((L q.Props).length : Int) + ((L q.WillProps).length : Int)) (by omega) (by omega)]
    have hd : decide ((((L q.Props).length : Int) + ((L q.WillProps).length : Int)) > 0) = decide ((L q.Props).length + (L q.WillProps).length > 0) := decide_eq_decide.2 (by omega)
    rw [hd]
    generalize (xv5 q.Kind ((L q.Props).map pR) && xv5 16 ((L q.WillProps).map pR) && ownN v (nP q)) = w
    generalize decide ((L q.Props).length + (L q.WillProps).length > 0) = y
    generalize decide (nP q = bareN (nP q)) = s
    generalize xv35 (nP q) = t
    generalize decide (v = 4) = f
    cases z <;> cases s <;> cases t <;> cases f <;> cases y <;> cases w <;> rfl
  have e : xv24 v (nP q) = (verB v q.Kind && (decide (nP q = bareN (nP q)) && xv35 (nP q) && !(decide (v = 4) && decide ((L q.Props).length + (L q.WillProps).length > 0)) && (xv5 q.Kind ((L q.Props).map pR) && xv5 16 ((L q.WillProps).map pR) && ownN v (nP q)))) := by
    have e1 : xv24 v (nP q) = (verB v q.Kind && decide (nP q = bareN (nP q)) && xv35 (nP q) && !(decide (v = 4) && decide (((L q.Props).map pR).length + ((L q.WillProps).map pR).length > 0)) && xv5 q.Kind ((L q.Props).map pR) && xv5 16 ((L q.WillProps).map pR) && ownN v (nP q)) := rfl
    rw [e1, List.length_map, List.length_map]
    simp only [Bool.and_assoc]
  rw [e]
  simp only [fn62, fn62_c0, c1]
  generalize (decide (nP q = bareN (nP q)) && xv35 (nP q) && !(decide (v = 4) && decide ((L q.Props).length + (L q.WillProps).length > 0)) && (xv5 q.Kind ((L q.Props).map pR) && xv5 16 ((L q.WillProps).map pR) && ownN v (nP q))) = w
  simp only [verB]
  by_cases v4 : v = 4
  . by_cases ka : q.Kind < 1
    . simp [v4, ka, show ¬ 1 ≤ q.Kind by omega]
    . by_cases kb : q.Kind > 15
      . simp [v4, ka, kb, show ¬ q.Kind ≤ 15 by omega]
      . by_cases kc : q.Kind = 15
        . simp [v4, kc]
        . simp [v4, ka, kb, kc, show 1 ≤ q.Kind by omega, show q.Kind ≤ 15 by omega]
  . by_cases v5 : v = 5
    . by_cases ka : q.Kind < 1
      . simp [v5, ka, show ¬ 1 ≤ q.Kind by omega]
      . by_cases kb : q.Kind > 15
        . simp [v5, ka, kb, show ¬ q.Kind ≤ 15 by omega]
        . simp [v5, ka, kb, show 1 ≤ q.Kind by omega, show q.Kind ≤ 15 by omega]
    . simp [v4, v5]
end Go.Rv
namespace Go.Rv
end Go.Rv
namespace Go.Rv
theorem FewR.ptm {p : fn105} (h : FewR p) : ∀ x ∈ L p.Props, x.A.length ≤ 9000 ∧ x.B.length ≤ 9000 := fun x hx => by have := h.pt x hx; omega
theorem FewR.wtm {p : fn105} (h : FewR p) : ∀ x ∈ L p.WillProps, x.A.length ≤ 9000 ∧ x.B.length ≤ 9000 := fun x hx => by have := h.wt x hx; omega
theorem FewR.ftm {p : fn105} (h : FewR p) : ∀ x ∈ L p.Filters, x.Text.length ≤ 9000 := fun x hx => by have := h.ft x hx; omega
structure MidR (p : fn105) : Prop where
  wp : (L p.WillProps).length ≤ 1000
  pp : (L p.Props).length ≤ 1000
  fl : (L p.Filters).length ≤ 1000
  cd : (L p.Codes).length ≤ 100000
  ft : ∀ f ∈ L p.Filters, f.Text.length ≤ 9000
  pt : ∀ x ∈ L p.Props, x.A.length ≤ 9000 ∧ x.B.length ≤ 9000
  wt : ∀ x ∈ L p.WillProps, x.A.length ≤ 9000 ∧ x.B.length ≤ 9000
  cl : p.Client.length ≤ 9000
  tp : p.Topic.length ≤ 9000
  wo : p.WillTopic.length ≤ 9000
  us : p.User.length ≤ 9000
  ld : p.Load.length ≤ 1000000
  ps : p.Pass.length ≤ 1000000
  wl : p.WillLoad.length ≤ 1000000
end Go.Rv
namespace Go.Rv
end Go.Rv
namespace Go.Rv
-- ---------- twins ----------
theorem xv178 : fn80 = fn109 := rfl
theorem wTwo1 : fn99 = fn134 := rfl
theorem sec1 : fn27 = fn39 := rfl
theorem code1 : fn49 = fn79 := rfl
theorem fil1 : fn28 = fn42 := rfl
end Go.Rv
namespace Go.Rv
-- ---------- the bytes ----------
def secV (v : Int) (l : List fn153) : List UInt8 := if v = 4 then [] else putN l
def codeN (v : Int) (p : fn105) : List UInt8 := if v = 4 ∨ (p.Code = 0 ∧ L p.Props = []) then [] else if L p.Props = [] then [p.Code] else p.Code :: putN (L p.Props)
def filN (k : Int) (l : List fn104) : List UInt8 := l.flatMap fun f => binN f.Text ++ if k = 8 then [f.Opt] else []
structure Lay (l : List fn153) : Prop where
  len : l.length ≤ 1000
  txt : ∀ x ∈ l, x.A.length ≤ 9000 ∧ x.B.length ≤ 9000
  ok : l.all okB = true
theorem xv48 (v : Int) {l : List fn153} (h : Lay l) : (secV v l).length ≤ 18200000 := by
  have h1 := xv90 l h.len h.txt
  have h2 := h.len
  simp only [secV]
  split
  . simp
  . omega
theorem xv6 (v : Int) (b : Option (List UInt8)) (o : Option (List fn132)) (h : Lay ((L o).map pR)) (hb : (L b).length ≤ 130000000000000) : ∃ x, fn39 v b o = some x ∧ L x = L b ++ secV v ((L o).map pR) := by
  have h1 := h.len
  rw [List.length_map] at h1
  simp only [fn39, secV]
  by_cases hv : v = 4
  . exact ⟨b, by simp [hv], by simp [hv]⟩
  . rw [if_neg (by simp [hv]), xv86 b o hb h1 (fun x hx => h.txt (pR x) (List.mem_map.2 ⟨x, hx, rfl⟩)), h.ok, if_pos rfl, if_neg hv]
    exact ⟨_, rfl, rfl⟩
theorem len0 {α : Type} (l : List α) : decide ((l.length : Int) = 0) = decide (l = []) := by
  cases l <;> simp <;> omega
theorem xv73 (v : Int) (b : Option (List UInt8)) (q : fn54) (h : Lay ((L q.Props).map pR)) (hb : (L b).length ≤ 130000000) : ∃ x, fn79 v b q = some x ∧ L x = L b ++ codeN v (nP q) := by
  have hl : lim = 140737488300000 := rfl
  have h1 := h.len
  rw [List.length_map] at h1
  have c1 : ∀ k : Option (List UInt8) -> Option (Option (List UInt8)), fn79_c1 b q k = k (some (L b ++ q.Code :: putN ((L q.Props).map pR))) := fun k => by
    simp only [fn79_c1]
    rw [xv15 b q.Code (by omega)]
    simp only [Option.bind_some]
    rw [xv86 _ q.Props (by simp [L, xv2]; simp [L] at hb; omega) h1 (fun x hx => h.txt (pR x) (List.mem_map.2 ⟨x, hx, rfl⟩)), h.ok, if_pos rfl]
    simp [L, be1]
  have e1 : L (nP q).Props = (L q.Props).map pR := rfl
  have e2 : (nP q).Code = q.Code := rfl
  simp only [fn79, fn79_c0, c1, codeN, e1, e2, len0]
  by_cases hv : v = 4
  . exact ⟨b, by simp [hv], by simp [hv]⟩
  . by_cases hp : L q.Props = []
    . by_cases hc : q.Code = 0
      . exact ⟨b, by simp [hv, hp, hc], by simp [hv, hp, hc]⟩
      . refine ⟨some (L b ++ [q.Code]), ?_, by simp [hv, hp, hc, L]⟩
        rw [xv15 b q.Code (by omega)]
        simp [hv, hp, hc, be1]
    . have hp2 : (L q.Props).map pR ≠ [] := by simpa using hp
      by_cases hc : q.Code = 0
      . exact ⟨some (L b ++ q.Code :: putN ((L q.Props).map pR)), by simp [hv, hp, hc], by simp [hv, hp, hc, L]⟩
      . exact ⟨some (L b ++ q.Code :: putN ((L q.Props).map pR)), by simp [hv, hp, hc], by simp [hv, hp, hc, L]⟩
end Go.Rv
namespace Go.Rv
theorem be1c (c : UInt8) : be 1 c.toNat = [c] := by
  have := c.toNat_lt
  rw [be1, Nat.mod_eq_of_lt (by omega), UInt8.ofNat_toNat]
theorem xv0 (x : List UInt8) : (binN x).length = 2 + x.length := by simp [binN, xv2]
-- ---------- filters ----------
theorem xv113 {α : Type} (k : Int) (tx : α -> List UInt8) (op : α -> UInt8) : ∀ (l : List α) (s : Option (List UInt8)),
    ∃ t, runL (fun (s : Option (List UInt8)) (a : α) => (.inl (some (L s ++ (binN (tx a) ++ if k = 8 then [op a] else []))) : Option (List UInt8) ⊕ Option (List UInt8))) (fun s => s) s l = t ∧ L t = L s ++ l.flatMap fun a => binN (tx a) ++ if k = 8 then [op a] else []
  | [], s => ⟨s, rfl, by simp⟩
  | a :: l, s => by
    obtain ⟨t, h1, h2⟩ := xv113 k tx op l (some (L s ++ (binN (tx a) ++ if k = 8 then [op a] else [])))
    exact ⟨t, h1, by rw [h2]; simp [L]⟩
theorem xv42 (b : Option (List UInt8)) (q : fn54) (h1 : (L q.Filters).length ≤ 1000) (h2 : ∀ f ∈ L q.Filters, f.Text.length ≤ 9000) (hb : (L b).length ≤ 100000000) :
    ∃ x, fn42 b q = some x ∧ L x = L b ++ filN q.Kind ((L q.Filters).map fR) := by
  have hl : lim = 140737488300000 := rfl
  simp only [fn42]
  have key := xv20 (L q.Filters) (fn42_l0 q.Filters ((L q.Filters).length : Int) q) (fun (s : Option (List UInt8)) i => (s, i)) (fun (s : Option (List UInt8)) (a : fn53) => (.inl (some (L s ++ (binN a.Text ++ if q.Kind = 8 then [a.Opt] else []))) : Option (List UInt8) ⊕ Option (List UInt8))) (fun s => s) (fun i s => (L s).length ≤ 100000000 + 9100 * i)
    (fun s i hi hI => by
      have hm : (L q.Filters)[i] ∈ L q.Filters := List.getElem_mem hi
      have ha := h2 _ hm
      simp only [fn42_l0, fn42_b0]
      rw [if_pos (by simp; omega), xv7, List.getElem?_eq_getElem hi]
      simp only [Option.bind_some]
      rw [xv11 s _ (by omega) (by omega)]
      simp only [Option.bind_some, xv4 (show i < 9223372036854775807 by omega), stepL]
      by_cases hk : q.Kind = 8
      . rw [if_pos (by simpa using hk), xv72 _ _ [] (by show (L s ++ binN (L q.Filters)[i].Text).length + 0 + 1 ≤ _; rw [List.length_append, xv0]; omega)]
        simp [hk, L, binN]
      . rw [if_neg (by simpa using hk)]
        simp [hk, L, binN])
    (fun s i hi s' hI hg => by
      have hm : (L q.Filters)[i] ∈ L q.Filters := List.getElem_mem hi
      have ha := h2 _ hm
      simp only [Sum.inl.injEq] at hg
      subst hg
      have hn := xv0 (L q.Filters)[i].Text
      show (L s ++ (binN (L q.Filters)[i].Text ++ if q.Kind = 8 then [(L q.Filters)[i].Opt] else [])).length ≤ _
      rw [List.length_append, List.length_append, hn]
      split <;> simp <;> omega)
    (fun s hI => by
      simp only [fn42_l0, fn42_b0]
      rw [if_neg (by simp)])
    b (by omega)
  obtain ⟨t, g1, g2⟩ := xv113 q.Kind (fun a : fn53 => a.Text) (fun a => a.Opt) (L q.Filters) b
  rw [g1] at key
  rw [key]
  refine ⟨t, rfl, ?_⟩
  rw [g2, filN, List.flatMap_map]
  rfl
def fl (b : Bool) (n : UInt8) : UInt8 := if b then n else 0
def conF (p : fn105) : UInt8 := ((((fl p.Clean 2 ||| fl p.HasWill 4) ||| (8 * p.WillQoS)) ||| fl p.WillRetain 32) ||| fl p.HasPass 64) ||| fl p.HasUser 128
def conB (v : Int) (p : fn105) : List UInt8 :=
  binN [77, 81, 84, 84] ++ [u8 v, conF p] ++ be 2 p.Keep.toNat ++ secV v (L p.Props) ++ binN p.Client ++ (if p.HasWill then secV v (L p.WillProps) ++ binN p.WillTopic ++ binN p.WillLoad else []) ++ (if p.HasUser then binN p.User else []) ++ (if p.HasPass then binN p.Pass else [])
theorem xv146 (b : Bool) (n : UInt8) : fn98 b n = some (fl b n) := by cases b <;> rfl
structure Txt (p : fn105) : Prop where
  cl : p.Client.length ≤ 65535
  wt : p.WillTopic.length ≤ 65535
  wl : p.WillLoad.length ≤ 65535
  us : p.User.length ≤ 65535
  ps : p.Pass.length ≤ 65535
  tp : p.Topic.length ≤ 65535
  ld : p.Load.length ≤ 1000000
  cs : (L p.Codes).length ≤ 1000000
  fl : (L p.Filters).length ≤ 1000
  ft : ∀ f ∈ L p.Filters, f.Text.length ≤ 9000
  pp : Lay (L p.Props)
  wp : Lay (L p.WillProps)
theorem lenA {x : Option (List UInt8)} {l m : List UInt8} (h : L x = l ++ m) : (L x).length = l.length + m.length := by rw [h, List.length_append]
theorem xv157 (v : Int) (b : Option (List UInt8)) (q : fn54) (h : Txt (nP q)) (hb : (L b).length ≤ 1000) : ∃ x, fn40 v b q = some x ∧ L x = L b ++ conB v (nP q) := by
  have hl : lim = 140737488300000 := rfl
  have h1 : q.Client.length ≤ 65535 := h.cl
  have h2 : q.WillTopic.length ≤ 65535 := h.wt
  have h3 : q.WillLoad.length ≤ 65535 := h.wl
  have h4 : q.User.length ≤ 65535 := h.us
  have h5 : q.Pass.length ≤ 65535 := h.ps
  have hp : Lay ((L q.Props).map pR) := h.pp
  have hw : Lay ((L q.WillProps).map pR) := h.wp
  have c1 : ∀ (x : Option (List UInt8)) (k : Option (List UInt8) -> Option (Option (List UInt8))), (L x).length ≤ 100000000 -> ∃ y, fn40_c1 x q k = k y ∧ L y = L x ++ if q.HasPass then binN q.Pass else [] := fun x k hx => by
    simp only [fn40_c1]
    cases q.HasPass with
    | false => exact ⟨x, rfl, by simp⟩
    | true => exact ⟨some (L x ++ binN q.Pass), by rw [if_pos rfl, xv11 x _ h5 (by omega)]; rfl, rfl⟩
  have c0 : ∀ (x : Option (List UInt8)) (k : Option (List UInt8) -> Option (Option (List UInt8))), (L x).length ≤ 90000000 -> ∃ y, fn40_c0 x q k = k y ∧ L y = L x ++ ((if q.HasUser then binN q.User else []) ++ if q.HasPass then binN q.Pass else []) := fun x k hx => by
    simp only [fn40_c0]
    cases q.HasUser with
    | false =>
      obtain ⟨y, e1, e2⟩ := c1 x k (by omega)
      exact ⟨y, e1, by rw [e2]; simp⟩
    | true =>
      rw [if_pos rfl, xv11 x _ h4 (by omega)]
      obtain ⟨y, e1, e2⟩ := c1 (some (L x ++ binN q.User)) k (by show (L x ++ binN q.User).length ≤ _; rw [List.length_append, xv0]; omega)
      exact ⟨y, e1, by rw [e2]; simp [L]⟩
  have hs1 := xv48 v hp
  have hs2 := xv48 v hw
  have eP : L (nP q).Props = (L q.Props).map pR := rfl
  have eW : L (nP q).WillProps = (L q.WillProps).map pR := rfl
  simp only [fn40, xv146, Option.bind_some]
  rw [xv11 b _ (by simp) (by simp; omega)]
  simp only [Option.bind_some]
  rw [xv15 _ _ (by simp [L, xv2]; simp [L] at hb; omega)]
  simp only [Option.bind_some]
  rw [xv15 _ _ (by simp [L, xv2]; simp [L] at hb; omega)]
  simp only [Option.bind_some]
  rw [xv27 _ _ (by simp [L, xv2]; simp [L] at hb; omega)]
  simp only [Option.bind_some]
  generalize hX : (some (L (some (L (some (L (some (L b ++ (be 2 [77, 81, 84, 84].length ++ [77, 81, 84, 84]))) ++ be 1 (u8 v).toNat)) ++ be 1 (((((fl q.Clean 2 ||| fl q.HasWill 4) ||| 8 * q.WillQoS) ||| fl q.WillRetain 32) ||| fl q.HasPass 64) ||| fl q.HasUser 128).toNat)) ++ be 2 q.Keep.toNat) : Option (List UInt8)) = X
  have lX : L X = L b ++ (binN [77, 81, 84, 84] ++ [u8 v, conF (nP q)] ++ be 2 q.Keep.toNat) := by
    rw [← hX]
    simp only [be1c]
    simp [L, binN, conF, nP]
  have nX : (L X).length ≤ 2000 := by rw [lX]; simp [binN, xv2]; omega
  obtain ⟨y, s1, s2⟩ := xv6 v X q.Props hp (by omega)
  have n2 := lenA s2
  rw [s1]
  simp only [Option.bind_some]
  rw [xv11 y _ h1 (by omega)]
  simp only [Option.bind_some]
  have fin : ∀ (z : Option (List UInt8)), L z = L X ++ (secV v ((L q.Props).map pR) ++ binN q.Client) ++ (if q.HasWill then secV v ((L q.WillProps).map pR) ++ binN q.WillTopic ++ binN q.WillLoad else []) -> (L z).length ≤ 90000000 -> ∃ x, fn40_c0 z q (fun x28 => some x28) = some x ∧ L x = L b ++ conB v (nP q) := fun z hz hn => by
    obtain ⟨y, e1, e2⟩ := c0 z (fun x => some x) hn
    refine ⟨y, e1, ?_⟩
    rw [e2, hz, lX]
    simp only [conB, eP, eW, List.append_assoc]
    rfl
  have lz : L (some (L y ++ (be 2 q.Client.length ++ q.Client))) = L X ++ (secV v ((L q.Props).map pR) ++ binN q.Client) := by
    show L y ++ binN q.Client = _
    rw [s2, List.append_assoc]
  cases hwl : q.HasWill with
  | false =>
    rw [if_neg (by simp)]
    refine fin _ (by rw [lz, hwl]; simp) (by rw [lz]; simp [xv0]; omega)
  | true =>
    rw [if_pos rfl]
    have n3 : (L (some (L y ++ (be 2 q.Client.length ++ q.Client)))).length ≤ 20000000 := by rw [lz]; simp [xv0]; omega
    obtain ⟨z, t1, t2⟩ := xv6 v (some (L y ++ (be 2 q.Client.length ++ q.Client))) q.WillProps hw (by omega)
    have n4 := lenA t2
    rw [t1]
    simp only [Option.bind_some]
    rw [xv11 z _ h2 (by omega)]
    simp only [Option.bind_some]
    have n5 : (L (some (L z ++ (be 2 q.WillTopic.length ++ q.WillTopic)))).length = (L z).length + (2 + q.WillTopic.length) := by
      show (L z ++ binN q.WillTopic).length = _
      rw [List.length_append, xv0]
    rw [xv11 _ _ h3 (by omega)]
    simp only [Option.bind_some]
    have lw : L (some (L (some (L z ++ (be 2 q.WillTopic.length ++ q.WillTopic))) ++ (be 2 q.WillLoad.length ++ q.WillLoad))) = L z ++ (binN q.WillTopic ++ binN q.WillLoad) := by
      show (L z ++ binN q.WillTopic) ++ binN q.WillLoad = _
      rw [List.append_assoc]
    refine fin _ (by rw [lw, t2, lz, hwl]; simp) (by rw [lw]; simp [xv0]; omega)
end Go.Rv
namespace Go.Rv
-- ---------- a Connect, by the document ----------
def behN (v : Int) (p : fn105) : List UInt8 :=
  if p.Kind = 1 then conB v p
  else if p.Kind = 2 then [fl p.Present 1, p.Code] ++ secV v (L p.Props)
  else if p.Kind = 3 then binN p.Topic ++ (if p.QoS > 0 then be 2 p.Id.toNat else []) ++ secV v (L p.Props) ++ p.Load
  else if p.Kind = 4 ∨ p.Kind = 5 ∨ p.Kind = 6 ∨ p.Kind = 7 then be 2 p.Id.toNat ++ codeN v p
  else if p.Kind = 8 ∨ p.Kind = 10 then be 2 p.Id.toNat ++ secV v (L p.Props) ++ filN p.Kind (L p.Filters)
  else if p.Kind = 9 ∨ p.Kind = 11 then be 2 p.Id.toNat ++ secV v (L p.Props) ++ L p.Codes
  else if p.Kind = 14 ∨ p.Kind = 15 then codeN v p
  else []
theorem xv123 (x y : Option (List UInt8)) (h : (L x).length + (L y).length ≤ lim) : ∃ z, appO 1 x y = some z ∧ L z = L x ++ L y := by
  simp only [lim] at h
  cases x with
  | some x => exact ⟨_, xv16 (by simp [room]; simp [L] at h ⊢; omega) (by simp [room]; simp [L] at h ⊢; omega), rfl⟩
  | none =>
    cases hy : L y with
    | nil =>
      refine ⟨none, ?_, by simp [L]⟩
      cases y with
      | none => rfl
      | some y => simp only [L, Option.getD_some] at hy; subst hy; rfl
    | cons a l =>
      cases y with
      | none => simp [L] at hy
      | some y =>
        simp only [L, Option.getD_some] at hy; subst hy
        exact ⟨_, xv72 none a l (by simp [L, lim] at h ⊢; omega), by simp [L]⟩
theorem kinds {k : Int} (h : 1 ≤ k ∧ k ≤ 15) : k = 1 ∨ k = 2 ∨ k = 3 ∨ (k = 4 ∨ k = 5 ∨ k = 6 ∨ k = 7) ∨ (k = 8 ∨ k = 10) ∨ (k = 9 ∨ k = 11) ∨ (k = 14 ∨ k = 15) ∨ (k = 12 ∨ k = 13) := by omega
theorem xv156 (v : Int) (b : Option (List UInt8)) (q : fn54) (h : Txt (nP q)) (hk : 1 ≤ q.Kind ∧ q.Kind ≤ 15) (hb : (L b).length ≤ 1000) : ∃ x, fn50 v b q = some x ∧ L x = L b ++ behN v (nP q) := by
  have hl : lim = 140737488300000 := rfl
  have hp : Lay ((L q.Props).map pR) := h.pp
  have hs1 := xv48 v hp
  have ht : q.Topic.length ≤ 65535 := h.tp
  have hld : q.Load.length ≤ 1000000 := h.ld
  have hcs : (L q.Codes).length ≤ 1000000 := h.cs
  have e1 : (nP q).Kind = q.Kind := rfl
  have e2 : L (nP q).Props = (L q.Props).map pR := rfl
  have e3 : L (nP q).Codes = L q.Codes := rfl
  have e4 : L (nP q).Filters = (L q.Filters).map fR := rfl
  have t2 := xv27 b q.Id (by omega)
  have n2 : (L (some (L b ++ be 2 q.Id.toNat))).length = (L b).length + 2 := by simp [L, xv2]
  obtain ⟨cx, c1, c2⟩ := xv73 v (some (L b ++ be 2 q.Id.toNat)) q hp (by omega)
  obtain ⟨dx, d1, d2⟩ := xv73 v b q hp (by omega)
  obtain ⟨sx, s1, s2⟩ := xv6 v (some (L b ++ be 2 q.Id.toNat)) q.Props hp (by omega)
  have ns := lenA s2
  obtain ⟨fx, f1, f2⟩ := xv42 sx q (by have := h.fl; rw [e4, List.length_map] at this; exact this) (fun f hf => h.ft (fR f) (by rw [e4]; exact List.mem_map.2 ⟨f, hf, rfl⟩)) (by omega)
  obtain ⟨ax, a1, a2⟩ := xv123 sx q.Codes (by omega)
  have c1' : fn79 v (some (L b ++ be 2 q.Id.toNat)) (⟨q.Kind, q.Dup, q.Retain, q.QoS, q.Id, q.Clean, q.Keep, q.Client, q.HasWill, q.HasUser, q.HasPass, q.WillQoS, q.WillRetain, q.WillProps, q.WillTopic, q.WillLoad, q.User, q.Pass, q.Present, q.Code, q.Topic, q.Load, q.Filters, q.Codes, q.Props⟩ : fn54) = some cx := c1
  have d1' : fn79 v b (⟨q.Kind, q.Dup, q.Retain, q.QoS, q.Id, q.Clean, q.Keep, q.Client, q.HasWill, q.HasUser, q.HasPass, q.WillQoS, q.WillRetain, q.WillProps, q.WillTopic, q.WillLoad, q.User, q.Pass, q.Present, q.Code, q.Topic, q.Load, q.Filters, q.Codes, q.Props⟩ : fn54) = some dx := d1
  have f1' : fn42 sx (⟨q.Kind, q.Dup, q.Retain, q.QoS, q.Id, q.Clean, q.Keep, q.Client, q.HasWill, q.HasUser, q.HasPass, q.WillQoS, q.WillRetain, q.WillProps, q.WillTopic, q.WillLoad, q.User, q.Pass, q.Present, q.Code, q.Topic, q.Load, q.Filters, q.Codes, q.Props⟩ : fn54) = some fx := f1
  rcases kinds hk with k | k | k | k | k | k | k | k
  . obtain ⟨x, g1, g2⟩ := xv157 v b q h hb
    refine ⟨x, ?_, ?_⟩
    . simp only [fn50]
      rw [if_pos (by simp [k]), g1]; rfl
    . rw [g2]; simp only [behN, e1, k, if_true]
  . obtain ⟨x, g1, g2⟩ := xv6 v (some (L b ++ [fl q.Present 1, q.Code])) q.Props hp (by simp [L]; simp [L] at hb; omega)
    refine ⟨x, ?_, ?_⟩
    . simp only [fn50]
      rw [if_neg (by simp [k]), if_pos (by simp [k]), xv146]
      simp only [Option.bind_some, xv178, sec1]
      rw [xv15 b _ (by omega)]
      simp only [Option.bind_some]
      rw [xv15 _ _ (by simp [L, xv2]; simp [L] at hb; omega), be1c, be1c]
      simp only [Option.bind_some]
      rw [show (some (L (some (L b ++ [fl q.Present 1])) ++ [q.Code]) : Option (List UInt8)) = some (L b ++ [fl q.Present 1, q.Code]) by simp [L], g1]
      rfl
    . rw [g2]; simp only [behN, e1]; rw [if_neg (by omega), if_pos k]; simp [L, nP]
  . have hpub : ∃ x, fn41 v b q = some x ∧ L x = L b ++ (binN q.Topic ++ (if q.QoS > 0 then be 2 q.Id.toNat else []) ++ secV v ((L q.Props).map pR) ++ q.Load) := by
      simp only [fn41, fn41_c0, wTwo1, sec1]
      rw [xv11 b _ ht (by omega)]
      simp only [Option.bind_some]
      have nb : (L (some (L b ++ (be 2 q.Topic.length ++ q.Topic)))).length = (L b).length + (2 + q.Topic.length) := by
        show (L b ++ binN q.Topic).length = _
        rw [List.length_append, xv0]
      by_cases hq : q.QoS > 0
      . rw [if_pos (by simpa using hq), xv27 _ _ (by omega), if_pos hq]
        simp only [Option.bind_some]
        have nb2 : (L (some (L (some (L b ++ (be 2 q.Topic.length ++ q.Topic))) ++ be 2 q.Id.toNat))).length = (L b).length + (2 + q.Topic.length) + 2 := by
          show (L (some (L b ++ (be 2 q.Topic.length ++ q.Topic))) ++ be 2 q.Id.toNat).length = _
          rw [List.length_append, xv2, nb]
        obtain ⟨x, g1, g2⟩ := xv6 v (some (L (some (L b ++ (be 2 q.Topic.length ++ q.Topic))) ++ be 2 q.Id.toNat)) q.Props hp (by omega)
        have n3 := lenA g2
        rw [g1]
        simp only [Option.bind_some]
        obtain ⟨y, y1, y2⟩ := xv123 x (some q.Load) (by show _ + q.Load.length ≤ _; omega)
        exact ⟨y, by rw [y1]; rfl, by rw [y2, g2]; simp [L, binN]⟩
      . rw [if_neg (by simpa using hq), if_neg hq]
        obtain ⟨x, g1, g2⟩ := xv6 v (some (L b ++ (be 2 q.Topic.length ++ q.Topic))) q.Props hp (by omega)
        have n3 := lenA g2
        rw [g1]
        simp only [Option.bind_some]
        obtain ⟨y, y1, y2⟩ := xv123 x (some q.Load) (by show _ + q.Load.length ≤ _; omega)
        exact ⟨y, by rw [y1]; rfl, by rw [y2, g2]; simp [L, binN]⟩
    obtain ⟨x, g1, g2⟩ := hpub
    refine ⟨x, ?_, ?_⟩
    . simp only [fn50]
      rw [if_neg (by simp [k]), if_neg (by simp [k]), if_pos (by simp [k]), g1]; rfl
    . rw [g2]; simp only [behN, e1]; rw [if_neg (show ¬ q.Kind = 1 by omega), if_neg (show ¬ q.Kind = 2 by omega), if_pos k]; rfl
  . refine ⟨cx, ?_, ?_⟩
    . simp only [fn50, fn50_c0, code1, t2, c1', Option.bind_some]
      rcases k with k | k | k | k <;> simp [k]
    . rw [c2]; simp only [behN, e1]
      rw [if_neg (by omega), if_neg (by omega), if_neg (by omega), if_pos k]; simp [L, nP]
  . refine ⟨fx, ?_, ?_⟩
    . simp only [fn50, fn50_c0, fn50_c1, code1, sec1, fil1, t2, c1', s1, f1', Option.bind_some]
      rcases k with k | k <;> simp [k]
    . rw [f2, s2]; simp only [behN, e1]
      rw [if_neg (by omega), if_neg (by omega), if_neg (by omega), if_neg (by omega), if_pos k]; simp [L, nP]
  . refine ⟨ax, ?_, ?_⟩
    . simp only [fn50, fn50_c0, fn50_c1, fn50_c2, code1, sec1, fil1, t2, c1', s1, f1', a1, Option.bind_some]
      rcases k with k | k <;> simp [k]
    . rw [a2, s2]; simp only [behN, e1]
      rw [if_neg (by omega), if_neg (by omega), if_neg (by omega), if_neg (by omega), if_neg (by omega), if_pos k]; simp [L, nP]
  . refine ⟨dx, ?_, ?_⟩
    . simp only [fn50, fn50_c0, fn50_c1, fn50_c2, fn50_c3, code1, sec1, fil1, t2, c1', d1', s1, f1', a1, Option.bind_some]
      rcases k with k | k <;> simp [k]
    . rw [d2]; simp only [behN, e1]
      rw [if_neg (by omega), if_neg (by omega), if_neg (by omega), if_neg (by omega), if_neg (by omega), if_neg (by omega), if_pos k]
  . refine ⟨b, ?_, ?_⟩
    . simp only [fn50, fn50_c0, fn50_c1, fn50_c2, fn50_c3, code1, sec1, fil1, t2, c1', d1', s1, f1', a1, Option.bind_some]
      rcases k with k | k <;> simp [k]
    . simp only [behN, e1]
      rw [if_neg (by omega), if_neg (by omega), if_neg (by omega), if_neg (by omega), if_neg (by omega), if_neg (by omega), if_neg (by omega)]; simp
end Go.Rv
namespace Go.Rv
theorem xv93 (v : Int) {l : List fn153} (h : Lay l) : ((secV v l).length : Int) = sectI v l := by
  simp only [secV, sectI, sizeI, h.ok, if_true]
  split <;> rfl
theorem xv102 (v : Int) (p : fn105) (h : Lay (L p.Props)) : ((codeN v p).length : Int) = codeI v p := by
  simp only [codeN, codeI, sizeI, h.ok, if_true, List.length_eq_zero_iff]
  split
  . rfl
  . split
    . rfl
    . simp; omega
theorem xv76 (k : Int) : ∀ l : List fn104, ((filN k l).length : Int) = xv9 k l
  | [] => rfl
  | f :: l => by
    have ih := xv76 k l
    have e1 : filN k (f :: l) = (binN f.Text ++ if k = 8 then [f.Opt] else []) ++ filN k l := rfl
    have e2 : xv9 k (f :: l) = (binI f.Text + if k = 8 then 1 else 0) + xv9 k l := by simp [xv9]
    have hb := xv0 f.Text
    rw [e1, e2, ← ih, List.length_append, List.length_append, hb]
    simp only [binI]
    split <;> simp <;> omega
theorem xv53 (v : Int) (p : fn105) (h : Txt p) : ((behN v p).length : Int) = restI v p := by
  have s1 := xv93 v h.pp
  have s2 := xv93 v h.wp
  have s3 := xv102 v p h.pp
  have s4 := xv76 p.Kind (L p.Filters)
  have b1 := xv0 p.Client; have b2 := xv0 p.WillTopic; have b3 := xv0 p.WillLoad; have b4 := xv0 p.User; have b5 := xv0 p.Pass; have b6 := xv0 p.Topic
  have b7 : (binN [77, 81, 84, 84]).length = 6 := by rw [xv0]; rfl
  simp only [behN, restI]
  split
  . simp only [conB, List.length_append, b7, xv2, b1, binI]
    cases p.HasWill <;> cases p.HasUser <;> cases p.HasPass <;> simp [b1, b2, b3, b4, b5] <;> omega
  split
  . simp only [List.length_append]; simp; omega
  split
  . simp only [List.length_append, b6, binI]
    split <;> simp [xv2] <;> omega
  split
  . simp only [List.length_append, xv2]; omega
  split
  . simp only [List.length_append, xv2]; omega
  split
  . simp only [List.length_append, xv2]; omega
  split
  . exact s3
  . rfl
-- ---------- flags ----------
def flagN (p : fn105) : UInt8 := if p.Kind = 3 then (fl p.Retain 1 ||| (2 * p.QoS)) ||| fl p.Dup 8 else if p.Kind = 6 ∨ p.Kind = 8 ∨ p.Kind = 10 then 2 else 0
theorem xv139 (q : fn54) : fn64 q = some (flagN (nP q)) := by
  have e : flagN (nP q) = if q.Kind = 3 then (fl q.Retain 1 ||| (2 * q.QoS)) ||| fl q.Dup 8 else if q.Kind = 6 ∨ q.Kind = 8 ∨ q.Kind = 10 then 2 else 0 := rfl
  rw [e]
  simp only [fn64, xv146, Option.bind_some, decide_eq_true_eq]
  by_cases h3 : q.Kind = 3
  . simp [h3]
  . by_cases h6 : q.Kind = 6
    . simp [h6]
    . by_cases h8 : q.Kind = 8
      . simp [h8]
      . by_cases h10 : q.Kind = 10
        . simp [h10]
        . simp [h3, h6, h8, h10]
end Go.Rv
namespace Go.Rv
theorem xv142 {k : Int} : ∀ (l : List fn153) (p : Option fn153), chkL k p l = true -> l.all okB = true
  | [], _, _ => rfl
  | b :: l, p, h => by
    simp only [chkL, chk1, xv68, Bool.and_eq_true] at h
    rw [List.all_cons, xv142 l _ h.2, Bool.and_true]
    exact h.1.1.1.1
structure Facts (p : fn105) : Prop where
  tx : Txt p
  k : 1 ≤ p.Kind ∧ p.Kind ≤ 15
  wq : p.Kind = 1 -> ¬ p.WillQoS > 2
  qs : p.Kind = 3 -> ¬ p.QoS > 2
theorem xv41 {v : Int} {q : fn54} (h : MidQ q) (hr : xv24 v (nP q) = true) : Facts (nP q) := by
  have h1 := h.wp; have h2 := h.pp; have h3 := h.fl; have h4 := h.cd
  have m := h.toMidP
  have l1 := h.cl; have l2 := h.tp; have l3 := h.wo; have l4 := h.us; have l5 := h.ld
  simp only [xv24, Bool.and_eq_true] at hr
  obtain ⟨⟨⟨⟨⟨⟨a1, a2⟩, a3⟩, _⟩, a5⟩, a6⟩, a7⟩ := hr
  simp only [verB, Bool.and_eq_true, decide_eq_true_eq] at a1
  have a2 := of_decide_eq_true a2
  simp only [xv35, Bool.and_eq_true, decide_eq_true_eq] at a3
  simp only [xv5, Bool.and_eq_true] at a5 a6
  have e1 : L (nP q).Props = (L q.Props).map pR := rfl
  have e2 : L (nP q).WillProps = (L q.WillProps).map pR := rfl
  have e3 : L (nP q).Filters = (L q.Filters).map fR := rfl
  have e4 : L (nP q).Codes = L q.Codes := rfl
  refine ⟨⟨?_, ?_, a3.1.2, ?_, a3.2, ?_, ?_, ?_, ?_, ?_, ⟨?_, ?_, xv142 _ _ a5.1.2⟩, ⟨?_, ?_, xv142 _ _ a6.1.2⟩⟩, ⟨a1.1.1.2, a1.1.2⟩, ?_, ?_⟩
  . show q.Client.length ≤ 65535; omega
  . show q.WillTopic.length ≤ 65535; omega
  . show q.User.length ≤ 65535; omega
  . show q.Topic.length ≤ 65535; omega
  . show q.Load.length ≤ 1000000; omega
  . rw [e4]; omega
  . rw [e3, List.length_map]; omega
  . intro f hf
    rw [e3] at hf
    obtain ⟨g, hg, rfl⟩ := List.mem_map.1 hf
    exact m.ft g hg
  . rw [e1, List.length_map]; omega
  . rw [e1]; exact m.ptm
  . rw [e2, List.length_map]; omega
  . rw [e2]; exact m.wtm
  . intro k
    cases hw : (nP q).HasWill with
    | true =>
      simp only [ownN, conN, k, if_true, hw, Bool.true_and, Bool.and_eq_true, Bool.not_eq_true', Bool.or_eq_false_iff, decide_eq_false_iff_not] at a7
      exact a7.1.1
    | false =>
      have := congrArg fn105.WillQoS a2
      simp only [bareN, k, if_true, hw] at this
      rw [if_neg (by decide)] at this
      rw [this]; decide
  . intro k
    have a7 : pubN v (nP q) = true := by
      simp only [ownN, k] at a7
      simpa using a7
    simp only [pubN, Bool.and_eq_true, Bool.not_eq_true', decide_eq_false_iff_not] at a7
    exact a7.1.1.1
def packN (v : Int) (p : fn105) : List UInt8 := ((yv729 (u8 p.Kind) ((4 : UInt64).toNat : Int)) ||| flagN p) :: (vb (behN v p).length ++ behN v p)
theorem xv154 (v : Int) (q : fn54) (h : MidQ q) (f : Facts (nP q)) : (behN v (nP q)).length ≤ 268435455 := by
  have := (xv28 v q h).2.1
  have := xv53 v (nP q) f.tx
  omega
theorem xv158 (v : Int) (q : fn54) (h : MidQ q) (hr : xv24 v (nP q) = true) : ∃ x, fn51 v q = some (x, 0) ∧ L x = packN v (nP q) := by
  have f := xv41 h hr
  obtain ⟨r1, r2, r3⟩ := xv28 v q h
  have hi := xv53 v (nP q) f.tx
  have hle := xv154 v q h f
  have hu : (u32 ((behN v (nP q)).length : Int)).toNat = (behN v (nP q)).length := by rw [u32_toNat']; omega
  have hv := xv52 4 (behN v (nP q)).length (by have : (128 : Nat) ^ 4 = 268435456 := (by decide); omega)
  simp only [fn51]
  rw [xv91 v q h, hr]
  simp only [Option.bind_some]
  rw [if_neg (by simp), show fn64 (⟨q.Kind, q.Dup, q.Retain, q.QoS, q.Id, q.Clean, q.Keep, q.Client, q.HasWill, q.HasUser, q.HasPass, q.WillQoS, q.WillRetain, q.WillProps, q.WillTopic, q.WillLoad, q.User, q.Pass, q.Present, q.Code, q.Topic, q.Load, q.Filters, q.Codes, q.Props⟩ : fn54) = some (flagN (nP q)) from xv139 q]
  simp only [Option.bind_some]
  rw [r1]
  simp only [Option.bind_some]
  rw [← hi, xv60 _ _ (by simp [L]), hu, if_neg (by omega)]
  simp only [Option.bind_some]
  obtain ⟨x, g1, g2⟩ := xv156 v (some (L (some [(yv729 (u8 q.Kind) ((4 : UInt64).toNat : Int)) ||| flagN (nP q)]) ++ vb (behN v (nP q)).length)) q f.tx f.k (by simp [L]; omega)
  rw [show fn50 v (some (L (some [(yv729 (u8 q.Kind) ((4 : UInt64).toNat : Int)) ||| flagN (nP q)]) ++ vb (behN v (nP q)).length)) (⟨q.Kind, q.Dup, q.Retain, q.QoS, q.Id, q.Clean, q.Keep, q.Client, q.HasWill, q.HasUser, q.HasPass, q.WillQoS, q.WillRetain, q.WillProps, q.WillTopic, q.WillLoad, q.User, q.Pass, q.Present, q.Code, q.Topic, q.Load, q.Filters, q.Codes, q.Props⟩ : fn54) = some x from g1]
  refine ⟨x, rfl, ?_⟩
  rw [g2]
  simp only [packN, L, Option.getD_some, List.cons_append, List.nil_append, List.append_assoc]
  rfl
theorem size_eq (v : Int) (q : fn54) (h : MidQ q) : fn81 v q = some (if xv24 v (nP q) then ((packN v (nP q)).length : Int) else 0) := by
  simp only [fn81]
  rw [xv91 v q h]
  simp only [Option.bind_some]
  cases hr : xv24 v (nP q) with
  | false => rfl
  | true =>
    have f := xv41 h hr
    obtain ⟨r1, r2, r3⟩ := xv28 v q h
    have hi := xv53 v (nP q) f.tx
    have hle := xv154 v q h f
    have hu : (u32 ((behN v (nP q)).length : Int)).toNat = (behN v (nP q)).length := by rw [u32_toNat']; omega
    have hv := xv52 4 (behN v (nP q)).length (by have : (128 : Nat) ^ 4 = 268435456 := (by decide); omega)
    rw [if_neg (by simp), r1]
    simp only [Option.bind_some, fn65]
    rw [← hi, xv60 _ _ (by simp [L]), hu, if_neg (by omega)]
    simp only [Option.bind_some]
    have n0 : L (some (L (none : Option (List UInt8)) ++ vb (behN v (nP q)).length)) = vb (behN v (nP q)).length := by simp [L]
    rw [n0, xv1 (x := 1 + ((vb (behN v (nP q)).length).length : Int)) (by omega) (by omega), xv1 (by omega) (by omega), if_pos trivial]
    simp only [packN, List.length_cons, List.length_append]
    congr 1
    omega
def tD : fn54 := ⟨3, false, false, 1, 7, false, 0, [], false, false, false, 0, false, none, [], [], [], [], false, 0, [97], [120], none, none, none⟩
theorem tD_q : MidQ tD := by
  refine ⟨⟨⟨?_, ?_, ?_, ?_⟩, ?_, ?_, ?_, ?_, ?_, ?_, ?_⟩, ?_, ?_, ?_⟩ <;> simp [tD, L]
theorem tD_r : xv24 4 (nP tD) = true := by kernel_rfl
theorem tD_b : behN 4 (nP tD) = [0, 1, 97, 0, 7, 120] := by kernel_rfl
theorem tD_p : packN 4 (nP tD) = [50, 6, 0, 1, 97, 0, 7, 120] := by
  simp only [packN, tD_b]
  rw [vb_lt (by decide)]
  kernel_rfl
theorem xv78 : fn151 = some true := by
  obtain ⟨x, g1, g2⟩ := xv158 4 tD tD_q tD_r
  rw [tD_p] at g2
  simp only [fn151]
  rw [show fn51 4 (⟨3, false, false, (1 : UInt8), (7 : UInt16), false, (0 : UInt16), [], false, false, false, (0 : UInt8), false, none, [], [], [], [], false, (0 : UInt8), [97], [120], none, none, none⟩ : fn54) = some (x, 0) from g1]
  simp only [Option.bind_some]
  rw [if_pos (by decide), if_pos (by simp [g2])]
  rw [show fn81 4 (⟨3, false, false, (1 : UInt8), (7 : UInt16), false, (0 : UInt16), [], false, false, false, (0 : UInt8), false, none, [], [], [], [], false, (0 : UInt8), [97], [120], none, none, none⟩ : fn54) = some 8 from (size_eq 4 tD tD_q).trans (by rw [tD_r, tD_p]; rfl)]
  simp only [Option.bind_some]
  rw [if_pos (by decide)]
  rw [show fn64 (⟨3, false, false, (1 : UInt8), (7 : UInt16), false, (0 : UInt16), [], false, false, false, (0 : UInt8), false, none, [], [], [], [], false, (0 : UInt8), [97], [120], none, none, none⟩ : fn54) = some 2 from by kernel_rfl]
  simp only [Option.bind_some]
  rw [if_pos (by decide)]
  rw [show fn73 4 (⟨3, false, false, (1 : UInt8), (7 : UInt16), false, (0 : UInt16), [], false, false, false, (0 : UInt8), false, none, [], [], [], [], false, (0 : UInt8), [97], [120], none, none, none⟩ : fn54) = some 6 from (xv28 4 tD tD_q).1.trans (by kernel_rfl)]
  rfl
end Go.Rv
namespace Go.Rv
theorem xv45 {α : Type} : ∀ (n : Nat) (a : α), (repR n a).length = n
  | 0, _ => rfl
  | n + 1, a => by simp [repR, xv45 n]
def PK (l : List UInt8) : fn54 := (⟨3, false, false, (0 : UInt8), (0 : UInt16), false, (0 : UInt16), [], false, false, false, (0 : UInt8), false, none, [], [], [], [], false, (0 : UInt8), [116], l, none, none, none⟩ : fn54)
theorem PK_q {l : List UInt8} (hl : l.length < 70000) : MidQ (PK l) := by
  refine ⟨⟨⟨?_, ?_, ?_, ?_⟩, ?_, ?_, ?_, ?_, ?_, ?_, ?_⟩, ?_, ?_, ?_⟩ <;> simp [PK, L] <;> omega
theorem PK_b (l : List UInt8) : nP (PK l) = bareN (nP (PK l)) := rfl
theorem PK_r (v : Int) (hv : v = 4 ∨ v = 5) (l : List UInt8) : xv24 v (nP (PK l)) = true := by
  simp only [xv24, decide_eq_true (PK_b l)]
  rcases hv with rfl | rfl <;> kernel_rfl
theorem vb0 : vb 0 = [0] := by rw [vb_lt (by decide)]; rfl
theorem xv172 (v : Int) (hv : v = 4 ∨ v = 5) (l : List UInt8) : (behN v (nP (PK l))).length = 3 + l.length + (if v = 5 then 1 else 0) := by
  have e : behN v (nP (PK l)) = binN [116] ++ [] ++ secV v [] ++ l := rfl
  have es : (secV v []).length = if v = 5 then 1 else 0 := by
    rcases hv with rfl | rfl
    . rfl
    . simp only [secV, putN]
      rw [if_neg (by decide), if_pos trivial]
      show (vb 0 ++ []).length = 1
      rw [vb0]; rfl
  rw [e]
  simp only [List.length_append, xv0, es, List.length_nil]
  simp; omega
theorem vb_1 {n : Nat} (h : n < 128) : (vb n).length = 1 := by rw [vb_lt h]; rfl
theorem vb_2 {n : Nat} (h : 128 ≤ n) (h2 : n < 16384) : (vb n).length = 2 := by
  rw [vb_ge (by omega), List.length_cons, vb_1 (by omega)]
theorem vb_3 {n : Nat} (h : 16384 ≤ n) (h2 : n < 2097152) : (vb n).length = 3 := by
  rw [vb_ge (by omega), List.length_cons, vb_2 (by omega) (by omega)]
theorem xv169 (n : Nat) : ∃ c t, vb n = c :: t ∧ c.toNat % 128 = n % 128 := by
  by_cases h : n < 128
  . exact ⟨UInt8.ofNat n, [], vb_lt h, by simp only [UInt8.toNat_ofNat']; omega⟩
  . exact ⟨_, _, vb_ge h, by simp only [UInt8.toNat_ofNat']; omega⟩
theorem xv82 (v : Int) (hv : v = 4 ∨ v = 5) (l : List UInt8) (hl : l.length < 70000) (rest size : Nat) (hr : rest = 3 + l.length + (if v = 5 then 1 else 0)) (hs : size = 1 + (vb rest).length) (hs4 : size ≤ 4) :
    fn43_c2 v (rest : Int) (size : Int) (PK l) (fun x => some x) = some true := by
  have q := PK_q hl
  have r := PK_r v hv l
  have f := xv41 q r
  have hlen := xv172 v hv l
  rw [← hr] at hlen
  have hr2 : rest ≤ 70004 := by rw [hr]; split <;> omega
  have hi := xv53 v (nP (PK l)) f.tx
  rw [hlen] at hi
  obtain ⟨x, g1, g2⟩ := xv158 v (PK l) q r
  have hp : packN v (nP (PK l)) = 48 :: (vb rest ++ behN v (nP (PK l))) := by
    have h48 : ((yv729 (u8 (nP (PK l)).Kind) ((4 : UInt64).toNat : Int)) ||| flagN (nP (PK l))) = 48 := by kernel_rfl
    simp only [packN, hlen, h48]
  have hpl : (packN v (nP (PK l))).length = size + rest := by
    rw [hp, List.length_cons, List.length_append, hlen, hs]; omega
  have sz := size_eq v (PK l) q
  rw [r, if_pos rfl, hpl] at sz
  obtain ⟨c, t, c1, c2⟩ := xv169 rest
  simp only [fn43_c2]
  rw [show fn51 v (⟨(PK l).Kind, (PK l).Dup, (PK l).Retain, (PK l).QoS, (PK l).Id, (PK l).Clean, (PK l).Keep, (PK l).Client, (PK l).HasWill, (PK l).HasUser, (PK l).HasPass, (PK l).WillQoS, (PK l).WillRetain, (PK l).WillProps, (PK l).WillTopic, (PK l).WillLoad, (PK l).User, (PK l).Pass, (PK l).Present, (PK l).Code, (PK l).Topic, (PK l).Load, (PK l).Filters, (PK l).Codes, (PK l).Props⟩ : fn54) = some (x, 0) from g1]
  simp only [Option.bind_some, xv78, if_true]
  rw [if_pos (by decide), show fn73 v (⟨(PK l).Kind, (PK l).Dup, (PK l).Retain, (PK l).QoS, (PK l).Id, (PK l).Clean, (PK l).Keep, (PK l).Client, (PK l).HasWill, (PK l).HasUser, (PK l).HasPass, (PK l).WillQoS, (PK l).WillRetain, (PK l).WillProps, (PK l).WillTopic, (PK l).WillLoad, (PK l).User, (PK l).Pass, (PK l).Present, (PK l).Code, (PK l).Topic, (PK l).Load, (PK l).Filters, (PK l).Codes, (PK l).Props⟩ : fn54) = some (rest : Int) from (xv28 v (PK l) q).1.trans (by rw [hi])]
  simp only [Option.bind_some]
  rw [xv1 (x := (size : Int) + (rest : Int)) (by omega) (by omega)]
  rw [if_pos (by simp), g2, hpl, if_pos (by simp), show fn81 v (⟨(PK l).Kind, (PK l).Dup, (PK l).Retain, (PK l).QoS, (PK l).Id, (PK l).Clean, (PK l).Keep, (PK l).Client, (PK l).HasWill, (PK l).HasUser, (PK l).HasPass, (PK l).WillQoS, (PK l).WillRetain, (PK l).WillProps, (PK l).WillTopic, (PK l).WillLoad, (PK l).User, (PK l).Pass, (PK l).Present, (PK l).Code, (PK l).Topic, (PK l).Load, (PK l).Filters, (PK l).Codes, (PK l).Props⟩ : fn54) = some ((size + rest : Nat) : Int) from sz]
  simp only [Option.bind_some]
  rw [if_pos (by simp), hp, c1]
  have i0 : ix ((48 : UInt8) :: (c :: t ++ behN v (nP (PK l)))) 0 = some 48 := rfl
  have i1 : ix ((48 : UInt8) :: (c :: t ++ behN v (nP (PK l)))) 1 = some c := rfl
  rw [i0, i1]
  simp only [Option.bind_some]
  rw [if_pos (by decide), chk_d (by decide), chk_d (by decide)]
  simp only [Option.bind_some]
  have e1 : (c % (128 : UInt8)).toNat = rest % 128 := by
    rw [UInt8.toNat_mod]; exact c2
  rw [e1, xv1 (by omega) (by omega), Int.tmod_eq_emod_of_nonneg (by omega)]
  simp
theorem xv115 (v : Int) (hv : v = 4 ∨ v = 5) (l : List UInt8) (hl : l.length < 70000) (rest : Nat) (hr : rest = 3 + l.length + (if v = 5 then 1 else 0)) :
    fn43_c0 v (rest : Int) (PK l) (fun x => some x) = some true := by
  have hr2 : rest ≤ 70004 := by rw [hr]; split <;> omega
  simp only [fn43_c0, fn43_c1]
  by_cases h1 : 128 ≤ rest
  . rw [if_pos (by simp; omega)]
    by_cases h2 : 16384 ≤ rest
    . rw [if_pos (by simp; omega)]
      exact xv82 v hv l hl rest 4 hr (by rw [vb_3 h2 (by omega)]) (by omega)
    . rw [if_neg (by simp; omega)]
      exact xv82 v hv l hl rest 3 hr (by rw [vb_2 h1 (by omega)]) (by omega)
  . rw [if_neg (by simp; omega), if_neg (by simp; omega)]
    exact xv82 v hv l hl rest 2 hr (by rw [vb_1 (by omega)]) (by omega)
theorem xv141 (a1 a2 : Int) : fn43 a1 a2 = some true := by
  simp only [fn43]
  rw [chk_d (by decide), chk_d (by decide)]
  simp only [Option.bind_some]
  have hk : ((u64 a2) % (70000 : UInt64)).toNat < 70000 := by
    rw [UInt64.toNat_mod]; exact Nat.mod_lt _ (by decide)
  have hm : ((u64 a1) % (2 : UInt64)).toNat < 2 := by
    rw [UInt64.toNat_mod]; exact Nat.mod_lt _ (by decide)
  generalize ((u64 a2) % (70000 : UInt64)).toNat = k at hk ⊢
  generalize ((u64 a1) % (2 : UInt64)).toNat = m at hm ⊢
  rw [xv120 (n := k) (by omega), xv120 (n := m) (by omega)]
  rw [chk_d ⟨trivial, by omega, by simp only [room]; omega, by simp only [room]; omega⟩]
  simp only [Option.bind_some, Int.toNat_natCast]
  rw [chk_d (by rw [xv45]; omega)]
  simp only [Option.bind_some]
  have hlen : ((repR k (0 : UInt8)).take k).length = k := by rw [List.length_take, xv45]; omega
  generalize (repR k (0 : UInt8)).take k = l at hlen ⊢
  rw [xv1 (x := 4 + (m : Int)) (by omega) (by omega), xv1 (x := 3 + (k : Int)) (by omega) (by omega)]
  have hmm : m = 0 ∨ m = 1 := by omega
  rcases hmm with rfl | rfl
  . rw [if_neg (by simp)]
    have := xv115 4 (.inl rfl) l (by omega) (3 + k) (by rw [hlen]; simp)
    rw [show ((3 + k : Nat) : Int) = 3 + (k : Int) by omega] at this
    exact this
  . rw [if_pos (by simp), xv1 (by omega) (by omega)]
    have := xv115 5 (.inr rfl) l (by omega) (3 + k + 1) (by rw [hlen]; simp)
    rw [show ((3 + k + 1 : Nat) : Int) = 3 + (k : Int) + 1 by omega] at this
    exact this
end Go.Rv
namespace Go.Rv
theorem xv97 (x : tyL Tb [.g (.f (.a (.n .i64))), .g (.f (.a (.n .i64)))]) (hx : yv686 tab 4 [.g (.f (.a (.n .i64))), .g (.f (.a (.n .i64)))] x) : fn43 x.1 x.2.1 = some true := xv141 _ _
end Go.Rv
