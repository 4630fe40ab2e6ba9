/- A typed interpreter of the program's code, and that it is sound; part 6. -/
import Derived.Test.YthabicfefgahkaaDoorRvE
import Derived.Laws.IdiomCopy
set_option linter.unusedSimpArgs false
set_option linter.unusedVariables false
set_option maxRecDepth 100000
namespace Go.Rv
open Go.RowKit
section
variable {P : Program} {W : World → Prop} {T : Nat → Type} {tb : Tab T}
/-- One of several words, by the operands. -/
def Orc.sel (d : List (TV T) → Nat) (a b c : Orc T) : Orc T := ⟨fun aa h k => match d aa with | 0 => a.run aa h k | 1 => b.run aa h k | _ => c.run aa h k⟩
theorem Orc.sel_ok {f : Nat} {d : List (TV T) → Nat} {a b c : Orc T} (ha : a.Ok P W tb f) (hb : b.Ok P W tb f) (hc : c.Ok P W tb f) : (Orc.sel d a b c).Ok P W tb f := by
  refine ⟨⟨fun aa h k g => ?_⟩, ha.en, fun aa h k e he => ?_⟩
  · simp only [Orc.sel]
    split
    · exact ha.par _ _ _ _
    · exact hb.par _ _ _ _
    · exact hc.par _ _ _ _
  · simp only [Orc.sel] at he
    split at he
    · exact ha.snd _ _ _ _ he
    · exact hb.snd _ _ _ _ he
    · exact hc.snd _ _ _ _ he
end
section
variable {W0 : World}
theorem RowCells.take {base : Nat} {g : Gh} {w : World} {sz : Nat} {rows : List (List PV)} {xs : List Value} (h : RowCells base g w sz rows xs) (n : Nat) (hn : n ≤ rows.length) : RowCells base g w sz (rows.take n) (xs.take (n * sz)) := by
  refine ⟨?_, fun r hr => h.hsz r (List.mem_of_mem_take hr), fun i r j c p q => ?_⟩
  · rw [List.length_take, List.length_take, h.len, Nat.min_eq_left hn, Nat.min_eq_left (Nat.mul_le_mul_right _ hn)]
  · rw [List.getElem?_take] at p
    split at p
    case isFalse => cases p
    rename_i hi
    obtain ⟨u, a, b⟩ := h.rep i r j c p q
    refine ⟨u, ?_, b⟩
    have hj : j < sz := by rw [← h.hsz r (List.mem_of_getElem? p)]; exact (List.getElem?_eq_some_iff.1 q).1
    have : (i + 1) * sz ≤ n * sz := Nat.mul_le_mul_right _ hi
    rw [Nat.add_mul, Nat.one_mul] at this
    rw [List.getElem?_take, if_pos (by omega)]
    exact a
theorem RowCells.drop {base : Nat} {g : Gh} {w : World} {sz : Nat} {rows : List (List PV)} {xs : List Value} (h : RowCells base g w sz rows xs) (n : Nat) : RowCells base g w sz (rows.drop n) (xs.drop (n * sz)) := by
  refine ⟨?_, fun r hr => h.hsz r (List.mem_of_mem_drop hr), fun i r j c p q => ?_⟩
  · rw [List.length_drop, List.length_drop, h.len, Nat.sub_mul]
  · rw [List.getElem?_drop] at p
    obtain ⟨u, a, b⟩ := h.rep (n + i) r j c p q
    refine ⟨u, ?_, b⟩
    rw [List.getElem?_drop, ← a]
    congr 1
    rw [Nat.add_mul]; omega
theorem setCells_setRow {w : World} {b o : Nat} {vs : List Value} {cur : Array Value} {e : TypeId} (hg : w.heap[b]? = some (.cells cur e (0, 0))) (hfit : o + vs.length ≤ cur.size) (h1 : ∀ v ∈ vs, v.oneCell' = true) (P : Program) :
    w.setCells b o vs = w.setRow b (cur.toList.take o ++ vs ++ cur.toList.drop (o + vs.length)).toArray := by
  have q1 := run_storeCells_cells (P := P) b o vs 0 w (by
    intro j hj
    have hlt : o + j < cur.size := by omega
    simp [World.cell?, hg, hlt]) (by
    intro j hj
    simp [World.frozen?, hg]) h1
  have q2 := run_storeCells_at P b o e vs 0 cur w hg (by simpa using hfit) h1
  simp only [Nat.add_zero] at q1 q2
  rw [q1] at q2
  simpa using q2
/-- A call that gives up the object 0 and hands out its rows. -/
theorem gave_up {g : Gh} {w w' : World} {sz cap : Nat} {rows : List (List PV)} {xs : List Value} {cur : Array Value} {e : TypeId} {b : Nat} (hi : Inv W0 g w)
    (hbe : W0.heap.size ≤ b) (hlim : g.lim b = 0) (hsz : w.heap.size ≤ w'.heap.size)
    (hother : ∀ k, k < w.heap.size → k ≠ b → w'.heap[k]? = w.heap[k]?) (hbel : Below W0.heap.size W0 w')
    (hb : w'.heap[b]? = some (.cells cur e (0, 0))) (hx : cur.toList.take (rows.length * sz) = xs) (hr : RowCells W0.heap.size g w sz rows xs) (hcap : rows.length ≤ cap) (hcs : cellsN w b ≤ cur.size) :
    ∃ g', Inv W0 g' w' ∧ Ext W0.heap.size g w g' w' ∧ RepP W0.heap.size g' w' (.sl sz rows) (.slice (some ⟨b, 0, none⟩) rows.length cap) ∧ ∀ k, k ≠ b → g'.lim k = g.lim k ∧ g'.ow k = g.ow k := by
  have hblt : b < w'.heap.size := (Array.getElem?_eq_some_iff.1 hb).1
  let g' : Gh := ⟨fun k => if k = b then cur.size else g.lim k, fun k => if k = b then none else g.ow k⟩
  have e1 : ∀ k, k ≠ b → g'.lim k = g.lim k ∧ g'.ow k = g.ow k := fun k hk => ⟨by simp [g', hk], by simp [g', hk]⟩
  have x : Ext W0.heap.size g w g' w' := by
    refine ⟨hsz, fun k => ?_, fun k o hk him => ?_, fun k => ?_⟩
    · by_cases h : k = b
      · subst h; rw [hlim]; exact Nat.zero_le _
      · rw [(e1 k h).1]; exact Nat.le_refl _
    · have hkb : k ≠ b := by
        rintro rfl
        rcases him with h | h
        · omega
        · rw [hlim] at h; omega
      simp only [World.cell?, hother k hk hkb]
    · by_cases hkb : k = b
      · subst hkb
        have : cellsN w' k = cur.size := by simp [cellsN, hb]
        omega
      · by_cases hk : k < w.heap.size
        · exact cellsN_eq (hother k hk hkb)
        · have : w.heap[k]? = none := Array.getElem?_eq_none (by omega)
          simp [cellsN, this]
  refine ⟨g', ⟨hbel, fun k hk => ?_, fun k hk => ?_⟩, x, ?_, e1⟩
  · have : k ≠ b := by omega
    rw [(e1 k this).1, (e1 k this).2]; exact hi.old k hk
  · have : k ≠ b := by omega
    rw [(e1 k this).1, (e1 k this).2]; exact hi.new k (Nat.le_trans hsz hk)
  · have hle : rows.length * sz ≤ cur.size := by
      have := congrArg List.length hx
      rw [List.length_take, hr.len] at this
      have h2 : cur.toList.length = cur.size := by simp
      omega
    have hget : ∀ (k : Nat) (v : Value), xs[k]? = some v → cur[k]? = some v := by
      intro k v h
      rw [← hx, List.getElem?_take] at h
      split at h
      · simpa using h
      · cases h
    refine .sl sz rows b 0 cap (fun i j => cur.getD (i * sz + j) undef) hr.hsz (fun o h1 h2 => .inr ?_) hblt hcap ?_ ?_
    · show o < (if b = b then cur.size else _)
      rw [if_pos rfl]; omega
    · intro i r j c p q
      obtain ⟨u, k1, k2⟩ := hr.rep i r j c p q
      have := hget _ _ k1
      have hlt := (Array.getElem?_eq_some_iff.1 this).1
      simp [World.cell?, hb, hlt]
    · intro i r j c p q
      obtain ⟨u, k1, k2⟩ := hr.rep i r j c p q
      have := hget _ _ k1
      have hv : cur.getD (i * sz + j) undef = u := by simp [Array.getD_eq_getD_getElem?, this]
      rw [hv]
      exact k2.ext x
end
end Go.Rv

namespace Go.Rv
open Go.RowKit
variable {P : Program} {W : World → Prop} {T : Nat → Type} {tb : Tab T}
abbrev CY (T : Nat → Type) (k : Nat) := Unit ⊕ Unit ⊕ List (T k)
def cloneF (T : Nat → Type) (k bytes : Nat) (o : Option (List (T k))) : Option (CY T k) := match o with
  | none => some (.inl ())
  | some [] => some (.inr (.inl ()))
  | some (x :: xs) => if (xs.length + 1) * bytes ≤ room ∧ xs.length + 1 ≤ room then some (.inr (.inr (x :: xs))) else none
def cloneX (T : Nat → Type) (k : Nat) : CY T k → TV T × THeap T
  | .inl _ => (.nilS, [])
  | .inr (.inl _) => (.ow k (some []), [])
  | .inr (.inr l) => (.vw k 0 l.length, [[.blk k l]])
/-- slices.Clone: nothing; an empty slice of one's own; a view of a new object. -/
def cloneW (tb : Tab T) (k bytes : Nat) : Orc T := mkOrc (Y := CY T k) tb [.g (.f (.a (.sl k)))] [] (fun x _ => cloneF T k bytes x.1)
  (fun _ y k' => match y with | .inl _ => k' .nilS [] | .inr (.inl _) => k' (.ow k (some [])) [] | .inr (.inr l) => k' (.vw k 0 l.length) [[.blk k l]])
def cloneR (tb : Tab T) (k : Nat) : RSp T tb (CY T k) := ⟨fun _ _ => none, cloneX T k⟩
theorem clone_ok (ok : tb.Ok) {f k bytes : Nat} {o1 o2 : Orc T} (h1 : o1.Ok P W tb f) (h2 : o2.Ok P W tb f) (rn : TV T) (hrn : av tb rn = .nilS)
    (hn : o1.run [.sl k none] [] (fun r H => some (r, H)) = some (rn, [])) (he : o1.run [.sl k (some [])] [] (fun r H => some (r, H)) = some (.ow k (some []), []))
    (hv : ∀ (x : T k) (xs : List (T k)), (xs.length + 1) * bytes ≤ room ∧ xs.length + 1 ≤ room → ∃ n l, n = xs.length + 1 ∧ l = x :: xs ∧ o2.run [.sl k (some (x :: xs))] [] (fun r H => some (r, H)) = some (.vw k 0 n, [[.blk k l]])) : (cloneW tb k bytes).Ok P W tb f := by
  refine mkOrc_ok (R := cloneR tb k) ok h1.en (fun ρ y k' => ?_) (fun y => rfl) (fun x h y hy => ⟨h1.en, ?_⟩)
  · rcases y with y | y | y <;> rfl
  · obtain ⟨o, _⟩ := x
    have key : ∀ (o : Option (List (T k))), cloneF T k bytes o = some y → Good P W f [av tb (.sl k o)] [] (av tb (cloneX T k y).1) (avH tb (cloneX T k y).2) := by
      intro o hy
      cases o with
      | none =>
        have hy : y = .inl () := (Option.some.inj hy).symm
        subst hy
        obtain ⟨r, H', g, _, e⟩ := h1.snd _ _ _ _ hn
        simp only [Option.some.injEq, Prod.mk.injEq] at e
        obtain ⟨rfl, rfl⟩ := e
        rw [hrn] at g
        exact g
      | some l =>
        cases l with
        | nil =>
          have hy : y = .inr (.inl ()) := (Option.some.inj hy).symm
          subst hy
          obtain ⟨r, H', g, _, e⟩ := h1.snd _ _ _ _ he
          simp only [Option.some.injEq, Prod.mk.injEq] at e
          obtain ⟨rfl, rfl⟩ := e
          exact g
        | cons x xs =>
          have hy : (if (xs.length + 1) * bytes ≤ room ∧ xs.length + 1 ≤ room then some (.inr (.inr (x :: xs))) else none) = some y := hy
          split at hy
          · rename_i hc
            have hy := (Option.some.inj hy).symm
            subst hy
            obtain ⟨n, l, rfl, rfl, hr⟩ := hv x xs hc
            obtain ⟨r, H', g, _, e⟩ := h2.snd _ _ _ _ hr
            simp only [Option.some.injEq, Prod.mk.injEq] at e
            obtain ⟨rfl, rfl⟩ := e
            exact g
          · cases hy
    exact key o hy
end Go.Rv
