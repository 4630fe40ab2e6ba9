/- Functions of slices, walked by hand, and their words; part 1. -/
import Derived.Test.YthabicfefgahkaaDoorShelf
import Derived.Test.YthabicfefgahkaaDoorProg
import Derived.Shelf.RegionOpenPlain
import Derived.WalkKit
import Derived.Deep.LoopGhost
import Derived.Deep.RegionLaw
import Derived.Lib.Walk
import Derived.Sort.WalkB12
import Derived.Lib.SliceRun
import Derived.Lib.SlicesDelete
import Derived.Shelf.Spec.SlicesInsertGrow
import Derived.Shelf.Spec.SlicesInsert
import Derived.Lib.AppendZerosOnto
set_option linter.unusedSimpArgs false
set_option linter.unusedVariables false
set_option maxRecDepth 100000
namespace Go.Proofs
open Go.RowKit Go.Lib Go.Sort
theorem ids_mixed : Tryd.prog.follows Departure.mixedOrders = true := by kernel_rfl
set_option maxHeartbeats 4000000 in
set_option maxRecDepth 1000000 in
theorem ids_insert_end (a va : Addr) (n cap vc : Nat) (w : World) (v' : Value) (w' : World) (hn : n ≤ cap) (hm : n ≤ 140737488355328)
    (hr : ∀ ty, (Builtin.append_ #[29, 28] ty #[.slice (some a) n cap, .slice (some va) 1 vc]).run Tryd.prog w = .ok v' w') :
    Calls Tryd.prog 20 #[.slice (some a) n cap, .int .i64 n, .slice (some va) 1 vc] w fun e w'' => e = .returned v' ∧ w'' = w' := by
  have mixed := ids_mixed
  go_enter Tryd.func20, Tryd.ntmps20
  go_wp2_with (at_builtin; refine Lib.wpList_append_run _ rfl _ _ _ _ rfl _ _ rfl rfl _ _ (hr _) ?_)
  all_goals (go_ret; exact ⟨rfl, rfl⟩)
set_option maxHeartbeats 4000000 in
set_option maxRecDepth 1000000 in
theorem ids_insert_shift (b off : Nat) (va : Addr) (n cap i vc : Nat) (w W1 W2 : World) (hi : i < n) (hn : n + 1 ≤ cap) (hm : n ≤ 140737488355328)
    (hov : ∀ lb cb, (callFunc 27 #[.slice (some va) 1 vc, .slice (some ⟨b, off + (i + 1) * 2, none⟩) lb cb]).run Tryd.prog w = .ok (.value (.bool false)) w)
    (hcp1 : ∀ ty dc sc, (Builtin.copy_ #[29, 29] ty #[.slice (some ⟨b, off + (i + 1) * 2, none⟩) (n - i) dc, .slice (some ⟨b, off + i * 2, none⟩) (n + 1 - i) sc]).run Tryd.prog w.drew = .ok (goInt (n - i)) W1)
    (hcp2 : ∀ ty dc, (Builtin.copy_ #[29, 28] ty #[.slice (some ⟨b, off + i * 2, none⟩) (n + 1 - i) dc, .slice (some va) 1 vc]).run Tryd.prog W1 = .ok (goInt 1) W2) :
    Calls Tryd.prog 20 #[.slice (some ⟨b, off, none⟩) n cap, .int .i64 i, .slice (some va) 1 vc] w fun e w' => e = .returned (.slice (some ⟨b, off, none⟩) (n + 1) cap) ∧ w' = W2 := by
  have mixed := ids_mixed
  have hz2 : ¬ ((i : Int) = (n : Int)) := by omega
  have hw1 : IntKind.i64.wrap ((i : Int) + 1) = (i : Int) + 1 := by rw [IntKind.wrap_i64]; omega
  have hb1 : (0 : Int) ≤ (i : Int) + 1 := by omega
  have hin : i ≤ n := by omega
  have htn : ((i : Int) + 1).toNat = i + 1 := by omega
  have hb2 : ¬ (cap = i + 1) := by omega
  have hb3 : (i : Int) ≤ (n : Int) + 1 := by omega
  have hb4 : ¬ (cap = i) := by omega
  go_enter Tryd.func20, Tryd.ntmps20
  go_wp2_with (simp only [hov])
  go_region_law_o (refine step_copy_runI rfl _ _ 29 29 rfl _ _ (by simp [Act.eval, Act.put]) (by simp [Act.eval, Act.put]) (hcp1 _ _ _) ?_)
  go_wp2_with (at_builtin; refine wpList_copy_runI _ rfl _ _ 29 28 rfl _ _ rfl rfl (hcp2 _ _) ?_)
  go_ret
  exact ⟨rfl, rfl⟩
set_option maxHeartbeats 4000000 in
set_option maxRecDepth 1000000 in
theorem ids_insert_grow (a va : Addr) (n cap i vc G N : Nat) (w W1 W2 W3 : World) (hi : i < n) (hcap : n ≤ cap) (hn : cap < n + 1) (hm : n ≤ 140737488355328) (hG : n + 1 ≤ G) (hG63 : G ≤ 9223372036854775807)
    (hrz : ∀ ty, (Builtin.append_ #[29, 3] ty #[.slice (some a) i cap, .int .i64 ((n : Int) + 1 - (i : Int))]).run Tryd.prog w = .ok (.slice (some ⟨N, 0, none⟩) (n + 1) G) W1)
    (hcpA : ∀ ty dc, (Builtin.copy_ #[29, 28] ty #[.slice (some ⟨N, i * 2, none⟩) (n + 1 - i) dc, .slice (some va) 1 vc]).run Tryd.prog W1 = .ok (goInt 1) W2)
    (hcpB : ∀ ty dc sc, (Builtin.copy_ #[29, 29] ty #[.slice (some ⟨N, (i + 1) * 2, none⟩) (n - i) dc, .slice (some (a.add (i * 2))) (n - i) sc]).run Tryd.prog W2.drew = .ok (goInt (n - i)) W3) :
    Calls Tryd.prog 20 #[.slice (some a) n cap, .int .i64 i, .slice (some va) 1 vc] w fun e w' => e = .returned (.slice (some ⟨N, 0, none⟩) (n + 1) G) ∧ w' = W3 := by
  have mixed := ids_mixed
  have hz2 : ¬ ((i : Int) = (n : Int)) := by omega
  have hz3 : (cap : Int) < (n : Int) + 1 := by omega
  have hw1 : IntKind.i64.wrap ((i : Int) + 1) = (i : Int) + 1 := by rw [IntKind.wrap_i64]; omega
  have hb1 : (0 : Int) ≤ (i : Int) + 1 := by omega
  have hin : i ≤ n := by omega
  have htn : ((i : Int) + 1).toNat = i + 1 := by omega
  have hb3 : (i : Int) ≤ (n : Int) := by omega
  have hGi : ¬ (G = i) := by omega
  have hGim : ¬ (G = i + 1) := by omega
  have hci : ¬ (cap = i) := by omega
  go_enter Tryd.func20, Tryd.ntmps20
  go_wp2_with (first
    | (at_builtin; refine Lib.wpList_append_run _ rfl _ _ _ _ rfl _ _ rfl rfl _ _ (hrz _) ?_)
    | (at_builtin; refine wpList_copy_runI _ rfl _ _ 29 28 rfl _ _ rfl rfl (hcpA _ _) ?_))
  go_region_law_o (refine step_copy_runI rfl _ _ 29 29 rfl _ _ (by simp [Act.eval, Act.put]) (by simp [Act.eval, Act.put]) (hcpB _ _ _) ?_)
  go_wp2
  go_ret
  exact ⟨rfl, rfl⟩
end Go.Proofs

namespace Go.Rv
open Go.RowKit Go.Proofs Go.Lib
variable {W : World → Prop}
/-- What is known of the block behind a view of the object 0. -/
theorem view_block {base : Nat} {φ : Nat → Nat} {g : Gh} {w : World} {sz : Nat} {rows : List (List PV)} {l : Loc} {v : Value} (hs : ∀ r ∈ rows, r.length = sz) (hz : 0 < sz) (hr : 0 < rows.length)
    (hh : RepH base φ g w [rows.flatten.map AV.pv]) (ra : RepA base 1 φ g w l (.view 0 0 rows.length sz) v) :
    ∃ cap cur e, v = .slice (some ⟨φ 0, 0, none⟩) rows.length cap ∧ rows.length ≤ cap ∧ w.heap[φ 0]? = some (.cells cur e (0, 0)) ∧ rows.length * sz ≤ cur.size ∧ cap * sz ≤ cur.size ∧ base ≤ φ 0 ∧ g.ow (φ 0) = some (.obj 0) ∧ g.lim (φ 0) = 0 ∧
      RowCells base g w sz rows (cur.toList.take (rows.length * sz)) := by
  have hfl := flat_length hs
  obtain ⟨ho⟩ := hh 0 (by simp)
  have h0 := ra.of_0 trivial
  obtain ⟨cap, rfl, hc, hsp⟩ : ∃ cap, v = .slice (some ⟨φ 0, 0, none⟩) rows.length cap ∧ rows.length ≤ cap ∧ cap * sz ≤ cellsN w (φ 0) := by
    generalize hn : rows.length = n at *
    cases h0 with
    | view _ _ _ cap _ _ hc hsp => exact ⟨cap, rfl, hc, by rcases hsp with h | h <;> omega⟩
    | view0 => omega
  have hg : hget [rows.flatten.map AV.pv] 0 = rows.flatten.map AV.pv := rfl
  rw [hg] at ho
  rcases ho with ho | ⟨cur, e, p1, p2, p3, p4, p5, p6⟩
  · have := congrArg List.length ho
    rw [List.length_map, hfl] at this
    have h3 : 0 < rows.length * sz := Nat.mul_pos hr hz
    simp at this; omega
  rw [List.length_map, hfl] at p2
  refine ⟨cap, cur, e, rfl, hc, p1, p2, by simpa [cellsN, p1] using hsp, p3, p4, p5, ⟨by simp; omega, hs, fun i r j c q1 q2 => ?_⟩⟩
  have q3 := flat_get hs q1 q2
  have hlt : i * sz + j < rows.length * sz := by rw [← hfl]; exact (List.getElem?_eq_some_iff.1 q3).1
  have hlt2 : i * sz + j < cur.size := by omega
  have := p6 (i * sz + j) (.pv c) cur[i * sz + j] (by rw [List.getElem?_map, q3]; rfl) (by simp [hlt2])
  refine ⟨cur[i * sz + j], ?_, ?_⟩
  · rw [List.getElem?_take, if_pos hlt]; simp [hlt2]
  · cases this.1 with
    | zero _ _ h => cases h with
      | pv _ _ h => exact h
end Go.Rv

namespace Go.Rv
open Go.RowKit Go.Proofs Go.Lib
variable {W : World → Prop}
theorem ids_elem : ∃ (inf : TypeInfo) (z : Value), Tryd.prog.info? 46 = some inf ∧ inf.size = 2 ∧ inf.bytes = 24 ∧ inf.zero = some z ∧ z.cells.size = 2 := by
  have h : (Tryd.prog.info? 46).map (fun i => (i.size, i.bytes, (i.zero.map fun z => z.cells.size))) = some (2, 24, some 2) := by kernel_rfl
  cases h2 : Tryd.prog.info? 46 with
  | none => rw [h2] at h; cases h
  | some i =>
    rw [h2] at h
    simp only [Option.map_some, Option.some.injEq, Prod.mk.injEq] at h
    obtain ⟨a, b, c⟩ := h
    cases hz : i.zero with
    | none => rw [hz] at c; cases c
    | some z => rw [hz] at c; exact ⟨i, z, rfl, a, b, hz, by simpa using c⟩
/-- slices.Insert, behind the last row. -/
theorem ids_insert_end_good (rows : List (List PV)) (row : List PV) (hs : ∀ r ∈ rows, r.length = 2) (hn0 : 0 < rows.length) (hm1 : (rows.length + 1) * 24 ≤ room) :
    Good Tryd.prog W 20 [.view 0 0 rows.length 2, .i .i64 rows.length, .own 2 [row]] [rows.flatten.map AV.pv] (.pv (.sl 2 (rows ++ [row]))) [[]] := by
  intro W0 hW φ g w us hi hh hl ha
  match us, hl with
  | [v0, v1, v2], _ =>
    obtain ⟨rfl, _⟩ := (ha 1 _ v1 rfl rfl).of_lit
    have r2 := ha 2 _ v2 rfl rfl
    obtain ⟨cap, cur, e, rfl, hc, p1, p2, p2b, p3, p4, p5, p6⟩ := view_block hs (by omega) hn0 hh (ha 0 _ v0 rfl rfl)
    obtain ⟨inf, z, hinf, hsz, hby, hz, hzs⟩ := ids_elem
    obtain ⟨ad, c, xs, rfl, hc1, h8, hcell⟩ : ∃ ad c xs, v2 = .slice (some ad) 1 c ∧ 1 ≤ c ∧ RowCells W0.heap.size g w 2 [row] xs ∧ ∀ j u, xs[j]? = some u → w.cell? (ad.add j) = some u := by
      rcases rowsOf_cells (sz := 2) (rows := [row]) (by omega) (by rfl) r2 with ⟨_, h⟩ | ⟨ad, c, xs, h1, h2, h3, h4⟩
      · cases h
      · exact ⟨ad, c, xs, h1, h2, h3, h4⟩
    obtain ⟨xs2, hadds⟩ := adds_slice (P := Tryd.prog) (g := g) (sz := 2) (rows' := [row]) (uy := .slice (some ad) 1 c) Tryd.underlying28 (.inr ⟨ad, c, xs, rfl, hc1, h8, hcell⟩)
    have h8' := hadds.cells
    have hx3 : xs2.length = 2 := by have := h8'.len; simpa using this
    unfold room at hm1
    generalize hn : rows.length = n at *
    have hcl : (cur.toList.take (n * 2)).length = n * 2 := by simp; omega
    have hrc : RowCells W0.heap.size g w 2 (rows ++ [row]) (cur.toList.take (n * 2) ++ xs2) := p6.append h8'
    have hlen : (rows ++ [row]).length = n + 1 := by simp [hn]
    rw [← hsz] at hadds
    by_cases hroom : n + 1 ≤ cap
    · have hfit : n * inf.size + xs2.length ≤ cur.size := by rw [hsz, hx3]; have : (n + 1) * 2 ≤ cap * 2 := Nat.mul_le_mul_right _ hroom
                                                             omega
      have hrun := fun ty => adds_room (ty := ty) (t := 29) (u := 28) (sLen := n) (sCap := cap) Tryd.underlying29 hinf p1 hadds (by simpa using hroom) hfit
      simp only [hsz, hx3, List.length_singleton] at hrun
      refine (ids_insert_end ⟨φ 0, 0, none⟩ ad n cap c w _ _ hc (by omega) hrun).mono ?_
      rintro en w' ⟨rfl, rfl⟩
      generalize hY : (cur.toList.take (n * 2) ++ xs2 ++ cur.toList.drop (n * 2 + 2)).toArray = Y
      have hb2 : (w.setRow (φ 0) Y).heap[φ 0]? = some (.cells Y e (0, 0)) := setRow_heap _ _ _ _ _ _ p1
      have hother : ∀ k, k ≠ φ 0 → (w.setRow (φ 0) Y).heap[k]? = w.heap[k]? := fun k hk => setRow_other _ _ _ _ hk
      have hYs : cur.size ≤ Y.size := by rw [← hY]; simp [hx3]; omega
      have hxs : Y.toList.take ((rows ++ [row]).length * 2) = cur.toList.take (n * 2) ++ xs2 := by
        rw [hlen, ← hY]
        exact List.take_left' (by rw [List.length_append, hcl, hx3]; omega)
      obtain ⟨g', q1, q2, q3, q4⟩ := gave_up (w' := w.setRow (φ 0) Y) (cap := cap) hi p3 p5 (by simp) (fun k _ hk => hother k hk) (below_setRow hi.below p3 _) hb2 hxs hrc (by rw [hlen]; omega) (by simpa [cellsN, p1] using hYs)
      refine ⟨_, φ, g', rfl, q1, ?_, .r0 (.pv _ _ (by rw [hlen] at q3; exact q3)), q2, fun k hk hn => ?_, Nat.le_refl _, fun _ _ => rfl⟩
      · intro id hid
        have : id = 0 := by simpa using hid
        subst this
        exact ⟨.inl rfl⟩
      · have hk : k ≠ φ 0 := by rintro rfl; rw [p4] at hn; cases hn
        exact ⟨hother k hk, (q4 k hk).1, by rw [(q4 k hk).2]; exact hn⟩
    · have hold : (Builtin.firstCells inf.size n (.slice (some ⟨φ 0, 0, none⟩) n cap)).run Tryd.prog w.drew = .ok (cur.toList.take (n * 2)).toArray w.drew :=
        run_firstCells_some w.drew _ _ _ _ _ _ (by rw [hcl, hsz]) (by
          intro j v hj
          rw [add_addr]
          rw [List.getElem?_take] at hj
          split at hj
          · rw [World.cell?_drew]; simp [World.cell?, p1]; simpa using hj
          · cases hj)
      have hrun := fun ty => adds_grow (ty := ty) (t := 29) (u := 28) Tryd.underlying29 hinf hz hold hadds (by simp; omega) (by simp; omega) (by rw [hby]; exact growslice_fits (by simp; omega) (by simpa using hm1))
      simp only [List.length_singleton] at hrun
      refine (ids_insert_end ⟨φ 0, 0, none⟩ ad n cap c w _ _ hc (by omega) hrun).mono ?_
      rintro en w' ⟨rfl, rfl⟩
      have hge := grownCap_ge w (n + 1) cap 46
      generalize hY : ((cur.toList.take (n * 2)).toArray ++ xs2.toArray ++ Builtin.zeroCells z.cells (grownCap w (n + 1) cap 46 - (n + 1))) = Y
      have hb2 : (w.drew.alloc (.cells Y 46)).heap[w.heap.size]? = some (.cells Y 46 (0, 0)) := heap_alloc_new w.drew _
      have hother : ∀ k, k < w.heap.size → (w.drew.alloc (.cells Y 46)).heap[k]? = w.heap[k]? := fun k hk => Below.heap_alloc w.drew _ k hk
      have hxs : Y.toList.take ((rows ++ [row]).length * 2) = cur.toList.take (n * 2) ++ xs2 := by
        rw [hlen, ← hY]
        simp only [Array.toList_append]
        exact List.take_left' (by rw [List.length_append, hcl, hx3]; omega)
      obtain ⟨g', q1, q2, q3, q4⟩ := gave_up (w' := w.drew.alloc (.cells Y 46)) (b := w.heap.size) (cap := grownCap w (n + 1) cap 46) hi hi.below.size (hi.new _ (Nat.le_refl _)).2 (by simp) (fun k hk _ => hother k hk)
        ((hi.below.drew).alloc (by exact hi.below.size) _) hb2 hxs hrc (by rw [hlen]; exact hge) (by simp [cellsN])
      refine ⟨_, φ, g', rfl, q1, ?_, .r0 (.pv _ _ (by rw [hlen] at q3; exact q3)), q2, fun k hk hn => ?_, Nat.le_refl _, fun _ _ => rfl⟩
      · intro id hid
        have : id = 0 := by simpa using hid
        subst this
        exact ⟨.inl rfl⟩
      · have hk' : k ≠ w.heap.size := by omega
        exact ⟨hother k hk, (q4 k hk').1, by rw [(q4 k hk').2]; exact hn⟩
end Go.Rv

namespace Go.Rv
open Go.RowKit Go.Proofs Go.Lib
variable {W : World → Prop}
theorem run_copy_sz {P : Program} (w : World) (dT sT ty elem : TypeId) (b o dLen dCap : Nat) (a : Addr) (sLen sCap m sz : Nat) (cs : List Value)
    (hu : P.underlying dT = some (.slice elem)) (hs : (P.info? elem).map (·.size) = some sz) (hn : Nat.min sLen dLen = m) (hcs : cs.length = m * sz)
    (hsrc : ∀ j v, cs[j]? = some v → w.cell? (a.add j) = some v) (hc : ∀ j, j < cs.length → (w.cell? ⟨b, o + j, none⟩).isSome = true) (hf : ∀ j, j < cs.length → w.frozen? ⟨b, o + j, none⟩ = false) (h1 : ∀ v ∈ cs, v.oneCell' = true) :
    (Builtin.copy_ #[dT, sT] ty #[.slice (some ⟨b, o, none⟩) dLen dCap, .slice (some a) sLen sCap]).run P w = .ok (goInt m) (w.setCells b o cs) := by
  have hl := run_loadCells_list (P := P) w a cs hsrc
  have hst := run_storeCells_cells (P := P) b o cs 0 w (by simpa using hc) (by simpa using hf) h1
  rw [hcs] at hl
  cases hq : P.info? elem with
  | none => simp [hq] at hs
  | some i =>
    have hi : i.size = sz := by simpa [hq] using hs
    simp [Builtin.copy_, run_underlying hu, Builtin.lenOf, Builtin.firstCells, Go.sizeOf, typeInfo, hq, hi, hn, hl, hst]
theorem ids_size : (Tryd.prog.info? 46).map (·.size) = some 2 := by kernel_rfl
/-- slices.Insert, ahead of a row, where there is room. -/
theorem ids_insert_room_good (rows : List (List PV)) (row : List PV) (i : Nat) (hs : ∀ r ∈ rows, r.length = 2) (hi0 : i < rows.length) (hm1 : (rows.length + 1) * 24 ≤ room)
    {W0 : World} {φ : Nat → Nat} {g : Gh} {w : World} {v0 v2 : Value} (hi : Inv W0 g w) (hh : RepH W0.heap.size φ g w [rows.flatten.map AV.pv])
    (r0 : RepA W0.heap.size 1 φ g w (.env 0) (.view 0 0 rows.length 2) v0) (r2 : RepA W0.heap.size 1 φ g w (.env 2) (.own 2 [row]) v2)
    (hroom : ∀ a n c, v0 = .slice a n c → rows.length + 1 ≤ c) :
    Calls Tryd.prog 20 #[v0, .int .i64 i, v2] w fun en w' => ∃ v φ' g', en = .returned v ∧ Inv W0 g' w' ∧ RepH W0.heap.size φ' g' w' [[]] ∧
      RepA W0.heap.size 1 φ' g' w' .res (.pv (.sl 2 (rows.take i ++ [row] ++ rows.drop i))) v ∧ Tr W0 1 φ g w 1 φ' g' w' := by
  obtain ⟨cap, cur, e, rfl, hc, p1, p2, p2b, p3, p4, p5, p6⟩ := view_block hs (by omega) (by omega) hh r0
  have hrm := hroom _ _ _ rfl
  obtain ⟨bv, cv, ev, curv, ho⟩ : ∃ b cap e cur, Owns W0.heap.size g w (.env 2) 2 [row] v2 b cap e cur := by
    cases r2 with
    | b _ _ rx => cases rx with
      | c _ _ rx => cases rx with
        | zero _ _ rx => cases rx
        | own _ _ _ b cap e' cur rx => exact ⟨b, cap, e', cur, rx⟩
  have hv2 := ho.v
  subst hv2
  have hbv : bv ≠ φ 0 := by
    rintro rfl
    have := ho.ow; rw [p4] at this; cases this
  have h8 := ho.cellsOf
  simp only [List.length_singleton, Nat.one_mul] at h8
  generalize hxs2 : curv.toList.take 2 = xs2 at h8
  have hx3 : xs2.length = 2 := by have := h8.len; simpa using this
  have hxc : ∀ (j : Nat) (v : Value), xs2[j]? = some v → w.heap[bv]? = some (.cells curv ev (0, 0)) ∧ curv[j]? = some v := by
    intro j v h
    rw [← hxs2, List.getElem?_take] at h
    split at h
    · exact ⟨ho.heap, by simpa using h⟩
    · cases h
  unfold room at hm1
  generalize hn : rows.length = n at *
  have hcap3 : (n + 1) * 2 ≤ cap * 2 := Nat.mul_le_mul_right _ hrm
  have hcl : (cur.toList.take (n * 2)).length = n * 2 := by simp; omega
  have hg1 : w.drew.heap[φ 0]? = some (.cells cur e (0, 0)) := p1
  have one : ∀ v ∈ cur.toList.take (n * 2), v.oneCell' = true := p6.one
  generalize hD : (cur.toList.take (n * 2)).drop (i * 2) = D at *
  have hDl : D.length = (n - i) * 2 := by rw [← hD, List.length_drop, hcl, Nat.sub_mul]
  have hD1 : ∀ v ∈ D, v.oneCell' = true := by intro v hv; rw [← hD] at hv; exact one v (List.mem_of_mem_drop hv)
  have hcurl : cur.toList.length = cur.size := by simp
  have hfit1 : 0 + (i + 1) * 2 + D.length ≤ cur.size := by rw [hDl]; omega
  obtain ⟨W1, hW1⟩ : ∃ W1, W1 = w.drew.setCells (φ 0) (0 + (i + 1) * 2) D := ⟨_, rfl⟩
  have eW1 := setCells_setRow hg1 hfit1 hD1 Tryd.prog
  rw [← hW1] at eW1
  generalize hX : (cur.toList.take (0 + (i + 1) * 2) ++ D ++ cur.toList.drop (0 + (i + 1) * 2 + D.length)) = X at eW1
  have hXl : X.length = cur.size := by
    rw [← hX]
    simp only [List.length_append, List.length_take, List.length_drop, hcurl]; omega
  have hb1 : W1.heap[φ 0]? = some (.cells X.toArray e (0, 0)) := by rw [eW1]; exact setRow_heap _ _ _ _ _ _ hg1
  have hfit2 : 0 + i * 2 + xs2.length ≤ X.toArray.size := by rw [hx3]; simp [hXl]; omega
  obtain ⟨W2, hW2⟩ : ∃ W2, W2 = W1.setCells (φ 0) (0 + i * 2) xs2 := ⟨_, rfl⟩
  have eW2 := setCells_setRow hb1 hfit2 h8.one Tryd.prog
  rw [← hW2] at eW2
  have hcp1 : ∀ ty dc sc, (Builtin.copy_ #[29, 29] ty #[.slice (some ⟨φ 0, 0 + (i + 1) * 2, none⟩) (n - i) dc, .slice (some ⟨φ 0, 0 + i * 2, none⟩) (n + 1 - i) sc]).run Tryd.prog w.drew = .ok (goInt ((n - i : Nat) : Int)) W1 := fun ty dc sc => by
    rw [hW1]
    refine run_copy_sz w.drew 29 29 ty 46 (φ 0) (0 + (i + 1) * 2) (n - i) dc ⟨φ 0, 0 + i * 2, none⟩ (n + 1 - i) sc (n - i) 2 D Tryd.underlying29 ids_size (by simp only [Nat.min_def]; split <;> omega) hDl ?_ ?_ ?_ hD1
    · intro j v h
      rw [← hD, List.getElem?_drop, List.getElem?_take] at h
      split at h
      · have hlt := (List.getElem?_eq_some_iff.1 h).1
        rw [add_addr]
        have : (0 + i * 2 + j) < cur.size := by omega
        simp only [World.cell?, hg1]
        simpa using h
      · cases h
    · intro j hj
      have : 0 + (i + 1) * 2 + j < cur.size := by omega
      simp only [World.cell?, hg1]
      simp only [Option.isSome_none, Bool.false_eq_true, if_false, Array.getElem?_eq_getElem this, Option.isSome_some]
    · intro j hj; simp [World.frozen?, hg1]
  have hcp2 : ∀ ty dc, (Builtin.copy_ #[29, 28] ty #[.slice (some ⟨φ 0, 0 + i * 2, none⟩) (n + 1 - i) dc, .slice (some ⟨bv, 0, none⟩) 1 cv]).run Tryd.prog W1 = .ok (goInt 1) W2 := fun ty dc => by
    rw [hW2]
    refine run_copy_sz W1 29 28 ty 46 (φ 0) (0 + i * 2) (n + 1 - i) dc ⟨bv, 0, none⟩ 1 cv 1 2 xs2 Tryd.underlying29 ids_size (by simp only [Nat.min_def]; split <;> omega) (by rw [hx3]) ?_ ?_ ?_ h8.one
    · intro j v h
      obtain ⟨k1, k2⟩ := hxc j v h
      have hlt := (Array.getElem?_eq_some_iff.1 k2).1
      rw [add_addr, Nat.zero_add]
      have hbb : W1.heap[bv]? = some (.cells curv ev (0, 0)) := by rw [eW1, setRow_other _ _ _ _ hbv]; exact k1
      simp only [World.cell?, hbb]
      simpa using k2
    · intro j hj
      have : 0 + i * 2 + j < X.toArray.size := by omega
      simp only [World.cell?, hb1]
      simp only [Option.isSome_none, Bool.false_eq_true, if_false, Array.getElem?_eq_getElem this, Option.isSome_some]
    · intro j hj; simp [World.frozen?, hb1]
  have hcs0 : cur.size ≠ 0 := by omega
  have hov : ∀ lb cb, (callFunc 27 #[.slice (some ⟨bv, 0, none⟩) 1 cv, .slice (some ⟨φ 0, 0 + (i + 1) * 2, none⟩) lb cb]).run Tryd.prog w = .ok (.value (.bool false)) w := fun lb cb => by
    rw [run_callFunc_extern Tryd.func27 (by kernel_rfl) (by kernel_rfl) (by kernel_rfl) (e := Extern.SlicesOverlaps.overlaps #[28, 28] #[4]) (by kernel_rfl),
      Lib.run_overlaps_apart w 28 4 46 Tryd.underlying28 2 Tryd.sizeOf46 ⟨bv, 0, none⟩ ⟨φ 0, 0 + (i + 1) * 2, none⟩ 1 cv lb cb hbv ev e curv.size cur.size (by simp [World.shape?, ho.heap]) (by simp [World.shape?, p1]) hcs0 (by simp [World.frozen?, ho.heap]) (by simp [World.frozen?, ho.heap])]
    rfl
  refine (ids_insert_shift (φ 0) 0 ⟨bv, 0, none⟩ n cap i cv w W1 W2 hi0 hrm (by omega) hov (fun ty dc sc => by rw [hcp1, show ((n - i : Nat) : Int) = (n : Int) - (i : Int) by omega]) hcp2).mono ?_
  rintro en w' ⟨rfl, rfl⟩
  rw [eW2]
  generalize hY : (X.toArray.toList.take (0 + i * 2) ++ xs2 ++ X.toArray.toList.drop (0 + i * 2 + xs2.length)).toArray = Y
  have hb2 : (W1.setRow (φ 0) Y).heap[φ 0]? = some (.cells Y e (0, 0)) := setRow_heap _ _ _ _ _ _ hb1
  have hother : ∀ k, k ≠ φ 0 → (W1.setRow (φ 0) Y).heap[k]? = w.heap[k]? := fun k hk => by
    rw [setRow_other _ _ _ _ hk, eW1, setRow_other _ _ _ _ hk]; rfl
  have hlen : (rows.take i ++ [row] ++ rows.drop i).length = n + 1 := by simp [hn]; omega
  have hrc : RowCells W0.heap.size g w 2 (rows.take i ++ [row] ++ rows.drop i) ((cur.toList.take (n * 2)).take (i * 2) ++ xs2 ++ D) := by
    rw [← hD]
    exact ((p6.take i (by omega)).append h8).append (p6.drop i)
  have hxs : Y.toList.take ((rows.take i ++ [row] ++ rows.drop i).length * 2) = (cur.toList.take (n * 2)).take (i * 2) ++ xs2 ++ D := by
    rw [hlen, ← hY]
    simp only [Nat.zero_add, hx3]
    have e1 : X.take (i * 2) = (cur.toList.take (n * 2)).take (i * 2) := by
      rw [← hX, List.append_assoc, List.take_append_of_le_length (by simp; omega), List.take_take, List.take_take]
      congr 1; omega
    have e2 : X.drop (i * 2 + 2) = D ++ cur.toList.drop (0 + (i + 1) * 2 + D.length) := by
      rw [← hX, List.append_assoc]
      exact List.drop_left' (by simp; omega)
    rw [e1, e2, List.append_assoc, ← List.append_assoc xs2 D, ← List.append_assoc]
    rw [← List.append_assoc ((cur.toList.take (n * 2)).take (i * 2)) xs2 D] 
    exact List.take_left' (by simp only [List.length_append, List.length_take, hx3, hDl, hcurl]; omega)
  obtain ⟨g', q1, q2, q3, q4⟩ := gave_up (w' := W1.setRow (φ 0) Y) (cap := cap) hi p3 p5 (by simp [eW1]) (fun k _ hk => hother k hk) (below_setRow (by rw [eW1]; exact below_setRow hi.below.drew p3 _) p3 _) hb2 hxs hrc (by rw [hlen]; omega) (by rw [← hY]; simp [cellsN, p1, hXl, hx3]; omega)
  refine ⟨_, φ, g', rfl, q1, ?_, .r0 (.pv _ _ (by rw [hlen] at q3; exact q3)), q2, fun k hk hn => ?_, Nat.le_refl _, fun _ _ => rfl⟩
  · intro id hid
    have : id = 0 := by simpa using hid
    subst this
    exact ⟨.inl rfl⟩
  · have hk : k ≠ φ 0 := by rintro rfl; rw [p4] at hn; cases hn
    exact ⟨hother k hk, (q4 k hk).1, by rw [(q4 k hk).2]; exact hn⟩
end Go.Rv

namespace Go.Rv
open Go.RowKit Go.Proofs Go.Lib
variable {W : World → Prop}
/-- slices.Insert, ahead of a row, where there is no room. -/
theorem ids_insert_grow_good (rows : List (List PV)) (row : List PV) (i : Nat) (hs : ∀ r ∈ rows, r.length = 2) (hi0 : i < rows.length) (hm1 : (rows.length + 1) * 24 ≤ room)
    {W0 : World} {φ : Nat → Nat} {g : Gh} {w : World} {v0 v2 : Value} (hi : Inv W0 g w) (hh : RepH W0.heap.size φ g w [rows.flatten.map AV.pv])
    (r0 : RepA W0.heap.size 1 φ g w (.env 0) (.view 0 0 rows.length 2) v0) (r2 : RepA W0.heap.size 1 φ g w (.env 2) (.own 2 [row]) v2)
    (hroom : ∀ a n c, v0 = .slice a n c → c < rows.length + 1) :
    Calls Tryd.prog 20 #[v0, .int .i64 i, v2] w fun en w' => ∃ v φ' g', en = .returned v ∧ Inv W0 g' w' ∧ RepH W0.heap.size φ' g' w' [[]] ∧
      RepA W0.heap.size 1 φ' g' w' .res (.pv (.sl 2 (rows.take i ++ [row] ++ rows.drop i))) v ∧ Tr W0 1 φ g w 1 φ' g' w' := by
  obtain ⟨cap, cur, e, rfl, hc, p1, p2, p2b, p3, p4, p5, p6⟩ := view_block hs (by omega) (by omega) hh r0
  have hrm := hroom _ _ _ rfl
  obtain ⟨inf, z, hinf, hsz, hby, hz, hzs⟩ := ids_elem
  obtain ⟨bv, cv, ev, curv, ho⟩ : ∃ b cap e cur, Owns W0.heap.size g w (.env 2) 2 [row] v2 b cap e cur := by
    cases r2 with
    | b _ _ rx => cases rx with
      | c _ _ rx => cases rx with
        | zero _ _ rx => cases rx
        | own _ _ _ b cap e' cur rx => exact ⟨b, cap, e', cur, rx⟩
  have hv2 := ho.v
  subst hv2
  have hbvl : bv < w.heap.size := (Array.getElem?_eq_some_iff.1 ho.heap).1
  have hφl : φ 0 < w.heap.size := (Array.getElem?_eq_some_iff.1 p1).1
  have h8 := ho.cellsOf
  simp only [List.length_singleton, Nat.one_mul] at h8
  generalize hxs2 : curv.toList.take 2 = xs2 at h8
  have hx3 : xs2.length = 2 := by have := h8.len; simpa using this
  have hxc : ∀ (j : Nat) (v : Value), xs2[j]? = some v → curv[j]? = some v := by
    intro j v h
    rw [← hxs2, List.getElem?_take] at h
    split at h
    · simpa using h
    · cases h
  unfold room at hm1
  generalize hn : rows.length = n at *
  have hcl : (cur.toList.take (n * 2)).length = n * 2 := by simp; omega
  have hcurl : cur.toList.length = cur.size := by simp
  have one : ∀ v ∈ cur.toList.take (n * 2), v.oneCell' = true := p6.one
  generalize hD : (cur.toList.take (n * 2)).drop (i * 2) = D at *
  have hDl : D.length = (n - i) * 2 := by rw [← hD, List.length_drop, hcl, Nat.sub_mul]
  have hD1 : ∀ v ∈ D, v.oneCell' = true := by intro v hv; rw [← hD] at hv; exact one v (List.mem_of_mem_drop hv)
  have hol : (cur.toList.take (i * 2)).length = i * 2 := by simp; omega
  have hik : i + (n + 1 - i) = n + 1 := by omega
  have hold : (Builtin.firstCells inf.size i (.slice (some ⟨φ 0, 0, none⟩) i cap)).run Tryd.prog w.drew = .ok (cur.toList.take (i * 2)).toArray w.drew :=
    run_firstCells_some w.drew _ _ _ _ _ _ (by rw [hol, hsz]) (by
      intro j v hj
      rw [add_addr]
      rw [List.getElem?_take] at hj
      split at hj
      · rw [World.cell?_drew]; simp [World.cell?, p1]; simpa using hj
      · cases hj)
  have hrz : ∀ ty, (Builtin.append_ #[29, 3] ty #[.slice (some ⟨φ 0, 0, none⟩) i cap, .int .i64 ((n : Int) + 1 - (i : Int))]).run Tryd.prog w = .ok (.slice (some ⟨w.heap.size, 0, none⟩) (n + 1) (grownCap w (n + 1) cap 46)) (w.drew.alloc (.cells ((cur.toList.take (i * 2)).toArray ++ Builtin.zeroCells z.cells (n + 1 - i) ++ Builtin.zeroCells z.cells (grownCap w (n + 1) cap 46 - (n + 1))) 46)) := fun ty => by
    have h := Lib.run_append_grow_zeros w 29 3 ty 46 inf z .i64 .i64 Tryd.underlying29 Tryd.underlying3 hinf hz (some ⟨φ 0, 0, none⟩) i cap (cur.toList.take (i * 2)) hold (n + 1 - i) (by omega) (by omega) (by omega) (by omega) (by rw [hby]; omega) (by rw [hby, hik]; exact growslice_fits hrm (by omega))
    rw [hik] at h
    rw [show (n : Int) + 1 - (i : Int) = ((n + 1 - i : Nat) : Int) by omega]
    exact h
  have hge := grownCap_ge w (n + 1) cap 46
  have hG63 : grownCap w (n + 1) cap 46 ≤ 9223372036854775807 := by
    have := grownCap_le_maxLen w (n + 1) cap 46 (by unfold maxLen; omega)
    unfold maxLen at this
    omega
  generalize hG : grownCap w (n + 1) cap 46 = G at hge hG63 hrz
  generalize hROW : ((cur.toList.take (i * 2)).toArray ++ Builtin.zeroCells z.cells (n + 1 - i) ++ Builtin.zeroCells z.cells (G - (n + 1))) = ROW at hrz
  have hRl : ROW.size = G * 2 := by
    rw [← hROW]
    simp only [Array.size_append, List.size_toArray, size_zeroCells, hzs, hol, ← Nat.add_mul]
    congr 1; omega
  have hRt : ROW.toList.take (i * 2) = cur.toList.take (i * 2) := by
    rw [← hROW]
    simp only [Array.toList_append, List.append_assoc]
    exact List.take_left' hol
  have hG3 : (n + 1) * 2 ≤ G * 2 := Nat.mul_le_mul_right _ hge
  generalize hN : w.heap.size = N at *
  obtain ⟨W1, hW1⟩ : ∃ W1, W1 = w.drew.alloc (.cells ROW 46) := ⟨_, rfl⟩
  rw [← hW1] at hrz
  have hb0 : W1.heap[N]? = some (.cells ROW 46 (0, 0)) := by rw [hW1, ← hN]; exact heap_alloc_new w.drew _
  have hold1 : ∀ k, k < N → W1.heap[k]? = w.heap[k]? := fun k hk => by rw [hW1]; exact Below.heap_alloc w.drew _ k (by rw [← hN] at hk; exact hk)
  have hsz1 : W1.heap.size = N + 1 := by rw [hW1, ← hN]; simp
  have hfit1 : i * 2 + xs2.length ≤ ROW.size := by rw [hx3, hRl]; omega
  obtain ⟨W2, hW2⟩ : ∃ W2, W2 = W1.setCells N (i * 2) xs2 := ⟨_, rfl⟩
  have eW2 := setCells_setRow hb0 hfit1 h8.one Tryd.prog
  rw [← hW2] at eW2
  generalize hX : (ROW.toList.take (i * 2) ++ xs2 ++ ROW.toList.drop (i * 2 + xs2.length)) = X at eW2
  have hRll : ROW.toList.length = ROW.size := by simp
  have hXl : X.length = G * 2 := by
    rw [← hX]
    simp only [List.length_append, List.length_take, List.length_drop, hRll, hRl, hx3]; omega
  have hb1 : W2.heap[N]? = some (.cells X.toArray 46 (0, 0)) := by rw [eW2]; exact setRow_heap _ _ _ _ _ _ hb0
  have hb1' : W2.drew.heap[N]? = some (.cells X.toArray 46 (0, 0)) := hb1
  have hold2 : ∀ k, k < N → W2.heap[k]? = w.heap[k]? := fun k hk => by rw [eW2, setRow_other _ _ _ _ (by omega)]; exact hold1 k hk
  have hfit2 : (i + 1) * 2 + D.length ≤ X.toArray.size := by rw [hDl]; simp [hXl]; omega
  obtain ⟨W3, hW3⟩ : ∃ W3, W3 = W2.drew.setCells N ((i + 1) * 2) D := ⟨_, rfl⟩
  have eW3 := setCells_setRow hb1' hfit2 hD1 Tryd.prog
  rw [← hW3] at eW3
  have hcpA : ∀ ty dc, (Builtin.copy_ #[29, 28] ty #[.slice (some ⟨N, i * 2, none⟩) (n + 1 - i) dc, .slice (some ⟨bv, 0, none⟩) 1 cv]).run Tryd.prog W1 = .ok (goInt 1) W2 := fun ty dc => by
    rw [hW2]
    refine run_copy_sz W1 29 28 ty 46 N (i * 2) (n + 1 - i) dc ⟨bv, 0, none⟩ 1 cv 1 2 xs2 Tryd.underlying29 ids_size (by simp only [Nat.min_def]; split <;> omega) (by rw [hx3]) ?_ ?_ ?_ h8.one
    · intro j v h
      have k2 := hxc j v h
      rw [add_addr, Nat.zero_add]
      have hbb : W1.heap[bv]? = some (.cells curv ev (0, 0)) := by rw [hold1 bv hbvl]; exact ho.heap
      simp only [World.cell?, hbb]
      simpa using k2
    · intro j hj
      have : i * 2 + j < ROW.size := by omega
      simp only [World.cell?, hb0]
      simp only [Option.isSome_none, Bool.false_eq_true, if_false, Array.getElem?_eq_getElem this, Option.isSome_some]
    · intro j hj; simp [World.frozen?, hb0]
  have hcpB : ∀ ty dc sc, (Builtin.copy_ #[29, 29] ty #[.slice (some ⟨N, (i + 1) * 2, none⟩) (n - i) dc, .slice (some ((⟨φ 0, 0, none⟩ : Addr).add (i * 2))) (n - i) sc]).run Tryd.prog W2.drew = .ok (goInt ((n - i : Nat) : Int)) W3 := fun ty dc sc => by
    rw [hW3]
    refine run_copy_sz W2.drew 29 29 ty 46 N ((i + 1) * 2) (n - i) dc ((⟨φ 0, 0, none⟩ : Addr).add (i * 2)) (n - i) sc (n - i) 2 D Tryd.underlying29 ids_size (by simp only [Nat.min_def]; split <;> omega) hDl ?_ ?_ ?_ hD1
    · intro j v h
      rw [← hD, List.getElem?_drop, List.getElem?_take] at h
      split at h
      · rw [add_addr, add_addr]
        have hbb : W2.drew.heap[φ 0]? = some (.cells cur e (0, 0)) := (hold2 _ hφl).trans p1
        simp only [World.cell?, hbb]
        simpa using h
      · cases h
    · intro j hj
      have : (i + 1) * 2 + j < X.toArray.size := by omega
      simp only [World.cell?, hb1']
      simp only [Option.isSome_none, Bool.false_eq_true, if_false, Array.getElem?_eq_getElem this, Option.isSome_some]
    · intro j hj; simp [World.frozen?, hb1']
  refine (ids_insert_grow ⟨φ 0, 0, none⟩ ⟨bv, 0, none⟩ n cap i cv G N w W1 W2 W3 hi0 hc hrm (by omega) hge hG63 hrz hcpA (fun ty dc sc => by rw [hcpB, show ((n - i : Nat) : Int) = (n : Int) - (i : Int) by omega])).mono ?_
  rintro en w' ⟨rfl, rfl⟩
  rw [eW3]
  generalize hY : (X.toArray.toList.take ((i + 1) * 2) ++ D ++ X.toArray.toList.drop ((i + 1) * 2 + D.length)).toArray = Y
  have hb2 : (W2.drew.setRow N Y).heap[N]? = some (.cells Y 46 (0, 0)) := setRow_heap _ _ _ _ _ _ hb1'
  have hother : ∀ k, k < N → (W2.drew.setRow N Y).heap[k]? = w.heap[k]? := fun k hk => by
    rw [setRow_other _ _ _ _ (by omega)]; exact hold2 k hk
  have hlen : (rows.take i ++ [row] ++ rows.drop i).length = n + 1 := by simp [hn]; omega
  have hrc : RowCells W0.heap.size g w 2 (rows.take i ++ [row] ++ rows.drop i) ((cur.toList.take (n * 2)).take (i * 2) ++ xs2 ++ D) := by
    rw [← hD]
    exact ((p6.take i (by omega)).append h8).append (p6.drop i)
  have hxs : Y.toList.take ((rows.take i ++ [row] ++ rows.drop i).length * 2) = (cur.toList.take (n * 2)).take (i * 2) ++ xs2 ++ D := by
    rw [hlen, ← hY]
    have e1 : X.take ((i + 1) * 2) = (cur.toList.take (n * 2)).take (i * 2) ++ xs2 := by
      rw [← hX, hRt]
      rw [List.take_left' (by rw [List.length_append, hol, hx3]; omega), List.take_take]
      congr 2; omega
    rw [e1]
    exact List.take_left' (by simp only [List.length_append, List.length_take, hx3, hDl, hcurl]; omega)
  have hbel : Below W0.heap.size W0 (W2.drew.setRow N Y) := by
    have hle : W0.heap.size ≤ N := by rw [← hN]; exact hi.below.size
    have b1 : Below W0.heap.size W0 W1 := by rw [hW1]; exact hi.below.drew.alloc (by rw [← hN] at hle; exact hle) _
    have b2 : Below W0.heap.size W0 W2 := by rw [eW2]; exact below_setRow b1 hle _
    exact below_setRow b2.drew hle _
  obtain ⟨g', q1, q2, q3, q4⟩ := gave_up (w' := W2.drew.setRow N Y) (b := N) (cap := G) hi (by rw [← hN]; exact hi.below.size) (hi.new _ (by omega)).2 (by simp [eW2, hsz1, hN]) (fun k hk _ => hother k (by omega)) hbel hb2 hxs hrc (by rw [hlen]; exact hge) (by simp [cellsN, ← hN])
  refine ⟨_, φ, g', rfl, q1, ?_, .r0 (.pv _ _ (by rw [hlen] at q3; exact q3)), q2, fun k hk hn => ?_, Nat.le_refl _, fun _ _ => rfl⟩
  · intro id hid
    have : id = 0 := by simpa using hid
    subst this
    exact ⟨.inl rfl⟩
  · have hk' : k ≠ N := by omega
    exact ⟨hother k (by omega), (q4 k hk').1, by rw [(q4 k hk').2]; exact hn⟩
end Go.Rv

namespace Go.Proofs
open Go.RowKit Go.Lib Go.Sort
set_option maxHeartbeats 4000000 in
set_option maxRecDepth 1000000 in
theorem ids_insert_nil (va : Addr) (vc : Nat) (w : World) (v' : Value) (w' : World)
    (hr : ∀ ty, (Builtin.append_ #[29, 28] ty #[.slice none 0 0, .slice (some va) 1 vc]).run Tryd.prog w = .ok v' w') :
    Calls Tryd.prog 20 #[.slice none 0 0, .int .i64 0, .slice (some va) 1 vc] w fun e w'' => e = .returned v' ∧ w'' = w' := by
  have mixed := ids_mixed
  go_enter Tryd.func20, Tryd.ntmps20
  go_wp2_with (at_builtin; refine Lib.wpList_append_run _ rfl _ _ _ _ rfl _ _ rfl rfl _ _ (hr _) ?_)
  all_goals (go_ret; exact ⟨rfl, rfl⟩)
end Go.Proofs
namespace Go.Rv
open Go.RowKit Go.Proofs Go.Lib
variable {W : World → Prop}
theorem ids_elemOk : elemOk Tryd.prog 29 2 24 = true := by kernel_rfl
/-- slices.Insert into nothing. -/
theorem ids_insert_nil_good (row : List PV) : Good Tryd.prog W 20 [.nilS, .i .i64 0, .own 2 [row]] [] (.own 2 [row]) [] := by
  intro W0 hW φ g w us hi hh hl ha
  match us, hl with
  | [v0, v1, v2], _ =>
    obtain ⟨rfl, _⟩ := (ha 0 _ v0 rfl rfl).of_lit
    obtain ⟨rfl, _⟩ := (ha 1 _ v1 rfl rfl).of_lit
    have r2 := ha 2 _ v2 rfl rfl
    obtain ⟨ad, c, xs, rfl, hc1, h8, hcell⟩ : ∃ ad c xs, v2 = .slice (some ad) 1 c ∧ 1 ≤ c ∧ RowCells W0.heap.size g w 2 [row] xs ∧ ∀ j u, xs[j]? = some u → w.cell? (ad.add j) = some u := by
      rcases rowsOf_cells (sz := 2) (rows := [row]) (by omega) (by rfl) r2 with ⟨_, h⟩ | ⟨ad, c, xs, h1, h2, h3, h4⟩
      · cases h
      · exact ⟨ad, c, xs, h1, h2, h3, h4⟩
    obtain ⟨xs2, hadds⟩ := adds_slice (P := Tryd.prog) (g := g) (sz := 2) (rows' := [row]) (uy := .slice (some ad) 1 c) Tryd.underlying28 (.inr ⟨ad, c, xs, rfl, hc1, h8, hcell⟩)
    obtain ⟨v', φ', g', w', hrun, hp⟩ := appR_spec (ty := 29) (bytes := 24) (ax := .nilS) (r := .own 2 [row]) (i := 0) hi hh ids_elemOk (by simp [appR, AV.nilS, room]) (.lit rfl) hadds
    have hrun' : ∀ ty, (Builtin.append_ #[29, 28] ty #[.slice none 0 0, .slice (some ad) 1 c]).run Tryd.prog w = .ok v' w' := fun ty => hrun
    refine (ids_insert_nil ad c w v' w' hrun').mono ?_
    rintro en w2 ⟨rfl, rfl⟩
    exact ⟨v', φ', g', rfl, hp.inv, hp.hp, hp.res, ⟨hp.ext, fun b hb hn => by
      obtain ⟨a1, a2, a3⟩ := hp.frame b hb (fun l hl => by rw [hn] at hl; cases hl)
      exact ⟨a1, a2, a3.trans hn⟩, hp.len, hp.phi⟩⟩
/-- slices.Insert into an empty slice of one's own. -/
theorem ids_insert_own_good (row : List PV) : Good Tryd.prog W 20 [.own 2 [], .i .i64 0, .own 2 [row]] [] (.own 2 [row]) [] := by
  intro W0 hW φ g w us hi hh hl ha
  match us, hl with
  | [v0, v1, v2], _ =>
    obtain ⟨rfl, _⟩ := (ha 1 _ v1 rfl rfl).of_lit
    have r0 := ha 0 _ v0 rfl rfl
    have hkp := KeepU.reroot W0.heap.size g w (.env 0) (.arg 0)
    have r0' := r0.keep (Ext.reroot W0.heap.size g w (.env 0) (.arg 0)) (Nat.le_refl _) (fun _ _ => rfl) hkp
    have hi' := hi.reroot (.env 0) (.arg 0)
    have hh' : RepH W0.heap.size φ (g.reroot (.env 0) (.arg 0)) w [] := fun id hid => by simp at hid
    have r2 := ha 2 _ v2 rfl rfl
    obtain ⟨b, cap, e, cur, ho⟩ : ∃ b cap e cur, Owns W0.heap.size g w (.env 0) 2 [] v0 b cap e cur := by
      cases r0 with
      | b _ _ rx => cases rx with
        | c _ _ rx => cases rx with
          | zero _ _ rx => cases rx
          | own _ _ _ b cap e' cur rx => exact ⟨b, cap, e', cur, rx⟩
    have hv0 := ho.v
    obtain ⟨ad, c, xs, rfl, hc1, h8, hcell⟩ : ∃ ad c xs, v2 = .slice (some ad) 1 c ∧ 1 ≤ c ∧ RowCells W0.heap.size g w 2 [row] xs ∧ ∀ j u, xs[j]? = some u → w.cell? (ad.add j) = some u := by
      rcases rowsOf_cells (sz := 2) (rows := [row]) (by omega) (by rfl) r2 with ⟨_, h⟩ | ⟨ad, c, xs, h1, h2, h3, h4⟩
      · cases h
      · exact ⟨ad, c, xs, h1, h2, h3, h4⟩
    obtain ⟨xs2, hadds⟩ := adds_slice (P := Tryd.prog) (g := g.reroot (.env 0) (.arg 0)) (sz := 2) (rows' := [row]) (uy := .slice (some ad) 1 c) Tryd.underlying28 (.inr ⟨ad, c, xs, rfl, hc1, h8.ext (Ext.reroot _ _ _ _ _), hcell⟩)
    obtain ⟨v', φ', g', w', hrun, hp⟩ := appR_spec (ty := 29) (bytes := 24) (ax := .own 2 []) (r := .own 2 [row]) (i := 0) hi' hh' ids_elemOk (by simp [appR, room]) r0' hadds
    subst hv0
    have hrun' : ∀ ty, (Builtin.append_ #[29, 28] ty #[.slice (some ⟨b, 0, none⟩) 0 cap, .slice (some ad) 1 c]).run Tryd.prog w = .ok v' w' := fun ty => hrun
    refine (ids_insert_end ⟨b, 0, none⟩ ad 0 cap c w v' w' (Nat.zero_le _) (Nat.zero_le _) hrun').mono ?_
    rintro en w2 ⟨rfl, rfl⟩
    exact ⟨v', φ', g', rfl, hp.inv, hp.hp, hp.res, ⟨(Ext.reroot W0.heap.size g w (.env 0) (.arg 0)).trans hp.ext, fun k hk hn => by
      have hn' : (g.reroot (.env 0) (.arg 0)).ow k = none := by simp [Gh.reroot, hn]
      obtain ⟨a1, a2, a3⟩ := hp.frame k hk (fun l hl => by rw [hn'] at hl; cases hl)
      exact ⟨a1, a2, a3.trans hn'⟩, hp.len, hp.phi⟩⟩
end Go.Rv

namespace Go.Rv
open Go.RowKit Go.Proofs Go.Lib
variable {W : World → Prop}
/-- slices.Insert of one row into a view. -/
theorem ids_insert_good (rows : List (List PV)) (row : List PV) (i : Nat) (hs : ∀ r ∈ rows, r.length = 2) (hn0 : 0 < rows.length) (hi0 : i ≤ rows.length) (hm1 : (rows.length + 1) * 24 ≤ room) :
    Good Tryd.prog W 20 [.view 0 0 rows.length 2, .i .i64 i, .own 2 [row]] [rows.flatten.map AV.pv] (.pv (.sl 2 (rows.take i ++ [row] ++ rows.drop i))) [[]] := by
  by_cases he : i = rows.length
  · subst he
    have := ids_insert_end_good (W := W) rows row hs hn0 hm1
    rw [List.take_length, List.drop_length, List.append_nil]
    exact this
  · have hlt : i < rows.length := by omega
    intro W0 hW φ g w us hi hh hl ha
    match us, hl with
    | [v0, v1, v2], _ =>
      obtain ⟨rfl, _⟩ := (ha 1 _ v1 rfl rfl).of_lit
      have r0 := ha 0 _ v0 rfl rfl
      have r2 := ha 2 _ v2 rfl rfl
      obtain ⟨cap, cur, e, rfl, _⟩ := view_block hs (by omega) hn0 hh r0
      by_cases hr : rows.length + 1 ≤ cap
      · exact ids_insert_room_good rows row i hs hlt hm1 hi hh r0 r2 (fun a n c e => by cases e; exact hr)
      · exact ids_insert_grow_good rows row i hs hlt hm1 hi hh r0 r2 (fun a n c e => by cases e; omega)
section
variable {T : Nat → Type} {tb : Tab T}
def insF {α : Type} (l : List α) (n : Nat) (i : Int) (v : Option (List α)) : Option (List α) := match v with
  | some [x] => if n = l.length ∧ 0 < n ∧ 0 ≤ i ∧ i ≤ (n : Int) ∧ (n + 1) * 24 ≤ room then some (l.take i.toNat ++ [x] ++ l.drop i.toNat) else none
  | _ => none
def insR (tb : Tab T) (k : Nat) : RSp T tb (List (T k)) := ⟨fun _ _ => none, fun y => (.sl k (some y), [[]])⟩
/-- slices.Insert, of a view. -/
def insV (tb : Tab T) (k : Nat) : Orc T := mkOrc (Y := List (T k)) tb [.g (.f (.vw k 0)), .g (.f (.a (.n .i64))), .g (.f (.ow k))] [[.g (.f (.blk k))]] (fun x h => insF h.1.1 x.1 x.2.1 x.2.2.1) (fun _ y k' => k' (.sl k (some y)) [[]])
theorem prow_rows (ok : tb.Ok) {k : Nat} (hz : tb.sz k = 2) (l : List (T k)) : ∀ r ∈ l.map (tb.prow k), r.length = 2 := fun r hr => by rw [rows_sz ok l r hr, hz]
theorem insF_good (ok : tb.Ok) (k : Nat) (hz : tb.sz k = 2) (l : List (T k)) (n : Nat) (i : Int) (v : Option (List (T k))) (y : List (T k)) (hy : insF l n i v = some y) :
    Good Tryd.prog W 20 [.view 0 0 n (tb.sz k), .i .i64 i, oA (tb.sz k) (tb.prow k) v] [(l.map (tb.prow k)).flatten.map AV.pv] (.pv (oP (tb.sz k) (tb.prow k) (some y))) [[]] := by
  cases v with
  | none => cases hy
  | some vs =>
    cases vs with
    | nil => cases hy
    | cons x xs =>
      cases xs with
      | cons => cases hy
      | nil =>
        replace hy : (if n = l.length ∧ 0 < n ∧ 0 ≤ i ∧ i ≤ (n : Int) ∧ (n + 1) * 24 ≤ room then some (l.take i.toNat ++ [x] ++ l.drop i.toNat) else none) = some y := hy
        split at hy
        · rename_i hc
          obtain ⟨rfl, h1, h2, h3, h4⟩ := hc
          have hy := Option.some.inj hy
          subst hy
          have hin : i = ((i.toNat : Nat) : Int) := by omega
          have hle : i.toNat ≤ l.length := by omega
          have g := ids_insert_good (W := W) (l.map (tb.prow k)) (tb.prow k x) i.toNat (prow_rows ok hz l) (by rw [List.length_map]; exact h1) (by rw [List.length_map]; exact hle) (by rw [List.length_map]; exact h4)
          rw [List.length_map, ← hin, ← List.map_take, ← List.map_drop] at g
          simp only [oA, oP, hz, List.map_append, List.map_cons, List.map_nil]
          exact g
        · cases hy
theorem insV_ok (ok : tb.Ok) (k : Nat) (hz : tb.sz k = 2) : (insV tb k).Ok Tryd.prog W tb 20 :=
  mkOrc_ok (R := insR tb k) ok (by kernel_rfl) (fun _ _ _ => rfl) (fun _ => rfl) (fun x h y hy => ⟨by kernel_rfl, insF_good ok k hz _ _ _ _ _ hy⟩)
def insE {α : Type} (i : Int) (v : Option (List α)) : Option (List α) := match v with
  | some [x] => if i = 0 then some [x] else none
  | _ => none
theorem insE_some {α : Type} {i : Int} {v : Option (List α)} {y : List α} (h : insE i v = some y) : ∃ x, v = some [x] ∧ i = 0 ∧ y = [x] := by
  cases v with
  | none => cases h
  | some vs =>
    cases vs with
    | nil => cases h
    | cons x xs =>
      cases xs with
      | cons => cases h
      | nil =>
        replace h : (if i = 0 then some [x] else none) = some y := h
        split at h
        · rename_i hi
          exact ⟨x, rfl, hi, (Option.some.inj h).symm⟩
        · cases h
def insRo (tb : Tab T) (k : Nat) : RSp T tb (List (T k)) := ⟨fun _ _ => none, fun y => (.ow k (some y), [])⟩
/-- slices.Insert, of nothing. -/
def insN (tb : Tab T) (k : Nat) : Orc T := mkOrc (Y := List (T k)) tb [.g (.f .nilS), .g (.f (.a (.n .i64))), .g (.f (.ow k))] [] (fun x _ => insE x.2.1 x.2.2.1) (fun _ y k' => k' (.ow k (some y)) [])
theorem insN_good (k : Nat) (hz : tb.sz k = 2) (i : Int) (v : Option (List (T k))) (y : List (T k)) (hy : insE i v = some y) : Good Tryd.prog W 20 [.nilS, .i .i64 i, oA (tb.sz k) (tb.prow k) v] [] (oA (tb.sz k) (tb.prow k) (some y)) [] := by
  obtain ⟨x, rfl, rfl, rfl⟩ := insE_some hy
  simp only [oA, hz, List.map_cons, List.map_nil]
  exact ids_insert_nil_good _
theorem insN_ok (ok : tb.Ok) (k : Nat) (hz : tb.sz k = 2) : (insN tb k).Ok Tryd.prog W tb 20 :=
  mkOrc_ok (R := insRo tb k) ok (by kernel_rfl) (fun _ _ _ => rfl) (fun _ => rfl) (fun x h y hy => ⟨by kernel_rfl, insN_good k hz _ _ _ hy⟩)
/-- slices.Insert, of an empty slice of one's own. -/
def insO (tb : Tab T) (k : Nat) : Orc T := mkOrc (Y := List (T k)) tb [.g (.f (.ow k)), .g (.f (.a (.n .i64))), .g (.f (.ow k))] [] (fun x _ => insOF x.1 x.2.1 x.2.2.1) (fun _ y k' => k' (.ow k (some y)) [])
where insOF {α : Type} (o : Option (List α)) (i : Int) (v : Option (List α)) : Option (List α) := match o with
  | some [] => insE i v
  | _ => none
theorem insO_good (k : Nat) (hz : tb.sz k = 2) (o : Option (List (T k))) (i : Int) (v : Option (List (T k))) (y : List (T k)) (hy : insO.insOF o i v = some y) :
    Good Tryd.prog W 20 [oA (tb.sz k) (tb.prow k) o, .i .i64 i, oA (tb.sz k) (tb.prow k) v] [] (oA (tb.sz k) (tb.prow k) (some y)) [] := by
  cases o with
  | none => cases hy
  | some l =>
    cases l with
    | cons => cases hy
    | nil =>
      obtain ⟨x, rfl, rfl, rfl⟩ := insE_some hy
      simp only [oA, hz, List.map_cons, List.map_nil]
      exact ids_insert_own_good _
theorem insO_ok (ok : tb.Ok) (k : Nat) (hz : tb.sz k = 2) : (insO tb k).Ok Tryd.prog W tb 20 :=
  mkOrc_ok (R := insRo tb k) ok (by kernel_rfl) (fun _ _ _ => rfl) (fun _ => rfl) (fun x h y hy => ⟨by kernel_rfl, insO_good k hz _ _ _ _ hy⟩)
def selD : List (TV T) → Nat
  | .nilS :: _ => 0
  | .ow _ _ :: _ => 1
  | _ => 2
/-- slices.Insert. -/
def insW (tb : Tab T) (k : Nat) : Orc T := Orc.sel selD (insN tb k) (insO tb k) (insV tb k)
theorem insW_ok (ok : tb.Ok) (k : Nat) (hz : tb.sz k = 2) : (insW tb k).Ok Tryd.prog W tb 20 := Orc.sel_ok (insN_ok ok k hz) (insO_ok ok k hz) (insV_ok ok k hz)
end
end Go.Rv
