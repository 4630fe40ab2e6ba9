/- A typed interpreter of the program's code, and that it is sound; part 5. -/
import Derived.Test.YtaegbddjeibolaaDoorRvD
import Derived.Shelf.Utf8.RuneCount
import Derived.Shelf.Strings.Search3
import Derived.Shelf.Unicode.ValidAny
import Derived.Lib.LaidIn
import Derived.Lib.LaidU8
import Derived.Deep.DeepHandedRow
import Derived.Deep.DeepWitnessRowRef
import Derived.SevenTiedAt
set_option linter.unusedSimpArgs false
set_option linter.unusedVariables false
set_option maxRecDepth 100000
namespace Go.Rv
open Go.RowKit
variable {P : Program} {W : World → Prop}
/-- The world has grown: all that stood there stands. -/
theorem grown_ext {base : Nat} {g : Gh} {w w' : World} (b : Below w.heap.size w w') : Ext base g w g w' :=
  ⟨b.size, fun _ => Nat.le_refl _, fun k o hk _ => World.cell?_of_block (w := w) (b.block k hk)⟩
theorem grown_inv {W0 : World} {g : Gh} {w w' : World} (h : Inv W0 g w) (b : Below w.heap.size w w') : Inv W0 g w' :=
  ⟨h.below.trans (b.mono h.below.size), h.old, fun k hk => h.new k (Nat.le_trans b.size hk)⟩
theorem grown_keep {W0 : World} {base : Nat} {g : Gh} {w w' : World} (h : Inv W0 g w) (b : Below w.heap.size w w') (l : Loc) : Keep base g w g w' l l := by
  refine ⟨fun k hk => ⟨?_, rfl, hk⟩⟩
  by_cases hlt : k < w.heap.size
  · exact b.block k hlt
  · rw [(h.new k (by omega)).1] at hk; cases hk
theorem grown_heap {W0 : World} {base : Nat} {φ : Nat → Nat} {g : Gh} {w w' : World} {H : Heap} (h : Inv W0 g w) (b : Below w.heap.size w w') (r : RepH base φ g w H) : RepH base φ g w' H := by
  intro id hid
  refine ⟨?_⟩
  rcases (r id hid).rep with e | ⟨cur, e, h1, h2, h3, h4, h5, h6⟩
  · exact .inl e
  · refine .inr ⟨cur, e, ?_, h2, h3, h4, h5, fun j a v p q => ⟨(h6 j a v p q).1.keep (grown_ext b) (Nat.le_refl _) (fun _ _ => rfl) (grown_keep h b _), (h6 j a v p q).2⟩⟩
    have hlt : φ id < w.heap.size := (Array.getElem?_eq_some_iff.1 h1).1
    rw [b.block _ hlt]; exact h1
theorem grown_tr {W0 : World} {n : Nat} {φ : Nat → Nat} {g : Gh} {w w' : World} (b : Below w.heap.size w w') : Tr W0 n φ g w n φ g w' :=
  ⟨grown_ext b, fun k hk hn => ⟨b.block k hk, rfl, hn⟩, Nat.le_refl _, fun _ _ => rfl⟩
/-- A contract of the shelf's, of a function of plain values, is the word of a call. -/
theorem good_of_calls {f : FuncId} {vs : List Value} {H : Heap} {v : Value} (hv : v.oneCell' = true)
    (hc : ∀ (W0 w : World), W W0 → Below W0.heap.size W0 w → Calls P f vs.toArray w fun e w' => e = .returned v ∧ Below w.heap.size w w') :
    Good P W f (vs.map fun v => AV.pv (.lit v)) H (.pv (.lit v)) H := by
  intro W0 hW φ g w us hi hh hl ha
  have hus : us = vs := by
    refine List.ext_getElem? fun i => ?_
    by_cases hlt : i < vs.length
    · have h1 : (vs.map fun v => AV.pv (.lit v))[i]? = some (.pv (.lit vs[i])) := by simp [hlt]
      have hlt2 : i < us.length := by rw [hl]; simpa using hlt
      have := (ha i _ us[i] h1 (List.getElem?_eq_getElem hlt2)).of_lit
      rw [List.getElem?_eq_getElem hlt2, List.getElem?_eq_getElem hlt, this.1]
    · rw [List.getElem?_eq_none (by rw [hl]; simpa using hlt), List.getElem?_eq_none (by omega)]
  subst hus
  refine (hc W0 w hW hi.below).mono ?_
  rintro e w' ⟨rfl, b⟩
  exact ⟨v, φ, g, rfl, grown_inv hi b, grown_heap hi b hh, .lit hv, grown_tr b⟩
end Go.Rv

namespace Go.Rv
open Go.RowKit
/-- strings.Contains, of one byte. -/
def strings_Contains (s t : List UInt8) : Option Bool := match t with
  | [c] => some (decide (0 ≤ Lib.indexByte s c))
  | _ => none
def utf8_ValidString (s : List UInt8) : Option Bool := if s.length ≤ 9223372036854775807 then some (Lib.validD s) else none
def utf8_RuneCountInString (s : List UInt8) : Option Int := if s.length < 9223372036854775807 then some (Lib.runeCount ⟨s.toArray⟩ : Nat) else none
variable {P : Program} {W : World → Prop} {T : Nat → Type} {tb : Tab T}
theorem lw_Contains (ok : tb.Ok) {f : FuncId} (hen : enterOk P f = true)
    (hc : ∀ (s : ByteArray) (c : UInt8) (w : World), Calls P f #[.string s, .string ⟨#[c]⟩] w fun e w' => e = .returned (.bool (decide (0 ≤ Lib.indexByte s.data.toList c))) ∧ w' = w) :
    (mkOrc (Y := Bool) tb [.g (.f (.a .s)), .g (.f (.a .s))] [] (fun x h => strings_Contains x.1 x.2.1) (fun _ y k => k (.b y) [])).Ok P W tb f :=
  mkOrc_ok (R := ⟨fun _ _ => none, fun y => (.b y, [])⟩) ok hen (fun _ _ _ => rfl) (fun _ => rfl) (fun x z y h => by
    obtain ⟨s, t, u⟩ := x
    match t, h with
    | [c], h =>
      cases h
      exact ⟨hen, good_of_calls (vs := [.string ⟨List.toArray s⟩, .string ⟨#[c]⟩]) rfl (fun W0 w _ _ => (hc ⟨List.toArray s⟩ c w).mono (by rintro e w' ⟨rfl, rfl⟩; exact ⟨rfl, Below.refl _ _⟩))⟩)
theorem lw_ValidString (ok : tb.Ok) {f : FuncId} (hen : enterOk P f = true) {g3 g4 : Nat} (hW : ∀ w, W w → Lib.Utf8Tabs g3 g4 w)
    (hc : ∀ (s : ByteArray) (w : World), s.size ≤ 9223372036854775807 → Lib.Utf8Tabs g3 g4 w → Calls P f #[.string s] w fun e w' => e = .returned (.bool (Lib.validD s.data.toList)) ∧ Below w.heap.size w w') :
    (mkOrc (Y := Bool) tb [.g (.f (.a .s))] [] (fun x h => utf8_ValidString x.1) (fun _ y k => k (.b y) [])).Ok P W tb f :=
  mkOrc_ok (R := ⟨fun _ _ => none, fun y => (.b y, [])⟩) ok hen (fun _ _ _ => rfl) (fun _ => rfl) (fun x z y h => by
    obtain ⟨s, u⟩ := x
    simp only [utf8_ValidString] at h
    split at h
    · rename_i hs
      cases h
      exact ⟨hen, good_of_calls (vs := [.string ⟨List.toArray s⟩]) rfl (fun W0 w hw b => hc ⟨List.toArray s⟩ w (by rw [show ByteArray.size ⟨List.toArray s⟩ = s.length from List.size_toArray]; exact hs) (Go.Proofs.Utf8Tabs_below (hW W0 hw) b))⟩
    · cases h)
theorem lw_RuneCount (ok : tb.Ok) {f : FuncId} (hen : enterOk P f = true)
    (hc : ∀ (s : ByteArray) (w : World), s.size < 9223372036854775807 → Calls P f #[.string s] w fun e w' => e = .returned (.int .i64 (Lib.runeCount s)) ∧ ∃ pos, w' = w.iter s pos) :
    (mkOrc (Y := Int) tb [.g (.f (.a .s))] [] (fun x h => utf8_RuneCountInString x.1) (fun _ y k => k (.n .i64 y) [])).Ok P W tb f :=
  mkOrc_ok (R := ⟨fun _ _ => none, fun y => (.n .i64 y, [])⟩) ok hen (fun _ _ _ => rfl) (fun _ => rfl) (fun x z y h => by
    obtain ⟨s, u⟩ := x
    simp only [utf8_RuneCountInString] at h
    split at h
    · rename_i hs
      cases h
      exact ⟨hen, good_of_calls (vs := [.string ⟨List.toArray s⟩]) rfl (fun W0 w hw b => (hc ⟨List.toArray s⟩ w (by rw [show ByteArray.size ⟨List.toArray s⟩ = s.length from List.size_toArray]; exact hs)).mono (by
        rintro e w' ⟨rfl, pos, rfl⟩
        exact ⟨rfl, (Below.refl _ _).alloc (Nat.le_refl _) _⟩))⟩
    · cases h)
end Go.Rv

namespace Go.Rv
open Go.RowKit
theorem Fun.callsW {P : Program} {Wp : World → Prop} {f : FuncId} {al : List AV} {vs : List Value} {W : World} (h : Fun P Wp f al [] (.b true) []) (hW : Wp W) (hl : vs.length = al.length)
    (ha : ∀ (i : Nat) (a : AV) (v : Value), al[i]? = some a → vs[i]? = some v → RepA W.heap.size 0 (fun i => i) ⟨fun _ => 0, fun _ => none⟩ W (.env i) a v) :
    Calls P f vs.toArray W fun e W' => e = .returned (.bool true) ∧ Below W.heap.size W W' := by
  refine (h.2 W hW (fun i => i) ⟨fun _ => 0, fun _ => none⟩ W vs ⟨Below.refl _ _, fun _ _ => ⟨rfl, rfl⟩, fun _ _ => ⟨rfl, rfl⟩⟩ (fun id hid => by simp at hid) hl ha).mono ?_
  rintro e W' ⟨v, φ', g', rfl, hi, _, hr, _⟩
  obtain ⟨rfl, _⟩ := hr.of_lit
  exact ⟨rfl, hi.below⟩
end Go.Rv
namespace Go
open Go.RowKit Go.Rv
/-- A law, lifted, whose program's tables are laid. -/
theorem law_lifted_laid {C : Checked} {os : Os} {f : FuncId} {fn : Func} {s : ChangeSpec} {conds : List PathCond} {H : Type} {enc : TypeId × Value → H} {T : Nat → Type} {tb : Tab T} {sa : List Sh} {n d : Nat} {tr : TypeId} {laid : List (String × DataW Unit)} {F : Stop.Interp} {Wp : World → Prop} (ok : tb.Ok)
    (own : ownKnob C.prog.godebug = none) (started : os.Started) (noInit : C.prog.inits.idxOf? f = none) (hfn : C.prog.funcs[f]? = some fn)
    (witness : ∃ (w : World) (tape : Tape) (i : Input), w.os = os ∧ (w.forCall tape i).Shaped C.prog ∧ i.vars = [] ∧ Input.okWide C.prog (w.forCall tape i) .any w.heap.size f i ∧
      (OpenSpec.ofChange s).preRow enc C.prog fn conds false laid (w.forCall tape i).memory i.args ∧ ({} : Assume).holds C.prog (lone (Frame.enter C.prog f i.args .normal) [] (w.forCall tape i)))
    (hvars : s.vars = []) (hspec : ∀ ds : List (DataW H), ds.length = fn.params.toList.length → s.fn H ds = { results := [.lit (.bool true)], args := ds }) (hres : fn.resultTypes = #[tr]) (htr : C.prog.underlying tr = some .bool)
    (hlaid : laidOutB C.prog = true) (hread : (fn.params.toList.all fun t => C.prog.readableRec t && decide (t < C.prog.types.size)) = true) (hok : okArgs C.prog tb n fn.params.toList sa = true)
    (hWp : ∀ W, laidMetH C.prog laid W → W.ShapedOpen C.prog → Wp W)
    (hgood : ∀ x : tyL T sa, szArgs tb d sa x → Fun C.prog Wp f (avL tb (injL tb sa x)) [] (.b true) []) :
    ReturnsInHanded {} C os f .any ((OpenSpec.ofChange s).preRow enc C.prog fn conds false laid) (((OpenSpec.ofChange s).at F).post enc C.prog fn false true false false) := by
  refine returnsInHanded_of_row (C := C) (s := OpenSpec.ofChange s) own started noInit hfn witness ?_
  intro W base args ds gs before hval hW hcnd _ hsz hL hS _
  have hW' := hW
  obtain ⟨p, q, hA, hV, rfl, hfz, hnd⟩ := hW
  rw [show (OpenSpec.ofChange s).vars = [] from hvars] at hV
  obtain ⟨rfl, rfl⟩ := Go.ChangeShapes.trodVars_none hV
  obtain ⟨x, hl, sx, hx⟩ := read_args (tb := tb) (d := d) (n := n) ok 0 hok (fun j t v p q => hval j t v (by simpa using p) (by simpa using q)) hA
  have hc := (hgood x sx).callsW (vs := args.toList) (W := W) (hWp W hL hS) (by
    rw [hl, len_av]
    have : ∀ (l : List Sh) (x : tyL T l), (injL tb l x).length = l.length := by
      intro l; induction l with
      | nil => intro x; rfl
      | cons a l ih => intro x; simp [injL, ih]
    exact (this _ _).symm) (fun i a v p q => by have := hx i a v p q; rwa [Nat.zero_add] at this)
  rw [Array.toArray_toList] at hc
  refine hc.mono fun e W' ⟨he, bel⟩ => ?_
  subst he
  have hdl := trodAll_len hA
  have es : s.fn H (ds ++ []) = { results := [.lit (.bool true)], args := ds } := by rw [List.append_nil]; exact hspec ds hdl
  have ev : s.vars = [] := hvars
  refine ⟨_, rfl, ds, [], _, [], p, [], hW', ?_, ?_, ?_, bel.frame _, fun h => by cases h⟩
  · rw [show ((OpenSpec.ofChange s).at F).fn H (ds ++ []) = s.fn H (ds ++ []) from rfl, es, hres]
    exact Go.ChangeShapes.trodAll_mk1 (shut_bool htr _)
  · rw [show ((OpenSpec.ofChange s).at F).fn H (ds ++ []) = s.fn H (ds ++ []) from rfl, es]
    exact trodAll_below hlaid bel hread hA (fun x hx => by
      have := hW'.lt x (by simp [hx])
      exact this)
  · rw [show ((OpenSpec.ofChange s).at F).fn H (ds ++ []) = s.fn H (ds ++ []) from rfl, es, show ((OpenSpec.ofChange s).at F).vars = [] from hvars]; rfl
end Go
namespace Go.Proofs
open Go.Lib Go.RowKit
/-- The two tables of a dump, as its row lays them. -/
theorem tabs_read {P : Program} {w : World} {g3 g4 t5 t119 t138 t139 : Nat} {n1 n2 : Field}
    (a5 : P.underlying t5 = some (.int .u8)) (a119 : P.underlying t119 = some (.array 256 t5)) (a138 : P.underlying t138 = some (.struct #[n1, n2])) (a139 : P.underlying t139 = some (.array 16 t138))
    (f1 : n1.type = t5 ∧ n1.offset = 0) (f2 : n2.type = t5 ∧ n2.offset = 1) (c5 : P.cellsOf t5 = 1) (c119 : P.cellsOf t119 = 256) (c138 : P.cellsOf t138 = 2)
    (m3 : P.globalNamed "unicode/utf8.first" = some g3) (m4 : P.globalNamed "unicode/utf8.acceptRanges" = some g4) (y3 : (P.globals[g3]?).map (·.type) = some t119) (y4 : (P.globals[g4]?).map (·.type) = some t139)
    (h3 : VarReads P w "unicode/utf8.first" firstData) (h4 : VarReads P w "unicode/utf8.acceptRanges" acceptData) : Lib.Utf8Tabs g3 g4 w := by
  obtain ⟨_, _, cs, _, _, e1, e2, hv, hd⟩ := h3
  obtain ⟨_, _, cs4, _, _, e3, e4, hv4, hd4⟩ := h4
  rw [m3, Option.some.injEq] at e1
  rw [m4, Option.some.injEq] at e3
  subst e1 e3
  rw [y3, Option.some.injEq] at e2
  rw [y4, Option.some.injEq] at e4
  subst e2 e4
  refine ⟨fun c hc => ?_, fun i hi => ?_⟩
  · have h := World.var?_cell m3 hv c
    rw [← Array.getElem?_toList, cells_of_tab a119 a5 c5 c119 hd] at h
    rw [h]
    simp [firstTab, hc]
  · obtain ⟨_, d, _, hq, he⟩ := array_elem a139 hd4 i hi
    simp only [List.getElem?_map, List.getElem?_range hi, Option.map_some, Option.some.injEq] at hq
    subst hq
    rw [c138] at he
    have hcs := ints_of_struct a138 (fun j f hj => by
      match j, hj with
      | 0, hj => simp at hj; subst hj; exact ⟨f1.1 ▸ a5, f1.2, f1.1 ▸ c5⟩
      | 1, hj => simp at hj; subst hj; exact ⟨f2.1 ▸ a5, f2.2, f2.1 ▸ c5⟩
      | j + 2, hj => simp at hj) (by rw [c138]; rfl) he
    have q0 := congrArg (·[0]?) hcs
    have q1 := congrArg (·[1]?) hcs
    simp only [List.getElem?_take, List.getElem?_drop] at q0 q1
    have w0 := World.var?_cell m4 hv4 (2 * i)
    have w1 := World.var?_cell m4 hv4 (2 * i + 1)
    rw [← Array.getElem?_toList] at w0 w1
    refine ⟨w0.trans ?_, w1.trans ?_⟩
    · simpa [Nat.mul_comm] using q0
    · simpa [Nat.mul_comm] using q1
end Go.Proofs
namespace Go.Rv
open Go.RowKit
variable {T : Nat → Type} {tb : Tab T} {P : Program}
theorem law_goodW {Wp : World → Prop} {f : Nat} {o : Orc T} (h : o.Ok P Wp tb f) {sa : List Sh} (x : tyL T sa) (hr : o.run (injL tb sa x) [] (fun r H => some (r, H)) = some (.b true, [])) : Fun P Wp f (avL tb (injL tb sa x)) [] (.b true) [] := by
  obtain ⟨r, H', h1, _, h3⟩ := h.snd _ _ _ _ hr
  simp only [Option.some.injEq, Prod.mk.injEq] at h3
  obtain ⟨rfl, rfl⟩ := h3
  exact ⟨h.en, h1⟩
theorem no_stand {P : Program} {ps : Array TypeId} (h : (ps.toList.all fun t => !P.wantsStandIn t) = true) : ∀ (j : Nat) (t : TypeId), ps[j]? = some t → P.wantsStandIn t = false := by
  intro j t ht
  have := List.all_eq_true.1 h t (by rw [← Array.getElem?_toList] at ht; exact List.mem_of_getElem? ht)
  revert this
  cases P.wantsStandIn t <;> decide
end Go.Rv
