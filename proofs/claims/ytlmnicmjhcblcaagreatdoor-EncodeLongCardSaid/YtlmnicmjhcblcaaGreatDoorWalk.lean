/- That the program's functions are these plain functions. -/
import Derived.Test.YtlmnicmjhcblcaaGreatDoorPure
import Derived.Test.YtlmnicmjhcblcaaGreatDoorChecked
set_option linter.unusedSimpArgs false
set_option linter.unusedVariables false
set_option maxRecDepth 100000
namespace Go.Rv
open Go.Proofs
def Wp : World -> Prop := TryzWp
abbrev WK (o : Orc Tb) (f : Nat) : Prop := o.Ok Tryz.prog Wp tab f
abbrev CK (o : Cut Tb) (n : Nat) (c : TCode Tb) : Prop := o.Ok Tryz.prog Wp tab n c
abbrev RK (r : Orcs Tb) : Prop := yv52 Tryz.prog Wp tab r
def noCut : TCode Tb -> Bool
  | .seq a b => noCut a && noCut b
  | .cond _ a b => noCut a && noCut b
  | .block _ b => noCut b
  | .loop b => noCut b
  | .drop _ c => noCut c
  | .frz _ _ c => noCut c
  | .fend _ c => noCut c
  | .cut _ _ _ => false
  | .fin _ _ _ => false
  | _ => true
theorem no_cut {p : Nat -> Cut Tb -> TCode Tb -> Prop} : ∀ (c : TCode Tb), noCut c = true -> allC p c
  | .seq a b, h => by simp only [noCut, Bool.and_eq_true] at h; exact ⟨no_cut a h.1, no_cut b h.2⟩
  | .cond _ a b, h => by simp only [noCut, Bool.and_eq_true] at h; exact ⟨no_cut a h.1, no_cut b h.2⟩
  | .block _ b, h => no_cut b h
  | .loop b, h => no_cut b h
  | .drop _ c, h => no_cut c h
  | .frz _ _ c, h => no_cut c h
  | .fend _ c, h => no_cut c h
  | .cut _ _ _, h => by cases h
  | .fin _ _ _, h => by cases h
  | .skip, _ => trivial
  | .reg _ _, _ => trivial
  | .exit _, _ => trivial
  | .ret, _ => trivial
theorem uC {p : Nat -> Cut Tb -> TCode Tb -> Prop} {c : TCode Tb} (h : noCut c = true := by kernel_rfl) : allC p c := no_cut c h
theorem oneD {Y : Type} {sr : Sh} {sh : List (List Sh)} {tq : sr.ty Tb -> tyH Tb sh -> Y} {ofr : Y -> sr.ty Tb} {ofh : Y -> tyH Tb sh} (h1 : ∀ a b, ofr (tq a b) = a := by intro _ _; kernel_rfl) (h2 : ∀ a b, ofh (tq a b) = b := by intro _ _; kernel_rfl) : (RSp.one tab sr sh tq ofr ofh).Ok := RSp.one_ok tabOk h1 h2
theorem cutJD {orcs : Orcs Tb} (ho : RK orcs) {c : TCode Tb} (hc : yv151 Tryz.prog Wp tab c) {n : Nat} {sh : SSh} {B : (ρ : Type) -> sh.ty Tb -> (SExit -> TSt Tb -> Option ρ) -> Option ρ}
    (fact : ∀ {ρ : Type} (x : sh.ty Tb) (k : SExit -> TSt Tb -> Option ρ), runS tab orcs c (injS tab sh x) k = B ρ x k := by intro _ _ _; kernel_rfl) : (cutJ tab n sh B).Ok Tryz.prog Wp tab n c := yv771 tabOk ho hc fact
theorem cutLD {Z Y : Type} {orcs : Orcs Tb} (ho : RK orcs) {c : TCode Tb} (hc : yv151 Tryz.prog Wp tab c) {n : Nat} {sh : SSh} {z0 : sh.ty Tb -> Z} {step : sh.ty Tb -> Z -> Option (Z ⊕ Y)} {EX : (ρ : Type) -> sh.ty Tb -> Y -> (SExit -> TSt Tb -> Option ρ) -> Option ρ}
    (B : (ρ : Type) -> sh.ty Tb -> Z -> (Z -> Option ρ) -> (Y -> Option ρ) -> Option ρ) (up : sh.ty Tb -> Z -> TSt Tb) (ex : sh.ty Tb -> Y -> SExit × TSt Tb) (pz : TSt Tb -> Option Z) (py : SExit -> TSt Tb -> Option Y)
    (h0 : ∀ x, injS tab sh x = up x (z0 x) := by intro _; kernel_rfl) (hstep : ∀ x z, step x z = B _ x z (fun z => some (.inl z)) (fun y => some (.inr y)) := by intro _ _; kernel_rfl)
    (hEX : ∀ {ρ : Type} x y (k : SExit -> TSt Tb -> Option ρ), EX _ x y k = k (ex x y).1 (ex x y).2 := by intro _ _ _ _; kernel_rfl) (hne : ∀ x y, (ex x y).1 ≠ .normal := by intro _ _; exact nofun)
    (hpz : ∀ x z, pz (up x z) = some z := by intro _ _; kernel_rfl) (hpy : ∀ x y, py (ex x y).1 (ex x y).2 = some y := by intro _ _; kernel_rfl)
    (fact : ∀ {ρ : Type} (x : sh.ty Tb) (z : Z) (k : SExit -> TSt Tb -> Option ρ), runS tab orcs c (up x z) k = B _ x z (fun z => k .normal (up x z)) (fun y => EX _ x y k) := by intro _ _ _ _; kernel_rfl) : (cutL tab n sh z0 step EX).Ok Tryz.prog Wp tab n (.loop c) := yv772 tabOk ho hc B up ex pz py h0 hstep hEX hne hpz hpy fact
theorem orcD {orcs : Orcs Tb} {Y : Type} {f : FuncId} {fn : Func} {c : TCode Tb} {res : List SRes} {n : Nat} {sa : List Sh} {sh : List (List Sh)} {F : tyL Tb sa -> tyH Tb sh -> Option Y} {RX : (ρ : Type) -> Y -> (TV Tb -> THeap Tb -> Option ρ) -> Option ρ} {R : RSp Tb tab Y} (ho : RK orcs) (hR : R.Ok)
    (hf : Tryz.prog.funcs[f]? = some fn) (hc : yv151 Tryz.prog Wp tab c) (hok : fnOk Tryz.prog fn ⟨erC tab c, res, n⟩ = true := by kernel_rfl) (hwk : wkOk sh.length (erC tab c) = true := by kernel_rfl) (hen : yv22 Tryz.prog f = true := by kernel_rfl) (hl : Nat.ble sa.length n = true := by kernel_rfl)
    (hRX : ∀ (ρ : Type) y (k : TV Tb -> THeap Tb -> Option ρ), RX ρ y k = k (R.rs y).1 (R.rs y).2 := by intro _ _ _; kernel_rfl) (hlen : ∀ y, Nat.ble sh.length (R.rs y).2.length = true := by intro _; kernel_rfl)
    (fact : ∀ x z, runS tab orcs c ⟨argT 0 (injL tab sa x), injH tab sh z⟩ (kR R res) = F x z := by intro _ _; kernel_rfl) : WK (mkOrc tab sa sh F RX) f := yv775 tabOk ho hR hf hok hwk hen hl hc hRX hlen fact
def dT : DT Tb := ⟨[(.mv, 1), ((.load none), 1), ((.bin .eql .i), 2), (.pick, 3), ((.bin .add .i), 2), ((.fa 0), 1), ((.load (some 25)), 1), (.len, 1), ((.store 1), 2), ((.un .not), 1), ((.fa 1), 1), ((.fa 24), 1), (.box, 1), ((.bin .lss .i), 2), ((.bin .gtr .i), 2), (.lens, 1), ((.fa 4), 1), ((.app 1 1), 2), ((.fa 3), 1), ((.bin .neq .i), 2), ((.fa 19), 1), ((.fa 22), 1), (.extm, 1), ((.fa 2), 1), ((.ia 4), 2), ((.bin .geq .i), 2), ((.bin .eql .s), 2), ((.store 2), 2), ((.cint .u8), 1), ((.fa 23), 1), ((.load (some 4)), 1), ((.b8 1 [0]), 1), ((.ext 1), 1), ((.fa 13), 1), ((.build [.n .i64 0, .sl 9 none] [(0, 1), (1, 1)]), 2), ((.fa 7), 1), ((.bin .leq .i), 2), ((.fa 20), 1), ((.ia 1), 2), ((.store 4), 2), ((.fa 10), 1), ((.fa 8), 1), ((.fa 9), 1), ((.store 25), 2), ((.alloc [.u8 (0 : UInt8), .u32 (0 : UInt32), .s [], .s []]), 0), ((.fa 14), 1), ((.ia 2), 2), ((.fa 15), 1), ((.fa 16), 1), ((.fa 17), 1), ((.fa 5), 1), ((.bin .sub .i), 2), ((.fa 11), 1), ((.fa 18), 1), ((.fa 21), 1), ((.fa 6), 1), ((.alloc [.n .i64 0, .b false, .b false, .u8 (0 : UInt8), .u16 (0 : UInt16), .b false, .u16 (0 : UInt16), .s [], .b false, .b false, .b false, .u8 (0 : UInt8), .b false, .sl 4 none, .s [], .s [], .s [], .s [], .b false, .u8 (0 : UInt8), .s [], .s [], .sl 5 none, .bs none, .sl 4 none]), 0), ((.cint .i64), 1), ((.cint .u64), 1), ((.fa 12), 1), ((.b8 0 []), 0), ((.bin .or .i), 2), ((.bin .rem .i), 2), ((.bslice 9 2 (0 : Int) [0, 1]), 2), ((.load (some 2)), 1), ((.store 8), 2), ((.bslice 9 1 (0 : Int) [0]), 1), ((.cint .u16), 1), ((.alloc [.u16 (0 : UInt16), .u16 (0 : UInt16), .n .i64 0, .u8 (0 : UInt8), .b false, .b false, .b false, .b false]), 0), ((.bin .neq .b), 2), ((.bin .neq .s), 2), ((.cint .u32), 1), ((.bin .mul .i), 2), ((.ext 2), 1), (.apps, 2), ((.b8 2 [0, 1]), 2), ((.bin .quo .i), 2), ((.bin .shr .i), 2), (.b2s, 1), (.sidx, 2), ((.alloc [.n .i64 0, .b false, .b false, .u8 (0 : UInt8), .u16 (0 : UInt16), .b false, .u16 (0 : UInt16), .s [], .b false, .b false, .b false, .u8 (0 : UInt8), .b false, .sl 1 none, .s [], .s [], .s [], .s [], .b false, .u8 (0 : UInt8), .s [], .s [], .sl 2 none, .bs none, .sl 1 none]), 0), ((.alloc [.s [], .u8 (0 : UInt8)]), 0), ((.app 1 8), 2), ((.bin .eql .b), 2), ((.load (some 8)), 1), ((.ssl 1 true false), 2), ((.bslice 9 16 (0 : Int) [0, 1, 2, 3, 4, 5, 6, 7, 8, 9, 10, 11, 12, 13, 14, 15]), 16), ((.bslice 9 4 (0 : Int) [0, 1, 2, 3]), 4), ((.call none 0), 2), ((.alloc [.n .i64 0, .sl 9 none]), 0), ((.app 2 24), 2), ((.app 4 40), 2), ((.bin .and .i), 2), ((.bin .eql .sl), 2), ((.bslice 9 14 (0 : Int) [0, 1, 2, 3, 4, 5, 6, 7, 8, 9, 10, 11, 12, 13]), 14), ((.bslice 9 3 (0 : Int) [0, 1, 2]), 3), ((.bslice 9 9 (0 : Int) [0, 1, 2, 3, 4, 5, 6, 7, 8]), 9), ((.build [.n .i64 0, .b false, .b false, .u8 (0 : UInt8), .u16 (0 : UInt16), .b false, .u16 (0 : UInt16), .s [], .b false, .b false, .b false, .u8 (0 : UInt8), .b false, .sl 4 none, .s [], .s [], .s [], .s [], .b false, .u8 (0 : UInt8), .s [], .s [], .sl 5 none, .bs none, .sl 4 none] [(0, 1), (24, 1)]), 2), ((.build [.s [], .u8 (0 : UInt8)] [(0, 1), (1, 1)]), 2), ((.build [.u16 (0 : UInt16), .u16 (0 : UInt16), .n .i64 0, .u8 (0 : UInt8), .b false, .b false, .b false, .b false] [(0, 1), (2, 1), (3, 1), (4, 1), (5, 1), (6, 1), (7, 1)]), 7), ((.build [.u8 (0 : UInt8), .u32 (0 : UInt32), .s [], .s []] [(0, 1), (1, 1), (2, 1), (3, 1)]), 4), ((.build [.u8 (0 : UInt8), .u32 (0 : UInt32), .s [], .s []] [(0, 1), (1, 1)]), 2), ((.build [.u8 (0 : UInt8), .u32 (0 : UInt32), .s [], .s []] []), 0), ((.eqs false [.i, .i, .i, .i, .b, .b, .b, .b]), 2), ((.eqs true [.i, .i, .s, .s]), 2), ((.eqs true [.s, .i]), 2), ((.sstr false true), 2), ((.sstr true false), 2), ((.sstr true true), 3), (.loadm, 1), ((.alloc [.n .i64 0, .b false, .b false, .b false, .b false, .b false, .b false, .b false, .b false, .u8 (0 : UInt8), .u8 (0 : UInt8), .u8 (0 : UInt8), .u16 (0 : UInt16), .u16 (0 : UInt16), .s [], .s [], .s [], .s [], .s [], .s [], .s []]), 0), ((.alloc [.s [], .s [], .s [], .s [], .s [], .s [], .s [], .s [], .s [], .s [], .s [], .s [], .s [], .s [], .s []]), 0), ((.app 1 16), 2), ((.b8 12 [0, 1, 2, 3, 4, 5, 6, 7, 8, 9, 10, 11]), 12), ((.b8 22 [0, 1, 2, 3, 4, 5, 6, 7, 8, 9, 10, 11, 12, 13, 14, 15, 16, 17, 18, 19, 20, 21]), 22), ((.b8 29 [0, 1, 2, 3, 4, 5, 6, 7, 8, 9, 10, 11, 12, 13, 14, 15, 16, 17, 18, 19, 20, 21, 22, 23, 24, 25, 26, 27, 28]), 29), ((.b8 3 [0, 1, 2]), 3), ((.b8 4 [0, 1, 2, 3]), 4), ((.b8 6 [0, 1, 2, 3, 4, 5]), 6), ((.b8 7 [0, 1, 2, 3, 4, 5, 6]), 7), ((.b8 9 [0, 1, 2, 3, 4, 5, 6, 7, 8]), 9), ((.bin .shl .i), 2), ((.bslice 1 1 ((⟨(0 : UInt8), (0 : UInt32), [], []⟩ : fn153) : fn153) [0]), 1), ((.bslice 2 1 ((⟨[], (0 : UInt8)⟩ : fn104) : fn104) [0]), 1), ((.bslice 4 1 ((⟨(0 : UInt8), (0 : UInt32), [], []⟩ : fn132) : fn132) [0]), 1), ((.bslice 4 2 ((⟨(0 : UInt8), (0 : UInt32), [], []⟩ : fn132) : fn132) [0, 1]), 2), ((.bslice 5 1 ((⟨[], (0 : UInt8)⟩ : fn53) : fn53) [0]), 1), ((.bslice 8 1 ([] : List UInt8) [0]), 1), ((.bslice 8 15 ([] : List UInt8) [0, 1, 2, 3, 4, 5, 6, 7, 8, 9, 10, 11, 12, 13, 14]), 15), ((.bslice 8 4 ([] : List UInt8) [0, 1, 2, 3]), 4), ((.bslice 9 0 (0 : Int) []), 0), ((.bslice 9 18 (0 : Int) [0, 1, 2, 3, 4, 5, 6, 7, 8, 9, 10, 11, 12, 13, 14, 15, 16, 17]), 18), ((.build [.n .i64 0, .b false, .b false, .b false, .b false, .b false, .b false, .b false, .b false, .u8 (0 : UInt8), .u8 (0 : UInt8), .u8 (0 : UInt8), .u16 (0 : UInt16), .u16 (0 : UInt16), .s [], .s [], .s [], .s [], .s [], .s [], .s []] [(0, 1), (1, 1), (2, 1), (3, 1), (4, 1), (5, 1), (6, 1), (7, 1), (8, 1), (9, 1), (10, 1), (11, 1), (12, 1), (13, 1), (14, 7)]), 15), ((.build [.n .i64 0, .b false, .b false, .u8 (0 : UInt8), .u16 (0 : UInt16), .b false, .u16 (0 : UInt16), .s [], .b false, .b false, .b false, .u8 (0 : UInt8), .b false, .sl 1 none, .s [], .s [], .s [], .s [], .b false, .u8 (0 : UInt8), .s [], .s [], .sl 2 none, .bs none, .sl 1 none] [(0, 1), (1, 1), (2, 1), (3, 1), (4, 1), (5, 1), (6, 1), (7, 1), (8, 1), (9, 1), (10, 1), (11, 1), (12, 1), (13, 1), (14, 1), (15, 1), (16, 1), (17, 1), (18, 1), (19, 1), (20, 1), (21, 1), (23, 1), (24, 1)]), 24), ((.build [.n .i64 0, .b false, .b false, .u8 (0 : UInt8), .u16 (0 : UInt16), .b false, .u16 (0 : UInt16), .s [], .b false, .b false, .b false, .u8 (0 : UInt8), .b false, .sl 1 none, .s [], .s [], .s [], .s [], .b false, .u8 (0 : UInt8), .s [], .s [], .sl 2 none, .bs none, .sl 1 none] [(0, 1)]), 1), ((.build [.n .i64 0, .b false, .b false, .u8 (0 : UInt8), .u16 (0 : UInt16), .b false, .u16 (0 : UInt16), .s [], .b false, .b false, .b false, .u8 (0 : UInt8), .b false, .sl 4 none, .s [], .s [], .s [], .s [], .b false, .u8 (0 : UInt8), .s [], .s [], .sl 5 none, .bs none, .sl 4 none] [(0, 1), (1, 1), (2, 1), (3, 1), (4, 1), (5, 1), (6, 1), (7, 1), (8, 1), (9, 1), (10, 1), (11, 1), (12, 1), (13, 1), (14, 1), (15, 1), (16, 1), (17, 1), (18, 1), (19, 1), (20, 1), (21, 1), (23, 1), (24, 1)]), 24), ((.build [.n .i64 0, .b false, .b false, .u8 (0 : UInt8), .u16 (0 : UInt16), .b false, .u16 (0 : UInt16), .s [], .b false, .b false, .b false, .u8 (0 : UInt8), .b false, .sl 4 none, .s [], .s [], .s [], .s [], .b false, .u8 (0 : UInt8), .s [], .s [], .sl 5 none, .bs none, .sl 4 none] [(0, 1), (20, 1), (21, 1)]), 3), ((.build [.n .i64 0, .b false, .b false, .u8 (0 : UInt8), .u16 (0 : UInt16), .b false, .u16 (0 : UInt16), .s [], .b false, .b false, .b false, .u8 (0 : UInt8), .b false, .sl 4 none, .s [], .s [], .s [], .s [], .b false, .u8 (0 : UInt8), .s [], .s [], .sl 5 none, .bs none, .sl 4 none] [(0, 1), (24, 1), (5, 1), (6, 1), (7, 1), (8, 1), (9, 1), (10, 1)]), 8), ((.build [.n .i64 0, .b false, .b false, .u8 (0 : UInt8), .u16 (0 : UInt16), .b false, .u16 (0 : UInt16), .s [], .b false, .b false, .b false, .u8 (0 : UInt8), .b false, .sl 4 none, .s [], .s [], .s [], .s [], .b false, .u8 (0 : UInt8), .s [], .s [], .sl 5 none, .bs none, .sl 4 none] [(0, 1), (3, 1), (20, 1), (4, 1), (21, 1)]), 5), ((.build [.n .i64 0, .b false, .b false, .u8 (0 : UInt8), .u16 (0 : UInt16), .b false, .u16 (0 : UInt16), .s [], .b false, .b false, .b false, .u8 (0 : UInt8), .b false, .sl 4 none, .s [], .s [], .s [], .s [], .b false, .u8 (0 : UInt8), .s [], .s [], .sl 5 none, .bs none, .sl 4 none] [(0, 1), (3, 1), (20, 1), (4, 1)]), 4), ((.build [.n .i64 0, .sl 9 none] []), 0), ((.build [.s [], .s [], .s [], .s [], .s [], .s [], .s [], .s [], .s [], .s [], .s [], .s [], .s [], .s [], .s []] [(0, 1), (1, 1), (2, 1), (3, 1), (4, 1), (5, 1), (6, 1), (7, 1), (8, 1), (9, 1), (10, 1), (11, 1), (12, 1), (13, 1), (14, 1)]), 15), ((.build [.s [], .s [], .s [], .s [], .s [], .s [], .s []] [(0, 1), (1, 1), (2, 1), (3, 1), (4, 1), (5, 1), (6, 1)]), 7), ((.build [.u16 (0 : UInt16), .u16 (0 : UInt16), .n .i64 0, .u8 (0 : UInt8), .b false, .b false, .b false, .b false] [(0, 1), (1, 1), (2, 1), (3, 1), (4, 1), (5, 1), (6, 1), (7, 1)]), 8), ((.eqs false [.i, .b, .b, .b, .b, .b, .b, .b, .b, .i, .i, .i, .i, .i, .s, .s, .s, .s, .s, .s, .s]), 2), ((.fld 0 none), 1), ((.fld 1 none), 1), ((.iarr 15 1), 2), ((.mkf 123 0), 1), ((.mkf 128 0), 2), ((.mkf 131 0), 2), ((.mksl 0 1 (0 : UInt8)), 2), ((.ssl 1 false true), 2), ((.store 15), 2), ((.store 21), 2), (.b2v, 1)], [.k (.b false), .k (.n .i64 0), .k (.b true), .k (.n .i64 1), .k (.nilS), .k (.n .i64 2), .k (.n .i64 4), .k (.n .i64 5), .k (.s []), .k (.n .i64 3), .k (.u8 (0 : UInt8)), .k (.n .i64 15), .k (.n .i64 7), .k (.n .i64 6), .k (.u8 (2 : UInt8)), .k (.n .i64 8), .k (.n .i64 14), .k (.n .i64 128), .k (.u32 (0 : UInt32)), .k (.n .i64 11), .k (.n .i64 9), .k (.n .i64 10), .k (.u8 (1 : UInt8)), .k (.n .i64 65535), .k (.n .i64 16), .k (.u32 (128 : UInt32)), .k (.u8 (128 : UInt8)), .k (.u8 (35 : UInt8)), .k (.n .i64 135), .k (.u16 (0 : UInt16)), .k (.u8 (33 : UInt8)), .k (.n .i64 (-1)), .k (.n .i64 131), .k (.u8 (11 : UInt8)), .k (.u8 (21 : UInt8)), .k (.u8 (36 : UInt8)), .k (.u8 (39 : UInt8)), .k (.u8 (8 : UInt8)), .k (.n .i64 151), .k (.u32 (1 : UInt32)), .k (.u8 (3 : UInt8)), .k (.u8 (37 : UInt8)), .k (.u8 (4 : UInt8)), .k (.u8 (40 : UInt8)), .k (.u8 (41 : UInt8)), .k (.u8 (42 : UInt8)), .k (.n .i64 1024), .k (.n .i64 145), .k (.n .i64 300), .k (.u32 (268435455 : UInt32)), .k (.u8 (131 : UInt8)), .k (.u8 (135 : UInt8)), .k (.u8 (22 : UInt8)), .k (.u8 (25 : UInt8)), .k (.u8 (34 : UInt8)), .k (.u8 (38 : UInt8)), .k (.n .i64 143), .k (.n .i64 144), .k (.n .i64 268435455), .k (.u64 (256 : UInt64)), .k (.u8 (151 : UInt8)), .k (.u8 (17 : UInt8)), .k (.u8 (23 : UInt8)), .k (.u8 (24 : UInt8)), .k (.n .i64 153), .k (.n .i64 192), .k (.n .i64 30), .k (.s [36, 115, 104, 97, 114, 101, 47]), .k (.s [47]), .k (.s [97, 117, 116, 104]), .k (.u8 (143 : UInt8)), .k (.u8 (144 : UInt8)), .k (.u8 (145 : UInt8)), .k (.u8 (153 : UInt8)), .k (.u8 (18 : UInt8)), .k (.u8 (19 : UInt8)), .k (.u8 (26 : UInt8)), .k (.u8 (28 : UInt8)), .k (.u8 (31 : UInt8)), .k (.u8 (48 : UInt8)), .k (.u8 (9 : UInt8)), .k (.n .i64 12), .k (.n .i64 13), .k (.n .i64 137), .k (.n .i64 139), .k (.n .i64 140), .k (.n .i64 146), .k (.n .i64 149), .k (.n .i64 158), .k (.n .i64 159), .k (.n .i64 162), .k (.n .i64 17), .k (.n .i64 224), .k (.n .i64 240), .k (.n .i64 268435460), .k (.n .i64 64), .k (.s [100, 105, 115, 99, 111, 110, 110, 101, 99, 116]), .k (.s [112, 105, 110, 103, 114, 101, 113]), .k (.s [112, 105, 110, 103, 114, 101, 115, 112]), .k (.s [112, 117, 98, 108, 105, 115, 104]), .k (.s [112, 117, 98, 114, 101, 108]), .k (.s [112, 117, 98, 114, 101, 99]), .k (.s [112, 117, 98, 97, 99, 107]), .k (.s [112, 117, 98, 99, 111, 109, 112]), .k (.s [115, 117, 98, 115, 99, 114, 105, 98, 101]), .k (.s [115, 117, 98, 97, 99, 107]), .k (.s [117, 110, 115, 117, 98, 115, 99, 114, 105, 98, 101]), .k (.s [117, 110, 115, 117, 98, 97, 99, 107]), .k (.s [35]), .k (.s [43]), .k (.s [77, 81, 84, 84]), .k (.s [97]), .k (.s [99, 111, 110, 110, 101, 99, 116]), .k (.s [99, 111, 110, 110, 97, 99, 107]), .k (.u16 (65535 : UInt16)), .k (.u16 (7 : UInt16)), .k (.u32 (2 : UInt32)), .k (.u32 (256 : UInt32)), .k (.u32 (65536 : UInt32)), .k (.u64 (7 : UInt64)), .k (.u64 (8 : UInt64)), .k (.u8 (129 : UInt8)), .k (.u8 (130 : UInt8)), .k (.u8 (137 : UInt8)), .k (.u8 (149 : UInt8)), .k (.u8 (154 : UInt8)), .k (.u8 (155 : UInt8)), .k (.u8 (156 : UInt8)), .k (.u8 (157 : UInt8)), .k (.u8 (158 : UInt8)), .k (.u8 (159 : UInt8)), .k (.u8 (161 : UInt8)), .k (.u8 (162 : UInt8)), .k (.u8 (43 : UInt8)), .k (.u8 (47 : UInt8)), .k (.n .i64 1114111), .k (.n .i64 138), .k (.n .i64 141), .k (.n .i64 147), .k (.n .i64 157), .k (.n .i64 161), .k (.n .i64 16384), .k (.n .i64 2048), .k (.n .i64 24), .k (.n .i64 248), .k (.n .i64 25), .k (.n .i64 3000), .k (.n .i64 32), .k (.n .i64 55296), .k (.n .i64 57343), .k (.n .i64 65536), .k (.s [0]), .k (.s [116]), .k (.s [120]), .k (.s [43, 35]), .k (.s [50, 6, 0, 1, 97, 0, 7, 120]), .k (.u16 (5 : UInt16)), .k (.u32 (268435456 : UInt32)), .k (.u32 (268435460 : UInt32)), .k (.u32 (5 : UInt32)), .k (.u32 (65535 : UInt32)), .k (.u64 (16 : UInt64)), .k (.u64 (2 : UInt64)), .k (.u64 (4 : UInt64)), .k (.u64 (70000 : UInt64)), .k (.u8 (132 : UInt8)), .k (.u8 (133 : UInt8)), .k (.u8 (134 : UInt8)), .k (.u8 (136 : UInt8)), .k (.u8 (138 : UInt8)), .k (.u8 (139 : UInt8)), .k (.u8 (140 : UInt8)), .k (.u8 (141 : UInt8)), .k (.u8 (142 : UInt8)), .k (.u8 (146 : UInt8)), .k (.u8 (147 : UInt8)), .k (.u8 (148 : UInt8)), .k (.u8 (150 : UInt8)), .k (.u8 (152 : UInt8)), .k (.u8 (16 : UInt8)), .k (.u8 (160 : UInt8)), .k (.u8 (32 : UInt8)), .k (.u8 (5 : UInt8)), .k (.u8 (64 : UInt8))]⟩
abbrev Dc (n : Nat) (cs : List (CP Tryz.prog Wp tab)) (N : Nat) : TCode Tb := dec dT n cs N
theorem dK {n : Nat} {cs : List (CP Tryz.prog Wp tab)} {N : Nat} : yv151 Tryz.prog Wp tab (Dc n cs N) := yv773 dT n cs N
def fn18_r : Orcs Tb := []
theorem fn18_rk : RK fn18_r := yv763
def fn18_p1 : TCode Tb := Dc 49 [] 0x46fc53ae4b4f484acdac5590cc965c800ac9fa2e5918729930d12905a2e3
def fn18_s1 : SSh := ⟨[(1, rS 0 0), (2, rS 1 0), (3, rS 2 0)], [hS1, hS2, hS3]⟩
def fn18_o1 : Cut Tb := cutJ tab 0 fn18_s1 (fun _ x k => fn18_c1 (tabBk 6 x.2.1 : fn54) (tabBk 6 x.2.2.2.1 : fn54) (fun y8 y9 => k .ret ⟨[(2, .ref 1 0)], [(injL tab hS1 x.2.1), (List.set (injL tab hS1 x.2.2.2.1) 17 (.s y8)), (List.set (injL tab hS3 x.2.2.2.1) 17 (.s y9))]⟩))
theorem fn18_q1 : CK fn18_o1 0 fn18_p1 := cutJD fn18_rk dK
def fn18_p0 : TCode Tb := Dc 49 [cp fn18_q1] 0xb2a26165eafc76584a7c1079b8613af0a6b056a905c2e3
def fn18_s0 : SSh := ⟨[(1, rS 0 0), (2, rS 1 0), (3, rS 2 0)], [[iS, bS, bS, u8S, u16S, bS, u16S, sS, bS, bS, bS, u8S, bS, lS 4, sS, sS, sS, sS, bS, u8S, sS, sS, lS 5, bsS, lS 4], [iS, bS, bS, u8S, u16S, bS, u16S, sS, bS, bS, bS, u8S, bS, wS 4, sS, sS, sS, sS, bS, u8S, sS, sS, wS 5, boS, wS 4], [iS, bS, bS, u8S, u16S, bS, u16S, sS, bS, bS, bS, u8S, bS, lS 4, sS, sS, sS, sS, bS, u8S, sS, sS, wS 5, boS, lS 4]]⟩
def fn18_o0 : Cut Tb := cutJ tab 0 fn18_s0 (fun _ x k => fn18_c0 (⟨x.2.1.1, x.2.1.2.1, x.2.1.2.2.1, x.2.1.2.2.2.1, x.2.1.2.2.2.2.1, x.2.1.2.2.2.2.2.1, x.2.1.2.2.2.2.2.2.1, x.2.1.2.2.2.2.2.2.2.1, x.2.1.2.2.2.2.2.2.2.2.1, x.2.1.2.2.2.2.2.2.2.2.2.1, x.2.1.2.2.2.2.2.2.2.2.2.2.1, x.2.1.2.2.2.2.2.2.2.2.2.2.2.1, x.2.1.2.2.2.2.2.2.2.2.2.2.2.2.1, x.2.1.2.2.2.2.2.2.2.2.2.2.2.2.2.1, x.2.1.2.2.2.2.2.2.2.2.2.2.2.2.2.2.1, x.2.1.2.2.2.2.2.2.2.2.2.2.2.2.2.2.2.1, x.2.1.2.2.2.2.2.2.2.2.2.2.2.2.2.2.2.2.1, x.2.1.2.2.2.2.2.2.2.2.2.2.2.2.2.2.2.2.2.1, x.2.1.2.2.2.2.2.2.2.2.2.2.2.2.2.2.2.2.2.2.1, x.2.1.2.2.2.2.2.2.2.2.2.2.2.2.2.2.2.2.2.2.2.1, x.2.1.2.2.2.2.2.2.2.2.2.2.2.2.2.2.2.2.2.2.2.2.1, x.2.1.2.2.2.2.2.2.2.2.2.2.2.2.2.2.2.2.2.2.2.2.2.1, x.2.1.2.2.2.2.2.2.2.2.2.2.2.2.2.2.2.2.2.2.2.2.2.2.1, x.2.1.2.2.2.2.2.2.2.2.2.2.2.2.2.2.2.2.2.2.2.2.2.2.2.1, x.2.1.2.2.2.2.2.2.2.2.2.2.2.2.2.2.2.2.2.2.2.2.2.2.2.2.1⟩ : fn54) (⟨x.2.2.2.1.1, x.2.2.2.1.2.1, x.2.2.2.1.2.2.1, x.2.2.2.1.2.2.2.1, x.2.2.2.1.2.2.2.2.1, x.2.2.2.1.2.2.2.2.2.1, x.2.2.2.1.2.2.2.2.2.2.1, x.2.2.2.1.2.2.2.2.2.2.2.1, x.2.2.2.1.2.2.2.2.2.2.2.2.1, x.2.2.2.1.2.2.2.2.2.2.2.2.2.1, x.2.2.2.1.2.2.2.2.2.2.2.2.2.2.1, x.2.2.2.1.2.2.2.2.2.2.2.2.2.2.2.1, x.2.2.2.1.2.2.2.2.2.2.2.2.2.2.2.2.1, x.2.2.2.1.2.2.2.2.2.2.2.2.2.2.2.2.2.1, x.2.2.2.1.2.2.2.2.2.2.2.2.2.2.2.2.2.2.1, x.2.2.2.1.2.2.2.2.2.2.2.2.2.2.2.2.2.2.2.1, x.2.2.2.1.2.2.2.2.2.2.2.2.2.2.2.2.2.2.2.2.1, x.2.2.2.1.2.2.2.2.2.2.2.2.2.2.2.2.2.2.2.2.2.1, x.2.2.2.1.2.2.2.2.2.2.2.2.2.2.2.2.2.2.2.2.2.2.1, x.2.2.2.1.2.2.2.2.2.2.2.2.2.2.2.2.2.2.2.2.2.2.2.1, x.2.2.2.1.2.2.2.2.2.2.2.2.2.2.2.2.2.2.2.2.2.2.2.2.1, x.2.2.2.1.2.2.2.2.2.2.2.2.2.2.2.2.2.2.2.2.2.2.2.2.2.1, x.2.2.2.1.2.2.2.2.2.2.2.2.2.2.2.2.2.2.2.2.2.2.2.2.2.2.1, x.2.2.2.1.2.2.2.2.2.2.2.2.2.2.2.2.2.2.2.2.2.2.2.2.2.2.2.1, x.2.2.2.1.2.2.2.2.2.2.2.2.2.2.2.2.2.2.2.2.2.2.2.2.2.2.2.2.1⟩ : fn54) (fun y14 y15 => k .ret ⟨[(2, .ref 1 0)], [[.n .i64 x.2.1.1, .b x.2.1.2.1, .b x.2.1.2.2.1, .u8 x.2.1.2.2.2.1, .u16 x.2.1.2.2.2.2.1, .b x.2.1.2.2.2.2.2.1, .u16 x.2.1.2.2.2.2.2.2.1, .s x.2.1.2.2.2.2.2.2.2.1, .b x.2.1.2.2.2.2.2.2.2.2.1, .b x.2.1.2.2.2.2.2.2.2.2.2.1, .b x.2.1.2.2.2.2.2.2.2.2.2.2.1, .u8 x.2.1.2.2.2.2.2.2.2.2.2.2.2.1, .b x.2.1.2.2.2.2.2.2.2.2.2.2.2.2.1, .sl 4 x.2.1.2.2.2.2.2.2.2.2.2.2.2.2.2.1, .s x.2.1.2.2.2.2.2.2.2.2.2.2.2.2.2.2.1, .s x.2.1.2.2.2.2.2.2.2.2.2.2.2.2.2.2.2.1, .s x.2.1.2.2.2.2.2.2.2.2.2.2.2.2.2.2.2.2.1, .s x.2.1.2.2.2.2.2.2.2.2.2.2.2.2.2.2.2.2.2.1, .b x.2.1.2.2.2.2.2.2.2.2.2.2.2.2.2.2.2.2.2.2.1, .u8 x.2.1.2.2.2.2.2.2.2.2.2.2.2.2.2.2.2.2.2.2.2.1, .s x.2.1.2.2.2.2.2.2.2.2.2.2.2.2.2.2.2.2.2.2.2.2.1, .s x.2.1.2.2.2.2.2.2.2.2.2.2.2.2.2.2.2.2.2.2.2.2.2.1, .sl 5 x.2.1.2.2.2.2.2.2.2.2.2.2.2.2.2.2.2.2.2.2.2.2.2.2.1, .bs x.2.1.2.2.2.2.2.2.2.2.2.2.2.2.2.2.2.2.2.2.2.2.2.2.2.1, .sl 4 x.2.1.2.2.2.2.2.2.2.2.2.2.2.2.2.2.2.2.2.2.2.2.2.2.2.2.1], [.n .i64 y14.Kind, .b y14.Dup, .b y14.Retain, .u8 y14.QoS, .u16 y14.Id, .b y14.Clean, .u16 y14.Keep, .s y14.Client, .b y14.HasWill, .b y14.HasUser, .b y14.HasPass, .u8 y14.WillQoS, .b y14.WillRetain, .sl 4 y14.WillProps, .s y14.WillTopic, .s y14.WillLoad, .s y14.User, .s y14.Pass, .b y14.Present, .u8 y14.Code, .s y14.Topic, .s y14.Load, .sl 5 y14.Filters, .bs y14.Codes, .sl 4 y14.Props], [.n .i64 y15.Kind, .b y15.Dup, .b y15.Retain, .u8 y15.QoS, .u16 y15.Id, .b y15.Clean, .u16 y15.Keep, .s y15.Client, .b y15.HasWill, .b y15.HasUser, .b y15.HasPass, .u8 y15.WillQoS, .b y15.WillRetain, .sl 4 y15.WillProps, .s y15.WillTopic, .s y15.WillLoad, .s y15.User, .s y15.Pass, .b y15.Present, .u8 y15.Code, .s y15.Topic, .s y15.Load, .ow 5 y15.Filters, .bo y15.Codes, .sl 4 y15.Props]]⟩))
theorem fn18_q0 : CK fn18_o0 0 fn18_p0 := cutJD fn18_rk dK
def fn18_p : TCode Tb := Dc 49 [cp fn18_q0] 0xb00d62c097e79461038c76de2fd1ef223973da0c0179c433be1c905d59985ca3308d97eb8c14997e03b8a64fbdb98f8fc8675f36916d1d35f815cef3e582dc44c5538774426eaac30c86187127e9933c70f83d3445c9cf42c6f74d096e76baab05970c9db2a9306cfc459f285526aacac5fa857570aebbb6e3f874deaedde5f95ff18027d7af4eb6325d15a9295f009c00c2e
def fn18_w : Orc Tb := mkOrc (Y := fn54) tab [.g (.st 6)] [] (fun x h => fn18 (x.1 : fn54)) (fun _ y k => k (.agg (injL tab hS1 (tabUn 6 y))) [])
theorem fn18_k : WK fn18_w 82 := orcD (Y := fn54) (c := fn18_p) (res := [.cell 2 (some 25)]) (n := 49) (R := (RSp.one (Y := fn54) tab (.g (.st 6)) [] (fun a b => (a : fn54)) (fun y => (y : fn54)) (fun y => ()))) fn18_rk oneD Tryz.func82 dK
def fn67_r : Orcs Tb := [(82, fn18_w)]
theorem fn67_rk : RK fn67_r := (yv739 fn18_k yv763)
def fn67_p3 : TCode Tb := Dc 80 [] 0x887144f4a72c98fdb306e0bb995f44c3becfabad7c95
def fn67_s3 : SSh := ⟨[(1, rS 0 0), (2, rS 1 0), (3, rS 2 0), (73, bS)], [hS1, hS2, hS4]⟩
def fn67_o3 : Cut Tb := cutJ tab 0 fn67_s3 (fun _ x k => fn67_c3 x.1.2.2.2.1 (k .normal ⟨[(2, .ref 1 0), (3, .ref 2 0)], [(injL tab hS1 x.2.1), (injL tab hS2 x.2.2.1), (List.set (injL tab hS4 x.2.2.2.1) 19 (.u8 x.2.1.2.2.2.2.2.2.2.2.2.2.2.2.2.2.2.2.2.2.2.1))]⟩) (k .normal ⟨[(2, .ref 1 0), (3, .ref 2 0)], [(injL tab hS1 x.2.1), (injL tab hS2 x.2.2.1), [.n .i64 x.2.2.2.1.1, .b x.2.2.2.1.2.1, .b x.2.2.2.1.2.2.1, .u8 x.2.2.2.1.2.2.2.1, .u16 x.2.2.2.1.2.2.2.2.1, .b x.2.2.2.1.2.2.2.2.2.1, .u16 x.2.2.2.1.2.2.2.2.2.2.1, .s x.2.2.2.1.2.2.2.2.2.2.2.1, .b x.2.2.2.1.2.2.2.2.2.2.2.2.1, .b x.2.2.2.1.2.2.2.2.2.2.2.2.2.1, .b x.2.2.2.1.2.2.2.2.2.2.2.2.2.2.1, .u8 x.2.2.2.1.2.2.2.2.2.2.2.2.2.2.2.1, .b x.2.2.2.1.2.2.2.2.2.2.2.2.2.2.2.2.1, .ow 4 x.2.2.2.1.2.2.2.2.2.2.2.2.2.2.2.2.2.1, .s x.2.2.2.1.2.2.2.2.2.2.2.2.2.2.2.2.2.2.1, .s x.2.2.2.1.2.2.2.2.2.2.2.2.2.2.2.2.2.2.2.1, .s x.2.2.2.1.2.2.2.2.2.2.2.2.2.2.2.2.2.2.2.2.1, .s x.2.2.2.1.2.2.2.2.2.2.2.2.2.2.2.2.2.2.2.2.2.1, .b x.2.2.2.1.2.2.2.2.2.2.2.2.2.2.2.2.2.2.2.2.2.2.1, .u8 x.2.2.2.1.2.2.2.2.2.2.2.2.2.2.2.2.2.2.2.2.2.2.2.1, .s x.2.2.2.1.2.2.2.2.2.2.2.2.2.2.2.2.2.2.2.2.2.2.2.2.1, .s x.2.2.2.1.2.2.2.2.2.2.2.2.2.2.2.2.2.2.2.2.2.2.2.2.2.1, .ow 5 x.2.2.2.1.2.2.2.2.2.2.2.2.2.2.2.2.2.2.2.2.2.2.2.2.2.2.1, .bo x.2.2.2.1.2.2.2.2.2.2.2.2.2.2.2.2.2.2.2.2.2.2.2.2.2.2.2.1, .nilS]]⟩))
theorem fn67_q3 : CK fn67_o3 0 fn67_p3 := cutJD fn67_rk dK
def fn67_p2 : TCode Tb := Dc 80 [cp fn67_q3] 0x8995d5ec76ac7f434ecfe0fb631456a9716444ce56cc99ac0f58411a64fe828a5dee1a99aca6c8f5859e979432026732ae7c23d32cc05
def fn67_s2 : SSh := ⟨[(1, rS 0 0), (2, rS 1 0), (3, rS 2 0), (10, iS), (64, bS)], [hS1, hS2, hS4]⟩
def fn67_o2 : Cut Tb := cutJ tab 0 fn67_s2 (fun _ x k => fn67_c2 x.1.2.2.2.1 x.1.2.2.2.2.1 (k .normal ⟨[(1, .ref 0 0), (2, .ref 1 0), (3, .ref 2 0)], [(injL tab hS1 x.2.1), (injL tab hS2 x.2.2.1), (List.set (List.set (injL tab hS5 x.2.2.2.1) 4 (.u16 x.2.1.2.2.2.2.1)) 23 (.bs x.2.1.2.2.2.2.2.2.2.2.2.2.2.2.2.2.2.2.2.2.2.2.2.2.2.1))]⟩) (k .normal ⟨[(2, .ref 1 0), (3, .ref 2 0)], [(injL tab hS1 x.2.1), (injL tab hS2 x.2.2.1), (List.set (injL tab hS4 x.2.2.2.1) 19 (.u8 x.2.1.2.2.2.2.2.2.2.2.2.2.2.2.2.2.2.2.2.2.2.1))]⟩) (k .normal ⟨[(2, .ref 1 0), (3, .ref 2 0)], [(injL tab hS1 x.2.1), (injL tab hS2 x.2.2.1), [.n .i64 x.2.2.2.1.1, .b x.2.2.2.1.2.1, .b x.2.2.2.1.2.2.1, .u8 x.2.2.2.1.2.2.2.1, .u16 x.2.2.2.1.2.2.2.2.1, .b x.2.2.2.1.2.2.2.2.2.1, .u16 x.2.2.2.1.2.2.2.2.2.2.1, .s x.2.2.2.1.2.2.2.2.2.2.2.1, .b x.2.2.2.1.2.2.2.2.2.2.2.2.1, .b x.2.2.2.1.2.2.2.2.2.2.2.2.2.1, .b x.2.2.2.1.2.2.2.2.2.2.2.2.2.2.1, .u8 x.2.2.2.1.2.2.2.2.2.2.2.2.2.2.2.1, .b x.2.2.2.1.2.2.2.2.2.2.2.2.2.2.2.2.1, .ow 4 x.2.2.2.1.2.2.2.2.2.2.2.2.2.2.2.2.2.1, .s x.2.2.2.1.2.2.2.2.2.2.2.2.2.2.2.2.2.2.1, .s x.2.2.2.1.2.2.2.2.2.2.2.2.2.2.2.2.2.2.2.1, .s x.2.2.2.1.2.2.2.2.2.2.2.2.2.2.2.2.2.2.2.2.1, .s x.2.2.2.1.2.2.2.2.2.2.2.2.2.2.2.2.2.2.2.2.2.1, .b x.2.2.2.1.2.2.2.2.2.2.2.2.2.2.2.2.2.2.2.2.2.2.1, .u8 x.2.2.2.1.2.2.2.2.2.2.2.2.2.2.2.2.2.2.2.2.2.2.2.1, .s x.2.2.2.1.2.2.2.2.2.2.2.2.2.2.2.2.2.2.2.2.2.2.2.2.1, .s x.2.2.2.1.2.2.2.2.2.2.2.2.2.2.2.2.2.2.2.2.2.2.2.2.2.1, .ow 5 x.2.2.2.1.2.2.2.2.2.2.2.2.2.2.2.2.2.2.2.2.2.2.2.2.2.2.1, .bo x.2.2.2.1.2.2.2.2.2.2.2.2.2.2.2.2.2.2.2.2.2.2.2.2.2.2.2.1, .nilS]]⟩))
theorem fn67_q2 : CK fn67_o2 0 fn67_p2 := cutJD fn67_rk dK
def fn67_p1 : TCode Tb := Dc 80 [cp fn67_q2] 0x6cd1b92a8c75cd452234e634ef54785740f412332310b5461046993fa0a2977b9fbcccd91eb0b3d3025fa5139ae7c22f22cb75
def fn67_s1 : SSh := ⟨[(1, rS 0 0), (2, rS 1 0), (3, rS 2 0), (10, iS), (55, bS)], [hS1, hS2, hS4]⟩
def fn67_o1 : Cut Tb := cutJ tab 0 fn67_s1 (fun _ x k => fn67_c1 x.1.2.2.2.1 x.1.2.2.2.2.1 (k .normal ⟨[(1, .ref 0 0), (2, .ref 1 0), (3, .ref 2 0)], [(injL tab hS1 x.2.1), (injL tab hS2 x.2.2.1), (List.set (List.set (injL tab hS6 x.2.2.2.1) 4 (.u16 x.2.1.2.2.2.2.1)) 22 (.sl 5 x.2.1.2.2.2.2.2.2.2.2.2.2.2.2.2.2.2.2.2.2.2.2.2.2.1))]⟩) (k .normal ⟨[(1, .ref 0 0), (2, .ref 1 0), (3, .ref 2 0)], [(injL tab hS1 x.2.1), (injL tab hS2 x.2.2.1), (List.set (List.set (injL tab hS5 x.2.2.2.1) 4 (.u16 x.2.1.2.2.2.2.1)) 23 (.bs x.2.1.2.2.2.2.2.2.2.2.2.2.2.2.2.2.2.2.2.2.2.2.2.2.2.1))]⟩) (k .normal ⟨[(2, .ref 1 0), (3, .ref 2 0)], [(injL tab hS1 x.2.1), (injL tab hS2 x.2.2.1), (List.set (injL tab hS4 x.2.2.2.1) 19 (.u8 x.2.1.2.2.2.2.2.2.2.2.2.2.2.2.2.2.2.2.2.2.2.1))]⟩) (k .normal ⟨[(2, .ref 1 0), (3, .ref 2 0)], [(injL tab hS1 x.2.1), (injL tab hS2 x.2.2.1), [.n .i64 x.2.2.2.1.1, .b x.2.2.2.1.2.1, .b x.2.2.2.1.2.2.1, .u8 x.2.2.2.1.2.2.2.1, .u16 x.2.2.2.1.2.2.2.2.1, .b x.2.2.2.1.2.2.2.2.2.1, .u16 x.2.2.2.1.2.2.2.2.2.2.1, .s x.2.2.2.1.2.2.2.2.2.2.2.1, .b x.2.2.2.1.2.2.2.2.2.2.2.2.1, .b x.2.2.2.1.2.2.2.2.2.2.2.2.2.1, .b x.2.2.2.1.2.2.2.2.2.2.2.2.2.2.1, .u8 x.2.2.2.1.2.2.2.2.2.2.2.2.2.2.2.1, .b x.2.2.2.1.2.2.2.2.2.2.2.2.2.2.2.2.1, .ow 4 x.2.2.2.1.2.2.2.2.2.2.2.2.2.2.2.2.2.1, .s x.2.2.2.1.2.2.2.2.2.2.2.2.2.2.2.2.2.2.1, .s x.2.2.2.1.2.2.2.2.2.2.2.2.2.2.2.2.2.2.2.1, .s x.2.2.2.1.2.2.2.2.2.2.2.2.2.2.2.2.2.2.2.2.1, .s x.2.2.2.1.2.2.2.2.2.2.2.2.2.2.2.2.2.2.2.2.2.1, .b x.2.2.2.1.2.2.2.2.2.2.2.2.2.2.2.2.2.2.2.2.2.2.1, .u8 x.2.2.2.1.2.2.2.2.2.2.2.2.2.2.2.2.2.2.2.2.2.2.2.1, .s x.2.2.2.1.2.2.2.2.2.2.2.2.2.2.2.2.2.2.2.2.2.2.2.2.1, .s x.2.2.2.1.2.2.2.2.2.2.2.2.2.2.2.2.2.2.2.2.2.2.2.2.2.1, .ow 5 x.2.2.2.1.2.2.2.2.2.2.2.2.2.2.2.2.2.2.2.2.2.2.2.2.2.2.1, .bo x.2.2.2.1.2.2.2.2.2.2.2.2.2.2.2.2.2.2.2.2.2.2.2.2.2.2.2.1, .nilS]]⟩))
theorem fn67_q1 : CK fn67_o1 0 fn67_p1 := cutJD fn67_rk dK
def fn67_p0 : TCode Tb := Dc 80 [cp fn67_q1] 0x6b91fa64ad8bf6a282e60fa1a0861454340e3d931ef7aa961046993fa0a2977b9e8b9fd91eb0b3d3019c53b40ae7c21df2cac5
def fn67_s0 : SSh := ⟨[(1, rS 0 0), (2, rS 1 0), (3, rS 2 0), (10, iS), (44, bS)], [hS1, hS2, hS4]⟩
def fn67_o0 : Cut Tb := cutJ tab 0 fn67_s0 (fun _ x k => fn67_c0 x.1.2.2.2.1 x.1.2.2.2.2.1 (k .normal ⟨[(1, .ref 0 0), (2, .ref 1 0), (3, .ref 2 0)], [(injL tab hS1 x.2.1), (injL tab hS2 x.2.2.1), (List.set (List.set (injL tab hS4 x.2.2.2.1) 4 (.u16 x.2.1.2.2.2.2.1)) 19 (.u8 x.2.1.2.2.2.2.2.2.2.2.2.2.2.2.2.2.2.2.2.2.2.1))]⟩) (k .normal ⟨[(1, .ref 0 0), (2, .ref 1 0), (3, .ref 2 0)], [(injL tab hS1 x.2.1), (injL tab hS2 x.2.2.1), (List.set (List.set (injL tab hS6 x.2.2.2.1) 4 (.u16 x.2.1.2.2.2.2.1)) 22 (.sl 5 x.2.1.2.2.2.2.2.2.2.2.2.2.2.2.2.2.2.2.2.2.2.2.2.2.1))]⟩) (k .normal ⟨[(1, .ref 0 0), (2, .ref 1 0), (3, .ref 2 0)], [(injL tab hS1 x.2.1), (injL tab hS2 x.2.2.1), (List.set (List.set (injL tab hS5 x.2.2.2.1) 4 (.u16 x.2.1.2.2.2.2.1)) 23 (.bs x.2.1.2.2.2.2.2.2.2.2.2.2.2.2.2.2.2.2.2.2.2.2.2.2.2.1))]⟩) (k .normal ⟨[(2, .ref 1 0), (3, .ref 2 0)], [(injL tab hS1 x.2.1), (injL tab hS2 x.2.2.1), (List.set (injL tab hS4 x.2.2.2.1) 19 (.u8 x.2.1.2.2.2.2.2.2.2.2.2.2.2.2.2.2.2.2.2.2.2.1))]⟩) (k .normal ⟨[(2, .ref 1 0), (3, .ref 2 0)], [(injL tab hS1 x.2.1), (injL tab hS2 x.2.2.1), [.n .i64 x.2.2.2.1.1, .b x.2.2.2.1.2.1, .b x.2.2.2.1.2.2.1, .u8 x.2.2.2.1.2.2.2.1, .u16 x.2.2.2.1.2.2.2.2.1, .b x.2.2.2.1.2.2.2.2.2.1, .u16 x.2.2.2.1.2.2.2.2.2.2.1, .s x.2.2.2.1.2.2.2.2.2.2.2.1, .b x.2.2.2.1.2.2.2.2.2.2.2.2.1, .b x.2.2.2.1.2.2.2.2.2.2.2.2.2.1, .b x.2.2.2.1.2.2.2.2.2.2.2.2.2.2.1, .u8 x.2.2.2.1.2.2.2.2.2.2.2.2.2.2.2.1, .b x.2.2.2.1.2.2.2.2.2.2.2.2.2.2.2.2.1, .ow 4 x.2.2.2.1.2.2.2.2.2.2.2.2.2.2.2.2.2.1, .s x.2.2.2.1.2.2.2.2.2.2.2.2.2.2.2.2.2.2.1, .s x.2.2.2.1.2.2.2.2.2.2.2.2.2.2.2.2.2.2.2.1, .s x.2.2.2.1.2.2.2.2.2.2.2.2.2.2.2.2.2.2.2.2.1, .s x.2.2.2.1.2.2.2.2.2.2.2.2.2.2.2.2.2.2.2.2.2.1, .b x.2.2.2.1.2.2.2.2.2.2.2.2.2.2.2.2.2.2.2.2.2.2.1, .u8 x.2.2.2.1.2.2.2.2.2.2.2.2.2.2.2.2.2.2.2.2.2.2.2.1, .s x.2.2.2.1.2.2.2.2.2.2.2.2.2.2.2.2.2.2.2.2.2.2.2.2.1, .s x.2.2.2.1.2.2.2.2.2.2.2.2.2.2.2.2.2.2.2.2.2.2.2.2.2.1, .ow 5 x.2.2.2.1.2.2.2.2.2.2.2.2.2.2.2.2.2.2.2.2.2.2.2.2.2.2.1, .bo x.2.2.2.1.2.2.2.2.2.2.2.2.2.2.2.2.2.2.2.2.2.2.2.2.2.2.2.1, .nilS]]⟩))
theorem fn67_q0 : CK fn67_o0 0 fn67_p0 := cutJD fn67_rk dK
def fn67_p : TCode Tb := Dc 80 [cp fn67_q0] 0x5885df26d4b07ecb049e6b98f32599c15701283c9ab74fcf94f8d580316ec4093c6d9d30fd0c6f57b5a9b6b2641072ee95c956532699016140e230bbc80a6b459c13691958ad121d3df8235f13814da3330e7aa92682b805511160ced1bebefeb6e8da461f6f52d32bfb0c6f6a4e3f3eb138adbcd9d62e1bd75afb1ce256f0c2e1adf3e52555c8e4fd6869d5b6725328485cef3903863ada791c13bb4b80b4d477131d4f2322d5254e0fa26be49cc56bf81c66ed47d2a2080ca3d040fbaf99566566a59f95bb57a983b4e41f902aa6f908352cbe83897d3c50046a5cdbee8f3431b03f8a985110cd666e64ae70b0824b783ea79980d25192bf009c00c2e
def fn67_w : Orc Tb := mkOrc (Y := fn54) tab [.g (.st 6)] [] (fun x h => fn67 (x.1 : fn54)) (fun _ y k => k (.agg (injL tab hS1 (tabUn 6 y))) [])
theorem fn67_k : WK fn67_w 40 := orcD (Y := fn54) (c := fn67_p) (res := [.cell 2 (some 25)]) (n := 80) (R := (RSp.one (Y := fn54) tab (.g (.st 6)) [] (fun a b => (a : fn54)) (fun y => (y : fn54)) (fun y => ()))) fn67_rk oneD Tryz.func40 dK
def fn31_r : Orcs Tb := []
theorem fn31_rk : RK fn31_r := yv763
def fn31_p : TCode Tb := Dc 47 [] 0xc648e6225683319f3ddb7f562bcce9f0641c17f4f3fdcfdd89d6ecfd3748ee6f463250e714e2007439994c7448b9096792cfa199bbd91622feaa16f6d5232d26deb476d12b1ac32044f255946a46c9e3399465fecc288dd546c8eb1e7caf1f690d02ff7a1bae852d10c76d9123ebb763a56cbc5525b017992aef819a00c2e
def fn31_w : Orc Tb := mkOrc (Y := fn66) tab [.g (.st 6)] [] (fun x h => fn31 (x.1 : fn54)) (fun _ y k => k (.agg [.n .i64 y.kind, .b y.dup, .b y.retain, .b y.clean, .b y.willRetain, .b y.will, .b y.user, .b y.pass, .b y.present, .u8 y.qos, .u8 y.willQoS, .u8 y.code, .u16 y.id, .u16 y.keep, .s y.texts.x0, .s y.texts.x1, .s y.texts.x2, .s y.texts.x3, .s y.texts.x4, .s y.texts.x5, .s y.texts.x6]) [])
theorem fn31_k : WK fn31_w 59 := orcD (Y := fn66) (c := fn31_p) (res := [.cell 2 (some 21)]) (n := 47) (R := (RSp.one (Y := fn66) tab (.g (.st 7)) [] (fun a b => ({a with texts := (⟨a.texts.x0, a.texts.x1, a.texts.x2, a.texts.x3, a.texts.x4, a.texts.x5, a.texts.x6⟩ : arr7_s)} : fn66)) (fun y => ({y with texts := (⟨y.texts.x0, y.texts.x1, y.texts.x2, y.texts.x3, y.texts.x4, y.texts.x5, y.texts.x6⟩ : arr7_s)} : fn66)) (fun y => ()))) fn31_rk oneD Tryz.func59 dK
def fn2_r : Orcs Tb := []
theorem fn2_rk : RK fn2_r := yv763
def fn2_p0 : TCode Tb := Dc 26 [] 0x25859c7c53dd259cb2fc1ee5748632bf0157a0ba7d5cf427dfc11911f8914797c5b1b319c15ae0db01eb4fbf0654b6679665160b17b6869a8b9fcdd9f823e64f4563a1117ed6f2d1e
def fn2_s0 : SSh := ⟨[(0, lS 5), (1, lS 5), (12, iS), (13, iS)], []⟩
def fn2_o0 : Cut Tb := cutL tab 0 fn2_s0 (fun x => x.1.2.2.2.1) (fun x => fn2_l0 x.1.1 x.1.2.1 x.1.2.2.1) (fun _ x y k => match y with | .inl y => k .ret ⟨[(4, .b false)], []⟩ | .inr y => k (.exit 0) ⟨[], []⟩)
theorem fn2_q0 : CK fn2_o0 0 (.loop fn2_p0) := yv772 (c := fn2_p0) (Z := Int) (Y := Unit ⊕ Unit) tabOk fn2_rk dK (fun _ x z b e => fn2_b0 x.1.1 x.1.2.1 x.1.2.2.1 z (fun x6 => b x6) (e (.inl ())) (e (.inr ()))) (fun x z => ⟨[(0, .sl 5 x.1.1), (1, .sl 5 x.1.2.1), (12, .n .i64 x.1.2.2.1), (13, .n .i64 z)], []⟩) (fun x y => match y with | .inl y => (.ret, ⟨[(4, .b false)], []⟩) | .inr y => ((.exit 0), ⟨[], []⟩)) (fun t => (prjS tab 0 fn2_s0 t).bind fun x => some x.1.2.2.2.1) (fun e t => (if eqE e .ret then yv555 ((prjS tab 0 ⟨[(4, .g (.f (.cb false)))], []⟩ t).bind fun v => some (.inl ())) (if eqE e (.exit 0) then (prjS tab 0 ⟨[], []⟩ t).bind fun v => some (.inr ()) else none) else (if eqE e (.exit 0) then (prjS tab 0 ⟨[], []⟩ t).bind fun v => some (.inr ()) else none))) (fun x => by kernel_rfl) (fun x z => by kernel_rfl) (fun x y k => by rcases y with y | y <;> kernel_rfl) (fun x y => by rcases y with y | y <;> exact nofun) (fun x z => by kernel_rfl) (fun x y => by rcases y with y | y <;> kernel_rfl) (fun x z k => by kernel_rfl)
def fn2_p : TCode Tb := Dc 26 [cp fn2_q0] 0xecee0018510c8f0319bef46631b10392508a6ecbf4ed6d992c33dcd8d1f0c65499123801e
def fn2_w : Orc Tb := mkOrc (Y := Bool) tab [lS 5, lS 5] [] (fun x h => fn2 x.1 x.2.1) (fun _ y k => k (.b y) [])
theorem fn2_k : WK fn2_w 60 := orcD (Y := Bool) (c := fn2_p) (res := [.tmp 4]) (n := 26) (R := (RSp.one (Y := Bool) tab (bS) [] (fun a b => a) (fun y => y) (fun y => ()))) fn2_rk oneD Tryz.func60 dK
def fn10_r : Orcs Tb := []
theorem fn10_rk : RK fn10_r := yv763
def fn10_p0 : TCode Tb := Dc 26 [] 0x12c2ce3e29ee92ce597e0f72ba43195f80abd05d3eae7a13efe08c890635a8b0a7c01137714885a642feeda3f4bca927465efb6869a8b9fcdd9f823e64f4563a1117ed6f2d1e
def fn10_s0 : SSh := ⟨[(0, bsS), (1, bsS), (12, iS), (13, iS)], []⟩
def fn10_o0 : Cut Tb := cutL tab 0 fn10_s0 (fun x => x.1.2.2.2.1) (fun x => fn10_l0 x.1.1 x.1.2.1 x.1.2.2.1) (fun _ x y k => match y with | .inl y => k .ret ⟨[(4, .b false)], []⟩ | .inr y => k (.exit 0) ⟨[], []⟩)
theorem fn10_q0 : CK fn10_o0 0 (.loop fn10_p0) := yv772 (c := fn10_p0) (Z := Int) (Y := Unit ⊕ Unit) tabOk fn10_rk dK (fun _ x z b e => fn10_b0 x.1.1 x.1.2.1 x.1.2.2.1 z (fun x6 => b x6) (e (.inl ())) (e (.inr ()))) (fun x z => ⟨[(0, .bs x.1.1), (1, .bs x.1.2.1), (12, .n .i64 x.1.2.2.1), (13, .n .i64 z)], []⟩) (fun x y => match y with | .inl y => (.ret, ⟨[(4, .b false)], []⟩) | .inr y => ((.exit 0), ⟨[], []⟩)) (fun t => (prjS tab 0 fn10_s0 t).bind fun x => some x.1.2.2.2.1) (fun e t => (if eqE e .ret then yv555 ((prjS tab 0 ⟨[(4, .g (.f (.cb false)))], []⟩ t).bind fun v => some (.inl ())) (if eqE e (.exit 0) then (prjS tab 0 ⟨[], []⟩ t).bind fun v => some (.inr ()) else none) else (if eqE e (.exit 0) then (prjS tab 0 ⟨[], []⟩ t).bind fun v => some (.inr ()) else none))) (fun x => by kernel_rfl) (fun x z => by kernel_rfl) (fun x y k => by rcases y with y | y <;> kernel_rfl) (fun x y => by rcases y with y | y <;> exact nofun) (fun x z => by kernel_rfl) (fun x y => by rcases y with y | y <;> kernel_rfl) (fun x z k => by kernel_rfl)
def fn10_p : TCode Tb := Dc 26 [cp fn10_q0] 0xecee0018510c8f0319bef46631b10392508a6ecbf4ed6d992c33dcd8d1f0c65499123801e
def fn10_w : Orc Tb := mkOrc (Y := Bool) tab [bsS, bsS] [] (fun x h => fn10 x.1 x.2.1) (fun _ y k => k (.b y) [])
theorem fn10_k : WK fn10_w 61 := orcD (Y := Bool) (c := fn10_p) (res := [.tmp 4]) (n := 26) (R := (RSp.one (Y := Bool) tab (bS) [] (fun a b => a) (fun y => y) (fun y => ()))) fn10_rk oneD Tryz.func61 dK
def fn4_r : Orcs Tb := []
theorem fn4_rk : RK fn4_r := yv763
def fn4_p0 : TCode Tb := Dc 26 [] 0x25859c7c53dd259cb2fc1ee5748632bf0157a0ba7d5cf427dfc11911f88ecd64cb1ab0cc2aff3a6a7399e729e426c113d03f0c5befb6869a8b9fcdd9f823e64f4563a1117ed6f2d1e
def fn4_s0 : SSh := ⟨[(0, lS 4), (1, lS 4), (12, iS), (13, iS)], []⟩
def fn4_o0 : Cut Tb := cutL tab 0 fn4_s0 (fun x => x.1.2.2.2.1) (fun x => fn4_l0 x.1.1 x.1.2.1 x.1.2.2.1) (fun _ x y k => match y with | .inl y => k .ret ⟨[(4, .b false)], []⟩ | .inr y => k (.exit 0) ⟨[], []⟩)
theorem fn4_q0 : CK fn4_o0 0 (.loop fn4_p0) := yv772 (c := fn4_p0) (Z := Int) (Y := Unit ⊕ Unit) tabOk fn4_rk dK (fun _ x z b e => fn4_b0 x.1.1 x.1.2.1 x.1.2.2.1 z (fun x6 => b x6) (e (.inl ())) (e (.inr ()))) (fun x z => ⟨[(0, .sl 4 x.1.1), (1, .sl 4 x.1.2.1), (12, .n .i64 x.1.2.2.1), (13, .n .i64 z)], []⟩) (fun x y => match y with | .inl y => (.ret, ⟨[(4, .b false)], []⟩) | .inr y => ((.exit 0), ⟨[], []⟩)) (fun t => (prjS tab 0 fn4_s0 t).bind fun x => some x.1.2.2.2.1) (fun e t => (if eqE e .ret then yv555 ((prjS tab 0 ⟨[(4, .g (.f (.cb false)))], []⟩ t).bind fun v => some (.inl ())) (if eqE e (.exit 0) then (prjS tab 0 ⟨[], []⟩ t).bind fun v => some (.inr ()) else none) else (if eqE e (.exit 0) then (prjS tab 0 ⟨[], []⟩ t).bind fun v => some (.inr ()) else none))) (fun x => by kernel_rfl) (fun x z => by kernel_rfl) (fun x y k => by rcases y with y | y <;> kernel_rfl) (fun x y => by rcases y with y | y <;> exact nofun) (fun x z => by kernel_rfl) (fun x y => by rcases y with y | y <;> kernel_rfl) (fun x z k => by kernel_rfl)
def fn4_p : TCode Tb := Dc 26 [cp fn4_q0] 0xecee0018510c8f0319bef46631b10392508a6ecbf4ed6d992c33dcd8d1f0c65499123801e
def fn4_w : Orc Tb := mkOrc (Y := Bool) tab [lS 4, lS 4] [] (fun x h => fn4 x.1 x.2.1) (fun _ y k => k (.b y) [])
theorem fn4_k : WK fn4_w 104 := orcD (Y := Bool) (c := fn4_p) (res := [.tmp 4]) (n := 26) (R := (RSp.one (Y := Bool) tab (bS) [] (fun a b => a) (fun y => y) (fun y => ()))) fn4_rk oneD Tryz.func104 dK
def fn84_r : Orcs Tb := [(104, fn4_w)]
theorem fn84_rk : RK fn84_r := (yv739 fn4_k yv763)
def fn84_p : TCode Tb := Dc 8 [] 0x2100001201d8f84004027c3801e
def fn84_w : Orc Tb := mkOrc (Y := Bool) tab [lS 4, lS 4] [] (fun x h => fn84 x.1 x.2.1) (fun _ y k => k (.b y) [])
theorem fn84_k : WK fn84_w 62 := orcD (Y := Bool) (c := fn84_p) (res := [.tmp 4]) (n := 8) (R := (RSp.one (Y := Bool) tab (bS) [] (fun a b => a) (fun y => y) (fun y => ()))) fn84_rk oneD Tryz.func62 dK
def fn68_r : Orcs Tb := [(59, fn31_w), (60, fn2_w), (61, fn10_w), (62, fn84_w)]
theorem fn68_rk : RK fn68_r := (yv739 fn31_k (yv739 fn2_k (yv739 fn10_k (yv739 fn84_k yv763))))
def fn68_p : TCode Tb := Dc 38 [] 0xa6b520b6411289745fcd3e78aa3a7ba29ecae29ef590db2a0c64933d2918c7e5376cdc1eed98884e80cdb31da2e095e41dfec80cf94fa112b223c574a99d7bdcc763e761078d3ae10bc44bd1338931720c37ad711f2863b1f57003f86ff068dede7e7f528045283ce8981ec1c01ca769b39a9802d258b9f68683af1b5590068a20c3e
def fn68_w : Orc Tb := mkOrc (Y := Bool) tab [.g (.st 6), .g (.st 6)] [] (fun x h => fn68 (x.1 : fn54) (x.2.1 : fn54)) (fun _ y k => k (.b y) [])
theorem fn68_k : WK fn68_w 22 := orcD (Y := Bool) (c := fn68_p) (res := [.tmp 4]) (n := 38) (R := (RSp.one (Y := Bool) tab (bS) [] (fun a b => a) (fun y => y) (fun y => ()))) fn68_rk oneD Tryz.func22 dK
def fn23_w : Orc Tb := mkOrc (Y := Bool) tab [sS] [] (fun x h => fn23 x.1) (fun _ y k => k (.b y) [])
theorem fn23_k : WK fn23_w 115 := yv552 tabOk (by kernel_rfl) (fun _ h => h.1) Tryz.utf8_ValidString
def fn24_w : Orc Tb := mkOrc (Y := Bool) tab [sS, sS] [] (fun x h => fn24 x.1 x.2.1) (fun _ y k => k (.b y) [])
theorem fn24_k : WK fn24_w 116 := yv687 tabOk (by kernel_rfl) Tryz.strings_Contains_one
def fn85_r : Orcs Tb := [(115, fn23_w), (116, fn24_w)]
theorem fn85_rk : RK fn85_r := (yv739 fn23_k (yv739 fn24_k yv763))
def fn85_p : TCode Tb := Dc 15 [] 0x666283f9708bf84ab1329425b963d882802cded88b2419840193ab6798900029dba359dd300e1c043801e
def fn85_w : Orc Tb := mkOrc (Y := Bool) tab [sS] [] (fun x h => fn85 x.1) (fun _ y k => k (.b y) [])
theorem fn85_k : WK fn85_w 83 := orcD (Y := Bool) (c := fn85_p) (res := [.tmp 2]) (n := 15) (R := (RSp.one (Y := Bool) tab (bS) [] (fun a b => a) (fun y => y) (fun y => ()))) fn85_rk oneD Tryz.func83 dK
def fn56_r : Orcs Tb := [(83, fn85_w)]
theorem fn56_rk : RK fn56_r := (yv739 fn85_k yv763)
def fn56_p0 : TCode Tb := Dc 33 [] 0x7ac7f08a89926effdd6171270cd77fa9dd7e705475c095f53c58697cabdd9e172264786e3a13f0382d6dd7cff047512d1e
def fn56_s0 : SSh := ⟨[(1, rS 0 0), (13, wS 8), (14, iS), (15, iS)], [hS1]⟩
def fn56_o0 : Cut Tb := cutL tab 0 fn56_s0 (fun x => x.1.2.2.2.1) (fun x => fn56_l0 x.1.2.1 x.1.2.2.1) (fun _ x y k => match y with | .inl y => k .ret ⟨[(2, .b false)], [(injL tab hS1 x.2.1)]⟩ | .inr y => k (.exit 0) ⟨[(1, .ref 0 0)], [(injL tab hS1 x.2.1)]⟩)
theorem fn56_q0 : CK fn56_o0 0 (.loop fn56_p0) := yv772 (c := fn56_p0) (Z := Int) (Y := Unit ⊕ Unit) tabOk fn56_rk dK (fun _ x z b e => fn56_b0 x.1.2.1 x.1.2.2.1 z (fun x4 => b x4) (e (.inl ())) (e (.inr ()))) (fun x z => ⟨[(1, .ref 0 0), (13, .ow 8 x.1.2.1), (14, .n .i64 x.1.2.2.1), (15, .n .i64 z)], [(injL tab hS1 x.2.1)]⟩) (fun x y => match y with | .inl y => (.ret, ⟨[(2, .b false)], [(injL tab hS1 x.2.1)]⟩) | .inr y => ((.exit 0), ⟨[(1, .ref 0 0)], [(injL tab hS1 x.2.1)]⟩)) (fun t => (prjS tab 0 fn56_s0 t).bind fun x => some x.1.2.2.2.1) (fun e t => (if eqE e .ret then yv555 ((prjS tab 0 ⟨[(2, .g (.f (.cb false)))], [hS1]⟩ t).bind fun v => some (.inl ())) (if eqE e (.exit 0) then (prjS tab 0 ⟨[(1, rS 0 0)], [hS1]⟩ t).bind fun v => some (.inr ()) else none) else (if eqE e (.exit 0) then (prjS tab 0 ⟨[(1, rS 0 0)], [hS1]⟩ t).bind fun v => some (.inr ()) else none))) (fun x => by kernel_rfl) (fun x z => by kernel_rfl) (fun x y k => by rcases y with y | y <;> kernel_rfl) (fun x y => by rcases y with y | y <;> exact nofun) (fun x z => by kernel_rfl) (fun x y => by rcases y with y | y <;> kernel_rfl) (fun x z k => by kernel_rfl)
def fn56_p : TCode Tb := Dc 33 [cp fn56_q0] 0x34475b2c07233baceaa7347b0567a3f4ea177842bc6f994cc7d9ea16a8ac7e4e1dafa69ff1f661703ee6aa1bd8882831f6700c27e8c0a8f4d7c73c2752903c1be318000c2e
def fn56_w : Orc Tb := mkOrc (Y := Bool) tab [.g (.st 6)] [] (fun x h => fn56 (x.1 : fn54)) (fun _ y k => k (.b y) [])
theorem fn56_k : WK fn56_w 41 := orcD (Y := Bool) (c := fn56_p) (res := [.tmp 2]) (n := 33) (R := (RSp.one (Y := Bool) tab (bS) [] (fun a b => a) (fun y => y) (fun y => ()))) fn56_rk oneD Tryz.func41 dK
def fn44_r : Orcs Tb := []
theorem fn44_rk : RK fn44_r := yv763
def fn44_p1 : TCode Tb := Dc 43 [] 0x20d42e5da052957f3a22476f16f175828cffd8a651fe6ef7a9bdd7c0ce098fe31fa1664752a503d965e7e56573069e928f1dad8d6e4413f01ef7e22c51af74df7060b3e8815
def fn44_s1 : SSh := ⟨[(1, lS 9), (2, lS 9), (6, rS 0 0), (7, u8S), (25, bS)], [[iS, wS 9]]⟩
def fn44_o1 : Cut Tb := cutJ tab 0 fn44_s1 (fun _ x k => fn44_c1 x.1.1 x.1.2.1 x.1.2.2.2.1 x.1.2.2.2.2.1 (fun y15 => k .ret ⟨[(6, .ref 0 0), (31, .sl 9 x.1.1)], [[.n .i64 1, .sl 9 y15]]⟩) (fun y16 => k .ret ⟨[(6, .ref 0 0)], [[.n .i64 y16.kind, .sl 9 y16.kinds]]⟩) (k .normal ⟨[(6, .ref 0 0)], [[.n .i64 x.2.1.1, .ow 9 x.2.1.2.1]]⟩))
theorem fn44_q1 : CK fn44_o1 0 fn44_p1 := cutJD fn44_rk dK
def fn44_p0 : TCode Tb := Dc 43 [cp fn44_q1] 0x47b1d514bf4d38ae4eb6d454a770e8584e2ab59a804cf1f398d86b839bdfd78039a473bdf5539357e0c2bf9f1137aebb2b58930119c948fcf28107415fe016a5fbdf342ce050ca64cc97263d8931df71e7f1c542d5dad707196d5b31dad785
def fn44_s0 : SSh := ⟨[(1, lS 9), (2, lS 9), (6, rS 0 0), (7, u8S), (16, bS)], [[iS, wS 9]]⟩
def fn44_o0 : Cut Tb := cutJ tab 0 fn44_s0 (fun _ x k => fn44_c0 x.1.1 x.1.2.1 x.1.2.2.2.1 x.1.2.2.2.2.1 (fun y27 => k .ret ⟨[(6, .ref 0 0)], [[.n .i64 y27.kind, .sl 9 y27.kinds]]⟩) (fun y28 => k .ret ⟨[(6, .ref 0 0), (31, .sl 9 x.1.1)], [[.n .i64 1, .sl 9 y28]]⟩) (k .normal ⟨[(6, .ref 0 0)], [[.n .i64 x.2.1.1, .ow 9 x.2.1.2.1]]⟩))
theorem fn44_q0 : CK fn44_o0 0 fn44_p0 := cutJD fn44_rk dK
def fn44_p : TCode Tb := Dc 43 [cp fn44_q0] 0x10d662fd2e292f5d154479976aad2cf216e8ba74955f1e736a1c521d04cdd8f9f257039f2141bc668648155d3d2a866049740467e519a2c1ecd04b6fe4a50f2cbdcd927fd733cdb7b9bea359af8a68ca09ab704b06171bffbb8cf5edd82022893913a1e
def fn44_w : Orc Tb := mkOrc (Y := fn154) tab [u8S, lS 9, lS 9] [] (fun x h => fn44 x.1 x.2.1 x.2.2.1) (fun _ y k => k (.agg [.n .i64 y.kind, .sl 9 y.kinds]) [])
theorem fn44_k : WK fn44_w 146 := orcD (Y := fn154) (c := fn44_p) (res := [.cell 6 (some 2)]) (n := 43) (R := (RSp.one (Y := fn154) tab (.g (.st 10)) [] (fun a b => (⟨a.kind, a.kinds⟩ : fn154)) (fun y => (⟨y.kind, y.kinds⟩ : fn154)) (fun y => ()))) fn44_rk oneD Tryz.func146 dK
def fn86_r : Orcs Tb := [(146, fn44_w)]
theorem fn86_rk : RK fn86_r := (yv739 fn44_k yv763)
def fn86_p0 : TCode Tb := Dc 90 [] 0x2bc467dedc89df7b0c49a2e7f0029ad165f453360065fb726f9ab327c6aff723271e0967b2b6be5da97fa8493b967346b8d1a3d02409d084ade9fa6f8da41202e3
def fn86_s0 : SSh := ⟨[(0, u8S), (2, rS 0 0), (3, wS 9), (4, wS 9), (5, wS 9), (6, iS)], [[iS, wS 9]]⟩
def fn86_o0 : Cut Tb := cutL tab 0 fn86_s0 (fun x => (x.1.2.2.2.2.1, x.1.2.2.2.2.2.1)) (fun x => fn86_l0) (fun _ x y k => k (.exit 0) ⟨[(0, .u8 x.1.1), (2, .ref 0 0), (3, .ow 9 x.1.2.2.1), (4, .ow 9 x.1.2.2.2.1), (5, .ow 9 y)], [[.n .i64 x.2.1.1, .ow 9 x.2.1.2.1]]⟩)
theorem fn86_q0 : CK fn86_o0 0 (.loop fn86_p0) := cutLD (Z := (Option (List Int)) × Int) (Y := (Option (List Int))) fn86_rk dK (fun _ x z b e => fn86_b0 z.1 z.2 (fun x5 x6 => b (x5, x6)) (fun y9 => e y9)) (fun x z => ⟨[(0, .u8 x.1.1), (2, .ref 0 0), (3, .ow 9 x.1.2.2.1), (4, .ow 9 x.1.2.2.2.1), (5, .ow 9 z.1), (6, .n .i64 z.2)], [[.n .i64 x.2.1.1, .ow 9 x.2.1.2.1]]⟩) (fun x y => ((.exit 0), ⟨[(0, .u8 x.1.1), (2, .ref 0 0), (3, .ow 9 x.1.2.2.1), (4, .ow 9 x.1.2.2.2.1), (5, .ow 9 y)], [[.n .i64 x.2.1.1, .ow 9 x.2.1.2.1]]⟩)) (fun t => (prjS tab 0 fn86_s0 t).bind fun x => some (x.1.2.2.2.2.1, x.1.2.2.2.2.2.1)) (fun e t => (if eqE e (.exit 0) then (prjS tab 0 ⟨[(0, u8S), (2, rS 0 0), (3, wS 9), (4, wS 9), (5, wS 9)], [[iS, wS 9]]⟩ t).bind fun v => some v.1.2.2.2.2.1 else none))
def fn86_p3 : TCode Tb := Dc 90 [] 0x11b0e9a2fac8616a865444f7c573d58858f77975745ccdf63af590857a62cce205ba2f709fac1a72e57f596f707132ce70c01830733b5
def fn86_s3 : SSh := ⟨[(0, u8S), (2, rS 0 0), (3, wS 9), (4, wS 9), (5, wS 9), (24, u8S), (75, bS)], [[iS, wS 9]]⟩
def fn86_o3 : Cut Tb := cutJ tab 0 fn86_s3 (fun _ x k => fn86_c3 x.1.2.2.1 x.1.2.2.2.1 x.1.2.2.2.2.2.1 x.1.2.2.2.2.2.2.1 (fun y39 => k .ret ⟨[(2, .ref 0 0), (78, .ow 9 x.1.2.2.2.1)], [[.n .i64 1, .sl 9 y39]]⟩) (fun y40 => k .ret ⟨[(2, .ref 0 0), (83, .ow 9 x.1.2.2.1)], [[.n .i64 3, .sl 9 y40]]⟩) (k .normal ⟨[(0, .u8 x.1.1), (2, .ref 0 0), (4, .ow 9 x.1.2.2.2.1), (5, .ow 9 x.1.2.2.2.2.1)], [[.n .i64 x.2.1.1, .ow 9 x.2.1.2.1]]⟩))
theorem fn86_q3 : CK fn86_o3 0 fn86_p3 := cutJD fn86_rk dK
def fn86_p2 : TCode Tb := Dc 90 [cp fn86_q3] 0x13ef4f25752e70b49a58beac30410f689a384cfc69fdcb27564a8e706bef93f10ddc7ccb1cdc2581c9ce0147ad1db03ffb47e741f1dc4c612fcf7593a91c8936aadb5c6359b407771161c44298d79104671b43c469a1c1140eab5a51d7a80d490abd42a279eb6367155374d4b5d130d9340755e821a128b97836ba9b3df8101e215ec39f3bd93ab0fa9b906d913245
def fn86_s2 : SSh := ⟨[(0, u8S), (2, rS 0 0), (3, wS 9), (4, wS 9), (5, wS 9), (24, u8S), (52, bS)], [[iS, wS 9]]⟩
def fn86_o2 : Cut Tb := cutJ tab 0 fn86_s2 (fun _ x k => fn86_c2 x.1.2.2.1 x.1.2.2.2.1 x.1.2.2.2.2.2.1 x.1.2.2.2.2.2.2.1 (fun y45 => k .ret ⟨[(2, .ref 0 0), (55, .ow 9 x.1.2.2.2.1)], [[.n .i64 5, .sl 9 y45]]⟩) (fun y46 => k .ret ⟨[(2, .ref 0 0), (60, .ow 9 x.1.2.2.2.1)], [[.n .i64 2, .sl 9 y46]]⟩) (fun y47 => k .ret ⟨[(2, .ref 0 0)], [[.n .i64 y47.kind, .sl 9 y47.kinds]]⟩) (fun y48 => k .ret ⟨[(2, .ref 0 0), (78, .ow 9 x.1.2.2.2.1)], [[.n .i64 1, .sl 9 y48]]⟩) (fun y49 => k .ret ⟨[(2, .ref 0 0), (83, .ow 9 x.1.2.2.1)], [[.n .i64 3, .sl 9 y49]]⟩) (k .normal ⟨[(0, .u8 x.1.1), (2, .ref 0 0), (4, .ow 9 x.1.2.2.2.1), (5, .ow 9 x.1.2.2.2.2.1)], [[.n .i64 x.2.1.1, .ow 9 x.2.1.2.1]]⟩))
theorem fn86_q2 : CK fn86_o2 0 fn86_p2 := cutJD fn86_rk dK
def fn86_p1 : TCode Tb := Dc 90 [cp fn86_q2] 0x4e8ca045f4be81cbfdf4b7ee3a02a9df0b8029f45d49f1d36efba38c0c1a06ef35c539c486915ea743ef9642bb1c1b725dd85ba8abf4acdeaed760c31d4c7628303b8a24bcfa7b6e647e81404f40e1b1fbb13b4bc84c851bbbe25d4b2367d392a647ef91d717bc2a31db14f08fa5e2e1d75b8a739f2c19085d0a178388ec13c4c7faa3bd7115
def fn86_s1 : SSh := ⟨[(0, u8S), (2, rS 0 0), (3, wS 9), (4, wS 9), (5, wS 9), (24, u8S), (33, bS)], [[iS, wS 9]]⟩
def fn86_o1 : Cut Tb := cutJ tab 0 fn86_s1 (fun _ x k => fn86_c1 x.1.2.2.1 x.1.2.2.2.1 x.1.2.2.2.2.2.1 x.1.2.2.2.2.2.2.1 (fun y60 => k .ret ⟨[(2, .ref 0 0)], [[.n .i64 y60.kind, .sl 9 y60.kinds]]⟩) (fun y61 => k .ret ⟨[(2, .ref 0 0), (55, .ow 9 x.1.2.2.2.1)], [[.n .i64 5, .sl 9 y61]]⟩) (fun y62 => k .ret ⟨[(2, .ref 0 0), (60, .ow 9 x.1.2.2.2.1)], [[.n .i64 2, .sl 9 y62]]⟩) (fun y63 => k .ret ⟨[(2, .ref 0 0), (78, .ow 9 x.1.2.2.2.1)], [[.n .i64 1, .sl 9 y63]]⟩) (fun y64 => k .ret ⟨[(2, .ref 0 0), (83, .ow 9 x.1.2.2.1)], [[.n .i64 3, .sl 9 y64]]⟩) (k .normal ⟨[(0, .u8 x.1.1), (2, .ref 0 0), (4, .ow 9 x.1.2.2.2.1), (5, .ow 9 x.1.2.2.2.2.1)], [[.n .i64 x.2.1.1, .ow 9 x.2.1.2.1]]⟩))
theorem fn86_q1 : CK fn86_o1 0 fn86_p1 := cutJD fn86_rk dK
def fn86_p4 : TCode Tb := Dc 90 [] 0x7d40a44ad84ca334a39d18c32a562005f
def fn86_s4 : SSh := ⟨[(0, u8S), (2, rS 0 0), (4, wS 9), (5, wS 9)], [[iS, wS 9]]⟩
def fn86_o4 : Cut Tb := cutJ tab 0 fn86_s4 (fun _ x k => fn86_c4 x.1.1 x.1.2.2.1 x.1.2.2.2.1 (fun y80 => k .ret ⟨[(2, .ref 0 0)], [[.n .i64 y80.kind, .sl 9 y80.kinds]]⟩))
theorem fn86_q4 : CK fn86_o4 0 fn86_p4 := cutJD fn86_rk dK
def fn86_p : TCode Tb := Dc 90 [cp fn86_q0, cp fn86_q1, cp fn86_q4] 0xb870c44bea8e0abdd63a6eb801cae87daa5093ab7cc10a21a1a1e9071395495371224b0953e7a20fb2892f4246ea6908e30a2ec7fc3d1db21661dce696b8ac4c56d3573592a7ff1c7b8d7d368ee152f2df161a14367fbe85d102e01a8b5f17cd7d75a3fbcef4681411f57113a1e
def fn86_w : Orc Tb := mkOrc (Y := fn154) tab [u8S] [] (fun x h => fn86 x.1) (fun _ y k => k (.agg [.n .i64 y.kind, .sl 9 y.kinds]) [])
theorem fn86_k : WK fn86_w 121 := orcD (Y := fn154) (c := fn86_p) (res := [.cell 2 (some 2)]) (n := 90) (R := (RSp.one (Y := fn154) tab (.g (.st 10)) [] (fun a b => (⟨a.kind, a.kinds⟩ : fn154)) (fun y => (⟨y.kind, y.kinds⟩ : fn154)) (fun y => ()))) fn86_rk oneD Tryz.func121 dK
def fn107_r : Orcs Tb := [(121, fn86_w)]
theorem fn107_rk : RK fn107_r := (yv739 fn86_k yv763)
def fn107_p : TCode Tb := Dc 6 [] 0x660000d5c00c17b7a181dc3a01e
def fn107_w : Orc Tb := mkOrc (Y := Int) tab [u8S] [] (fun x h => fn107 x.1) (fun _ y k => k (.n .i64 y) [])
theorem fn107_k : WK fn107_w 118 := orcD (Y := Int) (c := fn107_p) (res := [.tmp 2]) (n := 6) (R := (RSp.one (Y := Int) tab (iS) [] (fun a b => a) (fun y => y) (fun y => ()))) fn107_rk oneD Tryz.func118 dK
def fn87_r : Orcs Tb := [(118, fn107_w), (83, fn85_w)]
theorem fn87_rk : RK fn87_r := (yv739 fn107_k (yv739 fn85_k yv763))
def fn87_p0 : TCode Tb := Dc 86 [] 0x159938c3b5197e33a9954b98deaa9e20eea2b754d1cdec406b6538dab9aa56fa563078c339b35c545ae8514f85a05e18a904c60b5f661ba8f02c0d2933fea9326ccb71cf75d3f02bebc93ba4916cce679fd81dfc6bd6e1cfac576525ebdb7bf7e71140e527f24293dfc985a94924ca4d9c58df4c05843c4fa496e96fdd6223f19e43125d85572e02a169a6c8953df4d46d26c3338bbf746a69764633216f2e0cfd2d46c3c75d4c325a713c3ffeac093aa5700b3e3c7ba69024f4f9e3089cc94e94594909050747c64e76d7c6c9deaf96d5502ccb3408ddfa482e7619aa8571db4c3fc764da076c387f46ff4a19b0901195a93ca9159d84aef0091e3bb7261f3852ee81081701095ebfd78e70bccd61760cd4db23809a81477d80c71748ed2e0e00ab99cd9f79a55ba37b7e9e24ef253e3
def fn87_s0 : SSh := ⟨[(1, rS 0 0), (3, bS), (4, bS)], [[u8S, u32S, sS, sS]]⟩
def fn87_o0 : Cut Tb := cutJ tab 0 fn87_s0 (fun _ x k => fn87_c0 x.1.2.1 x.1.2.2.1 (tabBk 4 x.2.1 : fn132) (fun y9 => k .ret ⟨[(2, .b y9)], [[.u8 x.2.1.1, .u32 x.2.1.2.1, .s x.2.1.2.2.1, .s x.2.1.2.2.2.1]]⟩))
theorem fn87_q0 : CK fn87_o0 0 fn87_p0 := cutJD fn87_rk dK
def fn87_p : TCode Tb := Dc 86 [cp fn87_q0] 0xeb2b1d574ae30b4662c6565b952144ca933bfdd37c8b7bf34b4001ab493dc4ea3ad0db3784402c76eaef29e9cf371dd318000c2e
def fn87_w : Orc Tb := mkOrc (Y := Bool) tab [.g (.st 4)] [] (fun x h => fn87 (x.1 : fn132)) (fun _ y k => k (.b y) [])
theorem fn87_k : WK fn87_w 117 := orcD (Y := Bool) (c := fn87_p) (res := [.tmp 2]) (n := 86) (R := (RSp.one (Y := Bool) tab (bS) [] (fun a b => a) (fun y => y) (fun y => ()))) fn87_rk oneD Tryz.func117 dK
def fn17_w : Orc Tb := mkOrc (Y := Bool) tab [sS, sS] [] (fun x h => fn17 x.1 x.2.1) (fun _ y k => k (.b y) [])
theorem fn17_k : WK fn17_w 159 := yv551 tabOk (by kernel_rfl) Tryz.strings_ContainsAny
def fn88_r : Orcs Tb := [(159, fn17_w)]
theorem fn88_rk : RK fn88_r := (yv739 fn17_k yv763)
def fn88_p : TCode Tb := Dc 5 [] 0xaa001b4a4141b7fb1413d3801e
def fn88_w : Orc Tb := mkOrc (Y := Bool) tab [sS] [] (fun x h => fn88 x.1) (fun _ y k => k (.b y) [])
theorem fn88_k : WK fn88_w 144 := orcD (Y := Bool) (c := fn88_p) (res := [.tmp 2]) (n := 5) (R := (RSp.one (Y := Bool) tab (bS) [] (fun a b => a) (fun y => y) (fun y => ()))) fn88_rk oneD Tryz.func144 dK
def fn89_r : Orcs Tb := [(83, fn85_w), (144, fn88_w)]
theorem fn89_rk : RK fn89_r := (yv739 fn85_k (yv739 fn88_k yv763))
def fn89_p : TCode Tb := Dc 14 [] 0x297be091fee671a238e5b58eb2ba2b27bf00628bc75be2983e8ebe400012da8a870fc19463801e
def fn89_w : Orc Tb := mkOrc (Y := Bool) tab [sS] [] (fun x h => fn89 x.1) (fun _ y k => k (.b y) [])
theorem fn89_k : WK fn89_w 119 := orcD (Y := Bool) (c := fn89_p) (res := [.tmp 2]) (n := 14) (R := (RSp.one (Y := Bool) tab (bS) [] (fun a b => a) (fun y => y) (fun y => ()))) fn89_rk oneD Tryz.func119 dK
def fn90_r : Orcs Tb := [(117, fn87_w), (118, fn107_w), (119, fn89_w)]
theorem fn90_rk : RK fn90_r := (yv739 fn87_k (yv739 fn107_k (yv739 fn89_k yv763)))
def fn90_p0 : TCode Tb := Dc 38 [] 0xcc4c0c3804a658ab7e548a35abd651f3371bfdcb86913a4a2dee20775d51854c98845c7a5e8d627d99f5
def fn90_s0 : SSh := ⟨[(1, rS 0 0), (15, bS)], [[u8S, u32S, sS, sS]]⟩
def fn90_o0 : Cut Tb := cutJ tab 0 fn90_s0 (fun _ x k => fn90_c0 x.1.2.1 (tabBk 4 x.2.1 : fn132) (fun y7 => k .ret ⟨[(2, .b y7)], [[.u8 x.2.1.1, .u32 x.2.1.2.1, .s x.2.1.2.2.1, .s x.2.1.2.2.2.1]]⟩) (k .normal ⟨[], [[.u8 x.2.1.1, .u32 x.2.1.2.1, .s x.2.1.2.2.1, .s x.2.1.2.2.2.1]]⟩))
theorem fn90_q0 : CK fn90_o0 0 fn90_p0 := cutJD fn90_rk dK
def fn90_p : TCode Tb := Dc 38 [cp fn90_q0] 0x10f96c4ee33eaa9ea6a0c79923dcb06edf6f31e505fa3f92c4b7aa49f1a6631f3e72ee8e71ffd5260b4189bcf6f9f6c62e31f375c7fdde60b691197e77768ceda5b75f8431da4277e60671d02161ea791ea1e3e1cf20c828469e94bef983c94ec4019625aee24fc7901e4e06318000c2e
def fn90_w : Orc Tb := mkOrc (Y := Bool) tab [.g (.st 4)] [] (fun x h => fn90 (x.1 : fn132)) (fun _ y k => k (.b y) [])
theorem fn90_k : WK fn90_w 84 := orcD (Y := Bool) (c := fn90_p) (res := [.tmp 2]) (n := 38) (R := (RSp.one (Y := Bool) tab (bS) [] (fun a b => a) (fun y => y) (fun y => ()))) fn90_rk oneD Tryz.func84 dK
def fn15_r : Orcs Tb := []
theorem fn15_rk : RK fn15_r := yv763
def fn15_p0 : TCode Tb := Dc 19 [] 0x344772ffc73b443f46a9e6b011a5e5090287b3ceecfb6713c8ab5c77ff28739f28435c7b78b388ffacd08411ad9e736cc77c1272d1e
def fn15_s0 : SSh := ⟨[(0, lS 9), (1, iS), (7, iS), (8, iS)], []⟩
def fn15_o0 : Cut Tb := cutL tab 0 fn15_s0 (fun x => x.1.2.2.2.1) (fun x => fn15_l0 x.1.1 x.1.2.1 x.1.2.2.1) (fun _ x y k => match y with | .inl y => k .ret ⟨[(4, .n .i64 y)], []⟩ | .inr y => k (.exit 0) ⟨[], []⟩)
theorem fn15_q0 : CK fn15_o0 0 (.loop fn15_p0) := yv772 (c := fn15_p0) (Z := Int) (Y := Int ⊕ Unit) tabOk fn15_rk dK (fun _ x z b e => fn15_b0 x.1.1 x.1.2.1 x.1.2.2.1 z (fun x6 => b x6) (fun y8 => e (.inl y8)) (e (.inr ()))) (fun x z => ⟨[(0, .sl 9 x.1.1), (1, .n .i64 x.1.2.1), (7, .n .i64 x.1.2.2.1), (8, .n .i64 z)], []⟩) (fun x y => match y with | .inl y => (.ret, ⟨[(4, .n .i64 y)], []⟩) | .inr y => ((.exit 0), ⟨[], []⟩)) (fun t => (prjS tab 0 fn15_s0 t).bind fun x => some x.1.2.2.2.1) (fun e t => (if eqE e .ret then yv555 ((prjS tab 0 ⟨[(4, iS)], []⟩ t).bind fun v => some (.inl v.1.1)) (if eqE e (.exit 0) then (prjS tab 0 ⟨[], []⟩ t).bind fun v => some (.inr ()) else none) else (if eqE e (.exit 0) then (prjS tab 0 ⟨[], []⟩ t).bind fun v => some (.inr ()) else none))) (fun x => by kernel_rfl) (fun x z => by kernel_rfl) (fun x y k => by rcases y with y | y <;> kernel_rfl) (fun x y => by rcases y with y | y <;> exact nofun) (fun x z => by kernel_rfl) (fun x y => by rcases y with y | y <;> kernel_rfl) (fun x z k => by kernel_rfl)
def fn15_p : TCode Tb := Dc 19 [cp fn15_q0] 0x843b6cf0f76248ab7a9ec4317649dd3a01e
def fn15_w : Orc Tb := mkOrc (Y := Int) tab [lS 9, iS] [] (fun x h => fn15 x.1 x.2.1) (fun _ y k => k (.n .i64 y) [])
theorem fn15_k : WK fn15_w 145 := orcD (Y := Int) (c := fn15_p) (res := [.tmp 4]) (n := 19) (R := (RSp.one (Y := Int) tab (iS) [] (fun a b => a) (fun y => y) (fun y => ()))) fn15_rk oneD Tryz.func145 dK
def fn13_r : Orcs Tb := [(145, fn15_w)]
theorem fn13_rk : RK fn13_r := (yv739 fn15_k yv763)
def fn13_p : TCode Tb := Dc 9 [] 0x129007500e101442ff374804835b3801e
def fn13_w : Orc Tb := mkOrc (Y := Bool) tab [lS 9, iS] [] (fun x h => fn13 x.1 x.2.1) (fun _ y k => k (.b y) [])
theorem fn13_k : WK fn13_w 120 := orcD (Y := Bool) (c := fn13_p) (res := [.tmp 4]) (n := 9) (R := (RSp.one (Y := Bool) tab (bS) [] (fun a b => a) (fun y => y) (fun y => ()))) fn13_rk oneD Tryz.func120 dK
def fn133_r : Orcs Tb := [(121, fn86_w), (120, fn13_w)]
theorem fn133_rk : RK fn133_r := (yv739 fn86_k (yv739 fn13_k yv763))
def fn133_p : TCode Tb := Dc 10 [] 0x14a0000b4b3b9b3c00164e014278765045a3801e
def fn133_w : Orc Tb := mkOrc (Y := Bool) tab [u8S, iS] [] (fun x h => fn133 x.1 x.2.1) (fun _ y k => k (.b y) [])
theorem fn133_k : WK fn133_w 85 := orcD (Y := Bool) (c := fn133_p) (res := [.tmp 4]) (n := 10) (R := (RSp.one (Y := Bool) tab (bS) [] (fun a b => a) (fun y => y) (fun y => ()))) fn133_rk oneD Tryz.func85 dK
def fn91_r : Orcs Tb := [(85, fn133_w)]
theorem fn91_rk : RK fn91_r := (yv739 fn133_k yv763)
def fn91_p : TCode Tb := Dc 20 [] 0x4c6a7a4ffcdc7b0d6199c70000c2757f0e6461f1f558bcb4881f173327531c9e258f7e50370227f8ff28000046568f910e20168331c3801e
def fn91_w : Orc Tb := mkOrc (Y := Bool) tab [u8S, iS] [] (fun x h => fn91 x.1 x.2.1) (fun _ y k => k (.b y) [])
theorem fn91_k : WK fn91_w 86 := orcD (Y := Bool) (c := fn91_p) (res := [.tmp 4]) (n := 20) (R := (RSp.one (Y := Bool) tab (bS) [] (fun a b => a) (fun y => y) (fun y => ()))) fn91_rk oneD Tryz.func86 dK
def fn69_r : Orcs Tb := []
theorem fn69_rk : RK fn69_r := yv763
def fn69_p : TCode Tb := Dc 8 [] 0x19000011040800812af8c0220c2e
def fn69_w : Orc Tb := mkOrc (Y := Bool × UInt8) tab [.g (.st 4), rS 0 0] [[u8S]] (fun x h => fn69 (x.1 : fn132) h.1.1) (fun _ y k => k (.b y.1) [[.u8 y.2]])
theorem fn69_k : WK fn69_w 123 := orcD (Y := Bool × UInt8) (c := fn69_p) (res := [.tmp 3]) (n := 8) (R := (RSp.one (Y := Bool × UInt8) tab (bS) [[u8S]] (fun a b => (a, b.1.1)) (fun y => y.1) (fun y => ((y.2, ()), ())))) fn69_rk oneD Tryz.func123 dK
def fn3_r : Orcs Tb := [(123, fn69_w)]
theorem fn3_rk : RK fn3_r := (yv739 fn69_k yv763)
def fn3_p0 : TCode Tb := Dc 19 [] 0xd11dcbff1ced10fd1aa79ac0469794240a1ecf3bb3fe238bec72b4b58c13a623c2c69b31c7b78b388ffacd08411ad9e736cc77c1272d1e
def fn3_s0 : SSh := ⟨[(0, lS 4), (1, .g (.clo 123 [] [.ref 0 0])), (7, iS), (8, iS)], [[u8S]]⟩
def fn3_o0 : Cut Tb := cutL tab 1 fn3_s0 (fun x => (x.1.2.2.2.1, x.2.1.1)) (fun x => fn3_l0 x.1.1 x.1.2.2.1) (fun _ x y k => match y with | .inl y => k .ret ⟨[(4, .n .i64 y.1)], [[.u8 y.2]]⟩ | .inr y => k (.exit 0) ⟨[], [[.u8 y]]⟩)
theorem fn3_q0 : CK fn3_o0 1 (.loop fn3_p0) := yv772 (c := fn3_p0) (Z := Int × UInt8) (Y := (Int × UInt8) ⊕ UInt8) tabOk fn3_rk dK (fun _ x z b e => fn3_b0 x.1.1 x.1.2.2.1 z.1 z.2 (fun x5 x6 => b (x5, x6)) (fun y10 y11 => e (.inl (y10, y11))) (fun y12 => e (.inr y12))) (fun x z => ⟨[(0, .sl 4 x.1.1), (1, .clo 123 [] [.ref 0 0]), (7, .n .i64 x.1.2.2.1), (8, .n .i64 z.1)], [[.u8 z.2]]⟩) (fun x y => match y with | .inl y => (.ret, ⟨[(4, .n .i64 y.1)], [[.u8 y.2]]⟩) | .inr y => ((.exit 0), ⟨[], [[.u8 y]]⟩)) (fun t => (prjS tab 1 fn3_s0 t).bind fun x => some (x.1.2.2.2.1, x.2.1.1)) (fun e t => (if eqE e .ret then yv555 ((prjS tab 1 ⟨[(4, iS)], [[u8S]]⟩ t).bind fun v => some (.inl (v.1.1, v.2.1.1))) (if eqE e (.exit 0) then (prjS tab 1 ⟨[], [[u8S]]⟩ t).bind fun v => some (.inr v.2.1.1) else none) else (if eqE e (.exit 0) then (prjS tab 1 ⟨[], [[u8S]]⟩ t).bind fun v => some (.inr v.2.1.1) else none))) (fun x => by kernel_rfl) (fun x z => by kernel_rfl) (fun x y k => by rcases y with y | y <;> kernel_rfl) (fun x y => by rcases y with y | y <;> exact nofun) (fun x z => by kernel_rfl) (fun x y => by rcases y with y | y <;> kernel_rfl) (fun x z k => by kernel_rfl)
def fn3_p : TCode Tb := Dc 19 [cp fn3_q0] 0x843b6cf0f76248ab7a9ec4317649dd3a01e
def fn3_w : Orc Tb := mkOrc (Y := Int × UInt8) tab [lS 4, .g (.clo 123 [] [.ref 0 0])] [[u8S]] (fun x h => fn3 x.1 h.1.1) (fun _ y k => k (.n .i64 y.1) [[.u8 y.2]])
theorem fn3_k : WK fn3_w 122 := orcD (Y := Int × UInt8) (c := fn3_p) (res := [.tmp 4]) (n := 19) (R := (RSp.one (Y := Int × UInt8) tab (iS) [[u8S]] (fun a b => (a, b.1.1)) (fun y => y.1) (fun y => ((y.2, ()), ())))) fn3_rk oneD Tryz.func122 dK
def fn108_r : Orcs Tb := [(122, fn3_w)]
theorem fn108_rk : RK fn108_r := (yv739 fn3_k yv763)
def fn108_p : TCode Tb := Dc 17 [] 0x211fe16dbc5e9a0b7495de44babb574157aacd96822566f31d3ea657ac3c9138b8c27a9a091d8848b798c0c6eb184273bc148c06a5350c3e
def fn108_w : Orc Tb := mkOrc (Y := fn132 × Bool) tab [lS 4, u8S] [] (fun x h => fn108 x.1 x.2.1) (fun _ y k => k (.tup [.agg [.u8 y.1.Id, .u32 y.1.N, .s y.1.A, .s y.1.B], .b y.2]) [])
theorem fn108_k : WK fn108_w 87 := orcD (Y := fn132 × Bool) (c := fn108_p) (res := [.cell 4 (some 4), .tmp 5]) (n := 17) (R := (RSp.one (Y := fn132 × Bool) tab (.tup [.st 4, .f (.a .b)]) [] (fun a b => ((a.1 : fn132), a.2.1)) (fun y => ((y.1 : fn132), y.2, ())) (fun y => ()))) fn108_rk oneD Tryz.func87 dK
def fn70_r : Orcs Tb := [(84, fn90_w), (85, fn133_w), (86, fn91_w), (87, fn108_w)]
theorem fn70_rk : RK fn70_r := (yv739 fn90_k (yv739 fn133_k (yv739 fn91_k (yv739 fn108_k yv763))))
def fn70_s1 : SSh := ⟨[(0, iS), (1, lS 4), (15, lS 4), (16, iS), (17, iS)], []⟩
def fn70_o1 : Cut Tb := cutJ tab 0 fn70_s1 (fun _ x k => k .normal ⟨[(0, .n .i64 x.1.1), (1, .sl 4 x.1.2.1), (15, .sl 4 x.1.2.2.1), (16, .n .i64 x.1.2.2.2.1), (17, .n .i64 x.1.2.2.2.2.1)], []⟩)
theorem fn70_q1 : CK fn70_o1 0 .skip := yv771 (c := .skip) tabOk fn70_rk trivial (fun _ _ => by kernel_rfl)
def fn70_p0 : TCode Tb := Dc 73 [cp fn70_q1] 0x37d0ebdd53fce8e2bea78ec407a5d6577c2484aee851474aaaaeb353c02ff810bc8d727ad4c180af2de01c293f5899e65c9cc12fc43803e9bfc69b14b77a7de576567f21d0964b40faef7da5e0fae6b725fad295d37ebd551550438271ec90f1bb69e48ed97ecb6d673667b25a0cc46600cc2dca5b2618fe9e97c3f359699016d47aa67384a5c003ae16ca93a971313bc4d7e2c82d8371ad0b3d0eda60348d52000b62032fc6b80b22672b82d971128217739ac8ba658b0c9d58027e652d1e0a
def fn70_s0 : SSh := ⟨[(0, iS), (1, lS 4), (15, lS 4), (16, iS), (17, iS)], []⟩
def fn70_o0 : Cut Tb := cutL tab 0 fn70_s0 (fun x => x.1.2.2.2.2.1) (fun x => fn70_l0 x.1.1 x.1.2.1 x.1.2.2.1 x.1.2.2.2.1) (fun _ x y k => match y with | .inl y => k .ret ⟨[(4, .b false)], [[.u8 y.Id, .u32 y.N, .s y.A, .s y.B]]⟩ | .inr y => k (.exit 0) ⟨[(1, .sl 4 x.1.2.1)], []⟩)
theorem fn70_q0 : CK fn70_o0 0 (.loop fn70_p0) := yv772 (c := fn70_p0) (Z := Int) (Y := fn132 ⊕ Unit) tabOk fn70_rk dK (fun _ x z b e => fn70_b0 x.1.1 x.1.2.1 x.1.2.2.1 x.1.2.2.2.1 z (fun x7 => b x7) (fun y18 => e (.inl y18)) (e (.inr ()))) (fun x z => ⟨[(0, .n .i64 x.1.1), (1, .sl 4 x.1.2.1), (15, .sl 4 x.1.2.2.1), (16, .n .i64 x.1.2.2.2.1), (17, .n .i64 z)], []⟩) (fun x y => match y with | .inl y => (.ret, ⟨[(4, .b false)], [[.u8 y.Id, .u32 y.N, .s y.A, .s y.B]]⟩) | .inr y => ((.exit 0), ⟨[(1, .sl 4 x.1.2.1)], []⟩)) (fun t => (prjS tab 0 fn70_s0 t).bind fun x => some x.1.2.2.2.2.1) (fun e t => (if eqE e .ret then yv555 ((prjS tab 0 ⟨[(4, .g (.f (.cb false)))], [[u8S, u32S, sS, sS]]⟩ t).bind fun v => some (.inl (tabBk 4 v.2.1 : fn132))) (if eqE e (.exit 0) then (prjS tab 0 ⟨[(1, lS 4)], []⟩ t).bind fun v => some (.inr ()) else none) else (if eqE e (.exit 0) then (prjS tab 0 ⟨[(1, lS 4)], []⟩ t).bind fun v => some (.inr ()) else none))) (fun x => by kernel_rfl) (fun x z => by kernel_rfl) (fun x y k => by rcases y with y | y <;> kernel_rfl) (fun x y => by rcases y with y | y <;> exact nofun) (fun x z => by kernel_rfl) (fun x y => by rcases y with y | y <;> kernel_rfl) (fun x z k => by kernel_rfl)
def fn70_p : TCode Tb := Dc 73 [cp fn70_q0] 0xff15216a208a48ded9446f693230356445891f80cb0412c83f41f4441da80f1d57342274d0bdcf457bdab2016d044f8b75dcae6f368645516ec93e0d63acf6f442a99982c924358cd5fceb4df0ee3de1e895bb16a965738a3a39ca29b9e0e9350d1069a3631bbf3801e
def fn70_w : Orc Tb := mkOrc (Y := Bool) tab [iS, lS 4] [] (fun x h => fn70 x.1 x.2.1) (fun _ y k => k (.b y) [])
theorem fn70_k : WK fn70_w 42 := orcD (Y := Bool) (c := fn70_p) (res := [.tmp 4]) (n := 73) (R := (RSp.one (Y := Bool) tab (bS) [] (fun a b => a) (fun y => y) (fun y => ()))) fn70_rk oneD Tryz.func42 dK
def fn32_r : Orcs Tb := [(119, fn89_w)]
theorem fn32_rk : RK fn32_r := (yv739 fn89_k yv763)
def fn32_p0 : TCode Tb := Dc 38 [] 0x4631513bdbd932004c57bd0025b4e598ce99f89898a8028bc53dc629f39c33f3c54029f5ceda66be87f9d371d54b332b56c28573beec85237628bb5b236da80024385e2002de
def fn32_s0 : SSh := ⟨[(0, iS), (3, rS 0 0)], [hS1]⟩
def fn32_o0 : Cut Tb := cutJ tab 0 fn32_s0 (fun _ x k => fn32_c0 x.1.1 (tabBk 6 x.2.1 : fn54) (fun y6 => k .ret ⟨[(4, .b y6)], [(injL tab hS1 x.2.1)]⟩))
theorem fn32_q0 : CK fn32_o0 0 fn32_p0 := cutJD fn32_rk dK
def fn32_p : TCode Tb := Dc 38 [cp fn32_q0] 0x3a6c523270ab663351ea9b0a99aeaf59495030e0d040a87292f7173f5869008503de09d5dde91451798b1e2af6bc6220006c6da41f494f3676f0c2e
def fn32_w : Orc Tb := mkOrc (Y := Bool) tab [iS, .g (.st 6)] [] (fun x h => fn32 x.1 (x.2.1 : fn54)) (fun _ y k => k (.b y) [])
theorem fn32_k : WK fn32_w 88 := orcD (Y := Bool) (c := fn32_p) (res := [.tmp 4]) (n := 38) (R := (RSp.one (Y := Bool) tab (bS) [] (fun a b => a) (fun y => y) (fun y => ()))) fn32_rk oneD Tryz.func88 dK
def fn45_r : Orcs Tb := []
theorem fn45_rk : RK fn45_r := yv763
def fn45_p0 : TCode Tb := Dc 17 [] 0x7bfccafa6237fb6dffd15f9f601a89567e54909b244e4b0dc28f8f117fcd6461baf5
def fn45_s0 : SSh := ⟨[(3, iS), (7, bS)], []⟩
def fn45_o0 : Cut Tb := cutJ tab 0 fn45_s0 (fun _ x k => fn45_c0 x.1.1 x.1.2.1 (fun y4 => k .ret ⟨[(2, .bo y4)], []⟩) (k .normal ⟨[], []⟩))
theorem fn45_q0 : CK fn45_o0 0 fn45_p0 := cutJD fn45_rk dK
def fn45_p : TCode Tb := Dc 17 [cp fn45_q0] 0x904e5c2b9a7052f31a62c86b704d75c355788daaf0796ce1f8910177695602070dca301563e962172b4f38ea9f38237a7736e139aea4c1c1a1b7e052fa35a9bcafb1d79f88cd11fda2f7d5dad450e6644201529401e
def fn45_w : Orc Tb := mkOrc (Y := (Option (List UInt8))) tab [iS] [] (fun x h => fn45 x.1) (fun _ y k => k (.bo y) [])
theorem fn45_k : WK fn45_w 148 := orcD (Y := (Option (List UInt8))) (c := fn45_p) (res := [.tmp 2]) (n := 17) (R := (RSp.one (Y := (Option (List UInt8))) tab (boS) [] (fun a b => a) (fun y => y) (fun y => ()))) fn45_rk oneD Tryz.func148 dK
def fn57_r : Orcs Tb := []
theorem fn57_rk : RK fn57_r := yv763
def fn57_p1 : TCode Tb := Dc 27 [] 0x372e64ae733e5fa94efbae6a2f3543ecf11a68de8884903c6f2bb5d094f7d568d2e823c270fe51c97c90a53025f320d4cafa6cafd4d4fbccc5777751b9cc0edb1a541eb23038bdced9f07f40b6d8da7bd3a9f716473a6aa6ad769c734bca4e1798dcfd3018cdc689423baa8f5820b81af05aa1ac3c6f2cb968a1407966df12427a148bfdef96b4367740e09eae3b55a38efd258fe29f9d42d69790640d030ebaedefc3fe7d6560dfd367d6703eb55435
def fn57_s1 : SSh := ⟨[(3, iS), (11, bS)], []⟩
def fn57_o1 : Cut Tb := cutJ tab 0 fn57_s1 (fun _ x k => fn57_c1 x.1.1 x.1.2.1 (fun y6 => k .ret ⟨[(2, .bo y6)], []⟩) (k .normal ⟨[], []⟩))
theorem fn57_q1 : CK fn57_o1 0 fn57_p1 := cutJD fn57_rk dK
def fn57_p0 : TCode Tb := Dc 27 [cp fn57_q1] 0x1bea0fdaf4b28efdef45fca2689ab1e464eb720c25f4ecc6b8390fc7c9a4de7e02ef525a5c6aeeda194c8f13f5
def fn57_s0 : SSh := ⟨[(3, iS), (7, bS)], []⟩
def fn57_o0 : Cut Tb := cutJ tab 0 fn57_s0 (fun _ x k => fn57_c0 x.1.1 x.1.2.1 (fun y9 => k .ret ⟨[(2, .bo y9)], []⟩) (k .normal ⟨[], []⟩))
theorem fn57_q0 : CK fn57_o0 0 fn57_p0 := cutJD fn57_rk dK
def fn57_p : TCode Tb := Dc 27 [cp fn57_q0] 0x94023fd61c89ddd660d4b705d5a3d4faa5857ae5aab681d425f07806833e0d6448a0e5ee1e597264591128b80d20dd6fcdd894fa48e86963842d11b3949e17562aff5395bdda92b81ffbadfb9e4b83549adaa26c32f329401e
def fn57_w : Orc Tb := mkOrc (Y := (Option (List UInt8))) tab [iS] [] (fun x h => fn57 x.1) (fun _ y k => k (.bo y) [])
theorem fn57_k : WK fn57_w 149 := orcD (Y := (Option (List UInt8))) (c := fn57_p) (res := [.tmp 2]) (n := 27) (R := (RSp.one (Y := (Option (List UInt8))) tab (boS) [] (fun a b => a) (fun y => y) (fun y => ()))) fn57_rk oneD Tryz.func149 dK
def fn92_r : Orcs Tb := [(148, fn45_w), (149, fn57_w)]
theorem fn92_rk : RK fn92_r := (yv739 fn45_k (yv739 fn57_k yv763))
def fn92_p : TCode Tb := Dc 14 [] 0x387208b1b309c7b0d02860f6f76b181a3b4cf620a208405d181a0e4700b378bb672e61286d7c085f757eaebde8454701a6e29401e
def fn92_w : Orc Tb := mkOrc (Y := (Option (List UInt8))) tab [iS, iS] [] (fun x h => fn92 x.1 x.2.1) (fun _ y k => k (.bo y) [])
theorem fn92_k : WK fn92_w 125 := orcD (Y := (Option (List UInt8))) (c := fn92_p) (res := [.tmp 4]) (n := 14) (R := (RSp.one (Y := (Option (List UInt8))) tab (boS) [] (fun a b => a) (fun y => y) (fun y => ()))) fn92_rk oneD Tryz.func125 dK
def fn11_r : Orcs Tb := []
theorem fn11_rk : RK fn11_r := yv763
def fn11_p0 : TCode Tb := Dc 19 [] 0x344772ffc73b443f46a9e6b011a5e5090287b3ceecfb6713c8ab5c77ff28739f28435c7b78b388ffacd08411ad9e736cc77c1272d1e
def fn11_s0 : SSh := ⟨[(0, bsS), (1, u8S), (7, iS), (8, iS)], []⟩
def fn11_o0 : Cut Tb := cutL tab 0 fn11_s0 (fun x => x.1.2.2.2.1) (fun x => fn11_l0 x.1.1 x.1.2.1 x.1.2.2.1) (fun _ x y k => match y with | .inl y => k .ret ⟨[(4, .n .i64 y)], []⟩ | .inr y => k (.exit 0) ⟨[], []⟩)
theorem fn11_q0 : CK fn11_o0 0 (.loop fn11_p0) := yv772 (c := fn11_p0) (Z := Int) (Y := Int ⊕ Unit) tabOk fn11_rk dK (fun _ x z b e => fn11_b0 x.1.1 x.1.2.1 x.1.2.2.1 z (fun x6 => b x6) (fun y8 => e (.inl y8)) (e (.inr ()))) (fun x z => ⟨[(0, .bs x.1.1), (1, .u8 x.1.2.1), (7, .n .i64 x.1.2.2.1), (8, .n .i64 z)], []⟩) (fun x y => match y with | .inl y => (.ret, ⟨[(4, .n .i64 y)], []⟩) | .inr y => ((.exit 0), ⟨[], []⟩)) (fun t => (prjS tab 0 fn11_s0 t).bind fun x => some x.1.2.2.2.1) (fun e t => (if eqE e .ret then yv555 ((prjS tab 0 ⟨[(4, iS)], []⟩ t).bind fun v => some (.inl v.1.1)) (if eqE e (.exit 0) then (prjS tab 0 ⟨[], []⟩ t).bind fun v => some (.inr ()) else none) else (if eqE e (.exit 0) then (prjS tab 0 ⟨[], []⟩ t).bind fun v => some (.inr ()) else none))) (fun x => by kernel_rfl) (fun x z => by kernel_rfl) (fun x y k => by rcases y with y | y <;> kernel_rfl) (fun x y => by rcases y with y | y <;> exact nofun) (fun x z => by kernel_rfl) (fun x y => by rcases y with y | y <;> kernel_rfl) (fun x z k => by kernel_rfl)
def fn11_p : TCode Tb := Dc 19 [cp fn11_q0] 0x843b6cf0f76248ab7a9ec4317649dd3a01e
def fn11_w : Orc Tb := mkOrc (Y := Int) tab [bsS, u8S] [] (fun x h => fn11 x.1 x.2.1) (fun _ y k => k (.n .i64 y) [])
theorem fn11_k : WK fn11_w 147 := orcD (Y := Int) (c := fn11_p) (res := [.tmp 4]) (n := 19) (R := (RSp.one (Y := Int) tab (iS) [] (fun a b => a) (fun y => y) (fun y => ()))) fn11_rk oneD Tryz.func147 dK
def fn9_r : Orcs Tb := [(147, fn11_w)]
theorem fn9_rk : RK fn9_r := (yv739 fn11_k yv763)
def fn9_p : TCode Tb := Dc 9 [] 0x129007500e10144301774804835b3801e
def fn9_w : Orc Tb := mkOrc (Y := Bool) tab [bsS, u8S] [] (fun x h => fn9 x.1 x.2.1) (fun _ y k => k (.b y) [])
theorem fn9_k : WK fn9_w 124 := orcD (Y := Bool) (c := fn9_p) (res := [.tmp 4]) (n := 9) (R := (RSp.one (Y := Bool) tab (bS) [] (fun a b => a) (fun y => y) (fun y => ()))) fn9_rk oneD Tryz.func124 dK
def fn58_r : Orcs Tb := [(125, fn92_w), (124, fn9_w)]
theorem fn58_rk : RK fn58_r := (yv739 fn92_k (yv739 fn9_k yv763))
def fn58_p : TCode Tb := Dc 12 [] 0x4980001b1afb74a8001b02fcf49009053a3801e
def fn58_w : Orc Tb := mkOrc (Y := Bool) tab [iS, iS, u8S] [] (fun x h => fn58 x.1 x.2.1 x.2.2.1) (fun _ y k => k (.b y) [])
theorem fn58_k : WK fn58_w 89 := orcD (Y := Bool) (c := fn58_p) (res := [.tmp 6]) (n := 12) (R := (RSp.one (Y := Bool) tab (bS) [] (fun a b => a) (fun y => y) (fun y => ()))) fn58_rk oneD Tryz.func89 dK
def fn33_r : Orcs Tb := [(87, fn108_w), (119, fn89_w)]
theorem fn33_rk : RK fn33_r := (yv739 fn108_k (yv739 fn89_k yv763))
def fn33_p0 : TCode Tb := Dc 49 [] 0x68f36e88341b7a908a3d027e06af9982a04c8c3634bfc188e2dd5ae2bc2089e8d937ed4169eb9551baaf9c3ef14254bfdd22c1a6908d820f35c20d98ceb53be73d3c17fb6fd699dc9459e245e719a3a6c9fef492b19e
def fn33_s0 : SSh := ⟨[(0, iS), (3, rS 0 0)], [hS1]⟩
def fn33_o0 : Cut Tb := cutJ tab 0 fn33_s0 (fun _ x k => fn33_c0 x.1.1 (tabBk 6 x.2.1 : fn54) (fun y8 y9 => k .ret ⟨[(4, .b y8)], [(injL tab hS1 x.2.1), [.u8 y9.Id, .u32 y9.N, .s y9.A, .s y9.B]]⟩))
theorem fn33_q0 : CK fn33_o0 0 fn33_p0 := cutJD fn33_rk dK
def fn33_p : TCode Tb := Dc 49 [cp fn33_q0] 0x67458297f2fe0e07f0d4f1aa790524cbe6150069bcbad5ed5947b23ad82f555ede8e07c8e8471c40b607a11cab86e1f4ed0e11a8620173548a515d35129498e4650bf0c16a58da561fa05ee421950c2e
def fn33_w : Orc Tb := mkOrc (Y := Bool) tab [iS, .g (.st 6)] [] (fun x h => fn33 x.1 (x.2.1 : fn54)) (fun _ y k => k (.b y) [])
theorem fn33_k : WK fn33_w 90 := orcD (Y := Bool) (c := fn33_p) (res := [.tmp 4]) (n := 49) (R := (RSp.one (Y := Bool) tab (bS) [] (fun a b => a) (fun y => y) (fun y => ()))) fn33_rk oneD Tryz.func90 dK
def fn46_r : Orcs Tb := []
theorem fn46_rk : RK fn46_r := yv763
def fn46_p : TCode Tb := Dc 9 [] 0x1e71d7f7919e0ffba11815dff50004bf07e9a24703801e
def fn46_w : Orc Tb := mkOrc (Y := Bool) tab [iS] [] (fun x h => fn46 x.1) (fun _ y k => k (.b y) [])
theorem fn46_k : WK fn46_w 126 := orcD (Y := Bool) (c := fn46_p) (res := [.tmp 2]) (n := 9) (R := (RSp.one (Y := Bool) tab (bS) [] (fun a b => a) (fun y => y) (fun y => ()))) fn46_rk oneD Tryz.func126 dK
def fn6_r : Orcs Tb := []
theorem fn6_rk : RK fn6_r := yv763
def fn6_p : TCode Tb := Dc 18 [] 0x18bd0a4844abffd86eb05833bb5c57050cb641e42d153774400002db399d5f74812fd4422c03801e
def fn6_w : Orc Tb := mkOrc (Y := Bool) tab [sS, sS] [] (fun x h => fn6 x.1 x.2.1) (fun _ y k => k (.b y) [])
theorem fn6_k : WK fn6_w 179 := orcD (Y := Bool) (c := fn6_p) (res := [.tmp 4]) (n := 18) (R := (RSp.one (Y := Bool) tab (bS) [] (fun a b => a) (fun y => y) (fun y => ()))) fn6_rk oneD Tryz.func179 dK
def fn7_r : Orcs Tb := [(179, fn6_w)]
theorem fn7_rk : RK fn7_r := (yv739 fn6_k yv763)
def fn7_p : TCode Tb := Dc 15 [] 0x4fcf3fadde6b50f28dd9bd009edde60c88c26be0003672a19be10e26a8dae909d7cf210e494e684231402e
def fn7_w : Orc Tb := mkOrc (Y := (List UInt8) × Bool) tab [sS, sS] [] (fun x h => fn7 x.1 x.2.1) (fun _ y k => k (.tup [.s y.1, .b y.2]) [])
theorem fn7_k : WK fn7_w 169 := orcD (Y := (List UInt8) × Bool) (c := fn7_p) (res := [.tmp 4, .tmp 5]) (n := 15) (R := (RSp.one (Y := (List UInt8) × Bool) tab (.tup [.f (.a .s), .f (.a .b)]) [] (fun a b => (a.1, a.2.1)) (fun y => (y.1, y.2, ())) (fun y => ()))) fn7_rk oneD Tryz.func169 dK
def fn21_r : Orcs Tb := [(169, fn7_w)]
theorem fn21_rk : RK fn21_r := (yv739 fn7_k yv763)
def fn21_p : TCode Tb := Dc 11 [] 0x36987a0907aaf1c012018c3ebb56e06e576084231402e
def fn21_w : Orc Tb := mkOrc (Y := (List UInt8) × Bool) tab [sS, sS] [] (fun x h => fn21 x.1 x.2.1) (fun _ y k => k (.tup [.s y.1, .b y.2]) [])
theorem fn21_k : WK fn21_w 160 := orcD (Y := (List UInt8) × Bool) (c := fn21_p) (res := [.tmp 4, .tmp 5]) (n := 11) (R := (RSp.one (Y := (List UInt8) × Bool) tab (.tup [.f (.a .s), .f (.a .b)]) [] (fun a b => (a.1, a.2.1)) (fun y => (y.1, y.2, ())) (fun y => ()))) fn21_rk oneD Tryz.func160 dK
def fn47_w : Orc Tb := mkOrc (Y := Option (List (List UInt8))) tab [sS, sS] [] (fun x h => fn47 x.1 x.2.1) (fun _ y k => k (.sl 8 y) [])
theorem fn47_k : WK fn47_w 171 := yv760 tabOk (by kernel_rfl) 8 rfl (fun _ => rfl) rfl (fun _ h => h.2) Tryz.strings_Split
def fn71_r : Orcs Tb := [(171, fn47_w), (144, fn88_w)]
theorem fn71_rk : RK fn71_r := (yv739 fn47_k (yv739 fn88_k yv763))
def fn71_p1 : TCode Tb := Dc 33 [] 0xb30b30cb0181e503fed995e6cafcf4d4c06d497084edca7b395
def fn71_s1 : SSh := ⟨[(3, lS 8), (5, sS), (10, lS 8), (11, iS), (12, iS), (17, bS)], []⟩
def fn71_o1 : Cut Tb := cutJ tab 0 fn71_s1 (fun _ x k => fn71_c1 x.1.2.1 x.1.2.2.2.2.2.1 (k .normal ⟨[(3, .sl 8 x.1.1), (10, .sl 8 x.1.2.2.1), (11, .n .i64 x.1.2.2.2.1), (12, .n .i64 x.1.2.2.2.2.1)], []⟩) (k .ret ⟨[(2, .b false)], []⟩))
theorem fn71_q1 : CK fn71_o1 0 fn71_p1 := cutJD fn71_rk dK
def fn71_p0 : TCode Tb := Dc 33 [cp fn71_q1] 0x8a1401faa8af5857388131ff76ff81651a6375021927762e3dd517dc168c2db68637aa0f4765eeb8511813a8fb68b898cb3b8cad59e5d255a52a152687bb816fea30c1c161406a1f52b88c19da7c077eb2d1e
def fn71_s0 : SSh := ⟨[(3, lS 8), (10, lS 8), (11, iS), (12, iS)], []⟩
def fn71_o0 : Cut Tb := cutL tab 0 fn71_s0 (fun x => x.1.2.2.2.1) (fun x => fn71_l0 x.1.1 x.1.2.1 x.1.2.2.1) (fun _ x y k => match y with | .inl y => k .ret ⟨[(2, .b false)], []⟩ | .inr y => k (.exit 0) ⟨[], []⟩)
theorem fn71_q0 : CK fn71_o0 0 (.loop fn71_p0) := yv772 (c := fn71_p0) (Z := Int) (Y := Unit ⊕ Unit) tabOk fn71_rk dK (fun _ x z b e => fn71_b0 x.1.1 x.1.2.1 x.1.2.2.1 z (fun x6 => b x6) (e (.inl ())) (e (.inr ()))) (fun x z => ⟨[(3, .sl 8 x.1.1), (10, .sl 8 x.1.2.1), (11, .n .i64 x.1.2.2.1), (12, .n .i64 z)], []⟩) (fun x y => match y with | .inl y => (.ret, ⟨[(2, .b false)], []⟩) | .inr y => ((.exit 0), ⟨[], []⟩)) (fun t => (prjS tab 0 fn71_s0 t).bind fun x => some x.1.2.2.2.1) (fun e t => (if eqE e .ret then yv555 ((prjS tab 0 ⟨[(2, .g (.f (.cb false)))], []⟩ t).bind fun v => some (.inl ())) (if eqE e (.exit 0) then (prjS tab 0 ⟨[], []⟩ t).bind fun v => some (.inr ()) else none) else (if eqE e (.exit 0) then (prjS tab 0 ⟨[], []⟩ t).bind fun v => some (.inr ()) else none))) (fun x => by kernel_rfl) (fun x z => by kernel_rfl) (fun x y k => by rcases y with y | y <;> kernel_rfl) (fun x y => by rcases y with y | y <;> exact nofun) (fun x z => by kernel_rfl) (fun x y => by rcases y with y | y <;> kernel_rfl) (fun x z k => by kernel_rfl)
def fn71_p : TCode Tb := Dc 33 [cp fn71_q0] 0xe2e1f2de9f4085bdcac318a815a9ad19ef21c2fd7a0e1c627dc81586e766e9991d936c28d585bea725f453801e
def fn71_w : Orc Tb := mkOrc (Y := Bool) tab [sS] [] (fun x h => fn71 x.1) (fun _ y k => k (.b y) [])
theorem fn71_k : WK fn71_w 162 := orcD (Y := Bool) (c := fn71_p) (res := [.tmp 2]) (n := 33) (R := (RSp.one (Y := Bool) tab (bS) [] (fun a b => a) (fun y => y) (fun y => ()))) fn71_rk oneD Tryz.func162 dK
def fn72_w : Orc Tb := mkOrc (Y := (List UInt8) × (List UInt8) × Bool) tab [sS, sS] [] (fun x h => fn72 x.1 x.2.1) (fun _ y k => k (.tup [.s y.1, .s y.2.1, .b y.2.2]) [])
theorem fn72_k : WK fn72_w 161 := yv774 tabOk (by kernel_rfl) (fun _ h => h.2) Tryz.strings_Cut
def fn59_r : Orcs Tb := [(83, fn85_w), (160, fn21_w), (162, fn71_w), (161, fn72_w), (144, fn88_w)]
theorem fn59_rk : RK fn59_r := (yv739 fn85_k (yv739 fn21_k (yv739 fn71_k (yv739 fn72_k (yv739 fn88_k yv763)))))
def fn59_p : TCode Tb := Dc 40 [] 0x299ccd627169b6ef061de9835418ba573188c41d4c958a00709734bfce1c7ca1aa4d4a323c94bc20d8d60cf642caaaec403d5d464a79466fea1a43ae73c8f8ade3eafac0e125b1b31e29666626228f9ca53b1283a3bed5abfe8d80d1357828e22423d298f25b9bf3e423ac92b04c37b8594f3d8d51207b74211cbc582405959228ca1f743e38cad09b7a3801e
def fn59_w : Orc Tb := mkOrc (Y := Bool) tab [sS] [] (fun x h => fn59 x.1) (fun _ y k => k (.b y) [])
theorem fn59_k : WK fn59_w 152 := orcD (Y := Bool) (c := fn59_p) (res := [.tmp 2]) (n := 40) (R := (RSp.one (Y := Bool) tab (bS) [] (fun a b => a) (fun y => y) (fun y => ()))) fn59_rk oneD Tryz.func152 dK
def fn60_r : Orcs Tb := [(160, fn21_w), (152, fn59_w), (161, fn72_w)]
theorem fn60_rk : RK fn60_r := (yv739 fn21_k (yv739 fn59_k (yv739 fn72_k yv763)))
def fn60_p : TCode Tb := Dc 24 [] 0x16eb7097f2d41bdd21ee2f608128b13c10a5344c531e9e8304de4946fc6e5fe8f7787deebf90254cf8b5ac25a1cb6e84ec409eafc94c000b6b4c751125fed3ba6254e127e46e0c00a6e78d92cc9c49b0bd240049e02231403e
def fn60_w : Orc Tb := mkOrc (Y := (List UInt8) × (List UInt8) × Bool) tab [sS] [] (fun x h => fn60 x.1) (fun _ y k => k (.tup [.s y.1, .s y.2.1, .b y.2.2]) [])
theorem fn60_k : WK fn60_w 151 := orcD (Y := (List UInt8) × (List UInt8) × Bool) (c := fn60_p) (res := [.tmp 2, .tmp 3, .tmp 4]) (n := 24) (R := (RSp.one (Y := (List UInt8) × (List UInt8) × Bool) tab (.tup [.f (.a .s), .f (.a .s), .f (.a .b)]) [] (fun a b => (a.1, a.2.1, a.2.2.1)) (fun y => (y.1, y.2.1, y.2.2, ())) (fun y => ()))) fn60_rk oneD Tryz.func151 dK
def fn16_r : Orcs Tb := [(151, fn60_w), (152, fn59_w)]
theorem fn16_rk : RK fn16_r := (yv739 fn60_k (yv739 fn59_k yv763))
def fn16_p0 : TCode Tb := Dc 49 [] 0x4557117cd78df8e7a83585c3eb2b07256db8324737341a5e28d53478ffa2b909b2f962f2df82f89b796b0274b3b258d0d03ec52582b023fad2487fe95
def fn16_s0 : SSh := ⟨[(1, iS), (2, iS), (3, rS 0 0), (9, bS), (17, bS)], [[sS, u8S]]⟩
def fn16_o0 : Cut Tb := cutJ tab 0 fn16_s0 (fun _ x k => fn16_c0 x.1.1 x.1.2.1 x.1.2.2.2.2.1 (⟨x.2.1.1, x.2.1.2.1⟩ : fn53) (fun y13 => k .ret ⟨[(6, .b y13)], [[.s x.2.1.1, .u8 x.2.1.2.1]]⟩) (k .normal ⟨[(3, .ref 0 0), (9, .b x.1.2.2.2.1)], [[.s x.2.1.1, .u8 x.2.1.2.1]]⟩))
theorem fn16_q0 : CK fn16_o0 0 fn16_p0 := cutJD fn16_rk dK
def fn16_p1 : TCode Tb := Dc 49 [] 0x11582c02d857b8f96194d724922cd7ce8a3515b6872ca005c4950019e
def fn16_s1 : SSh := ⟨[(3, rS 0 0), (9, bS)], [[sS, u8S]]⟩
def fn16_o1 : Cut Tb := cutJ tab 0 fn16_s1 (fun _ x k => fn16_c1 x.1.2.1 (⟨x.2.1.1, x.2.1.2.1⟩ : fn53) (fun y19 => k .ret ⟨[(6, .b y19)], [[.s x.2.1.1, .u8 x.2.1.2.1]]⟩))
theorem fn16_q1 : CK fn16_o1 0 fn16_p1 := cutJD fn16_rk dK
def fn16_p : TCode Tb := Dc 49 [cp fn16_q0, cp fn16_q1] 0x43fd85e5f3dd49b514c221c6b80915a54e17f8487090ded4b32fe342b5acc8e2940dddbcb66155548639a85e64363ce138e37a142ea55492008868cf1164041d1d49d6ed206e3437b278d1c64ace5fe39e50121eb8320c2e
def fn16_w : Orc Tb := mkOrc (Y := Bool) tab [.g (.st 5), iS, iS] [] (fun x h => fn16 (⟨x.1.Text, x.1.Opt⟩ : fn53) x.2.1 x.2.2.1) (fun _ y k => k (.b y) [])
theorem fn16_k : WK fn16_w 129 := orcD (Y := Bool) (c := fn16_p) (res := [.tmp 6]) (n := 49) (R := (RSp.one (Y := Bool) tab (bS) [] (fun a b => a) (fun y => y) (fun y => ()))) fn16_rk oneD Tryz.func129 dK
def fn25_r : Orcs Tb := [(129, fn16_w)]
theorem fn25_rk : RK fn25_r := (yv739 fn16_k yv763)
def fn25_p : TCode Tb := Dc 11 [] 0x16b00031818311beda805adbac58b8247608320c2e
def fn25_w : Orc Tb := mkOrc (Y := Bool × Int × fn54) tab [.g (.st 5), rS 0 0, rS 1 0] [[iS], hS1] (fun x h => fn25 (⟨x.1.Text, x.1.Opt⟩ : fn53) h.1.1 (tabBk 6 h.2.1 : fn54)) (fun _ y k => k (.b y.1) [[.n .i64 y.2.1], (injL tab hS1 (tabUn 6 y.2.2))])
theorem fn25_k : WK fn25_w 128 := orcD (Y := Bool × Int × fn54) (c := fn25_p) (res := [.tmp 4]) (n := 11) (R := (RSp.one (Y := Bool × Int × fn54) tab (bS) [[iS], hS1] (fun a b => (a, b.1.1, (tabBk 6 b.2.1 : fn54))) (fun y => y.1) (fun y => ((y.2.1, ()), (y.2.2.Kind, y.2.2.Dup, y.2.2.Retain, y.2.2.QoS, y.2.2.Id, y.2.2.Clean, y.2.2.Keep, y.2.2.Client, y.2.2.HasWill, y.2.2.HasUser, y.2.2.HasPass, y.2.2.WillQoS, y.2.2.WillRetain, y.2.2.WillProps, y.2.2.WillTopic, y.2.2.WillLoad, y.2.2.User, y.2.2.Pass, y.2.2.Present, y.2.2.Code, y.2.2.Topic, y.2.2.Load, y.2.2.Filters, y.2.2.Codes, y.2.2.Props, ()), ())))) fn25_rk oneD Tryz.func128 dK
def fn1_r : Orcs Tb := [(128, fn25_w)]
theorem fn1_rk : RK fn1_r := (yv739 fn25_k yv763)
def fn1_p0 : TCode Tb := Dc 19 [] 0xd11dcbff1ced10fd1aa79ac0469794240a1ecf3bb3fe2391b0a032af9c7adcbc2ade085bd7b78b388ffacd08411ad9e736cc77c1272d1e
def fn1_s0 : SSh := ⟨[(0, lS 5), (1, .g (.clo 128 [] [.ref 0 0, .ref 1 0])), (7, iS), (8, iS)], [[iS], hS1]⟩
def fn1_o0 : Cut Tb := cutL tab 2 fn1_s0 (fun x => (x.1.2.2.2.1, x.2.1.1, (tabBk 6 x.2.2.1 : fn54))) (fun x => fn1_l0 x.1.1 x.1.2.2.1) (fun _ x y k => match y with | .inl y => k .ret ⟨[(4, .n .i64 y.1)], [[.n .i64 y.2.1], (injL tab hS1 (tabUn 6 y.2.2))]⟩ | .inr y => k (.exit 0) ⟨[], [[.n .i64 y.1], (injL tab hS1 (tabUn 6 y.2))]⟩)
theorem fn1_q0 : CK fn1_o0 2 (.loop fn1_p0) := yv772 (c := fn1_p0) (Z := Int × Int × fn54) (Y := (Int × Int × fn54) ⊕ (Int × fn54)) tabOk fn1_rk dK (fun _ x z b e => fn1_b0 x.1.1 x.1.2.2.1 z.1 z.2.1 z.2.2 (fun x6 x7 x8 => b (x6, x7, x8)) (fun y13 y14 y15 => e (.inl (y13, y14, y15))) (fun y16 y17 => e (.inr (y16, y17)))) (fun x z => ⟨[(0, .sl 5 x.1.1), (1, .clo 128 [] [.ref 0 0, .ref 1 0]), (7, .n .i64 x.1.2.2.1), (8, .n .i64 z.1)], [[.n .i64 z.2.1], (injL tab hS1 (tabUn 6 z.2.2))]⟩) (fun x y => match y with | .inl y => (.ret, ⟨[(4, .n .i64 y.1)], [[.n .i64 y.2.1], (injL tab hS1 (tabUn 6 y.2.2))]⟩) | .inr y => ((.exit 0), ⟨[], [[.n .i64 y.1], (injL tab hS1 (tabUn 6 y.2))]⟩)) (fun t => (prjS tab 2 fn1_s0 t).bind fun x => some (x.1.2.2.2.1, x.2.1.1, (tabBk 6 x.2.2.1 : fn54))) (fun e t => (if eqE e .ret then yv555 ((prjS tab 2 ⟨[(4, iS)], [[iS], hS1]⟩ t).bind fun v => some (.inl (v.1.1, v.2.1.1, (tabBk 6 v.2.2.1 : fn54)))) (if eqE e (.exit 0) then (prjS tab 2 ⟨[], [[iS], hS1]⟩ t).bind fun v => some (.inr (v.2.1.1, (tabBk 6 v.2.2.1 : fn54))) else none) else (if eqE e (.exit 0) then (prjS tab 2 ⟨[], [[iS], hS1]⟩ t).bind fun v => some (.inr (v.2.1.1, (tabBk 6 v.2.2.1 : fn54))) else none))) (fun x => by kernel_rfl) (fun x z => by kernel_rfl) (fun x y k => by rcases y with y | y <;> kernel_rfl) (fun x y => by rcases y with y | y <;> exact nofun) (fun x z => by kernel_rfl) (fun x y => by rcases y with y | y <;> kernel_rfl) (fun x z k => by kernel_rfl)
def fn1_p : TCode Tb := Dc 19 [cp fn1_q0] 0x843b6cf0f76248ab7a9ec4317649dd3a01e
def fn1_w : Orc Tb := mkOrc (Y := Int × Int × fn54) tab [lS 5, .g (.clo 128 [] [.ref 0 0, .ref 1 0])] [[iS], hS1] (fun x h => fn1 x.1 h.1.1 (tabBk 6 h.2.1 : fn54)) (fun _ y k => k (.n .i64 y.1) [[.n .i64 y.2.1], (injL tab hS1 (tabUn 6 y.2.2))])
theorem fn1_k : WK fn1_w 150 := orcD (Y := Int × Int × fn54) (c := fn1_p) (res := [.tmp 4]) (n := 19) (R := (RSp.one (Y := Int × Int × fn54) tab (iS) [[iS], hS1] (fun a b => (a, b.1.1, (tabBk 6 b.2.1 : fn54))) (fun y => y.1) (fun y => ((y.2.1, ()), (y.2.2.Kind, y.2.2.Dup, y.2.2.Retain, y.2.2.QoS, y.2.2.Id, y.2.2.Clean, y.2.2.Keep, y.2.2.Client, y.2.2.HasWill, y.2.2.HasUser, y.2.2.HasPass, y.2.2.WillQoS, y.2.2.WillRetain, y.2.2.WillProps, y.2.2.WillTopic, y.2.2.WillLoad, y.2.2.User, y.2.2.Pass, y.2.2.Present, y.2.2.Code, y.2.2.Topic, y.2.2.Load, y.2.2.Filters, y.2.2.Codes, y.2.2.Props, ()), ())))) fn1_rk oneD Tryz.func150 dK
def fn0_r : Orcs Tb := [(150, fn1_w)]
theorem fn0_rk : RK fn0_r := (yv739 fn1_k yv763)
def fn0_p : TCode Tb := Dc 9 [] 0x129007500e10144304d74804835b3801e
def fn0_w : Orc Tb := mkOrc (Y := Bool × Int × fn54) tab [lS 5, .g (.clo 128 [] [.ref 0 0, .ref 1 0])] [[iS], hS1] (fun x h => fn0 x.1 h.1.1 (tabBk 6 h.2.1 : fn54)) (fun _ y k => k (.b y.1) [[.n .i64 y.2.1], (injL tab hS1 (tabUn 6 y.2.2))])
theorem fn0_k : WK fn0_w 127 := orcD (Y := Bool × Int × fn54) (c := fn0_p) (res := [.tmp 4]) (n := 9) (R := (RSp.one (Y := Bool × Int × fn54) tab (bS) [[iS], hS1] (fun a b => (a, b.1.1, (tabBk 6 b.2.1 : fn54))) (fun y => y.1) (fun y => ((y.2.1, ()), (y.2.2.Kind, y.2.2.Dup, y.2.2.Retain, y.2.2.QoS, y.2.2.Id, y.2.2.Clean, y.2.2.Keep, y.2.2.Client, y.2.2.HasWill, y.2.2.HasUser, y.2.2.HasPass, y.2.2.WillQoS, y.2.2.WillRetain, y.2.2.WillProps, y.2.2.WillTopic, y.2.2.WillLoad, y.2.2.User, y.2.2.Pass, y.2.2.Present, y.2.2.Code, y.2.2.Topic, y.2.2.Load, y.2.2.Filters, y.2.2.Codes, y.2.2.Props, ()), ())))) fn0_rk oneD Tryz.func127 dK
def fn34_r : Orcs Tb := [(126, fn46_w), (127, fn0_w)]
theorem fn34_rk : RK fn34_r := (yv739 fn46_k (yv739 fn0_k yv763))
def fn34_p : TCode Tb := Dc 16 [] 0xee5d193421000c051b04b01211fffb382823e6019ac73500000203fdf00700107351ce18002c220c3e
def fn34_w : Orc Tb := mkOrc (Y := Bool) tab [iS, .g (.st 6)] [] (fun x h => fn34 x.1 (x.2.1 : fn54)) (fun _ y k => k (.b y) [])
theorem fn34_k : WK fn34_w 91 := orcD (Y := Bool) (c := fn34_p) (res := [.tmp 4]) (n := 16) (R := (RSp.one (Y := Bool) tab (bS) [] (fun a b => a) (fun y => y) (fun y => ()))) fn34_rk oneD Tryz.func91 dK
def fn35_r : Orcs Tb := [(89, fn58_w)]
theorem fn35_rk : RK fn35_r := (yv739 fn58_k yv763)
def fn35_p : TCode Tb := Dc 11 [] 0x2d60006301a6225fb59a000b457430793801e
def fn35_w : Orc Tb := mkOrc (Y := Bool × Int × fn54) tab [u8S, rS 0 0, rS 1 0] [[iS], hS1] (fun x h => fn35 x.1 h.1.1 (tabBk 6 h.2.1 : fn54)) (fun _ y k => k (.b y.1) [[.n .i64 y.2.1], (injL tab hS1 (tabUn 6 y.2.2))])
theorem fn35_k : WK fn35_w 131 := orcD (Y := Bool × Int × fn54) (c := fn35_p) (res := [.tmp 4]) (n := 11) (R := (RSp.one (Y := Bool × Int × fn54) tab (bS) [[iS], hS1] (fun a b => (a, b.1.1, (tabBk 6 b.2.1 : fn54))) (fun y => y.1) (fun y => ((y.2.1, ()), (y.2.2.Kind, y.2.2.Dup, y.2.2.Retain, y.2.2.QoS, y.2.2.Id, y.2.2.Clean, y.2.2.Keep, y.2.2.Client, y.2.2.HasWill, y.2.2.HasUser, y.2.2.HasPass, y.2.2.WillQoS, y.2.2.WillRetain, y.2.2.WillProps, y.2.2.WillTopic, y.2.2.WillLoad, y.2.2.User, y.2.2.Pass, y.2.2.Present, y.2.2.Code, y.2.2.Topic, y.2.2.Load, y.2.2.Filters, y.2.2.Codes, y.2.2.Props, ()), ())))) fn35_rk oneD Tryz.func131 dK
def fn8_r : Orcs Tb := [(131, fn35_w)]
theorem fn8_rk : RK fn8_r := (yv739 fn35_k yv763)
def fn8_p0 : TCode Tb := Dc 19 [] 0x1a23b97fe39da21fa354f35808d2f2848143d9e7767fc471f00c4f2e52a4cf1b9f28435c7b78b388ffacd08411ad9e736cc77c1272d1e
def fn8_s0 : SSh := ⟨[(0, bsS), (1, .g (.clo 131 [] [.ref 0 0, .ref 1 0])), (7, iS), (8, iS)], [[iS], hS1]⟩
def fn8_o0 : Cut Tb := cutL tab 2 fn8_s0 (fun x => (x.1.2.2.2.1, x.2.1.1, (tabBk 6 x.2.2.1 : fn54))) (fun x => fn8_l0 x.1.1 x.1.2.2.1) (fun _ x y k => match y with | .inl y => k .ret ⟨[(4, .n .i64 y.1)], [[.n .i64 y.2.1], (injL tab hS1 (tabUn 6 y.2.2))]⟩ | .inr y => k (.exit 0) ⟨[], [[.n .i64 y.1], (injL tab hS1 (tabUn 6 y.2))]⟩)
theorem fn8_q0 : CK fn8_o0 2 (.loop fn8_p0) := yv772 (c := fn8_p0) (Z := Int × Int × fn54) (Y := (Int × Int × fn54) ⊕ (Int × fn54)) tabOk fn8_rk dK (fun _ x z b e => fn8_b0 x.1.1 x.1.2.2.1 z.1 z.2.1 z.2.2 (fun x6 x7 x8 => b (x6, x7, x8)) (fun y13 y14 y15 => e (.inl (y13, y14, y15))) (fun y16 y17 => e (.inr (y16, y17)))) (fun x z => ⟨[(0, .bs x.1.1), (1, .clo 131 [] [.ref 0 0, .ref 1 0]), (7, .n .i64 x.1.2.2.1), (8, .n .i64 z.1)], [[.n .i64 z.2.1], (injL tab hS1 (tabUn 6 z.2.2))]⟩) (fun x y => match y with | .inl y => (.ret, ⟨[(4, .n .i64 y.1)], [[.n .i64 y.2.1], (injL tab hS1 (tabUn 6 y.2.2))]⟩) | .inr y => ((.exit 0), ⟨[], [[.n .i64 y.1], (injL tab hS1 (tabUn 6 y.2))]⟩)) (fun t => (prjS tab 2 fn8_s0 t).bind fun x => some (x.1.2.2.2.1, x.2.1.1, (tabBk 6 x.2.2.1 : fn54))) (fun e t => (if eqE e .ret then yv555 ((prjS tab 2 ⟨[(4, iS)], [[iS], hS1]⟩ t).bind fun v => some (.inl (v.1.1, v.2.1.1, (tabBk 6 v.2.2.1 : fn54)))) (if eqE e (.exit 0) then (prjS tab 2 ⟨[], [[iS], hS1]⟩ t).bind fun v => some (.inr (v.2.1.1, (tabBk 6 v.2.2.1 : fn54))) else none) else (if eqE e (.exit 0) then (prjS tab 2 ⟨[], [[iS], hS1]⟩ t).bind fun v => some (.inr (v.2.1.1, (tabBk 6 v.2.2.1 : fn54))) else none))) (fun x => by kernel_rfl) (fun x z => by kernel_rfl) (fun x y k => by rcases y with y | y <;> kernel_rfl) (fun x y => by rcases y with y | y <;> exact nofun) (fun x z => by kernel_rfl) (fun x y => by rcases y with y | y <;> kernel_rfl) (fun x z k => by kernel_rfl)
def fn8_p : TCode Tb := Dc 19 [cp fn8_q0] 0x843b6cf0f76248ab7a9ec4317649dd3a01e
def fn8_w : Orc Tb := mkOrc (Y := Int × Int × fn54) tab [bsS, .g (.clo 131 [] [.ref 0 0, .ref 1 0])] [[iS], hS1] (fun x h => fn8 x.1 h.1.1 (tabBk 6 h.2.1 : fn54)) (fun _ y k => k (.n .i64 y.1) [[.n .i64 y.2.1], (injL tab hS1 (tabUn 6 y.2.2))])
theorem fn8_k : WK fn8_w 153 := orcD (Y := Int × Int × fn54) (c := fn8_p) (res := [.tmp 4]) (n := 19) (R := (RSp.one (Y := Int × Int × fn54) tab (iS) [[iS], hS1] (fun a b => (a, b.1.1, (tabBk 6 b.2.1 : fn54))) (fun y => y.1) (fun y => ((y.2.1, ()), (y.2.2.Kind, y.2.2.Dup, y.2.2.Retain, y.2.2.QoS, y.2.2.Id, y.2.2.Clean, y.2.2.Keep, y.2.2.Client, y.2.2.HasWill, y.2.2.HasUser, y.2.2.HasPass, y.2.2.WillQoS, y.2.2.WillRetain, y.2.2.WillProps, y.2.2.WillTopic, y.2.2.WillLoad, y.2.2.User, y.2.2.Pass, y.2.2.Present, y.2.2.Code, y.2.2.Topic, y.2.2.Load, y.2.2.Filters, y.2.2.Codes, y.2.2.Props, ()), ())))) fn8_rk oneD Tryz.func153 dK
def fn5_r : Orcs Tb := [(153, fn8_w)]
theorem fn5_rk : RK fn5_r := (yv739 fn8_k yv763)
def fn5_p : TCode Tb := Dc 9 [] 0x129007500e10144311374804835b3801e
def fn5_w : Orc Tb := mkOrc (Y := Bool × Int × fn54) tab [bsS, .g (.clo 131 [] [.ref 0 0, .ref 1 0])] [[iS], hS1] (fun x h => fn5 x.1 h.1.1 (tabBk 6 h.2.1 : fn54)) (fun _ y k => k (.b y.1) [[.n .i64 y.2.1], (injL tab hS1 (tabUn 6 y.2.2))])
theorem fn5_k : WK fn5_w 130 := orcD (Y := Bool × Int × fn54) (c := fn5_p) (res := [.tmp 4]) (n := 9) (R := (RSp.one (Y := Bool × Int × fn54) tab (bS) [[iS], hS1] (fun a b => (a, b.1.1, (tabBk 6 b.2.1 : fn54))) (fun y => y.1) (fun y => ((y.2.1, ()), (y.2.2.Kind, y.2.2.Dup, y.2.2.Retain, y.2.2.QoS, y.2.2.Id, y.2.2.Clean, y.2.2.Keep, y.2.2.Client, y.2.2.HasWill, y.2.2.HasUser, y.2.2.HasPass, y.2.2.WillQoS, y.2.2.WillRetain, y.2.2.WillProps, y.2.2.WillTopic, y.2.2.WillLoad, y.2.2.User, y.2.2.Pass, y.2.2.Present, y.2.2.Code, y.2.2.Topic, y.2.2.Load, y.2.2.Filters, y.2.2.Codes, y.2.2.Props, ()), ())))) fn5_rk oneD Tryz.func130 dK
def fn61_r : Orcs Tb := [(126, fn46_w), (130, fn5_w)]
theorem fn61_rk : RK fn61_r := (yv739 fn46_k (yv739 fn5_k yv763))
def fn61_p0 : TCode Tb := Dc 27 [] 0x16cbdd046aa1ad97e6a586e23eaa2386c2c1197e3777ab333b14a8002deaf1041f7a466901d1ce
def fn61_s0 : SSh := ⟨[(2, rS 0 0), (3, rS 1 0)], [[iS], hS1]⟩
def fn61_o0 : Cut Tb := cutJ tab 0 fn61_s0 (fun _ x k => fn61_c0 x.2.1.1 (tabBk 6 x.2.2.1 : fn54) (fun y9 y10 y11 => k .ret ⟨[(4, .b y9)], [[.n .i64 y10], (injL tab hS1 (tabUn 6 y11))]⟩))
theorem fn61_q0 : CK fn61_o0 0 fn61_p0 := cutJD fn61_rk dK
def fn61_p : TCode Tb := Dc 27 [cp fn61_q0] 0x1ac4b823e877a5bb88f4d20a2fa8521d88563285a067723043d178d23a09c5d025bb9baa884f38804a620c3e
def fn61_w : Orc Tb := mkOrc (Y := Bool) tab [iS, .g (.st 6)] [] (fun x h => fn61 x.1 (x.2.1 : fn54)) (fun _ y k => k (.b y) [])
theorem fn61_k : WK fn61_w 92 := orcD (Y := Bool) (c := fn61_p) (res := [.tmp 4]) (n := 27) (R := (RSp.one (Y := Bool) tab (bS) [] (fun a b => a) (fun y => y) (fun y => ()))) fn61_rk oneD Tryz.func92 dK
def fn93_r : Orcs Tb := [(88, fn32_w), (89, fn58_w), (90, fn33_w), (91, fn34_w), (92, fn61_w), (87, fn108_w)]
theorem fn93_rk : RK fn93_r := (yv739 fn32_k (yv739 fn58_k (yv739 fn33_k (yv739 fn34_k (yv739 fn61_k (yv739 fn108_k yv763))))))
def fn93_p2 : TCode Tb := Dc 98 [] 0xd2c8626ca5ddc56c59f12dd59ef39e10eced7fc0fd5428bf46ee45cad33acf93d14d15a7faddc527b7a6a9f751cf460212703db1c43e8d31847357dd07bb6ffbe240ac58f07d209f990eb99c1fb97f63c7fec7e4347c6324bacd1acb8aebf383ec0f9df4c8f011fc3094e4346e0beda277cb5
def fn93_s2 : SSh := ⟨[(0, iS), (3, rS 0 0), (8, iS), (59, bS)], [hS1]⟩
def fn93_o2 : Cut Tb := cutJ tab 0 fn93_s2 (fun _ x k => fn93_c2 x.1.1 x.1.2.2.1 x.1.2.2.2.1 (tabBk 6 x.2.1 : fn54) (fun y24 => k .ret ⟨[(4, .b y24)], [(injL tab hS1 x.2.1)]⟩) (fun y25 y26 => k .ret ⟨[(4, .b y25)], [(injL tab hS1 x.2.1), [.u8 y26.Id, .u32 y26.N, .s y26.A, .s y26.B]]⟩) (k .normal ⟨[(0, .n .i64 x.1.1), (3, .ref 0 0)], [(injL tab hS1 x.2.1)]⟩))
theorem fn93_q2 : CK fn93_o2 0 fn93_p2 := cutJD fn93_rk dK
def fn93_p1 : TCode Tb := Dc 98 [cp fn93_q2] 0xa91d6558ae2f1bcc39138241ad66ba20594b837eeb69a401a24bae96845de446ef50b4c4b5b51b45ffd1714f052e2366fbe0dba6467a58afcf805
def fn93_s1 : SSh := ⟨[(0, iS), (3, rS 0 0), (8, iS), (48, bS)], [hS1]⟩
def fn93_o1 : Cut Tb := cutJ tab 0 fn93_s1 (fun _ x k => fn93_c1 x.1.1 x.1.2.2.1 x.1.2.2.2.1 (tabBk 6 x.2.1 : fn54) (fun y33 => k .ret ⟨[(4, .b y33)], [(injL tab hS1 x.2.1)]⟩) (fun y34 y35 => k .ret ⟨[(4, .b y34)], [(injL tab hS1 x.2.1), [.u8 y35.Id, .u32 y35.N, .s y35.A, .s y35.B]]⟩) (k .normal ⟨[(0, .n .i64 x.1.1), (3, .ref 0 0)], [(injL tab hS1 x.2.1)]⟩))
theorem fn93_q1 : CK fn93_o1 0 fn93_p1 := cutJD fn93_rk dK
def fn93_p0 : TCode Tb := Dc 98 [cp fn93_q1] 0xa723601ec1bbc14add3c5caa51afd67e842027ae672aabe08701705fe0d2c186cfb4ad902080ec2ef60b3fb3aa2366fbe09f2ca1ca571323755
def fn93_s0 : SSh := ⟨[(0, iS), (3, rS 0 0), (8, iS), (37, bS)], [hS1]⟩
def fn93_o0 : Cut Tb := cutJ tab 0 fn93_s0 (fun _ x k => fn93_c0 x.1.1 x.1.2.2.1 x.1.2.2.2.1 (tabBk 6 x.2.1 : fn54) (fun y42 => k .ret ⟨[(4, .b y42)], [(injL tab hS1 x.2.1)]⟩) (fun y43 y44 => k .ret ⟨[(4, .b y43)], [(injL tab hS1 x.2.1), [.u8 y44.Id, .u32 y44.N, .s y44.A, .s y44.B]]⟩) (k .normal ⟨[(0, .n .i64 x.1.1), (3, .ref 0 0)], [(injL tab hS1 x.2.1)]⟩))
theorem fn93_q0 : CK fn93_o0 0 fn93_p0 := cutJD fn93_rk dK
def fn93_p3 : TCode Tb := Dc 98 [] 0x12736ea8c7e8e596c43057cb303237320cd2f66f97063c04ba6b0aa456400120ff98d06deb301ce
def fn93_s3 : SSh := ⟨[(0, iS), (3, rS 0 0)], [hS1]⟩
def fn93_o3 : Cut Tb := cutJ tab 0 fn93_s3 (fun _ x k => fn93_c3 x.1.1 (tabBk 6 x.2.1 : fn54) (fun y54 => k .ret ⟨[(4, .b y54)], [(injL tab hS1 x.2.1)]⟩))
theorem fn93_q3 : CK fn93_o3 0 fn93_p3 := cutJD fn93_rk dK
def fn93_p : TCode Tb := Dc 98 [cp fn93_q0, cp fn93_q3] 0x3092e982eeb7280e82fca7779b08166195d3e34eab27b06ee129e7bbd5bbf52fd58849ab597e88d799872fcd7ea65080e7520776f91f293d75bc0865db3932b7c93dc96c8a624fa25b0c7fceb4af54d0ced2e08ff9a6d161bf6b3d35db11f659f828cbc398a9f36df709dc6274142ecc7154029672d6d12dc7cb199730abde03584455e0fadd08bf5bedefe0b593880a8223087c6bd019ed8f9073270c2e
def fn93_w : Orc Tb := mkOrc (Y := Bool) tab [iS, .g (.st 6)] [] (fun x h => fn93 x.1 (x.2.1 : fn54)) (fun _ y k => k (.b y) [])
theorem fn93_k : WK fn93_w 43 := orcD (Y := Bool) (c := fn93_p) (res := [.tmp 4]) (n := 98) (R := (RSp.one (Y := Bool) tab (bS) [] (fun a b => a) (fun y => y) (fun y => ()))) fn93_rk oneD Tryz.func43 dK
def fn14_r : Orcs Tb := []
theorem fn14_rk : RK fn14_r := yv763
def fn14_p : TCode Tb := Dc 8 [] 0x44000062141485ca78468e114a00fc682445094e44f8090171a29401e
def fn14_w : Orc Tb := mkOrc (Y := (Option (List UInt8))) tab [bsS] [] (fun x h => fn14 x.1) (fun _ y k => k (.bo y) [])
theorem fn14_k : WK fn14_w 105 := orcD (Y := (Option (List UInt8))) (c := fn14_p) (res := [.tmp 2]) (n := 8) (R := (RSp.one (Y := (Option (List UInt8))) tab (boS) [] (fun a b => a) (fun y => y) (fun y => ()))) fn14_rk oneD Tryz.func105 dK
def fn109_r : Orcs Tb := [(105, fn14_w)]
theorem fn109_rk : RK fn109_r := (yv739 fn14_k yv763)
def fn109_p : TCode Tb := Dc 10 [] 0x14a00019500230640014250765045a29401e
def fn109_w : Orc Tb := mkOrc (Y := (Option (List UInt8))) tab [bsS, u8S] [] (fun x h => fn109 x.1 x.2.1) (fun _ y k => k (.bo y) [])
theorem fn109_k : WK fn109_w 108 := orcD (Y := (Option (List UInt8))) (c := fn109_p) (res := [.tmp 4]) (n := 10) (R := (RSp.one (Y := (Option (List UInt8))) tab (boS) [] (fun a b => a) (fun y => y) (fun y => ()))) fn109_rk oneD Tryz.func108 dK
def fn134_r : Orcs Tb := [(105, fn14_w)]
theorem fn134_rk : RK fn134_r := (yv739 fn14_k yv763)
def fn134_p : TCode Tb := Dc 14 [] 0x2c37008c03ac2ef604b1130000ab9825a8c0f2bc001c33d7270179629401e
def fn134_w : Orc Tb := mkOrc (Y := (Option (List UInt8))) tab [bsS, u16S] [] (fun x h => fn134 x.1 x.2.1) (fun _ y k => k (.bo y) [])
theorem fn134_k : WK fn134_w 111 := orcD (Y := (Option (List UInt8))) (c := fn134_p) (res := [.tmp 4]) (n := 14) (R := (RSp.one (Y := (Option (List UInt8))) tab (boS) [] (fun a b => a) (fun y => y) (fun y => ()))) fn134_rk oneD Tryz.func111 dK
def fn110_r : Orcs Tb := [(111, fn134_w)]
theorem fn110_rk : RK fn110_r := (yv739 fn134_k yv763)
def fn110_p : TCode Tb := Dc 13 [] 0x46cd4048f685c6d7d19b2c010819e6d5c47a2571aaa65e8a068151729401e
def fn110_w : Orc Tb := mkOrc (Y := (Option (List UInt8))) tab [bsS, u32S] [] (fun x h => fn110 x.1 x.2.1) (fun _ y k => k (.bo y) [])
theorem fn110_k : WK fn110_w 172 := orcD (Y := (Option (List UInt8))) (c := fn110_p) (res := [.tmp 4]) (n := 13) (R := (RSp.one (Y := (Option (List UInt8))) tab (boS) [] (fun a b => a) (fun y => y) (fun y => ()))) fn110_rk oneD Tryz.func172 dK
def fn135_r : Orcs Tb := [(105, fn14_w)]
theorem fn135_rk : RK fn135_r := (yv739 fn14_k yv763)
def fn135_p0 : TCode Tb := Dc 26 [] 0x2c716e4d9d0b8f8961768748b7c285d335868c5f7598f4106b0478d0fd8cee5c6b3822382a843257202e3
def fn135_s0 : SSh := ⟨[(1, u32S), (5, boS)], []⟩
def fn135_o0 : Cut Tb := cutL tab 0 fn135_s0 (fun x => (x.1.1, x.1.2.1)) (fun x => fn135_l0) (fun _ x y k => k (.exit 0) ⟨[(1, .u32 y.1), (5, .bo y.2)], []⟩)
theorem fn135_q0 : CK fn135_o0 0 (.loop fn135_p0) := cutLD (Z := UInt32 × (Option (List UInt8))) (Y := UInt32 × (Option (List UInt8))) fn135_rk dK (fun _ x z b e => fn135_b0 z.1 z.2 (fun x4 x5 => b (x4, x5)) (fun y7 y8 => e (y7, y8))) (fun x z => ⟨[(1, .u32 z.1), (5, .bo z.2)], []⟩) (fun x y => ((.exit 0), ⟨[(1, .u32 y.1), (5, .bo y.2)], []⟩)) (fun t => (prjS tab 0 fn135_s0 t).bind fun x => some (x.1.1, x.1.2.1)) (fun e t => (if eqE e (.exit 0) then (prjS tab 0 ⟨[(1, u32S), (5, boS)], []⟩ t).bind fun v => some (v.1.1, v.1.2.1) else none))
def fn135_p : TCode Tb := Dc 26 [cp fn135_q0] 0x5dc40c0783303a9605e9ad5246eac0f81220b1bb3a7a41070e61cf4de43dd49f57cb963e80800551c72fc1065029401e
def fn135_w : Orc Tb := mkOrc (Y := (Option (List UInt8))) tab [bsS, u32S] [] (fun x h => fn135 x.1 x.2.1) (fun _ y k => k (.bo y) [])
theorem fn135_k : WK fn135_w 65 := orcD (Y := (Option (List UInt8))) (c := fn135_p) (res := [.tmp 4]) (n := 26) (R := (RSp.one (Y := (Option (List UInt8))) tab (boS) [] (fun a b => a) (fun y => y) (fun y => ()))) fn135_rk oneD Tryz.func65 dK
def fn136_r : Orcs Tb := [(105, fn14_w), (111, fn134_w)]
theorem fn136_rk : RK fn136_r := (yv739 fn14_k (yv739 fn134_k yv763))
def fn136_p : TCode Tb := Dc 17 [] 0x222737311f866125e8567dd336995deb98e62d4f105fbd4c7f5c1b05f29230dea54185f9bb883cf0f252421729401e
def fn136_w : Orc Tb := mkOrc (Y := (Option (List UInt8))) tab [bsS, sS] [] (fun x h => fn136 x.1 x.2.1) (fun _ y k => k (.bo y) [])
theorem fn136_k : WK fn136_w 139 := orcD (Y := (Option (List UInt8))) (c := fn136_p) (res := [.tmp 4]) (n := 17) (R := (RSp.one (Y := (Option (List UInt8))) tab (boS) [] (fun a b => a) (fun y => y) (fun y => ()))) fn136_rk oneD Tryz.func139 dK
def fn111_r : Orcs Tb := [(118, fn107_w), (108, fn109_w), (111, fn134_w), (172, fn110_w), (65, fn135_w), (139, fn136_w)]
theorem fn111_rk : RK fn111_r := (yv739 fn107_k (yv739 fn109_k (yv739 fn134_k (yv739 fn110_k (yv739 fn135_k (yv739 fn136_k yv763))))))
def fn111_p : TCode Tb := Dc 52 [] 0x2f9a54095b579662bb1231175531a6f0b093e2f68c155e277a8bbf5f957847e8864abfe9ff4100e3898050254cbe2a09e62b8fefa81ee55ca60f736d9dbe3a336ebbd33768fad738331ff975077e44f1a9b6f0aba3dd81a1e9127a438211f2a69c5140851ba40d1e594e3ee6e85b123477aa6614b6ee91a19d3eb8db98eeffd036d1bd921d4999432f619a3dc90e69cd39bc9266a4aa6c64a1989a18b482b371b22a2cf7dd032a47026fa5a097ce52012ad3888cd0786bd407938a7826229f7724c8a41b4a2b0c2e
def fn111_w : Orc Tb := mkOrc (Y := (Option (List UInt8))) tab [boS, .g (.st 4)] [] (fun x h => fn111 x.1 (x.2.1 : fn132)) (fun _ y k => k (.bo y) [])
theorem fn111_k : WK fn111_w 163 := orcD (Y := (Option (List UInt8))) (c := fn111_p) (res := [.tmp 4]) (n := 52) (R := (RSp.one (Y := (Option (List UInt8))) tab (boS) [] (fun a b => a) (fun y => y) (fun y => ()))) fn111_rk oneD Tryz.func163 dK
def fn48_r : Orcs Tb := [(117, fn87_w), (163, fn111_w)]
theorem fn48_rk : RK fn48_r := (yv739 fn87_k (yv739 fn111_k yv763))
def fn48_s1 : SSh := ⟨[(4, boS), (7, lS 4), (8, iS), (9, iS)], []⟩
def fn48_o1 : Cut Tb := cutJ tab 0 fn48_s1 (fun _ x k => k .normal ⟨[(4, .bo x.1.1), (7, .sl 4 x.1.2.1), (8, .n .i64 x.1.2.2.1), (9, .n .i64 x.1.2.2.2.1)], []⟩)
theorem fn48_q1 : CK fn48_o1 0 .skip := yv771 (c := .skip) tabOk fn48_rk trivial (fun _ _ => by kernel_rfl)
def fn48_p0 : TCode Tb := Dc 24 [cp fn48_q1] 0xa03223bb328e109d7614dcd77fc85d2834221cdf37939adef9a57bc8a9ef88b0e48759a012b719dda00510d20c91e2b1a9631a139f2ec1fe5de9fc2074f4af31bad98e1c32d1e0a
def fn48_s0 : SSh := ⟨[(4, boS), (7, lS 4), (8, iS), (9, iS)], []⟩
def fn48_o0 : Cut Tb := cutL tab 0 fn48_s0 (fun x => (x.1.1, x.1.2.2.2.1)) (fun x => fn48_l0 x.1.2.1 x.1.2.2.1) (fun _ x y k => match y with | .inl y => k .ret ⟨[(2, .nilS), (3, .b false)], [[.u8 y.Id, .u32 y.N, .s y.A, .s y.B]]⟩ | .inr y => k (.exit 0) ⟨[(4, .bo y)], []⟩)
theorem fn48_q0 : CK fn48_o0 0 (.loop fn48_p0) := yv772 (c := fn48_p0) (Z := (Option (List UInt8)) × Int) (Y := fn132 ⊕ ((Option (List UInt8)))) tabOk fn48_rk dK (fun _ x z b e => fn48_b0 x.1.2.1 x.1.2.2.1 z.1 z.2 (fun x2 x5 => b (x2, x5)) (fun y13 => e (.inl y13)) (fun y14 => e (.inr y14))) (fun x z => ⟨[(4, .bo z.1), (7, .sl 4 x.1.2.1), (8, .n .i64 x.1.2.2.1), (9, .n .i64 z.2)], []⟩) (fun x y => match y with | .inl y => (.ret, ⟨[(2, .nilS), (3, .b false)], [[.u8 y.Id, .u32 y.N, .s y.A, .s y.B]]⟩) | .inr y => ((.exit 0), ⟨[(4, .bo y)], []⟩)) (fun t => (prjS tab 0 fn48_s0 t).bind fun x => some (x.1.1, x.1.2.2.2.1)) (fun e t => (if eqE e .ret then yv555 ((prjS tab 0 ⟨[(2, bsS), (3, .g (.f (.cb false)))], [[u8S, u32S, sS, sS]]⟩ t).bind fun v => some (.inl (tabBk 4 v.2.1 : fn132))) (if eqE e (.exit 0) then (prjS tab 0 ⟨[(4, boS)], []⟩ t).bind fun v => some (.inr v.1.1) else none) else (if eqE e (.exit 0) then (prjS tab 0 ⟨[(4, boS)], []⟩ t).bind fun v => some (.inr v.1.1) else none))) (fun x => by kernel_rfl) (fun x z => by kernel_rfl) (fun x y k => by rcases y with y | y <;> kernel_rfl) (fun x y => by rcases y with y | y <;> exact nofun) (fun x z => by kernel_rfl) (fun x y => by rcases y with y | y <;> kernel_rfl) (fun x z k => by kernel_rfl)
def fn48_p : TCode Tb := Dc 24 [cp fn48_q0] 0x3876cf87ff46bf01b68400d4581ce4b2d52471497c22186bc05d48de02d240229402e
def fn48_w : Orc Tb := mkOrc (Y := (Option (List UInt8)) × Bool) tab [lS 4] [] (fun x h => fn48 x.1) (fun _ y k => k (.tup [.bs y.1, .b y.2]) [])
theorem fn48_k : WK fn48_w 157 := orcD (Y := (Option (List UInt8)) × Bool) (c := fn48_p) (res := [.tmp 2, .tmp 3]) (n := 24) (R := (RSp.one (Y := (Option (List UInt8)) × Bool) tab (.tup [.f (.a .bs), .f (.a .b)]) [] (fun a b => (a.1, a.2.1)) (fun y => (y.1, y.2, ())) (fun y => ()))) fn48_rk oneD Tryz.func157 dK
def fn112_r : Orcs Tb := [(157, fn48_w), (105, fn14_w), (65, fn135_w)]
theorem fn112_rk : RK fn112_r := (yv739 fn48_k (yv739 fn14_k (yv739 fn135_k yv763)))
def fn112_p : TCode Tb := Dc 23 [] 0x3fa6347e44e3fc5c4e854ea91a3b40345dc2c06d0df5c2ab23f4e2cacda9d0c90622eb8138218e299b6dec506811672792cbfff320042d5526a6ab5629401e
def fn112_w : Orc Tb := mkOrc (Y := (Option (List UInt8))) tab [bsS, lS 4] [] (fun x h => fn112 x.1 x.2.1) (fun _ y k => k (.bo y) [])
theorem fn112_k : WK fn112_w 140 := orcD (Y := (Option (List UInt8))) (c := fn112_p) (res := [.tmp 4]) (n := 23) (R := (RSp.one (Y := (Option (List UInt8))) tab (boS) [] (fun a b => a) (fun y => y) (fun y => ()))) fn112_rk oneD Tryz.func140 dK
def fn94_r : Orcs Tb := [(140, fn112_w)]
theorem fn94_rk : RK fn94_r := (yv739 fn112_k yv763)
def fn94_p : TCode Tb := Dc 6 [] 0xcc0002a037981f5ba181dc3a01e
def fn94_w : Orc Tb := mkOrc (Y := Int) tab [lS 4] [] (fun x h => fn94 x.1) (fun _ y k => k (.n .i64 y) [])
theorem fn94_k : WK fn94_w 113 := orcD (Y := Int) (c := fn94_p) (res := [.tmp 2]) (n := 6) (R := (RSp.one (Y := Int) tab (iS) [] (fun a b => a) (fun y => y) (fun y => ()))) fn94_rk oneD Tryz.func113 dK
def fn36_r : Orcs Tb := [(113, fn94_w)]
theorem fn36_rk : RK fn36_r := (yv739 fn94_k yv763)
def fn36_p : TCode Tb := Dc 9 [] 0x5f41377ba7887e292cdcd2cb69013403f0d774124819ff3a01e
def fn36_w : Orc Tb := mkOrc (Y := Int) tab [iS, lS 4] [] (fun x h => fn36 x.1 x.2.1) (fun _ y k => k (.n .i64 y) [])
theorem fn36_k : WK fn36_w 72 := orcD (Y := Int) (c := fn36_p) (res := [.tmp 4]) (n := 9) (R := (RSp.one (Y := Int) tab (iS) [] (fun a b => a) (fun y => y) (fun y => ()))) fn36_rk oneD Tryz.func72 dK
def fn37_r : Orcs Tb := []
theorem fn37_rk : RK fn37_r := yv763
def fn37_p : TCode Tb := Dc 6 [] 0xcc000439805a181dc3a01e
def fn37_w : Orc Tb := mkOrc (Y := Int) tab [sS] [] (fun x h => fn37 x.1) (fun _ y k => k (.n .i64 y) [])
theorem fn37_k : WK fn37_w 73 := orcD (Y := Int) (c := fn37_p) (res := [.tmp 2]) (n := 6) (R := (RSp.one (Y := Int) tab (iS) [] (fun a b => a) (fun y => y) (fun y => ()))) fn37_rk oneD Tryz.func73 dK
def fn19_r : Orcs Tb := [(72, fn36_w), (73, fn37_w)]
theorem fn19_rk : RK fn19_r := (yv739 fn36_k (yv739 fn37_k yv763))
def fn19_p1 : TCode Tb := Dc 46 [] 0x9b6d6cdebaa7da95afb22f8245e04e905aac4947f841b74cd0fd918a78f1905a2e3
def fn19_s1 : SSh := ⟨[(3, rS 0 0), (5, iS)], [hS1]⟩
def fn19_o1 : Cut Tb := cutJ tab 0 fn19_s1 (fun _ x k => fn19_c1 x.1.2.1 (tabBk 6 x.2.1 : fn54) (fun y14 => k .ret ⟨[(4, .n .i64 y14)], [(injL tab hS1 x.2.1)]⟩))
theorem fn19_q1 : CK fn19_o1 0 fn19_p1 := cutJD fn19_rk dK
def fn19_p0 : TCode Tb := Dc 46 [cp fn19_q1] 0x293934eb6d3ca245e04e905aac49aa281557dc7dcf82aa6ee1905c2e3
def fn19_s0 : SSh := ⟨[(3, rS 0 0), (5, iS)], [hS1]⟩
def fn19_o0 : Cut Tb := cutJ tab 0 fn19_s0 (fun _ x k => fn19_c0 x.1.2.1 (tabBk 6 x.2.1 : fn54) (fun y17 => k .ret ⟨[(4, .n .i64 y17)], [(injL tab hS1 x.2.1)]⟩))
theorem fn19_q0 : CK fn19_o0 0 fn19_p0 := cutJD fn19_rk dK
def fn19_p : TCode Tb := Dc 46 [cp fn19_q0] 0xcec19d3f3103b684d55452f4dc60ded9c051ed0fb930c20cba2b1ac318ab428de25543f3a27f3d8aff236113aa237a2d3aed608731d153c0dd7dba9f26fda487442b0a83a0622f0e58f11f0acc8e947c8bc09d20b55893514a971ce8a79671ecc988375af521bd5db8e2f0ff0c2e
def fn19_w : Orc Tb := mkOrc (Y := Int) tab [iS, .g (.st 6)] [] (fun x h => fn19 x.1 (x.2.1 : fn54)) (fun _ y k => k (.n .i64 y) [])
theorem fn19_k : WK fn19_w 71 := orcD (Y := Int) (c := fn19_p) (res := [.tmp 4]) (n := 46) (R := (RSp.one (Y := Int) tab (iS) [] (fun a b => a) (fun y => y) (fun y => ()))) fn19_rk oneD Tryz.func71 dK
def fn29_r : Orcs Tb := [(113, fn94_w)]
theorem fn29_rk : RK fn29_r := (yv739 fn94_k yv763)
def fn29_p0 : TCode Tb := Dc 26 [] 0x16a38a4c2cca927e3c27c60ffce69da4ae0654492a8bae95dde155
def fn29_s0 : SSh := ⟨[(3, rS 0 0), (5, bS)], [hS1]⟩
def fn29_o0 : Cut Tb := cutJ tab 0 fn29_s0 (fun _ x k => fn29_c0 x.1.2.1 (tabBk 6 x.2.1 : fn54) (fun y5 => k .ret ⟨[(4, .n .i64 y5)], [(injL tab hS1 x.2.1)]⟩) (k .normal ⟨[(3, .ref 0 0)], [(injL tab hS1 x.2.1)]⟩))
theorem fn29_q0 : CK fn29_o0 0 fn29_p0 := cutJD fn29_rk dK
def fn29_p1 : TCode Tb := Dc 26 [] 0xae4804fe105521ba5c4e3b0b5f
def fn29_s1 : SSh := ⟨[(3, rS 0 0)], [hS1]⟩
def fn29_o1 : Cut Tb := cutJ tab 0 fn29_s1 (fun _ x k => fn29_c1 (tabBk 6 x.2.1 : fn54) (fun y11 => k .ret ⟨[(4, .n .i64 y11)], [(injL tab hS1 x.2.1)]⟩))
theorem fn29_q1 : CK fn29_o1 0 fn29_p1 := cutJD fn29_rk dK
def fn29_p : TCode Tb := Dc 26 [cp fn29_q0, cp fn29_q1] 0x177b657db191440eee3c6a181e30efe7fea39315ef3ea6c19a9111230b7e80b1f2b822d38dbb991aa437c5b0ad170c2e
def fn29_w : Orc Tb := mkOrc (Y := Int) tab [iS, .g (.st 6)] [] (fun x h => fn29 x.1 (x.2.1 : fn54)) (fun _ y k => k (.n .i64 y) [])
theorem fn29_k : WK fn29_w 74 := orcD (Y := Int) (c := fn29_p) (res := [.tmp 4]) (n := 26) (R := (RSp.one (Y := Int) tab (iS) [] (fun a b => a) (fun y => y) (fun y => ()))) fn29_rk oneD Tryz.func74 dK
def fn20_r : Orcs Tb := [(73, fn37_w)]
theorem fn20_rk : RK fn20_r := (yv739 fn37_k yv763)
def fn20_s1 : SSh := ⟨[(1, rS 0 0), (3, iS), (7, lS 5), (8, iS), (9, iS)], [hS1]⟩
def fn20_o1 : Cut Tb := cutJ tab 0 fn20_s1 (fun _ x k => k .normal ⟨[(1, .ref 0 0), (3, .n .i64 x.1.2.1), (7, .sl 5 x.1.2.2.1), (8, .n .i64 x.1.2.2.2.1), (9, .n .i64 x.1.2.2.2.2.1)], [(injL tab hS1 x.2.1)]⟩)
theorem fn20_q1 : CK fn20_o1 0 .skip := yv771 (c := .skip) tabOk fn20_rk trivial (fun _ _ => by kernel_rfl)
def fn20_p0 : TCode Tb := Dc 25 [cp fn20_q1] 0x17d1656bd50022a663d5c12a27f8a25cb73088cac4d698d8fb10d62334c294771c4eed01bf702bdc3302bb01521335b9b9d203f8456541065d1879685fa06e55cd54bdf52d1e0a
def fn20_s0 : SSh := ⟨[(1, rS 0 0), (3, iS), (7, lS 5), (8, iS), (9, iS)], [hS1]⟩
def fn20_o0 : Cut Tb := cutL tab 0 fn20_s0 (fun x => (x.1.2.1, x.1.2.2.2.2.1)) (fun x => fn20_l0 x.1.2.2.1 x.1.2.2.2.1 (tabBk 6 x.2.1 : fn54)) (fun _ x y k => k (.exit 0) ⟨[(3, .n .i64 y)], [(injL tab hS1 x.2.1)]⟩)
theorem fn20_q0 : CK fn20_o0 0 (.loop fn20_p0) := cutLD (Z := Int × Int) (Y := Int) fn20_rk dK (fun _ x z b e => fn20_b0 x.1.2.2.1 x.1.2.2.2.1 (tabBk 6 x.2.1 : fn54) z.1 z.2 (fun x2 x5 => b (x2, x5)) (fun y14 => e y14)) (fun x z => ⟨[(1, .ref 0 0), (3, .n .i64 z.1), (7, .sl 5 x.1.2.2.1), (8, .n .i64 x.1.2.2.2.1), (9, .n .i64 z.2)], [(injL tab hS1 x.2.1)]⟩) (fun x y => ((.exit 0), ⟨[(3, .n .i64 y)], [(injL tab hS1 x.2.1)]⟩)) (fun t => (prjS tab 0 fn20_s0 t).bind fun x => some (x.1.2.1, x.1.2.2.2.2.1)) (fun e t => (if eqE e (.exit 0) then (prjS tab 0 ⟨[(3, iS)], [hS1]⟩ t).bind fun v => some v.1.1 else none))
def fn20_p : TCode Tb := Dc 25 [cp fn20_q0] 0x13caf5256c31a73b54c690efe3730a5354e31a01e1a000c2e
def fn20_w : Orc Tb := mkOrc (Y := Int) tab [.g (.st 6)] [] (fun x h => fn20 (x.1 : fn54)) (fun _ y k => k (.n .i64 y) [])
theorem fn20_k : WK fn20_w 75 := orcD (Y := Int) (c := fn20_p) (res := [.tmp 2]) (n := 25) (R := (RSp.one (Y := Int) tab (iS) [] (fun a b => a) (fun y => y) (fun y => ()))) fn20_rk oneD Tryz.func75 dK
def fn73_r : Orcs Tb := [(71, fn19_w), (72, fn36_w), (73, fn37_w), (74, fn29_w), (75, fn20_w)]
theorem fn73_rk : RK fn73_r := (yv739 fn19_k (yv739 fn36_k (yv739 fn37_k (yv739 fn29_k (yv739 fn20_k yv763)))))
def fn73_p3 : TCode Tb := Dc 78 [] 0x47edf3debee8307047dcf08d6173b4f6b73985
def fn73_s3 : SSh := ⟨[(0, iS), (3, rS 0 0), (72, bS)], [hS1]⟩
def fn73_o3 : Cut Tb := cutJ tab 0 fn73_s3 (fun _ x k => fn73_c3 x.1.1 x.1.2.2.1 (tabBk 6 x.2.1 : fn54) (fun y27 => k .ret ⟨[(4, .n .i64 y27)], [(injL tab hS1 x.2.1)]⟩) (k .normal ⟨[], [(injL tab hS1 x.2.1)]⟩))
theorem fn73_q3 : CK fn73_o3 0 fn73_p3 := cutJD fn73_rk dK
def fn73_p2 : TCode Tb := Dc 78 [cp fn73_q3] 0x23d2f8655fa98e49288e7e74d369eafd166f4f6abcc146118d0945e63c398e2739b9437151f69493a138e4cabec6dcc9360aa91c45ed824bb24222c66c5
def fn73_s2 : SSh := ⟨[(0, iS), (3, rS 0 0), (7, iS), (60, bS)], [hS1]⟩
def fn73_o2 : Cut Tb := cutJ tab 0 fn73_s2 (fun _ x k => fn73_c2 x.1.1 x.1.2.2.1 x.1.2.2.2.1 (tabBk 6 x.2.1 : fn54) (fun y30 => k .ret ⟨[(3, .ref 0 0), (4, .n .i64 y30)], [(injL tab hS1 x.2.1)]⟩) (fun y31 => k .ret ⟨[(4, .n .i64 y31)], [(injL tab hS1 x.2.1)]⟩) (k .normal ⟨[], [(injL tab hS1 x.2.1)]⟩))
theorem fn73_q2 : CK fn73_o2 0 fn73_p2 := cutJD fn73_rk dK
def fn73_p1 : TCode Tb := Dc 78 [cp fn73_q2] 0xe782045607f80625e3f862fd9fa118870932eb8b218e5ccbf9e478731dc4ad5aefd5e004dc2cd8df46151c4dcc9360aa91c45e887dd2b03655a615
def fn73_s1 : SSh := ⟨[(0, iS), (3, rS 0 0), (7, iS), (49, bS)], [hS1]⟩
def fn73_o1 : Cut Tb := cutJ tab 0 fn73_s1 (fun _ x k => fn73_c1 x.1.1 x.1.2.2.1 x.1.2.2.2.1 (tabBk 6 x.2.1 : fn54) (fun y36 => k .ret ⟨[(3, .ref 0 0), (4, .n .i64 y36)], [(injL tab hS1 x.2.1)]⟩) (fun y37 => k .ret ⟨[(4, .n .i64 y37)], [(injL tab hS1 x.2.1)]⟩) (k .normal ⟨[], [(injL tab hS1 x.2.1)]⟩))
theorem fn73_q1 : CK fn73_o1 0 fn73_p1 := cutJD fn73_rk dK
def fn73_p0 : TCode Tb := Dc 78 [cp fn73_q1] 0x2ecda9ce88b853ce0de25988359232ef41ed276a6cfa11cb776a2eb0c77165514b12d8059a3a016585
def fn73_s0 : SSh := ⟨[(0, iS), (3, rS 0 0), (7, iS), (40, bS)], [hS1]⟩
def fn73_o0 : Cut Tb := cutJ tab 0 fn73_s0 (fun _ x k => fn73_c0 x.1.1 x.1.2.2.1 x.1.2.2.2.1 (tabBk 6 x.2.1 : fn54) (fun y42 => k .ret ⟨[(4, .n .i64 y42)], [(injL tab hS1 x.2.1)]⟩) (fun y43 => k .ret ⟨[(3, .ref 0 0), (4, .n .i64 y43)], [(injL tab hS1 x.2.1)]⟩) (k .normal ⟨[], [(injL tab hS1 x.2.1)]⟩))
theorem fn73_q0 : CK fn73_o0 0 fn73_p0 := cutJD fn73_rk dK
def fn73_p : TCode Tb := Dc 78 [cp fn73_q0] 0x78c37865721ea9e78a998e1533bfed3f904ffbb34ff72802eaac42f38488071e8c26d9ae674a898603acce123caeaeb344438a4d4132761b63a7cfe4858dd77b96f0f388b9b53988e85a7caa4515ddc8ef28dbbb84b93d9147efb3c9e361716afa1cb19f6b4c69908022e53b5aab5ee017b22370375183a582ab77f07b3fe16b7aa331d096d3867a47806012fac3d4bba858f30eebdc2d32488b18df952dcafc481f3989ad478fdfed07686466e38d91e3b74fb395153803d93a0bc78021863da732b3f9dd35f73f0c2e
def fn73_w : Orc Tb := mkOrc (Y := Int) tab [iS, .g (.st 6)] [] (fun x h => fn73 x.1 (x.2.1 : fn54)) (fun _ y k => k (.n .i64 y) [])
theorem fn73_k : WK fn73_w 37 := orcD (Y := Int) (c := fn73_p) (res := [.tmp 4]) (n := 78) (R := (RSp.one (Y := Int) tab (iS) [] (fun a b => a) (fun y => y) (fun y => ()))) fn73_rk oneD Tryz.func37 dK
def fn62_r : Orcs Tb := [(40, fn67_w), (22, fn68_w), (41, fn56_w), (42, fn70_w), (43, fn93_w), (37, fn73_w)]
theorem fn62_rk : RK fn62_r := (yv739 fn67_k (yv739 fn68_k (yv739 fn56_k (yv739 fn70_k (yv739 fn93_k (yv739 fn73_k yv763))))))
def fn62_p0 : TCode Tb := Dc 68 [] 0x397527b1e7282c588fdafb3099e0958c3a1e985a6d7a10279d4e325ddcb4ef1b4120d869de20bdae3ba384c2f65075991d23a6055
def fn62_s0 : SSh := ⟨[(0, iS), (3, rS 0 0), (5, bS)], [hS1]⟩
def fn62_o0 : Cut Tb := cutJ tab 0 fn62_s0 (fun _ x k => fn62_c0 x.1.1 x.1.2.2.1 (tabBk 6 x.2.1 : fn54) (fun y6 => k .normal ⟨[(0, .n .i64 x.1.1), (3, .ref 0 0), (5, .b y6)], [(injL tab hS1 x.2.1)]⟩) (k .normal ⟨[(0, .n .i64 x.1.1), (3, .ref 0 0), (5, .b false), (21, .tup []), (22, .tup [])], [(injL tab hS1 x.2.1)]⟩))
theorem fn62_q0 : CK fn62_o0 0 fn62_p0 := cutJD fn62_rk dK
def fn62_p2 : TCode Tb := Dc 68 [] 0x5273aac6134ddbbdac767826a07a788ff3d5c90eea2b7ad5b8771087729854574cb4d4015c35dc76bd9020bf5754e98e21ec2c4b7a077ef95
def fn62_s2 : SSh := ⟨[(0, iS), (3, rS 0 0), (25, bS)], [hS1]⟩
def fn62_o2 : Cut Tb := cutJ tab 0 fn62_s2 (fun _ x k => fn62_c2 x.1.1 x.1.2.2.1 (tabBk 6 x.2.1 : fn54) (k .ret ⟨[(4, .b false)], [(injL tab hS1 x.2.1)]⟩) (k .normal ⟨[(0, .n .i64 x.1.1), (3, .ref 0 0)], [(injL tab hS1 x.2.1)]⟩))
theorem fn62_q2 : CK fn62_o2 0 fn62_p2 := cutJD fn62_rk dK
def fn62_p1 : TCode Tb := Dc 68 [cp fn62_q2] 0x5d0c70889db87d1a05784b2238c3c8273c56d6720770e1c40967e0a49d48a133073c3520b92492adb48c2c4b1a127ee55
def fn62_s1 : SSh := ⟨[(0, iS), (3, rS 0 0), (5, bS)], [hS1]⟩
def fn62_o1 : Cut Tb := cutJ tab 0 fn62_s1 (fun _ x k => fn62_c1 x.1.1 x.1.2.2.1 (tabBk 6 x.2.1 : fn54) (k .ret ⟨[(4, .b false)], [(injL tab hS1 x.2.1)]⟩) (k .normal ⟨[(0, .n .i64 x.1.1), (3, .ref 0 0)], [(injL tab hS1 x.2.1)]⟩))
theorem fn62_q1 : CK fn62_o1 0 fn62_p1 := cutJD fn62_rk dK
def fn62_p3 : TCode Tb := Dc 68 [] 0x21c299e9069050d9debae17504641623c65fa3aa50eff38382725506e8cacad8df6ed750a207f720f6a8affa48305799e6cb094a3539d146ba468014844268c0d4578b1e94f252ee
def fn62_s3 : SSh := ⟨[(0, iS), (3, rS 0 0)], [hS1]⟩
def fn62_o3 : Cut Tb := cutJ tab 0 fn62_s3 (fun _ x k => fn62_c3 x.1.1 (tabBk 6 x.2.1 : fn54) (fun y24 => k .ret ⟨[(4, .b y24)], [(injL tab hS1 x.2.1)]⟩))
theorem fn62_q3 : CK fn62_o3 0 fn62_p3 := cutJD fn62_rk dK
def fn62_p : TCode Tb := Dc 68 [cp fn62_q0, cp fn62_q1, cp fn62_q3] 0x5511fde2f3b33c708b97b64e5e5ef00e9eb92879210e4628374dae749fde18d4b0c2e
def fn62_w : Orc Tb := mkOrc (Y := Bool) tab [iS, .g (.st 6)] [] (fun x h => fn62 x.1 (x.2.1 : fn54)) (fun _ y k => k (.b y) [])
theorem fn62_k : WK fn62_w 16 := orcD (Y := Bool) (c := fn62_p) (res := [.tmp 4]) (n := 68) (R := (RSp.one (Y := Bool) tab (bS) [] (fun a b => a) (fun y => y) (fun y => ()))) fn62_rk oneD Tryz.func16 dK
def fn98_r : Orcs Tb := []
theorem fn98_rk : RK fn98_r := yv763
def fn98_p : TCode Tb := Dc 7 [] 0x16bfe9e050869313824b2404dcd3380d39235401e
def fn98_w : Orc Tb := mkOrc (Y := UInt8) tab [bS, u8S] [] (fun x h => fn98 x.1 x.2.1) (fun _ y k => k (.u8 y) [])
theorem fn98_k : WK fn98_w 69 := orcD (Y := UInt8) (c := fn98_p) (res := [.tmp 4]) (n := 7) (R := (RSp.one (Y := UInt8) tab (u8S) [] (fun a b => a) (fun y => y) (fun y => ()))) fn98_rk oneD Tryz.func69 dK
def fn64_r : Orcs Tb := [(69, fn98_w)]
theorem fn64_rk : RK fn64_r := (yv739 fn98_k yv763)
def fn64_p : TCode Tb := Dc 22 [] 0x4852831a661e42d4d5602bf63d22b47b85cdbf8808c7faf5ce35b408f4c2d968cbd798a425b51e5732c5c048278218679d4fb6a1b8f2649c4042c61ec0953df24a9e38e7ca0a632baf68b79fdd4c0d3c34dbad35bef209db89e781c04a2c1bbf84110797bb9a8f18eff4840163252e30354000c2e
def fn64_w : Orc Tb := mkOrc (Y := UInt8) tab [.g (.st 6)] [] (fun x h => fn64 (x.1 : fn54)) (fun _ y k => k (.u8 y) [])
theorem fn64_k : WK fn64_w 35 := orcD (Y := UInt8) (c := fn64_p) (res := [.tmp 2]) (n := 22) (R := (RSp.one (Y := UInt8) tab (u8S) [] (fun a b => a) (fun y => y) (fun y => ()))) fn64_rk oneD Tryz.func35 dK
def fn39_r : Orcs Tb := [(140, fn112_w)]
theorem fn39_rk : RK fn39_r := (yv739 fn112_k yv763)
def fn39_p : TCode Tb := Dc 13 [] 0xc4992a5fb1dfc0daab3777b207aeb2e66961f5890641ac41a9c258d29401e
def fn39_w : Orc Tb := mkOrc (Y := (Option (List UInt8))) tab [iS, bsS, lS 4] [] (fun x h => fn39 x.1 x.2.1 x.2.2.1) (fun _ y k => k (.bs y) [])
theorem fn39_k : WK fn39_w 107 := orcD (Y := (Option (List UInt8))) (c := fn39_p) (res := [.tmp 6]) (n := 13) (R := (RSp.one (Y := (Option (List UInt8))) tab (bsS) [] (fun a b => a) (fun y => y) (fun y => ()))) fn39_rk oneD Tryz.func107 dK
def fn40_r : Orcs Tb := [(69, fn98_w), (139, fn136_w), (108, fn109_w), (111, fn134_w), (107, fn39_w)]
theorem fn40_rk : RK fn40_r := (yv739 fn98_k (yv739 fn136_k (yv739 fn109_k (yv739 fn134_k (yv739 fn39_k yv763)))))
def fn40_p1 : TCode Tb := Dc 75 [] 0x77ac4814c561e25f2eb4b48096cff55e28f663386dc7a2fd6682617cf78905a2e3
def fn40_s1 : SSh := ⟨[(1, boS), (5, rS 0 0)], [hS1]⟩
def fn40_o1 : Cut Tb := cutJ tab 0 fn40_s1 (fun _ x k => fn40_c1 x.1.1 (tabBk 6 x.2.1 : fn54) (fun y24 => k .ret ⟨[(6, .bo y24)], [(injL tab hS1 x.2.1)]⟩))
theorem fn40_q1 : CK fn40_o1 0 fn40_p1 := cutJD fn40_rk dK
def fn40_p0 : TCode Tb := Dc 75 [cp fn40_q1] 0x80ca4621e368f5a0ff55e28f6a9eceb6690121667767c168905c2e3
def fn40_s0 : SSh := ⟨[(1, boS), (5, rS 0 0)], [hS1]⟩
def fn40_o0 : Cut Tb := cutJ tab 0 fn40_s0 (fun _ x k => fn40_c0 x.1.1 (tabBk 6 x.2.1 : fn54) (fun y27 => k .ret ⟨[(6, .bo y27)], [(injL tab hS1 x.2.1)]⟩))
theorem fn40_q0 : CK fn40_o0 0 fn40_p0 := cutJD fn40_rk dK
def fn40_p : TCode Tb := Dc 75 [cp fn40_q0] 0x48c4e203eaf36675a69a30927f9fb48b890a30c8398d09f7150c2db705c91bc4b3d1b3aa63f7b35a3f8237e08f5bcac2b768937b36d5197583bac729c0c6aed45711a9e9ab6f566455c8703a39411fb58e544fa184b8d1fd5b3dd838f87cb51ff4dc82b00aaf941f702472d212a6c99b4809f91d9f5b26c3ca0a4b707111e3e935ae1bd28033a88cda68f9c564925bd87a26359bb8feecb9de6f3d7fa36b2c0f31fc29a42c0bc5675f4271ff2414cfe9c9caba4017ddd375c8e6894a62e035824d267e9e010bd631f74e725a153bc6952e244916b75957cf8013364f7889d30a3426b71e524659dc9998d6e1b7a9fe123fa7272ed41e50ec5ed80c87ecf75950640c0b0c2e
def fn40_w : Orc Tb := mkOrc (Y := (Option (List UInt8))) tab [iS, bsS, .g (.st 6)] [] (fun x h => fn40 x.1 x.2.1 (x.2.2.1 : fn54)) (fun _ y k => k (.bo y) [])
theorem fn40_k : WK fn40_w 106 := orcD (Y := (Option (List UInt8))) (c := fn40_p) (res := [.tmp 6]) (n := 75) (R := (RSp.one (Y := (Option (List UInt8))) tab (boS) [] (fun a b => a) (fun y => y) (fun y => ()))) fn40_rk oneD Tryz.func106 dK
def fn12_r : Orcs Tb := []
theorem fn12_rk : RK fn12_r := yv763
def fn12_p : TCode Tb := Dc 8 [] 0x44000062141485ca78468e114a00fc682445094e44f8090171a29401e
def fn12_w : Orc Tb := mkOrc (Y := (Option (List UInt8))) tab [boS] [] (fun x h => fn12 x.1) (fun _ y k => k (.bo y) [])
theorem fn12_k : WK fn12_w 105 := orcD (Y := (Option (List UInt8))) (c := fn12_p) (res := [.tmp 2]) (n := 8) (R := (RSp.one (Y := (Option (List UInt8))) tab (boS) [] (fun a b => a) (fun y => y) (fun y => ()))) fn12_rk oneD Tryz.func105 dK
def fn99_r : Orcs Tb := [(105, fn12_w)]
theorem fn99_rk : RK fn99_r := (yv739 fn12_k yv763)
def fn99_p : TCode Tb := Dc 14 [] 0x2c37008c03ac2ef604b1130000ab9825a8c0f2bc001c33d7270179629401e
def fn99_w : Orc Tb := mkOrc (Y := (Option (List UInt8))) tab [boS, u16S] [] (fun x h => fn99 x.1 x.2.1) (fun _ y k => k (.bo y) [])
theorem fn99_k : WK fn99_w 111 := orcD (Y := (Option (List UInt8))) (c := fn99_p) (res := [.tmp 4]) (n := 14) (R := (RSp.one (Y := (Option (List UInt8))) tab (boS) [] (fun a b => a) (fun y => y) (fun y => ()))) fn99_rk oneD Tryz.func111 dK
def fn100_r : Orcs Tb := [(105, fn12_w)]
theorem fn100_rk : RK fn100_r := (yv739 fn12_k yv763)
def fn100_p0 : TCode Tb := Dc 26 [] 0x2c716e4d9d0b8f8961768748b7c285d335868c5f7598f4106b0478d0fd8cee5c6b3822382a843257202e3
def fn100_s0 : SSh := ⟨[(1, u32S), (5, boS)], []⟩
def fn100_o0 : Cut Tb := cutL tab 0 fn100_s0 (fun x => (x.1.1, x.1.2.1)) (fun x => fn100_l0) (fun _ x y k => k (.exit 0) ⟨[(1, .u32 y.1), (5, .bo y.2)], []⟩)
theorem fn100_q0 : CK fn100_o0 0 (.loop fn100_p0) := cutLD (Z := UInt32 × (Option (List UInt8))) (Y := UInt32 × (Option (List UInt8))) fn100_rk dK (fun _ x z b e => fn100_b0 z.1 z.2 (fun x4 x5 => b (x4, x5)) (fun y7 y8 => e (y7, y8))) (fun x z => ⟨[(1, .u32 z.1), (5, .bo z.2)], []⟩) (fun x y => ((.exit 0), ⟨[(1, .u32 y.1), (5, .bo y.2)], []⟩)) (fun t => (prjS tab 0 fn100_s0 t).bind fun x => some (x.1.1, x.1.2.1)) (fun e t => (if eqE e (.exit 0) then (prjS tab 0 ⟨[(1, u32S), (5, boS)], []⟩ t).bind fun v => some (v.1.1, v.1.2.1) else none))
def fn100_p : TCode Tb := Dc 26 [cp fn100_q0] 0x5dc40c0783303a9605e9ad5246eac0f81220b1bb3a7a41070e61cf4de43dd49f57cb963e80800551c72fc1065029401e
def fn100_w : Orc Tb := mkOrc (Y := (Option (List UInt8))) tab [boS, u32S] [] (fun x h => fn100 x.1 x.2.1) (fun _ y k => k (.bo y) [])
theorem fn100_k : WK fn100_w 65 := orcD (Y := (Option (List UInt8))) (c := fn100_p) (res := [.tmp 4]) (n := 26) (R := (RSp.one (Y := (Option (List UInt8))) tab (boS) [] (fun a b => a) (fun y => y) (fun y => ()))) fn100_rk oneD Tryz.func65 dK
def fn78_r : Orcs Tb := [(157, fn48_w), (105, fn12_w), (65, fn100_w)]
theorem fn78_rk : RK fn78_r := (yv739 fn48_k (yv739 fn12_k (yv739 fn100_k yv763)))
def fn78_p : TCode Tb := Dc 23 [] 0x3fa6347e44e3fc5c4e854ea91a3b40345dc2c06d0df5c2ab23f4e2cacda9d0c90622eb8138218e299b6dec506811672792cbfff320042d5526a6ab5629401e
def fn78_w : Orc Tb := mkOrc (Y := (Option (List UInt8))) tab [boS, lS 4] [] (fun x h => fn78 x.1 x.2.1) (fun _ y k => k (.bo y) [])
theorem fn78_k : WK fn78_w 140 := orcD (Y := (Option (List UInt8))) (c := fn78_p) (res := [.tmp 4]) (n := 23) (R := (RSp.one (Y := (Option (List UInt8))) tab (boS) [] (fun a b => a) (fun y => y) (fun y => ()))) fn78_rk oneD Tryz.func140 dK
def fn27_r : Orcs Tb := [(140, fn78_w)]
theorem fn27_rk : RK fn27_r := (yv739 fn78_k yv763)
def fn27_p : TCode Tb := Dc 13 [] 0xc4992a5fb1dfc0daab3777b207aeb2e66961f5890641ac41a9c258d29401e
def fn27_w : Orc Tb := mkOrc (Y := (Option (List UInt8))) tab [iS, boS, lS 4] [] (fun x h => fn27 x.1 x.2.1 x.2.2.1) (fun _ y k => k (.bo y) [])
theorem fn27_k : WK fn27_w 107 := orcD (Y := (Option (List UInt8))) (c := fn27_p) (res := [.tmp 6]) (n := 13) (R := (RSp.one (Y := (Option (List UInt8))) tab (boS) [] (fun a b => a) (fun y => y) (fun y => ()))) fn27_rk oneD Tryz.func107 dK
def fn41_r : Orcs Tb := [(139, fn136_w), (111, fn99_w), (107, fn27_w)]
theorem fn41_rk : RK fn41_r := (yv739 fn136_k (yv739 fn99_k (yv739 fn27_k yv763)))
def fn41_p0 : TCode Tb := Dc 26 [] 0x2d55c608b1500477c608872f52081468fcd22e0d194c75c67fd90e1220019d3
def fn41_s0 : SSh := ⟨[(0, iS), (1, boS), (5, rS 0 0)], [hS1]⟩
def fn41_o0 : Cut Tb := cutJ tab 0 fn41_s0 (fun _ x k => fn41_c0 x.1.1 x.1.2.1 (tabBk 6 x.2.1 : fn54) (fun y11 => k .ret ⟨[(5, .ref 0 0), (6, .bo y11)], [(injL tab hS1 x.2.1)]⟩))
theorem fn41_q0 : CK fn41_o0 0 fn41_p0 := cutJD fn41_rk dK
def fn41_p : TCode Tb := Dc 26 [cp fn41_q0] 0xfcae4dc91c927b03d63f0949f378823b73353c9ed4c1fcdb163bc5a362b368091f03243ae33f0e3d2778506d8590c2e
def fn41_w : Orc Tb := mkOrc (Y := (Option (List UInt8))) tab [iS, bsS, .g (.st 6)] [] (fun x h => fn41 x.1 x.2.1 (x.2.2.1 : fn54)) (fun _ y k => k (.bo y) [])
theorem fn41_k : WK fn41_w 109 := orcD (Y := (Option (List UInt8))) (c := fn41_p) (res := [.tmp 6]) (n := 26) (R := (RSp.one (Y := (Option (List UInt8))) tab (boS) [] (fun a b => a) (fun y => y) (fun y => ()))) fn41_rk oneD Tryz.func109 dK
def fn79_r : Orcs Tb := [(108, fn109_w), (140, fn112_w)]
theorem fn79_rk : RK fn79_r := (yv739 fn109_k (yv739 fn112_k yv763))
def fn79_p0 : TCode Tb := Dc 36 [] 0x84495be4444cf9ba6ca15124caaba2de02bfb7e42316e93ea9c18de850e4c2d4eccb2494e199e9a75
def fn79_s0 : SSh := ⟨[(1, bsS), (5, rS 0 0), (7, bS)], [hS1]⟩
def fn79_o0 : Cut Tb := cutJ tab 0 fn79_s0 (fun _ x k => fn79_c0 x.1.1 x.1.2.2.1 (tabBk 6 x.2.1 : fn54) (k .ret ⟨[(6, .bs x.1.1)], [(injL tab hS1 x.2.1)]⟩) (fun y8 => k .ret ⟨[(6, .bo y8)], [(injL tab hS1 x.2.1)]⟩) (k .normal ⟨[(1, .bs x.1.1), (5, .ref 0 0)], [(injL tab hS1 x.2.1)]⟩))
theorem fn79_q0 : CK fn79_o0 0 fn79_p0 := cutJD fn79_rk dK
def fn79_p1 : TCode Tb := Dc 36 [] 0x39acfba39c80571c5a206d27e11e00a2035cf06ba71f1cb9cbb58b0018d3
def fn79_s1 : SSh := ⟨[(1, bsS), (5, rS 0 0)], [hS1]⟩
def fn79_o1 : Cut Tb := cutJ tab 0 fn79_s1 (fun _ x k => fn79_c1 x.1.1 (tabBk 6 x.2.1 : fn54) (fun y16 => k .ret ⟨[(5, .ref 0 0), (6, .bo y16)], [(injL tab hS1 x.2.1)]⟩))
theorem fn79_q1 : CK fn79_o1 0 fn79_p1 := cutJD fn79_rk dK
def fn79_p : TCode Tb := Dc 36 [cp fn79_q0, cp fn79_q1] 0x172dadf5bef42d55bcbacba8cb2c91a4e33553bd3795f8b77716a240ae73d7959f131a78896ee95ded3ad4f55ed4b8d0c2e
def fn79_w : Orc Tb := mkOrc (Y := (Option (List UInt8))) tab [iS, bsS, .g (.st 6)] [] (fun x h => fn79 x.1 x.2.1 (x.2.2.1 : fn54)) (fun _ y k => k (.bs y) [])
theorem fn79_k : WK fn79_w 110 := orcD (Y := (Option (List UInt8))) (c := fn79_p) (res := [.tmp 6]) (n := 36) (R := (RSp.one (Y := (Option (List UInt8))) tab (bsS) [] (fun a b => a) (fun y => y) (fun y => ()))) fn79_rk oneD Tryz.func110 dK
def fn80_r : Orcs Tb := [(105, fn12_w)]
theorem fn80_rk : RK fn80_r := (yv739 fn12_k yv763)
def fn80_p : TCode Tb := Dc 10 [] 0x14a00019500230640014250765045a29401e
def fn80_w : Orc Tb := mkOrc (Y := (Option (List UInt8))) tab [boS, u8S] [] (fun x h => fn80 x.1 x.2.1) (fun _ y k => k (.bo y) [])
theorem fn80_k : WK fn80_w 108 := orcD (Y := (Option (List UInt8))) (c := fn80_p) (res := [.tmp 4]) (n := 10) (R := (RSp.one (Y := (Option (List UInt8))) tab (boS) [] (fun a b => a) (fun y => y) (fun y => ()))) fn80_rk oneD Tryz.func108 dK
def fn49_r : Orcs Tb := [(108, fn80_w), (140, fn78_w)]
theorem fn49_rk : RK fn49_r := (yv739 fn80_k (yv739 fn78_k yv763))
def fn49_p0 : TCode Tb := Dc 36 [] 0x84495be4444cf9ba6ca15124caaba2de02bfb7e42316e93ea9c18de850e4c2d4eccb2494e199e9a75
def fn49_s0 : SSh := ⟨[(1, boS), (5, rS 0 0), (7, bS)], [hS1]⟩
def fn49_o0 : Cut Tb := cutJ tab 0 fn49_s0 (fun _ x k => fn49_c0 x.1.1 x.1.2.2.1 (tabBk 6 x.2.1 : fn54) (fun y8 => k .ret ⟨[(6, .bo y8)], [(injL tab hS1 x.2.1)]⟩) (k .normal ⟨[(1, .bo x.1.1), (5, .ref 0 0)], [(injL tab hS1 x.2.1)]⟩))
theorem fn49_q0 : CK fn49_o0 0 fn49_p0 := cutJD fn49_rk dK
def fn49_p1 : TCode Tb := Dc 36 [] 0x39acfba39c80571c5a206d27e11e00a2035cf06ba71f1cb9cbb58b0018d3
def fn49_s1 : SSh := ⟨[(1, boS), (5, rS 0 0)], [hS1]⟩
def fn49_o1 : Cut Tb := cutJ tab 0 fn49_s1 (fun _ x k => fn49_c1 x.1.1 (tabBk 6 x.2.1 : fn54) (fun y16 => k .ret ⟨[(5, .ref 0 0), (6, .bo y16)], [(injL tab hS1 x.2.1)]⟩))
theorem fn49_q1 : CK fn49_o1 0 fn49_p1 := cutJD fn49_rk dK
def fn49_p : TCode Tb := Dc 36 [cp fn49_q0, cp fn49_q1] 0x172dadf5bef42d55bcbacba8cb2c91a4e33553bd3795f8b77716a240ae73d7959f131a78896ee95ded3ad4f55ed4b8d0c2e
def fn49_w : Orc Tb := mkOrc (Y := (Option (List UInt8))) tab [iS, boS, .g (.st 6)] [] (fun x h => fn49 x.1 x.2.1 (x.2.2.1 : fn54)) (fun _ y k => k (.bo y) [])
theorem fn49_k : WK fn49_w 110 := orcD (Y := (Option (List UInt8))) (c := fn49_p) (res := [.tmp 6]) (n := 36) (R := (RSp.one (Y := (Option (List UInt8))) tab (boS) [] (fun a b => a) (fun y => y) (fun y => ()))) fn49_rk oneD Tryz.func110 dK
def fn101_r : Orcs Tb := [(105, fn12_w), (111, fn99_w)]
theorem fn101_rk : RK fn101_r := (yv739 fn12_k (yv739 fn99_k yv763))
def fn101_p : TCode Tb := Dc 17 [] 0x222737311f866125e8567dd336995deb98e62d4f105fbd4c7f5c1b05f29230dea54185f9bb883cf0f252421729401e
def fn101_w : Orc Tb := mkOrc (Y := (Option (List UInt8))) tab [boS, sS] [] (fun x h => fn101 x.1 x.2.1) (fun _ y k => k (.bo y) [])
theorem fn101_k : WK fn101_w 139 := orcD (Y := (Option (List UInt8))) (c := fn101_p) (res := [.tmp 4]) (n := 17) (R := (RSp.one (Y := (Option (List UInt8))) tab (boS) [] (fun a b => a) (fun y => y) (fun y => ()))) fn101_rk oneD Tryz.func139 dK
def fn28_r : Orcs Tb := [(139, fn101_w)]
theorem fn28_rk : RK fn28_r := (yv739 fn101_k yv763)
def fn28_s1 : SSh := ⟨[(0, boS), (3, rS 0 0), (8, lS 5), (9, iS), (10, iS)], [hS1]⟩
def fn28_o1 : Cut Tb := cutJ tab 0 fn28_s1 (fun _ x k => k .normal ⟨[(0, .bo x.1.1), (3, .ref 0 0), (8, .sl 5 x.1.2.2.1), (9, .n .i64 x.1.2.2.2.1), (10, .n .i64 x.1.2.2.2.2.1)], [(injL tab hS1 x.2.1)]⟩)
theorem fn28_q1 : CK fn28_o1 0 .skip := yv771 (c := .skip) tabOk fn28_rk trivial (fun _ _ => by kernel_rfl)
def fn28_p0 : TCode Tb := Dc 28 [cp fn28_q1] 0x35ef9a9075ea2b4a632051ce1cb3fe4b620770c0b2dac8fa357e6b41fd76c3d0a9b15ff6503074e0345b80d633f8d3f5a5ee599be67814d8f59a1eb9d0277231ec41406020fe32f738d2d1e0a
def fn28_s0 : SSh := ⟨[(0, boS), (3, rS 0 0), (8, lS 5), (9, iS), (10, iS)], [hS1]⟩
def fn28_o0 : Cut Tb := cutL tab 0 fn28_s0 (fun x => (x.1.1, x.1.2.2.2.2.1)) (fun x => fn28_l0 x.1.2.2.1 x.1.2.2.2.1 (tabBk 6 x.2.1 : fn54)) (fun _ x y k => k (.exit 0) ⟨[(0, .bo y)], [(injL tab hS1 x.2.1)]⟩)
theorem fn28_q0 : CK fn28_o0 0 (.loop fn28_p0) := cutLD (Z := (Option (List UInt8)) × Int) (Y := (Option (List UInt8))) fn28_rk dK (fun _ x z b e => fn28_b0 x.1.2.2.1 x.1.2.2.2.1 (tabBk 6 x.2.1 : fn54) z.1 z.2 (fun x3 x6 => b (x3, x6)) (fun y16 => e y16)) (fun x z => ⟨[(0, .bo z.1), (3, .ref 0 0), (8, .sl 5 x.1.2.2.1), (9, .n .i64 x.1.2.2.2.1), (10, .n .i64 z.2)], [(injL tab hS1 x.2.1)]⟩) (fun x y => ((.exit 0), ⟨[(0, .bo y)], [(injL tab hS1 x.2.1)]⟩)) (fun t => (prjS tab 0 fn28_s0 t).bind fun x => some (x.1.1, x.1.2.2.2.2.1)) (fun e t => (if eqE e (.exit 0) then (prjS tab 0 ⟨[(0, boS)], [hS1]⟩ t).bind fun v => some v.1.1 else none))
def fn28_p : TCode Tb := Dc 28 [cp fn28_q0] 0x16adf2fad6dd700a4a4e25478dec7bc55933f74c5457b0c2e
def fn28_w : Orc Tb := mkOrc (Y := (Option (List UInt8))) tab [boS, .g (.st 6)] [] (fun x h => fn28 x.1 (x.2.1 : fn54)) (fun _ y k => k (.bo y) [])
theorem fn28_k : WK fn28_w 112 := orcD (Y := (Option (List UInt8))) (c := fn28_p) (res := [.tmp 4]) (n := 28) (R := (RSp.one (Y := (Option (List UInt8))) tab (boS) [] (fun a b => a) (fun y => y) (fun y => ()))) fn28_rk oneD Tryz.func112 dK
def fn50_r : Orcs Tb := [(106, fn40_w), (69, fn98_w), (108, fn109_w), (108, fn80_w), (107, fn27_w), (109, fn41_w), (111, fn134_w), (110, fn49_w), (112, fn28_w), (110, fn79_w)]
theorem fn50_rk : RK fn50_r := (yv739 fn40_k (yv739 fn98_k (yv739 fn109_k (yv739 fn80_k (yv739 fn27_k (yv739 fn41_k (yv739 fn134_k (yv739 fn49_k (yv739 fn28_k (yv739 fn79_k yv763))))))))))
def fn50_p3 : TCode Tb := Dc 82 [] 0x219d96ee89de3f3da8ca7957e7741190b41bd1d6f7fa5
def fn50_s3 : SSh := ⟨[(0, iS), (1, bsS), (5, rS 0 0), (74, bS)], [hS1]⟩
def fn50_o3 : Cut Tb := cutJ tab 0 fn50_s3 (fun _ x k => fn50_c3 x.1.1 x.1.2.1 x.1.2.2.2.1 (tabBk 6 x.2.1 : fn54) (fun y38 => k .ret ⟨[(6, .bs y38)], [(injL tab hS1 x.2.1)]⟩) (k .normal ⟨[(1, .bs x.1.2.1)], [(injL tab hS1 x.2.1)]⟩))
theorem fn50_q3 : CK fn50_o3 0 fn50_p3 := cutJD fn50_rk dK
def fn50_p2 : TCode Tb := Dc 82 [cp fn50_q3] 0x895445a5252753b54d4876ce450b4165a29fc7ee4ddbf3d5abba04fb091f8eb42207240cbfcee77be23662e1f60aa166f17803c4e7f249535fc945f39f7f4cbd91945802873a650c5
def fn50_s2 : SSh := ⟨[(0, iS), (1, bsS), (5, rS 0 0), (8, iS), (60, bS)], [hS1]⟩
def fn50_o2 : Cut Tb := cutJ tab 0 fn50_s2 (fun _ x k => fn50_c2 x.1.1 x.1.2.1 x.1.2.2.2.1 x.1.2.2.2.2.1 (tabBk 6 x.2.1 : fn54) (fun y41 => k .ret ⟨[(5, .ref 0 0), (6, .bo y41)], [(injL tab hS1 x.2.1)]⟩) (fun y42 => k .ret ⟨[(6, .bs y42)], [(injL tab hS1 x.2.1)]⟩) (k .normal ⟨[(1, .bs x.1.2.1)], [(injL tab hS1 x.2.1)]⟩))
theorem fn50_q2 : CK fn50_o2 0 fn50_p2 := cutJD fn50_rk dK
def fn50_p1 : TCode Tb := Dc 82 [cp fn50_q2] 0x34ab035b18121c438fbab920129ec968d2179ad396b25a77e7f6768415281ee94a972c1cb713d8a731dceb8c5d1c7b28003c4e7f249535fc945f39f7f4cbd8abe657a1c1cf0ff5
def fn50_s1 : SSh := ⟨[(0, iS), (1, bsS), (5, rS 0 0), (8, iS), (47, bS)], [hS1]⟩
def fn50_o1 : Cut Tb := cutJ tab 0 fn50_s1 (fun _ x k => fn50_c1 x.1.1 x.1.2.1 x.1.2.2.2.1 x.1.2.2.2.2.1 (tabBk 6 x.2.1 : fn54) (fun y47 => k .ret ⟨[(5, .ref 0 0), (6, .bo y47)], [(injL tab hS1 x.2.1)]⟩) (fun y48 => k .ret ⟨[(6, .bs y48)], [(injL tab hS1 x.2.1)]⟩) (k .normal ⟨[(1, .bs x.1.2.1)], [(injL tab hS1 x.2.1)]⟩))
theorem fn50_q1 : CK fn50_o1 0 fn50_p1 := cutJD fn50_rk dK
def fn50_p0 : TCode Tb := Dc 82 [cp fn50_q1] 0xa1bfaf23379dba3a47a3feb8c430300b52cf092b8dac4002ed10f8a0a68a13d758f689b5c036afd8d999f545f39f7f4cbd857c4860dd89c0f35
def fn50_s0 : SSh := ⟨[(0, iS), (1, bsS), (5, rS 0 0), (8, iS), (35, bS)], [hS1]⟩
def fn50_o0 : Cut Tb := cutJ tab 0 fn50_s0 (fun _ x k => fn50_c0 x.1.1 x.1.2.1 x.1.2.2.2.1 x.1.2.2.2.2.1 (tabBk 6 x.2.1 : fn54) (fun y53 => k .ret ⟨[(5, .ref 0 0), (6, .bo y53)], [(injL tab hS1 x.2.1)]⟩) (fun y54 => k .ret ⟨[(6, .bs y54)], [(injL tab hS1 x.2.1)]⟩) (k .normal ⟨[(1, .bs x.1.2.1)], [(injL tab hS1 x.2.1)]⟩))
theorem fn50_q0 : CK fn50_o0 0 fn50_p0 := cutJD fn50_rk dK
def fn50_p : TCode Tb := Dc 82 [cp fn50_q0] 0x468c68f84a90c073f1cf7eb3e2cda8e29748c7b41473b38158c52ac48da91f10653f78d43eb7a3881b9456fa30a9d1baebe2589c9430a820c83eefccf5fa58f1f394975601fd0a02a8e8a672073d8f93051561b992ac8b39de85657806ff4128f00a63b8a44effdeaac222ce494770e402e0b22b8d41914363b244602555f22335adfeec80bf574442543a9d72946b3302fe90159659d1c21bad2ab29aa03012c373cf17ee5549febf752dbed7ba2b985b7c46b37c13c9133ef6a490c2e
def fn50_w : Orc Tb := mkOrc (Y := (Option (List UInt8))) tab [iS, bsS, .g (.st 6)] [] (fun x h => fn50 x.1 x.2.1 (x.2.2.1 : fn54)) (fun _ y k => k (.bs y) [])
theorem fn50_k : WK fn50_w 66 := orcD (Y := (Option (List UInt8))) (c := fn50_p) (res := [.tmp 6]) (n := 82) (R := (RSp.one (Y := (Option (List UInt8))) tab (bsS) [] (fun a b => a) (fun y => y) (fun y => ()))) fn50_rk oneD Tryz.func66 dK
def fn51_r : Orcs Tb := [(16, fn62_w), (35, fn64_w), (37, fn73_w), (65, fn135_w), (66, fn50_w)]
theorem fn51_rk : RK fn51_r := (yv739 fn62_k (yv739 fn64_k (yv739 fn73_k (yv739 fn135_k (yv739 fn50_k yv763)))))
def fn51_p : TCode Tb := Dc 28 [] 0xec5b62501dfda80a9725f54031d23aa693c7106b1d9e67580cbaf3ad6e3abd8e6a74abaabd0f9fd7c079b17058f1766f0cc56c41989148cc018ab252e9079c722537bc5dc307d88c3ffd6c75c8a96109081371b1fba0f330dd14dc92f2ef77fa1c5457b0c3e
def fn51_w : Orc Tb := mkOrc (Y := (Option (List UInt8)) × Int) tab [iS, .g (.st 6)] [] (fun x h => fn51 x.1 (x.2.1 : fn54)) (fun _ y k => k (.tup [.bs y.1, .n .i64 y.2]) [])
theorem fn51_k : WK fn51_w 32 := orcD (Y := (Option (List UInt8)) × Int) (c := fn51_p) (res := [.tmp 4, .tmp 5]) (n := 28) (R := (RSp.one (Y := (Option (List UInt8)) × Int) tab (.tup [.f (.a .bs), .f (.a (.n .i64))]) [] (fun a b => (a.1, a.2.1)) (fun y => (y.1, y.2, ())) (fun y => ()))) fn51_rk oneD Tryz.func32 dK
def fn65_r : Orcs Tb := [(65, fn135_w)]
theorem fn65_rk : RK fn65_r := (yv739 fn135_k yv763)
def fn65_p : TCode Tb := Dc 6 [] 0xcc0002a037981277a181dc3a01e
def fn65_w : Orc Tb := mkOrc (Y := Int) tab [u32S] [] (fun x h => fn65 x.1) (fun _ y k => k (.n .i64 y) [])
theorem fn65_k : WK fn65_w 68 := orcD (Y := Int) (c := fn65_p) (res := [.tmp 2]) (n := 6) (R := (RSp.one (Y := Int) tab (iS) [] (fun a b => a) (fun y => y) (fun y => ()))) fn65_rk oneD Tryz.func68 dK
def fn81_r : Orcs Tb := [(16, fn62_w), (37, fn73_w), (68, fn65_w)]
theorem fn81_rk : RK fn81_r := (yv739 fn62_k (yv739 fn73_k (yv739 fn65_k yv763)))
def fn81_p : TCode Tb := Dc 19 [] 0x2d7a4eb8abca5d18f3950743eb3806748194d467095d5fa2978980532725e005d33dcf33d2194974bffabeae97297bbac8e43fadb90c2e
def fn81_w : Orc Tb := mkOrc (Y := Int) tab [iS, .g (.st 6)] [] (fun x h => fn81 x.1 (x.2.1 : fn54)) (fun _ y k => k (.n .i64 y) [])
theorem fn81_k : WK fn81_w 34 := orcD (Y := Int) (c := fn81_p) (res := [.tmp 4]) (n := 19) (R := (RSp.one (Y := Int) tab (iS) [] (fun a b => a) (fun y => y) (fun y => ()))) fn81_rk oneD Tryz.func34 dK
def fn151_r : Orcs Tb := [(32, fn51_w), (34, fn81_w), (35, fn64_w), (37, fn73_w)]
theorem fn151_rk : RK fn151_r := (yv739 fn51_k (yv739 fn81_k (yv739 fn64_k (yv739 fn73_k yv763))))
def fn151_p : TCode Tb := Dc 32 [] 0x7bcc5e72734411a801000c031b1da01306a234dfef983060001806363d402602497fb5f064c000300c6c7e804c1a8852bf1960c980006018d95dd000d300fd6370a000003404a2002fe098008880181ca0816ec520000d44091f310c99f9120320ba121384257343d743bf45d43344347c03801e
def fn151_w : Orc Tb := mkOrc (Y := Bool) tab [] [] (fun x h => fn151) (fun _ y k => k (.b y) [])
theorem fn151_k : WK fn151_w 31 := orcD (Y := Bool) (c := fn151_p) (res := [.tmp 0]) (n := 32) (R := (RSp.one (Y := Bool) tab (bS) [] (fun a b => a) (fun y => y) (fun y => ()))) fn151_rk oneD Tryz.func31 dK
def fn43_r : Orcs Tb := [(32, fn51_w), (31, fn151_w), (37, fn73_w), (34, fn81_w)]
theorem fn43_rk : RK fn43_r := (yv739 fn51_k (yv739 fn151_k (yv739 fn73_k (yv739 fn81_k yv763))))
def fn43_p2 : TCode Tb := Dc 86 [] 0x97f7c9e3a8cb182bf013ac0afed69a5b99d09aad9b98b9ece29c30c6d04148e8a41385a9cf74cf35ac2eb2b2b652c392d3b01039f8b83bfa0cb68046d2011f0ea4d57496465ab3ed0e402f480b5fb0c8c788ac19febf493187a22023257175f27e0dd13455d328fd213b8e654a3aeab5ccf3a8ff6a0c61c973aab744e3c63a4e3245b79606d1d972c54997d6fe7b803c7cdda5dee3ca39a9218c6e5ca7c8e6b64d30bb15dbde651c31fb72018e
def fn43_s2 : SSh := ⟨[(5, iS), (7, rS 1 0), (8, iS), (9, iS)], [[], hS2]⟩
def fn43_o2 : Cut Tb := cutJ tab 0 fn43_s2 (fun _ x k => fn43_c2 x.1.1 x.1.2.2.1 x.1.2.2.2.1 (tabBk 6 x.2.2.1 : fn54) (fun y21 => k .ret ⟨[(4, .b y21)], [[], (injL tab hS2 x.2.2.1)]⟩))
theorem fn43_q2 : CK fn43_o2 0 fn43_p2 := cutJD fn43_rk dK
def fn43_p1 : TCode Tb := Dc 86 [cp fn43_q2] 0x8eca139724417086c76878c591e2add65d202e3
def fn43_s1 : SSh := ⟨[(5, iS), (7, rS 1 0), (8, iS), (9, iS)], [[], hS2]⟩
def fn43_o1 : Cut Tb := cutJ tab 0 fn43_s1 (fun _ x k => fn43_c1 x.1.1 x.1.2.2.1 x.1.2.2.2.1 (tabBk 6 x.2.2.1 : fn54) (fun y24 => k .ret ⟨[(4, .b y24)], [[], (injL tab hS2 x.2.2.1)]⟩))
theorem fn43_q1 : CK fn43_o1 0 fn43_p1 := cutJD fn43_rk dK
def fn43_p0 : TCode Tb := Dc 86 [cp fn43_q1] 0x2ff5e84771cdb1d22aca50748bbd466266c8cf84b2b401e
def fn43_s0 : SSh := ⟨[(5, iS), (7, rS 1 0), (8, iS)], [[], hS2]⟩
def fn43_o0 : Cut Tb := cutJ tab 0 fn43_s0 (fun _ x k => fn43_c0 x.1.1 x.1.2.2.1 (tabBk 6 x.2.2.1 : fn54) (fun y27 => k .ret ⟨[(4, .b y27)], [[], (injL tab hS2 x.2.2.1)]⟩))
theorem fn43_q0 : CK fn43_o0 0 fn43_p0 := cutJD fn43_rk dK
def fn43_p : TCode Tb := Dc 86 [cp fn43_q0] 0x2ee237ded19ff87e9c338c8d70c490c4f04acd278d8212f07f111ca98e4712fe67d59b5127061191712ad5ed7f5641c180ee78d01fb613b768c17ffa94e841c53352982cd19c7c102fe81246e1d52fbe8d471d8cd724f83801e
def fn43_w : Orc Tb := mkOrc (Y := Bool) tab [iS, iS] [] (fun x h => fn43 x.1 x.2.1) (fun _ y k => k (.b y) [])
theorem fn43_k : WK fn43_w 12 := orcD (Y := Bool) (c := fn43_p) (res := [.tmp 4]) (n := 86) (R := (RSp.one (Y := Bool) tab (bS) [] (fun a b => a) (fun y => y) (fun y => ()))) fn43_rk oneD Tryz.func12 dK
end Go.Rv
