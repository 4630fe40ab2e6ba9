/- That the program's functions are these plain functions. -/
import Derived.Test.YtlmnicmjhcblcaaGreatDoorPure
import Derived.Test.YtlmnicmjhcblcaaGreatDoorChecked
set_option linter.unusedSimpArgs false
set_option linter.unusedVariables false
set_option maxRecDepth 100000
namespace Go.Rv
open Go.Proofs
def Wp : World -> Prop := TryzWp
abbrev WK (o : Orc Tb) (f : Nat) : Prop := o.Ok Tryz.prog Wp tab f
abbrev CK (o : Cut Tb) (n : Nat) (c : TCode Tb) : Prop := o.Ok Tryz.prog Wp tab n c
abbrev RK (r : Orcs Tb) : Prop := yv52 Tryz.prog Wp tab r
def noCut : TCode Tb -> Bool
  | .seq a b => noCut a && noCut b
  | .cond _ a b => noCut a && noCut b
  | .block _ b => noCut b
  | .loop b => noCut b
  | .drop _ c => noCut c
  | .frz _ _ c => noCut c
  | .fend _ c => noCut c
  | .cut _ _ _ => false
  | .fin _ _ _ => false
  | _ => true
theorem no_cut {p : Nat -> Cut Tb -> TCode Tb -> Prop} : ∀ (c : TCode Tb), noCut c = true -> allC p c
  | .seq a b, h => by simp only [noCut, Bool.and_eq_true] at h; exact ⟨no_cut a h.1, no_cut b h.2⟩
  | .cond _ a b, h => by simp only [noCut, Bool.and_eq_true] at h; exact ⟨no_cut a h.1, no_cut b h.2⟩
  | .block _ b, h => no_cut b h
  | .loop b, h => no_cut b h
  | .drop _ c, h => no_cut c h
  | .frz _ _ c, h => no_cut c h
  | .fend _ c, h => no_cut c h
  | .cut _ _ _, h => by cases h
  | .fin _ _ _, h => by cases h
  | .skip, _ => trivial
  | .reg _ _, _ => trivial
  | .exit _, _ => trivial
  | .ret, _ => trivial
theorem uC {p : Nat -> Cut Tb -> TCode Tb -> Prop} {c : TCode Tb} (h : noCut c = true := by kernel_rfl) : allC p c := no_cut c h
theorem oneD {Y : Type} {sr : Sh} {sh : List (List Sh)} {tq : sr.ty Tb -> tyH Tb sh -> Y} {ofr : Y -> sr.ty Tb} {ofh : Y -> tyH Tb sh} (h1 : ∀ a b, ofr (tq a b) = a := by intro _ _; kernel_rfl) (h2 : ∀ a b, ofh (tq a b) = b := by intro _ _; kernel_rfl) : (RSp.one tab sr sh tq ofr ofh).Ok := RSp.one_ok tabOk h1 h2
theorem cutJD {orcs : Orcs Tb} (ho : RK orcs) {c : TCode Tb} (hc : yv492 Tryz.prog Wp tab c) {n : Nat} {sh : SSh} {B : (ρ : Type) -> sh.ty Tb -> (SExit -> TSt Tb -> Option ρ) -> Option ρ}
    (fact : ∀ {ρ : Type} (x : sh.ty Tb) (k : SExit -> TSt Tb -> Option ρ), runS tab orcs c (injS tab sh x) k = B ρ x k := by intro _ _ _; kernel_rfl) : (cutJ tab n sh B).Ok Tryz.prog Wp tab n c := yv751 tabOk ho hc fact
theorem cutLD {Z Y : Type} {orcs : Orcs Tb} (ho : RK orcs) {c : TCode Tb} (hc : yv492 Tryz.prog Wp tab c) {n : Nat} {sh : SSh} {z0 : sh.ty Tb -> Z} {step : sh.ty Tb -> Z -> Option (Z ⊕ Y)} {EX : (ρ : Type) -> sh.ty Tb -> Y -> (SExit -> TSt Tb -> Option ρ) -> Option ρ}
    (B : (ρ : Type) -> sh.ty Tb -> Z -> (Z -> Option ρ) -> (Y -> Option ρ) -> Option ρ) (up : sh.ty Tb -> Z -> TSt Tb) (ex : sh.ty Tb -> Y -> SExit × TSt Tb) (pz : TSt Tb -> Option Z) (py : SExit -> TSt Tb -> Option Y)
    (h0 : ∀ x, injS tab sh x = up x (z0 x) := by intro _; kernel_rfl) (hstep : ∀ x z, step x z = B _ x z (fun z => some (.inl z)) (fun y => some (.inr y)) := by intro _ _; kernel_rfl)
    (hEX : ∀ {ρ : Type} x y (k : SExit -> TSt Tb -> Option ρ), EX _ x y k = k (ex x y).1 (ex x y).2 := by intro _ _ _ _; kernel_rfl) (hne : ∀ x y, (ex x y).1 ≠ .normal := by intro _ _; exact nofun)
    (hpz : ∀ x z, pz (up x z) = some z := by intro _ _; kernel_rfl) (hpy : ∀ x y, py (ex x y).1 (ex x y).2 = some y := by intro _ _; kernel_rfl)
    (fact : ∀ {ρ : Type} (x : sh.ty Tb) (z : Z) (k : SExit -> TSt Tb -> Option ρ), runS tab orcs c (up x z) k = B _ x z (fun z => k .normal (up x z)) (fun y => EX _ x y k) := by intro _ _ _ _; kernel_rfl) : (cutL tab n sh z0 step EX).Ok Tryz.prog Wp tab n (.loop c) := yv752 tabOk ho hc B up ex pz py h0 hstep hEX hne hpz hpy fact
theorem orcD {orcs : Orcs Tb} {Y : Type} {f : FuncId} {fn : Func} {c : TCode Tb} {res : List SRes} {n : Nat} {sa : List Sh} {sh : List (List Sh)} {F : tyL Tb sa -> tyH Tb sh -> Option Y} {RX : (ρ : Type) -> Y -> (TV Tb -> THeap Tb -> Option ρ) -> Option ρ} {R : RSp Tb tab Y} (ho : RK orcs) (hR : R.Ok)
    (hf : Tryz.prog.funcs[f]? = some fn) (hc : yv492 Tryz.prog Wp tab c) (hok : fnOk Tryz.prog fn ⟨erC tab c, res, n⟩ = true := by kernel_rfl) (hwk : wkOk sh.length (erC tab c) = true := by kernel_rfl) (hen : yv21 Tryz.prog f = true := by kernel_rfl) (hl : Nat.ble sa.length n = true := by kernel_rfl)
    (hRX : ∀ (ρ : Type) y (k : TV Tb -> THeap Tb -> Option ρ), RX ρ y k = k (R.rs y).1 (R.rs y).2 := by intro _ _ _; kernel_rfl) (hlen : ∀ y, Nat.ble sh.length (R.rs y).2.length = true := by intro _; kernel_rfl)
    (fact : ∀ x z, runS tab orcs c ⟨argT 0 (injL tab sa x), injH tab sh z⟩ (kR R res) = F x z := by intro _ _; kernel_rfl) : WK (mkOrc tab sa sh F RX) f := yv754 tabOk ho hR hf hok hwk hen hl hc hRX hlen fact
def fn155_r : Orcs Tb := []
theorem fn155_rk : RK fn155_r := yv743
def fn155_p0 : TCode Tb :=
(.seq (.seq (.reg [(Op .mv [.v 4] 58), (Fav 22 1 59), (Ld 59 60), (Op .len [.m 60] 61), (Op (bi .lss) [.m 58, .m 61] 62)] none)
(.cond 62 (.drop [62] .skip)
(.drop [4, 62] (.exit 0))))
(.seq (.block 1 (.seq (.reg [(Fav 22 1 65), (Ld 65 66), (Op .mv [.v 4] 67), (Op (.ia 2) [.v 66, .m 67] 68), (Fam 0 68 69), (Ld 69 70), (Op .lens [.m 70] 71), (Op (bi .gtr) [.m 71, ki 300] 72)] none)
(.cond 72 (.drop [1, 4, 66, 72] (.seq (.reg [(Op .mv [kf] 2)] none)
.ret))
(.drop [66, 72] .skip))))
(.reg [(Mv 4 63), (Op (bi .add) [.m 63, ki 1] 64), (Mv 64 4)] none)))
def fn155_s0 : SSh := ⟨[(1, rS 0 0), (4, iS)], [hS0]⟩
def fn155_o0 : Cut Tb := cutL tab 0 fn155_s0 (fun x => x.1.2.1) (fun x => fn155_l0 (tabBk 3 x.2.1 : fn105)) (fun _ x y k => match y with | .inl y => k .ret ⟨[(2, .b false)], [(injL tab hS0 x.2.1)]⟩ | .inr y => k (.exit 0) ⟨[(1, .ref 0 0)], [(injL tab hS0 x.2.1)]⟩)
theorem fn155_q0 : CK fn155_o0 0 (.loop fn155_p0) := yv752 (c := fn155_p0) (Z := Int) (Y := Unit ⊕ Unit) tabOk fn155_rk uC (fun _ x z b e => fn155_b0 (tabBk 3 x.2.1 : fn105) z (fun x2 => b x2) (e (.inl ())) (e (.inr ()))) (fun x z => ⟨[(1, .ref 0 0), (4, .n .i64 z)], [(injL tab hS0 x.2.1)]⟩) (fun x y => match y with | .inl y => (.ret, ⟨[(2, .b false)], [(injL tab hS0 x.2.1)]⟩) | .inr y => ((.exit 0), ⟨[(1, .ref 0 0)], [(injL tab hS0 x.2.1)]⟩)) (fun t => (prjS tab 0 fn155_s0 t).bind fun x => some x.1.2.1) (fun e t => (if eqE e .ret then yv543 ((prjS tab 0 ⟨[(2, .g (.f (.cb false)))], [hS0]⟩ t).bind fun v => some (.inl ())) (if eqE e (.exit 0) then (prjS tab 0 ⟨[(1, rS 0 0)], [hS0]⟩ t).bind fun v => some (.inr ()) else none) else (if eqE e (.exit 0) then (prjS tab 0 ⟨[(1, rS 0 0)], [hS0]⟩ t).bind fun v => some (.inr ()) else none))) (fun x => by kernel_rfl) (fun x z => by kernel_rfl) (fun x y k => by rcases y with y | y <;> kernel_rfl) (fun x y => by rcases y with y | y <;> exact nofun) (fun x z => by kernel_rfl) (fun x y => by rcases y with y | y <;> kernel_rfl) (fun x z k => by kernel_rfl)
def fn155_p1 : TCode Tb :=
(.seq (.seq (.reg [(Op .mv [.v 5] 73), (Fav 24 1 74), (Ld 74 75), (Op .len [.m 75] 76), (Op (bi .lss) [.m 73, .m 76] 77)] none)
(.cond 77 (.drop [77] .skip)
(.drop [5, 77] (.exit 2))))
(.seq (.block 3 (.seq (.reg [(Fav 24 1 80), (Ld 80 81), (Op .mv [.v 5] 82), (Op (.ia 4) [.v 81, .m 82] 83), (Fam 2 83 84), (Ld 84 85), (Op .lens [.m 85] 86), (Op (bi .gtr) [.m 86, ki 300] 87), (Mv 87 88), (No (.fa 24) [.v 1] 89 88), (No ld [.m 89] 90 88), (No .mv [.v 5] 91 88), (No (.ia 4) [.v 90, .m 91] 92 88), (No (.fa 3) [.m 92] 93 88), (No ld [.m 93] 94 88), (No .lens [.m 94] 95 88), (No (bi .gtr) [.m 95, ki 300] 96 88), (Op .pick [.m 88, kt, .m 96] 97)] none)
(.drop [81, 89, 90, 91, 92, 93, 94, 95] (.cond 97 (.drop [1, 5, 97] (.seq (.reg [(Op .mv [kf] 2)] none)
.ret))
(.drop [97] .skip)))))
(.reg [(Mv 5 78), (Op (bi .add) [.m 78, ki 1] 79), (Mv 79 5)] none)))
def fn155_s1 : SSh := ⟨[(1, rS 0 0), (5, iS)], [hS0]⟩
def fn155_o1 : Cut Tb := cutL tab 0 fn155_s1 (fun x => x.1.2.1) (fun x => fn155_l1 (tabBk 3 x.2.1 : fn105)) (fun _ x y k => match y with | .inl y => k .ret ⟨[(2, .b false)], [(injL tab hS0 x.2.1)]⟩ | .inr y => k (.exit 2) ⟨[(1, .ref 0 0)], [(injL tab hS0 x.2.1)]⟩)
theorem fn155_q1 : CK fn155_o1 0 (.loop fn155_p1) := yv752 (c := fn155_p1) (Z := Int) (Y := Unit ⊕ Unit) tabOk fn155_rk uC (fun _ x z b e => fn155_b1 (tabBk 3 x.2.1 : fn105) z (fun x5 => b x5) (e (.inl ())) (e (.inr ()))) (fun x z => ⟨[(1, .ref 0 0), (5, .n .i64 z)], [(injL tab hS0 x.2.1)]⟩) (fun x y => match y with | .inl y => (.ret, ⟨[(2, .b false)], [(injL tab hS0 x.2.1)]⟩) | .inr y => ((.exit 2), ⟨[(1, .ref 0 0)], [(injL tab hS0 x.2.1)]⟩)) (fun t => (prjS tab 0 fn155_s1 t).bind fun x => some x.1.2.1) (fun e t => (if eqE e .ret then yv543 ((prjS tab 0 ⟨[(2, .g (.f (.cb false)))], [hS0]⟩ t).bind fun v => some (.inl ())) (if eqE e (.exit 2) then (prjS tab 0 ⟨[(1, rS 0 0)], [hS0]⟩ t).bind fun v => some (.inr ()) else none) else (if eqE e (.exit 2) then (prjS tab 0 ⟨[(1, rS 0 0)], [hS0]⟩ t).bind fun v => some (.inr ()) else none))) (fun x => by kernel_rfl) (fun x z => by kernel_rfl) (fun x y k => by rcases y with y | y <;> kernel_rfl) (fun x y => by rcases y with y | y <;> exact nofun) (fun x z => by kernel_rfl) (fun x y => by rcases y with y | y <;> kernel_rfl) (fun x z k => by kernel_rfl)
def fn155_p2 : TCode Tb :=
(.seq (.seq (.reg [(Op .mv [.v 6] 98), (Fav 13 1 99), (Ld 99 100), (Op .len [.m 100] 101), (Op (bi .lss) [.m 98, .m 101] 102)] none)
(.cond 102 (.drop [102] .skip)
(.drop [1, 6, 102] (.exit 4))))
(.seq (.block 5 (.seq (.reg [(Fav 13 1 105), (Ld 105 106), (Op .mv [.v 6] 107), (Op (.ia 4) [.v 106, .m 107] 108), (Fam 2 108 109), (Ld 109 110), (Op .lens [.m 110] 111), (Op (bi .gtr) [.m 111, ki 300] 112), (Mv 112 113), (No (.fa 13) [.v 1] 114 113), (No ld [.m 114] 115 113), (No .mv [.v 6] 116 113), (No (.ia 4) [.v 115, .m 116] 117 113), (No (.fa 3) [.m 117] 118 113), (No ld [.m 118] 119 113), (No .lens [.m 119] 120 113), (No (bi .gtr) [.m 120, ki 300] 121 113), (Op .pick [.m 113, kt, .m 121] 122)] none)
(.drop [106, 114, 115, 116, 117, 118, 119, 120] (.cond 122 (.drop [1, 6, 122] (.seq (.reg [(Op .mv [kf] 2)] none)
.ret))
(.drop [122] .skip)))))
(.reg [(Mv 6 103), (Op (bi .add) [.m 103, ki 1] 104), (Mv 104 6)] none)))
def fn155_s2 : SSh := ⟨[(1, rS 0 0), (6, iS)], [hS0]⟩
def fn155_o2 : Cut Tb := cutL tab 0 fn155_s2 (fun x => x.1.2.1) (fun x => fn155_l2 (tabBk 3 x.2.1 : fn105)) (fun _ x y k => match y with | .inl y => k .ret ⟨[(2, .b false)], [(injL tab hS0 x.2.1)]⟩ | .inr y => k (.exit 4) ⟨[], [(injL tab hS0 x.2.1)]⟩)
theorem fn155_q2 : CK fn155_o2 0 (.loop fn155_p2) := yv752 (c := fn155_p2) (Z := Int) (Y := Unit ⊕ Unit) tabOk fn155_rk uC (fun _ x z b e => fn155_b2 (tabBk 3 x.2.1 : fn105) z (fun x9 => b x9) (e (.inl ())) (e (.inr ()))) (fun x z => ⟨[(1, .ref 0 0), (6, .n .i64 z)], [(injL tab hS0 x.2.1)]⟩) (fun x y => match y with | .inl y => (.ret, ⟨[(2, .b false)], [(injL tab hS0 x.2.1)]⟩) | .inr y => ((.exit 4), ⟨[], [(injL tab hS0 x.2.1)]⟩)) (fun t => (prjS tab 0 fn155_s2 t).bind fun x => some x.1.2.1) (fun e t => (if eqE e .ret then yv543 ((prjS tab 0 ⟨[(2, .g (.f (.cb false)))], [hS0]⟩ t).bind fun v => some (.inl ())) (if eqE e (.exit 4) then (prjS tab 0 ⟨[], [hS0]⟩ t).bind fun v => some (.inr ()) else none) else (if eqE e (.exit 4) then (prjS tab 0 ⟨[], [hS0]⟩ t).bind fun v => some (.inr ()) else none))) (fun x => by kernel_rfl) (fun x z => by kernel_rfl) (fun x y k => by rcases y with y | y <;> kernel_rfl) (fun x y => by rcases y with y | y <;> exact nofun) (fun x z => by kernel_rfl) (fun x y => by rcases y with y | y <;> kernel_rfl) (fun x z k => by kernel_rfl)
def fn155_p : TCode Tb :=
(.seq (.reg [(Op .box [.m 0] 1), (Op .mv [kf] 2)] none)
(.seq (.reg [(Fav 7 1 7), (Ld 7 8), (Op .lens [.m 8] 9), (Fav 14 1 10), (Ld 10 11), (Op .lens [.m 11] 12), (Op (bi .add) [.m 9, .m 12] 13), (Fav 15 1 14), (Ld 14 15), (Op .lens [.m 15] 16), (Op (bi .add) [.m 13, .m 16] 17), (Fav 16 1 18), (Ld 18 19), (Op .lens [.m 19] 20), (Op (bi .add) [.m 17, .m 20] 21), (Fav 17 1 22), (Ld 22 23), (Op .lens [.m 23] 24), (Op (bi .add) [.m 21, .m 24] 25), (Fav 20 1 26), (Ld 26 27), (Op .lens [.m 27] 28), (Op (bi .add) [.m 25, .m 28] 29), (Fav 21 1 30), (Ld 30 31), (Op .lens [.m 31] 32), (Op (bi .add) [.m 29, .m 32] 33), (Fav 23 1 34), (Ld 34 35), (Op .len [.m 35] 36), (Op (bi .add) [.m 33, .m 36] 37), (Mv 37 3)] none)
(.seq (.seq (.reg [(Mv 3 38), (Op (bi .gtr) [.m 38, ki 3000] 39), (Mv 39 40), (No (.fa 22) [.v 1] 41 40), (No ld [.m 41] 42 40), (No .len [.m 42] 43 40), (No (bi .gtr) [.m 43, ki 30] 44 40), (Op .pick [.m 40, kt, .m 44] 45), (Mv 45 46), (No (.fa 24) [.v 1] 47 46), (No ld [.m 47] 48 46), (No .len [.m 48] 49 46), (No (bi .gtr) [.m 49, ki 30] 50 46), (Op .pick [.m 46, kt, .m 50] 51), (Mv 51 52), (No (.fa 13) [.v 1] 53 52), (No ld [.m 53] 54 52), (No .len [.m 54] 55 52), (No (bi .gtr) [.m 55, ki 30] 56 52), (Op .pick [.m 52, kt, .m 56] 57)] none)
(.drop [2, 41, 42, 43, 47, 48, 49, 53, 54, 55] (.cond 57 (.drop [1, 57] (.seq (.reg [(Op .mv [kf] 2)] none)
.ret))
(.drop [57] .skip))))
(.seq (.seq (.reg [(Op .mv [ki 0] 4)] none)
(.block 0 (.cut 0 fn155_o0 (.loop fn155_p0))))
(.seq (.seq (.reg [(Op .mv [ki 0] 5)] none)
(.block 2 (.cut 0 fn155_o1 (.loop fn155_p1))))
(.seq (.seq (.reg [(Op .mv [ki 0] 6)] none)
(.block 4 (.cut 0 fn155_o2 (.loop fn155_p2))))
(.seq (.reg [(Op .mv [kt] 2)] none)
.ret)))))))
def fn155_w : Orc Tb := mkOrc (Y := Bool) tab [.g (.st 3)] [] (fun x h => fn155 (x.1 : fn105)) (fun _ y k => k (.b y) [])
theorem fn155_k : WK fn155_w 13 := orcD (Y := Bool) (c := fn155_p) (res := [.tmp 2]) (n := 123) (R := (RSp.one (Y := Bool) tab (bS) [] (fun a b => a) (fun y => y) (fun y => ()))) fn155_rk oneD Tryz.func13 (cS uC (cS uC (cS uC (cS (cS uC (cB (cT fn155_q0))) (cS (cS uC (cB (cT fn155_q1))) (cS (cS uC (cB (cT fn155_q2))) uC))))))
def fn18_r : Orcs Tb := []
theorem fn18_rk : RK fn18_r := yv743
def fn18_p1 : TCode Tb :=
(.seq (.seq (.reg [(Fav 10 1 43), (Ld 43 44)] none)
(.cond 44 (.drop [44] (.reg [(Fam 17 1 45), (Ld 45 46), (Fav 17 3 47), (Do (.store 1) [.m 47, .m 46])] none))
(.drop [1, 44] .skip)))
(.seq (.reg [(Op (.load (some 25)) [.m 3] 48), (Do (.store 25) [.v 2, .m 48])] none)
.ret))
def fn18_s1 : SSh := ⟨[(1, rS 0 0), (2, rS 1 0), (3, rS 2 0)], [hS1, hS2, hS3]⟩
def fn18_o1 : Cut Tb := cutJ tab 0 fn18_s1 (fun _ x k => fn18_c1 (tabBk 6 x.2.1 : fn54) (tabBk 6 x.2.2.2.1 : fn54) (fun y8 y9 => k .ret ⟨[(2, .ref 1 0)], [(injL tab hS1 x.2.1), (List.set (injL tab hS1 x.2.2.2.1) 17 (.s y8)), (List.set (injL tab hS3 x.2.2.2.1) 17 (.s y9))]⟩))
theorem fn18_q1 : CK fn18_o1 0 fn18_p1 := cutJD fn18_rk uC
def fn18_p0 : TCode Tb :=
(.seq (.seq (.reg [(Fav 9 1 38), (Ld 38 39)] none)
(.cond 39 (.drop [39] (.reg [(Fav 16 1 40), (Ld 40 41), (Fav 16 3 42), (Do (.store 1) [.m 42, .m 41])] none))
(.drop [39] .skip)))
(.cut 0 fn18_o1 fn18_p1))
def fn18_s0 : SSh := ⟨[(1, rS 0 0), (2, rS 1 0), (3, rS 2 0)], [[iS, bS, bS, u8S, u16S, bS, u16S, sS, bS, bS, bS, u8S, bS, lS 4, sS, sS, sS, sS, bS, u8S, sS, sS, lS 5, bsS, lS 4], [iS, bS, bS, u8S, u16S, bS, u16S, sS, bS, bS, bS, u8S, bS, wS 4, sS, sS, sS, sS, bS, u8S, sS, sS, wS 5, boS, wS 4], [iS, bS, bS, u8S, u16S, bS, u16S, sS, bS, bS, bS, u8S, bS, lS 4, sS, sS, sS, sS, bS, u8S, sS, sS, wS 5, boS, lS 4]]⟩
def fn18_o0 : Cut Tb := cutJ tab 0 fn18_s0 (fun _ x k => fn18_c0 (⟨x.2.1.1, x.2.1.2.1, x.2.1.2.2.1, x.2.1.2.2.2.1, x.2.1.2.2.2.2.1, x.2.1.2.2.2.2.2.1, x.2.1.2.2.2.2.2.2.1, x.2.1.2.2.2.2.2.2.2.1, x.2.1.2.2.2.2.2.2.2.2.1, x.2.1.2.2.2.2.2.2.2.2.2.1, x.2.1.2.2.2.2.2.2.2.2.2.2.1, x.2.1.2.2.2.2.2.2.2.2.2.2.2.1, x.2.1.2.2.2.2.2.2.2.2.2.2.2.2.1, x.2.1.2.2.2.2.2.2.2.2.2.2.2.2.2.1, x.2.1.2.2.2.2.2.2.2.2.2.2.2.2.2.2.1, x.2.1.2.2.2.2.2.2.2.2.2.2.2.2.2.2.2.1, x.2.1.2.2.2.2.2.2.2.2.2.2.2.2.2.2.2.2.1, x.2.1.2.2.2.2.2.2.2.2.2.2.2.2.2.2.2.2.2.1, x.2.1.2.2.2.2.2.2.2.2.2.2.2.2.2.2.2.2.2.2.1, x.2.1.2.2.2.2.2.2.2.2.2.2.2.2.2.2.2.2.2.2.2.1, x.2.1.2.2.2.2.2.2.2.2.2.2.2.2.2.2.2.2.2.2.2.2.1, x.2.1.2.2.2.2.2.2.2.2.2.2.2.2.2.2.2.2.2.2.2.2.2.1, x.2.1.2.2.2.2.2.2.2.2.2.2.2.2.2.2.2.2.2.2.2.2.2.2.1, x.2.1.2.2.2.2.2.2.2.2.2.2.2.2.2.2.2.2.2.2.2.2.2.2.2.1, x.2.1.2.2.2.2.2.2.2.2.2.2.2.2.2.2.2.2.2.2.2.2.2.2.2.2.1⟩ : fn54) (⟨x.2.2.2.1.1, x.2.2.2.1.2.1, x.2.2.2.1.2.2.1, x.2.2.2.1.2.2.2.1, x.2.2.2.1.2.2.2.2.1, x.2.2.2.1.2.2.2.2.2.1, x.2.2.2.1.2.2.2.2.2.2.1, x.2.2.2.1.2.2.2.2.2.2.2.1, x.2.2.2.1.2.2.2.2.2.2.2.2.1, x.2.2.2.1.2.2.2.2.2.2.2.2.2.1, x.2.2.2.1.2.2.2.2.2.2.2.2.2.2.1, x.2.2.2.1.2.2.2.2.2.2.2.2.2.2.2.1, x.2.2.2.1.2.2.2.2.2.2.2.2.2.2.2.2.1, x.2.2.2.1.2.2.2.2.2.2.2.2.2.2.2.2.2.1, x.2.2.2.1.2.2.2.2.2.2.2.2.2.2.2.2.2.2.1, x.2.2.2.1.2.2.2.2.2.2.2.2.2.2.2.2.2.2.2.1, x.2.2.2.1.2.2.2.2.2.2.2.2.2.2.2.2.2.2.2.2.1, x.2.2.2.1.2.2.2.2.2.2.2.2.2.2.2.2.2.2.2.2.2.1, x.2.2.2.1.2.2.2.2.2.2.2.2.2.2.2.2.2.2.2.2.2.2.1, x.2.2.2.1.2.2.2.2.2.2.2.2.2.2.2.2.2.2.2.2.2.2.2.1, x.2.2.2.1.2.2.2.2.2.2.2.2.2.2.2.2.2.2.2.2.2.2.2.2.1, x.2.2.2.1.2.2.2.2.2.2.2.2.2.2.2.2.2.2.2.2.2.2.2.2.2.1, x.2.2.2.1.2.2.2.2.2.2.2.2.2.2.2.2.2.2.2.2.2.2.2.2.2.2.1, x.2.2.2.1.2.2.2.2.2.2.2.2.2.2.2.2.2.2.2.2.2.2.2.2.2.2.2.1, x.2.2.2.1.2.2.2.2.2.2.2.2.2.2.2.2.2.2.2.2.2.2.2.2.2.2.2.2.1⟩ : fn54) (fun y14 y15 => k .ret ⟨[(2, .ref 1 0)], [[.n .i64 x.2.1.1, .b x.2.1.2.1, .b x.2.1.2.2.1, .u8 x.2.1.2.2.2.1, .u16 x.2.1.2.2.2.2.1, .b x.2.1.2.2.2.2.2.1, .u16 x.2.1.2.2.2.2.2.2.1, .s x.2.1.2.2.2.2.2.2.2.1, .b x.2.1.2.2.2.2.2.2.2.2.1, .b x.2.1.2.2.2.2.2.2.2.2.2.1, .b x.2.1.2.2.2.2.2.2.2.2.2.2.1, .u8 x.2.1.2.2.2.2.2.2.2.2.2.2.2.1, .b x.2.1.2.2.2.2.2.2.2.2.2.2.2.2.1, .sl 4 x.2.1.2.2.2.2.2.2.2.2.2.2.2.2.2.1, .s x.2.1.2.2.2.2.2.2.2.2.2.2.2.2.2.2.1, .s x.2.1.2.2.2.2.2.2.2.2.2.2.2.2.2.2.2.1, .s x.2.1.2.2.2.2.2.2.2.2.2.2.2.2.2.2.2.2.1, .s x.2.1.2.2.2.2.2.2.2.2.2.2.2.2.2.2.2.2.2.1, .b x.2.1.2.2.2.2.2.2.2.2.2.2.2.2.2.2.2.2.2.2.1, .u8 x.2.1.2.2.2.2.2.2.2.2.2.2.2.2.2.2.2.2.2.2.2.1, .s x.2.1.2.2.2.2.2.2.2.2.2.2.2.2.2.2.2.2.2.2.2.2.1, .s x.2.1.2.2.2.2.2.2.2.2.2.2.2.2.2.2.2.2.2.2.2.2.2.1, .sl 5 x.2.1.2.2.2.2.2.2.2.2.2.2.2.2.2.2.2.2.2.2.2.2.2.2.1, .bs x.2.1.2.2.2.2.2.2.2.2.2.2.2.2.2.2.2.2.2.2.2.2.2.2.2.1, .sl 4 x.2.1.2.2.2.2.2.2.2.2.2.2.2.2.2.2.2.2.2.2.2.2.2.2.2.2.1], [.n .i64 y14.Kind, .b y14.Dup, .b y14.Retain, .u8 y14.QoS, .u16 y14.Id, .b y14.Clean, .u16 y14.Keep, .s y14.Client, .b y14.HasWill, .b y14.HasUser, .b y14.HasPass, .u8 y14.WillQoS, .b y14.WillRetain, .sl 4 y14.WillProps, .s y14.WillTopic, .s y14.WillLoad, .s y14.User, .s y14.Pass, .b y14.Present, .u8 y14.Code, .s y14.Topic, .s y14.Load, .sl 5 y14.Filters, .bs y14.Codes, .sl 4 y14.Props], [.n .i64 y15.Kind, .b y15.Dup, .b y15.Retain, .u8 y15.QoS, .u16 y15.Id, .b y15.Clean, .u16 y15.Keep, .s y15.Client, .b y15.HasWill, .b y15.HasUser, .b y15.HasPass, .u8 y15.WillQoS, .b y15.WillRetain, .sl 4 y15.WillProps, .s y15.WillTopic, .s y15.WillLoad, .s y15.User, .s y15.Pass, .b y15.Present, .u8 y15.Code, .s y15.Topic, .s y15.Load, .ow 5 y15.Filters, .bo y15.Codes, .sl 4 y15.Props]]⟩))
theorem fn18_q0 : CK fn18_o0 0 fn18_p0 := cutJD fn18_rk (cS uC (cT fn18_q1))
def fn18_p : TCode Tb :=
(.seq (.reg [(Op .box [.m 0] 1), (Op (.alloc zV0) [] 2)] none)
(.seq (.reg [(Fav 0 1 4), (Ld 4 5), (Fav 24 1 6), (Ld 6 7), (Fav 5 1 8), (Ld 8 9), (Fav 6 1 10), (Ld 10 11), (Fav 7 1 12), (Ld 12 13), (Fav 8 1 14), (Ld 14 15), (Fav 9 1 16), (Ld 16 17), (Fav 10 1 18), (Ld 18 19), (Op (.build zV0 [(0, 1), (24, 1), (5, 1), (6, 1), (7, 1), (8, 1), (9, 1), (10, 1)]) [.m 5, .m 7, .m 9, .m 11, .m 13, .m 15, .m 17, .m 19] 20), (Op (.alloc zV0) [] 3), (Do (.store 25) [.v 3, .m 20])] none)
(.seq (.seq (.reg [(Fav 8 1 21), (Ld 21 22)] none)
(.cond 22 (.drop [22] (.reg [(Fav 11 1 23), (Ld 23 24), (Fav 12 1 25), (Ld 25 26), (Fav 13 1 27), (Ld 27 28), (Fav 14 1 29), (Ld 29 30), (Fav 15 1 31), (Ld 31 32), (Fav 11 3 33), (Do (.store 1) [.m 33, .m 24]), (Fav 12 3 34), (Do (.store 1) [.m 34, .m 26]), (Fav 13 3 35), (Do (.store 1) [.m 35, .m 28]), (Fav 14 3 36), (Do (.store 1) [.m 36, .m 30]), (Fav 15 3 37), (Do (.store 1) [.m 37, .m 32])] (some [[], [], [], [1], [], [1, 3], [], [1, 3, 5], [], [1, 3, 5, 7], [], [3, 5, 7, 9], [], [5, 7, 9], [], [7, 9], [], [9], [], []])))
(.drop [22] .skip)))
(.cut 0 fn18_o0 fn18_p0))))
def fn18_w : Orc Tb := mkOrc (Y := fn54) tab [.g (.st 6)] [] (fun x h => fn18 (x.1 : fn54)) (fun _ y k => k (.agg (injL tab hS1 (tabUn 6 y))) [])
theorem fn18_k : WK fn18_w 82 := orcD (Y := fn54) (c := fn18_p) (res := [.cell 2 (some 25)]) (n := 49) (R := (RSp.one (Y := fn54) tab (.g (.st 6)) [] (fun a b => (a : fn54)) (fun y => (y : fn54)) (fun y => ()))) fn18_rk oneD Tryz.func82 (cS uC (cS uC (cS uC (cT fn18_q0))))
def fn67_r : Orcs Tb := [(82, fn18_w)]
theorem fn67_rk : RK fn67_r := (yv720 fn18_k yv743)
def fn67_p3 : TCode Tb :=
(.cond 73 (.drop [73] (.reg [(Fam 19 1 76), (Ld 76 77), (Fav 19 3 78), (Do (.store 1) [.m 78, .m 77])] none))
(.drop [1, 73] (.reg [(Fav 24 3 11), (Do (.store 1) [.m 11, .k (.nilS)])] none)))
def fn67_s3 : SSh := ⟨[(1, rS 0 0), (2, rS 1 0), (3, rS 2 0), (73, bS)], [hS1, hS2, hS4]⟩
def fn67_o3 : Cut Tb := cutJ tab 0 fn67_s3 (fun _ x k => fn67_c3 x.1.2.2.2.1 (k .normal ⟨[(2, .ref 1 0), (3, .ref 2 0)], [(injL tab hS1 x.2.1), (injL tab hS2 x.2.2.1), (List.set (injL tab hS4 x.2.2.2.1) 19 (.u8 x.2.1.2.2.2.2.2.2.2.2.2.2.2.2.2.2.2.2.2.2.2.1))]⟩) (k .normal ⟨[(2, .ref 1 0), (3, .ref 2 0)], [(injL tab hS1 x.2.1), (injL tab hS2 x.2.2.1), [.n .i64 x.2.2.2.1.1, .b x.2.2.2.1.2.1, .b x.2.2.2.1.2.2.1, .u8 x.2.2.2.1.2.2.2.1, .u16 x.2.2.2.1.2.2.2.2.1, .b x.2.2.2.1.2.2.2.2.2.1, .u16 x.2.2.2.1.2.2.2.2.2.2.1, .s x.2.2.2.1.2.2.2.2.2.2.2.1, .b x.2.2.2.1.2.2.2.2.2.2.2.2.1, .b x.2.2.2.1.2.2.2.2.2.2.2.2.2.1, .b x.2.2.2.1.2.2.2.2.2.2.2.2.2.2.1, .u8 x.2.2.2.1.2.2.2.2.2.2.2.2.2.2.2.1, .b x.2.2.2.1.2.2.2.2.2.2.2.2.2.2.2.2.1, .ow 4 x.2.2.2.1.2.2.2.2.2.2.2.2.2.2.2.2.2.1, .s x.2.2.2.1.2.2.2.2.2.2.2.2.2.2.2.2.2.2.1, .s x.2.2.2.1.2.2.2.2.2.2.2.2.2.2.2.2.2.2.2.1, .s x.2.2.2.1.2.2.2.2.2.2.2.2.2.2.2.2.2.2.2.2.1, .s x.2.2.2.1.2.2.2.2.2.2.2.2.2.2.2.2.2.2.2.2.2.1, .b x.2.2.2.1.2.2.2.2.2.2.2.2.2.2.2.2.2.2.2.2.2.2.1, .u8 x.2.2.2.1.2.2.2.2.2.2.2.2.2.2.2.2.2.2.2.2.2.2.2.1, .s x.2.2.2.1.2.2.2.2.2.2.2.2.2.2.2.2.2.2.2.2.2.2.2.2.1, .s x.2.2.2.1.2.2.2.2.2.2.2.2.2.2.2.2.2.2.2.2.2.2.2.2.2.1, .ow 5 x.2.2.2.1.2.2.2.2.2.2.2.2.2.2.2.2.2.2.2.2.2.2.2.2.2.2.1, .bo x.2.2.2.1.2.2.2.2.2.2.2.2.2.2.2.2.2.2.2.2.2.2.2.2.2.2.2.1, .nilS]]⟩))
theorem fn67_q3 : CK fn67_o3 0 fn67_p3 := cutJD fn67_rk uC
def fn67_p2 : TCode Tb :=
(.cond 64 (.drop [10, 64] (.reg [(Fav 4 1 67), (Ld 67 68), (Fav 23 1 69), (Ld 69 70), (Fav 4 3 71), (Do (.store 1) [.m 71, .m 68]), (Fav 23 3 72), (Do (.store 1) [.m 72, .m 70])] (some [[], [], [], [1], [], [3], [], []])))
(.drop [64] (.seq (.seq (.reg [(Op (bi .eql) [.v 10, ki 14] 74), (Mv 74 73)] none)
(.cond 73 (.drop [10] .skip)
(.drop [73] (.reg [(Op (bi .eql) [.m 10, ki 15] 75), (Mv 75 73)] none))))
(.cut 0 fn67_o3 fn67_p3))))
def fn67_s2 : SSh := ⟨[(1, rS 0 0), (2, rS 1 0), (3, rS 2 0), (10, iS), (64, bS)], [hS1, hS2, hS4]⟩
def fn67_o2 : Cut Tb := cutJ tab 0 fn67_s2 (fun _ x k => fn67_c2 x.1.2.2.2.1 x.1.2.2.2.2.1 (k .normal ⟨[(1, .ref 0 0), (2, .ref 1 0), (3, .ref 2 0)], [(injL tab hS1 x.2.1), (injL tab hS2 x.2.2.1), (List.set (List.set (injL tab hS5 x.2.2.2.1) 4 (.u16 x.2.1.2.2.2.2.1)) 23 (.bs x.2.1.2.2.2.2.2.2.2.2.2.2.2.2.2.2.2.2.2.2.2.2.2.2.2.1))]⟩) (k .normal ⟨[(2, .ref 1 0), (3, .ref 2 0)], [(injL tab hS1 x.2.1), (injL tab hS2 x.2.2.1), (List.set (injL tab hS4 x.2.2.2.1) 19 (.u8 x.2.1.2.2.2.2.2.2.2.2.2.2.2.2.2.2.2.2.2.2.2.1))]⟩) (k .normal ⟨[(2, .ref 1 0), (3, .ref 2 0)], [(injL tab hS1 x.2.1), (injL tab hS2 x.2.2.1), [.n .i64 x.2.2.2.1.1, .b x.2.2.2.1.2.1, .b x.2.2.2.1.2.2.1, .u8 x.2.2.2.1.2.2.2.1, .u16 x.2.2.2.1.2.2.2.2.1, .b x.2.2.2.1.2.2.2.2.2.1, .u16 x.2.2.2.1.2.2.2.2.2.2.1, .s x.2.2.2.1.2.2.2.2.2.2.2.1, .b x.2.2.2.1.2.2.2.2.2.2.2.2.1, .b x.2.2.2.1.2.2.2.2.2.2.2.2.2.1, .b x.2.2.2.1.2.2.2.2.2.2.2.2.2.2.1, .u8 x.2.2.2.1.2.2.2.2.2.2.2.2.2.2.2.1, .b x.2.2.2.1.2.2.2.2.2.2.2.2.2.2.2.2.1, .ow 4 x.2.2.2.1.2.2.2.2.2.2.2.2.2.2.2.2.2.1, .s x.2.2.2.1.2.2.2.2.2.2.2.2.2.2.2.2.2.2.1, .s x.2.2.2.1.2.2.2.2.2.2.2.2.2.2.2.2.2.2.2.1, .s x.2.2.2.1.2.2.2.2.2.2.2.2.2.2.2.2.2.2.2.2.1, .s x.2.2.2.1.2.2.2.2.2.2.2.2.2.2.2.2.2.2.2.2.2.1, .b x.2.2.2.1.2.2.2.2.2.2.2.2.2.2.2.2.2.2.2.2.2.2.1, .u8 x.2.2.2.1.2.2.2.2.2.2.2.2.2.2.2.2.2.2.2.2.2.2.2.1, .s x.2.2.2.1.2.2.2.2.2.2.2.2.2.2.2.2.2.2.2.2.2.2.2.2.1, .s x.2.2.2.1.2.2.2.2.2.2.2.2.2.2.2.2.2.2.2.2.2.2.2.2.2.1, .ow 5 x.2.2.2.1.2.2.2.2.2.2.2.2.2.2.2.2.2.2.2.2.2.2.2.2.2.2.1, .bo x.2.2.2.1.2.2.2.2.2.2.2.2.2.2.2.2.2.2.2.2.2.2.2.2.2.2.2.1, .nilS]]⟩))
theorem fn67_q2 : CK fn67_o2 0 fn67_p2 := cutJD fn67_rk (cC uC (cD (cS uC (cT fn67_q3))))
def fn67_p1 : TCode Tb :=
(.cond 55 (.drop [10, 55] (.reg [(Fav 4 1 58), (Ld 58 59), (Fav 22 1 60), (Ld 60 61), (Fav 4 3 62), (Do (.store 1) [.m 62, .m 59]), (Fav 22 3 63), (Do (.store 1) [.m 63, .m 61])] (some [[], [], [], [1], [], [3], [], []])))
(.drop [55] (.seq (.seq (.reg [(Op (bi .eql) [.v 10, ki 9] 65), (Mv 65 64)] none)
(.cond 64 .skip
(.drop [64] (.reg [(Op (bi .eql) [.v 10, ki 11] 66), (Mv 66 64)] none))))
(.cut 0 fn67_o2 fn67_p2))))
def fn67_s1 : SSh := ⟨[(1, rS 0 0), (2, rS 1 0), (3, rS 2 0), (10, iS), (55, bS)], [hS1, hS2, hS4]⟩
def fn67_o1 : Cut Tb := cutJ tab 0 fn67_s1 (fun _ x k => fn67_c1 x.1.2.2.2.1 x.1.2.2.2.2.1 (k .normal ⟨[(1, .ref 0 0), (2, .ref 1 0), (3, .ref 2 0)], [(injL tab hS1 x.2.1), (injL tab hS2 x.2.2.1), (List.set (List.set (injL tab hS6 x.2.2.2.1) 4 (.u16 x.2.1.2.2.2.2.1)) 22 (.sl 5 x.2.1.2.2.2.2.2.2.2.2.2.2.2.2.2.2.2.2.2.2.2.2.2.2.1))]⟩) (k .normal ⟨[(1, .ref 0 0), (2, .ref 1 0), (3, .ref 2 0)], [(injL tab hS1 x.2.1), (injL tab hS2 x.2.2.1), (List.set (List.set (injL tab hS5 x.2.2.2.1) 4 (.u16 x.2.1.2.2.2.2.1)) 23 (.bs x.2.1.2.2.2.2.2.2.2.2.2.2.2.2.2.2.2.2.2.2.2.2.2.2.2.1))]⟩) (k .normal ⟨[(2, .ref 1 0), (3, .ref 2 0)], [(injL tab hS1 x.2.1), (injL tab hS2 x.2.2.1), (List.set (injL tab hS4 x.2.2.2.1) 19 (.u8 x.2.1.2.2.2.2.2.2.2.2.2.2.2.2.2.2.2.2.2.2.2.1))]⟩) (k .normal ⟨[(2, .ref 1 0), (3, .ref 2 0)], [(injL tab hS1 x.2.1), (injL tab hS2 x.2.2.1), [.n .i64 x.2.2.2.1.1, .b x.2.2.2.1.2.1, .b x.2.2.2.1.2.2.1, .u8 x.2.2.2.1.2.2.2.1, .u16 x.2.2.2.1.2.2.2.2.1, .b x.2.2.2.1.2.2.2.2.2.1, .u16 x.2.2.2.1.2.2.2.2.2.2.1, .s x.2.2.2.1.2.2.2.2.2.2.2.1, .b x.2.2.2.1.2.2.2.2.2.2.2.2.1, .b x.2.2.2.1.2.2.2.2.2.2.2.2.2.1, .b x.2.2.2.1.2.2.2.2.2.2.2.2.2.2.1, .u8 x.2.2.2.1.2.2.2.2.2.2.2.2.2.2.2.1, .b x.2.2.2.1.2.2.2.2.2.2.2.2.2.2.2.2.1, .ow 4 x.2.2.2.1.2.2.2.2.2.2.2.2.2.2.2.2.2.1, .s x.2.2.2.1.2.2.2.2.2.2.2.2.2.2.2.2.2.2.1, .s x.2.2.2.1.2.2.2.2.2.2.2.2.2.2.2.2.2.2.2.1, .s x.2.2.2.1.2.2.2.2.2.2.2.2.2.2.2.2.2.2.2.2.1, .s x.2.2.2.1.2.2.2.2.2.2.2.2.2.2.2.2.2.2.2.2.2.1, .b x.2.2.2.1.2.2.2.2.2.2.2.2.2.2.2.2.2.2.2.2.2.2.1, .u8 x.2.2.2.1.2.2.2.2.2.2.2.2.2.2.2.2.2.2.2.2.2.2.2.1, .s x.2.2.2.1.2.2.2.2.2.2.2.2.2.2.2.2.2.2.2.2.2.2.2.2.1, .s x.2.2.2.1.2.2.2.2.2.2.2.2.2.2.2.2.2.2.2.2.2.2.2.2.2.1, .ow 5 x.2.2.2.1.2.2.2.2.2.2.2.2.2.2.2.2.2.2.2.2.2.2.2.2.2.2.1, .bo x.2.2.2.1.2.2.2.2.2.2.2.2.2.2.2.2.2.2.2.2.2.2.2.2.2.2.2.1, .nilS]]⟩))
theorem fn67_q1 : CK fn67_o1 0 fn67_p1 := cutJD fn67_rk (cC uC (cD (cS uC (cT fn67_q2))))
def fn67_p0 : TCode Tb :=
(.cond 44 (.drop [10, 44] (.reg [(Fav 4 1 49), (Ld 49 50), (Fav 19 1 51), (Ld 51 52), (Fav 4 3 53), (Do (.store 1) [.m 53, .m 50]), (Fav 19 3 54), (Do (.store 1) [.m 54, .m 52])] (some [[], [], [], [1], [], [3], [], []])))
(.drop [44] (.seq (.seq (.reg [(Op (bi .eql) [.v 10, ki 8] 56), (Mv 56 55)] none)
(.cond 55 .skip
(.drop [55] (.reg [(Op (bi .eql) [.v 10, ki 10] 57), (Mv 57 55)] none))))
(.cut 0 fn67_o1 fn67_p1))))
def fn67_s0 : SSh := ⟨[(1, rS 0 0), (2, rS 1 0), (3, rS 2 0), (10, iS), (44, bS)], [hS1, hS2, hS4]⟩
def fn67_o0 : Cut Tb := cutJ tab 0 fn67_s0 (fun _ x k => fn67_c0 x.1.2.2.2.1 x.1.2.2.2.2.1 (k .normal ⟨[(1, .ref 0 0), (2, .ref 1 0), (3, .ref 2 0)], [(injL tab hS1 x.2.1), (injL tab hS2 x.2.2.1), (List.set (List.set (injL tab hS4 x.2.2.2.1) 4 (.u16 x.2.1.2.2.2.2.1)) 19 (.u8 x.2.1.2.2.2.2.2.2.2.2.2.2.2.2.2.2.2.2.2.2.2.1))]⟩) (k .normal ⟨[(1, .ref 0 0), (2, .ref 1 0), (3, .ref 2 0)], [(injL tab hS1 x.2.1), (injL tab hS2 x.2.2.1), (List.set (List.set (injL tab hS6 x.2.2.2.1) 4 (.u16 x.2.1.2.2.2.2.1)) 22 (.sl 5 x.2.1.2.2.2.2.2.2.2.2.2.2.2.2.2.2.2.2.2.2.2.2.2.2.1))]⟩) (k .normal ⟨[(1, .ref 0 0), (2, .ref 1 0), (3, .ref 2 0)], [(injL tab hS1 x.2.1), (injL tab hS2 x.2.2.1), (List.set (List.set (injL tab hS5 x.2.2.2.1) 4 (.u16 x.2.1.2.2.2.2.1)) 23 (.bs x.2.1.2.2.2.2.2.2.2.2.2.2.2.2.2.2.2.2.2.2.2.2.2.2.2.1))]⟩) (k .normal ⟨[(2, .ref 1 0), (3, .ref 2 0)], [(injL tab hS1 x.2.1), (injL tab hS2 x.2.2.1), (List.set (injL tab hS4 x.2.2.2.1) 19 (.u8 x.2.1.2.2.2.2.2.2.2.2.2.2.2.2.2.2.2.2.2.2.2.1))]⟩) (k .normal ⟨[(2, .ref 1 0), (3, .ref 2 0)], [(injL tab hS1 x.2.1), (injL tab hS2 x.2.2.1), [.n .i64 x.2.2.2.1.1, .b x.2.2.2.1.2.1, .b x.2.2.2.1.2.2.1, .u8 x.2.2.2.1.2.2.2.1, .u16 x.2.2.2.1.2.2.2.2.1, .b x.2.2.2.1.2.2.2.2.2.1, .u16 x.2.2.2.1.2.2.2.2.2.2.1, .s x.2.2.2.1.2.2.2.2.2.2.2.1, .b x.2.2.2.1.2.2.2.2.2.2.2.2.1, .b x.2.2.2.1.2.2.2.2.2.2.2.2.2.1, .b x.2.2.2.1.2.2.2.2.2.2.2.2.2.2.1, .u8 x.2.2.2.1.2.2.2.2.2.2.2.2.2.2.2.1, .b x.2.2.2.1.2.2.2.2.2.2.2.2.2.2.2.2.1, .ow 4 x.2.2.2.1.2.2.2.2.2.2.2.2.2.2.2.2.2.1, .s x.2.2.2.1.2.2.2.2.2.2.2.2.2.2.2.2.2.2.1, .s x.2.2.2.1.2.2.2.2.2.2.2.2.2.2.2.2.2.2.2.1, .s x.2.2.2.1.2.2.2.2.2.2.2.2.2.2.2.2.2.2.2.2.1, .s x.2.2.2.1.2.2.2.2.2.2.2.2.2.2.2.2.2.2.2.2.2.1, .b x.2.2.2.1.2.2.2.2.2.2.2.2.2.2.2.2.2.2.2.2.2.2.1, .u8 x.2.2.2.1.2.2.2.2.2.2.2.2.2.2.2.2.2.2.2.2.2.2.2.1, .s x.2.2.2.1.2.2.2.2.2.2.2.2.2.2.2.2.2.2.2.2.2.2.2.2.1, .s x.2.2.2.1.2.2.2.2.2.2.2.2.2.2.2.2.2.2.2.2.2.2.2.2.2.1, .ow 5 x.2.2.2.1.2.2.2.2.2.2.2.2.2.2.2.2.2.2.2.2.2.2.2.2.2.2.1, .bo x.2.2.2.1.2.2.2.2.2.2.2.2.2.2.2.2.2.2.2.2.2.2.2.2.2.2.2.1, .nilS]]⟩))
theorem fn67_q0 : CK fn67_o0 0 fn67_p0 := cutJD fn67_rk (cC uC (cD (cS uC (cT fn67_q1))))
def fn67_p : TCode Tb :=
(.seq (.reg [(Op .box [.m 0] 1), (Op (.alloc zV0) [] 2)] none)
(.seq (.reg [(Fav 0 1 4), (Ld 4 5), (Fav 24 1 6), (Ld 6 7), (Op (.build zV0 [(0, 1), (24, 1)]) [.m 5, .m 7] 8), (Op (.alloc zV0) [] 3), (Do (.store 25) [.v 3, .m 8])] none)
(.seq (.seq (.reg [(Fav 0 1 9), (Ld 9 10)] none)
(.block 0 (.seq (.reg [(Op (bi .eql) [.v 10, ki 1] 13), (Mv 13 12)] none)
(.cond 12 (.drop [10, 12] (.reg [(Op (.load (some 25)) [.m 1] 14), (Op (.call (some 82) 0) [.m 14] 15), (Do (.store 25) [.v 3, .m 15])] none))
(.drop [12] (.seq (.reg [(Op (bi .eql) [.v 10, ki 2] 17), (Mv 17 16)] none)
(.cond 16 (.drop [10, 16] (.reg [(Fav 18 1 18), (Ld 18 19), (Fav 19 1 20), (Ld 20 21), (Fav 18 3 22), (Do (.store 1) [.m 22, .m 19]), (Fav 19 3 23), (Do (.store 1) [.m 23, .m 21])] (some [[], [], [], [1], [], [3], [], []])))
(.drop [16] (.seq (.reg [(Op (bi .eql) [.v 10, ki 3] 25), (Mv 25 24)] none)
(.cond 24 (.drop [10, 24] (.reg [(Fav 1 1 26), (Ld 26 27), (Fav 3 1 28), (Ld 28 29), (Fav 2 1 30), (Ld 30 31), (Fav 20 1 32), (Ld 32 33), (Fav 4 1 34), (Ld 34 35), (Fav 21 1 36), (Ld 36 37), (Fav 1 3 38), (Do (.store 1) [.m 38, .m 27]), (Fav 3 3 39), (Do (.store 1) [.m 39, .m 29]), (Fav 2 3 40), (Do (.store 1) [.m 40, .m 31]), (Fav 20 3 41), (Do (.store 1) [.m 41, .m 33]), (Fav 4 3 42), (Do (.store 1) [.m 42, .m 35]), (Fav 21 3 43), (Do (.store 1) [.m 43, .m 37])] (some [[], [], [], [1], [], [1, 3], [], [1, 3, 5], [], [1, 3, 5, 7], [], [1, 3, 5, 7, 9], [], [3, 5, 7, 9, 11], [], [5, 7, 9, 11], [], [7, 9, 11], [], [9, 11], [], [11], [], []])))
(.drop [24] (.seq (.seq (.reg [(Op (bi .eql) [.v 10, ki 4] 45), (Mv 45 44)] none)
(.cond 44 .skip
(.drop [44] (.seq (.reg [(Op (bi .eql) [.v 10, ki 5] 46), (Mv 46 44)] none)
(.cond 44 .skip
(.drop [44] (.seq (.reg [(Op (bi .eql) [.v 10, ki 6] 47), (Mv 47 44)] none)
(.cond 44 .skip
(.drop [44] (.reg [(Op (bi .eql) [.v 10, ki 7] 48), (Mv 48 44)] none))))))))))
(.cut 0 fn67_o0 fn67_p0)))))))))))))
(.drop [1] (.seq (.reg [(Op (.load (some 25)) [.m 3] 79), (Do (.store 25) [.v 2, .m 79])] none)
.ret)))))
def fn67_w : Orc Tb := mkOrc (Y := fn54) tab [.g (.st 6)] [] (fun x h => fn67 (x.1 : fn54)) (fun _ y k => k (.agg (injL tab hS1 (tabUn 6 y))) [])
theorem fn67_k : WK fn67_w 40 := orcD (Y := fn54) (c := fn67_p) (res := [.cell 2 (some 25)]) (n := 80) (R := (RSp.one (Y := fn54) tab (.g (.st 6)) [] (fun a b => (a : fn54)) (fun y => (y : fn54)) (fun y => ()))) fn67_rk oneD Tryz.func40 (cS uC (cS uC (cS (cS uC (cB (cS uC (cC uC (cD (cS uC (cC uC (cD (cS uC (cC uC (cD (cS uC (cT fn67_q0))))))))))))) uC)))
def fn31_r : Orcs Tb := []
theorem fn31_rk : RK fn31_r := yv743
def fn31_p : TCode Tb :=
(.seq (.reg [(Op .box [.m 0] 1), (Op (.alloc zV1) [] 2)] none)
(.seq (.reg [(Fav 0 1 3), (Ld 3 4), (Fav 1 1 5), (Ld 5 6), (Fav 2 1 7), (Ld 7 8), (Fav 5 1 9), (Ld 9 10), (Fav 12 1 11), (Ld 11 12), (Fav 8 1 13), (Ld 13 14), (Fav 9 1 15), (Ld 15 16), (Fav 10 1 17), (Ld 17 18), (Fav 18 1 19), (Ld 19 20), (Fav 3 1 21), (Ld 21 22), (Fav 11 1 23), (Ld 23 24), (Fav 19 1 25), (Ld 25 26), (Fav 4 1 27), (Ld 27 28), (Fav 6 1 29), (Ld 29 30), (Fav 7 1 31), (Ld 31 32), (Fav 14 1 33), (Ld 33 34), (Fav 15 1 35), (Ld 35 36), (Fav 16 1 37), (Ld 37 38), (Fav 17 1 39), (Ld 39 40), (Fav 20 1 41), (Ld 41 42), (Fam 21 1 43), (Ld 43 44), (Op (.build zV2 [(0, 1), (1, 1), (2, 1), (3, 1), (4, 1), (5, 1), (6, 1)]) [.m 32, .m 34, .m 36, .m 38, .m 40, .m 42, .m 44] 45), (Op (.build zV1 [(0, 1), (1, 1), (2, 1), (3, 1), (4, 1), (5, 1), (6, 1), (7, 1), (8, 1), (9, 1), (10, 1), (11, 1), (12, 1), (13, 1), (14, 7)]) [.m 4, .m 6, .m 8, .m 10, .m 12, .m 14, .m 16, .m 18, .m 20, .m 22, .m 24, .m 26, .m 28, .m 30, .m 45] 46), (Do (.store 21) [.v 2, .m 46])] none)
.ret))
def fn31_w : Orc Tb := mkOrc (Y := fn66) tab [.g (.st 6)] [] (fun x h => fn31 (x.1 : fn54)) (fun _ y k => k (.agg [.n .i64 y.kind, .b y.dup, .b y.retain, .b y.clean, .b y.willRetain, .b y.will, .b y.user, .b y.pass, .b y.present, .u8 y.qos, .u8 y.willQoS, .u8 y.code, .u16 y.id, .u16 y.keep, .s y.texts.x0, .s y.texts.x1, .s y.texts.x2, .s y.texts.x3, .s y.texts.x4, .s y.texts.x5, .s y.texts.x6]) [])
theorem fn31_k : WK fn31_w 59 := orcD (Y := fn66) (c := fn31_p) (res := [.cell 2 (some 21)]) (n := 47) (R := (RSp.one (Y := fn66) tab (.g (.st 7)) [] (fun a b => ({a with texts := (⟨a.texts.x0, a.texts.x1, a.texts.x2, a.texts.x3, a.texts.x4, a.texts.x5, a.texts.x6⟩ : arr7_s)} : fn66)) (fun y => ({y with texts := (⟨y.texts.x0, y.texts.x1, y.texts.x2, y.texts.x3, y.texts.x4, y.texts.x5, y.texts.x6⟩ : arr7_s)} : fn66)) (fun y => ()))) fn31_rk oneD Tryz.func59 uC
def fn2_r : Orcs Tb := []
theorem fn2_rk : RK fn2_r := yv743
def fn2_p0 : TCode Tb :=
(.seq (.reg [(Op (bi .lss) [.v 13, .v 12] 14)] none)
(.seq (.cond 14 (.drop [14] .skip)
(.drop [0, 1, 12, 13, 14] (.exit 0)))
(.seq (.block 1 (.seq (.reg [(Op .mv [.v 13] 15), (Mv 15 5)] none)
(.seq (.reg [(Op .mv [.v 0] 16), (Op .mv [.v 5] 17), (Op (.ia 2) [.v 16, .m 17] 18), (Op (.load (some 2)) [.m 18] 19), (Op .mv [.v 1] 20), (Op .mv [.v 5] 21), (Op (.ia 2) [.v 20, .m 21] 22), (Op (.load (some 2)) [.m 22] 23), (Op (.eqs true [.s, .i]) [.m 19, .m 23] 24)] (some [[], [], [], [], [], [], [], [3], []]))
(.cond 24 (.drop [0, 1, 5, 12, 13, 16, 20, 24] (.seq (.reg [(Op .mv [kf] 4)] none)
.ret))
(.drop [5, 16, 20, 24] .skip)))))
(.reg [(Op (bi .add) [.m 13, ki 1] 25), (Mv 25 13)] none))))
def fn2_s0 : SSh := ⟨[(0, lS 5), (1, lS 5), (12, iS), (13, iS)], []⟩
def fn2_o0 : Cut Tb := cutL tab 0 fn2_s0 (fun x => x.1.2.2.2.1) (fun x => fn2_l0 x.1.1 x.1.2.1 x.1.2.2.1) (fun _ x y k => match y with | .inl y => k .ret ⟨[(4, .b false)], []⟩ | .inr y => k (.exit 0) ⟨[], []⟩)
theorem fn2_q0 : CK fn2_o0 0 (.loop fn2_p0) := yv752 (c := fn2_p0) (Z := Int) (Y := Unit ⊕ Unit) tabOk fn2_rk uC (fun _ x z b e => fn2_b0 x.1.1 x.1.2.1 x.1.2.2.1 z (fun x6 => b x6) (e (.inl ())) (e (.inr ()))) (fun x z => ⟨[(0, .sl 5 x.1.1), (1, .sl 5 x.1.2.1), (12, .n .i64 x.1.2.2.1), (13, .n .i64 z)], []⟩) (fun x y => match y with | .inl y => (.ret, ⟨[(4, .b false)], []⟩) | .inr y => ((.exit 0), ⟨[], []⟩)) (fun t => (prjS tab 0 fn2_s0 t).bind fun x => some x.1.2.2.2.1) (fun e t => (if eqE e .ret then yv543 ((prjS tab 0 ⟨[(4, .g (.f (.cb false)))], []⟩ t).bind fun v => some (.inl ())) (if eqE e (.exit 0) then (prjS tab 0 ⟨[], []⟩ t).bind fun v => some (.inr ()) else none) else (if eqE e (.exit 0) then (prjS tab 0 ⟨[], []⟩ t).bind fun v => some (.inr ()) else none))) (fun x => by kernel_rfl) (fun x z => by kernel_rfl) (fun x y k => by rcases y with y | y <;> kernel_rfl) (fun x y => by rcases y with y | y <;> exact nofun) (fun x z => by kernel_rfl) (fun x y => by rcases y with y | y <;> kernel_rfl) (fun x z k => by kernel_rfl)
def fn2_p : TCode Tb :=
(.seq (.reg [(Op .mv [kf] 4)] none)
(.seq (.seq (.reg [(Op .mv [.v 0] 6), (Op .len [.m 6] 7), (Op .mv [.v 1] 8), (Op .len [.m 8] 9), (Op (bi .neq) [.m 7, .m 9] 10)] none)
(.cond 10 (.drop [0, 1, 4, 10] (.seq (.reg [(Op .mv [kf] 4)] none)
.ret))
(.drop [4, 10] .skip)))
(.seq (.seq (.reg [(Op .mv [.v 0] 11), (Op .len [.m 11] 12), (Op .mv [ki 0] 13)] none)
(.block 0 (.cut 0 fn2_o0 (.loop fn2_p0))))
(.seq (.reg [(Op .mv [kt] 4)] none)
.ret))))
def fn2_w : Orc Tb := mkOrc (Y := Bool) tab [lS 5, lS 5] [] (fun x h => fn2 x.1 x.2.1) (fun _ y k => k (.b y) [])
theorem fn2_k : WK fn2_w 60 := orcD (Y := Bool) (c := fn2_p) (res := [.tmp 4]) (n := 26) (R := (RSp.one (Y := Bool) tab (bS) [] (fun a b => a) (fun y => y) (fun y => ()))) fn2_rk oneD Tryz.func60 (cS uC (cS uC (cS (cS uC (cB (cT fn2_q0))) uC)))
def fn10_r : Orcs Tb := []
theorem fn10_rk : RK fn10_r := yv743
def fn10_p0 : TCode Tb :=
(.seq (.reg [(Op (bi .lss) [.v 13, .v 12] 14)] none)
(.seq (.cond 14 (.drop [14] .skip)
(.drop [0, 1, 12, 13, 14] (.exit 0)))
(.seq (.block 1 (.seq (.reg [(Op .mv [.v 13] 15), (Mv 15 5)] none)
(.seq (.reg [(Op .mv [.v 0] 16), (Op .mv [.v 5] 17), (Op (.ia 1) [.v 16, .m 17] 18), (Ld 18 19), (Op .mv [.v 1] 20), (Op .mv [.v 5] 21), (Op (.ia 1) [.v 20, .m 21] 22), (Ld 22 23), (Op (bi .neq) [.m 19, .m 23] 24)] (some [[], [], [], [], [], [], [], [3], []]))
(.cond 24 (.drop [0, 1, 5, 12, 13, 16, 20, 24] (.seq (.reg [(Op .mv [kf] 4)] none)
.ret))
(.drop [5, 16, 20, 24] .skip)))))
(.reg [(Op (bi .add) [.m 13, ki 1] 25), (Mv 25 13)] none))))
def fn10_s0 : SSh := ⟨[(0, bsS), (1, bsS), (12, iS), (13, iS)], []⟩
def fn10_o0 : Cut Tb := cutL tab 0 fn10_s0 (fun x => x.1.2.2.2.1) (fun x => fn10_l0 x.1.1 x.1.2.1 x.1.2.2.1) (fun _ x y k => match y with | .inl y => k .ret ⟨[(4, .b false)], []⟩ | .inr y => k (.exit 0) ⟨[], []⟩)
theorem fn10_q0 : CK fn10_o0 0 (.loop fn10_p0) := yv752 (c := fn10_p0) (Z := Int) (Y := Unit ⊕ Unit) tabOk fn10_rk uC (fun _ x z b e => fn10_b0 x.1.1 x.1.2.1 x.1.2.2.1 z (fun x6 => b x6) (e (.inl ())) (e (.inr ()))) (fun x z => ⟨[(0, .bs x.1.1), (1, .bs x.1.2.1), (12, .n .i64 x.1.2.2.1), (13, .n .i64 z)], []⟩) (fun x y => match y with | .inl y => (.ret, ⟨[(4, .b false)], []⟩) | .inr y => ((.exit 0), ⟨[], []⟩)) (fun t => (prjS tab 0 fn10_s0 t).bind fun x => some x.1.2.2.2.1) (fun e t => (if eqE e .ret then yv543 ((prjS tab 0 ⟨[(4, .g (.f (.cb false)))], []⟩ t).bind fun v => some (.inl ())) (if eqE e (.exit 0) then (prjS tab 0 ⟨[], []⟩ t).bind fun v => some (.inr ()) else none) else (if eqE e (.exit 0) then (prjS tab 0 ⟨[], []⟩ t).bind fun v => some (.inr ()) else none))) (fun x => by kernel_rfl) (fun x z => by kernel_rfl) (fun x y k => by rcases y with y | y <;> kernel_rfl) (fun x y => by rcases y with y | y <;> exact nofun) (fun x z => by kernel_rfl) (fun x y => by rcases y with y | y <;> kernel_rfl) (fun x z k => by kernel_rfl)
def fn10_p : TCode Tb :=
(.seq (.reg [(Op .mv [kf] 4)] none)
(.seq (.seq (.reg [(Op .mv [.v 0] 6), (Op .len [.m 6] 7), (Op .mv [.v 1] 8), (Op .len [.m 8] 9), (Op (bi .neq) [.m 7, .m 9] 10)] none)
(.cond 10 (.drop [0, 1, 4, 10] (.seq (.reg [(Op .mv [kf] 4)] none)
.ret))
(.drop [4, 10] .skip)))
(.seq (.seq (.reg [(Op .mv [.v 0] 11), (Op .len [.m 11] 12), (Op .mv [ki 0] 13)] none)
(.block 0 (.cut 0 fn10_o0 (.loop fn10_p0))))
(.seq (.reg [(Op .mv [kt] 4)] none)
.ret))))
def fn10_w : Orc Tb := mkOrc (Y := Bool) tab [bsS, bsS] [] (fun x h => fn10 x.1 x.2.1) (fun _ y k => k (.b y) [])
theorem fn10_k : WK fn10_w 61 := orcD (Y := Bool) (c := fn10_p) (res := [.tmp 4]) (n := 26) (R := (RSp.one (Y := Bool) tab (bS) [] (fun a b => a) (fun y => y) (fun y => ()))) fn10_rk oneD Tryz.func61 (cS uC (cS uC (cS (cS uC (cB (cT fn10_q0))) uC)))
def fn4_r : Orcs Tb := []
theorem fn4_rk : RK fn4_r := yv743
def fn4_p0 : TCode Tb :=
(.seq (.reg [(Op (bi .lss) [.v 13, .v 12] 14)] none)
(.seq (.cond 14 (.drop [14] .skip)
(.drop [0, 1, 12, 13, 14] (.exit 0)))
(.seq (.block 1 (.seq (.reg [(Op .mv [.v 13] 15), (Mv 15 5)] none)
(.seq (.reg [(Op .mv [.v 0] 16), (Op .mv [.v 5] 17), (Op (.ia 4) [.v 16, .m 17] 18), (Op (.load (some 4)) [.m 18] 19), (Op .mv [.v 1] 20), (Op .mv [.v 5] 21), (Op (.ia 4) [.v 20, .m 21] 22), (Op (.load (some 4)) [.m 22] 23), (Op (.eqs true [.i, .i, .s, .s]) [.m 19, .m 23] 24)] (some [[], [], [], [], [], [], [], [3], []]))
(.cond 24 (.drop [0, 1, 5, 12, 13, 16, 20, 24] (.seq (.reg [(Op .mv [kf] 4)] none)
.ret))
(.drop [5, 16, 20, 24] .skip)))))
(.reg [(Op (bi .add) [.m 13, ki 1] 25), (Mv 25 13)] none))))
def fn4_s0 : SSh := ⟨[(0, lS 4), (1, lS 4), (12, iS), (13, iS)], []⟩
def fn4_o0 : Cut Tb := cutL tab 0 fn4_s0 (fun x => x.1.2.2.2.1) (fun x => fn4_l0 x.1.1 x.1.2.1 x.1.2.2.1) (fun _ x y k => match y with | .inl y => k .ret ⟨[(4, .b false)], []⟩ | .inr y => k (.exit 0) ⟨[], []⟩)
theorem fn4_q0 : CK fn4_o0 0 (.loop fn4_p0) := yv752 (c := fn4_p0) (Z := Int) (Y := Unit ⊕ Unit) tabOk fn4_rk uC (fun _ x z b e => fn4_b0 x.1.1 x.1.2.1 x.1.2.2.1 z (fun x6 => b x6) (e (.inl ())) (e (.inr ()))) (fun x z => ⟨[(0, .sl 4 x.1.1), (1, .sl 4 x.1.2.1), (12, .n .i64 x.1.2.2.1), (13, .n .i64 z)], []⟩) (fun x y => match y with | .inl y => (.ret, ⟨[(4, .b false)], []⟩) | .inr y => ((.exit 0), ⟨[], []⟩)) (fun t => (prjS tab 0 fn4_s0 t).bind fun x => some x.1.2.2.2.1) (fun e t => (if eqE e .ret then yv543 ((prjS tab 0 ⟨[(4, .g (.f (.cb false)))], []⟩ t).bind fun v => some (.inl ())) (if eqE e (.exit 0) then (prjS tab 0 ⟨[], []⟩ t).bind fun v => some (.inr ()) else none) else (if eqE e (.exit 0) then (prjS tab 0 ⟨[], []⟩ t).bind fun v => some (.inr ()) else none))) (fun x => by kernel_rfl) (fun x z => by kernel_rfl) (fun x y k => by rcases y with y | y <;> kernel_rfl) (fun x y => by rcases y with y | y <;> exact nofun) (fun x z => by kernel_rfl) (fun x y => by rcases y with y | y <;> kernel_rfl) (fun x z k => by kernel_rfl)
def fn4_p : TCode Tb :=
(.seq (.reg [(Op .mv [kf] 4)] none)
(.seq (.seq (.reg [(Op .mv [.v 0] 6), (Op .len [.m 6] 7), (Op .mv [.v 1] 8), (Op .len [.m 8] 9), (Op (bi .neq) [.m 7, .m 9] 10)] none)
(.cond 10 (.drop [0, 1, 4, 10] (.seq (.reg [(Op .mv [kf] 4)] none)
.ret))
(.drop [4, 10] .skip)))
(.seq (.seq (.reg [(Op .mv [.v 0] 11), (Op .len [.m 11] 12), (Op .mv [ki 0] 13)] none)
(.block 0 (.cut 0 fn4_o0 (.loop fn4_p0))))
(.seq (.reg [(Op .mv [kt] 4)] none)
.ret))))
def fn4_w : Orc Tb := mkOrc (Y := Bool) tab [lS 4, lS 4] [] (fun x h => fn4 x.1 x.2.1) (fun _ y k => k (.b y) [])
theorem fn4_k : WK fn4_w 104 := orcD (Y := Bool) (c := fn4_p) (res := [.tmp 4]) (n := 26) (R := (RSp.one (Y := Bool) tab (bS) [] (fun a b => a) (fun y => y) (fun y => ()))) fn4_rk oneD Tryz.func104 (cS uC (cS uC (cS (cS uC (cB (cT fn4_q0))) uC)))
def fn84_r : Orcs Tb := [(104, fn4_w)]
theorem fn84_rk : RK fn84_r := (yv720 fn4_k yv743)
def fn84_p : TCode Tb :=
(.seq (.reg [(Op .mv [kf] 4)] none)
(.seq (.reg [(Mv 0 5), (Mv 1 6), (Op (.call (some 104) 0) [.m 5, .m 6] 7), (Mv 7 4)] none)
.ret))
def fn84_w : Orc Tb := mkOrc (Y := Bool) tab [lS 4, lS 4] [] (fun x h => fn84 x.1 x.2.1) (fun _ y k => k (.b y) [])
theorem fn84_k : WK fn84_w 62 := orcD (Y := Bool) (c := fn84_p) (res := [.tmp 4]) (n := 8) (R := (RSp.one (Y := Bool) tab (bS) [] (fun a b => a) (fun y => y) (fun y => ()))) fn84_rk oneD Tryz.func62 uC
def fn68_r : Orcs Tb := [(59, fn31_w), (60, fn2_w), (61, fn10_w), (62, fn84_w)]
theorem fn68_rk : RK fn68_r := (yv720 fn31_k (yv720 fn2_k (yv720 fn10_k (yv720 fn84_k yv743))))
def fn68_p : TCode Tb :=
(.seq (.reg [(Op .box [.m 0] 2), (Op .box [.m 1] 3), (Op .mv [kf] 4)] none)
(.seq (.reg [(Op (.load (some 25)) [.v 2] 5), (Op (.call (some 59) 0) [.m 5] 6), (Op (.load (some 25)) [.v 3] 7), (Op (.call (some 59) 0) [.m 7] 8), (Op (.eqs false [.i, .b, .b, .b, .b, .b, .b, .b, .b, .i, .i, .i, .i, .i, .s, .s, .s, .s, .s, .s, .s]) [.m 6, .m 8] 9), (Mv 9 10), (Yes (.fa 22) [.v 2] 11 10), (Yes ld [.m 11] 12 10), (Yes (.fa 22) [.v 3] 13 10), (Yes ld [.m 13] 14 10), (Yes (.call (some 60) 1) [.m 12, .m 14] 15 10), (Op .pick [.m 10, .m 15, kf] 16), (Mv 16 17), (Yes (.fa 23) [.v 2] 18 17), (Yes ld [.m 18] 19 17), (Yes (.fa 23) [.v 3] 20 17), (Yes ld [.m 20] 21 17), (Yes (.call (some 61) 2) [.m 19, .m 21] 22 17), (Op .pick [.m 17, .m 22, kf] 23), (Mv 23 24), (Yes (.fa 24) [.v 2] 25 24), (Yes ld [.m 25] 26 24), (Yes (.fa 24) [.v 3] 27 24), (Yes ld [.m 27] 28 24), (Yes (.call (some 62) 3) [.m 26, .m 28] 29 24), (Op .pick [.m 24, .m 29, kf] 30), (Mv 30 31), (Yes (.fa 13) [.m 2] 32 31), (Yes ld [.m 32] 33 31), (Yes (.fa 13) [.m 3] 34 31), (Yes ld [.m 34] 35 31), (Yes (.call (some 62) 3) [.m 33, .m 35] 36 31), (Op .pick [.m 31, .m 36, kf] 37), (Mv 37 4)] (some [[], [], [0, 1], [], [], [], [], [], [], [7], [], [], [], [], [], [], [14], [], [], [], [], [], [], [21], [], [], [], [], [], [], [28], [], [], []]))
(.drop [2, 3, 11, 12, 13, 14, 18, 19, 20, 21, 25, 26, 27, 28, 32, 33, 34, 35] .ret)))
def fn68_w : Orc Tb := mkOrc (Y := Bool) tab [.g (.st 6), .g (.st 6)] [] (fun x h => fn68 (x.1 : fn54) (x.2.1 : fn54)) (fun _ y k => k (.b y) [])
theorem fn68_k : WK fn68_w 22 := orcD (Y := Bool) (c := fn68_p) (res := [.tmp 4]) (n := 38) (R := (RSp.one (Y := Bool) tab (bS) [] (fun a b => a) (fun y => y) (fun y => ()))) fn68_rk oneD Tryz.func22 uC
def fn23_w : Orc Tb := mkOrc (Y := Bool) tab [sS] [] (fun x h => fn23 x.1) (fun _ y k => k (.b y) [])
theorem fn23_k : WK fn23_w 115 := yv540 tabOk (by kernel_rfl) (fun _ h => h.1) Tryz.utf8_ValidString
def fn24_w : Orc Tb := mkOrc (Y := Bool) tab [sS, sS] [] (fun x h => fn24 x.1 x.2.1) (fun _ y k => k (.b y) [])
theorem fn24_k : WK fn24_w 116 := yv671 tabOk (by kernel_rfl) Tryz.strings_Contains_one
def fn85_r : Orcs Tb := [(115, fn23_w), (116, fn24_w)]
theorem fn85_rk : RK fn85_r := (yv720 fn23_k (yv720 fn24_k yv743))
def fn85_p : TCode Tb :=
(.seq (.reg [(Op .mv [kf] 2)] none)
(.seq (.reg [(Op .mv [.v 0] 3), (Op .lens [.m 3] 4), (Op (bi .leq) [.m 4, ki 65535] 5), (Mv 5 6), (Yes .mv [.v 0] 7 6), (Yes (.call (some 115) 0) [.m 7] 8 6), (Op .pick [.m 6, .m 8, kf] 9), (Mv 9 10), (Yes .mv [.m 0] 11 10), (Yes (.call (some 116) 1) [.m 11, .k (.s [0])] 12 10), (Yes (.un .not) [.m 12] 13 10), (Op .pick [.m 10, .m 13, kf] 14), (Mv 14 2)] none)
(.drop [0, 7, 11, 12] .ret)))
def fn85_w : Orc Tb := mkOrc (Y := Bool) tab [sS] [] (fun x h => fn85 x.1) (fun _ y k => k (.b y) [])
theorem fn85_k : WK fn85_w 83 := orcD (Y := Bool) (c := fn85_p) (res := [.tmp 2]) (n := 15) (R := (RSp.one (Y := Bool) tab (bS) [] (fun a b => a) (fun y => y) (fun y => ()))) fn85_rk oneD Tryz.func83 uC
def fn56_r : Orcs Tb := [(83, fn85_w)]
theorem fn56_rk : RK fn56_r := (yv720 fn85_k yv743)
def fn56_p0 : TCode Tb :=
(.seq (.reg [(Op (bi .lss) [.v 15, .v 14] 16)] none)
(.seq (.cond 16 (.drop [16] .skip)
(.drop [13, 14, 15, 16] (.exit 0)))
(.seq (.block 1 (.seq (.reg [(Op (.ia 1) [.v 13, .v 15] 17), (Ld 17 18), (Mv 18 4)] none)
(.seq (.reg [(Mv 4 19), (Op (.call (some 83) 0) [.m 19] 20), (Op (.un .not) [.m 20] 21)] none)
(.cond 21 (.drop [1, 13, 14, 15, 21] (.seq (.reg [(Op .mv [kf] 2)] none)
.ret))
(.drop [21] .skip)))))
(.reg [(Op (bi .add) [.m 15, ki 1] 22), (Mv 22 15)] none))))
def fn56_s0 : SSh := ⟨[(1, rS 0 0), (13, wS 8), (14, iS), (15, iS)], [hS1]⟩
def fn56_o0 : Cut Tb := cutL tab 0 fn56_s0 (fun x => x.1.2.2.2.1) (fun x => fn56_l0 x.1.2.1 x.1.2.2.1) (fun _ x y k => match y with | .inl y => k .ret ⟨[(2, .b false)], [(injL tab hS1 x.2.1)]⟩ | .inr y => k (.exit 0) ⟨[(1, .ref 0 0)], [(injL tab hS1 x.2.1)]⟩)
theorem fn56_q0 : CK fn56_o0 0 (.loop fn56_p0) := yv752 (c := fn56_p0) (Z := Int) (Y := Unit ⊕ Unit) tabOk fn56_rk uC (fun _ x z b e => fn56_b0 x.1.2.1 x.1.2.2.1 z (fun x4 => b x4) (e (.inl ())) (e (.inr ()))) (fun x z => ⟨[(1, .ref 0 0), (13, .ow 8 x.1.2.1), (14, .n .i64 x.1.2.2.1), (15, .n .i64 z)], [(injL tab hS1 x.2.1)]⟩) (fun x y => match y with | .inl y => (.ret, ⟨[(2, .b false)], [(injL tab hS1 x.2.1)]⟩) | .inr y => ((.exit 0), ⟨[(1, .ref 0 0)], [(injL tab hS1 x.2.1)]⟩)) (fun t => (prjS tab 0 fn56_s0 t).bind fun x => some x.1.2.2.2.1) (fun e t => (if eqE e .ret then yv543 ((prjS tab 0 ⟨[(2, .g (.f (.cb false)))], [hS1]⟩ t).bind fun v => some (.inl ())) (if eqE e (.exit 0) then (prjS tab 0 ⟨[(1, rS 0 0)], [hS1]⟩ t).bind fun v => some (.inr ()) else none) else (if eqE e (.exit 0) then (prjS tab 0 ⟨[(1, rS 0 0)], [hS1]⟩ t).bind fun v => some (.inr ()) else none))) (fun x => by kernel_rfl) (fun x z => by kernel_rfl) (fun x y k => by rcases y with y | y <;> kernel_rfl) (fun x y => by rcases y with y | y <;> exact nofun) (fun x z => by kernel_rfl) (fun x y => by rcases y with y | y <;> kernel_rfl) (fun x z k => by kernel_rfl)
def fn56_p : TCode Tb :=
(.seq (.reg [(Op .box [.m 0] 1), (Op .mv [kf] 2)] none)
(.seq (.seq (.reg [(Fav 7 1 5), (Ld 5 6), (Fav 14 1 7), (Ld 7 8), (Fav 16 1 9), (Ld 9 10), (Fav 20 1 11), (Ld 11 12), (Op (.bslice 8 4 ([] : List UInt8) [0, 1, 2, 3]) [.m 6, .m 8, .m 10, .m 12] 13), (Op .len [.v 13] 14), (Op .mv [ki 0] 15)] none)
(.block 0 (.drop [2] (.cut 0 fn56_o0 (.loop fn56_p0)))))
(.seq (.reg [(Fav 15 1 23), (Ld 23 24), (Op .lens [.m 24] 25), (Op (bi .leq) [.m 25, ki 65535] 26), (Mv 26 27), (Yes (.fa 17) [.m 1] 28 27), (Yes ld [.m 28] 29 27), (Yes .lens [.m 29] 30 27), (Yes (bi .leq) [.m 30, ki 65535] 31 27), (Op .pick [.m 27, .m 31, kf] 32), (Mv 32 2)] none)
(.drop [1, 28, 29, 30] .ret))))
def fn56_w : Orc Tb := mkOrc (Y := Bool) tab [.g (.st 6)] [] (fun x h => fn56 (x.1 : fn54)) (fun _ y k => k (.b y) [])
theorem fn56_k : WK fn56_w 41 := orcD (Y := Bool) (c := fn56_p) (res := [.tmp 2]) (n := 33) (R := (RSp.one (Y := Bool) tab (bS) [] (fun a b => a) (fun y => y) (fun y => ()))) fn56_rk oneD Tryz.func41 (cS uC (cS (cS uC (cB (cD (cT fn56_q0)))) uC))
def fn44_r : Orcs Tb := []
theorem fn44_rk : RK fn44_r := yv743
def fn44_p1 : TCode Tb :=
(.cond 25 (.drop [2, 7, 25] (.seq (.reg [(Mv 1 31), (Op (.ssl 1 true false) [.v 31, ki 1] 32), (Op (.build [.n .i64 0, .sl 9 none] [(0, 1), (1, 1)]) [ki 1, .m 32] 33), (Do (.store 2) [.v 6, .m 33])] none)
.ret))
(.drop [25] (.seq (.reg [(Op (bi .eql) [.v 7, .k (.u8 (38 : UInt8))] 35), (Mv 35 34)] none)
(.cond 34 (.drop [1, 7, 34] (.seq (.reg [(Mv 2 36), (Op (.build [.n .i64 0, .sl 9 none] [(0, 1), (1, 1)]) [ki 7, .m 36] 37), (Do (.store 2) [.v 6, .m 37])] none)
.ret))
(.drop [2, 34] (.seq (.reg [(Op (bi .eql) [.m 7, .k (.u8 (39 : UInt8))] 39), (Mv 39 38)] none)
(.cond 38 (.drop [38] (.seq (.reg [(Mv 1 40), (Op (.build [.n .i64 0, .sl 9 none] [(0, 1), (1, 1)]) [ki 3, .m 40] 41), (Do (.store 2) [.v 6, .m 41])] none)
.ret))
(.drop [1, 38] .skip))))))))
def fn44_s1 : SSh := ⟨[(1, lS 9), (2, lS 9), (6, rS 0 0), (7, u8S), (25, bS)], [[iS, wS 9]]⟩
def fn44_o1 : Cut Tb := cutJ tab 0 fn44_s1 (fun _ x k => fn44_c1 x.1.1 x.1.2.1 x.1.2.2.2.1 x.1.2.2.2.2.1 (fun y15 => k .ret ⟨[(6, .ref 0 0), (31, .sl 9 x.1.1)], [[.n .i64 1, .sl 9 y15]]⟩) (fun y16 => k .ret ⟨[(6, .ref 0 0)], [[.n .i64 y16.kind, .sl 9 y16.kinds]]⟩) (k .normal ⟨[(6, .ref 0 0)], [[.n .i64 x.2.1.1, .ow 9 x.2.1.2.1]]⟩))
theorem fn44_q1 : CK fn44_o1 0 fn44_p1 := cutJD fn44_rk uC
def fn44_p0 : TCode Tb :=
(.cond 16 (.drop [2, 7, 16] (.seq (.reg [(Mv 1 19), (Op (.build [.n .i64 0, .sl 9 none] [(0, 1), (1, 1)]) [ki 2, .m 19] 20), (Do (.store 2) [.v 6, .m 20])] none)
.ret))
(.drop [16] (.seq (.reg [(Op (bi .eql) [.v 7, .k (.u8 (35 : UInt8))] 22), (Mv 22 21)] none)
(.cond 21 (.drop [1, 2, 7, 21] (.seq (.reg [(Op (.bslice 9 1 (0 : Int) [0]) [ki 3] 23), (Op (.build [.n .i64 0, .sl 9 none] [(0, 1), (1, 1)]) [ki 2, .m 23] 24), (Do (.store 2) [.v 6, .m 24])] none)
.ret))
(.drop [21] (.seq (.seq (.reg [(Op (bi .eql) [.v 7, .k (.u8 (36 : UInt8))] 26), (Mv 26 25)] none)
(.cond 25 .skip
(.drop [25] (.seq (.reg [(Op (bi .eql) [.v 7, .k (.u8 (37 : UInt8))] 27), (Mv 27 25)] none)
(.cond 25 .skip
(.drop [25] (.seq (.reg [(Op (bi .eql) [.v 7, .k (.u8 (40 : UInt8))] 28), (Mv 28 25)] none)
(.cond 25 .skip
(.drop [25] (.seq (.reg [(Op (bi .eql) [.v 7, .k (.u8 (41 : UInt8))] 29), (Mv 29 25)] none)
(.cond 25 .skip
(.drop [25] (.reg [(Op (bi .eql) [.v 7, .k (.u8 (42 : UInt8))] 30), (Mv 30 25)] none)))))))))))))
(.cut 0 fn44_o1 fn44_p1)))))))
def fn44_s0 : SSh := ⟨[(1, lS 9), (2, lS 9), (6, rS 0 0), (7, u8S), (16, bS)], [[iS, wS 9]]⟩
def fn44_o0 : Cut Tb := cutJ tab 0 fn44_s0 (fun _ x k => fn44_c0 x.1.1 x.1.2.1 x.1.2.2.2.1 x.1.2.2.2.2.1 (fun y27 => k .ret ⟨[(6, .ref 0 0)], [[.n .i64 y27.kind, .sl 9 y27.kinds]]⟩) (fun y28 => k .ret ⟨[(6, .ref 0 0), (31, .sl 9 x.1.1)], [[.n .i64 1, .sl 9 y28]]⟩) (k .normal ⟨[(6, .ref 0 0)], [[.n .i64 x.2.1.1, .ow 9 x.2.1.2.1]]⟩))
theorem fn44_q0 : CK fn44_o0 0 fn44_p0 := cutJD fn44_rk (cC uC (cD (cS uC (cC uC (cD (cS uC (cT fn44_q1)))))))
def fn44_p : TCode Tb :=
(.seq (.reg [(Op (.alloc [.n .i64 0, .sl 9 none]) [] 6)] none)
(.seq (.seq (.reg [(Mv 0 7)] none)
(.block 0 (.seq (.reg [(Op (bi .eql) [.v 7, .k (.u8 (28 : UInt8))] 9), (Mv 9 8)] none)
(.cond 8 (.drop [1, 2, 7, 8] (.seq (.reg [(Op (.bslice 9 2 (0 : Int) [0, 1]) [ki 2, ki 14] 10), (Op (.build [.n .i64 0, .sl 9 none] [(0, 1), (1, 1)]) [ki 5, .m 10] 11), (Do (.store 2) [.v 6, .m 11])] none)
.ret))
(.drop [8] (.seq (.reg [(Op (bi .eql) [.v 7, .k (.u8 (31 : UInt8))] 13), (Mv 13 12)] none)
(.cond 12 (.drop [1, 2, 7, 12] (.seq (.reg [(Op (.bslice 9 9 (0 : Int) [0, 1, 2, 3, 4, 5, 6, 7, 8]) [ki 2, ki 4, ki 5, ki 6, ki 7, ki 9, ki 11, ki 14, ki 15] 14), (Op (.build [.n .i64 0, .sl 9 none] [(0, 1), (1, 1)]) [ki 5, .m 14] 15), (Do (.store 2) [.v 6, .m 15])] none)
.ret))
(.drop [12] (.seq (.seq (.reg [(Op (bi .eql) [.v 7, .k (.u8 (33 : UInt8))] 17), (Mv 17 16)] none)
(.cond 16 .skip
(.drop [16] (.reg [(Op (bi .eql) [.v 7, .k (.u8 (34 : UInt8))] 18), (Mv 18 16)] none))))
(.cut 0 fn44_o0 fn44_p0))))))))))
(.seq (.reg [(Op (.build [.n .i64 0, .sl 9 none] []) [] 42), (Do (.store 2) [.v 6, .m 42])] none)
.ret)))
def fn44_w : Orc Tb := mkOrc (Y := fn154) tab [u8S, lS 9, lS 9] [] (fun x h => fn44 x.1 x.2.1 x.2.2.1) (fun _ y k => k (.agg [.n .i64 y.kind, .sl 9 y.kinds]) [])
theorem fn44_k : WK fn44_w 146 := orcD (Y := fn154) (c := fn44_p) (res := [.cell 6 (some 2)]) (n := 43) (R := (RSp.one (Y := fn154) tab (.g (.st 10)) [] (fun a b => (⟨a.kind, a.kinds⟩ : fn154)) (fun y => (⟨y.kind, y.kinds⟩ : fn154)) (fun y => ()))) fn44_rk oneD Tryz.func146 (cS uC (cS (cS uC (cB (cS uC (cC uC (cD (cS uC (cC uC (cD (cS uC (cT fn44_q0)))))))))) uC))
def fn86_r : Orcs Tb := [(146, fn44_w)]
theorem fn86_rk : RK fn86_r := (yv720 fn44_k yv743)
def fn86_p0 : TCode Tb :=
(.seq (.seq (.reg [(Op .mv [.v 6] 10), (Op (bi .leq) [.m 10, ki 16] 11)] none)
(.cond 11 (.drop [11] .skip)
(.drop [6, 11] (.exit 0))))
(.seq (.block 1 (.seq (.reg [(Op .mv [.v 6] 14), (Op (bi .neq) [.m 14, ki 12] 15), (Mv 15 16), (Yes .mv [.v 6] 17 16), (Yes (bi .neq) [.m 17, ki 13] 18 16), (Op .pick [.m 16, .m 18, kf] 19)] none)
(.drop [17] (.cond 19 (.drop [19] (.reg [(Mv 5 20), (Op .mv [.v 6] 21), (Op (.bslice 9 1 (0 : Int) [0]) [.m 21] 22), (Op (.app 1 8) [.m 20, .m 22] 23), (Mv 23 5)] none))
(.drop [19] .skip)))))
(.reg [(Mv 6 12), (Op (bi .add) [.m 12, ki 1] 13), (Mv 13 6)] none)))
def fn86_s0 : SSh := ⟨[(0, u8S), (2, rS 0 0), (3, wS 9), (4, wS 9), (5, wS 9), (6, iS)], [[iS, wS 9]]⟩
def fn86_o0 : Cut Tb := cutL tab 0 fn86_s0 (fun x => (x.1.2.2.2.2.1, x.1.2.2.2.2.2.1)) (fun x => fn86_l0) (fun _ x y k => k (.exit 0) ⟨[(0, .u8 x.1.1), (2, .ref 0 0), (3, .ow 9 x.1.2.2.1), (4, .ow 9 x.1.2.2.2.1), (5, .ow 9 y)], [[.n .i64 x.2.1.1, .ow 9 x.2.1.2.1]]⟩)
theorem fn86_q0 : CK fn86_o0 0 (.loop fn86_p0) := cutLD (Z := (Option (List Int)) × Int) (Y := (Option (List Int))) fn86_rk uC (fun _ x z b e => fn86_b0 z.1 z.2 (fun x5 x6 => b (x5, x6)) (fun y9 => e y9)) (fun x z => ⟨[(0, .u8 x.1.1), (2, .ref 0 0), (3, .ow 9 x.1.2.2.1), (4, .ow 9 x.1.2.2.2.1), (5, .ow 9 z.1), (6, .n .i64 z.2)], [[.n .i64 x.2.1.1, .ow 9 x.2.1.2.1]]⟩) (fun x y => ((.exit 0), ⟨[(0, .u8 x.1.1), (2, .ref 0 0), (3, .ow 9 x.1.2.2.1), (4, .ow 9 x.1.2.2.2.1), (5, .ow 9 y)], [[.n .i64 x.2.1.1, .ow 9 x.2.1.2.1]]⟩)) (fun t => (prjS tab 0 fn86_s0 t).bind fun x => some (x.1.2.2.2.2.1, x.1.2.2.2.2.2.1)) (fun e t => (if eqE e (.exit 0) then (prjS tab 0 ⟨[(0, u8S), (2, rS 0 0), (3, wS 9), (4, wS 9), (5, wS 9)], [[iS, wS 9]]⟩ t).bind fun v => some v.1.2.2.2.2.1 else none))
def fn86_p3 : TCode Tb :=
(.cond 75 (.drop [0, 3, 5, 24, 75] (.seq (.reg [(Mv 4 78), (Op (.ssl 1 false true) [.v 78, ki 1] 79), (Op (.build [.n .i64 0, .sl 9 none] [(0, 1), (1, 1)]) [ki 1, .m 79] 80), (Do (.store 2) [.v 2, .m 80])] none)
.ret))
(.drop [75] (.seq (.reg [(Op (bi .eql) [.m 24, .k (.u8 (24 : UInt8))] 82), (Mv 82 81)] none)
(.cond 81 (.drop [0, 4, 5, 81] (.seq (.reg [(Mv 3 83), (Op (.ssl 1 true false) [.v 83, ki 1] 84), (Op (.build [.n .i64 0, .sl 9 none] [(0, 1), (1, 1)]) [ki 3, .m 84] 85), (Do (.store 2) [.v 2, .m 85])] none)
.ret))
(.drop [3, 81] .skip)))))
def fn86_s3 : SSh := ⟨[(0, u8S), (2, rS 0 0), (3, wS 9), (4, wS 9), (5, wS 9), (24, u8S), (75, bS)], [[iS, wS 9]]⟩
def fn86_o3 : Cut Tb := cutJ tab 0 fn86_s3 (fun _ x k => fn86_c3 x.1.2.2.1 x.1.2.2.2.1 x.1.2.2.2.2.2.1 x.1.2.2.2.2.2.2.1 (fun y39 => k .ret ⟨[(2, .ref 0 0), (78, .ow 9 x.1.2.2.2.1)], [[.n .i64 1, .sl 9 y39]]⟩) (fun y40 => k .ret ⟨[(2, .ref 0 0), (83, .ow 9 x.1.2.2.1)], [[.n .i64 3, .sl 9 y40]]⟩) (k .normal ⟨[(0, .u8 x.1.1), (2, .ref 0 0), (4, .ow 9 x.1.2.2.2.1), (5, .ow 9 x.1.2.2.2.2.1)], [[.n .i64 x.2.1.1, .ow 9 x.2.1.2.1]]⟩))
theorem fn86_q3 : CK fn86_o3 0 fn86_p3 := cutJD fn86_rk uC
def fn86_p2 : TCode Tb :=
(.cond 52 (.drop [0, 3, 5, 24, 52] (.seq (.reg [(Mv 4 55), (Op (.ssl 1 true false) [.v 55, ki 1] 56), (Op (.build [.n .i64 0, .sl 9 none] [(0, 1), (1, 1)]) [ki 5, .m 56] 57), (Do (.store 2) [.v 2, .m 57])] none)
.ret))
(.drop [52] (.seq (.reg [(Op (bi .eql) [.v 24, .k (.u8 (19 : UInt8))] 59), (Mv 59 58)] none)
(.cond 58 (.drop [0, 3, 5, 24, 58] (.seq (.reg [(Mv 4 60), (Op (.ssl 1 true false) [.v 60, ki 1] 61), (Op (.build [.n .i64 0, .sl 9 none] [(0, 1), (1, 1)]) [ki 2, .m 61] 62), (Do (.store 2) [.v 2, .m 62])] none)
.ret))
(.drop [58] (.seq (.reg [(Op (bi .eql) [.v 24, .k (.u8 (21 : UInt8))] 64), (Mv 64 63)] none)
(.cond 63 (.drop [0, 3, 5, 24, 63] (.seq (.reg [(Mv 4 65), (Op (.bslice 9 1 (0 : Int) [0]) [ki 15] 66), (Op (.app 1 8) [.m 65, .m 66] 67), (Op (.build [.n .i64 0, .sl 9 none] [(0, 1), (1, 1)]) [ki 5, .m 67] 68), (Do (.store 2) [.v 2, .m 68])] none)
.ret))
(.drop [63] (.seq (.reg [(Op (bi .eql) [.v 24, .k (.u8 (22 : UInt8))] 70), (Mv 70 69)] none)
(.cond 69 (.drop [0, 3, 5, 24, 69] (.seq (.reg [(Mv 4 71), (Op (.bslice 9 1 (0 : Int) [0]) [ki 15] 72), (Op (.app 1 8) [.m 71, .m 72] 73), (Op (.build [.n .i64 0, .sl 9 none] [(0, 1), (1, 1)]) [ki 6, .m 73] 74), (Do (.store 2) [.v 2, .m 74])] none)
.ret))
(.drop [69] (.seq (.seq (.reg [(Op (bi .eql) [.v 24, .k (.u8 (23 : UInt8))] 76), (Mv 76 75)] none)
(.cond 75 .skip
(.drop [75] (.reg [(Op (bi .eql) [.v 24, .k (.u8 (25 : UInt8))] 77), (Mv 77 75)] none))))
(.cut 0 fn86_o3 fn86_p3)))))))))))))
def fn86_s2 : SSh := ⟨[(0, u8S), (2, rS 0 0), (3, wS 9), (4, wS 9), (5, wS 9), (24, u8S), (52, bS)], [[iS, wS 9]]⟩
def fn86_o2 : Cut Tb := cutJ tab 0 fn86_s2 (fun _ x k => fn86_c2 x.1.2.2.1 x.1.2.2.2.1 x.1.2.2.2.2.2.1 x.1.2.2.2.2.2.2.1 (fun y45 => k .ret ⟨[(2, .ref 0 0), (55, .ow 9 x.1.2.2.2.1)], [[.n .i64 5, .sl 9 y45]]⟩) (fun y46 => k .ret ⟨[(2, .ref 0 0), (60, .ow 9 x.1.2.2.2.1)], [[.n .i64 2, .sl 9 y46]]⟩) (fun y47 => k .ret ⟨[(2, .ref 0 0)], [[.n .i64 y47.kind, .sl 9 y47.kinds]]⟩) (fun y48 => k .ret ⟨[(2, .ref 0 0), (78, .ow 9 x.1.2.2.2.1)], [[.n .i64 1, .sl 9 y48]]⟩) (fun y49 => k .ret ⟨[(2, .ref 0 0), (83, .ow 9 x.1.2.2.1)], [[.n .i64 3, .sl 9 y49]]⟩) (k .normal ⟨[(0, .u8 x.1.1), (2, .ref 0 0), (4, .ow 9 x.1.2.2.2.1), (5, .ow 9 x.1.2.2.2.2.1)], [[.n .i64 x.2.1.1, .ow 9 x.2.1.2.1]]⟩))
theorem fn86_q2 : CK fn86_o2 0 fn86_p2 := cutJD fn86_rk (cC uC (cD (cS uC (cC uC (cD (cS uC (cC uC (cD (cS uC (cC uC (cD (cS uC (cT fn86_q3)))))))))))))
def fn86_p1 : TCode Tb :=
(.cond 33 (.drop [0, 4, 5, 24, 33] (.seq (.reg [(Mv 3 36), (Op (.build [.n .i64 0, .sl 9 none] [(0, 1), (1, 1)]) [ki 5, .m 36] 37), (Do (.store 2) [.v 2, .m 37])] none)
.ret))
(.drop [33] (.seq (.reg [(Op (bi .eql) [.v 24, .k (.u8 (9 : UInt8))] 39), (Mv 39 38)] none)
(.cond 38 (.drop [0, 4, 5, 24, 38] (.seq (.reg [(Mv 3 40), (Op (.build [.n .i64 0, .sl 9 none] [(0, 1), (1, 1)]) [ki 6, .m 40] 41), (Do (.store 2) [.v 2, .m 41])] none)
.ret))
(.drop [38] (.seq (.reg [(Op (bi .eql) [.v 24, .k (.u8 (11 : UInt8))] 43), (Mv 43 42)] none)
(.cond 42 (.drop [0, 3, 4, 5, 24, 42] (.seq (.reg [(Op (.bslice 9 2 (0 : Int) [0, 1]) [ki 3, ki 8] 44), (Op (.build [.n .i64 0, .sl 9 none] [(0, 1), (1, 1)]) [ki 4, .m 44] 45), (Do (.store 2) [.v 2, .m 45])] none)
.ret))
(.drop [42] (.seq (.reg [(Op (bi .eql) [.v 24, .k (.u8 (17 : UInt8))] 47), (Mv 47 46)] none)
(.cond 46 (.drop [0, 3, 5, 24, 46] (.seq (.reg [(Mv 4 48), (Op (.bslice 9 1 (0 : Int) [0]) [ki 14] 49), (Op (.app 1 8) [.m 48, .m 49] 50), (Op (.build [.n .i64 0, .sl 9 none] [(0, 1), (1, 1)]) [ki 3, .m 50] 51), (Do (.store 2) [.v 2, .m 51])] none)
.ret))
(.drop [46] (.seq (.seq (.reg [(Op (bi .eql) [.v 24, .k (.u8 (18 : UInt8))] 53), (Mv 53 52)] none)
(.cond 52 .skip
(.drop [52] (.reg [(Op (bi .eql) [.v 24, .k (.u8 (26 : UInt8))] 54), (Mv 54 52)] none))))
(.cut 0 fn86_o2 fn86_p2)))))))))))))
def fn86_s1 : SSh := ⟨[(0, u8S), (2, rS 0 0), (3, wS 9), (4, wS 9), (5, wS 9), (24, u8S), (33, bS)], [[iS, wS 9]]⟩
def fn86_o1 : Cut Tb := cutJ tab 0 fn86_s1 (fun _ x k => fn86_c1 x.1.2.2.1 x.1.2.2.2.1 x.1.2.2.2.2.2.1 x.1.2.2.2.2.2.2.1 (fun y60 => k .ret ⟨[(2, .ref 0 0)], [[.n .i64 y60.kind, .sl 9 y60.kinds]]⟩) (fun y61 => k .ret ⟨[(2, .ref 0 0), (55, .ow 9 x.1.2.2.2.1)], [[.n .i64 5, .sl 9 y61]]⟩) (fun y62 => k .ret ⟨[(2, .ref 0 0), (60, .ow 9 x.1.2.2.2.1)], [[.n .i64 2, .sl 9 y62]]⟩) (fun y63 => k .ret ⟨[(2, .ref 0 0), (78, .ow 9 x.1.2.2.2.1)], [[.n .i64 1, .sl 9 y63]]⟩) (fun y64 => k .ret ⟨[(2, .ref 0 0), (83, .ow 9 x.1.2.2.1)], [[.n .i64 3, .sl 9 y64]]⟩) (k .normal ⟨[(0, .u8 x.1.1), (2, .ref 0 0), (4, .ow 9 x.1.2.2.2.1), (5, .ow 9 x.1.2.2.2.2.1)], [[.n .i64 x.2.1.1, .ow 9 x.2.1.2.1]]⟩))
theorem fn86_q1 : CK fn86_o1 0 fn86_p1 := cutJD fn86_rk (cC uC (cD (cS uC (cC uC (cD (cS uC (cC uC (cD (cS uC (cC uC (cD (cS uC (cT fn86_q2)))))))))))))
def fn86_p4 : TCode Tb :=
(.seq (.reg [(Mv 0 86), (Mv 4 87), (Mv 5 88), (Op (.call (some 146) 0) [.m 86, .m 87, .m 88] 89), (Do (.store 2) [.v 2, .m 89])] none)
.ret)
def fn86_s4 : SSh := ⟨[(0, u8S), (2, rS 0 0), (4, wS 9), (5, wS 9)], [[iS, wS 9]]⟩
def fn86_o4 : Cut Tb := cutJ tab 0 fn86_s4 (fun _ x k => fn86_c4 x.1.1 x.1.2.2.1 x.1.2.2.2.1 (fun y80 => k .ret ⟨[(2, .ref 0 0)], [[.n .i64 y80.kind, .sl 9 y80.kinds]]⟩))
theorem fn86_q4 : CK fn86_o4 0 fn86_p4 := cutJD fn86_rk uC
def fn86_p : TCode Tb :=
(.seq (.reg [(Op (.alloc [.n .i64 0, .sl 9 none]) [] 2)] none)
(.seq (.reg [(Op (.bslice 9 2 (0 : Int) [0, 1]) [ki 3, ki 16] 7), (Op (.bslice 9 2 (0 : Int) [0, 1]) [ki 1, ki 2] 8), (Op (.bslice 9 0 (0 : Int) []) [] 9), (Mv 7 3), (Mv 8 4), (Mv 9 5)] none)
(.seq (.seq (.reg [(Op .mv [ki 1] 6)] none)
(.block 0 (.cut 0 fn86_o0 (.loop fn86_p0))))
(.seq (.seq (.reg [(Op .mv [.v 0] 24)] none)
(.block 2 (.seq (.reg [(Op (bi .eql) [.v 24, .k (.u8 (1 : UInt8))] 26), (Mv 26 25)] none)
(.cond 25 (.drop [0, 4, 5, 24, 25] (.seq (.reg [(Mv 3 27), (Op (.build [.n .i64 0, .sl 9 none] [(0, 1), (1, 1)]) [ki 1, .m 27] 28), (Do (.store 2) [.v 2, .m 28])] none)
.ret))
(.drop [25] (.seq (.reg [(Op (bi .eql) [.v 24, .k (.u8 (2 : UInt8))] 30), (Mv 30 29)] none)
(.cond 29 (.drop [0, 4, 5, 24, 29] (.seq (.reg [(Mv 3 31), (Op (.build [.n .i64 0, .sl 9 none] [(0, 1), (1, 1)]) [ki 3, .m 31] 32), (Do (.store 2) [.v 2, .m 32])] none)
.ret))
(.drop [29] (.seq (.seq (.reg [(Op (bi .eql) [.v 24, .k (.u8 (3 : UInt8))] 34), (Mv 34 33)] none)
(.cond 33 .skip
(.drop [33] (.reg [(Op (bi .eql) [.v 24, .k (.u8 (8 : UInt8))] 35), (Mv 35 33)] none))))
(.cut 0 fn86_o1 fn86_p1))))))))))
(.cut 0 fn86_o4 fn86_p4)))))
def fn86_w : Orc Tb := mkOrc (Y := fn154) tab [u8S] [] (fun x h => fn86 x.1) (fun _ y k => k (.agg [.n .i64 y.kind, .sl 9 y.kinds]) [])
theorem fn86_k : WK fn86_w 121 := orcD (Y := fn154) (c := fn86_p) (res := [.cell 2 (some 2)]) (n := 90) (R := (RSp.one (Y := fn154) tab (.g (.st 10)) [] (fun a b => (⟨a.kind, a.kinds⟩ : fn154)) (fun y => (⟨y.kind, y.kinds⟩ : fn154)) (fun y => ()))) fn86_rk oneD Tryz.func121 (cS uC (cS uC (cS (cS uC (cB (cT fn86_q0))) (cS (cS uC (cB (cS uC (cC uC (cD (cS uC (cC uC (cD (cS uC (cT fn86_q1)))))))))) (cT fn86_q4)))))
def fn107_r : Orcs Tb := [(121, fn86_w)]
theorem fn107_rk : RK fn107_r := (yv720 fn86_k yv743)
def fn107_p : TCode Tb :=
(.seq (.reg [(Op .mv [ki 0] 2)] none)
(.seq (.reg [(Mv 0 3), (Op (.call (some 121) 0) [.m 3] 4), (Op (.fld 0 none) [.m 4] 5), (Mv 5 2)] none)
.ret))
def fn107_w : Orc Tb := mkOrc (Y := Int) tab [u8S] [] (fun x h => fn107 x.1) (fun _ y k => k (.n .i64 y) [])
theorem fn107_k : WK fn107_w 118 := orcD (Y := Int) (c := fn107_p) (res := [.tmp 2]) (n := 6) (R := (RSp.one (Y := Int) tab (iS) [] (fun a b => a) (fun y => y) (fun y => ()))) fn107_rk oneD Tryz.func118 uC
def fn87_r : Orcs Tb := [(118, fn107_w), (83, fn85_w)]
theorem fn87_rk : RK fn87_r := (yv720 fn107_k (yv720 fn85_k yv743))
def fn87_p0 : TCode Tb :=
(.seq (.seq (.reg [(Fav 0 1 16), (Ld 16 17), (Op (.call (some 118) 0) [.m 17] 18)] none)
(.block 0 (.seq (.reg [(Op (bi .eql) [.v 18, ki 1] 20), (Mv 20 19)] none)
(.cond 19 (.drop [4, 18, 19] (.seq (.reg [(Fam 1 1 21), (Ld 21 22), (Op (bi .lss) [.m 22, .k (.u32 (256 : UInt32))] 23), (Mv 23 24), (Yes .mv [.m 3] 25 24), (Op .pick [.m 24, .m 25, kf] 26), (Mv 26 2)] none)
(.drop [3] .ret)))
(.drop [19] (.seq (.reg [(Op (bi .eql) [.v 18, ki 2] 28), (Mv 28 27)] none)
(.cond 27 (.drop [4, 18, 27] (.seq (.reg [(Fam 1 1 29), (Ld 29 30), (Op (bi .lss) [.m 30, .k (.u32 (65536 : UInt32))] 31), (Mv 31 32), (Yes .mv [.m 3] 33 32), (Op .pick [.m 32, .m 33, kf] 34), (Mv 34 2)] none)
(.drop [3] .ret)))
(.drop [27] (.seq (.reg [(Op (bi .eql) [.v 18, ki 3] 36), (Mv 36 35)] none)
(.cond 35 (.drop [1, 4, 18, 35] (.seq (.reg [(Mv 3 37), (Mv 37 2)] none)
.ret))
(.drop [35] (.seq (.reg [(Op (bi .eql) [.v 18, ki 4] 39), (Mv 39 38)] none)
(.cond 38 (.drop [4, 18, 38] (.seq (.reg [(Fam 1 1 40), (Ld 40 41), (Op (bi .leq) [.m 41, .k (.u32 (268435455 : UInt32))] 42), (Mv 42 43), (Yes .mv [.m 3] 44 43), (Op .pick [.m 43, .m 44, kf] 45), (Mv 45 2)] none)
(.drop [3] .ret)))
(.drop [3, 38] (.seq (.reg [(Op (bi .eql) [.v 18, ki 5] 47), (Mv 47 46)] none)
(.cond 46 (.drop [18, 46] (.seq (.reg [(Mv 4 48), (Mv 48 49), (Yes (.fa 2) [.v 1] 50 49), (Yes ld [.m 50] 51 49), (Yes (.call (some 83) 1) [.m 51] 52 49), (Op .pick [.m 49, .m 52, kf] 53), (Mv 53 54), (Yes (.fa 3) [.m 1] 55 54), (Yes ld [.m 55] 56 54), (Yes (.bin .eql .s) [.m 56, .k (.s [])] 57 54), (Op .pick [.m 54, .m 57, kf] 58), (Mv 58 2)] none)
(.drop [1, 50, 51, 55, 56] .ret)))
(.drop [46] (.seq (.reg [(Op (bi .eql) [.v 18, ki 6] 60), (Mv 60 59)] none)
(.cond 59 (.drop [18, 59] (.seq (.reg [(Mv 4 61), (Mv 61 62), (Yes (.fa 2) [.v 1] 63 62), (Yes ld [.m 63] 64 62), (Yes .lens [.m 64] 65 62), (Yes (bi .leq) [.m 65, ki 65535] 66 62), (Op .pick [.m 62, .m 66, kf] 67), (Mv 67 68), (Yes (.fa 3) [.m 1] 69 68), (Yes ld [.m 69] 70 68), (Yes (.bin .eql .s) [.m 70, .k (.s [])] 71 68), (Op .pick [.m 68, .m 71, kf] 72), (Mv 72 2)] none)
(.drop [1, 63, 64, 65, 69, 70] .ret)))
(.drop [59] (.seq (.reg [(Op (bi .eql) [.m 18, ki 7] 74), (Mv 74 73)] none)
(.cond 73 (.drop [73] (.seq (.reg [(Mv 4 75), (Mv 75 76), (Yes (.fa 2) [.v 1] 77 76), (Yes ld [.m 77] 78 76), (Yes (.call (some 83) 1) [.m 78] 79 76), (Op .pick [.m 76, .m 79, kf] 80), (Mv 80 81), (Yes (.fa 3) [.m 1] 82 81), (Yes ld [.m 82] 83 81), (Yes (.call (some 83) 1) [.m 83] 84 81), (Op .pick [.m 81, .m 84, kf] 85), (Mv 85 2)] none)
(.drop [1, 77, 78, 82, 83] .ret)))
(.drop [1, 4, 73] .skip)))))))))))))))))))))))
(.seq (.reg [(Op .mv [kf] 2)] none)
.ret))
def fn87_s0 : SSh := ⟨[(1, rS 0 0), (3, bS), (4, bS)], [[u8S, u32S, sS, sS]]⟩
def fn87_o0 : Cut Tb := cutJ tab 0 fn87_s0 (fun _ x k => fn87_c0 x.1.2.1 x.1.2.2.1 (tabBk 4 x.2.1 : fn132) (fun y9 => k .ret ⟨[(2, .b y9)], [[.u8 x.2.1.1, .u32 x.2.1.2.1, .s x.2.1.2.2.1, .s x.2.1.2.2.2.1]]⟩))
theorem fn87_q0 : CK fn87_o0 0 fn87_p0 := cutJD fn87_rk uC
def fn87_p : TCode Tb :=
(.seq (.reg [(Op .box [.m 0] 1), (Op .mv [kf] 2)] none)
(.seq (.reg [(Fav 2 1 5), (Ld 5 6), (Op (.bin .eql .s) [.m 6, .k (.s [])] 7), (Mv 7 8), (Yes (.fa 3) [.v 1] 9 8), (Yes ld [.m 9] 10 8), (Yes (.bin .eql .s) [.m 10, .k (.s [])] 11 8), (Op .pick [.m 8, .m 11, kf] 12), (Fav 1 1 13), (Ld 13 14), (Op (bi .eql) [.m 14, .k (.u32 (0 : UInt32))] 15), (Mv 12 3), (Mv 15 4)] (some [[], [], [], [], [], [], [], [], [], [1, 5], [], [], []]))
(.drop [2, 9, 10] (.cut 0 fn87_o0 fn87_p0))))
def fn87_w : Orc Tb := mkOrc (Y := Bool) tab [.g (.st 4)] [] (fun x h => fn87 (x.1 : fn132)) (fun _ y k => k (.b y) [])
theorem fn87_k : WK fn87_w 117 := orcD (Y := Bool) (c := fn87_p) (res := [.tmp 2]) (n := 86) (R := (RSp.one (Y := Bool) tab (bS) [] (fun a b => a) (fun y => y) (fun y => ()))) fn87_rk oneD Tryz.func117 (cS uC (cS uC (cD (cT fn87_q0))))
def fn17_w : Orc Tb := mkOrc (Y := Bool) tab [sS, sS] [] (fun x h => fn17 x.1 x.2.1) (fun _ y k => k (.b y) [])
theorem fn17_k : WK fn17_w 159 := yv539 tabOk (by kernel_rfl) Tryz.strings_ContainsAny
def fn88_r : Orcs Tb := [(159, fn17_w)]
theorem fn88_rk : RK fn88_r := (yv720 fn17_k yv743)
def fn88_p : TCode Tb :=
(.seq (.reg [(Op .mv [kf] 2)] none)
(.seq (.reg [(Mv 0 3), (Op (.call (some 159) 0) [.m 3, .k (.s [43, 35])] 4), (Mv 4 2)] none)
.ret))
def fn88_w : Orc Tb := mkOrc (Y := Bool) tab [sS] [] (fun x h => fn88 x.1) (fun _ y k => k (.b y) [])
theorem fn88_k : WK fn88_w 144 := orcD (Y := Bool) (c := fn88_p) (res := [.tmp 2]) (n := 5) (R := (RSp.one (Y := Bool) tab (bS) [] (fun a b => a) (fun y => y) (fun y => ()))) fn88_rk oneD Tryz.func144 uC
def fn89_r : Orcs Tb := [(83, fn85_w), (144, fn88_w)]
theorem fn89_rk : RK fn89_r := (yv720 fn85_k (yv720 fn88_k yv743))
def fn89_p : TCode Tb :=
(.seq (.reg [(Op .mv [kf] 2)] none)
(.seq (.reg [(Op .mv [.v 0] 3), (Op (.bin .neq .s) [.m 3, .k (.s [])] 4), (Mv 4 5), (Yes .mv [.v 0] 6 5), (Yes (.call (some 83) 0) [.m 6] 7 5), (Op .pick [.m 5, .m 7, kf] 8), (Mv 8 9), (Yes .mv [.m 0] 10 9), (Yes (.call (some 144) 1) [.m 10] 11 9), (Yes (.un .not) [.m 11] 12 9), (Op .pick [.m 9, .m 12, kf] 13), (Mv 13 2)] none)
(.drop [0, 6, 10, 11] .ret)))
def fn89_w : Orc Tb := mkOrc (Y := Bool) tab [sS] [] (fun x h => fn89 x.1) (fun _ y k => k (.b y) [])
theorem fn89_k : WK fn89_w 119 := orcD (Y := Bool) (c := fn89_p) (res := [.tmp 2]) (n := 14) (R := (RSp.one (Y := Bool) tab (bS) [] (fun a b => a) (fun y => y) (fun y => ()))) fn89_rk oneD Tryz.func119 uC
def fn90_r : Orcs Tb := [(117, fn87_w), (118, fn107_w), (119, fn89_w)]
theorem fn90_rk : RK fn90_r := (yv720 fn87_k (yv720 fn107_k (yv720 fn89_k yv743)))
def fn90_p0 : TCode Tb :=
(.cond 15 (.drop [15] (.seq (.reg [(Fam 1 1 28), (Ld 28 29), (Op (bi .neq) [.m 29, .k (.u32 (0 : UInt32))] 30), (Mv 30 2)] none)
.ret))
(.drop [15] (.seq (.reg [(Fav 0 1 32), (Ld 32 33), (Op (bi .eql) [.m 33, .k (.u8 (8 : UInt8))] 34), (Mv 34 31)] none)
(.cond 31 (.drop [31] (.seq (.reg [(Fam 2 1 35), (Ld 35 36), (Op (.call (some 119) 2) [.m 36] 37), (Mv 37 2)] none)
.ret))
(.drop [1, 31] .skip)))))
def fn90_s0 : SSh := ⟨[(1, rS 0 0), (15, bS)], [[u8S, u32S, sS, sS]]⟩
def fn90_o0 : Cut Tb := cutJ tab 0 fn90_s0 (fun _ x k => fn90_c0 x.1.2.1 (tabBk 4 x.2.1 : fn132) (fun y7 => k .ret ⟨[(2, .b y7)], [[.u8 x.2.1.1, .u32 x.2.1.2.1, .s x.2.1.2.2.1, .s x.2.1.2.2.2.1]]⟩) (k .normal ⟨[], [[.u8 x.2.1.1, .u32 x.2.1.2.1, .s x.2.1.2.2.1, .s x.2.1.2.2.2.1]]⟩))
theorem fn90_q0 : CK fn90_o0 0 fn90_p0 := cutJD fn90_rk uC
def fn90_p : TCode Tb :=
(.seq (.reg [(Op .box [.m 0] 1), (Op .mv [kf] 2)] none)
(.seq (.block 0 (.seq (.reg [(Op (.load (some 4)) [.v 1] 4), (Op (.call (some 117) 0) [.m 4] 5), (Op (.un .not) [.m 5] 6), (Mv 6 3)] none)
(.cond 3 (.drop [1, 2, 3] (.seq (.reg [(Op .mv [kf] 2)] none)
.ret))
(.drop [2, 3] (.seq (.reg [(Fav 0 1 8), (Ld 8 9), (Op (.call (some 118) 1) [.m 9] 10), (Op (bi .eql) [.m 10, ki 1] 11), (Mv 11 7)] none)
(.cond 7 (.drop [7] (.seq (.reg [(Fam 1 1 12), (Ld 12 13), (Op (bi .leq) [.m 13, .k (.u32 (1 : UInt32))] 14), (Mv 14 2)] none)
.ret))
(.drop [7] (.seq (.seq (.reg [(Fav 0 1 16), (Ld 16 17), (Op (bi .eql) [.m 17, .k (.u8 (11 : UInt8))] 18), (Mv 18 15)] none)
(.cond 15 .skip
(.drop [15] (.seq (.reg [(Fav 0 1 19), (Ld 19 20), (Op (bi .eql) [.m 20, .k (.u8 (33 : UInt8))] 21), (Mv 21 15)] none)
(.cond 15 .skip
(.drop [15] (.seq (.reg [(Fav 0 1 22), (Ld 22 23), (Op (bi .eql) [.m 23, .k (.u8 (35 : UInt8))] 24), (Mv 24 15)] none)
(.cond 15 .skip
(.drop [15] (.reg [(Fav 0 1 25), (Ld 25 26), (Op (bi .eql) [.m 26, .k (.u8 (39 : UInt8))] 27), (Mv 27 15)] none))))))))))
(.cut 0 fn90_o0 fn90_p0)))))))))
(.seq (.reg [(Op .mv [kt] 2)] none)
.ret)))
def fn90_w : Orc Tb := mkOrc (Y := Bool) tab [.g (.st 4)] [] (fun x h => fn90 (x.1 : fn132)) (fun _ y k => k (.b y) [])
theorem fn90_k : WK fn90_w 84 := orcD (Y := Bool) (c := fn90_p) (res := [.tmp 2]) (n := 38) (R := (RSp.one (Y := Bool) tab (bS) [] (fun a b => a) (fun y => y) (fun y => ()))) fn90_rk oneD Tryz.func84 (cS uC (cS (cB (cS uC (cC uC (cD (cS uC (cC uC (cD (cS uC (cT fn90_q0))))))))) uC))
def fn15_r : Orcs Tb := []
theorem fn15_rk : RK fn15_r := yv743
def fn15_p0 : TCode Tb :=
(.seq (.reg [(Op (bi .lss) [.v 8, .v 7] 9)] none)
(.seq (.cond 9 (.drop [9] .skip)
(.drop [0, 1, 7, 8, 9] (.exit 0)))
(.seq (.block 1 (.seq (.reg [(Op .mv [.v 8] 10), (Mv 10 5)] none)
(.seq (.reg [(Op .mv [.v 1] 11), (Op .mv [.v 0] 12), (Op .mv [.v 5] 13), (Op (.ia 1) [.v 12, .m 13] 14), (Ld 14 15), (Op (bi .eql) [.m 11, .m 15] 16)] none)
(.cond 16 (.drop [0, 1, 7, 8, 12, 16] (.seq (.reg [(Mv 5 17), (Mv 17 4)] none)
.ret))
(.drop [5, 12, 16] .skip)))))
(.reg [(Op (bi .add) [.m 8, ki 1] 18), (Mv 18 8)] none))))
def fn15_s0 : SSh := ⟨[(0, lS 9), (1, iS), (7, iS), (8, iS)], []⟩
def fn15_o0 : Cut Tb := cutL tab 0 fn15_s0 (fun x => x.1.2.2.2.1) (fun x => fn15_l0 x.1.1 x.1.2.1 x.1.2.2.1) (fun _ x y k => match y with | .inl y => k .ret ⟨[(4, .n .i64 y)], []⟩ | .inr y => k (.exit 0) ⟨[], []⟩)
theorem fn15_q0 : CK fn15_o0 0 (.loop fn15_p0) := yv752 (c := fn15_p0) (Z := Int) (Y := Int ⊕ Unit) tabOk fn15_rk uC (fun _ x z b e => fn15_b0 x.1.1 x.1.2.1 x.1.2.2.1 z (fun x6 => b x6) (fun y8 => e (.inl y8)) (e (.inr ()))) (fun x z => ⟨[(0, .sl 9 x.1.1), (1, .n .i64 x.1.2.1), (7, .n .i64 x.1.2.2.1), (8, .n .i64 z)], []⟩) (fun x y => match y with | .inl y => (.ret, ⟨[(4, .n .i64 y)], []⟩) | .inr y => ((.exit 0), ⟨[], []⟩)) (fun t => (prjS tab 0 fn15_s0 t).bind fun x => some x.1.2.2.2.1) (fun e t => (if eqE e .ret then yv543 ((prjS tab 0 ⟨[(4, iS)], []⟩ t).bind fun v => some (.inl v.1.1)) (if eqE e (.exit 0) then (prjS tab 0 ⟨[], []⟩ t).bind fun v => some (.inr ()) else none) else (if eqE e (.exit 0) then (prjS tab 0 ⟨[], []⟩ t).bind fun v => some (.inr ()) else none))) (fun x => by kernel_rfl) (fun x z => by kernel_rfl) (fun x y k => by rcases y with y | y <;> kernel_rfl) (fun x y => by rcases y with y | y <;> exact nofun) (fun x z => by kernel_rfl) (fun x y => by rcases y with y | y <;> kernel_rfl) (fun x z k => by kernel_rfl)
def fn15_p : TCode Tb :=
(.seq (.reg [(Op .mv [ki 0] 4)] none)
(.seq (.seq (.reg [(Op .mv [.v 0] 6), (Op .len [.m 6] 7), (Op .mv [ki 0] 8)] none)
(.block 0 (.drop [4] (.cut 0 fn15_o0 (.loop fn15_p0)))))
(.seq (.reg [(Op .mv [.k (.n .i64 (-1))] 4)] none)
.ret)))
def fn15_w : Orc Tb := mkOrc (Y := Int) tab [lS 9, iS] [] (fun x h => fn15 x.1 x.2.1) (fun _ y k => k (.n .i64 y) [])
theorem fn15_k : WK fn15_w 145 := orcD (Y := Int) (c := fn15_p) (res := [.tmp 4]) (n := 19) (R := (RSp.one (Y := Int) tab (iS) [] (fun a b => a) (fun y => y) (fun y => ()))) fn15_rk oneD Tryz.func145 (cS uC (cS (cS uC (cB (cD (cT fn15_q0)))) uC))
def fn13_r : Orcs Tb := [(145, fn15_w)]
theorem fn13_rk : RK fn13_r := (yv720 fn15_k yv743)
def fn13_p : TCode Tb :=
(.seq (.reg [(Op .mv [kf] 4)] none)
(.seq (.reg [(Mv 0 5), (Mv 1 6), (Op (.call (some 145) 0) [.m 5, .m 6] 7), (Op (bi .geq) [.m 7, ki 0] 8), (Mv 8 4)] none)
.ret))
def fn13_w : Orc Tb := mkOrc (Y := Bool) tab [lS 9, iS] [] (fun x h => fn13 x.1 x.2.1) (fun _ y k => k (.b y) [])
theorem fn13_k : WK fn13_w 120 := orcD (Y := Bool) (c := fn13_p) (res := [.tmp 4]) (n := 9) (R := (RSp.one (Y := Bool) tab (bS) [] (fun a b => a) (fun y => y) (fun y => ()))) fn13_rk oneD Tryz.func120 uC
def fn133_r : Orcs Tb := [(121, fn86_w), (120, fn13_w)]
theorem fn133_rk : RK fn133_r := (yv720 fn86_k (yv720 fn13_k yv743))
def fn133_p : TCode Tb :=
(.seq (.reg [(Op .mv [kf] 4)] none)
(.seq (.reg [(Mv 0 5), (Op (.call (some 121) 0) [.m 5] 6), (Op (.fld 1 none) [.m 6] 7), (Mv 1 8), (Op (.call (some 120) 1) [.m 7, .m 8] 9), (Mv 9 4)] none)
.ret))
def fn133_w : Orc Tb := mkOrc (Y := Bool) tab [u8S, iS] [] (fun x h => fn133 x.1 x.2.1) (fun _ y k => k (.b y) [])
theorem fn133_k : WK fn133_w 85 := orcD (Y := Bool) (c := fn133_p) (res := [.tmp 4]) (n := 10) (R := (RSp.one (Y := Bool) tab (bS) [] (fun a b => a) (fun y => y) (fun y => ()))) fn133_rk oneD Tryz.func85 uC
def fn91_r : Orcs Tb := [(85, fn133_w)]
theorem fn91_rk : RK fn91_r := (yv720 fn133_k yv743)
def fn91_p : TCode Tb :=
(.seq (.reg [(Op .mv [kf] 4)] none)
(.seq (.reg [(Op .mv [.v 0] 5), (Op .mv [.v 1] 6), (Op (.call (some 85) 0) [.m 5, .m 6] 7), (Mv 7 8), (Yes .mv [.v 0] 9 8), (Yes (bi .eql) [.m 9, .k (.u8 (38 : UInt8))] 10 8), (Yes .mv [.m 10] 11 8), (No .mv [.m 0] 12 11), (No (bi .eql) [.m 12, .k (.u8 (11 : UInt8))] 13 11), (No .mv [.m 13] 14 11), (Yes .mv [.m 1] 15 14), (Yes (bi .eql) [.m 15, ki 3] 16 14), (No .pick [.m 14, .m 16, kf] 17 11), (Yes .pick [.m 11, kt, .m 17] 18 8), (Op .pick [.m 8, .m 18, kf] 19), (Mv 19 4)] none)
(.drop [0, 1, 9, 10, 11, 12, 13, 14, 15, 16, 17] .ret)))
def fn91_w : Orc Tb := mkOrc (Y := Bool) tab [u8S, iS] [] (fun x h => fn91 x.1 x.2.1) (fun _ y k => k (.b y) [])
theorem fn91_k : WK fn91_w 86 := orcD (Y := Bool) (c := fn91_p) (res := [.tmp 4]) (n := 20) (R := (RSp.one (Y := Bool) tab (bS) [] (fun a b => a) (fun y => y) (fun y => ()))) fn91_rk oneD Tryz.func86 uC
def fn69_r : Orcs Tb := []
theorem fn69_rk : RK fn69_r := yv743
def fn69_p : TCode Tb :=
(.seq (.reg [(Op .box [.m 0] 2), (Op .mv [kf] 3)] none)
(.seq (.reg [(Fam 0 2 4), (Ld 4 5), (Ld 1 6), (Op (bi .eql) [.m 5, .m 6] 7), (Mv 7 3)] none)
.ret))
def fn69_w : Orc Tb := mkOrc (Y := Bool × UInt8) tab [.g (.st 4), rS 0 0] [[u8S]] (fun x h => fn69 (x.1 : fn132) h.1.1) (fun _ y k => k (.b y.1) [[.u8 y.2]])
theorem fn69_k : WK fn69_w 123 := orcD (Y := Bool × UInt8) (c := fn69_p) (res := [.tmp 3]) (n := 8) (R := (RSp.one (Y := Bool × UInt8) tab (bS) [[u8S]] (fun a b => (a, b.1.1)) (fun y => y.1) (fun y => ((y.2, ()), ())))) fn69_rk oneD Tryz.func123 uC
def fn3_r : Orcs Tb := [(123, fn69_w)]
theorem fn3_rk : RK fn3_r := (yv720 fn69_k yv743)
def fn3_p0 : TCode Tb :=
(.seq (.reg [(Op (bi .lss) [.v 8, .v 7] 9)] none)
(.seq (.cond 9 (.drop [9] .skip)
(.drop [0, 1, 7, 8, 9] (.exit 0)))
(.seq (.block 1 (.seq (.reg [(Op .mv [.v 8] 10), (Mv 10 5)] none)
(.seq (.reg [(Op .mv [.v 1] 11), (Op .mv [.v 0] 12), (Op .mv [.v 5] 13), (Op (.ia 4) [.v 12, .m 13] 14), (Op (.load (some 4)) [.m 14] 15), (Op (.call none 0) [.m 11, .m 15] 16)] none)
(.cond 16 (.drop [0, 1, 7, 8, 12, 16] (.seq (.reg [(Mv 5 17), (Mv 17 4)] none)
.ret))
(.drop [5, 12, 16] .skip)))))
(.reg [(Op (bi .add) [.m 8, ki 1] 18), (Mv 18 8)] none))))
def fn3_s0 : SSh := ⟨[(0, lS 4), (1, .g (.clo 123 [] [.ref 0 0])), (7, iS), (8, iS)], [[u8S]]⟩
def fn3_o0 : Cut Tb := cutL tab 1 fn3_s0 (fun x => (x.1.2.2.2.1, x.2.1.1)) (fun x => fn3_l0 x.1.1 x.1.2.2.1) (fun _ x y k => match y with | .inl y => k .ret ⟨[(4, .n .i64 y.1)], [[.u8 y.2]]⟩ | .inr y => k (.exit 0) ⟨[], [[.u8 y]]⟩)
theorem fn3_q0 : CK fn3_o0 1 (.loop fn3_p0) := yv752 (c := fn3_p0) (Z := Int × UInt8) (Y := (Int × UInt8) ⊕ UInt8) tabOk fn3_rk uC (fun _ x z b e => fn3_b0 x.1.1 x.1.2.2.1 z.1 z.2 (fun x5 x6 => b (x5, x6)) (fun y10 y11 => e (.inl (y10, y11))) (fun y12 => e (.inr y12))) (fun x z => ⟨[(0, .sl 4 x.1.1), (1, .clo 123 [] [.ref 0 0]), (7, .n .i64 x.1.2.2.1), (8, .n .i64 z.1)], [[.u8 z.2]]⟩) (fun x y => match y with | .inl y => (.ret, ⟨[(4, .n .i64 y.1)], [[.u8 y.2]]⟩) | .inr y => ((.exit 0), ⟨[], [[.u8 y]]⟩)) (fun t => (prjS tab 1 fn3_s0 t).bind fun x => some (x.1.2.2.2.1, x.2.1.1)) (fun e t => (if eqE e .ret then yv543 ((prjS tab 1 ⟨[(4, iS)], [[u8S]]⟩ t).bind fun v => some (.inl (v.1.1, v.2.1.1))) (if eqE e (.exit 0) then (prjS tab 1 ⟨[], [[u8S]]⟩ t).bind fun v => some (.inr v.2.1.1) else none) else (if eqE e (.exit 0) then (prjS tab 1 ⟨[], [[u8S]]⟩ t).bind fun v => some (.inr v.2.1.1) else none))) (fun x => by kernel_rfl) (fun x z => by kernel_rfl) (fun x y k => by rcases y with y | y <;> kernel_rfl) (fun x y => by rcases y with y | y <;> exact nofun) (fun x z => by kernel_rfl) (fun x y => by rcases y with y | y <;> kernel_rfl) (fun x z k => by kernel_rfl)
def fn3_p : TCode Tb :=
(.seq (.reg [(Op .mv [ki 0] 4)] none)
(.seq (.seq (.reg [(Op .mv [.v 0] 6), (Op .len [.m 6] 7), (Op .mv [ki 0] 8)] none)
(.block 0 (.drop [4] (.cut 1 fn3_o0 (.loop fn3_p0)))))
(.seq (.reg [(Op .mv [.k (.n .i64 (-1))] 4)] none)
.ret)))
def fn3_w : Orc Tb := mkOrc (Y := Int × UInt8) tab [lS 4, .g (.clo 123 [] [.ref 0 0])] [[u8S]] (fun x h => fn3 x.1 h.1.1) (fun _ y k => k (.n .i64 y.1) [[.u8 y.2]])
theorem fn3_k : WK fn3_w 122 := orcD (Y := Int × UInt8) (c := fn3_p) (res := [.tmp 4]) (n := 19) (R := (RSp.one (Y := Int × UInt8) tab (iS) [[u8S]] (fun a b => (a, b.1.1)) (fun y => y.1) (fun y => ((y.2, ()), ())))) fn3_rk oneD Tryz.func122 (cS uC (cS (cS uC (cB (cD (cT fn3_q0)))) uC))
def fn108_r : Orcs Tb := [(122, fn3_w)]
theorem fn108_rk : RK fn108_r := (yv720 fn3_k yv743)
def fn108_p : TCode Tb :=
(.seq (.reg [(Op .box [.m 1] 3), (Op (.alloc [.u8 (0 : UInt8), .u32 (0 : UInt32), .s [], .s []]) [] 4), (Op .mv [kf] 5)] none)
(.seq (.reg [(Op .mv [.v 0] 7), (Op (.mkf 123 0) [.m 3] 8), (Op (.call (some 122) 0) [.m 7, .m 8] 9), (Mv 9 6)] none)
(.seq (.seq (.reg [(Op .mv [.v 6] 10), (Op (bi .lss) [.m 10, ki 0] 11)] none)
(.cond 11 (.drop [0, 5, 6, 11] (.seq (.reg [(Op (.build [.u8 (0 : UInt8), .u32 (0 : UInt32), .s [], .s []] []) [] 12), (Do (.store 4) [.v 4, .m 12]), (Op .mv [kf] 5)] none)
.ret))
(.drop [5, 11] .skip)))
(.seq (.reg [(Mv 0 13), (Mv 6 14), (Op (.ia 4) [.v 13, .m 14] 15), (Op (.load (some 4)) [.m 15] 16), (Do (.store 4) [.v 4, .m 16]), (Op .mv [kt] 5)] none)
.ret))))
def fn108_w : Orc Tb := mkOrc (Y := fn132 × Bool) tab [lS 4, u8S] [] (fun x h => fn108 x.1 x.2.1) (fun _ y k => k (.tup [.agg [.u8 y.1.Id, .u32 y.1.N, .s y.1.A, .s y.1.B], .b y.2]) [])
theorem fn108_k : WK fn108_w 87 := orcD (Y := fn132 × Bool) (c := fn108_p) (res := [.cell 4 (some 4), .tmp 5]) (n := 17) (R := (RSp.one (Y := fn132 × Bool) tab (.tup [.st 4, .f (.a .b)]) [] (fun a b => ((a.1 : fn132), a.2.1)) (fun y => ((y.1 : fn132), y.2, ())) (fun y => ()))) fn108_rk oneD Tryz.func87 uC
def fn70_r : Orcs Tb := [(84, fn90_w), (85, fn133_w), (86, fn91_w), (87, fn108_w)]
theorem fn70_rk : RK fn70_r := (yv720 fn90_k (yv720 fn133_k (yv720 fn91_k (yv720 fn108_k yv743))))
def fn70_s1 : SSh := ⟨[(0, iS), (1, lS 4), (15, lS 4), (16, iS), (17, iS)], []⟩
def fn70_o1 : Cut Tb := cutJ tab 0 fn70_s1 (fun _ x k => k .normal ⟨[(0, .n .i64 x.1.1), (1, .sl 4 x.1.2.1), (15, .sl 4 x.1.2.2.1), (16, .n .i64 x.1.2.2.2.1), (17, .n .i64 x.1.2.2.2.2.1)], []⟩)
theorem fn70_q1 : CK fn70_o1 0 .skip := yv751 (c := .skip) tabOk fn70_rk trivial (fun _ _ => by kernel_rfl)
def fn70_p0 : TCode Tb :=
(.fin 0 fn70_o1 (.seq (.reg [(Op (bi .lss) [.v 17, .v 16] 18)] none)
(.seq (.cond 18 (.drop [18] .skip)
(.drop [0, 15, 16, 17, 18] (.exit 0)))
(.seq (.block 1 (.seq (.reg [(Op .mv [.v 17] 19), (Op (.ia 4) [.v 15, .v 17] 20), (Op (.load (some 4)) [.m 20] 21), (Op (.alloc [.u8 (0 : UInt8), .u32 (0 : UInt32), .s [], .s []]) [] 6), (Mv 19 5), (Do (.store 4) [.v 6, .m 21])] none)
(.seq (.seq (.reg [(Op (.load (some 4)) [.v 6] 22), (Op (.call (some 84) 0) [.m 22] 23), (Op (.un .not) [.m 23] 24), (Mv 24 25), (No (.fa 0) [.v 6] 26 25), (No ld [.m 26] 27 25), (No .mv [.v 0] 28 25), (No (.call (some 85) 1) [.m 27, .m 28] 29 25), (No (.un .not) [.m 29] 30 25), (Op .pick [.m 25, kt, .m 30] 31)] none)
(.drop [26, 27, 28, 29] (.cond 31 (.drop [0, 1, 5, 6, 15, 16, 17, 31] (.seq (.reg [(Op .mv [kf] 4)] none)
.ret))
(.drop [31] .skip))))
(.seq (.seq (.reg [(Op .mv [.v 5] 32), (Op (bi .eql) [.m 32, ki 0] 33)] none)
(.cond 33 (.drop [5, 6, 33] (.exit 1))
(.drop [33] .skip)))
(.seq (.reg [(Op .mv [.v 1] 34), (Mv 5 35), (Op (bi .sub) [.m 35, ki 1] 36), (Op (.ia 4) [.v 34, .m 36] 37), (Fam 0 37 38), (Ld 38 39), (Mv 39 7)] none)
(.seq (.reg [(Op .mv [.v 7] 40), (Fav 0 6 41), (Ld 41 42), (Op (bi .gtr) [.m 40, .m 42] 43), (Mv 43 44), (No .mv [.m 7] 45 44), (No (.fa 0) [.v 6] 46 44), (No ld [.m 46] 47 44), (No (bi .eql) [.m 45, .m 47] 48 44), (No .mv [.m 48] 49 44), (Yes (.fa 0) [.m 6] 50 49), (Yes ld [.m 50] 51 49), (Yes .mv [.v 0] 52 49), (Yes (.call (some 86) 2) [.m 51, .m 52] 53 49), (Yes (.un .not) [.m 53] 54 49), (No .pick [.m 49, .m 54, kf] 55 44), (Op .pick [.m 44, kt, .m 55] 56)] none)
(.drop [6, 7, 34, 45, 46, 47, 48, 49, 50, 51, 52, 53, 54] (.cond 56 (.drop [0, 1, 15, 16, 17, 56] (.seq (.reg [(Op .mv [kf] 4)] none)
.ret))
(.drop [56] .skip)))))))))
(.reg [(Op (bi .add) [.m 17, ki 1] 57), (Mv 57 17)] none)))))
def fn70_s0 : SSh := ⟨[(0, iS), (1, lS 4), (15, lS 4), (16, iS), (17, iS)], []⟩
def fn70_o0 : Cut Tb := cutL tab 0 fn70_s0 (fun x => x.1.2.2.2.2.1) (fun x => fn70_l0 x.1.1 x.1.2.1 x.1.2.2.1 x.1.2.2.2.1) (fun _ x y k => match y with | .inl y => k .ret ⟨[(4, .b false)], [[.u8 y.Id, .u32 y.N, .s y.A, .s y.B]]⟩ | .inr y => k (.exit 0) ⟨[(1, .sl 4 x.1.2.1)], []⟩)
theorem fn70_q0 : CK fn70_o0 0 (.loop fn70_p0) := yv752 (c := fn70_p0) (Z := Int) (Y := fn132 ⊕ Unit) tabOk fn70_rk (cF fn70_q1 uC) (fun _ x z b e => fn70_b0 x.1.1 x.1.2.1 x.1.2.2.1 x.1.2.2.2.1 z (fun x7 => b x7) (fun y18 => e (.inl y18)) (e (.inr ()))) (fun x z => ⟨[(0, .n .i64 x.1.1), (1, .sl 4 x.1.2.1), (15, .sl 4 x.1.2.2.1), (16, .n .i64 x.1.2.2.2.1), (17, .n .i64 z)], []⟩) (fun x y => match y with | .inl y => (.ret, ⟨[(4, .b false)], [[.u8 y.Id, .u32 y.N, .s y.A, .s y.B]]⟩) | .inr y => ((.exit 0), ⟨[(1, .sl 4 x.1.2.1)], []⟩)) (fun t => (prjS tab 0 fn70_s0 t).bind fun x => some x.1.2.2.2.2.1) (fun e t => (if eqE e .ret then yv543 ((prjS tab 0 ⟨[(4, .g (.f (.cb false)))], [[u8S, u32S, sS, sS]]⟩ t).bind fun v => some (.inl (tabBk 4 v.2.1 : fn132))) (if eqE e (.exit 0) then (prjS tab 0 ⟨[(1, lS 4)], []⟩ t).bind fun v => some (.inr ()) else none) else (if eqE e (.exit 0) then (prjS tab 0 ⟨[(1, lS 4)], []⟩ t).bind fun v => some (.inr ()) else none))) (fun x => by kernel_rfl) (fun x z => by kernel_rfl) (fun x y k => by rcases y with y | y <;> kernel_rfl) (fun x y => by rcases y with y | y <;> exact nofun) (fun x z => by kernel_rfl) (fun x y => by rcases y with y | y <;> kernel_rfl) (fun x z k => by kernel_rfl)
def fn70_p : TCode Tb :=
(.seq (.reg [(Op .mv [kf] 4)] none)
(.seq (.seq (.reg [(Op .mv [.v 1] 12), (Op .len [.m 12] 13), (Op (bi .gtr) [.m 13, ki 1024] 14)] none)
(.cond 14 (.drop [0, 1, 4, 14] (.seq (.reg [(Op .mv [kf] 4)] none)
.ret))
(.drop [4, 14] .skip)))
(.seq (.seq (.reg [(Op .mv [.v 1] 15), (Op .len [.v 15] 16), (Op .mv [ki 0] 17)] none)
(.block 0 (.cut 0 fn70_o0 (.loop fn70_p0))))
(.seq (.reg [(Op .mv [.v 1] 59), (Op (.call (some 87) 3) [.m 59, .k (.u8 (22 : UInt8))] 60), (Mv 60 58), (Op .extm [.c 58 0] 61), (Op (.ext 1) [.m 58] 62), (Op (.alloc [.u8 (0 : UInt8), .u32 (0 : UInt32), .s [], .s []]) [] 8), (Do (.store 4) [.m 8, .m 61]), (Mv 62 9)] none)
(.seq (.reg [(Mv 1 64), (Op (.call (some 87) 3) [.m 64, .k (.u8 (21 : UInt8))] 65), (Mv 65 63), (Op .extm [.c 63 0] 66), (Op (.ext 1) [.m 63] 67), (Op (.alloc [.u8 (0 : UInt8), .u32 (0 : UInt32), .s [], .s []]) [] 10), (Do (.store 4) [.m 10, .m 66]), (Mv 67 11)] none)
(.seq (.reg [(Mv 11 68), (Mv 68 69), (No .mv [.m 9] 70 69), (No (.un .not) [.m 70] 71 69), (Op .pick [.m 69, kt, .m 71] 72), (Mv 72 4)] none)
(.drop [9, 70] .ret)))))))
def fn70_w : Orc Tb := mkOrc (Y := Bool) tab [iS, lS 4] [] (fun x h => fn70 x.1 x.2.1) (fun _ y k => k (.b y) [])
theorem fn70_k : WK fn70_w 42 := orcD (Y := Bool) (c := fn70_p) (res := [.tmp 4]) (n := 73) (R := (RSp.one (Y := Bool) tab (bS) [] (fun a b => a) (fun y => y) (fun y => ()))) fn70_rk oneD Tryz.func42 (cS uC (cS uC (cS (cS uC (cB (cT fn70_q0))) uC)))
def fn32_r : Orcs Tb := [(119, fn89_w)]
theorem fn32_rk : RK fn32_r := (yv720 fn89_k yv743)
def fn32_p0 : TCode Tb :=
(.seq (.reg [(Mv 0 18), (Op (bi .eql) [.m 18, ki 5] 19), (Mv 19 20), (No (.fa 9) [.v 3] 21 20), (No ld [.m 21] 22 20), (No .mv [.m 22] 23 20), (No (.fa 10) [.v 3] 24 23), (No ld [.m 24] 25 23), (No (.un .not) [.m 25] 26 23), (No .pick [.m 23, kt, .m 26] 27 20), (No .mv [.m 27] 28 20), (Yes (.fa 5) [.v 3] 29 28), (Yes ld [.m 29] 30 28), (Yes .mv [.m 30] 31 28), (No (.fa 7) [.m 3] 32 31), (No ld [.m 32] 33 31), (No (.bin .neq .s) [.m 33, .k (.s [])] 34 31), (Yes .pick [.m 31, kt, .m 34] 35 28), (No .pick [.m 28, .m 35, kf] 36 20), (Op .pick [.m 20, kt, .m 36] 37), (Mv 37 4)] none)
(.drop [3, 21, 22, 23, 24, 25, 26, 27, 28, 29, 30, 31, 32, 33, 34, 35] .ret))
def fn32_s0 : SSh := ⟨[(0, iS), (3, rS 0 0)], [hS1]⟩
def fn32_o0 : Cut Tb := cutJ tab 0 fn32_s0 (fun _ x k => fn32_c0 x.1.1 (tabBk 6 x.2.1 : fn54) (fun y6 => k .ret ⟨[(4, .b y6)], [(injL tab hS1 x.2.1)]⟩))
theorem fn32_q0 : CK fn32_o0 0 fn32_p0 := cutJD fn32_rk uC
def fn32_p : TCode Tb :=
(.seq (.reg [(Op .box [.m 1] 3), (Op .mv [kf] 4)] none)
(.seq (.seq (.reg [(Fav 8 3 5), (Ld 5 6), (Mv 6 7), (Yes (.fa 11) [.v 3] 8 7), (Yes ld [.m 8] 9 7), (Yes (bi .gtr) [.m 9, .k (.u8 (2 : UInt8))] 10 7), (Yes .mv [.m 10] 11 7), (No (.fa 14) [.v 3] 12 11), (No ld [.m 12] 13 11), (No (.call (some 119) 0) [.m 13] 14 11), (No (.un .not) [.m 14] 15 11), (Yes .pick [.m 11, kt, .m 15] 16 7), (Op .pick [.m 7, .m 16, kf] 17)] none)
(.drop [4, 8, 9, 10, 11, 12, 13, 14, 15] (.cond 17 (.drop [0, 3, 17] (.seq (.reg [(Op .mv [kf] 4)] none)
.ret))
(.drop [17] .skip))))
(.cut 0 fn32_o0 fn32_p0)))
def fn32_w : Orc Tb := mkOrc (Y := Bool) tab [iS, .g (.st 6)] [] (fun x h => fn32 x.1 (x.2.1 : fn54)) (fun _ y k => k (.b y) [])
theorem fn32_k : WK fn32_w 88 := orcD (Y := Bool) (c := fn32_p) (res := [.tmp 4]) (n := 38) (R := (RSp.one (Y := Bool) tab (bS) [] (fun a b => a) (fun y => y) (fun y => ()))) fn32_rk oneD Tryz.func88 (cS uC (cS uC (cT fn32_q0)))
def fn45_r : Orcs Tb := []
theorem fn45_rk : RK fn45_r := yv743
def fn45_p0 : TCode Tb :=
(.cond 7 (.drop [3, 7] (.seq (.reg [(Op (.b8 1 [0]) [.k (.u8 (0 : UInt8))] 13), (Mv 13 2)] none)
.ret))
(.drop [7] (.seq (.reg [(Op (bi .eql) [.m 3, ki 9] 15), (Mv 15 14)] none)
(.cond 14 (.drop [14] (.seq (.reg [(Op (.b8 4 [0, 1, 2, 3]) [.k (.u8 (0 : UInt8)), .k (.u8 (1 : UInt8)), .k (.u8 (2 : UInt8)), .k (.u8 (128 : UInt8))] 16), (Mv 16 2)] none)
.ret))
(.drop [14] .skip)))))
def fn45_s0 : SSh := ⟨[(3, iS), (7, bS)], []⟩
def fn45_o0 : Cut Tb := cutJ tab 0 fn45_s0 (fun _ x k => fn45_c0 x.1.1 x.1.2.1 (fun y4 => k .ret ⟨[(2, .bo y4)], []⟩) (k .normal ⟨[], []⟩))
theorem fn45_q0 : CK fn45_o0 0 fn45_p0 := cutJD fn45_rk uC
def fn45_p : TCode Tb :=
(.seq (.reg [(Op .mv [.k (.nilS)] 2)] none)
(.seq (.seq (.reg [(Mv 0 3)] none)
(.block 0 (.seq (.reg [(Op (bi .eql) [.v 3, ki 2] 5), (Mv 5 4)] none)
(.cond 4 (.drop [2, 3, 4] (.seq (.reg [(Op (.b8 6 [0, 1, 2, 3, 4, 5]) [.k (.u8 (0 : UInt8)), .k (.u8 (1 : UInt8)), .k (.u8 (2 : UInt8)), .k (.u8 (3 : UInt8)), .k (.u8 (4 : UInt8)), .k (.u8 (5 : UInt8))] 6), (Mv 6 2)] none)
.ret))
(.drop [2, 4] (.seq (.seq (.reg [(Op (bi .eql) [.v 3, ki 4] 8), (Mv 8 7)] none)
(.cond 7 .skip
(.drop [7] (.seq (.reg [(Op (bi .eql) [.v 3, ki 5] 9), (Mv 9 7)] none)
(.cond 7 .skip
(.drop [7] (.seq (.reg [(Op (bi .eql) [.v 3, ki 6] 10), (Mv 10 7)] none)
(.cond 7 .skip
(.drop [7] (.seq (.reg [(Op (bi .eql) [.v 3, ki 7] 11), (Mv 11 7)] none)
(.cond 7 .skip
(.drop [7] (.reg [(Op (bi .eql) [.v 3, ki 14] 12), (Mv 12 7)] none)))))))))))))
(.cut 0 fn45_o0 fn45_p0)))))))
(.seq (.reg [(Op .mv [.k (.nilS)] 2)] none)
.ret)))
def fn45_w : Orc Tb := mkOrc (Y := (Option (List UInt8))) tab [iS] [] (fun x h => fn45 x.1) (fun _ y k => k (.bo y) [])
theorem fn45_k : WK fn45_w 148 := orcD (Y := (Option (List UInt8))) (c := fn45_p) (res := [.tmp 2]) (n := 17) (R := (RSp.one (Y := (Option (List UInt8))) tab (boS) [] (fun a b => a) (fun y => y) (fun y => ()))) fn45_rk oneD Tryz.func148 (cS uC (cS (cS uC (cB (cS uC (cC uC (cD (cS uC (cT fn45_q0))))))) uC))
def fn57_r : Orcs Tb := []
theorem fn57_rk : RK fn57_r := yv743
def fn57_p1 : TCode Tb :=
(.cond 11 (.drop [3, 11] (.seq (.reg [(Op (.b8 2 [0, 1]) [.k (.u8 (0 : UInt8)), .k (.u8 (146 : UInt8))] 14), (Mv 14 2)] none)
.ret))
(.drop [11] (.seq (.reg [(Op (bi .eql) [.v 3, ki 9] 16), (Mv 16 15)] none)
(.cond 15 (.drop [3, 15] (.seq (.reg [(Op (.b8 12 [0, 1, 2, 3, 4, 5, 6, 7, 8, 9, 10, 11]) [.k (.u8 (0 : UInt8)), .k (.u8 (1 : UInt8)), .k (.u8 (2 : UInt8)), .k (.u8 (128 : UInt8)), .k (.u8 (131 : UInt8)), .k (.u8 (135 : UInt8)), .k (.u8 (143 : UInt8)), .k (.u8 (145 : UInt8)), .k (.u8 (151 : UInt8)), .k (.u8 (158 : UInt8)), .k (.u8 (161 : UInt8)), .k (.u8 (162 : UInt8))] 17), (Mv 17 2)] none)
.ret))
(.drop [15] (.seq (.reg [(Op (bi .eql) [.v 3, ki 11] 19), (Mv 19 18)] none)
(.cond 18 (.drop [3, 18] (.seq (.reg [(Op (.b8 7 [0, 1, 2, 3, 4, 5, 6]) [.k (.u8 (0 : UInt8)), .k (.u8 (17 : UInt8)), .k (.u8 (128 : UInt8)), .k (.u8 (131 : UInt8)), .k (.u8 (135 : UInt8)), .k (.u8 (143 : UInt8)), .k (.u8 (145 : UInt8))] 20), (Mv 20 2)] none)
.ret))
(.drop [18] (.seq (.reg [(Op (bi .eql) [.v 3, ki 14] 22), (Mv 22 21)] none)
(.cond 21 (.drop [3, 21] (.seq (.reg [(Op (.b8 29 [0, 1, 2, 3, 4, 5, 6, 7, 8, 9, 10, 11, 12, 13, 14, 15, 16, 17, 18, 19, 20, 21, 22, 23, 24, 25, 26, 27, 28]) [.k (.u8 (0 : UInt8)), .k (.u8 (4 : UInt8)), .k (.u8 (128 : UInt8)), .k (.u8 (129 : UInt8)), .k (.u8 (130 : UInt8)), .k (.u8 (131 : UInt8)), .k (.u8 (135 : UInt8)), .k (.u8 (137 : UInt8)), .k (.u8 (139 : UInt8)), .k (.u8 (141 : UInt8)), .k (.u8 (142 : UInt8)), .k (.u8 (143 : UInt8)), .k (.u8 (144 : UInt8)), .k (.u8 (147 : UInt8)), .k (.u8 (148 : UInt8)), .k (.u8 (149 : UInt8)), .k (.u8 (150 : UInt8)), .k (.u8 (151 : UInt8)), .k (.u8 (152 : UInt8)), .k (.u8 (153 : UInt8)), .k (.u8 (154 : UInt8)), .k (.u8 (155 : UInt8)), .k (.u8 (156 : UInt8)), .k (.u8 (157 : UInt8)), .k (.u8 (158 : UInt8)), .k (.u8 (159 : UInt8)), .k (.u8 (160 : UInt8)), .k (.u8 (161 : UInt8)), .k (.u8 (162 : UInt8))] 23), (Mv 23 2)] none)
.ret))
(.drop [21] (.seq (.reg [(Op (bi .eql) [.m 3, ki 15] 25), (Mv 25 24)] none)
(.cond 24 (.drop [24] (.seq (.reg [(Op (.b8 3 [0, 1, 2]) [.k (.u8 (0 : UInt8)), .k (.u8 (24 : UInt8)), .k (.u8 (25 : UInt8))] 26), (Mv 26 2)] none)
.ret))
(.drop [24] .skip))))))))))))))
def fn57_s1 : SSh := ⟨[(3, iS), (11, bS)], []⟩
def fn57_o1 : Cut Tb := cutJ tab 0 fn57_s1 (fun _ x k => fn57_c1 x.1.1 x.1.2.1 (fun y6 => k .ret ⟨[(2, .bo y6)], []⟩) (k .normal ⟨[], []⟩))
theorem fn57_q1 : CK fn57_o1 0 fn57_p1 := cutJD fn57_rk uC
def fn57_p0 : TCode Tb :=
(.cond 7 (.drop [3, 7] (.seq (.reg [(Op (.b8 9 [0, 1, 2, 3, 4, 5, 6, 7, 8]) [.k (.u8 (0 : UInt8)), .k (.u8 (16 : UInt8)), .k (.u8 (128 : UInt8)), .k (.u8 (131 : UInt8)), .k (.u8 (135 : UInt8)), .k (.u8 (144 : UInt8)), .k (.u8 (145 : UInt8)), .k (.u8 (151 : UInt8)), .k (.u8 (153 : UInt8))] 10), (Mv 10 2)] none)
.ret))
(.drop [7] (.seq (.seq (.reg [(Op (bi .eql) [.v 3, ki 6] 12), (Mv 12 11)] none)
(.cond 11 .skip
(.drop [11] (.reg [(Op (bi .eql) [.v 3, ki 7] 13), (Mv 13 11)] none))))
(.cut 0 fn57_o1 fn57_p1))))
def fn57_s0 : SSh := ⟨[(3, iS), (7, bS)], []⟩
def fn57_o0 : Cut Tb := cutJ tab 0 fn57_s0 (fun _ x k => fn57_c0 x.1.1 x.1.2.1 (fun y9 => k .ret ⟨[(2, .bo y9)], []⟩) (k .normal ⟨[], []⟩))
theorem fn57_q0 : CK fn57_o0 0 fn57_p0 := cutJD fn57_rk (cC uC (cD (cS uC (cT fn57_q1))))
def fn57_p : TCode Tb :=
(.seq (.reg [(Op .mv [.k (.nilS)] 2)] none)
(.seq (.seq (.reg [(Mv 0 3)] none)
(.block 0 (.seq (.reg [(Op (bi .eql) [.v 3, ki 2] 5), (Mv 5 4)] none)
(.cond 4 (.drop [2, 3, 4] (.seq (.reg [(Op (.b8 22 [0, 1, 2, 3, 4, 5, 6, 7, 8, 9, 10, 11, 12, 13, 14, 15, 16, 17, 18, 19, 20, 21]) [.k (.u8 (0 : UInt8)), .k (.u8 (128 : UInt8)), .k (.u8 (129 : UInt8)), .k (.u8 (130 : UInt8)), .k (.u8 (131 : UInt8)), .k (.u8 (132 : UInt8)), .k (.u8 (133 : UInt8)), .k (.u8 (134 : UInt8)), .k (.u8 (135 : UInt8)), .k (.u8 (136 : UInt8)), .k (.u8 (137 : UInt8)), .k (.u8 (138 : UInt8)), .k (.u8 (140 : UInt8)), .k (.u8 (144 : UInt8)), .k (.u8 (149 : UInt8)), .k (.u8 (151 : UInt8)), .k (.u8 (153 : UInt8)), .k (.u8 (154 : UInt8)), .k (.u8 (155 : UInt8)), .k (.u8 (156 : UInt8)), .k (.u8 (157 : UInt8)), .k (.u8 (159 : UInt8))] 6), (Mv 6 2)] none)
.ret))
(.drop [2, 4] (.seq (.seq (.reg [(Op (bi .eql) [.v 3, ki 4] 8), (Mv 8 7)] none)
(.cond 7 .skip
(.drop [7] (.reg [(Op (bi .eql) [.v 3, ki 5] 9), (Mv 9 7)] none))))
(.cut 0 fn57_o0 fn57_p0)))))))
(.seq (.reg [(Op .mv [.k (.nilS)] 2)] none)
.ret)))
def fn57_w : Orc Tb := mkOrc (Y := (Option (List UInt8))) tab [iS] [] (fun x h => fn57 x.1) (fun _ y k => k (.bo y) [])
theorem fn57_k : WK fn57_w 149 := orcD (Y := (Option (List UInt8))) (c := fn57_p) (res := [.tmp 2]) (n := 27) (R := (RSp.one (Y := (Option (List UInt8))) tab (boS) [] (fun a b => a) (fun y => y) (fun y => ()))) fn57_rk oneD Tryz.func149 (cS uC (cS (cS uC (cB (cS uC (cC uC (cD (cS uC (cT fn57_q0))))))) uC))
def fn92_r : Orcs Tb := [(148, fn45_w), (149, fn57_w)]
theorem fn92_rk : RK fn92_r := (yv720 fn45_k (yv720 fn57_k yv743))
def fn92_p : TCode Tb :=
(.seq (.reg [(Op .mv [.k (.nilS)] 4)] none)
(.seq (.seq (.reg [(Mv 0 5)] none)
(.block 0 (.seq (.reg [(Op (bi .eql) [.v 5, ki 4] 7), (Mv 7 6)] none)
(.cond 6 (.drop [4, 5, 6] (.seq (.reg [(Mv 1 8), (Op (.call (some 148) 0) [.m 8] 9), (Mv 9 4)] none)
.ret))
(.drop [4, 6] (.seq (.reg [(Op (bi .eql) [.m 5, ki 5] 11), (Mv 11 10)] none)
(.cond 10 (.drop [10] (.seq (.reg [(Mv 1 12), (Op (.call (some 149) 1) [.m 12] 13), (Mv 13 4)] none)
.ret))
(.drop [1, 10] .skip))))))))
(.seq (.reg [(Op .mv [.k (.nilS)] 4)] none)
.ret)))
def fn92_w : Orc Tb := mkOrc (Y := (Option (List UInt8))) tab [iS, iS] [] (fun x h => fn92 x.1 x.2.1) (fun _ y k => k (.bo y) [])
theorem fn92_k : WK fn92_w 125 := orcD (Y := (Option (List UInt8))) (c := fn92_p) (res := [.tmp 4]) (n := 14) (R := (RSp.one (Y := (Option (List UInt8))) tab (boS) [] (fun a b => a) (fun y => y) (fun y => ()))) fn92_rk oneD Tryz.func125 uC
def fn11_r : Orcs Tb := []
theorem fn11_rk : RK fn11_r := yv743
def fn11_p0 : TCode Tb :=
(.seq (.reg [(Op (bi .lss) [.v 8, .v 7] 9)] none)
(.seq (.cond 9 (.drop [9] .skip)
(.drop [0, 1, 7, 8, 9] (.exit 0)))
(.seq (.block 1 (.seq (.reg [(Op .mv [.v 8] 10), (Mv 10 5)] none)
(.seq (.reg [(Op .mv [.v 1] 11), (Op .mv [.v 0] 12), (Op .mv [.v 5] 13), (Op (.ia 1) [.v 12, .m 13] 14), (Ld 14 15), (Op (bi .eql) [.m 11, .m 15] 16)] none)
(.cond 16 (.drop [0, 1, 7, 8, 12, 16] (.seq (.reg [(Mv 5 17), (Mv 17 4)] none)
.ret))
(.drop [5, 12, 16] .skip)))))
(.reg [(Op (bi .add) [.m 8, ki 1] 18), (Mv 18 8)] none))))
def fn11_s0 : SSh := ⟨[(0, bsS), (1, u8S), (7, iS), (8, iS)], []⟩
def fn11_o0 : Cut Tb := cutL tab 0 fn11_s0 (fun x => x.1.2.2.2.1) (fun x => fn11_l0 x.1.1 x.1.2.1 x.1.2.2.1) (fun _ x y k => match y with | .inl y => k .ret ⟨[(4, .n .i64 y)], []⟩ | .inr y => k (.exit 0) ⟨[], []⟩)
theorem fn11_q0 : CK fn11_o0 0 (.loop fn11_p0) := yv752 (c := fn11_p0) (Z := Int) (Y := Int ⊕ Unit) tabOk fn11_rk uC (fun _ x z b e => fn11_b0 x.1.1 x.1.2.1 x.1.2.2.1 z (fun x6 => b x6) (fun y8 => e (.inl y8)) (e (.inr ()))) (fun x z => ⟨[(0, .bs x.1.1), (1, .u8 x.1.2.1), (7, .n .i64 x.1.2.2.1), (8, .n .i64 z)], []⟩) (fun x y => match y with | .inl y => (.ret, ⟨[(4, .n .i64 y)], []⟩) | .inr y => ((.exit 0), ⟨[], []⟩)) (fun t => (prjS tab 0 fn11_s0 t).bind fun x => some x.1.2.2.2.1) (fun e t => (if eqE e .ret then yv543 ((prjS tab 0 ⟨[(4, iS)], []⟩ t).bind fun v => some (.inl v.1.1)) (if eqE e (.exit 0) then (prjS tab 0 ⟨[], []⟩ t).bind fun v => some (.inr ()) else none) else (if eqE e (.exit 0) then (prjS tab 0 ⟨[], []⟩ t).bind fun v => some (.inr ()) else none))) (fun x => by kernel_rfl) (fun x z => by kernel_rfl) (fun x y k => by rcases y with y | y <;> kernel_rfl) (fun x y => by rcases y with y | y <;> exact nofun) (fun x z => by kernel_rfl) (fun x y => by rcases y with y | y <;> kernel_rfl) (fun x z k => by kernel_rfl)
def fn11_p : TCode Tb :=
(.seq (.reg [(Op .mv [ki 0] 4)] none)
(.seq (.seq (.reg [(Op .mv [.v 0] 6), (Op .len [.m 6] 7), (Op .mv [ki 0] 8)] none)
(.block 0 (.drop [4] (.cut 0 fn11_o0 (.loop fn11_p0)))))
(.seq (.reg [(Op .mv [.k (.n .i64 (-1))] 4)] none)
.ret)))
def fn11_w : Orc Tb := mkOrc (Y := Int) tab [bsS, u8S] [] (fun x h => fn11 x.1 x.2.1) (fun _ y k => k (.n .i64 y) [])
theorem fn11_k : WK fn11_w 147 := orcD (Y := Int) (c := fn11_p) (res := [.tmp 4]) (n := 19) (R := (RSp.one (Y := Int) tab (iS) [] (fun a b => a) (fun y => y) (fun y => ()))) fn11_rk oneD Tryz.func147 (cS uC (cS (cS uC (cB (cD (cT fn11_q0)))) uC))
def fn9_r : Orcs Tb := [(147, fn11_w)]
theorem fn9_rk : RK fn9_r := (yv720 fn11_k yv743)
def fn9_p : TCode Tb :=
(.seq (.reg [(Op .mv [kf] 4)] none)
(.seq (.reg [(Mv 0 5), (Mv 1 6), (Op (.call (some 147) 0) [.m 5, .m 6] 7), (Op (bi .geq) [.m 7, ki 0] 8), (Mv 8 4)] none)
.ret))
def fn9_w : Orc Tb := mkOrc (Y := Bool) tab [bsS, u8S] [] (fun x h => fn9 x.1 x.2.1) (fun _ y k => k (.b y) [])
theorem fn9_k : WK fn9_w 124 := orcD (Y := Bool) (c := fn9_p) (res := [.tmp 4]) (n := 9) (R := (RSp.one (Y := Bool) tab (bS) [] (fun a b => a) (fun y => y) (fun y => ()))) fn9_rk oneD Tryz.func124 uC
def fn58_r : Orcs Tb := [(125, fn92_w), (124, fn9_w)]
theorem fn58_rk : RK fn58_r := (yv720 fn92_k (yv720 fn9_k yv743))
def fn58_p : TCode Tb :=
(.seq (.reg [(Op .mv [kf] 6)] none)
(.seq (.reg [(Mv 0 7), (Mv 1 8), (Op (.call (some 125) 0) [.m 7, .m 8] 9), (Mv 2 10), (Op (.call (some 124) 1) [.m 9, .m 10] 11), (Mv 11 6)] none)
.ret))
def fn58_w : Orc Tb := mkOrc (Y := Bool) tab [iS, iS, u8S] [] (fun x h => fn58 x.1 x.2.1 x.2.2.1) (fun _ y k => k (.b y) [])
theorem fn58_k : WK fn58_w 89 := orcD (Y := Bool) (c := fn58_p) (res := [.tmp 6]) (n := 12) (R := (RSp.one (Y := Bool) tab (bS) [] (fun a b => a) (fun y => y) (fun y => ()))) fn58_rk oneD Tryz.func89 uC
def fn33_r : Orcs Tb := [(87, fn108_w), (119, fn89_w)]
theorem fn33_rk : RK fn33_r := (yv720 fn108_k (yv720 fn89_k yv743))
def fn33_p0 : TCode Tb :=
(.seq (.reg [(Fav 24 3 29), (Ld 29 30), (Op (.call (some 87) 0) [.m 30, .k (.u8 (35 : UInt8))] 31), (Mv 31 28), (Op .extm [.c 28 0] 32), (Op (.ext 1) [.m 28] 33), (Op (.alloc [.u8 (0 : UInt8), .u32 (0 : UInt32), .s [], .s []]) [] 5), (Do (.store 4) [.m 5, .m 32]), (Mv 33 6)] none)
(.seq (.reg [(Fav 20 3 34), (Ld 34 35), (Op (.call (some 119) 1) [.m 35] 36), (Mv 36 37), (No .mv [.m 0] 38 37), (No (bi .eql) [.m 38, ki 5] 39 37), (No .mv [.m 39] 40 37), (Yes (.fa 20) [.m 3] 41 40), (Yes ld [.m 41] 42 40), (Yes (.bin .eql .s) [.m 42, .k (.s [])] 43 40), (No .pick [.m 40, .m 43, kf] 44 37), (No .mv [.m 44] 45 37), (Yes .mv [.m 6] 46 45), (No .pick [.m 45, .m 46, kf] 47 37), (Op .pick [.m 37, kt, .m 47] 48), (Mv 48 4)] none)
(.drop [0, 3, 6, 38, 39, 40, 41, 42, 43, 44, 45, 46] .ret)))
def fn33_s0 : SSh := ⟨[(0, iS), (3, rS 0 0)], [hS1]⟩
def fn33_o0 : Cut Tb := cutJ tab 0 fn33_s0 (fun _ x k => fn33_c0 x.1.1 (tabBk 6 x.2.1 : fn54) (fun y8 y9 => k .ret ⟨[(4, .b y8)], [(injL tab hS1 x.2.1), [.u8 y9.Id, .u32 y9.N, .s y9.A, .s y9.B]]⟩))
theorem fn33_q0 : CK fn33_o0 0 fn33_p0 := cutJD fn33_rk uC
def fn33_p : TCode Tb :=
(.seq (.reg [(Op .box [.m 1] 3), (Op .mv [kf] 4)] none)
(.seq (.seq (.reg [(Fav 3 3 7), (Ld 7 8), (Op (bi .gtr) [.m 8, .k (.u8 (2 : UInt8))] 9), (Mv 9 10), (No (.fa 1) [.v 3] 11 10), (No ld [.m 11] 12 10), (No .mv [.m 12] 13 10), (Yes (.fa 3) [.v 3] 14 13), (Yes ld [.m 14] 15 13), (Yes (bi .eql) [.m 15, .k (.u8 (0 : UInt8))] 16 13), (No .pick [.m 13, .m 16, kf] 17 10), (Op .pick [.m 10, kt, .m 17] 18), (Mv 18 19), (No (.fa 4) [.v 3] 20 19), (No ld [.m 20] 21 19), (No (bi .eql) [.m 21, .k (.u16 (0 : UInt16))] 22 19), (No (.fa 3) [.v 3] 23 19), (No ld [.m 23] 24 19), (No (bi .eql) [.m 24, .k (.u8 (0 : UInt8))] 25 19), (No (.bin .neq .b) [.m 22, .m 25] 26 19), (Op .pick [.m 19, kt, .m 26] 27)] none)
(.drop [4, 11, 12, 13, 14, 15, 16, 20, 21, 22, 23, 24, 25] (.cond 27 (.drop [0, 3, 27] (.seq (.reg [(Op .mv [kf] 4)] none)
.ret))
(.drop [27] .skip))))
(.cut 0 fn33_o0 fn33_p0)))
def fn33_w : Orc Tb := mkOrc (Y := Bool) tab [iS, .g (.st 6)] [] (fun x h => fn33 x.1 (x.2.1 : fn54)) (fun _ y k => k (.b y) [])
theorem fn33_k : WK fn33_w 90 := orcD (Y := Bool) (c := fn33_p) (res := [.tmp 4]) (n := 49) (R := (RSp.one (Y := Bool) tab (bS) [] (fun a b => a) (fun y => y) (fun y => ()))) fn33_rk oneD Tryz.func90 (cS uC (cS uC (cT fn33_q0)))
def fn46_r : Orcs Tb := []
theorem fn46_rk : RK fn46_r := yv743
def fn46_p : TCode Tb :=
(.seq (.reg [(Op .mv [kf] 2)] none)
(.seq (.reg [(Op .mv [.v 0] 3), (Op (bi .geq) [.m 3, ki 1] 4), (Mv 4 5), (Yes .mv [.m 0] 6 5), (Yes (bi .leq) [.m 6, ki 1024] 7 5), (Op .pick [.m 5, .m 7, kf] 8), (Mv 8 2)] none)
(.drop [0, 6] .ret)))
def fn46_w : Orc Tb := mkOrc (Y := Bool) tab [iS] [] (fun x h => fn46 x.1) (fun _ y k => k (.b y) [])
theorem fn46_k : WK fn46_w 126 := orcD (Y := Bool) (c := fn46_p) (res := [.tmp 2]) (n := 9) (R := (RSp.one (Y := Bool) tab (bS) [] (fun a b => a) (fun y => y) (fun y => ()))) fn46_rk oneD Tryz.func126 uC
def fn6_r : Orcs Tb := []
theorem fn6_rk : RK fn6_r := yv743
def fn6_p : TCode Tb :=
(.seq (.reg [(Op .mv [kf] 4)] none)
(.seq (.reg [(Op .mv [.v 0] 5), (Op .lens [.m 5] 6), (Op .mv [.v 1] 7), (Op .lens [.m 7] 8), (Op (bi .geq) [.m 6, .m 8] 9), (Mv 9 10), (Yes .mv [.m 0] 11 10), (Yes .mv [.v 1] 12 10), (Yes .lens [.m 12] 13 10), (Yes (.sstr false true) [.m 11, .m 13] 14 10), (Yes .mv [.m 1] 15 10), (Yes (.bin .eql .s) [.m 14, .m 15] 16 10), (Op .pick [.m 10, .m 16, kf] 17), (Mv 17 4)] none)
(.drop [0, 1, 11, 12, 13, 14, 15] .ret)))
def fn6_w : Orc Tb := mkOrc (Y := Bool) tab [sS, sS] [] (fun x h => fn6 x.1 x.2.1) (fun _ y k => k (.b y) [])
theorem fn6_k : WK fn6_w 179 := orcD (Y := Bool) (c := fn6_p) (res := [.tmp 4]) (n := 18) (R := (RSp.one (Y := Bool) tab (bS) [] (fun a b => a) (fun y => y) (fun y => ()))) fn6_rk oneD Tryz.func179 uC
def fn7_r : Orcs Tb := [(179, fn6_w)]
theorem fn7_rk : RK fn7_r := (yv720 fn6_k yv743)
def fn7_p : TCode Tb :=
(.seq (.reg [(Op .mv [.k (.s [])] 4), (Op .mv [kf] 5)] none)
(.seq (.seq (.reg [(Op .mv [.v 0] 6), (Op .mv [.v 1] 7), (Op (.call (some 179) 0) [.m 6, .m 7] 8), (Op (.un .not) [.m 8] 9)] none)
(.cond 9 (.drop [1, 4, 5, 9] (.seq (.reg [(Mv 0 10), (Mv 10 4), (Op .mv [kf] 5)] none)
.ret))
(.drop [4, 5, 9] .skip)))
(.seq (.reg [(Mv 0 11), (Mv 1 12), (Op .lens [.m 12] 13), (Op (.sstr true false) [.m 11, .m 13] 14), (Mv 14 4), (Op .mv [kt] 5)] none)
.ret)))
def fn7_w : Orc Tb := mkOrc (Y := (List UInt8) × Bool) tab [sS, sS] [] (fun x h => fn7 x.1 x.2.1) (fun _ y k => k (.tup [.s y.1, .b y.2]) [])
theorem fn7_k : WK fn7_w 169 := orcD (Y := (List UInt8) × Bool) (c := fn7_p) (res := [.tmp 4, .tmp 5]) (n := 15) (R := (RSp.one (Y := (List UInt8) × Bool) tab (.tup [.f (.a .s), .f (.a .b)]) [] (fun a b => (a.1, a.2.1)) (fun y => (y.1, y.2, ())) (fun y => ()))) fn7_rk oneD Tryz.func169 uC
def fn21_r : Orcs Tb := [(169, fn7_w)]
theorem fn21_rk : RK fn21_r := (yv720 fn7_k yv743)
def fn21_p : TCode Tb :=
(.seq (.reg [(Op .mv [.k (.s [])] 4), (Op .mv [kf] 5)] none)
(.seq (.reg [(Mv 0 6), (Mv 1 7), (Op (.call (some 169) 0) [.m 6, .m 7] 8), (Op .extm [.c 8 0] 9), (Op (.ext 1) [.m 8] 10), (Mv 9 4), (Mv 10 5)] none)
.ret))
def fn21_w : Orc Tb := mkOrc (Y := (List UInt8) × Bool) tab [sS, sS] [] (fun x h => fn21 x.1 x.2.1) (fun _ y k => k (.tup [.s y.1, .b y.2]) [])
theorem fn21_k : WK fn21_w 160 := orcD (Y := (List UInt8) × Bool) (c := fn21_p) (res := [.tmp 4, .tmp 5]) (n := 11) (R := (RSp.one (Y := (List UInt8) × Bool) tab (.tup [.f (.a .s), .f (.a .b)]) [] (fun a b => (a.1, a.2.1)) (fun y => (y.1, y.2, ())) (fun y => ()))) fn21_rk oneD Tryz.func160 uC
def fn47_w : Orc Tb := mkOrc (Y := Option (List (List UInt8))) tab [sS, sS] [] (fun x h => fn47 x.1 x.2.1) (fun _ y k => k (.sl 8 y) [])
theorem fn47_k : WK fn47_w 171 := yv740 tabOk (by kernel_rfl) 8 rfl (fun _ => rfl) rfl (fun _ h => h.2) Tryz.strings_Split
def fn71_r : Orcs Tb := [(171, fn47_w), (144, fn88_w)]
theorem fn71_rk : RK fn71_r := (yv720 fn47_k (yv720 fn88_k yv743))
def fn71_p1 : TCode Tb :=
(.cond 17 (.drop [5, 17] .skip)
(.drop [17] (.seq (.reg [(Mv 5 30), (Op (.call (some 144) 1) [.m 30] 31), (Mv 31 29)] none)
(.cond 29 (.drop [3, 10, 11, 12, 29] (.seq (.reg [(Op .mv [kf] 2)] none)
.ret))
(.drop [29] .skip)))))
def fn71_s1 : SSh := ⟨[(3, lS 8), (5, sS), (10, lS 8), (11, iS), (12, iS), (17, bS)], []⟩
def fn71_o1 : Cut Tb := cutJ tab 0 fn71_s1 (fun _ x k => fn71_c1 x.1.2.1 x.1.2.2.2.2.2.1 (k .normal ⟨[(3, .sl 8 x.1.1), (10, .sl 8 x.1.2.2.1), (11, .n .i64 x.1.2.2.2.1), (12, .n .i64 x.1.2.2.2.2.1)], []⟩) (k .ret ⟨[(2, .b false)], []⟩))
theorem fn71_q1 : CK fn71_o1 0 fn71_p1 := cutJD fn71_rk uC
def fn71_p0 : TCode Tb :=
(.seq (.reg [(Op (bi .lss) [.v 12, .v 11] 13)] none)
(.seq (.cond 13 (.drop [13] .skip)
(.drop [3, 10, 11, 12, 13] (.exit 0)))
(.seq (.block 1 (.seq (.reg [(Op .mv [.v 12] 14), (Op (.ia 1) [.v 10, .v 12] 15), (Ld 15 16), (Mv 14 4), (Mv 16 5)] none)
(.block 2 (.seq (.seq (.reg [(Op .mv [.v 5] 18), (Op (.bin .eql .s) [.m 18, .k (.s [43])] 19), (Mv 19 17)] none)
(.cond 17 (.drop [4] .skip)
(.drop [17] (.reg [(Op .mv [.v 5] 20), (Op (.bin .eql .s) [.m 20, .k (.s [35])] 21), (Mv 21 22), (Yes .mv [.m 4] 23 22), (Yes .mv [.v 3] 24 22), (Yes .len [.m 24] 25 22), (Yes (bi .sub) [.m 25, ki 1] 26 22), (Yes (bi .eql) [.m 23, .m 26] 27 22), (Op .pick [.m 22, .m 27, kf] 28), (Mv 28 17)] none))))
(.drop [4, 23, 24, 25, 26] (.cut 0 fn71_o1 fn71_p1))))))
(.reg [(Op (bi .add) [.m 12, ki 1] 32), (Mv 32 12)] none))))
def fn71_s0 : SSh := ⟨[(3, lS 8), (10, lS 8), (11, iS), (12, iS)], []⟩
def fn71_o0 : Cut Tb := cutL tab 0 fn71_s0 (fun x => x.1.2.2.2.1) (fun x => fn71_l0 x.1.1 x.1.2.1 x.1.2.2.1) (fun _ x y k => match y with | .inl y => k .ret ⟨[(2, .b false)], []⟩ | .inr y => k (.exit 0) ⟨[], []⟩)
theorem fn71_q0 : CK fn71_o0 0 (.loop fn71_p0) := yv752 (c := fn71_p0) (Z := Int) (Y := Unit ⊕ Unit) tabOk fn71_rk (cS uC (cS uC (cS (cB (cS uC (cB (cS uC (cD (cT fn71_q1)))))) uC))) (fun _ x z b e => fn71_b0 x.1.1 x.1.2.1 x.1.2.2.1 z (fun x6 => b x6) (e (.inl ())) (e (.inr ()))) (fun x z => ⟨[(3, .sl 8 x.1.1), (10, .sl 8 x.1.2.1), (11, .n .i64 x.1.2.2.1), (12, .n .i64 z)], []⟩) (fun x y => match y with | .inl y => (.ret, ⟨[(2, .b false)], []⟩) | .inr y => ((.exit 0), ⟨[], []⟩)) (fun t => (prjS tab 0 fn71_s0 t).bind fun x => some x.1.2.2.2.1) (fun e t => (if eqE e .ret then yv543 ((prjS tab 0 ⟨[(2, .g (.f (.cb false)))], []⟩ t).bind fun v => some (.inl ())) (if eqE e (.exit 0) then (prjS tab 0 ⟨[], []⟩ t).bind fun v => some (.inr ()) else none) else (if eqE e (.exit 0) then (prjS tab 0 ⟨[], []⟩ t).bind fun v => some (.inr ()) else none))) (fun x => by kernel_rfl) (fun x z => by kernel_rfl) (fun x y k => by rcases y with y | y <;> kernel_rfl) (fun x y => by rcases y with y | y <;> exact nofun) (fun x z => by kernel_rfl) (fun x y => by rcases y with y | y <;> kernel_rfl) (fun x z k => by kernel_rfl)
def fn71_p : TCode Tb :=
(.seq (.reg [(Op .mv [kf] 2)] none)
(.seq (.seq (.reg [(Op .mv [.v 0] 6), (Op (.bin .eql .s) [.m 6, .k (.s [])] 7)] none)
(.cond 7 (.drop [0, 2, 7] (.seq (.reg [(Op .mv [kf] 2)] none)
.ret))
(.drop [2, 7] .skip)))
(.seq (.reg [(Mv 0 8), (Op (.call (some 171) 0) [.m 8, .k (.s [47])] 9), (Mv 9 3)] none)
(.seq (.seq (.reg [(Op .mv [.v 3] 10), (Op .len [.v 10] 11), (Op .mv [ki 0] 12)] none)
(.block 0 (.cut 0 fn71_o0 (.loop fn71_p0))))
(.seq (.reg [(Op .mv [kt] 2)] none)
.ret)))))
def fn71_w : Orc Tb := mkOrc (Y := Bool) tab [sS] [] (fun x h => fn71 x.1) (fun _ y k => k (.b y) [])
theorem fn71_k : WK fn71_w 162 := orcD (Y := Bool) (c := fn71_p) (res := [.tmp 2]) (n := 33) (R := (RSp.one (Y := Bool) tab (bS) [] (fun a b => a) (fun y => y) (fun y => ()))) fn71_rk oneD Tryz.func162 (cS uC (cS uC (cS uC (cS (cS uC (cB (cT fn71_q0))) uC))))
def fn72_w : Orc Tb := mkOrc (Y := (List UInt8) × (List UInt8) × Bool) tab [sS, sS] [] (fun x h => fn72 x.1 x.2.1) (fun _ y k => k (.tup [.s y.1, .s y.2.1, .b y.2.2]) [])
theorem fn72_k : WK fn72_w 161 := yv753 tabOk (by kernel_rfl) (fun _ h => h.2) Tryz.strings_Cut
def fn59_r : Orcs Tb := [(83, fn85_w), (160, fn21_w), (162, fn71_w), (161, fn72_w), (144, fn88_w)]
theorem fn59_rk : RK fn59_r := (yv720 fn85_k (yv720 fn21_k (yv720 fn71_k (yv720 fn72_k (yv720 fn88_k yv743)))))
def fn59_p : TCode Tb :=
(.seq (.reg [(Op .mv [kf] 2)] none)
(.seq (.seq (.reg [(Op .mv [.v 0] 8), (Op (.call (some 83) 0) [.m 8] 9), (Op (.un .not) [.m 9] 10)] none)
(.cond 10 (.drop [0, 2, 10] (.seq (.reg [(Op .mv [kf] 2)] none)
.ret))
(.drop [2, 10] .skip)))
(.seq (.reg [(Op .mv [.v 0] 12), (Op (.call (some 160) 1) [.m 12, .k (.s [36, 115, 104, 97, 114, 101, 47])] 13), (Mv 13 11), (Op .extm [.c 11 0] 14), (Op (.ext 1) [.m 11] 15), (Mv 14 3), (Mv 15 4)] none)
(.seq (.seq (.reg [(Mv 4 16), (Op (.un .not) [.m 16] 17)] none)
(.cond 17 (.drop [3, 17] (.seq (.reg [(Mv 0 18), (Op (.call (some 162) 2) [.m 18] 19), (Mv 19 2)] none)
.ret))
(.drop [0, 17] .skip)))
(.seq (.reg [(Mv 3 21), (Op (.call (some 161) 3) [.m 21, .k (.s [47])] 22), (Mv 22 20), (Op .extm [.c 20 0] 23), (Op .extm [.c 20 1] 24), (Op (.ext 2) [.m 20] 25), (Mv 23 5), (Mv 24 6), (Mv 25 7)] none)
(.seq (.reg [(Mv 7 26), (Mv 26 27), (Yes .mv [.v 5] 28 27), (Yes (.bin .neq .s) [.m 28, .k (.s [])] 29 27), (Op .pick [.m 27, .m 29, kf] 30), (Mv 30 31), (Yes .mv [.m 5] 32 31), (Yes (.call (some 144) 4) [.m 32] 33 31), (Yes (.un .not) [.m 33] 34 31), (Op .pick [.m 31, .m 34, kf] 35), (Mv 35 36), (Yes .mv [.m 6] 37 36), (Yes (.call (some 162) 2) [.m 37] 38 36), (Op .pick [.m 36, .m 38, kf] 39), (Mv 39 2)] none)
(.drop [5, 6, 28, 32, 33, 37] .ret)))))))
def fn59_w : Orc Tb := mkOrc (Y := Bool) tab [sS] [] (fun x h => fn59 x.1) (fun _ y k => k (.b y) [])
theorem fn59_k : WK fn59_w 152 := orcD (Y := Bool) (c := fn59_p) (res := [.tmp 2]) (n := 40) (R := (RSp.one (Y := Bool) tab (bS) [] (fun a b => a) (fun y => y) (fun y => ()))) fn59_rk oneD Tryz.func152 uC
def fn60_r : Orcs Tb := [(160, fn21_w), (152, fn59_w), (161, fn72_w)]
theorem fn60_rk : RK fn60_r := (yv720 fn21_k (yv720 fn59_k (yv720 fn72_k yv743)))
def fn60_p : TCode Tb :=
(.seq (.reg [(Op .mv [.k (.s [])] 2), (Op .mv [.k (.s [])] 3), (Op .mv [kf] 4)] none)
(.seq (.reg [(Op .mv [.v 0] 8), (Op (.call (some 160) 0) [.m 8, .k (.s [36, 115, 104, 97, 114, 101, 47])] 9), (Mv 9 7), (Op .extm [.c 7 0] 10), (Op (.ext 1) [.m 7] 11), (Mv 10 5), (Mv 11 6)] none)
(.seq (.seq (.reg [(Mv 6 12), (Op (.un .not) [.m 12] 13), (Mv 13 14), (No .mv [.m 0] 15 14), (No (.call (some 152) 1) [.m 15] 16 14), (No (.un .not) [.m 16] 17 14), (Op .pick [.m 14, kt, .m 17] 18)] none)
(.drop [0, 2, 3, 4, 15, 16] (.cond 18 (.drop [5, 18] (.seq (.reg [(Op .mv [.k (.s [])] 2), (Op .mv [.k (.s [])] 3), (Op .mv [kf] 4)] none)
.ret))
(.drop [18] .skip))))
(.seq (.reg [(Mv 5 19), (Op (.call (some 161) 2) [.m 19, .k (.s [47])] 20), (Op .extm [.c 20 0] 21), (Op .extm [.c 20 1] 22), (Op (.ext 2) [.m 20] 23), (Mv 21 2), (Mv 22 3), (Mv 23 4)] none)
.ret))))
def fn60_w : Orc Tb := mkOrc (Y := (List UInt8) × (List UInt8) × Bool) tab [sS] [] (fun x h => fn60 x.1) (fun _ y k => k (.tup [.s y.1, .s y.2.1, .b y.2.2]) [])
theorem fn60_k : WK fn60_w 151 := orcD (Y := (List UInt8) × (List UInt8) × Bool) (c := fn60_p) (res := [.tmp 2, .tmp 3, .tmp 4]) (n := 24) (R := (RSp.one (Y := (List UInt8) × (List UInt8) × Bool) tab (.tup [.f (.a .s), .f (.a .s), .f (.a .b)]) [] (fun a b => (a.1, a.2.1, a.2.2.1)) (fun y => (y.1, y.2.1, y.2.2, ())) (fun y => ()))) fn60_rk oneD Tryz.func151 uC
def fn16_r : Orcs Tb := [(151, fn60_w), (152, fn59_w)]
theorem fn16_rk : RK fn16_r := (yv720 fn60_k (yv720 fn59_k yv743))
def fn16_p0 : TCode Tb :=
(.cond 17 (.drop [1, 2, 3, 9, 17] (.seq (.reg [(Op .mv [kf] 6)] none)
.ret))
(.drop [17] (.seq (.reg [(Mv 2 30), (Op (bi .eql) [.m 30, ki 10] 31), (Mv 31 29)] none)
(.cond 29 (.drop [1, 9, 29] (.seq (.reg [(Fam 1 3 32), (Ld 32 33), (Op (bi .eql) [.m 33, .k (.u8 (0 : UInt8))] 34), (Mv 34 6)] none)
.ret))
(.drop [29] (.seq (.reg [(Mv 1 36), (Op (bi .eql) [.m 36, ki 4] 37), (Mv 37 35)] none)
(.cond 35 (.drop [9, 35] (.seq (.reg [(Fam 1 3 38), (Ld 38 39), (Op (bi .leq) [.m 39, .k (.u8 (2 : UInt8))] 40), (Mv 40 6)] none)
.ret))
(.drop [35] .skip))))))))
def fn16_s0 : SSh := ⟨[(1, iS), (2, iS), (3, rS 0 0), (9, bS), (17, bS)], [[sS, u8S]]⟩
def fn16_o0 : Cut Tb := cutJ tab 0 fn16_s0 (fun _ x k => fn16_c0 x.1.1 x.1.2.1 x.1.2.2.2.2.1 (⟨x.2.1.1, x.2.1.2.1⟩ : fn53) (fun y13 => k .ret ⟨[(6, .b y13)], [[.s x.2.1.1, .u8 x.2.1.2.1]]⟩) (k .normal ⟨[(3, .ref 0 0), (9, .b x.1.2.2.2.1)], [[.s x.2.1.1, .u8 x.2.1.2.1]]⟩))
theorem fn16_q0 : CK fn16_o0 0 fn16_p0 := cutJD fn16_rk uC
def fn16_p1 : TCode Tb :=
(.seq (.reg [(Mv 9 41), (Op (.un .not) [.m 41] 42), (Mv 42 43), (No (.fa 1) [.m 3] 44 43), (No ld [.m 44] 45 43), (No (bi .and) [.m 45, .k (.u8 (4 : UInt8))] 46 43), (No (bi .eql) [.m 46, .k (.u8 (0 : UInt8))] 47 43), (Op .pick [.m 43, kt, .m 47] 48), (Mv 48 6)] none)
(.drop [3, 44, 45, 46] .ret))
def fn16_s1 : SSh := ⟨[(3, rS 0 0), (9, bS)], [[sS, u8S]]⟩
def fn16_o1 : Cut Tb := cutJ tab 0 fn16_s1 (fun _ x k => fn16_c1 x.1.2.1 (⟨x.2.1.1, x.2.1.2.1⟩ : fn53) (fun y19 => k .ret ⟨[(6, .b y19)], [[.s x.2.1.1, .u8 x.2.1.2.1]]⟩))
theorem fn16_q1 : CK fn16_o1 0 fn16_p1 := cutJD fn16_rk uC
def fn16_p : TCode Tb :=
(.seq (.reg [(Op .box [.m 0] 3), (Op .mv [kf] 6)] none)
(.seq (.reg [(Fav 0 3 11), (Ld 11 12), (Op (.call (some 151) 0) [.m 12] 13), (Mv 13 10), (Op .extm [.c 10 0] 14), (Op .extm [.c 10 1] 15), (Op (.ext 2) [.m 10] 16), (Mv 14 7), (Mv 15 8), (Mv 16 9)] none)
(.seq (.block 0 (.seq (.seq (.reg [(Fav 0 3 18), (Ld 18 19), (Op (.call (some 152) 1) [.m 19] 20), (Op (.un .not) [.m 20] 21), (Mv 21 17)] none)
(.cond 17 (.drop [6, 7, 8] .skip)
(.drop [6, 7, 8, 17] (.seq (.reg [(Fav 1 3 22), (Ld 22 23), (Op (bi .and) [.m 23, .k (.u8 (3 : UInt8))] 24), (Op (bi .gtr) [.m 24, .k (.u8 (2 : UInt8))] 25), (Mv 25 17)] none)
(.cond 17 .skip
(.drop [17] (.reg [(Fav 1 3 26), (Ld 26 27), (Op (bi .geq) [.m 27, .k (.u8 (48 : UInt8))] 28), (Mv 28 17)] none)))))))
(.cut 0 fn16_o0 fn16_p0)))
(.cut 0 fn16_o1 fn16_p1))))
def fn16_w : Orc Tb := mkOrc (Y := Bool) tab [.g (.st 5), iS, iS] [] (fun x h => fn16 (⟨x.1.Text, x.1.Opt⟩ : fn53) x.2.1 x.2.2.1) (fun _ y k => k (.b y) [])
theorem fn16_k : WK fn16_w 129 := orcD (Y := Bool) (c := fn16_p) (res := [.tmp 6]) (n := 49) (R := (RSp.one (Y := Bool) tab (bS) [] (fun a b => a) (fun y => y) (fun y => ()))) fn16_rk oneD Tryz.func129 (cS uC (cS uC (cS (cB (cS uC (cT fn16_q0))) (cT fn16_q1))))
def fn25_r : Orcs Tb := [(129, fn16_w)]
theorem fn25_rk : RK fn25_r := (yv720 fn16_k yv743)
def fn25_p : TCode Tb :=
(.seq (.reg [(Op .box [.m 0] 3), (Op .mv [kf] 4)] none)
(.seq (.reg [(Op (.load (some 2)) [.m 3] 5), (Ld 1 6), (Fam 0 2 7), (Ld 7 8), (Op (.call (some 129) 0) [.m 5, .m 6, .m 8] 9), (Op (.un .not) [.m 9] 10), (Mv 10 4)] none)
.ret))
def fn25_w : Orc Tb := mkOrc (Y := Bool × Int × fn54) tab [.g (.st 5), rS 0 0, rS 1 0] [[iS], hS1] (fun x h => fn25 (⟨x.1.Text, x.1.Opt⟩ : fn53) h.1.1 (tabBk 6 h.2.1 : fn54)) (fun _ y k => k (.b y.1) [[.n .i64 y.2.1], (injL tab hS1 (tabUn 6 y.2.2))])
theorem fn25_k : WK fn25_w 128 := orcD (Y := Bool × Int × fn54) (c := fn25_p) (res := [.tmp 4]) (n := 11) (R := (RSp.one (Y := Bool × Int × fn54) tab (bS) [[iS], hS1] (fun a b => (a, b.1.1, (tabBk 6 b.2.1 : fn54))) (fun y => y.1) (fun y => ((y.2.1, ()), (y.2.2.Kind, y.2.2.Dup, y.2.2.Retain, y.2.2.QoS, y.2.2.Id, y.2.2.Clean, y.2.2.Keep, y.2.2.Client, y.2.2.HasWill, y.2.2.HasUser, y.2.2.HasPass, y.2.2.WillQoS, y.2.2.WillRetain, y.2.2.WillProps, y.2.2.WillTopic, y.2.2.WillLoad, y.2.2.User, y.2.2.Pass, y.2.2.Present, y.2.2.Code, y.2.2.Topic, y.2.2.Load, y.2.2.Filters, y.2.2.Codes, y.2.2.Props, ()), ())))) fn25_rk oneD Tryz.func128 uC
def fn1_r : Orcs Tb := [(128, fn25_w)]
theorem fn1_rk : RK fn1_r := (yv720 fn25_k yv743)
def fn1_p0 : TCode Tb :=
(.seq (.reg [(Op (bi .lss) [.v 8, .v 7] 9)] none)
(.seq (.cond 9 (.drop [9] .skip)
(.drop [0, 1, 7, 8, 9] (.exit 0)))
(.seq (.block 1 (.seq (.reg [(Op .mv [.v 8] 10), (Mv 10 5)] none)
(.seq (.reg [(Op .mv [.v 1] 11), (Op .mv [.v 0] 12), (Op .mv [.v 5] 13), (Op (.ia 2) [.v 12, .m 13] 14), (Op (.load (some 2)) [.m 14] 15), (Op (.call none 0) [.m 11, .m 15] 16)] none)
(.cond 16 (.drop [0, 1, 7, 8, 12, 16] (.seq (.reg [(Mv 5 17), (Mv 17 4)] none)
.ret))
(.drop [5, 12, 16] .skip)))))
(.reg [(Op (bi .add) [.m 8, ki 1] 18), (Mv 18 8)] none))))
def fn1_s0 : SSh := ⟨[(0, lS 5), (1, .g (.clo 128 [] [.ref 0 0, .ref 1 0])), (7, iS), (8, iS)], [[iS], hS1]⟩
def fn1_o0 : Cut Tb := cutL tab 2 fn1_s0 (fun x => (x.1.2.2.2.1, x.2.1.1, (tabBk 6 x.2.2.1 : fn54))) (fun x => fn1_l0 x.1.1 x.1.2.2.1) (fun _ x y k => match y with | .inl y => k .ret ⟨[(4, .n .i64 y.1)], [[.n .i64 y.2.1], (injL tab hS1 (tabUn 6 y.2.2))]⟩ | .inr y => k (.exit 0) ⟨[], [[.n .i64 y.1], (injL tab hS1 (tabUn 6 y.2))]⟩)
theorem fn1_q0 : CK fn1_o0 2 (.loop fn1_p0) := yv752 (c := fn1_p0) (Z := Int × Int × fn54) (Y := (Int × Int × fn54) ⊕ (Int × fn54)) tabOk fn1_rk uC (fun _ x z b e => fn1_b0 x.1.1 x.1.2.2.1 z.1 z.2.1 z.2.2 (fun x6 x7 x8 => b (x6, x7, x8)) (fun y13 y14 y15 => e (.inl (y13, y14, y15))) (fun y16 y17 => e (.inr (y16, y17)))) (fun x z => ⟨[(0, .sl 5 x.1.1), (1, .clo 128 [] [.ref 0 0, .ref 1 0]), (7, .n .i64 x.1.2.2.1), (8, .n .i64 z.1)], [[.n .i64 z.2.1], (injL tab hS1 (tabUn 6 z.2.2))]⟩) (fun x y => match y with | .inl y => (.ret, ⟨[(4, .n .i64 y.1)], [[.n .i64 y.2.1], (injL tab hS1 (tabUn 6 y.2.2))]⟩) | .inr y => ((.exit 0), ⟨[], [[.n .i64 y.1], (injL tab hS1 (tabUn 6 y.2))]⟩)) (fun t => (prjS tab 2 fn1_s0 t).bind fun x => some (x.1.2.2.2.1, x.2.1.1, (tabBk 6 x.2.2.1 : fn54))) (fun e t => (if eqE e .ret then yv543 ((prjS tab 2 ⟨[(4, iS)], [[iS], hS1]⟩ t).bind fun v => some (.inl (v.1.1, v.2.1.1, (tabBk 6 v.2.2.1 : fn54)))) (if eqE e (.exit 0) then (prjS tab 2 ⟨[], [[iS], hS1]⟩ t).bind fun v => some (.inr (v.2.1.1, (tabBk 6 v.2.2.1 : fn54))) else none) else (if eqE e (.exit 0) then (prjS tab 2 ⟨[], [[iS], hS1]⟩ t).bind fun v => some (.inr (v.2.1.1, (tabBk 6 v.2.2.1 : fn54))) else none))) (fun x => by kernel_rfl) (fun x z => by kernel_rfl) (fun x y k => by rcases y with y | y <;> kernel_rfl) (fun x y => by rcases y with y | y <;> exact nofun) (fun x z => by kernel_rfl) (fun x y => by rcases y with y | y <;> kernel_rfl) (fun x z k => by kernel_rfl)
def fn1_p : TCode Tb :=
(.seq (.reg [(Op .mv [ki 0] 4)] none)
(.seq (.seq (.reg [(Op .mv [.v 0] 6), (Op .len [.m 6] 7), (Op .mv [ki 0] 8)] none)
(.block 0 (.drop [4] (.cut 2 fn1_o0 (.loop fn1_p0)))))
(.seq (.reg [(Op .mv [.k (.n .i64 (-1))] 4)] none)
.ret)))
def fn1_w : Orc Tb := mkOrc (Y := Int × Int × fn54) tab [lS 5, .g (.clo 128 [] [.ref 0 0, .ref 1 0])] [[iS], hS1] (fun x h => fn1 x.1 h.1.1 (tabBk 6 h.2.1 : fn54)) (fun _ y k => k (.n .i64 y.1) [[.n .i64 y.2.1], (injL tab hS1 (tabUn 6 y.2.2))])
theorem fn1_k : WK fn1_w 150 := orcD (Y := Int × Int × fn54) (c := fn1_p) (res := [.tmp 4]) (n := 19) (R := (RSp.one (Y := Int × Int × fn54) tab (iS) [[iS], hS1] (fun a b => (a, b.1.1, (tabBk 6 b.2.1 : fn54))) (fun y => y.1) (fun y => ((y.2.1, ()), (y.2.2.Kind, y.2.2.Dup, y.2.2.Retain, y.2.2.QoS, y.2.2.Id, y.2.2.Clean, y.2.2.Keep, y.2.2.Client, y.2.2.HasWill, y.2.2.HasUser, y.2.2.HasPass, y.2.2.WillQoS, y.2.2.WillRetain, y.2.2.WillProps, y.2.2.WillTopic, y.2.2.WillLoad, y.2.2.User, y.2.2.Pass, y.2.2.Present, y.2.2.Code, y.2.2.Topic, y.2.2.Load, y.2.2.Filters, y.2.2.Codes, y.2.2.Props, ()), ())))) fn1_rk oneD Tryz.func150 (cS uC (cS (cS uC (cB (cD (cT fn1_q0)))) uC))
def fn0_r : Orcs Tb := [(150, fn1_w)]
theorem fn0_rk : RK fn0_r := (yv720 fn1_k yv743)
def fn0_p : TCode Tb :=
(.seq (.reg [(Op .mv [kf] 4)] none)
(.seq (.reg [(Mv 0 5), (Mv 1 6), (Op (.call (some 150) 0) [.m 5, .m 6] 7), (Op (bi .geq) [.m 7, ki 0] 8), (Mv 8 4)] none)
.ret))
def fn0_w : Orc Tb := mkOrc (Y := Bool × Int × fn54) tab [lS 5, .g (.clo 128 [] [.ref 0 0, .ref 1 0])] [[iS], hS1] (fun x h => fn0 x.1 h.1.1 (tabBk 6 h.2.1 : fn54)) (fun _ y k => k (.b y.1) [[.n .i64 y.2.1], (injL tab hS1 (tabUn 6 y.2.2))])
theorem fn0_k : WK fn0_w 127 := orcD (Y := Bool × Int × fn54) (c := fn0_p) (res := [.tmp 4]) (n := 9) (R := (RSp.one (Y := Bool × Int × fn54) tab (bS) [[iS], hS1] (fun a b => (a, b.1.1, (tabBk 6 b.2.1 : fn54))) (fun y => y.1) (fun y => ((y.2.1, ()), (y.2.2.Kind, y.2.2.Dup, y.2.2.Retain, y.2.2.QoS, y.2.2.Id, y.2.2.Clean, y.2.2.Keep, y.2.2.Client, y.2.2.HasWill, y.2.2.HasUser, y.2.2.HasPass, y.2.2.WillQoS, y.2.2.WillRetain, y.2.2.WillProps, y.2.2.WillTopic, y.2.2.WillLoad, y.2.2.User, y.2.2.Pass, y.2.2.Present, y.2.2.Code, y.2.2.Topic, y.2.2.Load, y.2.2.Filters, y.2.2.Codes, y.2.2.Props, ()), ())))) fn0_rk oneD Tryz.func127 uC
def fn34_r : Orcs Tb := [(126, fn46_w), (127, fn0_w)]
theorem fn34_rk : RK fn34_r := (yv720 fn46_k (yv720 fn0_k yv743))
def fn34_p : TCode Tb :=
(.seq (.reg [(Op .box [.m 0] 2), (Op .box [.m 1] 3), (Op .mv [kf] 4)] none)
(.seq (.reg [(Fav 22 3 5), (Ld 5 6), (Op .len [.m 6] 7), (Op (.call (some 126) 0) [.m 7] 8), (Mv 8 9), (Yes (.fa 22) [.v 3] 10 9), (Yes ld [.m 10] 11 9), (Yes (.mkf 128 0) [.m 2, .m 3] 12 9), (Yes (.call (some 127) 1) [.m 11, .m 12] 13 9), (Yes (.un .not) [.m 13] 14 9), (Op .pick [.m 9, .m 14, kf] 15), (Mv 15 4)] none)
(.drop [2, 3, 10, 11, 12, 13] .ret)))
def fn34_w : Orc Tb := mkOrc (Y := Bool) tab [iS, .g (.st 6)] [] (fun x h => fn34 x.1 (x.2.1 : fn54)) (fun _ y k => k (.b y) [])
theorem fn34_k : WK fn34_w 91 := orcD (Y := Bool) (c := fn34_p) (res := [.tmp 4]) (n := 16) (R := (RSp.one (Y := Bool) tab (bS) [] (fun a b => a) (fun y => y) (fun y => ()))) fn34_rk oneD Tryz.func91 uC
def fn35_r : Orcs Tb := [(89, fn58_w)]
theorem fn35_rk : RK fn35_r := (yv720 fn58_k yv743)
def fn35_p : TCode Tb :=
(.seq (.reg [(Op .mv [kf] 4)] none)
(.seq (.reg [(Ld 1 5), (Fam 0 2 6), (Ld 6 7), (Mv 0 8), (Op (.call (some 89) 0) [.m 5, .m 7, .m 8] 9), (Op (.un .not) [.m 9] 10), (Mv 10 4)] none)
.ret))
def fn35_w : Orc Tb := mkOrc (Y := Bool × Int × fn54) tab [u8S, rS 0 0, rS 1 0] [[iS], hS1] (fun x h => fn35 x.1 h.1.1 (tabBk 6 h.2.1 : fn54)) (fun _ y k => k (.b y.1) [[.n .i64 y.2.1], (injL tab hS1 (tabUn 6 y.2.2))])
theorem fn35_k : WK fn35_w 131 := orcD (Y := Bool × Int × fn54) (c := fn35_p) (res := [.tmp 4]) (n := 11) (R := (RSp.one (Y := Bool × Int × fn54) tab (bS) [[iS], hS1] (fun a b => (a, b.1.1, (tabBk 6 b.2.1 : fn54))) (fun y => y.1) (fun y => ((y.2.1, ()), (y.2.2.Kind, y.2.2.Dup, y.2.2.Retain, y.2.2.QoS, y.2.2.Id, y.2.2.Clean, y.2.2.Keep, y.2.2.Client, y.2.2.HasWill, y.2.2.HasUser, y.2.2.HasPass, y.2.2.WillQoS, y.2.2.WillRetain, y.2.2.WillProps, y.2.2.WillTopic, y.2.2.WillLoad, y.2.2.User, y.2.2.Pass, y.2.2.Present, y.2.2.Code, y.2.2.Topic, y.2.2.Load, y.2.2.Filters, y.2.2.Codes, y.2.2.Props, ()), ())))) fn35_rk oneD Tryz.func131 uC
def fn8_r : Orcs Tb := [(131, fn35_w)]
theorem fn8_rk : RK fn8_r := (yv720 fn35_k yv743)
def fn8_p0 : TCode Tb :=
(.seq (.reg [(Op (bi .lss) [.v 8, .v 7] 9)] none)
(.seq (.cond 9 (.drop [9] .skip)
(.drop [0, 1, 7, 8, 9] (.exit 0)))
(.seq (.block 1 (.seq (.reg [(Op .mv [.v 8] 10), (Mv 10 5)] none)
(.seq (.reg [(Op .mv [.v 1] 11), (Op .mv [.v 0] 12), (Op .mv [.v 5] 13), (Op (.ia 1) [.v 12, .m 13] 14), (Ld 14 15), (Op (.call none 0) [.m 11, .m 15] 16)] none)
(.cond 16 (.drop [0, 1, 7, 8, 12, 16] (.seq (.reg [(Mv 5 17), (Mv 17 4)] none)
.ret))
(.drop [5, 12, 16] .skip)))))
(.reg [(Op (bi .add) [.m 8, ki 1] 18), (Mv 18 8)] none))))
def fn8_s0 : SSh := ⟨[(0, bsS), (1, .g (.clo 131 [] [.ref 0 0, .ref 1 0])), (7, iS), (8, iS)], [[iS], hS1]⟩
def fn8_o0 : Cut Tb := cutL tab 2 fn8_s0 (fun x => (x.1.2.2.2.1, x.2.1.1, (tabBk 6 x.2.2.1 : fn54))) (fun x => fn8_l0 x.1.1 x.1.2.2.1) (fun _ x y k => match y with | .inl y => k .ret ⟨[(4, .n .i64 y.1)], [[.n .i64 y.2.1], (injL tab hS1 (tabUn 6 y.2.2))]⟩ | .inr y => k (.exit 0) ⟨[], [[.n .i64 y.1], (injL tab hS1 (tabUn 6 y.2))]⟩)
theorem fn8_q0 : CK fn8_o0 2 (.loop fn8_p0) := yv752 (c := fn8_p0) (Z := Int × Int × fn54) (Y := (Int × Int × fn54) ⊕ (Int × fn54)) tabOk fn8_rk uC (fun _ x z b e => fn8_b0 x.1.1 x.1.2.2.1 z.1 z.2.1 z.2.2 (fun x6 x7 x8 => b (x6, x7, x8)) (fun y13 y14 y15 => e (.inl (y13, y14, y15))) (fun y16 y17 => e (.inr (y16, y17)))) (fun x z => ⟨[(0, .bs x.1.1), (1, .clo 131 [] [.ref 0 0, .ref 1 0]), (7, .n .i64 x.1.2.2.1), (8, .n .i64 z.1)], [[.n .i64 z.2.1], (injL tab hS1 (tabUn 6 z.2.2))]⟩) (fun x y => match y with | .inl y => (.ret, ⟨[(4, .n .i64 y.1)], [[.n .i64 y.2.1], (injL tab hS1 (tabUn 6 y.2.2))]⟩) | .inr y => ((.exit 0), ⟨[], [[.n .i64 y.1], (injL tab hS1 (tabUn 6 y.2))]⟩)) (fun t => (prjS tab 2 fn8_s0 t).bind fun x => some (x.1.2.2.2.1, x.2.1.1, (tabBk 6 x.2.2.1 : fn54))) (fun e t => (if eqE e .ret then yv543 ((prjS tab 2 ⟨[(4, iS)], [[iS], hS1]⟩ t).bind fun v => some (.inl (v.1.1, v.2.1.1, (tabBk 6 v.2.2.1 : fn54)))) (if eqE e (.exit 0) then (prjS tab 2 ⟨[], [[iS], hS1]⟩ t).bind fun v => some (.inr (v.2.1.1, (tabBk 6 v.2.2.1 : fn54))) else none) else (if eqE e (.exit 0) then (prjS tab 2 ⟨[], [[iS], hS1]⟩ t).bind fun v => some (.inr (v.2.1.1, (tabBk 6 v.2.2.1 : fn54))) else none))) (fun x => by kernel_rfl) (fun x z => by kernel_rfl) (fun x y k => by rcases y with y | y <;> kernel_rfl) (fun x y => by rcases y with y | y <;> exact nofun) (fun x z => by kernel_rfl) (fun x y => by rcases y with y | y <;> kernel_rfl) (fun x z k => by kernel_rfl)
def fn8_p : TCode Tb :=
(.seq (.reg [(Op .mv [ki 0] 4)] none)
(.seq (.seq (.reg [(Op .mv [.v 0] 6), (Op .len [.m 6] 7), (Op .mv [ki 0] 8)] none)
(.block 0 (.drop [4] (.cut 2 fn8_o0 (.loop fn8_p0)))))
(.seq (.reg [(Op .mv [.k (.n .i64 (-1))] 4)] none)
.ret)))
def fn8_w : Orc Tb := mkOrc (Y := Int × Int × fn54) tab [bsS, .g (.clo 131 [] [.ref 0 0, .ref 1 0])] [[iS], hS1] (fun x h => fn8 x.1 h.1.1 (tabBk 6 h.2.1 : fn54)) (fun _ y k => k (.n .i64 y.1) [[.n .i64 y.2.1], (injL tab hS1 (tabUn 6 y.2.2))])
theorem fn8_k : WK fn8_w 153 := orcD (Y := Int × Int × fn54) (c := fn8_p) (res := [.tmp 4]) (n := 19) (R := (RSp.one (Y := Int × Int × fn54) tab (iS) [[iS], hS1] (fun a b => (a, b.1.1, (tabBk 6 b.2.1 : fn54))) (fun y => y.1) (fun y => ((y.2.1, ()), (y.2.2.Kind, y.2.2.Dup, y.2.2.Retain, y.2.2.QoS, y.2.2.Id, y.2.2.Clean, y.2.2.Keep, y.2.2.Client, y.2.2.HasWill, y.2.2.HasUser, y.2.2.HasPass, y.2.2.WillQoS, y.2.2.WillRetain, y.2.2.WillProps, y.2.2.WillTopic, y.2.2.WillLoad, y.2.2.User, y.2.2.Pass, y.2.2.Present, y.2.2.Code, y.2.2.Topic, y.2.2.Load, y.2.2.Filters, y.2.2.Codes, y.2.2.Props, ()), ())))) fn8_rk oneD Tryz.func153 (cS uC (cS (cS uC (cB (cD (cT fn8_q0)))) uC))
def fn5_r : Orcs Tb := [(153, fn8_w)]
theorem fn5_rk : RK fn5_r := (yv720 fn8_k yv743)
def fn5_p : TCode Tb :=
(.seq (.reg [(Op .mv [kf] 4)] none)
(.seq (.reg [(Mv 0 5), (Mv 1 6), (Op (.call (some 153) 0) [.m 5, .m 6] 7), (Op (bi .geq) [.m 7, ki 0] 8), (Mv 8 4)] none)
.ret))
def fn5_w : Orc Tb := mkOrc (Y := Bool × Int × fn54) tab [bsS, .g (.clo 131 [] [.ref 0 0, .ref 1 0])] [[iS], hS1] (fun x h => fn5 x.1 h.1.1 (tabBk 6 h.2.1 : fn54)) (fun _ y k => k (.b y.1) [[.n .i64 y.2.1], (injL tab hS1 (tabUn 6 y.2.2))])
theorem fn5_k : WK fn5_w 130 := orcD (Y := Bool × Int × fn54) (c := fn5_p) (res := [.tmp 4]) (n := 9) (R := (RSp.one (Y := Bool × Int × fn54) tab (bS) [[iS], hS1] (fun a b => (a, b.1.1, (tabBk 6 b.2.1 : fn54))) (fun y => y.1) (fun y => ((y.2.1, ()), (y.2.2.Kind, y.2.2.Dup, y.2.2.Retain, y.2.2.QoS, y.2.2.Id, y.2.2.Clean, y.2.2.Keep, y.2.2.Client, y.2.2.HasWill, y.2.2.HasUser, y.2.2.HasPass, y.2.2.WillQoS, y.2.2.WillRetain, y.2.2.WillProps, y.2.2.WillTopic, y.2.2.WillLoad, y.2.2.User, y.2.2.Pass, y.2.2.Present, y.2.2.Code, y.2.2.Topic, y.2.2.Load, y.2.2.Filters, y.2.2.Codes, y.2.2.Props, ()), ())))) fn5_rk oneD Tryz.func130 uC
def fn61_r : Orcs Tb := [(126, fn46_w), (130, fn5_w)]
theorem fn61_rk : RK fn61_r := (yv720 fn46_k (yv720 fn5_k yv743))
def fn61_p0 : TCode Tb :=
(.seq (.reg [(Fav 23 3 16), (Ld 16 17), (Op .len [.m 17] 18), (Op (.call (some 126) 0) [.m 18] 19), (Mv 19 20), (Yes (.fa 23) [.v 3] 21 20), (Yes ld [.m 21] 22 20), (Yes (.mkf 131 0) [.m 2, .m 3] 23 20), (Yes (.call (some 130) 1) [.m 22, .m 23] 24 20), (Yes (.un .not) [.m 24] 25 20), (Op .pick [.m 20, .m 25, kf] 26), (Mv 26 4)] none)
(.drop [2, 3, 21, 22, 23, 24] .ret))
def fn61_s0 : SSh := ⟨[(2, rS 0 0), (3, rS 1 0)], [[iS], hS1]⟩
def fn61_o0 : Cut Tb := cutJ tab 0 fn61_s0 (fun _ x k => fn61_c0 x.2.1.1 (tabBk 6 x.2.2.1 : fn54) (fun y9 y10 y11 => k .ret ⟨[(4, .b y9)], [[.n .i64 y10], (injL tab hS1 (tabUn 6 y11))]⟩))
theorem fn61_q0 : CK fn61_o0 0 fn61_p0 := cutJD fn61_rk uC
def fn61_p : TCode Tb :=
(.seq (.reg [(Op .box [.m 0] 2), (Op .box [.m 1] 3), (Op .mv [kf] 4)] none)
(.seq (.seq (.reg [(Op ld [.v 2] 5), (Op (bi .eql) [.m 5, ki 4] 6), (Mv 6 7), (Yes (.fa 0) [.v 3] 8 7), (Yes ld [.m 8] 9 7), (Yes (bi .eql) [.m 9, ki 11] 10 7), (Op .pick [.m 7, .m 10, kf] 11)] none)
(.drop [4, 8, 9] (.cond 11 (.drop [2, 11] (.seq (.reg [(Fam 23 3 12), (Ld 12 13), (Op .len [.m 13] 14), (Op (bi .eql) [.m 14, ki 0] 15), (Mv 15 4)] none)
.ret))
(.drop [11] .skip))))
(.cut 0 fn61_o0 fn61_p0)))
def fn61_w : Orc Tb := mkOrc (Y := Bool) tab [iS, .g (.st 6)] [] (fun x h => fn61 x.1 (x.2.1 : fn54)) (fun _ y k => k (.b y) [])
theorem fn61_k : WK fn61_w 92 := orcD (Y := Bool) (c := fn61_p) (res := [.tmp 4]) (n := 27) (R := (RSp.one (Y := Bool) tab (bS) [] (fun a b => a) (fun y => y) (fun y => ()))) fn61_rk oneD Tryz.func92 (cS uC (cS uC (cT fn61_q0)))
def fn93_r : Orcs Tb := [(88, fn32_w), (89, fn58_w), (90, fn33_w), (91, fn34_w), (92, fn61_w), (87, fn108_w)]
theorem fn93_rk : RK fn93_r := (yv720 fn32_k (yv720 fn58_k (yv720 fn33_k (yv720 fn34_k (yv720 fn61_k (yv720 fn108_k yv743))))))
def fn93_p2 : TCode Tb :=
(.cond 59 (.drop [0, 3, 8, 59] (.seq (.reg [(Op .mv [kt] 4)] none)
.ret))
(.drop [59] (.seq (.reg [(Op (bi .eql) [.v 8, ki 14] 63), (Mv 63 62)] none)
(.cond 62 (.drop [8, 62] (.seq (.reg [(Mv 0 64), (Fav 0 3 65), (Ld 65 66), (Fam 19 3 67), (Ld 67 68), (Op (.call (some 89) 1) [.m 64, .m 66, .m 68] 69), (Mv 69 4)] none)
.ret))
(.drop [62] (.seq (.reg [(Op (bi .eql) [.m 8, ki 15] 71), (Mv 71 70)] none)
(.cond 70 (.drop [70] (.seq (.reg [(Fav 24 3 73), (Ld 73 74), (Op (.call (some 87) 5) [.m 74, .k (.u8 (21 : UInt8))] 75), (Mv 75 72), (Op .extm [.c 72 0] 76), (Op (.ext 1) [.m 72] 77), (Op (.alloc [.u8 (0 : UInt8), .u32 (0 : UInt32), .s [], .s []]) [] 5), (Do (.store 4) [.m 5, .m 76]), (Mv 77 6)] none)
(.seq (.reg [(Mv 0 78), (Fav 0 3 79), (Ld 79 80), (Fam 19 3 81), (Ld 81 82), (Op (.call (some 89) 1) [.m 78, .m 80, .m 82] 83), (Mv 83 84), (Yes .mv [.m 6] 85 84), (Op .pick [.m 84, .m 85, kf] 86), (Mv 86 4)] none)
(.drop [6] .ret))))
(.drop [70] .skip))))))))
def fn93_s2 : SSh := ⟨[(0, iS), (3, rS 0 0), (8, iS), (59, bS)], [hS1]⟩
def fn93_o2 : Cut Tb := cutJ tab 0 fn93_s2 (fun _ x k => fn93_c2 x.1.1 x.1.2.2.1 x.1.2.2.2.1 (tabBk 6 x.2.1 : fn54) (fun y24 => k .ret ⟨[(4, .b y24)], [(injL tab hS1 x.2.1)]⟩) (fun y25 y26 => k .ret ⟨[(4, .b y25)], [(injL tab hS1 x.2.1), [.u8 y26.Id, .u32 y26.N, .s y26.A, .s y26.B]]⟩) (k .normal ⟨[(0, .n .i64 x.1.1), (3, .ref 0 0)], [(injL tab hS1 x.2.1)]⟩))
theorem fn93_q2 : CK fn93_o2 0 fn93_p2 := cutJD fn93_rk uC
def fn93_p1 : TCode Tb :=
(.cond 48 (.drop [8, 48] (.seq (.reg [(Fav 4 3 51), (Ld 51 52), (Op (bi .neq) [.m 52, .k (.u16 (0 : UInt16))] 53), (Mv 53 54), (Yes .mv [.m 0] 55 54), (Yes (.load (some 25)) [.m 3] 56 54), (Yes (.call (some 92) 4) [.m 55, .m 56] 57 54), (Op .pick [.m 54, .m 57, kf] 58), (Mv 58 4)] none)
(.drop [0, 3, 55, 56] .ret)))
(.drop [48] (.seq (.seq (.reg [(Op (bi .eql) [.v 8, ki 12] 60), (Mv 60 59)] none)
(.cond 59 .skip
(.drop [59] (.reg [(Op (bi .eql) [.v 8, ki 13] 61), (Mv 61 59)] none))))
(.cut 0 fn93_o2 fn93_p2))))
def fn93_s1 : SSh := ⟨[(0, iS), (3, rS 0 0), (8, iS), (48, bS)], [hS1]⟩
def fn93_o1 : Cut Tb := cutJ tab 0 fn93_s1 (fun _ x k => fn93_c1 x.1.1 x.1.2.2.1 x.1.2.2.2.1 (tabBk 6 x.2.1 : fn54) (fun y33 => k .ret ⟨[(4, .b y33)], [(injL tab hS1 x.2.1)]⟩) (fun y34 y35 => k .ret ⟨[(4, .b y34)], [(injL tab hS1 x.2.1), [.u8 y35.Id, .u32 y35.N, .s y35.A, .s y35.B]]⟩) (k .normal ⟨[(0, .n .i64 x.1.1), (3, .ref 0 0)], [(injL tab hS1 x.2.1)]⟩))
theorem fn93_q1 : CK fn93_o1 0 fn93_p1 := cutJD fn93_rk (cC uC (cD (cS uC (cT fn93_q2))))
def fn93_p0 : TCode Tb :=
(.cond 37 (.drop [8, 37] (.seq (.reg [(Fav 4 3 40), (Ld 40 41), (Op (bi .neq) [.m 41, .k (.u16 (0 : UInt16))] 42), (Mv 42 43), (Yes .mv [.m 0] 44 43), (Yes (.load (some 25)) [.m 3] 45 43), (Yes (.call (some 91) 3) [.m 44, .m 45] 46 43), (Op .pick [.m 43, .m 46, kf] 47), (Mv 47 4)] none)
(.drop [0, 3, 44, 45] .ret)))
(.drop [37] (.seq (.seq (.reg [(Op (bi .eql) [.v 8, ki 9] 49), (Mv 49 48)] none)
(.cond 48 .skip
(.drop [48] (.reg [(Op (bi .eql) [.v 8, ki 11] 50), (Mv 50 48)] none))))
(.cut 0 fn93_o1 fn93_p1))))
def fn93_s0 : SSh := ⟨[(0, iS), (3, rS 0 0), (8, iS), (37, bS)], [hS1]⟩
def fn93_o0 : Cut Tb := cutJ tab 0 fn93_s0 (fun _ x k => fn93_c0 x.1.1 x.1.2.2.1 x.1.2.2.2.1 (tabBk 6 x.2.1 : fn54) (fun y42 => k .ret ⟨[(4, .b y42)], [(injL tab hS1 x.2.1)]⟩) (fun y43 y44 => k .ret ⟨[(4, .b y43)], [(injL tab hS1 x.2.1), [.u8 y44.Id, .u32 y44.N, .s y44.A, .s y44.B]]⟩) (k .normal ⟨[(0, .n .i64 x.1.1), (3, .ref 0 0)], [(injL tab hS1 x.2.1)]⟩))
theorem fn93_q0 : CK fn93_o0 0 fn93_p0 := cutJD fn93_rk (cC uC (cD (cS uC (cT fn93_q1))))
def fn93_p3 : TCode Tb :=
(.seq (.reg [(Fav 4 3 87), (Ld 87 88), (Op (bi .neq) [.m 88, .k (.u16 (0 : UInt16))] 89), (Mv 89 90), (Yes .mv [.m 0] 91 90), (Yes (.fa 0) [.v 3] 92 90), (Yes ld [.m 92] 93 90), (Yes (.fa 19) [.m 3] 94 90), (Yes ld [.m 94] 95 90), (Yes (.call (some 89) 1) [.m 91, .m 93, .m 95] 96 90), (Op .pick [.m 90, .m 96, kf] 97), (Mv 97 4)] none)
(.drop [0, 3, 91, 92, 93, 94, 95] .ret))
def fn93_s3 : SSh := ⟨[(0, iS), (3, rS 0 0)], [hS1]⟩
def fn93_o3 : Cut Tb := cutJ tab 0 fn93_s3 (fun _ x k => fn93_c3 x.1.1 (tabBk 6 x.2.1 : fn54) (fun y54 => k .ret ⟨[(4, .b y54)], [(injL tab hS1 x.2.1)]⟩))
theorem fn93_q3 : CK fn93_o3 0 fn93_p3 := cutJD fn93_rk uC
def fn93_p : TCode Tb :=
(.seq (.reg [(Op .box [.m 1] 3), (Op .mv [kf] 4)] none)
(.seq (.seq (.reg [(Fav 0 3 7), (Ld 7 8)] none)
(.block 0 (.seq (.reg [(Op (bi .eql) [.v 8, ki 1] 10), (Mv 10 9)] none)
(.cond 9 (.drop [4, 8, 9] (.seq (.reg [(Mv 0 11), (Op (.load (some 25)) [.m 3] 12), (Op (.call (some 88) 0) [.m 11, .m 12] 13), (Mv 13 4)] none)
.ret))
(.drop [4, 9] (.seq (.reg [(Op (bi .eql) [.v 8, ki 2] 15), (Mv 15 14)] none)
(.cond 14 (.drop [8, 14] (.seq (.reg [(Mv 0 16), (Fav 0 3 17), (Ld 17 18), (Fav 19 3 19), (Ld 19 20), (Op (.call (some 89) 1) [.m 16, .m 18, .m 20] 21), (Mv 21 22), (Yes (.fa 18) [.v 3] 23 22), (Yes ld [.m 23] 24 22), (Yes (.un .not) [.m 24] 25 22), (Yes .mv [.m 25] 26 22), (No (.fa 19) [.m 3] 27 26), (No ld [.m 27] 28 26), (No (bi .eql) [.m 28, .k (.u8 (0 : UInt8))] 29 26), (Yes .pick [.m 26, kt, .m 29] 30 22), (Op .pick [.m 22, .m 30, kf] 31), (Mv 31 4)] none)
(.drop [3, 23, 24, 25, 26, 27, 28, 29] .ret)))
(.drop [14] (.seq (.reg [(Op (bi .eql) [.v 8, ki 3] 33), (Mv 33 32)] none)
(.cond 32 (.drop [8, 32] (.seq (.reg [(Mv 0 34), (Op (.load (some 25)) [.m 3] 35), (Op (.call (some 90) 2) [.m 34, .m 35] 36), (Mv 36 4)] none)
.ret))
(.drop [32] (.seq (.seq (.reg [(Op (bi .eql) [.v 8, ki 8] 38), (Mv 38 37)] none)
(.cond 37 .skip
(.drop [37] (.reg [(Op (bi .eql) [.v 8, ki 10] 39), (Mv 39 37)] none))))
(.cut 0 fn93_o0 fn93_p0)))))))))))))
(.cut 0 fn93_o3 fn93_p3)))
def fn93_w : Orc Tb := mkOrc (Y := Bool) tab [iS, .g (.st 6)] [] (fun x h => fn93 x.1 (x.2.1 : fn54)) (fun _ y k => k (.b y) [])
theorem fn93_k : WK fn93_w 43 := orcD (Y := Bool) (c := fn93_p) (res := [.tmp 4]) (n := 98) (R := (RSp.one (Y := Bool) tab (bS) [] (fun a b => a) (fun y => y) (fun y => ()))) fn93_rk oneD Tryz.func43 (cS uC (cS (cS uC (cB (cS uC (cC uC (cD (cS uC (cC uC (cD (cS uC (cC uC (cD (cS uC (cT fn93_q0))))))))))))) (cT fn93_q3)))
def fn14_r : Orcs Tb := []
theorem fn14_rk : RK fn14_r := yv743
def fn14_p : TCode Tb :=
(.seq (.reg [(Op .mv [.k (.nilS)] 2)] none)
(.seq (.seq (.reg [(Op .mv [.v 0] 3), (Op (.bin .eql .sl) [.v 3, .k (.nilS)] 4)] none)
(.cond 4 (.drop [0, 2, 3, 4] (.seq (.reg [(Op .mv [.k (.nilS)] 2)] none)
.ret))
(.drop [2, 3, 4] .skip)))
(.seq (.reg [(Op (.b8 0 []) [] 5), (Mv 0 6), (Op (.app 1 1) [.m 5, .m 6] 7), (Mv 7 2)] none)
.ret)))
def fn14_w : Orc Tb := mkOrc (Y := (Option (List UInt8))) tab [bsS] [] (fun x h => fn14 x.1) (fun _ y k => k (.bo y) [])
theorem fn14_k : WK fn14_w 105 := orcD (Y := (Option (List UInt8))) (c := fn14_p) (res := [.tmp 2]) (n := 8) (R := (RSp.one (Y := (Option (List UInt8))) tab (boS) [] (fun a b => a) (fun y => y) (fun y => ()))) fn14_rk oneD Tryz.func105 uC
def fn109_r : Orcs Tb := [(105, fn14_w)]
theorem fn109_rk : RK fn109_r := (yv720 fn14_k yv743)
def fn109_p : TCode Tb :=
(.seq (.reg [(Op .mv [.k (.nilS)] 4)] none)
(.seq (.reg [(Mv 0 5), (Op (.call (some 105) 0) [.m 5] 6), (Mv 1 7), (Op (.b8 1 [0]) [.m 7] 8), (Op (.app 1 1) [.m 6, .m 8] 9), (Mv 9 4)] none)
.ret))
def fn109_w : Orc Tb := mkOrc (Y := (Option (List UInt8))) tab [bsS, u8S] [] (fun x h => fn109 x.1 x.2.1) (fun _ y k => k (.bo y) [])
theorem fn109_k : WK fn109_w 108 := orcD (Y := (Option (List UInt8))) (c := fn109_p) (res := [.tmp 4]) (n := 10) (R := (RSp.one (Y := (Option (List UInt8))) tab (boS) [] (fun a b => a) (fun y => y) (fun y => ()))) fn109_rk oneD Tryz.func108 uC
def fn134_r : Orcs Tb := [(105, fn14_w)]
theorem fn134_rk : RK fn134_r := (yv720 fn14_k yv743)
def fn134_p : TCode Tb :=
(.seq (.reg [(Op .mv [.k (.nilS)] 4)] none)
(.seq (.reg [(Mv 0 5), (Op (.call (some 105) 0) [.m 5] 6), (Op .mv [.v 1] 7), (Op (bi .shr) [.m 7, .k (.u64 (8 : UInt64))] 8), (Op (.cint .u8) [.m 8] 9), (Mv 1 10), (Op (.cint .u8) [.m 10] 11), (Op (.b8 2 [0, 1]) [.m 9, .m 11] 12), (Op (.app 1 1) [.m 6, .m 12] 13), (Mv 13 4)] none)
.ret))
def fn134_w : Orc Tb := mkOrc (Y := (Option (List UInt8))) tab [bsS, u16S] [] (fun x h => fn134 x.1 x.2.1) (fun _ y k => k (.bo y) [])
theorem fn134_k : WK fn134_w 111 := orcD (Y := (Option (List UInt8))) (c := fn134_p) (res := [.tmp 4]) (n := 14) (R := (RSp.one (Y := (Option (List UInt8))) tab (boS) [] (fun a b => a) (fun y => y) (fun y => ()))) fn134_rk oneD Tryz.func111 uC
def fn110_r : Orcs Tb := [(111, fn134_w)]
theorem fn110_rk : RK fn110_r := (yv720 fn134_k yv743)
def fn110_p : TCode Tb :=
(.seq (.reg [(Op .mv [.k (.nilS)] 4)] none)
(.seq (.reg [(Mv 0 5), (Op .mv [.v 1] 6), (Op (bi .shr) [.m 6, .k (.u64 (16 : UInt64))] 7), (Op (.cint .u16) [.m 7] 8), (Op (.call (some 111) 0) [.m 5, .m 8] 9), (Mv 1 10), (Op (.cint .u16) [.m 10] 11), (Op (.call (some 111) 0) [.m 9, .m 11] 12), (Mv 12 4)] none)
.ret))
def fn110_w : Orc Tb := mkOrc (Y := (Option (List UInt8))) tab [bsS, u32S] [] (fun x h => fn110 x.1 x.2.1) (fun _ y k => k (.bo y) [])
theorem fn110_k : WK fn110_w 172 := orcD (Y := (Option (List UInt8))) (c := fn110_p) (res := [.tmp 4]) (n := 13) (R := (RSp.one (Y := (Option (List UInt8))) tab (boS) [] (fun a b => a) (fun y => y) (fun y => ()))) fn110_rk oneD Tryz.func172 uC
def fn135_r : Orcs Tb := [(105, fn14_w)]
theorem fn135_rk : RK fn135_r := (yv720 fn14_k yv743)
def fn135_p0 : TCode Tb :=
(.seq (.seq (.reg [(Op .mv [.v 1] 11), (Op (bi .geq) [.m 11, .k (.u32 (128 : UInt32))] 12)] none)
(.cond 12 (.drop [12] .skip)
(.drop [12] (.exit 0))))
(.seq (.block 1 (.reg [(Mv 5 15), (Op .mv [.v 1] 16), (Op (.cint .u8) [.m 16] 17), (Op (bi .or) [.m 17, .k (.u8 (128 : UInt8))] 18), (Op (.b8 1 [0]) [.m 18] 19), (Op (.app 1 1) [.m 15, .m 19] 20), (Mv 20 5)] none))
(.reg [(Mv 1 13), (Op (bi .shr) [.m 13, .k (.u64 (7 : UInt64))] 14), (Mv 14 1)] none)))
def fn135_s0 : SSh := ⟨[(1, u32S), (5, boS)], []⟩
def fn135_o0 : Cut Tb := cutL tab 0 fn135_s0 (fun x => (x.1.1, x.1.2.1)) (fun x => fn135_l0) (fun _ x y k => k (.exit 0) ⟨[(1, .u32 y.1), (5, .bo y.2)], []⟩)
theorem fn135_q0 : CK fn135_o0 0 (.loop fn135_p0) := cutLD (Z := UInt32 × (Option (List UInt8))) (Y := UInt32 × (Option (List UInt8))) fn135_rk uC (fun _ x z b e => fn135_b0 z.1 z.2 (fun x4 x5 => b (x4, x5)) (fun y7 y8 => e (y7, y8))) (fun x z => ⟨[(1, .u32 z.1), (5, .bo z.2)], []⟩) (fun x y => ((.exit 0), ⟨[(1, .u32 y.1), (5, .bo y.2)], []⟩)) (fun t => (prjS tab 0 fn135_s0 t).bind fun x => some (x.1.1, x.1.2.1)) (fun e t => (if eqE e (.exit 0) then (prjS tab 0 ⟨[(1, u32S), (5, boS)], []⟩ t).bind fun v => some (v.1.1, v.1.2.1) else none))
def fn135_p : TCode Tb :=
(.seq (.reg [(Op .mv [.k (.nilS)] 4)] none)
(.seq (.reg [(Mv 0 6), (Op (.call (some 105) 0) [.m 6] 7), (Mv 7 5)] none)
(.seq (.seq (.reg [(Op .mv [.v 1] 8), (Op (bi .gtr) [.m 8, .k (.u32 (268435455 : UInt32))] 9)] none)
(.cond 9 (.drop [1, 4, 9] (.seq (.reg [(Mv 5 10), (Mv 10 4)] none)
.ret))
(.drop [4, 9] .skip)))
(.seq (.block 0 (.cut 0 fn135_o0 (.loop fn135_p0)))
(.seq (.reg [(Mv 5 21), (Mv 1 22), (Op (.cint .u8) [.m 22] 23), (Op (.b8 1 [0]) [.m 23] 24), (Op (.app 1 1) [.m 21, .m 24] 25), (Mv 25 4)] none)
.ret)))))
def fn135_w : Orc Tb := mkOrc (Y := (Option (List UInt8))) tab [bsS, u32S] [] (fun x h => fn135 x.1 x.2.1) (fun _ y k => k (.bo y) [])
theorem fn135_k : WK fn135_w 65 := orcD (Y := (Option (List UInt8))) (c := fn135_p) (res := [.tmp 4]) (n := 26) (R := (RSp.one (Y := (Option (List UInt8))) tab (boS) [] (fun a b => a) (fun y => y) (fun y => ()))) fn135_rk oneD Tryz.func65 (cS uC (cS uC (cS uC (cS (cB (cT fn135_q0)) uC))))
def fn136_r : Orcs Tb := [(105, fn14_w), (111, fn134_w)]
theorem fn136_rk : RK fn136_r := (yv720 fn14_k (yv720 fn134_k yv743))
def fn136_p : TCode Tb :=
(.seq (.reg [(Op .mv [.k (.nilS)] 4)] none)
(.seq (.seq (.reg [(Op .mv [.v 1] 5), (Op .lens [.m 5] 6), (Op (bi .gtr) [.m 6, ki 65535] 7)] none)
(.cond 7 (.drop [1, 4, 7] (.seq (.reg [(Mv 0 8), (Op (.call (some 105) 0) [.m 8] 9), (Mv 9 4)] none)
.ret))
(.drop [4, 7] .skip)))
(.seq (.reg [(Mv 0 10), (Op .mv [.v 1] 11), (Op .lens [.m 11] 12), (Op (.cint .u16) [.m 12] 13), (Op (.call (some 111) 1) [.m 10, .m 13] 14), (Mv 1 15), (Op .apps [.m 14, .m 15] 16), (Mv 16 4)] none)
.ret)))
def fn136_w : Orc Tb := mkOrc (Y := (Option (List UInt8))) tab [bsS, sS] [] (fun x h => fn136 x.1 x.2.1) (fun _ y k => k (.bo y) [])
theorem fn136_k : WK fn136_w 139 := orcD (Y := (Option (List UInt8))) (c := fn136_p) (res := [.tmp 4]) (n := 17) (R := (RSp.one (Y := (Option (List UInt8))) tab (boS) [] (fun a b => a) (fun y => y) (fun y => ()))) fn136_rk oneD Tryz.func139 uC
def fn111_r : Orcs Tb := [(118, fn107_w), (108, fn109_w), (111, fn134_w), (172, fn110_w), (65, fn135_w), (139, fn136_w)]
theorem fn111_rk : RK fn111_r := (yv720 fn107_k (yv720 fn109_k (yv720 fn134_k (yv720 fn110_k (yv720 fn135_k (yv720 fn136_k yv743))))))
def fn111_p : TCode Tb :=
(.seq (.reg [(Op .box [.m 1] 3), (Op .mv [.k (.nilS)] 4)] none)
(.seq (.reg [(Mv 0 5), (Fav 0 3 6), (Ld 6 7), (Op (.b8 1 [0]) [.m 7] 8), (Op (.app 1 1) [.m 5, .m 8] 9), (Mv 9 0)] none)
(.seq (.seq (.reg [(Fav 0 3 10), (Ld 10 11), (Op (.call (some 118) 0) [.m 11] 12)] none)
(.block 0 (.seq (.reg [(Op (bi .eql) [.v 12, ki 1] 14), (Mv 14 13)] none)
(.cond 13 (.drop [4, 12, 13] (.seq (.reg [(Mv 0 15), (Fam 1 3 16), (Ld 16 17), (Op (.cint .u8) [.m 17] 18), (Op (.call (some 108) 1) [.m 15, .m 18] 19), (Mv 19 4)] none)
.ret))
(.drop [4, 13] (.seq (.reg [(Op (bi .eql) [.v 12, ki 2] 21), (Mv 21 20)] none)
(.cond 20 (.drop [12, 20] (.seq (.reg [(Mv 0 22), (Fam 1 3 23), (Ld 23 24), (Op (.cint .u16) [.m 24] 25), (Op (.call (some 111) 2) [.m 22, .m 25] 26), (Mv 26 4)] none)
.ret))
(.drop [20] (.seq (.reg [(Op (bi .eql) [.v 12, ki 3] 28), (Mv 28 27)] none)
(.cond 27 (.drop [12, 27] (.seq (.reg [(Mv 0 29), (Fam 1 3 30), (Ld 30 31), (Op (.call (some 172) 3) [.m 29, .m 31] 32), (Mv 32 4)] none)
.ret))
(.drop [27] (.seq (.reg [(Op (bi .eql) [.v 12, ki 4] 34), (Mv 34 33)] none)
(.cond 33 (.drop [12, 33] (.seq (.reg [(Mv 0 35), (Fam 1 3 36), (Ld 36 37), (Op (.call (some 65) 4) [.m 35, .m 37] 38), (Mv 38 4)] none)
.ret))
(.drop [33] (.seq (.reg [(Op (bi .eql) [.m 12, ki 7] 40), (Mv 40 39)] none)
(.cond 39 (.drop [39] (.seq (.reg [(Mv 0 41), (Fav 2 3 42), (Ld 42 43), (Op (.call (some 139) 5) [.m 41, .m 43] 44), (Fav 3 3 45), (Ld 45 46), (Op (.call (some 139) 5) [.m 44, .m 46] 47), (Mv 47 4)] (some [[], [], [], [], [], [2, 3], [], []]))
.ret))
(.drop [39] .skip)))))))))))))))))
(.seq (.reg [(Mv 0 48), (Fam 2 3 49), (Ld 49 50), (Op (.call (some 139) 5) [.m 48, .m 50] 51), (Mv 51 4)] none)
.ret))))
def fn111_w : Orc Tb := mkOrc (Y := (Option (List UInt8))) tab [boS, .g (.st 4)] [] (fun x h => fn111 x.1 (x.2.1 : fn132)) (fun _ y k => k (.bo y) [])
theorem fn111_k : WK fn111_w 163 := orcD (Y := (Option (List UInt8))) (c := fn111_p) (res := [.tmp 4]) (n := 52) (R := (RSp.one (Y := (Option (List UInt8))) tab (boS) [] (fun a b => a) (fun y => y) (fun y => ()))) fn111_rk oneD Tryz.func163 uC
def fn48_r : Orcs Tb := [(117, fn87_w), (163, fn111_w)]
theorem fn48_rk : RK fn48_r := (yv720 fn87_k (yv720 fn111_k yv743))
def fn48_s1 : SSh := ⟨[(4, boS), (7, lS 4), (8, iS), (9, iS)], []⟩
def fn48_o1 : Cut Tb := cutJ tab 0 fn48_s1 (fun _ x k => k .normal ⟨[(4, .bo x.1.1), (7, .sl 4 x.1.2.1), (8, .n .i64 x.1.2.2.1), (9, .n .i64 x.1.2.2.2.1)], []⟩)
theorem fn48_q1 : CK fn48_o1 0 .skip := yv751 (c := .skip) tabOk fn48_rk trivial (fun _ _ => by kernel_rfl)
def fn48_p0 : TCode Tb :=
(.fin 0 fn48_o1 (.seq (.reg [(Op (bi .lss) [.v 9, .v 8] 10)] none)
(.seq (.cond 10 (.drop [10] .skip)
(.drop [7, 8, 9, 10] (.exit 0)))
(.seq (.block 1 (.seq (.reg [(Op (.ia 4) [.v 7, .v 9] 11), (Op (.load (some 4)) [.m 11] 12), (Op (.alloc [.u8 (0 : UInt8), .u32 (0 : UInt32), .s [], .s []]) [] 6), (Do (.store 4) [.v 6, .m 12])] none)
(.seq (.seq (.reg [(Op (.load (some 4)) [.v 6] 13), (Op (.call (some 117) 0) [.m 13] 14), (Op (.un .not) [.m 14] 15)] none)
(.cond 15 (.drop [4, 6, 7, 8, 9, 15] (.seq (.reg [(Op .mv [.k (.nilS)] 2), (Op .mv [kf] 3)] none)
.ret))
(.drop [15] .skip)))
(.reg [(Mv 4 16), (Op (.load (some 4)) [.m 6] 17), (Op (.call (some 163) 1) [.m 16, .m 17] 18), (Mv 18 4)] none))))
(.reg [(Op (bi .add) [.m 9, ki 1] 19), (Mv 19 9)] none)))))
def fn48_s0 : SSh := ⟨[(4, boS), (7, lS 4), (8, iS), (9, iS)], []⟩
def fn48_o0 : Cut Tb := cutL tab 0 fn48_s0 (fun x => (x.1.1, x.1.2.2.2.1)) (fun x => fn48_l0 x.1.2.1 x.1.2.2.1) (fun _ x y k => match y with | .inl y => k .ret ⟨[(2, .nilS), (3, .b false)], [[.u8 y.Id, .u32 y.N, .s y.A, .s y.B]]⟩ | .inr y => k (.exit 0) ⟨[(4, .bo y)], []⟩)
theorem fn48_q0 : CK fn48_o0 0 (.loop fn48_p0) := yv752 (c := fn48_p0) (Z := (Option (List UInt8)) × Int) (Y := fn132 ⊕ ((Option (List UInt8)))) tabOk fn48_rk (cF fn48_q1 uC) (fun _ x z b e => fn48_b0 x.1.2.1 x.1.2.2.1 z.1 z.2 (fun x2 x5 => b (x2, x5)) (fun y13 => e (.inl y13)) (fun y14 => e (.inr y14))) (fun x z => ⟨[(4, .bo z.1), (7, .sl 4 x.1.2.1), (8, .n .i64 x.1.2.2.1), (9, .n .i64 z.2)], []⟩) (fun x y => match y with | .inl y => (.ret, ⟨[(2, .nilS), (3, .b false)], [[.u8 y.Id, .u32 y.N, .s y.A, .s y.B]]⟩) | .inr y => ((.exit 0), ⟨[(4, .bo y)], []⟩)) (fun t => (prjS tab 0 fn48_s0 t).bind fun x => some (x.1.1, x.1.2.2.2.1)) (fun e t => (if eqE e .ret then yv543 ((prjS tab 0 ⟨[(2, bsS), (3, .g (.f (.cb false)))], [[u8S, u32S, sS, sS]]⟩ t).bind fun v => some (.inl (tabBk 4 v.2.1 : fn132))) (if eqE e (.exit 0) then (prjS tab 0 ⟨[(4, boS)], []⟩ t).bind fun v => some (.inr v.1.1) else none) else (if eqE e (.exit 0) then (prjS tab 0 ⟨[(4, boS)], []⟩ t).bind fun v => some (.inr v.1.1) else none))) (fun x => by kernel_rfl) (fun x z => by kernel_rfl) (fun x y k => by rcases y with y | y <;> kernel_rfl) (fun x y => by rcases y with y | y <;> exact nofun) (fun x z => by kernel_rfl) (fun x y => by rcases y with y | y <;> kernel_rfl) (fun x z k => by kernel_rfl)
def fn48_p : TCode Tb :=
(.seq (.reg [(Op .mv [.k (.nilS)] 2), (Op .mv [kf] 3)] none)
(.seq (.reg [(Op .mv [.k (.nilS)] 4)] none)
(.seq (.seq (.reg [(Mv 0 7), (Op .len [.v 7] 8), (Op .mv [ki 0] 9)] none)
(.block 0 (.drop [2, 3] (.cut 0 fn48_o0 (.loop fn48_p0)))))
(.seq (.reg [(Op .mv [.v 4] 20), (Mv 4 21), (Op .len [.m 21] 22), (Op (bi .leq) [.m 22, ki 268435455] 23), (Mv 20 2), (Mv 23 3)] none)
.ret))))
def fn48_w : Orc Tb := mkOrc (Y := (Option (List UInt8)) × Bool) tab [lS 4] [] (fun x h => fn48 x.1) (fun _ y k => k (.tup [.bs y.1, .b y.2]) [])
theorem fn48_k : WK fn48_w 157 := orcD (Y := (Option (List UInt8)) × Bool) (c := fn48_p) (res := [.tmp 2, .tmp 3]) (n := 24) (R := (RSp.one (Y := (Option (List UInt8)) × Bool) tab (.tup [.f (.a .bs), .f (.a .b)]) [] (fun a b => (a.1, a.2.1)) (fun y => (y.1, y.2, ())) (fun y => ()))) fn48_rk oneD Tryz.func157 (cS uC (cS uC (cS (cS uC (cB (cD (cT fn48_q0)))) uC)))
def fn112_r : Orcs Tb := [(157, fn48_w), (105, fn14_w), (65, fn135_w)]
theorem fn112_rk : RK fn112_r := (yv720 fn48_k (yv720 fn14_k (yv720 fn135_k yv743)))
def fn112_p : TCode Tb :=
(.seq (.reg [(Op .mv [.k (.nilS)] 4)] none)
(.seq (.reg [(Mv 1 8), (Op (.call (some 157) 0) [.m 8] 9), (Mv 9 7), (Op .extm [.c 7 0] 10), (Op (.ext 1) [.m 7] 11), (Mv 10 5), (Mv 11 6)] none)
(.seq (.seq (.reg [(Mv 6 12), (Op (.un .not) [.m 12] 13)] none)
(.cond 13 (.drop [4, 5, 13] (.seq (.reg [(Mv 0 14), (Op (.call (some 105) 1) [.m 14] 15), (Mv 15 4)] none)
.ret))
(.drop [4, 13] .skip)))
(.seq (.reg [(Mv 0 16), (Op .mv [.v 5] 17), (Op .len [.m 17] 18), (Op (.cint .u32) [.m 18] 19), (Op (.call (some 65) 2) [.m 16, .m 19] 20), (Mv 5 21), (Op (.app 1 1) [.m 20, .m 21] 22), (Mv 22 4)] none)
.ret))))
def fn112_w : Orc Tb := mkOrc (Y := (Option (List UInt8))) tab [bsS, lS 4] [] (fun x h => fn112 x.1 x.2.1) (fun _ y k => k (.bo y) [])
theorem fn112_k : WK fn112_w 140 := orcD (Y := (Option (List UInt8))) (c := fn112_p) (res := [.tmp 4]) (n := 23) (R := (RSp.one (Y := (Option (List UInt8))) tab (boS) [] (fun a b => a) (fun y => y) (fun y => ()))) fn112_rk oneD Tryz.func140 uC
def fn94_r : Orcs Tb := [(140, fn112_w)]
theorem fn94_rk : RK fn94_r := (yv720 fn112_k yv743)
def fn94_p : TCode Tb :=
(.seq (.reg [(Op .mv [ki 0] 2)] none)
(.seq (.reg [(Mv 0 3), (Op (.call (some 140) 0) [.k (.nilS), .m 3] 4), (Op .len [.m 4] 5), (Mv 5 2)] none)
.ret))
def fn94_w : Orc Tb := mkOrc (Y := Int) tab [lS 4] [] (fun x h => fn94 x.1) (fun _ y k => k (.n .i64 y) [])
theorem fn94_k : WK fn94_w 113 := orcD (Y := Int) (c := fn94_p) (res := [.tmp 2]) (n := 6) (R := (RSp.one (Y := Int) tab (iS) [] (fun a b => a) (fun y => y) (fun y => ()))) fn94_rk oneD Tryz.func113 uC
def fn36_r : Orcs Tb := [(113, fn94_w)]
theorem fn36_rk : RK fn36_r := (yv720 fn94_k yv743)
def fn36_p : TCode Tb :=
(.seq (.reg [(Op .mv [ki 0] 4)] none)
(.seq (.seq (.reg [(Mv 0 5), (Op (bi .eql) [.m 5, ki 4] 6)] none)
(.cond 6 (.drop [1, 4, 6] (.seq (.reg [(Op .mv [ki 0] 4)] none)
.ret))
(.drop [4, 6] .skip)))
(.seq (.reg [(Mv 1 7), (Op (.call (some 113) 0) [.m 7] 8), (Mv 8 4)] none)
.ret)))
def fn36_w : Orc Tb := mkOrc (Y := Int) tab [iS, lS 4] [] (fun x h => fn36 x.1 x.2.1) (fun _ y k => k (.n .i64 y) [])
theorem fn36_k : WK fn36_w 72 := orcD (Y := Int) (c := fn36_p) (res := [.tmp 4]) (n := 9) (R := (RSp.one (Y := Int) tab (iS) [] (fun a b => a) (fun y => y) (fun y => ()))) fn36_rk oneD Tryz.func72 uC
def fn37_r : Orcs Tb := []
theorem fn37_rk : RK fn37_r := yv743
def fn37_p : TCode Tb :=
(.seq (.reg [(Op .mv [ki 0] 2)] none)
(.seq (.reg [(Mv 0 3), (Op .lens [.m 3] 4), (Op (bi .add) [ki 2, .m 4] 5), (Mv 5 2)] none)
.ret))
def fn37_w : Orc Tb := mkOrc (Y := Int) tab [sS] [] (fun x h => fn37 x.1) (fun _ y k => k (.n .i64 y) [])
theorem fn37_k : WK fn37_w 73 := orcD (Y := Int) (c := fn37_p) (res := [.tmp 2]) (n := 6) (R := (RSp.one (Y := Int) tab (iS) [] (fun a b => a) (fun y => y) (fun y => ()))) fn37_rk oneD Tryz.func73 uC
def fn19_r : Orcs Tb := [(72, fn36_w), (73, fn37_w)]
theorem fn19_rk : RK fn19_r := (yv720 fn36_k (yv720 fn37_k yv743))
def fn19_p1 : TCode Tb :=
(.seq (.seq (.reg [(Fav 10 3 38), (Ld 38 39)] none)
(.cond 39 (.drop [39] (.reg [(Mv 5 40), (Fam 17 3 41), (Ld 41 42), (Op (.call (some 73) 1) [.m 42] 43), (Op (bi .add) [.m 40, .m 43] 44), (Mv 44 5)] none))
(.drop [3, 39] .skip)))
(.seq (.reg [(Mv 5 45), (Mv 45 4)] none)
.ret))
def fn19_s1 : SSh := ⟨[(3, rS 0 0), (5, iS)], [hS1]⟩
def fn19_o1 : Cut Tb := cutJ tab 0 fn19_s1 (fun _ x k => fn19_c1 x.1.2.1 (tabBk 6 x.2.1 : fn54) (fun y14 => k .ret ⟨[(4, .n .i64 y14)], [(injL tab hS1 x.2.1)]⟩))
theorem fn19_q1 : CK fn19_o1 0 fn19_p1 := cutJD fn19_rk uC
def fn19_p0 : TCode Tb :=
(.seq (.seq (.reg [(Fav 9 3 31), (Ld 31 32)] none)
(.cond 32 (.drop [32] (.reg [(Mv 5 33), (Fav 16 3 34), (Ld 34 35), (Op (.call (some 73) 1) [.m 35] 36), (Op (bi .add) [.m 33, .m 36] 37), (Mv 37 5)] none))
(.drop [32] .skip)))
(.cut 0 fn19_o1 fn19_p1))
def fn19_s0 : SSh := ⟨[(3, rS 0 0), (5, iS)], [hS1]⟩
def fn19_o0 : Cut Tb := cutJ tab 0 fn19_s0 (fun _ x k => fn19_c0 x.1.2.1 (tabBk 6 x.2.1 : fn54) (fun y17 => k .ret ⟨[(4, .n .i64 y17)], [(injL tab hS1 x.2.1)]⟩))
theorem fn19_q0 : CK fn19_o0 0 fn19_p0 := cutJD fn19_rk (cS uC (cT fn19_q1))
def fn19_p : TCode Tb :=
(.seq (.reg [(Op .box [.m 1] 3), (Op .mv [ki 0] 4)] none)
(.seq (.reg [(Op .mv [.v 0] 6), (Fav 24 3 7), (Ld 7 8), (Op (.call (some 72) 0) [.m 6, .m 8] 9), (Op (bi .add) [ki 10, .m 9] 10), (Fav 7 3 11), (Ld 11 12), (Op (.call (some 73) 1) [.m 12] 13), (Op (bi .add) [.m 10, .m 13] 14), (Mv 14 5)] (some [[], [], [], [], [], [], [2, 3], [], [], []]))
(.seq (.seq (.reg [(Fav 8 3 15), (Ld 15 16)] none)
(.cond 16 (.drop [4, 16] (.reg [(Mv 5 17), (Mv 0 18), (Fav 13 3 19), (Ld 19 20), (Op (.call (some 72) 0) [.m 18, .m 20] 21), (Fav 14 3 22), (Ld 22 23), (Op (.call (some 73) 1) [.m 23] 24), (Op (bi .add) [.m 21, .m 24] 25), (Fav 15 3 26), (Ld 26 27), (Op (.call (some 73) 1) [.m 27] 28), (Op (bi .add) [.m 25, .m 28] 29), (Op (bi .add) [.m 17, .m 29] 30), (Mv 30 5)] (some [[], [], [], [], [], [], [3, 4], [], [], [], [3, 4, 6, 7], [], [], [], []])))
(.drop [0, 4, 16] .skip)))
(.cut 0 fn19_o0 fn19_p0))))
def fn19_w : Orc Tb := mkOrc (Y := Int) tab [iS, .g (.st 6)] [] (fun x h => fn19 x.1 (x.2.1 : fn54)) (fun _ y k => k (.n .i64 y) [])
theorem fn19_k : WK fn19_w 71 := orcD (Y := Int) (c := fn19_p) (res := [.tmp 4]) (n := 46) (R := (RSp.one (Y := Int) tab (iS) [] (fun a b => a) (fun y => y) (fun y => ()))) fn19_rk oneD Tryz.func71 (cS uC (cS uC (cS uC (cT fn19_q0))))
def fn29_r : Orcs Tb := [(113, fn94_w)]
theorem fn29_rk : RK fn29_r := (yv720 fn94_k yv743)
def fn29_p0 : TCode Tb :=
(.cond 5 (.drop [3, 5] (.seq (.reg [(Op .mv [ki 0] 4)] none)
.ret))
(.drop [5] (.seq (.reg [(Fav 24 3 18), (Ld 18 19), (Op .len [.m 19] 20), (Op (bi .eql) [.m 20, ki 0] 21), (Mv 21 17)] none)
(.cond 17 (.drop [3, 17] (.seq (.reg [(Op .mv [ki 1] 4)] none)
.ret))
(.drop [17] .skip)))))
def fn29_s0 : SSh := ⟨[(3, rS 0 0), (5, bS)], [hS1]⟩
def fn29_o0 : Cut Tb := cutJ tab 0 fn29_s0 (fun _ x k => fn29_c0 x.1.2.1 (tabBk 6 x.2.1 : fn54) (fun y5 => k .ret ⟨[(4, .n .i64 y5)], [(injL tab hS1 x.2.1)]⟩) (k .normal ⟨[(3, .ref 0 0)], [(injL tab hS1 x.2.1)]⟩))
theorem fn29_q0 : CK fn29_o0 0 fn29_p0 := cutJD fn29_rk uC
def fn29_p1 : TCode Tb :=
(.seq (.reg [(Fam 24 3 22), (Ld 22 23), (Op (.call (some 113) 0) [.m 23] 24), (Op (bi .add) [ki 1, .m 24] 25), (Mv 25 4)] none)
.ret)
def fn29_s1 : SSh := ⟨[(3, rS 0 0)], [hS1]⟩
def fn29_o1 : Cut Tb := cutJ tab 0 fn29_s1 (fun _ x k => fn29_c1 (tabBk 6 x.2.1 : fn54) (fun y11 => k .ret ⟨[(4, .n .i64 y11)], [(injL tab hS1 x.2.1)]⟩))
theorem fn29_q1 : CK fn29_o1 0 fn29_p1 := cutJD fn29_rk uC
def fn29_p : TCode Tb :=
(.seq (.reg [(Op .box [.m 1] 3), (Op .mv [ki 0] 4)] none)
(.seq (.block 0 (.seq (.seq (.reg [(Mv 0 6), (Op (bi .eql) [.m 6, ki 4] 7), (Mv 7 5)] none)
(.cond 5 (.drop [4] .skip)
(.drop [4, 5] (.reg [(Fav 19 3 8), (Ld 8 9), (Op (bi .eql) [.m 9, .k (.u8 (0 : UInt8))] 10), (Mv 10 11), (Yes (.fa 24) [.v 3] 12 11), (Yes ld [.m 12] 13 11), (Yes .len [.m 13] 14 11), (Yes (bi .eql) [.m 14, ki 0] 15 11), (Op .pick [.m 11, .m 15, kf] 16), (Mv 16 5)] none))))
(.drop [12, 13, 14] (.cut 0 fn29_o0 fn29_p0))))
(.cut 0 fn29_o1 fn29_p1)))
def fn29_w : Orc Tb := mkOrc (Y := Int) tab [iS, .g (.st 6)] [] (fun x h => fn29 x.1 (x.2.1 : fn54)) (fun _ y k => k (.n .i64 y) [])
theorem fn29_k : WK fn29_w 74 := orcD (Y := Int) (c := fn29_p) (res := [.tmp 4]) (n := 26) (R := (RSp.one (Y := Int) tab (iS) [] (fun a b => a) (fun y => y) (fun y => ()))) fn29_rk oneD Tryz.func74 (cS uC (cS (cB (cS uC (cD (cT fn29_q0)))) (cT fn29_q1)))
def fn20_r : Orcs Tb := [(73, fn37_w)]
theorem fn20_rk : RK fn20_r := (yv720 fn37_k yv743)
def fn20_s1 : SSh := ⟨[(1, rS 0 0), (3, iS), (7, lS 5), (8, iS), (9, iS)], [hS1]⟩
def fn20_o1 : Cut Tb := cutJ tab 0 fn20_s1 (fun _ x k => k .normal ⟨[(1, .ref 0 0), (3, .n .i64 x.1.2.1), (7, .sl 5 x.1.2.2.1), (8, .n .i64 x.1.2.2.2.1), (9, .n .i64 x.1.2.2.2.2.1)], [(injL tab hS1 x.2.1)]⟩)
theorem fn20_q1 : CK fn20_o1 0 .skip := yv751 (c := .skip) tabOk fn20_rk trivial (fun _ _ => by kernel_rfl)
def fn20_p0 : TCode Tb :=
(.fin 0 fn20_o1 (.seq (.reg [(Op (bi .lss) [.v 9, .v 8] 10)] none)
(.seq (.cond 10 (.drop [10] .skip)
(.drop [1, 7, 8, 9, 10] (.exit 0)))
(.seq (.block 1 (.seq (.reg [(Op (.ia 2) [.v 7, .v 9] 11), (Op (.load (some 2)) [.m 11] 12), (Op (.alloc [.s [], .u8 (0 : UInt8)]) [] 5), (Do (.store 2) [.v 5, .m 12])] none)
(.seq (.reg [(Mv 3 13), (Fam 0 5 14), (Ld 14 15), (Op (.call (some 73) 0) [.m 15] 16), (Op (bi .add) [.m 13, .m 16] 17), (Mv 17 3)] none)
(.seq (.reg [(Fav 0 1 18), (Ld 18 19), (Op (bi .eql) [.m 19, ki 8] 20)] none)
(.cond 20 (.drop [20] (.reg [(Mv 3 21), (Op (bi .add) [.m 21, ki 1] 22), (Mv 22 3)] none))
(.drop [20] .skip))))))
(.reg [(Op (bi .add) [.m 9, ki 1] 23), (Mv 23 9)] none)))))
def fn20_s0 : SSh := ⟨[(1, rS 0 0), (3, iS), (7, lS 5), (8, iS), (9, iS)], [hS1]⟩
def fn20_o0 : Cut Tb := cutL tab 0 fn20_s0 (fun x => (x.1.2.1, x.1.2.2.2.2.1)) (fun x => fn20_l0 x.1.2.2.1 x.1.2.2.2.1 (tabBk 6 x.2.1 : fn54)) (fun _ x y k => k (.exit 0) ⟨[(3, .n .i64 y)], [(injL tab hS1 x.2.1)]⟩)
theorem fn20_q0 : CK fn20_o0 0 (.loop fn20_p0) := cutLD (Z := Int × Int) (Y := Int) fn20_rk (cF fn20_q1 uC) (fun _ x z b e => fn20_b0 x.1.2.2.1 x.1.2.2.2.1 (tabBk 6 x.2.1 : fn54) z.1 z.2 (fun x2 x5 => b (x2, x5)) (fun y14 => e y14)) (fun x z => ⟨[(1, .ref 0 0), (3, .n .i64 z.1), (7, .sl 5 x.1.2.2.1), (8, .n .i64 x.1.2.2.2.1), (9, .n .i64 z.2)], [(injL tab hS1 x.2.1)]⟩) (fun x y => ((.exit 0), ⟨[(3, .n .i64 y)], [(injL tab hS1 x.2.1)]⟩)) (fun t => (prjS tab 0 fn20_s0 t).bind fun x => some (x.1.2.1, x.1.2.2.2.2.1)) (fun e t => (if eqE e (.exit 0) then (prjS tab 0 ⟨[(3, iS)], [hS1]⟩ t).bind fun v => some v.1.1 else none))
def fn20_p : TCode Tb :=
(.seq (.reg [(Op .box [.m 0] 1), (Op .mv [ki 0] 2)] none)
(.seq (.reg [(Op .mv [ki 0] 3)] none)
(.seq (.seq (.reg [(Fav 22 1 6), (Ld 6 7), (Op .len [.v 7] 8), (Op .mv [ki 0] 9)] none)
(.block 0 (.drop [2] (.cut 0 fn20_o0 (.loop fn20_p0)))))
(.seq (.reg [(Mv 3 24), (Mv 24 2)] none)
.ret))))
def fn20_w : Orc Tb := mkOrc (Y := Int) tab [.g (.st 6)] [] (fun x h => fn20 (x.1 : fn54)) (fun _ y k => k (.n .i64 y) [])
theorem fn20_k : WK fn20_w 75 := orcD (Y := Int) (c := fn20_p) (res := [.tmp 2]) (n := 25) (R := (RSp.one (Y := Int) tab (iS) [] (fun a b => a) (fun y => y) (fun y => ()))) fn20_rk oneD Tryz.func75 (cS uC (cS uC (cS (cS uC (cB (cD (cT fn20_q0)))) uC)))
def fn73_r : Orcs Tb := [(71, fn19_w), (72, fn36_w), (73, fn37_w), (74, fn29_w), (75, fn20_w)]
theorem fn73_rk : RK fn73_r := (yv720 fn19_k (yv720 fn36_k (yv720 fn37_k (yv720 fn29_k (yv720 fn20_k yv743)))))
def fn73_p3 : TCode Tb :=
(.cond 72 (.drop [72] (.seq (.reg [(Mv 0 75), (Op (.load (some 25)) [.m 3] 76), (Op (.call (some 74) 3) [.m 75, .m 76] 77), (Mv 77 4)] none)
.ret))
(.drop [0, 3, 72] .skip))
def fn73_s3 : SSh := ⟨[(0, iS), (3, rS 0 0), (72, bS)], [hS1]⟩
def fn73_o3 : Cut Tb := cutJ tab 0 fn73_s3 (fun _ x k => fn73_c3 x.1.1 x.1.2.2.1 (tabBk 6 x.2.1 : fn54) (fun y27 => k .ret ⟨[(4, .n .i64 y27)], [(injL tab hS1 x.2.1)]⟩) (k .normal ⟨[], [(injL tab hS1 x.2.1)]⟩))
theorem fn73_q3 : CK fn73_o3 0 fn73_p3 := cutJD fn73_rk uC
def fn73_p2 : TCode Tb :=
(.cond 60 (.drop [7, 60] (.seq (.reg [(Mv 0 63), (Fav 24 3 64), (Ld 64 65), (Op (.call (some 72) 1) [.m 63, .m 65] 66), (Op (bi .add) [ki 2, .m 66] 67), (Fav 23 3 68), (Ld 68 69), (Op .len [.m 69] 70), (Op (bi .add) [.m 67, .m 70] 71), (Mv 71 4)] (some [[], [], [], [], [], [], [2, 3], [], [], []]))
.ret))
(.drop [60] (.seq (.seq (.reg [(Op (bi .eql) [.v 7, ki 14] 73), (Mv 73 72)] none)
(.cond 72 (.drop [7] .skip)
(.drop [72] (.reg [(Op (bi .eql) [.m 7, ki 15] 74), (Mv 74 72)] none))))
(.cut 0 fn73_o3 fn73_p3))))
def fn73_s2 : SSh := ⟨[(0, iS), (3, rS 0 0), (7, iS), (60, bS)], [hS1]⟩
def fn73_o2 : Cut Tb := cutJ tab 0 fn73_s2 (fun _ x k => fn73_c2 x.1.1 x.1.2.2.1 x.1.2.2.2.1 (tabBk 6 x.2.1 : fn54) (fun y30 => k .ret ⟨[(3, .ref 0 0), (4, .n .i64 y30)], [(injL tab hS1 x.2.1)]⟩) (fun y31 => k .ret ⟨[(4, .n .i64 y31)], [(injL tab hS1 x.2.1)]⟩) (k .normal ⟨[], [(injL tab hS1 x.2.1)]⟩))
theorem fn73_q2 : CK fn73_o2 0 fn73_p2 := cutJD fn73_rk (cC uC (cD (cS uC (cT fn73_q3))))
def fn73_p1 : TCode Tb :=
(.cond 49 (.drop [7, 49] (.seq (.reg [(Mv 0 52), (Fav 24 3 53), (Ld 53 54), (Op (.call (some 72) 1) [.m 52, .m 54] 55), (Op (bi .add) [ki 2, .m 55] 56), (Op (.load (some 25)) [.v 3] 57), (Op (.call (some 75) 4) [.m 57] 58), (Op (bi .add) [.m 56, .m 58] 59), (Mv 59 4)] (some [[], [], [], [], [], [2, 3], [], [], []]))
.ret))
(.drop [49] (.seq (.seq (.reg [(Op (bi .eql) [.v 7, ki 9] 61), (Mv 61 60)] none)
(.cond 60 .skip
(.drop [60] (.reg [(Op (bi .eql) [.v 7, ki 11] 62), (Mv 62 60)] none))))
(.cut 0 fn73_o2 fn73_p2))))
def fn73_s1 : SSh := ⟨[(0, iS), (3, rS 0 0), (7, iS), (49, bS)], [hS1]⟩
def fn73_o1 : Cut Tb := cutJ tab 0 fn73_s1 (fun _ x k => fn73_c1 x.1.1 x.1.2.2.1 x.1.2.2.2.1 (tabBk 6 x.2.1 : fn54) (fun y36 => k .ret ⟨[(3, .ref 0 0), (4, .n .i64 y36)], [(injL tab hS1 x.2.1)]⟩) (fun y37 => k .ret ⟨[(4, .n .i64 y37)], [(injL tab hS1 x.2.1)]⟩) (k .normal ⟨[], [(injL tab hS1 x.2.1)]⟩))
theorem fn73_q1 : CK fn73_o1 0 fn73_p1 := cutJD fn73_rk (cC uC (cD (cS uC (cT fn73_q2))))
def fn73_p0 : TCode Tb :=
(.cond 40 (.drop [7, 40] (.seq (.reg [(Mv 0 45), (Op (.load (some 25)) [.m 3] 46), (Op (.call (some 74) 3) [.m 45, .m 46] 47), (Op (bi .add) [ki 2, .m 47] 48), (Mv 48 4)] none)
.ret))
(.drop [40] (.seq (.seq (.reg [(Op (bi .eql) [.v 7, ki 8] 50), (Mv 50 49)] none)
(.cond 49 .skip
(.drop [49] (.reg [(Op (bi .eql) [.v 7, ki 10] 51), (Mv 51 49)] none))))
(.cut 0 fn73_o1 fn73_p1))))
def fn73_s0 : SSh := ⟨[(0, iS), (3, rS 0 0), (7, iS), (40, bS)], [hS1]⟩
def fn73_o0 : Cut Tb := cutJ tab 0 fn73_s0 (fun _ x k => fn73_c0 x.1.1 x.1.2.2.1 x.1.2.2.2.1 (tabBk 6 x.2.1 : fn54) (fun y42 => k .ret ⟨[(4, .n .i64 y42)], [(injL tab hS1 x.2.1)]⟩) (fun y43 => k .ret ⟨[(3, .ref 0 0), (4, .n .i64 y43)], [(injL tab hS1 x.2.1)]⟩) (k .normal ⟨[], [(injL tab hS1 x.2.1)]⟩))
theorem fn73_q0 : CK fn73_o0 0 fn73_p0 := cutJD fn73_rk (cC uC (cD (cS uC (cT fn73_q1))))
def fn73_p : TCode Tb :=
(.seq (.reg [(Op .box [.m 1] 3), (Op .mv [ki 0] 4)] none)
(.seq (.seq (.reg [(Fav 0 3 6), (Ld 6 7)] none)
(.block 0 (.seq (.reg [(Op (bi .eql) [.v 7, ki 1] 9), (Mv 9 8)] none)
(.cond 8 (.drop [4, 7, 8] (.seq (.reg [(Mv 0 10), (Op (.load (some 25)) [.m 3] 11), (Op (.call (some 71) 0) [.m 10, .m 11] 12), (Mv 12 4)] none)
.ret))
(.drop [4, 8] (.seq (.reg [(Op (bi .eql) [.v 7, ki 2] 14), (Mv 14 13)] none)
(.cond 13 (.drop [7, 13] (.seq (.reg [(Mv 0 15), (Fam 24 3 16), (Ld 16 17), (Op (.call (some 72) 1) [.m 15, .m 17] 18), (Op (bi .add) [ki 2, .m 18] 19), (Mv 19 4)] none)
.ret))
(.drop [13] (.seq (.reg [(Op (bi .eql) [.v 7, ki 3] 21), (Mv 21 20)] none)
(.cond 20 (.drop [7, 20] (.seq (.reg [(Fav 20 3 22), (Ld 22 23), (Op (.call (some 73) 2) [.m 23] 24), (Mv 0 25), (Fav 24 3 26), (Ld 26 27), (Op (.call (some 72) 1) [.m 25, .m 27] 28), (Op (bi .add) [.m 24, .m 28] 29), (Fav 21 3 30), (Ld 30 31), (Op .lens [.m 31] 32), (Op (bi .add) [.m 29, .m 32] 33), (Mv 33 5)] (some [[], [], [], [], [], [1, 2], [], [], [], [1, 2, 5, 6], [], [], []]))
(.seq (.seq (.reg [(Fam 3 3 34), (Ld 34 35), (Op (bi .gtr) [.m 35, .k (.u8 (0 : UInt8))] 36)] none)
(.cond 36 (.drop [36] (.reg [(Mv 5 37), (Op (bi .add) [.m 37, ki 2] 38), (Mv 38 5)] none))
(.drop [36] .skip)))
(.seq (.reg [(Mv 5 39), (Mv 39 4)] none)
.ret))))
(.drop [20] (.seq (.seq (.reg [(Op (bi .eql) [.v 7, ki 4] 41), (Mv 41 40)] none)
(.cond 40 .skip
(.drop [40] (.seq (.reg [(Op (bi .eql) [.v 7, ki 5] 42), (Mv 42 40)] none)
(.cond 40 .skip
(.drop [40] (.seq (.reg [(Op (bi .eql) [.v 7, ki 6] 43), (Mv 43 40)] none)
(.cond 40 .skip
(.drop [40] (.reg [(Op (bi .eql) [.v 7, ki 7] 44), (Mv 44 40)] none))))))))))
(.cut 0 fn73_o0 fn73_p0)))))))))))))
(.seq (.reg [(Op .mv [ki 0] 4)] none)
.ret)))
def fn73_w : Orc Tb := mkOrc (Y := Int) tab [iS, .g (.st 6)] [] (fun x h => fn73 x.1 (x.2.1 : fn54)) (fun _ y k => k (.n .i64 y) [])
theorem fn73_k : WK fn73_w 37 := orcD (Y := Int) (c := fn73_p) (res := [.tmp 4]) (n := 78) (R := (RSp.one (Y := Int) tab (iS) [] (fun a b => a) (fun y => y) (fun y => ()))) fn73_rk oneD Tryz.func37 (cS uC (cS (cS uC (cB (cS uC (cC uC (cD (cS uC (cC uC (cD (cS uC (cC uC (cD (cS uC (cT fn73_q0))))))))))))) uC))
def fn62_r : Orcs Tb := [(40, fn67_w), (22, fn68_w), (41, fn56_w), (42, fn70_w), (43, fn93_w), (37, fn73_w)]
theorem fn62_rk : RK fn62_r := (yv720 fn67_k (yv720 fn68_k (yv720 fn56_k (yv720 fn70_k (yv720 fn93_k (yv720 fn73_k yv743))))))
def fn62_p0 : TCode Tb :=
(.cond 5 .skip
(.drop [5] (.seq (.reg [(Fav 0 3 12), (Ld 12 13), (Op (bi .lss) [.m 13, ki 1] 14), (Mv 14 5)] none)
(.cond 5 .skip
(.drop [5] (.seq (.reg [(Fav 0 3 15), (Ld 15 16), (Op (bi .gtr) [.m 16, ki 15] 17), (Mv 17 5)] none)
(.cond 5 .skip
(.drop [5] (.reg [(Op .mv [.v 0] 18), (Op (bi .eql) [.m 18, ki 4] 19), (Mv 19 20), (Yes (.fa 0) [.v 3] 21 20), (Yes ld [.m 21] 22 20), (Yes (bi .eql) [.m 22, ki 15] 23 20), (Op .pick [.m 20, .m 23, kf] 24), (Mv 24 5)] none)))))))))
def fn62_s0 : SSh := ⟨[(0, iS), (3, rS 0 0), (5, bS)], [hS1]⟩
def fn62_o0 : Cut Tb := cutJ tab 0 fn62_s0 (fun _ x k => fn62_c0 x.1.1 x.1.2.2.1 (tabBk 6 x.2.1 : fn54) (fun y6 => k .normal ⟨[(0, .n .i64 x.1.1), (3, .ref 0 0), (5, .b y6)], [(injL tab hS1 x.2.1)]⟩) (k .normal ⟨[(0, .n .i64 x.1.1), (3, .ref 0 0), (5, .b false), (21, .tup []), (22, .tup [])], [(injL tab hS1 x.2.1)]⟩))
theorem fn62_q0 : CK fn62_o0 0 fn62_p0 := cutJD fn62_rk uC
def fn62_p2 : TCode Tb :=
(.cond 25 (.drop [0, 3, 25] (.seq (.reg [(Op .mv [kf] 4)] none)
.ret))
(.drop [25] (.seq (.reg [(Op .mv [.v 0] 35), (Op (bi .eql) [.m 35, ki 4] 36), (Mv 36 37), (Yes (.fa 24) [.v 3] 38 37), (Yes ld [.m 38] 39 37), (Yes .len [.m 39] 40 37), (Yes (.fa 13) [.v 3] 41 37), (Yes ld [.m 41] 42 37), (Yes .len [.m 42] 43 37), (Yes (bi .add) [.m 40, .m 43] 44 37), (Yes (bi .gtr) [.m 44, ki 0] 45 37), (Op .pick [.m 37, .m 45, kf] 46), (Mv 46 34)] none)
(.drop [38, 39, 40, 41, 42, 43, 44] (.cond 34 (.drop [0, 3, 34] (.seq (.reg [(Op .mv [kf] 4)] none)
.ret))
(.drop [34] .skip))))))
def fn62_s2 : SSh := ⟨[(0, iS), (3, rS 0 0), (25, bS)], [hS1]⟩
def fn62_o2 : Cut Tb := cutJ tab 0 fn62_s2 (fun _ x k => fn62_c2 x.1.1 x.1.2.2.1 (tabBk 6 x.2.1 : fn54) (k .ret ⟨[(4, .b false)], [(injL tab hS1 x.2.1)]⟩) (k .normal ⟨[(0, .n .i64 x.1.1), (3, .ref 0 0)], [(injL tab hS1 x.2.1)]⟩))
theorem fn62_q2 : CK fn62_o2 0 fn62_p2 := cutJD fn62_rk uC
def fn62_p1 : TCode Tb :=
(.cond 5 (.drop [0, 3, 5] (.seq (.reg [(Op .mv [kf] 4)] none)
.ret))
(.drop [5] (.seq (.seq (.reg [(Op (.load (some 25)) [.v 3] 26), (Op (.load (some 25)) [.v 3] 27), (Op (.call (some 40) 0) [.m 27] 28), (Op (.call (some 22) 1) [.m 26, .m 28] 29), (Op (.un .not) [.m 29] 30), (Mv 30 25)] (some [[], [0], [0], [], [], []]))
(.cond 25 .skip
(.drop [25] (.reg [(Op (.load (some 25)) [.v 3] 31), (Op (.call (some 41) 2) [.m 31] 32), (Op (.un .not) [.m 32] 33), (Mv 33 25)] none))))
(.cut 0 fn62_o2 fn62_p2))))
def fn62_s1 : SSh := ⟨[(0, iS), (3, rS 0 0), (5, bS)], [hS1]⟩
def fn62_o1 : Cut Tb := cutJ tab 0 fn62_s1 (fun _ x k => fn62_c1 x.1.1 x.1.2.2.1 (tabBk 6 x.2.1 : fn54) (k .ret ⟨[(4, .b false)], [(injL tab hS1 x.2.1)]⟩) (k .normal ⟨[(0, .n .i64 x.1.1), (3, .ref 0 0)], [(injL tab hS1 x.2.1)]⟩))
theorem fn62_q1 : CK fn62_o1 0 fn62_p1 := cutJD fn62_rk (cC uC (cD (cS uC (cT fn62_q2))))
def fn62_p3 : TCode Tb :=
(.seq (.reg [(Fav 0 3 47), (Ld 47 48), (Fav 24 3 49), (Ld 49 50), (Op (.call (some 42) 3) [.m 48, .m 50] 51), (Mv 51 52), (Yes (.fa 13) [.v 3] 53 52), (Yes ld [.m 53] 54 52), (Yes (.call (some 42) 3) [ki 16, .m 54] 55 52), (Op .pick [.m 52, .m 55, kf] 56), (Mv 56 57), (Yes .mv [.v 0] 58 57), (Yes (.load (some 25)) [.v 3] 59 57), (Yes (.call (some 43) 4) [.m 58, .m 59] 60 57), (Op .pick [.m 57, .m 60, kf] 61), (Mv 61 62), (Yes .mv [.m 0] 63 62), (Yes (.load (some 25)) [.m 3] 64 62), (Yes (.call (some 37) 5) [.m 63, .m 64] 65 62), (Yes (bi .leq) [.m 65, ki 268435455] 66 62), (Op .pick [.m 62, .m 66, kf] 67), (Mv 67 4)] none)
(.drop [0, 3, 53, 54, 58, 59, 63, 64, 65] .ret))
def fn62_s3 : SSh := ⟨[(0, iS), (3, rS 0 0)], [hS1]⟩
def fn62_o3 : Cut Tb := cutJ tab 0 fn62_s3 (fun _ x k => fn62_c3 x.1.1 (tabBk 6 x.2.1 : fn54) (fun y24 => k .ret ⟨[(4, .b y24)], [(injL tab hS1 x.2.1)]⟩))
theorem fn62_q3 : CK fn62_o3 0 fn62_p3 := cutJD fn62_rk uC
def fn62_p : TCode Tb :=
(.seq (.reg [(Op .box [.m 1] 3), (Op .mv [kf] 4)] none)
(.seq (.block 0 (.seq (.seq (.reg [(Op .mv [.v 0] 6), (Op (bi .neq) [.m 6, ki 4] 7), (Mv 7 8), (Yes .mv [.v 0] 9 8), (Yes (bi .neq) [.m 9, ki 5] 10 8), (Op .pick [.m 8, .m 10, kf] 11), (Mv 11 5)] none)
(.drop [4, 9] (.cut 0 fn62_o0 fn62_p0)))
(.drop [21, 22] (.cut 0 fn62_o1 fn62_p1))))
(.cut 0 fn62_o3 fn62_p3)))
def fn62_w : Orc Tb := mkOrc (Y := Bool) tab [iS, .g (.st 6)] [] (fun x h => fn62 x.1 (x.2.1 : fn54)) (fun _ y k => k (.b y) [])
theorem fn62_k : WK fn62_w 16 := orcD (Y := Bool) (c := fn62_p) (res := [.tmp 4]) (n := 68) (R := (RSp.one (Y := Bool) tab (bS) [] (fun a b => a) (fun y => y) (fun y => ()))) fn62_rk oneD Tryz.func16 (cS uC (cS (cB (cS (cS uC (cD (cT fn62_q0))) (cD (cT fn62_q1)))) (cT fn62_q3)))
def fn74_r : Orcs Tb := []
theorem fn74_rk : RK fn74_r := yv743
def fn74_p : TCode Tb :=
(.seq (.reg [(Op .mv [.k (.s [])] 2)] none)
(.seq (.reg [(Op (.build zV3 [(0, 1), (1, 1), (2, 1), (3, 1), (4, 1), (5, 1), (6, 1), (7, 1), (8, 1), (9, 1), (10, 1), (11, 1), (12, 1), (13, 1), (14, 1)]) [.k (.s [99, 111, 110, 110, 101, 99, 116]), .k (.s [99, 111, 110, 110, 97, 99, 107]), .k (.s [112, 117, 98, 108, 105, 115, 104]), .k (.s [112, 117, 98, 97, 99, 107]), .k (.s [112, 117, 98, 114, 101, 99]), .k (.s [112, 117, 98, 114, 101, 108]), .k (.s [112, 117, 98, 99, 111, 109, 112]), .k (.s [115, 117, 98, 115, 99, 114, 105, 98, 101]), .k (.s [115, 117, 98, 97, 99, 107]), .k (.s [117, 110, 115, 117, 98, 115, 99, 114, 105, 98, 101]), .k (.s [117, 110, 115, 117, 98, 97, 99, 107]), .k (.s [112, 105, 110, 103, 114, 101, 113]), .k (.s [112, 105, 110, 103, 114, 101, 115, 112]), .k (.s [100, 105, 115, 99, 111, 110, 110, 101, 99, 116]), .k (.s [97, 117, 116, 104])] 4), (Op (.alloc zV3) [] 3), (Do (.store 15) [.v 3, .m 4])] none)
(.seq (.seq (.reg [(Op .mv [.v 0] 5), (Op (bi .lss) [.m 5, ki 1] 6), (Mv 6 7), (No .mv [.v 0] 8 7), (No (bi .gtr) [.m 8, ki 15] 9 7), (Op .pick [.m 7, kt, .m 9] 10)] none)
(.drop [2, 8] (.cond 10 (.drop [0, 3, 10] (.seq (.reg [(Op .mv [.k (.s [])] 2)] none)
.ret))
(.drop [10] .skip))))
(.seq (.reg [(Mv 0 11), (Op (bi .sub) [.m 11, ki 1] 12), (Op (.iarr 15 1) [.m 3, .m 12] 13), (Ld 13 14), (Mv 14 2)] none)
.ret))))
def fn74_w : Orc Tb := mkOrc (Y := (List UInt8)) tab [iS] [] (fun x h => fn74 x.1) (fun _ y k => k (.s y) [])
theorem fn74_k : WK fn74_w 23 := orcD (Y := (List UInt8)) (c := fn74_p) (res := [.tmp 2]) (n := 15) (R := (RSp.one (Y := (List UInt8)) tab (sS) [] (fun a b => a) (fun y => y) (fun y => ()))) fn74_rk oneD Tryz.func23 uC
def fn137_r : Orcs Tb := [(16, fn62_w), (22, fn68_w), (23, fn74_w)]
theorem fn137_rk : RK fn137_r := (yv720 fn62_k (yv720 fn68_k (yv720 fn74_k yv743)))
def fn137_p : TCode Tb :=
(.seq (.reg [(Op .mv [kf] 0)] none)
(.seq (.reg [(Op (.build zV0 [(0, 1), (3, 1), (20, 1), (4, 1)]) [ki 3, .k (.u8 (1 : UInt8)), .k (.s [97]), .k (.u16 (7 : UInt16))] 3), (Op (.alloc zV0) [] 1), (Do (.store 25) [.v 1, .m 3])] none)
(.seq (.reg [(Op (.load (some 25)) [.v 1] 4), (Op (.alloc zV0) [] 2), (Do (.store 25) [.v 2, .m 4])] none)
(.seq (.reg [(Fav 4 2 5), (Do (.store 1) [.m 5, .k (.u16 (0 : UInt16))])] none)
(.seq (.reg [(Op (.load (some 25)) [.v 1] 6), (Op (.call (some 16) 0) [ki 4, .m 6] 7), (Mv 7 8), (Yes (.load (some 25)) [.v 1] 9 8), (Yes (.call (some 16) 0) [ki 5, .m 9] 10 8), (Op .pick [.m 8, .m 10, kf] 11), (Mv 11 12), (Yes (.load (some 25)) [.v 2] 13 12), (Yes (.call (some 16) 0) [ki 5, .m 13] 14 12), (Yes (.un .not) [.m 14] 15 12), (Op .pick [.m 12, .m 15, kf] 16), (Mv 16 17), (Yes (.load (some 25)) [.v 1] 18 17), (Yes (.call (some 16) 0) [ki 3, .m 18] 19 17), (Yes (.un .not) [.m 19] 20 17), (Op .pick [.m 17, .m 20, kf] 21), (Mv 21 22), (Yes (.load (some 25)) [.v 1] 23 22), (Yes (.load (some 25)) [.v 1] 24 22), (Yes (.call (some 22) 1) [.m 23, .m 24] 25 22), (Op .pick [.m 22, .m 25, kf] 26), (Mv 26 27), (Yes (.load (some 25)) [.m 1] 28 27), (Yes (.load (some 25)) [.m 2] 29 27), (Yes (.call (some 22) 1) [.m 28, .m 29] 30 27), (Yes (.un .not) [.m 30] 31 27), (Op .pick [.m 27, .m 31, kf] 32), (Mv 32 33), (Yes (.call (some 23) 2) [ki 15] 34 33), (Yes (.bin .eql .s) [.m 34, .k (.s [97, 117, 116, 104])] 35 33), (Op .pick [.m 33, .m 35, kf] 36), (Mv 36 0)] none)
(.drop [1, 2, 9, 13, 14, 18, 19, 23, 24, 28, 29, 30, 34] .ret))))))
def fn137_w : Orc Tb := mkOrc (Y := Bool) tab [] [] (fun x h => fn137) (fun _ y k => k (.b y) [])
theorem fn137_k : WK fn137_w 14 := orcD (Y := Bool) (c := fn137_p) (res := [.tmp 0]) (n := 37) (R := (RSp.one (Y := Bool) tab (bS) [] (fun a b => a) (fun y => y) (fun y => ()))) fn137_rk oneD Tryz.func14 uC
def l05_To_r : Orcs Tb := []
theorem l05_To_rk : RK l05_To_r := yv743
def l05_To_p : TCode Tb :=
(.seq (.reg [(Op .box [.m 0] 1), (Op (.alloc [.u8 (0 : UInt8), .u32 (0 : UInt32), .s [], .s []]) [] 2)] none)
(.seq (.reg [(Fav 0 1 3), (Ld 3 4), (Fav 1 1 5), (Ld 5 6), (Fav 2 1 7), (Ld 7 8), (Fam 3 1 9), (Ld 9 10), (Op (.build [.u8 (0 : UInt8), .u32 (0 : UInt32), .s [], .s []] [(0, 1), (1, 1), (2, 1), (3, 1)]) [.m 4, .m 6, .m 8, .m 10] 11), (Do (.store 4) [.v 2, .m 11])] none)
.ret))
def l05_To_w : Orc Tb := mkOrc (Y := fn132) tab [.g (.st 1)] [] (fun x h => l05_To (x.1 : fn153)) (fun _ y k => k (.agg [.u8 y.Id, .u32 y.N, .s y.A, .s y.B]) [])
theorem l05_To_k : WK l05_To_w 81 := orcD (Y := fn132) (c := l05_To_p) (res := [.cell 2 (some 4)]) (n := 12) (R := (RSp.one (Y := fn132) tab (.g (.st 4)) [] (fun a b => (a : fn132)) (fun y => (y : fn132)) (fun y => ()))) l05_To_rk oneD Tryz.func81 uC
def l06_To_r : Orcs Tb := [(81, l05_To_w)]
theorem l06_To_rk : RK l06_To_r := (yv720 l05_To_k yv743)
def l06_To_p0 : TCode Tb :=
(.seq (.seq (.reg [(Op .mv [.v 4] 5), (Op .mv [.v 0] 6), (Op .len [.m 6] 7), (Op (bi .lss) [.m 5, .m 7] 8)] none)
(.cond 8 (.drop [8] .skip)
(.drop [0, 4, 8] (.exit 0))))
(.seq (.block 1 (.reg [(Mv 3 11), (Op .mv [.v 0] 12), (Op .mv [.v 4] 13), (Op (.ia 4) [.v 12, .m 13] 14), (Op (.load (some 4)) [.m 14] 15), (Op (.call (some 81) 0) [.m 15] 16), ⟨(.bslice 4 1 ((⟨(0 : UInt8), (0 : UInt32), [], []⟩ : fn132) : fn132) [0]), [.m 16], some 17, none⟩, (Op (.app 4 40) [.m 11, .m 17] 18), (Mv 18 3)] none))
(.drop [12] (.reg [(Mv 4 9), (Op (bi .add) [.m 9, ki 1] 10), (Mv 10 4)] none))))
def l06_To_s0 : SSh := ⟨[(0, lS 1), (3, wS 4), (4, iS)], []⟩
def l06_To_o0 : Cut Tb := cutL tab 0 l06_To_s0 (fun x => (x.1.2.1, x.1.2.2.1)) (fun x => l06_To_l0 x.1.1) (fun _ x y k => k (.exit 0) ⟨[(3, .ow 4 y)], []⟩)
theorem l06_To_q0 : CK l06_To_o0 0 (.loop l06_To_p0) := cutLD (Z := (Option (List fn132)) × Int) (Y := (Option (List fn132))) l06_To_rk uC (fun _ x z b e => l06_To_b0 x.1.1 z.1 z.2 (fun x3 x4 => b (x3, x4)) (fun y8 => e y8)) (fun x z => ⟨[(0, .sl 1 x.1.1), (3, .ow 4 z.1), (4, .n .i64 z.2)], []⟩) (fun x y => ((.exit 0), ⟨[(3, .ow 4 y)], []⟩)) (fun t => (prjS tab 0 l06_To_s0 t).bind fun x => some (x.1.2.1, x.1.2.2.1)) (fun e t => (if eqE e (.exit 0) then (prjS tab 0 ⟨[(3, wS 4)], []⟩ t).bind fun v => some v.1.1 else none))
def l06_To_p : TCode Tb :=
(.seq (.reg [(Op .mv [.k (.nilS)] 2)] none)
(.seq (.reg [(Op .mv [.k (.nilS)] 3)] none)
(.seq (.seq (.reg [(Op .mv [ki 0] 4)] none)
(.block 0 (.drop [2] (.cut 0 l06_To_o0 (.loop l06_To_p0)))))
(.seq (.reg [(Mv 3 19), (Mv 19 2)] none)
.ret))))
def l06_To_w : Orc Tb := mkOrc (Y := (Option (List fn132))) tab [lS 1] [] (fun x h => l06_To x.1) (fun _ y k => k (.ow 4 y) [])
theorem l06_To_k : WK l06_To_w 39 := orcD (Y := (Option (List fn132))) (c := l06_To_p) (res := [.tmp 2]) (n := 20) (R := (RSp.one (Y := (Option (List fn132))) tab (wS 4) [] (fun a b => a) (fun y => y) (fun y => ()))) l06_To_rk oneD Tryz.func39 (cS uC (cS uC (cS (cS uC (cB (cD (cT l06_To_q0)))) uC)))
def l07_To_r : Orcs Tb := [(39, l06_To_w)]
theorem l07_To_rk : RK l07_To_r := (yv720 l06_To_k yv743)
def l07_To_p0 : TCode Tb :=
(.seq (.seq (.reg [(Op .mv [.v 4] 58), (Fav 22 1 59), (Ld 59 60), (Op .len [.m 60] 61), (Op (bi .lss) [.m 58, .m 61] 62)] none)
(.cond 62 (.drop [62] .skip)
(.drop [1, 4, 62] (.exit 0))))
(.seq (.block 1 (.reg [(Fav 22 3 65), (Op .loadm [.m 65] 66), (Fav 22 1 67), (Ld 67 68), (Op .mv [.v 4] 69), (Op (.ia 2) [.v 68, .m 69] 70), (Fam 0 70 71), (Ld 71 72), (Fav 22 1 73), (Ld 73 74), (Op .mv [.v 4] 75), (Op (.ia 2) [.v 74, .m 75] 76), (Fam 1 76 77), (Ld 77 78), (Op (.build [.s [], .u8 (0 : UInt8)] [(0, 1), (1, 1)]) [.m 72, .m 78] 79), ⟨(.bslice 5 1 ((⟨[], (0 : UInt8)⟩ : fn53) : fn53) [0]), [.m 79], some 80, none⟩, (Op (.app 2 24) [.m 66, .m 80] 81), (Fav 22 3 82), (Do (.store 1) [.m 82, .m 81])] (some [[], [], [], [1], [], [], [], [1], [], [1, 3, 7], [], [], [], [1, 3, 7], [], [], [], [], []])))
(.drop [68, 74] (.reg [(Mv 4 63), (Op (bi .add) [.m 63, ki 1] 64), (Mv 64 4)] none))))
def l07_To_s0 : SSh := ⟨[(1, rS 0 0), (2, rS 1 0), (3, rS 2 0), (4, iS)], [[iS, bS, bS, u8S, u16S, bS, u16S, sS, bS, bS, bS, u8S, bS, lS 1, sS, sS, sS, sS, bS, u8S, sS, sS, lS 2, bsS, lS 1], [iS, bS, bS, u8S, u16S, bS, u16S, sS, bS, bS, bS, u8S, bS, wS 4, sS, sS, sS, sS, bS, u8S, sS, sS, wS 5, boS, wS 4], [iS, bS, bS, u8S, u16S, bS, u16S, sS, bS, bS, bS, u8S, bS, lS 4, sS, sS, sS, sS, bS, u8S, sS, sS, wS 5, bsS, lS 4]]⟩
def l07_To_o0 : Cut Tb := cutL tab 0 l07_To_s0 (fun x => (x.1.2.2.2.1, (⟨x.2.2.2.1.1, x.2.2.2.1.2.1, x.2.2.2.1.2.2.1, x.2.2.2.1.2.2.2.1, x.2.2.2.1.2.2.2.2.1, x.2.2.2.1.2.2.2.2.2.1, x.2.2.2.1.2.2.2.2.2.2.1, x.2.2.2.1.2.2.2.2.2.2.2.1, x.2.2.2.1.2.2.2.2.2.2.2.2.1, x.2.2.2.1.2.2.2.2.2.2.2.2.2.1, x.2.2.2.1.2.2.2.2.2.2.2.2.2.2.1, x.2.2.2.1.2.2.2.2.2.2.2.2.2.2.2.1, x.2.2.2.1.2.2.2.2.2.2.2.2.2.2.2.2.1, x.2.2.2.1.2.2.2.2.2.2.2.2.2.2.2.2.2.1, x.2.2.2.1.2.2.2.2.2.2.2.2.2.2.2.2.2.2.1, x.2.2.2.1.2.2.2.2.2.2.2.2.2.2.2.2.2.2.2.1, x.2.2.2.1.2.2.2.2.2.2.2.2.2.2.2.2.2.2.2.2.1, x.2.2.2.1.2.2.2.2.2.2.2.2.2.2.2.2.2.2.2.2.2.1, x.2.2.2.1.2.2.2.2.2.2.2.2.2.2.2.2.2.2.2.2.2.2.1, x.2.2.2.1.2.2.2.2.2.2.2.2.2.2.2.2.2.2.2.2.2.2.2.1, x.2.2.2.1.2.2.2.2.2.2.2.2.2.2.2.2.2.2.2.2.2.2.2.2.1, x.2.2.2.1.2.2.2.2.2.2.2.2.2.2.2.2.2.2.2.2.2.2.2.2.2.1, x.2.2.2.1.2.2.2.2.2.2.2.2.2.2.2.2.2.2.2.2.2.2.2.2.2.2.1, x.2.2.2.1.2.2.2.2.2.2.2.2.2.2.2.2.2.2.2.2.2.2.2.2.2.2.2.1, x.2.2.2.1.2.2.2.2.2.2.2.2.2.2.2.2.2.2.2.2.2.2.2.2.2.2.2.2.1⟩ : fn54))) (fun x => l07_To_l0 (⟨x.2.1.1, x.2.1.2.1, x.2.1.2.2.1, x.2.1.2.2.2.1, x.2.1.2.2.2.2.1, x.2.1.2.2.2.2.2.1, x.2.1.2.2.2.2.2.2.1, x.2.1.2.2.2.2.2.2.2.1, x.2.1.2.2.2.2.2.2.2.2.1, x.2.1.2.2.2.2.2.2.2.2.2.1, x.2.1.2.2.2.2.2.2.2.2.2.2.1, x.2.1.2.2.2.2.2.2.2.2.2.2.2.1, x.2.1.2.2.2.2.2.2.2.2.2.2.2.2.1, x.2.1.2.2.2.2.2.2.2.2.2.2.2.2.2.1, x.2.1.2.2.2.2.2.2.2.2.2.2.2.2.2.2.1, x.2.1.2.2.2.2.2.2.2.2.2.2.2.2.2.2.2.1, x.2.1.2.2.2.2.2.2.2.2.2.2.2.2.2.2.2.2.1, x.2.1.2.2.2.2.2.2.2.2.2.2.2.2.2.2.2.2.2.1, x.2.1.2.2.2.2.2.2.2.2.2.2.2.2.2.2.2.2.2.2.1, x.2.1.2.2.2.2.2.2.2.2.2.2.2.2.2.2.2.2.2.2.2.1, x.2.1.2.2.2.2.2.2.2.2.2.2.2.2.2.2.2.2.2.2.2.2.1, x.2.1.2.2.2.2.2.2.2.2.2.2.2.2.2.2.2.2.2.2.2.2.2.1, x.2.1.2.2.2.2.2.2.2.2.2.2.2.2.2.2.2.2.2.2.2.2.2.2.1, x.2.1.2.2.2.2.2.2.2.2.2.2.2.2.2.2.2.2.2.2.2.2.2.2.2.1, x.2.1.2.2.2.2.2.2.2.2.2.2.2.2.2.2.2.2.2.2.2.2.2.2.2.2.1⟩ : fn105)) (fun _ x y k => k (.exit 0) ⟨[(2, .ref 1 0), (3, .ref 2 0)], [[.n .i64 x.2.1.1, .b x.2.1.2.1, .b x.2.1.2.2.1, .u8 x.2.1.2.2.2.1, .u16 x.2.1.2.2.2.2.1, .b x.2.1.2.2.2.2.2.1, .u16 x.2.1.2.2.2.2.2.2.1, .s x.2.1.2.2.2.2.2.2.2.1, .b x.2.1.2.2.2.2.2.2.2.2.1, .b x.2.1.2.2.2.2.2.2.2.2.2.1, .b x.2.1.2.2.2.2.2.2.2.2.2.2.1, .u8 x.2.1.2.2.2.2.2.2.2.2.2.2.2.1, .b x.2.1.2.2.2.2.2.2.2.2.2.2.2.2.1, .sl 1 x.2.1.2.2.2.2.2.2.2.2.2.2.2.2.2.1, .s x.2.1.2.2.2.2.2.2.2.2.2.2.2.2.2.2.1, .s x.2.1.2.2.2.2.2.2.2.2.2.2.2.2.2.2.2.1, .s x.2.1.2.2.2.2.2.2.2.2.2.2.2.2.2.2.2.2.1, .s x.2.1.2.2.2.2.2.2.2.2.2.2.2.2.2.2.2.2.2.1, .b x.2.1.2.2.2.2.2.2.2.2.2.2.2.2.2.2.2.2.2.2.1, .u8 x.2.1.2.2.2.2.2.2.2.2.2.2.2.2.2.2.2.2.2.2.2.1, .s x.2.1.2.2.2.2.2.2.2.2.2.2.2.2.2.2.2.2.2.2.2.2.1, .s x.2.1.2.2.2.2.2.2.2.2.2.2.2.2.2.2.2.2.2.2.2.2.2.1, .sl 2 x.2.1.2.2.2.2.2.2.2.2.2.2.2.2.2.2.2.2.2.2.2.2.2.2.1, .bs x.2.1.2.2.2.2.2.2.2.2.2.2.2.2.2.2.2.2.2.2.2.2.2.2.2.1, .sl 1 x.2.1.2.2.2.2.2.2.2.2.2.2.2.2.2.2.2.2.2.2.2.2.2.2.2.2.1], [.n .i64 x.2.2.1.1, .b x.2.2.1.2.1, .b x.2.2.1.2.2.1, .u8 x.2.2.1.2.2.2.1, .u16 x.2.2.1.2.2.2.2.1, .b x.2.2.1.2.2.2.2.2.1, .u16 x.2.2.1.2.2.2.2.2.2.1, .s x.2.2.1.2.2.2.2.2.2.2.1, .b x.2.2.1.2.2.2.2.2.2.2.2.1, .b x.2.2.1.2.2.2.2.2.2.2.2.2.1, .b x.2.2.1.2.2.2.2.2.2.2.2.2.2.1, .u8 x.2.2.1.2.2.2.2.2.2.2.2.2.2.2.1, .b x.2.2.1.2.2.2.2.2.2.2.2.2.2.2.2.1, .ow 4 x.2.2.1.2.2.2.2.2.2.2.2.2.2.2.2.2.1, .s x.2.2.1.2.2.2.2.2.2.2.2.2.2.2.2.2.2.1, .s x.2.2.1.2.2.2.2.2.2.2.2.2.2.2.2.2.2.2.1, .s x.2.2.1.2.2.2.2.2.2.2.2.2.2.2.2.2.2.2.2.1, .s x.2.2.1.2.2.2.2.2.2.2.2.2.2.2.2.2.2.2.2.2.1, .b x.2.2.1.2.2.2.2.2.2.2.2.2.2.2.2.2.2.2.2.2.2.1, .u8 x.2.2.1.2.2.2.2.2.2.2.2.2.2.2.2.2.2.2.2.2.2.2.1, .s x.2.2.1.2.2.2.2.2.2.2.2.2.2.2.2.2.2.2.2.2.2.2.2.1, .s x.2.2.1.2.2.2.2.2.2.2.2.2.2.2.2.2.2.2.2.2.2.2.2.2.1, .ow 5 x.2.2.1.2.2.2.2.2.2.2.2.2.2.2.2.2.2.2.2.2.2.2.2.2.2.1, .bo x.2.2.1.2.2.2.2.2.2.2.2.2.2.2.2.2.2.2.2.2.2.2.2.2.2.2.1, .ow 4 x.2.2.1.2.2.2.2.2.2.2.2.2.2.2.2.2.2.2.2.2.2.2.2.2.2.2.2.1], [.n .i64 y.Kind, .b y.Dup, .b y.Retain, .u8 y.QoS, .u16 y.Id, .b y.Clean, .u16 y.Keep, .s y.Client, .b y.HasWill, .b y.HasUser, .b y.HasPass, .u8 y.WillQoS, .b y.WillRetain, .sl 4 y.WillProps, .s y.WillTopic, .s y.WillLoad, .s y.User, .s y.Pass, .b y.Present, .u8 y.Code, .s y.Topic, .s y.Load, .ow 5 y.Filters, .bs y.Codes, .sl 4 y.Props]]⟩)
theorem l07_To_q0 : CK l07_To_o0 0 (.loop l07_To_p0) := cutLD (Z := Int × fn54) (Y := fn54) l07_To_rk uC (fun _ x z b e => l07_To_b0 (⟨x.2.1.1, x.2.1.2.1, x.2.1.2.2.1, x.2.1.2.2.2.1, x.2.1.2.2.2.2.1, x.2.1.2.2.2.2.2.1, x.2.1.2.2.2.2.2.2.1, x.2.1.2.2.2.2.2.2.2.1, x.2.1.2.2.2.2.2.2.2.2.1, x.2.1.2.2.2.2.2.2.2.2.2.1, x.2.1.2.2.2.2.2.2.2.2.2.2.1, x.2.1.2.2.2.2.2.2.2.2.2.2.2.1, x.2.1.2.2.2.2.2.2.2.2.2.2.2.2.1, x.2.1.2.2.2.2.2.2.2.2.2.2.2.2.2.1, x.2.1.2.2.2.2.2.2.2.2.2.2.2.2.2.2.1, x.2.1.2.2.2.2.2.2.2.2.2.2.2.2.2.2.2.1, x.2.1.2.2.2.2.2.2.2.2.2.2.2.2.2.2.2.2.1, x.2.1.2.2.2.2.2.2.2.2.2.2.2.2.2.2.2.2.2.1, x.2.1.2.2.2.2.2.2.2.2.2.2.2.2.2.2.2.2.2.2.1, x.2.1.2.2.2.2.2.2.2.2.2.2.2.2.2.2.2.2.2.2.2.1, x.2.1.2.2.2.2.2.2.2.2.2.2.2.2.2.2.2.2.2.2.2.2.1, x.2.1.2.2.2.2.2.2.2.2.2.2.2.2.2.2.2.2.2.2.2.2.2.1, x.2.1.2.2.2.2.2.2.2.2.2.2.2.2.2.2.2.2.2.2.2.2.2.2.1, x.2.1.2.2.2.2.2.2.2.2.2.2.2.2.2.2.2.2.2.2.2.2.2.2.2.1, x.2.1.2.2.2.2.2.2.2.2.2.2.2.2.2.2.2.2.2.2.2.2.2.2.2.2.1⟩ : fn105) z.1 z.2 (fun x5 x8 => b (x5, x8)) (fun y12 => e y12)) (fun x z => ⟨[(1, .ref 0 0), (2, .ref 1 0), (3, .ref 2 0), (4, .n .i64 z.1)], [[.n .i64 x.2.1.1, .b x.2.1.2.1, .b x.2.1.2.2.1, .u8 x.2.1.2.2.2.1, .u16 x.2.1.2.2.2.2.1, .b x.2.1.2.2.2.2.2.1, .u16 x.2.1.2.2.2.2.2.2.1, .s x.2.1.2.2.2.2.2.2.2.1, .b x.2.1.2.2.2.2.2.2.2.2.1, .b x.2.1.2.2.2.2.2.2.2.2.2.1, .b x.2.1.2.2.2.2.2.2.2.2.2.2.1, .u8 x.2.1.2.2.2.2.2.2.2.2.2.2.2.1, .b x.2.1.2.2.2.2.2.2.2.2.2.2.2.2.1, .sl 1 x.2.1.2.2.2.2.2.2.2.2.2.2.2.2.2.1, .s x.2.1.2.2.2.2.2.2.2.2.2.2.2.2.2.2.1, .s x.2.1.2.2.2.2.2.2.2.2.2.2.2.2.2.2.2.1, .s x.2.1.2.2.2.2.2.2.2.2.2.2.2.2.2.2.2.2.1, .s x.2.1.2.2.2.2.2.2.2.2.2.2.2.2.2.2.2.2.2.1, .b x.2.1.2.2.2.2.2.2.2.2.2.2.2.2.2.2.2.2.2.2.1, .u8 x.2.1.2.2.2.2.2.2.2.2.2.2.2.2.2.2.2.2.2.2.2.1, .s x.2.1.2.2.2.2.2.2.2.2.2.2.2.2.2.2.2.2.2.2.2.2.1, .s x.2.1.2.2.2.2.2.2.2.2.2.2.2.2.2.2.2.2.2.2.2.2.2.1, .sl 2 x.2.1.2.2.2.2.2.2.2.2.2.2.2.2.2.2.2.2.2.2.2.2.2.2.1, .bs x.2.1.2.2.2.2.2.2.2.2.2.2.2.2.2.2.2.2.2.2.2.2.2.2.2.1, .sl 1 x.2.1.2.2.2.2.2.2.2.2.2.2.2.2.2.2.2.2.2.2.2.2.2.2.2.2.1], [.n .i64 x.2.2.1.1, .b x.2.2.1.2.1, .b x.2.2.1.2.2.1, .u8 x.2.2.1.2.2.2.1, .u16 x.2.2.1.2.2.2.2.1, .b x.2.2.1.2.2.2.2.2.1, .u16 x.2.2.1.2.2.2.2.2.2.1, .s x.2.2.1.2.2.2.2.2.2.2.1, .b x.2.2.1.2.2.2.2.2.2.2.2.1, .b x.2.2.1.2.2.2.2.2.2.2.2.2.1, .b x.2.2.1.2.2.2.2.2.2.2.2.2.2.1, .u8 x.2.2.1.2.2.2.2.2.2.2.2.2.2.2.1, .b x.2.2.1.2.2.2.2.2.2.2.2.2.2.2.2.1, .ow 4 x.2.2.1.2.2.2.2.2.2.2.2.2.2.2.2.2.1, .s x.2.2.1.2.2.2.2.2.2.2.2.2.2.2.2.2.2.1, .s x.2.2.1.2.2.2.2.2.2.2.2.2.2.2.2.2.2.2.1, .s x.2.2.1.2.2.2.2.2.2.2.2.2.2.2.2.2.2.2.2.1, .s x.2.2.1.2.2.2.2.2.2.2.2.2.2.2.2.2.2.2.2.2.1, .b x.2.2.1.2.2.2.2.2.2.2.2.2.2.2.2.2.2.2.2.2.2.1, .u8 x.2.2.1.2.2.2.2.2.2.2.2.2.2.2.2.2.2.2.2.2.2.2.1, .s x.2.2.1.2.2.2.2.2.2.2.2.2.2.2.2.2.2.2.2.2.2.2.2.1, .s x.2.2.1.2.2.2.2.2.2.2.2.2.2.2.2.2.2.2.2.2.2.2.2.2.1, .ow 5 x.2.2.1.2.2.2.2.2.2.2.2.2.2.2.2.2.2.2.2.2.2.2.2.2.2.1, .bo x.2.2.1.2.2.2.2.2.2.2.2.2.2.2.2.2.2.2.2.2.2.2.2.2.2.2.1, .ow 4 x.2.2.1.2.2.2.2.2.2.2.2.2.2.2.2.2.2.2.2.2.2.2.2.2.2.2.2.1], [.n .i64 z.2.Kind, .b z.2.Dup, .b z.2.Retain, .u8 z.2.QoS, .u16 z.2.Id, .b z.2.Clean, .u16 z.2.Keep, .s z.2.Client, .b z.2.HasWill, .b z.2.HasUser, .b z.2.HasPass, .u8 z.2.WillQoS, .b z.2.WillRetain, .sl 4 z.2.WillProps, .s z.2.WillTopic, .s z.2.WillLoad, .s z.2.User, .s z.2.Pass, .b z.2.Present, .u8 z.2.Code, .s z.2.Topic, .s z.2.Load, .ow 5 z.2.Filters, .bs z.2.Codes, .sl 4 z.2.Props]]⟩) (fun x y => ((.exit 0), ⟨[(2, .ref 1 0), (3, .ref 2 0)], [[.n .i64 x.2.1.1, .b x.2.1.2.1, .b x.2.1.2.2.1, .u8 x.2.1.2.2.2.1, .u16 x.2.1.2.2.2.2.1, .b x.2.1.2.2.2.2.2.1, .u16 x.2.1.2.2.2.2.2.2.1, .s x.2.1.2.2.2.2.2.2.2.1, .b x.2.1.2.2.2.2.2.2.2.2.1, .b x.2.1.2.2.2.2.2.2.2.2.2.1, .b x.2.1.2.2.2.2.2.2.2.2.2.2.1, .u8 x.2.1.2.2.2.2.2.2.2.2.2.2.2.1, .b x.2.1.2.2.2.2.2.2.2.2.2.2.2.2.1, .sl 1 x.2.1.2.2.2.2.2.2.2.2.2.2.2.2.2.1, .s x.2.1.2.2.2.2.2.2.2.2.2.2.2.2.2.2.1, .s x.2.1.2.2.2.2.2.2.2.2.2.2.2.2.2.2.2.1, .s x.2.1.2.2.2.2.2.2.2.2.2.2.2.2.2.2.2.2.1, .s x.2.1.2.2.2.2.2.2.2.2.2.2.2.2.2.2.2.2.2.1, .b x.2.1.2.2.2.2.2.2.2.2.2.2.2.2.2.2.2.2.2.2.1, .u8 x.2.1.2.2.2.2.2.2.2.2.2.2.2.2.2.2.2.2.2.2.2.1, .s x.2.1.2.2.2.2.2.2.2.2.2.2.2.2.2.2.2.2.2.2.2.2.1, .s x.2.1.2.2.2.2.2.2.2.2.2.2.2.2.2.2.2.2.2.2.2.2.2.1, .sl 2 x.2.1.2.2.2.2.2.2.2.2.2.2.2.2.2.2.2.2.2.2.2.2.2.2.1, .bs x.2.1.2.2.2.2.2.2.2.2.2.2.2.2.2.2.2.2.2.2.2.2.2.2.2.1, .sl 1 x.2.1.2.2.2.2.2.2.2.2.2.2.2.2.2.2.2.2.2.2.2.2.2.2.2.2.1], [.n .i64 x.2.2.1.1, .b x.2.2.1.2.1, .b x.2.2.1.2.2.1, .u8 x.2.2.1.2.2.2.1, .u16 x.2.2.1.2.2.2.2.1, .b x.2.2.1.2.2.2.2.2.1, .u16 x.2.2.1.2.2.2.2.2.2.1, .s x.2.2.1.2.2.2.2.2.2.2.1, .b x.2.2.1.2.2.2.2.2.2.2.2.1, .b x.2.2.1.2.2.2.2.2.2.2.2.2.1, .b x.2.2.1.2.2.2.2.2.2.2.2.2.2.1, .u8 x.2.2.1.2.2.2.2.2.2.2.2.2.2.2.1, .b x.2.2.1.2.2.2.2.2.2.2.2.2.2.2.2.1, .ow 4 x.2.2.1.2.2.2.2.2.2.2.2.2.2.2.2.2.1, .s x.2.2.1.2.2.2.2.2.2.2.2.2.2.2.2.2.2.1, .s x.2.2.1.2.2.2.2.2.2.2.2.2.2.2.2.2.2.2.1, .s x.2.2.1.2.2.2.2.2.2.2.2.2.2.2.2.2.2.2.2.1, .s x.2.2.1.2.2.2.2.2.2.2.2.2.2.2.2.2.2.2.2.2.1, .b x.2.2.1.2.2.2.2.2.2.2.2.2.2.2.2.2.2.2.2.2.2.1, .u8 x.2.2.1.2.2.2.2.2.2.2.2.2.2.2.2.2.2.2.2.2.2.2.1, .s x.2.2.1.2.2.2.2.2.2.2.2.2.2.2.2.2.2.2.2.2.2.2.2.1, .s x.2.2.1.2.2.2.2.2.2.2.2.2.2.2.2.2.2.2.2.2.2.2.2.2.1, .ow 5 x.2.2.1.2.2.2.2.2.2.2.2.2.2.2.2.2.2.2.2.2.2.2.2.2.2.1, .bo x.2.2.1.2.2.2.2.2.2.2.2.2.2.2.2.2.2.2.2.2.2.2.2.2.2.2.1, .ow 4 x.2.2.1.2.2.2.2.2.2.2.2.2.2.2.2.2.2.2.2.2.2.2.2.2.2.2.2.1], [.n .i64 y.Kind, .b y.Dup, .b y.Retain, .u8 y.QoS, .u16 y.Id, .b y.Clean, .u16 y.Keep, .s y.Client, .b y.HasWill, .b y.HasUser, .b y.HasPass, .u8 y.WillQoS, .b y.WillRetain, .sl 4 y.WillProps, .s y.WillTopic, .s y.WillLoad, .s y.User, .s y.Pass, .b y.Present, .u8 y.Code, .s y.Topic, .s y.Load, .ow 5 y.Filters, .bs y.Codes, .sl 4 y.Props]]⟩)) (fun t => (prjS tab 0 l07_To_s0 t).bind fun x => some (x.1.2.2.2.1, (⟨x.2.2.2.1.1, x.2.2.2.1.2.1, x.2.2.2.1.2.2.1, x.2.2.2.1.2.2.2.1, x.2.2.2.1.2.2.2.2.1, x.2.2.2.1.2.2.2.2.2.1, x.2.2.2.1.2.2.2.2.2.2.1, x.2.2.2.1.2.2.2.2.2.2.2.1, x.2.2.2.1.2.2.2.2.2.2.2.2.1, x.2.2.2.1.2.2.2.2.2.2.2.2.2.1, x.2.2.2.1.2.2.2.2.2.2.2.2.2.2.1, x.2.2.2.1.2.2.2.2.2.2.2.2.2.2.2.1, x.2.2.2.1.2.2.2.2.2.2.2.2.2.2.2.2.1, x.2.2.2.1.2.2.2.2.2.2.2.2.2.2.2.2.2.1, x.2.2.2.1.2.2.2.2.2.2.2.2.2.2.2.2.2.2.1, x.2.2.2.1.2.2.2.2.2.2.2.2.2.2.2.2.2.2.2.1, x.2.2.2.1.2.2.2.2.2.2.2.2.2.2.2.2.2.2.2.2.1, x.2.2.2.1.2.2.2.2.2.2.2.2.2.2.2.2.2.2.2.2.2.1, x.2.2.2.1.2.2.2.2.2.2.2.2.2.2.2.2.2.2.2.2.2.2.1, x.2.2.2.1.2.2.2.2.2.2.2.2.2.2.2.2.2.2.2.2.2.2.2.1, x.2.2.2.1.2.2.2.2.2.2.2.2.2.2.2.2.2.2.2.2.2.2.2.2.1, x.2.2.2.1.2.2.2.2.2.2.2.2.2.2.2.2.2.2.2.2.2.2.2.2.2.1, x.2.2.2.1.2.2.2.2.2.2.2.2.2.2.2.2.2.2.2.2.2.2.2.2.2.2.1, x.2.2.2.1.2.2.2.2.2.2.2.2.2.2.2.2.2.2.2.2.2.2.2.2.2.2.2.1, x.2.2.2.1.2.2.2.2.2.2.2.2.2.2.2.2.2.2.2.2.2.2.2.2.2.2.2.2.1⟩ : fn54))) (fun e t => (if eqE e (.exit 0) then (prjS tab 0 ⟨[(2, rS 1 0), (3, rS 2 0)], [[iS, bS, bS, u8S, u16S, bS, u16S, sS, bS, bS, bS, u8S, bS, lS 1, sS, sS, sS, sS, bS, u8S, sS, sS, lS 2, bsS, lS 1], [iS, bS, bS, u8S, u16S, bS, u16S, sS, bS, bS, bS, u8S, bS, wS 4, sS, sS, sS, sS, bS, u8S, sS, sS, wS 5, boS, wS 4], [iS, bS, bS, u8S, u16S, bS, u16S, sS, bS, bS, bS, u8S, bS, lS 4, sS, sS, sS, sS, bS, u8S, sS, sS, wS 5, bsS, lS 4]]⟩ t).bind fun v => some (⟨v.2.2.2.1.1, v.2.2.2.1.2.1, v.2.2.2.1.2.2.1, v.2.2.2.1.2.2.2.1, v.2.2.2.1.2.2.2.2.1, v.2.2.2.1.2.2.2.2.2.1, v.2.2.2.1.2.2.2.2.2.2.1, v.2.2.2.1.2.2.2.2.2.2.2.1, v.2.2.2.1.2.2.2.2.2.2.2.2.1, v.2.2.2.1.2.2.2.2.2.2.2.2.2.1, v.2.2.2.1.2.2.2.2.2.2.2.2.2.2.1, v.2.2.2.1.2.2.2.2.2.2.2.2.2.2.2.1, v.2.2.2.1.2.2.2.2.2.2.2.2.2.2.2.2.1, v.2.2.2.1.2.2.2.2.2.2.2.2.2.2.2.2.2.1, v.2.2.2.1.2.2.2.2.2.2.2.2.2.2.2.2.2.2.1, v.2.2.2.1.2.2.2.2.2.2.2.2.2.2.2.2.2.2.2.1, v.2.2.2.1.2.2.2.2.2.2.2.2.2.2.2.2.2.2.2.2.1, v.2.2.2.1.2.2.2.2.2.2.2.2.2.2.2.2.2.2.2.2.2.1, v.2.2.2.1.2.2.2.2.2.2.2.2.2.2.2.2.2.2.2.2.2.2.1, v.2.2.2.1.2.2.2.2.2.2.2.2.2.2.2.2.2.2.2.2.2.2.2.1, v.2.2.2.1.2.2.2.2.2.2.2.2.2.2.2.2.2.2.2.2.2.2.2.2.1, v.2.2.2.1.2.2.2.2.2.2.2.2.2.2.2.2.2.2.2.2.2.2.2.2.2.1, v.2.2.2.1.2.2.2.2.2.2.2.2.2.2.2.2.2.2.2.2.2.2.2.2.2.2.1, v.2.2.2.1.2.2.2.2.2.2.2.2.2.2.2.2.2.2.2.2.2.2.2.2.2.2.2.1, v.2.2.2.1.2.2.2.2.2.2.2.2.2.2.2.2.2.2.2.2.2.2.2.2.2.2.2.2.1⟩ : fn54) else none))
def l07_To_p : TCode Tb :=
(.seq (.reg [(Op .box [.m 0] 1), (Op (.alloc zV0) [] 2)] none)
(.seq (.reg [(Fav 0 1 5), (Ld 5 6), (Fav 1 1 7), (Ld 7 8), (Fav 2 1 9), (Ld 9 10), (Fav 3 1 11), (Ld 11 12), (Fav 4 1 13), (Ld 13 14), (Fav 5 1 15), (Ld 15 16), (Fav 6 1 17), (Ld 17 18), (Fav 7 1 19), (Ld 19 20), (Fav 8 1 21), (Ld 21 22), (Fav 9 1 23), (Ld 23 24), (Fav 10 1 25), (Ld 25 26), (Fav 11 1 27), (Ld 27 28), (Fav 12 1 29), (Ld 29 30), (Fav 13 1 31), (Ld 31 32), (Op (.call (some 39) 0) [.m 32] 33), (Fav 14 1 34), (Ld 34 35), (Fav 15 1 36), (Ld 36 37), (Fav 16 1 38), (Ld 38 39), (Fav 17 1 40), (Ld 40 41), (Fav 18 1 42), (Ld 42 43), (Fav 19 1 44), (Ld 44 45), (Fav 20 1 46), (Ld 46 47), (Fav 21 1 48), (Ld 48 49), (Op (.b8 0 []) [] 50), (Fav 23 1 51), (Ld 51 52), (Op (.app 1 1) [.m 50, .m 52] 53), (Fav 24 1 54), (Ld 54 55), (Op (.call (some 39) 0) [.m 55] 56), (Op (.build zV0 [(0, 1), (1, 1), (2, 1), (3, 1), (4, 1), (5, 1), (6, 1), (7, 1), (8, 1), (9, 1), (10, 1), (11, 1), (12, 1), (13, 1), (14, 1), (15, 1), (16, 1), (17, 1), (18, 1), (19, 1), (20, 1), (21, 1), (23, 1), (24, 1)]) [.m 6, .m 8, .m 10, .m 12, .m 14, .m 16, .m 18, .m 20, .m 22, .m 24, .m 26, .m 28, .m 30, .m 33, .m 35, .m 37, .m 39, .m 41, .m 43, .m 45, .m 47, .m 49, .m 53, .m 56] 57), (Op (.alloc zV0) [] 3), (Do (.store 25) [.v 3, .m 57])] (some [[], [], [], [1], [], [1, 3], [], [1, 3, 5], [], [1, 3, 5, 7], [], [1, 3, 5, 7, 9], [], [1, 3, 5, 7, 9, 11], [], [1, 3, 5, 7, 9, 11, 13], [], [1, 3, 5, 7, 9, 11, 13, 15], [], [1, 3, 5, 7, 9, 11, 13, 15, 17], [], [1, 3, 5, 7, 9, 11, 13, 15, 17, 19], [], [1, 3, 5, 7, 9, 11, 13, 15, 17, 19, 21], [], [1, 3, 5, 7, 9, 11, 13, 15, 17, 19, 21, 23], [], [1, 3, 5, 7, 9, 11, 13, 15, 17, 19, 21, 23, 25], [1, 3, 5, 7, 9, 11, 13, 15, 17, 19, 21, 23, 25], [], [1, 3, 5, 7, 9, 11, 13, 15, 17, 19, 21, 23, 25, 27, 28], [], [1, 3, 5, 7, 9, 11, 13, 15, 17, 19, 21, 23, 25, 27, 28, 30], [], [1, 3, 5, 7, 9, 11, 13, 15, 17, 19, 21, 23, 25, 27, 28, 30, 32], [], [1, 3, 5, 7, 9, 11, 13, 15, 17, 19, 21, 23, 25, 27, 28, 30, 32, 34], [], [1, 3, 5, 7, 9, 11, 13, 15, 17, 19, 21, 23, 25, 27, 28, 30, 32, 34, 36], [], [1, 3, 5, 7, 9, 11, 13, 15, 17, 19, 21, 23, 25, 27, 28, 30, 32, 34, 36, 38], [], [1, 3, 5, 7, 9, 11, 13, 15, 17, 19, 21, 23, 25, 27, 28, 30, 32, 34, 36, 38, 40], [], [1, 3, 5, 7, 9, 11, 13, 15, 17, 19, 21, 23, 25, 27, 28, 30, 32, 34, 36, 38, 40, 42], [], [], [1, 3, 5, 7, 9, 11, 13, 15, 17, 19, 21, 23, 25, 27, 28, 30, 32, 34, 36, 38, 40, 42, 44], [], [], [1, 3, 5, 7, 9, 11, 13, 15, 17, 19, 21, 23, 25, 27, 28, 30, 32, 34, 36, 38, 40, 42, 44, 47], [1, 3, 5, 7, 9, 11, 13, 15, 17, 19, 21, 23, 25, 30, 32, 34, 36, 38, 40, 42, 44], [], [1, 3, 5, 7, 9, 11, 13, 15, 17, 19, 21, 23, 25, 27, 28, 30, 32, 34, 36, 38, 40, 42, 44, 47, 50, 51], []]))
(.seq (.seq (.reg [(Op .mv [ki 0] 4)] none)
(.block 0 (.cut 0 l07_To_o0 (.loop l07_To_p0))))
(.seq (.reg [(Op (.load (some 25)) [.m 3] 83), (Do (.store 25) [.v 2, .m 83])] none)
.ret))))
def l07_To_w : Orc Tb := mkOrc (Y := fn54) tab [.g (.st 3)] [] (fun x h => l07_To (x.1 : fn105)) (fun _ y k => k (.agg (injL tab hS1 (tabUn 6 y))) [])
theorem l07_To_k : WK l07_To_w 15 := orcD (Y := fn54) (c := l07_To_p) (res := [.cell 2 (some 25)]) (n := 84) (R := (RSp.one (Y := fn54) tab (.g (.st 6)) [] (fun a b => (a : fn54)) (fun y => (y : fn54)) (fun y => ()))) l07_To_rk oneD Tryz.func15 (cS uC (cS uC (cS (cS uC (cB (cT l07_To_q0))) uC)))
def fn139_r : Orcs Tb := []
theorem fn139_rk : RK fn139_r := yv743
def fn139_p0 : TCode Tb :=
(.seq (.seq (.reg [(Op .mv [.v 5] 11), (Op .mv [.v 0] 12), (Op .len [.m 12] 13), (Op (bi .lss) [.m 11, .m 13] 14)] none)
(.cond 14 (.drop [14] .skip)
(.drop [0, 1, 5, 14] (.exit 0))))
(.seq (.block 1 (.seq (.reg [(Op .mv [.v 0] 17), (Op .mv [.v 5] 18), (Op (.ia 4) [.v 17, .m 18] 19), (Op (.load (some 4)) [.m 19] 20), (Op .mv [.v 1] 21), (Op .mv [.v 5] 22), (Op (.ia 4) [.v 21, .m 22] 23), (Op (.load (some 4)) [.m 23] 24), (Op (.eqs true [.i, .i, .s, .s]) [.m 20, .m 24] 25)] (some [[], [], [], [], [], [], [], [3], []]))
(.cond 25 (.drop [0, 1, 5, 17, 21, 25] (.seq (.reg [(Op .mv [kf] 4)] none)
.ret))
(.drop [17, 21, 25] .skip))))
(.reg [(Mv 5 15), (Op (bi .add) [.m 15, ki 1] 16), (Mv 16 5)] none)))
def fn139_s0 : SSh := ⟨[(0, lS 1), (1, lS 1), (5, iS)], []⟩
def fn139_o0 : Cut Tb := cutL tab 0 fn139_s0 (fun x => x.1.2.2.1) (fun x => fn139_l0 x.1.1 x.1.2.1) (fun _ x y k => match y with | .inl y => k .ret ⟨[(4, .b false)], []⟩ | .inr y => k (.exit 0) ⟨[], []⟩)
theorem fn139_q0 : CK fn139_o0 0 (.loop fn139_p0) := yv752 (c := fn139_p0) (Z := Int) (Y := Unit ⊕ Unit) tabOk fn139_rk uC (fun _ x z b e => fn139_b0 x.1.1 x.1.2.1 z (fun x5 => b x5) (e (.inl ())) (e (.inr ()))) (fun x z => ⟨[(0, .sl 1 x.1.1), (1, .sl 1 x.1.2.1), (5, .n .i64 z)], []⟩) (fun x y => match y with | .inl y => (.ret, ⟨[(4, .b false)], []⟩) | .inr y => ((.exit 0), ⟨[], []⟩)) (fun t => (prjS tab 0 fn139_s0 t).bind fun x => some x.1.2.2.1) (fun e t => (if eqE e .ret then yv543 ((prjS tab 0 ⟨[(4, .g (.f (.cb false)))], []⟩ t).bind fun v => some (.inl ())) (if eqE e (.exit 0) then (prjS tab 0 ⟨[], []⟩ t).bind fun v => some (.inr ()) else none) else (if eqE e (.exit 0) then (prjS tab 0 ⟨[], []⟩ t).bind fun v => some (.inr ()) else none))) (fun x => by kernel_rfl) (fun x z => by kernel_rfl) (fun x y k => by rcases y with y | y <;> kernel_rfl) (fun x y => by rcases y with y | y <;> exact nofun) (fun x z => by kernel_rfl) (fun x y => by rcases y with y | y <;> kernel_rfl) (fun x z k => by kernel_rfl)
def fn139_p : TCode Tb :=
(.seq (.reg [(Op .mv [kf] 4)] none)
(.seq (.seq (.reg [(Op .mv [.v 0] 6), (Op .len [.m 6] 7), (Op .mv [.v 1] 8), (Op .len [.m 8] 9), (Op (bi .neq) [.m 7, .m 9] 10)] none)
(.cond 10 (.drop [0, 1, 4, 10] (.seq (.reg [(Op .mv [kf] 4)] none)
.ret))
(.drop [4, 10] .skip)))
(.seq (.seq (.reg [(Op .mv [ki 0] 5)] none)
(.block 0 (.cut 0 fn139_o0 (.loop fn139_p0))))
(.seq (.reg [(Op .mv [kt] 4)] none)
.ret))))
def fn139_w : Orc Tb := mkOrc (Y := Bool) tab [lS 1, lS 1] [] (fun x h => fn139 x.1 x.2.1) (fun _ y k => k (.b y) [])
theorem fn139_k : WK fn139_w 50 := orcD (Y := Bool) (c := fn139_p) (res := [.tmp 4]) (n := 26) (R := (RSp.one (Y := Bool) tab (bS) [] (fun a b => a) (fun y => y) (fun y => ()))) fn139_rk oneD Tryz.func50 (cS uC (cS uC (cS (cS uC (cB (cT fn139_q0))) uC)))
def fn140_r : Orcs Tb := [(50, fn139_w)]
theorem fn140_rk : RK fn140_r := (yv720 fn139_k yv743)
def fn140_p0 : TCode Tb :=
(.seq (.seq (.reg [(Op .mv [.v 5] 38), (Fav 22 2 39), (Ld 39 40), (Op .len [.m 40] 41), (Op (bi .lss) [.m 38, .m 41] 42)] none)
(.cond 42 (.drop [42] .skip)
(.drop [5, 42] (.exit 0))))
(.seq (.block 1 (.seq (.reg [(Fav 22 2 45), (Ld 45 46), (Op .mv [.v 5] 47), (Op (.ia 2) [.v 46, .m 47] 48), (Op (.load (some 2)) [.m 48] 49), (Fav 22 3 50), (Ld 50 51), (Op .mv [.v 5] 52), (Op (.ia 2) [.v 51, .m 52] 53), (Op (.load (some 2)) [.m 53] 54), (Op (.eqs true [.s, .i]) [.m 49, .m 54] 55)] (some [[], [], [], [], [], [], [1, 4], [], [], [1, 4], []]))
(.cond 55 (.drop [2, 3, 5, 46, 51, 55] (.seq (.reg [(Op .mv [kf] 4)] none)
.ret))
(.drop [46, 51, 55] .skip))))
(.reg [(Mv 5 43), (Op (bi .add) [.m 43, ki 1] 44), (Mv 44 5)] none)))
def fn140_s0 : SSh := ⟨[(2, rS 0 0), (3, rS 1 0), (5, iS)], [hS0, hS0]⟩
def fn140_o0 : Cut Tb := cutL tab 0 fn140_s0 (fun x => x.1.2.2.1) (fun x => fn140_l0 (tabBk 3 x.2.1 : fn105) (tabBk 3 x.2.2.1 : fn105)) (fun _ x y k => match y with | .inl y => k .ret ⟨[(4, .b false)], [(injL tab hS0 x.2.1), (injL tab hS0 x.2.2.1)]⟩ | .inr y => k (.exit 0) ⟨[(2, .ref 0 0), (3, .ref 1 0)], [(injL tab hS0 x.2.1), (injL tab hS0 x.2.2.1)]⟩)
theorem fn140_q0 : CK fn140_o0 0 (.loop fn140_p0) := yv752 (c := fn140_p0) (Z := Int) (Y := Unit ⊕ Unit) tabOk fn140_rk uC (fun _ x z b e => fn140_b0 (tabBk 3 x.2.1 : fn105) (tabBk 3 x.2.2.1 : fn105) z (fun x5 => b x5) (e (.inl ())) (e (.inr ()))) (fun x z => ⟨[(2, .ref 0 0), (3, .ref 1 0), (5, .n .i64 z)], [(injL tab hS0 x.2.1), (injL tab hS0 x.2.2.1)]⟩) (fun x y => match y with | .inl y => (.ret, ⟨[(4, .b false)], [(injL tab hS0 x.2.1), (injL tab hS0 x.2.2.1)]⟩) | .inr y => ((.exit 0), ⟨[(2, .ref 0 0), (3, .ref 1 0)], [(injL tab hS0 x.2.1), (injL tab hS0 x.2.2.1)]⟩)) (fun t => (prjS tab 0 fn140_s0 t).bind fun x => some x.1.2.2.1) (fun e t => (if eqE e .ret then yv543 ((prjS tab 0 ⟨[(4, .g (.f (.cb false)))], [hS0, hS0]⟩ t).bind fun v => some (.inl ())) (if eqE e (.exit 0) then (prjS tab 0 ⟨[(2, rS 0 0), (3, rS 1 0)], [hS0, hS0]⟩ t).bind fun v => some (.inr ()) else none) else (if eqE e (.exit 0) then (prjS tab 0 ⟨[(2, rS 0 0), (3, rS 1 0)], [hS0, hS0]⟩ t).bind fun v => some (.inr ()) else none))) (fun x => by kernel_rfl) (fun x z => by kernel_rfl) (fun x y k => by rcases y with y | y <;> kernel_rfl) (fun x y => by rcases y with y | y <;> exact nofun) (fun x z => by kernel_rfl) (fun x y => by rcases y with y | y <;> kernel_rfl) (fun x z k => by kernel_rfl)
def fn140_p : TCode Tb :=
(.seq (.reg [(Op .box [.m 0] 2), (Op .box [.m 1] 3), (Op .mv [kf] 4)] none)
(.seq (.seq (.reg [(Fav 22 2 6), (Ld 6 7), (Op .len [.m 7] 8), (Fav 22 3 9), (Ld 9 10), (Op .len [.m 10] 11), (Op (bi .neq) [.m 8, .m 11] 12), (Mv 12 13), (No (.fa 23) [.v 2] 14 13), (No ld [.m 14] 15 13), (No .b2s [.m 15] 16 13), (No (.fa 23) [.v 3] 17 13), (No ld [.m 17] 18 13), (No .b2s [.m 18] 19 13), (No (.bin .neq .s) [.m 16, .m 19] 20 13), (Op .pick [.m 13, kt, .m 20] 21), (Mv 21 22), (No (.fa 24) [.v 2] 23 22), (No ld [.m 23] 24 22), (No (.fa 24) [.v 3] 25 22), (No ld [.m 25] 26 22), (No (.call (some 50) 0) [.m 24, .m 26] 27 22), (No (.un .not) [.m 27] 28 22), (Op .pick [.m 22, kt, .m 28] 29), (Mv 29 30), (No (.fa 13) [.v 2] 31 30), (No ld [.m 31] 32 30), (No (.fa 13) [.v 3] 33 30), (No ld [.m 33] 34 30), (No (.call (some 50) 0) [.m 32, .m 34] 35 30), (No (.un .not) [.m 35] 36 30), (Op .pick [.m 30, kt, .m 36] 37)] none)
(.drop [4, 14, 15, 16, 17, 18, 19, 23, 24, 25, 26, 27, 31, 32, 33, 34, 35] (.cond 37 (.drop [2, 3, 37] (.seq (.reg [(Op .mv [kf] 4)] none)
.ret))
(.drop [37] .skip))))
(.seq (.seq (.reg [(Op .mv [ki 0] 5)] none)
(.block 0 (.cut 0 fn140_o0 (.loop fn140_p0))))
(.seq (.seq (.reg [(Fav 0 2 56), (Ld 56 57), (Fav 0 3 58), (Ld 58 59), (Op (bi .neq) [.m 57, .m 59] 60), (Mv 60 61), (No (.fa 1) [.v 2] 62 61), (No ld [.m 62] 63 61), (No (.fa 1) [.v 3] 64 61), (No ld [.m 64] 65 61), (No (.bin .neq .b) [.m 63, .m 65] 66 61), (Op .pick [.m 61, kt, .m 66] 67), (Mv 67 68), (No (.fa 2) [.v 2] 69 68), (No ld [.m 69] 70 68), (No (.fa 2) [.v 3] 71 68), (No ld [.m 71] 72 68), (No (.bin .neq .b) [.m 70, .m 72] 73 68), (Op .pick [.m 68, kt, .m 73] 74), (Mv 74 75), (No (.fa 3) [.v 2] 76 75), (No ld [.m 76] 77 75), (No (.fa 3) [.v 3] 78 75), (No ld [.m 78] 79 75), (No (bi .neq) [.m 77, .m 79] 80 75), (Op .pick [.m 75, kt, .m 80] 81), (Mv 81 82), (No (.fa 4) [.v 2] 83 82), (No ld [.m 83] 84 82), (No (.fa 4) [.v 3] 85 82), (No ld [.m 85] 86 82), (No (bi .neq) [.m 84, .m 86] 87 82), (Op .pick [.m 82, kt, .m 87] 88), (Mv 88 89), (No (.fa 5) [.v 2] 90 89), (No ld [.m 90] 91 89), (No (.fa 5) [.v 3] 92 89), (No ld [.m 92] 93 89), (No (.bin .neq .b) [.m 91, .m 93] 94 89), (Op .pick [.m 89, kt, .m 94] 95), (Mv 95 96), (No (.fa 6) [.v 2] 97 96), (No ld [.m 97] 98 96), (No (.fa 6) [.v 3] 99 96), (No ld [.m 99] 100 96), (No (bi .neq) [.m 98, .m 100] 101 96), (Op .pick [.m 96, kt, .m 101] 102), (Mv 102 103), (No (.fa 7) [.v 2] 104 103), (No ld [.m 104] 105 103), (No (.fa 7) [.v 3] 106 103), (No ld [.m 106] 107 103), (No (.bin .neq .s) [.m 105, .m 107] 108 103), (Op .pick [.m 103, kt, .m 108] 109), (Mv 109 110), (No (.fa 8) [.v 2] 111 110), (No ld [.m 111] 112 110), (No (.fa 8) [.v 3] 113 110), (No ld [.m 113] 114 110), (No (.bin .neq .b) [.m 112, .m 114] 115 110), (Op .pick [.m 110, kt, .m 115] 116), (Mv 116 117), (No (.fa 9) [.v 2] 118 117), (No ld [.m 118] 119 117), (No (.fa 9) [.v 3] 120 117), (No ld [.m 120] 121 117), (No (.bin .neq .b) [.m 119, .m 121] 122 117), (Op .pick [.m 117, kt, .m 122] 123), (Mv 123 124), (No (.fa 10) [.v 2] 125 124), (No ld [.m 125] 126 124), (No (.fa 10) [.v 3] 127 124), (No ld [.m 127] 128 124), (No (.bin .neq .b) [.m 126, .m 128] 129 124), (Op .pick [.m 124, kt, .m 129] 130)] none)
(.drop [62, 63, 64, 65, 69, 70, 71, 72, 76, 77, 78, 79, 83, 84, 85, 86, 90, 91, 92, 93, 97, 98, 99, 100, 104, 105, 106, 107, 111, 112, 113, 114, 118, 119, 120, 121, 125, 126, 127, 128] (.cond 130 (.drop [2, 3, 130] (.seq (.reg [(Op .mv [kf] 4)] none)
.ret))
(.drop [130] .skip))))
(.seq (.reg [(Fav 11 2 131), (Ld 131 132), (Fav 11 3 133), (Ld 133 134), (Op (bi .eql) [.m 132, .m 134] 135), (Mv 135 136), (Yes (.fa 12) [.v 2] 137 136), (Yes ld [.m 137] 138 136), (Yes (.fa 12) [.v 3] 139 136), (Yes ld [.m 139] 140 136), (Yes (.bin .eql .b) [.m 138, .m 140] 141 136), (Op .pick [.m 136, .m 141, kf] 142), (Mv 142 143), (Yes (.fa 14) [.v 2] 144 143), (Yes ld [.m 144] 145 143), (Yes (.fa 14) [.v 3] 146 143), (Yes ld [.m 146] 147 143), (Yes (.bin .eql .s) [.m 145, .m 147] 148 143), (Op .pick [.m 143, .m 148, kf] 149), (Mv 149 150), (Yes (.fa 15) [.v 2] 151 150), (Yes ld [.m 151] 152 150), (Yes (.fa 15) [.v 3] 153 150), (Yes ld [.m 153] 154 150), (Yes (.bin .eql .s) [.m 152, .m 154] 155 150), (Op .pick [.m 150, .m 155, kf] 156), (Mv 156 157), (Yes (.fa 16) [.v 2] 158 157), (Yes ld [.m 158] 159 157), (Yes (.fa 16) [.v 3] 160 157), (Yes ld [.m 160] 161 157), (Yes (.bin .eql .s) [.m 159, .m 161] 162 157), (Op .pick [.m 157, .m 162, kf] 163), (Mv 163 164), (Yes (.fa 17) [.v 2] 165 164), (Yes ld [.m 165] 166 164), (Yes (.fa 17) [.v 3] 167 164), (Yes ld [.m 167] 168 164), (Yes (.bin .eql .s) [.m 166, .m 168] 169 164), (Op .pick [.m 164, .m 169, kf] 170), (Mv 170 171), (Yes (.fa 18) [.v 2] 172 171), (Yes ld [.m 172] 173 171), (Yes (.fa 18) [.v 3] 174 171), (Yes ld [.m 174] 175 171), (Yes (.bin .eql .b) [.m 173, .m 175] 176 171), (Op .pick [.m 171, .m 176, kf] 177), (Mv 177 178), (Yes (.fa 19) [.v 2] 179 178), (Yes ld [.m 179] 180 178), (Yes (.fa 19) [.v 3] 181 178), (Yes ld [.m 181] 182 178), (Yes (bi .eql) [.m 180, .m 182] 183 178), (Op .pick [.m 178, .m 183, kf] 184), (Mv 184 185), (Yes (.fa 20) [.v 2] 186 185), (Yes ld [.m 186] 187 185), (Yes (.fa 20) [.v 3] 188 185), (Yes ld [.m 188] 189 185), (Yes (.bin .eql .s) [.m 187, .m 189] 190 185), (Op .pick [.m 185, .m 190, kf] 191), (Mv 191 192), (Yes (.fa 21) [.m 2] 193 192), (Yes ld [.m 193] 194 192), (Yes (.fa 21) [.m 3] 195 192), (Yes ld [.m 195] 196 192), (Yes (.bin .eql .s) [.m 194, .m 196] 197 192), (Op .pick [.m 192, .m 197, kf] 198), (Mv 198 4)] none)
(.drop [2, 3, 137, 138, 139, 140, 144, 145, 146, 147, 151, 152, 153, 154, 158, 159, 160, 161, 165, 166, 167, 168, 172, 173, 174, 175, 179, 180, 181, 182, 186, 187, 188, 189, 193, 194, 195, 196] .ret))))))
def fn140_w : Orc Tb := mkOrc (Y := Bool) tab [.g (.st 3), .g (.st 3)] [] (fun x h => fn140 (x.1 : fn105) (x.2.1 : fn105)) (fun _ y k => k (.b y) [])
theorem fn140_k : WK fn140_w 18 := orcD (Y := Bool) (c := fn140_p) (res := [.tmp 4]) (n := 199) (R := (RSp.one (Y := Bool) tab (bS) [] (fun a b => a) (fun y => y) (fun y => ()))) fn140_rk oneD Tryz.func18 (cS uC (cS uC (cS (cS uC (cB (cT fn140_q0))) uC)))
def fn148_r : Orcs Tb := []
theorem fn148_rk : RK fn148_r := yv743
def fn148_p : TCode Tb :=
(.seq (.reg [(Op .mv [.k (.s [])] 2)] none)
(.seq (.reg [(Op (.bslice 8 15 ([] : List UInt8) [0, 1, 2, 3, 4, 5, 6, 7, 8, 9, 10, 11, 12, 13, 14]) [.k (.s [99, 111, 110, 110, 101, 99, 116]), .k (.s [99, 111, 110, 110, 97, 99, 107]), .k (.s [112, 117, 98, 108, 105, 115, 104]), .k (.s [112, 117, 98, 97, 99, 107]), .k (.s [112, 117, 98, 114, 101, 99]), .k (.s [112, 117, 98, 114, 101, 108]), .k (.s [112, 117, 98, 99, 111, 109, 112]), .k (.s [115, 117, 98, 115, 99, 114, 105, 98, 101]), .k (.s [115, 117, 98, 97, 99, 107]), .k (.s [117, 110, 115, 117, 98, 115, 99, 114, 105, 98, 101]), .k (.s [117, 110, 115, 117, 98, 97, 99, 107]), .k (.s [112, 105, 110, 103, 114, 101, 113]), .k (.s [112, 105, 110, 103, 114, 101, 115, 112]), .k (.s [100, 105, 115, 99, 111, 110, 110, 101, 99, 116]), .k (.s [97, 117, 116, 104])] 4), (Mv 4 3)] none)
(.seq (.seq (.reg [(Op .mv [.v 0] 5), (Op (bi .lss) [.m 5, ki 1] 6), (Mv 6 7), (No .mv [.v 0] 8 7), (No (bi .gtr) [.m 8, ki 15] 9 7), (Op .pick [.m 7, kt, .m 9] 10)] none)
(.drop [2, 8] (.cond 10 (.drop [0, 3, 10] (.seq (.reg [(Op .mv [.k (.s [])] 2)] none)
.ret))
(.drop [10] .skip))))
(.seq (.reg [(Mv 3 11), (Mv 0 12), (Op (bi .sub) [.m 12, ki 1] 13), (Op (.ia 1) [.v 11, .m 13] 14), (Ld 14 15), (Mv 15 2)] none)
.ret))))
def fn148_w : Orc Tb := mkOrc (Y := (List UInt8)) tab [iS] [] (fun x h => fn148 x.1) (fun _ y k => k (.s y) [])
theorem fn148_k : WK fn148_w 24 := orcD (Y := (List UInt8)) (c := fn148_p) (res := [.tmp 2]) (n := 16) (R := (RSp.one (Y := (List UInt8)) tab (sS) [] (fun a b => a) (fun y => y) (fun y => ()))) fn148_rk oneD Tryz.func24 uC
def fn30_r : Orcs Tb := [(13, fn155_w), (14, fn137_w), (15, l07_To_w), (22, fn68_w), (18, fn140_w), (23, fn74_w), (24, fn148_w)]
theorem fn30_rk : RK fn30_r := (yv720 fn155_k (yv720 fn137_k (yv720 l07_To_k (yv720 fn68_k (yv720 fn140_k (yv720 fn74_k (yv720 fn148_k yv743)))))))
def fn30_p0 : TCode Tb :=
(.cond 14 (.drop [2, 3, 4, 14] (.seq (.reg [(Op (.call (some 14) 1) [] 15), (Mv 15 6)] none)
.ret))
(.drop [14] .skip))
def fn30_s0 : SSh := ⟨[(2, iS), (3, rS 0 0), (4, rS 1 0), (14, bS)], [hS0, hS0]⟩
def fn30_o0 : Cut Tb := cutJ tab 0 fn30_s0 (fun _ x k => fn30_c0 x.1.2.2.2.1 (fun y11 => k .ret ⟨[(6, .b y11)], [(injL tab hS0 x.2.1), (injL tab hS0 x.2.2.1)]⟩) (k .normal ⟨[(2, .n .i64 x.1.1), (3, .ref 0 0), (4, .ref 1 0)], [(injL tab hS0 x.2.1), (injL tab hS0 x.2.2.1)]⟩))
theorem fn30_q0 : CK fn30_o0 0 fn30_p0 := cutJD fn30_rk uC
def fn30_p1 : TCode Tb :=
(.seq (.reg [(Op (.call (some 14) 1) [] 16), (Mv 16 17), (Yes (.load (some 25)) [.v 3] 18 17), (Yes (.call (some 15) 2) [.m 18] 19 17), (Yes (.load (some 25)) [.v 4] 20 17), (Yes (.call (some 15) 2) [.m 20] 21 17), (Yes (.call (some 22) 3) [.m 19, .m 21] 22 17), (Yes (.load (some 25)) [.v 3] 23 17), (Yes (.load (some 25)) [.v 4] 24 17), (Yes (.call (some 18) 4) [.m 23, .m 24] 25 17), (Yes (.bin .eql .b) [.m 22, .m 25] 26 17), (Op .pick [.m 17, .m 26, kf] 27), (Mv 27 28), (Yes (.load (some 25)) [.v 3] 29 28), (Yes (.call (some 15) 2) [.m 29] 30 28), (Yes (.load (some 25)) [.v 3] 31 28), (Yes (.call (some 15) 2) [.m 31] 32 28), (Yes (.call (some 22) 3) [.m 30, .m 32] 33 28), (Op .pick [.m 28, .m 33, kf] 34), (Mv 34 35), (Yes .mv [.v 2] 36 35), (Yes (.call (some 23) 5) [.m 36] 37 35), (Yes .mv [.v 2] 38 35), (Yes (.call (some 24) 6) [.m 38] 39 35), (Yes (.bin .eql .s) [.m 37, .m 39] 40 35), (Op .pick [.m 35, .m 40, kf] 41), (Mv 41 6)] (some [[], [], [], [], [2, 3], [], [], [2, 3, 4, 5, 6], [2, 3, 4, 5, 6, 7], [], [], [], [], [], [], [13, 14], [], [], [], [], [], [], [], [], [], [], []]))
(.drop [2, 3, 4, 18, 19, 20, 21, 22, 23, 24, 25, 29, 30, 31, 32, 36, 37, 38, 39] .ret))
def fn30_s1 : SSh := ⟨[(2, iS), (3, rS 0 0), (4, rS 1 0)], [hS0, hS0]⟩
def fn30_o1 : Cut Tb := cutJ tab 0 fn30_s1 (fun _ x k => fn30_c1 x.1.1 (tabBk 3 x.2.1 : fn105) (tabBk 3 x.2.2.1 : fn105) (fun y27 => k .ret ⟨[(6, .b y27)], [(injL tab hS0 x.2.1), (injL tab hS0 x.2.2.1)]⟩))
theorem fn30_q1 : CK fn30_o1 0 fn30_p1 := cutJD fn30_rk uC
def fn30_p : TCode Tb :=
(.seq (.reg [(Op .box [.m 0] 3), (Op .box [.m 1] 4), (Op .mv [kf] 6)] none)
(.seq (.seq (.reg [(Op (.load (some 25)) [.v 3] 7), (Op (.call (some 13) 0) [.m 7] 8), (Op (.un .not) [.m 8] 9), (Mv 9 10), (No (.load (some 25)) [.v 4] 11 10), (No (.call (some 13) 0) [.m 11] 12 10), (No (.un .not) [.m 12] 13 10), (Op .pick [.m 10, kt, .m 13] 14)] none)
(.drop [6, 11, 12] (.cut 0 fn30_o0 fn30_p0)))
(.cut 0 fn30_o1 fn30_p1)))
def fn30_w : Orc Tb := mkOrc (Y := Bool) tab [.g (.st 3), .g (.st 3), iS] [] (fun x h => fn30 (x.1 : fn105) (x.2.1 : fn105) x.2.2.1) (fun _ y k => k (.b y) [])
theorem fn30_k : WK fn30_w 5 := orcD (Y := Bool) (c := fn30_p) (res := [.tmp 6]) (n := 42) (R := (RSp.one (Y := Bool) tab (bS) [] (fun a b => a) (fun y => y) (fun y => ()))) fn30_rk oneD Tryz.func5 (cS uC (cS (cS uC (cD (cT fn30_q0))) (cT fn30_q1)))
end Go.Rv
