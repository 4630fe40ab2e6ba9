/- That the program's functions are these plain functions. -/
import Derived.Test.YtlmnicmjhcblcaaGreatDoorWalk
import Derived.Test.YtlmnicmjhcblcaaGreatDoorChecked
set_option linter.unusedSimpArgs false
set_option linter.unusedVariables false
set_option maxRecDepth 100000
namespace Go.Rv
open Go.Proofs
def fn116_r : Orcs Tb := [(132, fn115_w), (97, fn144_w)]
theorem fn116_rk : RK fn116_r := (yv720 fn115_k (yv720 fn144_k yv743))
def fn116_p1 : TCode Tb :=
(.cond 20 (.drop [7, 20] (.seq (.reg [(Fam 1 1 25), (Ld 25 26), (Op (bi .neq) [.m 26, .k (.u32 (0 : UInt32))] 27), (Mv 27 2)] none)
.ret))
(.drop [20] (.seq (.reg [(Op (bi .eql) [.m 7, .k (.u8 (8 : UInt8))] 29), (Mv 29 28)] none)
(.cond 28 (.drop [28] (.seq (.reg [(Fam 2 1 30), (Ld 30 31), (Op (.call (some 97) 1) [.m 31] 32), (Mv 32 2)] none)
.ret))
(.drop [1, 28] .skip)))))
def fn116_s1 : SSh := ⟨[(1, rS 0 0), (7, u8S), (20, bS)], [[u8S, u32S, sS, sS]]⟩
def fn116_o1 : Cut Tb := cutJ tab 0 fn116_s1 (fun _ x k => fn116_c1 x.1.2.1 x.1.2.2.1 (tabBk 1 x.2.1 : fn153) (fun y10 => k .ret ⟨[(2, .b y10)], [[.u8 x.2.1.1, .u32 x.2.1.2.1, .s x.2.1.2.2.1, .s x.2.1.2.2.2.1]]⟩) (k .normal ⟨[], [[.u8 x.2.1.1, .u32 x.2.1.2.1, .s x.2.1.2.2.1, .s x.2.1.2.2.2.1]]⟩))
theorem fn116_q1 : CK fn116_o1 0 fn116_p1 := cutJD fn116_rk uC
def fn116_p0 : TCode Tb :=
(.cond 8 (.drop [7, 8] (.seq (.reg [(Fam 1 1 17), (Ld 17 18), (Op (bi .lss) [.m 18, .k (.u32 (2 : UInt32))] 19), (Mv 19 2)] none)
.ret))
(.drop [8] (.seq (.seq (.reg [(Op (bi .eql) [.v 7, .k (.u8 (11 : UInt8))] 21), (Mv 21 20)] none)
(.cond 20 .skip
(.drop [20] (.seq (.reg [(Op (bi .eql) [.v 7, .k (.u8 (33 : UInt8))] 22), (Mv 22 20)] none)
(.cond 20 .skip
(.drop [20] (.seq (.reg [(Op (bi .eql) [.v 7, .k (.u8 (35 : UInt8))] 23), (Mv 23 20)] none)
(.cond 20 .skip
(.drop [20] (.reg [(Op (bi .eql) [.v 7, .k (.u8 (39 : UInt8))] 24), (Mv 24 20)] none))))))))))
(.cut 0 fn116_o1 fn116_p1))))
def fn116_s0 : SSh := ⟨[(1, rS 0 0), (7, u8S), (8, bS)], [[u8S, u32S, sS, sS]]⟩
def fn116_o0 : Cut Tb := cutJ tab 0 fn116_s0 (fun _ x k => fn116_c0 x.1.2.1 x.1.2.2.1 (tabBk 1 x.2.1 : fn153) (fun y15 => k .ret ⟨[(2, .b y15)], [[.u8 x.2.1.1, .u32 x.2.1.2.1, .s x.2.1.2.2.1, .s x.2.1.2.2.2.1]]⟩) (k .normal ⟨[], [[.u8 x.2.1.1, .u32 x.2.1.2.1, .s x.2.1.2.2.1, .s x.2.1.2.2.2.1]]⟩))
theorem fn116_q0 : CK fn116_o0 0 fn116_p0 := cutJD fn116_rk (cC uC (cD (cS uC (cT fn116_q1))))
def fn116_p : TCode Tb :=
(.seq (.reg [(Op .box [.m 0] 1), (Op .mv [kf] 2)] none)
(.seq (.seq (.reg [(Op (.load (some 4)) [.v 1] 3), (Op (.call (some 132) 0) [.m 3] 4), (Op (.un .not) [.m 4] 5)] none)
(.cond 5 (.drop [1, 2, 5] (.seq (.reg [(Op .mv [kf] 2)] none)
.ret))
(.drop [2, 5] .skip)))
(.seq (.seq (.reg [(Fav 0 1 6), (Ld 6 7)] none)
(.block 0 (.seq (.seq (.reg [(Op (bi .eql) [.v 7, .k (.u8 (1 : UInt8))] 9), (Mv 9 8)] none)
(.cond 8 .skip
(.drop [8] (.seq (.reg [(Op (bi .eql) [.v 7, .k (.u8 (23 : UInt8))] 10), (Mv 10 8)] none)
(.cond 8 .skip
(.drop [8] (.seq (.reg [(Op (bi .eql) [.v 7, .k (.u8 (25 : UInt8))] 11), (Mv 11 8)] none)
(.cond 8 .skip
(.drop [8] (.seq (.reg [(Op (bi .eql) [.v 7, .k (.u8 (36 : UInt8))] 12), (Mv 12 8)] none)
(.cond 8 .skip
(.drop [8] (.seq (.reg [(Op (bi .eql) [.v 7, .k (.u8 (37 : UInt8))] 13), (Mv 13 8)] none)
(.cond 8 .skip
(.drop [8] (.seq (.reg [(Op (bi .eql) [.v 7, .k (.u8 (40 : UInt8))] 14), (Mv 14 8)] none)
(.cond 8 .skip
(.drop [8] (.seq (.reg [(Op (bi .eql) [.v 7, .k (.u8 (41 : UInt8))] 15), (Mv 15 8)] none)
(.cond 8 .skip
(.drop [8] (.reg [(Op (bi .eql) [.v 7, .k (.u8 (42 : UInt8))] 16), (Mv 16 8)] none))))))))))))))))))))))
(.cut 0 fn116_o0 fn116_p0))))
(.seq (.reg [(Op .mv [kt] 2)] none)
.ret))))
def fn116_w : Orc Tb := mkOrc (Y := Bool) tab [.g (.st 1)] [] (fun x h => fn116 (x.1 : fn153)) (fun _ y k => k (.b y) [])
theorem fn116_k : WK fn116_w 93 := orcD (Y := Bool) (c := fn116_p) (res := [.tmp 2]) (n := 33) (R := (RSp.one (Y := Bool) tab (bS) [] (fun a b => a) (fun y => y) (fun y => ()))) fn116_rk oneD Tryz.func93 (cS uC (cS uC (cS (cS uC (cB (cS uC (cT fn116_q0)))) uC)))
def fn117_r : Orcs Tb := []
theorem fn117_rk : RK fn117_r := yv743
def fn117_p4 : TCode Tb :=
(.cond 44 (.drop [3, 44] (.seq (.reg [(Op (.bslice 9 2 (0 : Int) [0, 1]) [ki 1, ki 2] 48), (Mv 48 2)] none)
.ret))
(.drop [44] (.seq (.reg [(Op (bi .eql) [.v 3, .k (.u8 (35 : UInt8))] 50), (Mv 50 49)] none)
(.cond 49 (.drop [3, 49] (.seq (.reg [(Op (.bslice 9 1 (0 : Int) [0]) [ki 3] 51), (Mv 51 2)] none)
.ret))
(.drop [49] (.seq (.reg [(Op (bi .eql) [.m 3, .k (.u8 (38 : UInt8))] 53), (Mv 53 52)] none)
(.cond 52 (.drop [52] (.seq (.reg [(Op (.bslice 9 14 (0 : Int) [0, 1, 2, 3, 4, 5, 6, 7, 8, 9, 10, 11, 12, 13]) [ki 1, ki 2, ki 3, ki 4, ki 5, ki 6, ki 7, ki 8, ki 9, ki 10, ki 11, ki 14, ki 15, ki 16] 54), (Mv 54 2)] none)
.ret))
(.drop [52] .skip))))))))
def fn117_s4 : SSh := ⟨[(3, u8S), (44, bS)], []⟩
def fn117_o4 : Cut Tb := cutJ tab 0 fn117_s4 (fun _ x k => fn117_c4 x.1.1 x.1.2.1 (fun y12 => k .ret ⟨[(2, .ow 9 y12)], []⟩) (k .normal ⟨[], []⟩))
theorem fn117_q4 : CK fn117_o4 0 fn117_p4 := cutJD fn117_rk uC
def fn117_p3 : TCode Tb :=
(.cond 31 (.drop [3, 31] (.seq (.reg [(Op (.bslice 9 1 (0 : Int) [0]) [ki 1] 34), (Mv 34 2)] none)
.ret))
(.drop [31] (.seq (.reg [(Op (bi .eql) [.v 3, .k (.u8 (24 : UInt8))] 36), (Mv 36 35)] none)
(.cond 35 (.drop [3, 35] (.seq (.reg [(Op (.bslice 9 1 (0 : Int) [0]) [ki 16] 37), (Mv 37 2)] none)
.ret))
(.drop [35] (.seq (.reg [(Op (bi .eql) [.v 3, .k (.u8 (28 : UInt8))] 39), (Mv 39 38)] none)
(.cond 38 (.drop [3, 38] (.seq (.reg [(Op (.bslice 9 2 (0 : Int) [0, 1]) [ki 2, ki 14] 40), (Mv 40 2)] none)
.ret))
(.drop [38] (.seq (.reg [(Op (bi .eql) [.v 3, .k (.u8 (31 : UInt8))] 42), (Mv 42 41)] none)
(.cond 41 (.drop [3, 41] (.seq (.reg [(Op (.bslice 9 9 (0 : Int) [0, 1, 2, 3, 4, 5, 6, 7, 8]) [ki 2, ki 4, ki 5, ki 6, ki 7, ki 9, ki 11, ki 14, ki 15] 43), (Mv 43 2)] none)
.ret))
(.drop [41] (.seq (.seq (.reg [(Op (bi .eql) [.v 3, .k (.u8 (33 : UInt8))] 45), (Mv 45 44)] none)
(.cond 44 .skip
(.drop [44] (.seq (.reg [(Op (bi .eql) [.v 3, .k (.u8 (34 : UInt8))] 46), (Mv 46 44)] none)
(.cond 44 .skip
(.drop [44] (.reg [(Op (bi .eql) [.v 3, .k (.u8 (39 : UInt8))] 47), (Mv 47 44)] none)))))))
(.cut 0 fn117_o4 fn117_p4)))))))))))))
def fn117_s3 : SSh := ⟨[(3, u8S), (31, bS)], []⟩
def fn117_o3 : Cut Tb := cutJ tab 0 fn117_s3 (fun _ x k => fn117_c3 x.1.1 x.1.2.1 (fun y16 => k .ret ⟨[(2, .ow 9 y16)], []⟩) (k .normal ⟨[], []⟩))
theorem fn117_q3 : CK fn117_o3 0 fn117_p3 := cutJD fn117_rk (cC uC (cD (cS uC (cC uC (cD (cS uC (cC uC (cD (cS uC (cC uC (cD (cS uC (cT fn117_q4)))))))))))))
def fn117_p2 : TCode Tb :=
(.cond 27 (.drop [3, 27] (.seq (.reg [(Op (.bslice 9 3 (0 : Int) [0, 1, 2]) [ki 1, ki 2, ki 15] 30), (Mv 30 2)] none)
.ret))
(.drop [27] (.seq (.seq (.reg [(Op (bi .eql) [.v 3, .k (.u8 (23 : UInt8))] 32), (Mv 32 31)] none)
(.cond 31 .skip
(.drop [31] (.reg [(Op (bi .eql) [.v 3, .k (.u8 (25 : UInt8))] 33), (Mv 33 31)] none))))
(.cut 0 fn117_o3 fn117_p3))))
def fn117_s2 : SSh := ⟨[(3, u8S), (27, bS)], []⟩
def fn117_o2 : Cut Tb := cutJ tab 0 fn117_s2 (fun _ x k => fn117_c2 x.1.1 x.1.2.1 (fun y19 => k .ret ⟨[(2, .ow 9 y19)], []⟩) (k .normal ⟨[], []⟩))
theorem fn117_q2 : CK fn117_o2 0 fn117_p2 := cutJD fn117_rk (cC uC (cD (cS uC (cT fn117_q3))))
def fn117_p1 : TCode Tb :=
(.cond 17 (.drop [3, 17] (.seq (.reg [(Op (.bslice 9 1 (0 : Int) [0]) [ki 2] 26), (Mv 26 2)] none)
.ret))
(.drop [17] (.seq (.seq (.reg [(Op (bi .eql) [.v 3, .k (.u8 (21 : UInt8))] 28), (Mv 28 27)] none)
(.cond 27 .skip
(.drop [27] (.reg [(Op (bi .eql) [.v 3, .k (.u8 (22 : UInt8))] 29), (Mv 29 27)] none))))
(.cut 0 fn117_o2 fn117_p2))))
def fn117_s1 : SSh := ⟨[(3, u8S), (17, bS)], []⟩
def fn117_o1 : Cut Tb := cutJ tab 0 fn117_s1 (fun _ x k => fn117_c1 x.1.1 x.1.2.1 (fun y22 => k .ret ⟨[(2, .ow 9 y22)], []⟩) (k .normal ⟨[], []⟩))
theorem fn117_q1 : CK fn117_o1 0 fn117_p1 := cutJD fn117_rk (cC uC (cD (cS uC (cT fn117_q2))))
def fn117_p0 : TCode Tb :=
(.cond 4 (.drop [3, 4] (.seq (.reg [(Op (.bslice 9 2 (0 : Int) [0, 1]) [ki 3, ki 16] 10), (Mv 10 2)] none)
.ret))
(.drop [4] (.seq (.reg [(Op (bi .eql) [.v 3, .k (.u8 (11 : UInt8))] 12), (Mv 12 11)] none)
(.cond 11 (.drop [3, 11] (.seq (.reg [(Op (.bslice 9 2 (0 : Int) [0, 1]) [ki 3, ki 8] 13), (Mv 13 2)] none)
.ret))
(.drop [11] (.seq (.reg [(Op (bi .eql) [.v 3, .k (.u8 (17 : UInt8))] 15), (Mv 15 14)] none)
(.cond 14 (.drop [3, 14] (.seq (.reg [(Op (.bslice 9 3 (0 : Int) [0, 1, 2]) [ki 1, ki 2, ki 14] 16), (Mv 16 2)] none)
.ret))
(.drop [14] (.seq (.seq (.reg [(Op (bi .eql) [.v 3, .k (.u8 (18 : UInt8))] 18), (Mv 18 17)] none)
(.cond 17 .skip
(.drop [17] (.seq (.reg [(Op (bi .eql) [.v 3, .k (.u8 (19 : UInt8))] 19), (Mv 19 17)] none)
(.cond 17 .skip
(.drop [17] (.seq (.reg [(Op (bi .eql) [.v 3, .k (.u8 (26 : UInt8))] 20), (Mv 20 17)] none)
(.cond 17 .skip
(.drop [17] (.seq (.reg [(Op (bi .eql) [.v 3, .k (.u8 (36 : UInt8))] 21), (Mv 21 17)] none)
(.cond 17 .skip
(.drop [17] (.seq (.reg [(Op (bi .eql) [.v 3, .k (.u8 (37 : UInt8))] 22), (Mv 22 17)] none)
(.cond 17 .skip
(.drop [17] (.seq (.reg [(Op (bi .eql) [.v 3, .k (.u8 (40 : UInt8))] 23), (Mv 23 17)] none)
(.cond 17 .skip
(.drop [17] (.seq (.reg [(Op (bi .eql) [.v 3, .k (.u8 (41 : UInt8))] 24), (Mv 24 17)] none)
(.cond 17 .skip
(.drop [17] (.reg [(Op (bi .eql) [.v 3, .k (.u8 (42 : UInt8))] 25), (Mv 25 17)] none))))))))))))))))))))))
(.cut 0 fn117_o1 fn117_p1))))))))))
def fn117_s0 : SSh := ⟨[(3, u8S), (4, bS)], []⟩
def fn117_o0 : Cut Tb := cutJ tab 0 fn117_s0 (fun _ x k => fn117_c0 x.1.1 x.1.2.1 (fun y31 => k .ret ⟨[(2, .ow 9 y31)], []⟩) (k .normal ⟨[], []⟩))
theorem fn117_q0 : CK fn117_o0 0 fn117_p0 := cutJD fn117_rk (cC uC (cD (cS uC (cC uC (cD (cS uC (cC uC (cD (cS uC (cT fn117_q1))))))))))
def fn117_p : TCode Tb :=
(.seq (.reg [(Op .mv [.k (.nilS)] 2)] none)
(.seq (.seq (.reg [(Mv 0 3)] none)
(.block 0 (.seq (.seq (.reg [(Op (bi .eql) [.v 3, .k (.u8 (1 : UInt8))] 5), (Mv 5 4)] none)
(.cond 4 (.drop [2] .skip)
(.drop [2, 4] (.seq (.reg [(Op (bi .eql) [.v 3, .k (.u8 (2 : UInt8))] 6), (Mv 6 4)] none)
(.cond 4 .skip
(.drop [4] (.seq (.reg [(Op (bi .eql) [.v 3, .k (.u8 (3 : UInt8))] 7), (Mv 7 4)] none)
(.cond 4 .skip
(.drop [4] (.seq (.reg [(Op (bi .eql) [.v 3, .k (.u8 (8 : UInt8))] 8), (Mv 8 4)] none)
(.cond 4 .skip
(.drop [4] (.reg [(Op (bi .eql) [.v 3, .k (.u8 (9 : UInt8))] 9), (Mv 9 4)] none)))))))))))))
(.cut 0 fn117_o0 fn117_p0))))
(.seq (.reg [(Op .mv [.k (.nilS)] 2)] none)
.ret)))
def fn117_w : Orc Tb := mkOrc (Y := (Option (List Int))) tab [u8S] [] (fun x h => fn117 x.1) (fun _ y k => k (.ow 9 y) [])
theorem fn117_k : WK fn117_w 133 := orcD (Y := (Option (List Int))) (c := fn117_p) (res := [.tmp 2]) (n := 55) (R := (RSp.one (Y := (Option (List Int))) tab (wS 9) [] (fun a b => a) (fun y => y) (fun y => ()))) fn117_rk oneD Tryz.func133 (cS uC (cS (cS uC (cB (cS uC (cT fn117_q0)))) uC))
def fn157_r : Orcs Tb := [(133, fn117_w)]
theorem fn157_rk : RK fn157_r := (yv720 fn117_k yv743)
def fn157_p0 : TCode Tb :=
(.seq (.seq (.reg [(Op .mv [.v 6] 9), (Op .mv [.v 5] 10), (Op .len [.m 10] 11), (Op (bi .lss) [.m 9, .m 11] 12)] none)
(.cond 12 (.drop [12] .skip)
(.drop [1, 5, 6, 12] (.exit 0))))
(.seq (.block 1 (.seq (.reg [(Op .mv [.v 5] 15), (Op .mv [.v 6] 16), (Op (.ia 1) [.v 15, .m 16] 17), (Ld 17 18), (Op .mv [.v 1] 19), (Op (bi .eql) [.m 18, .m 19] 20)] none)
(.cond 20 (.drop [1, 5, 6, 15, 20] (.seq (.reg [(Op .mv [kt] 4)] none)
.ret))
(.drop [15, 20] .skip))))
(.reg [(Mv 6 13), (Op (bi .add) [.m 13, ki 1] 14), (Mv 14 6)] none)))
def fn157_s0 : SSh := ⟨[(1, iS), (5, wS 9), (6, iS)], []⟩
def fn157_o0 : Cut Tb := cutL tab 0 fn157_s0 (fun x => x.1.2.2.1) (fun x => fn157_l0 x.1.1 x.1.2.1) (fun _ x y k => match y with | .inl y => k .ret ⟨[(4, .b true)], []⟩ | .inr y => k (.exit 0) ⟨[], []⟩)
theorem fn157_q0 : CK fn157_o0 0 (.loop fn157_p0) := yv752 (c := fn157_p0) (Z := Int) (Y := Unit ⊕ Unit) tabOk fn157_rk uC (fun _ x z b e => fn157_b0 x.1.1 x.1.2.1 z (fun x6 => b x6) (e (.inl ())) (e (.inr ()))) (fun x z => ⟨[(1, .n .i64 x.1.1), (5, .ow 9 x.1.2.1), (6, .n .i64 z)], []⟩) (fun x y => match y with | .inl y => (.ret, ⟨[(4, .b true)], []⟩) | .inr y => ((.exit 0), ⟨[], []⟩)) (fun t => (prjS tab 0 fn157_s0 t).bind fun x => some x.1.2.2.1) (fun e t => (if eqE e .ret then yv543 ((prjS tab 0 ⟨[(4, .g (.f (.cb true)))], []⟩ t).bind fun v => some (.inl ())) (if eqE e (.exit 0) then (prjS tab 0 ⟨[], []⟩ t).bind fun v => some (.inr ()) else none) else (if eqE e (.exit 0) then (prjS tab 0 ⟨[], []⟩ t).bind fun v => some (.inr ()) else none))) (fun x => by kernel_rfl) (fun x z => by kernel_rfl) (fun x y k => by rcases y with y | y <;> kernel_rfl) (fun x y => by rcases y with y | y <;> exact nofun) (fun x z => by kernel_rfl) (fun x y => by rcases y with y | y <;> kernel_rfl) (fun x z k => by kernel_rfl)
def fn157_p : TCode Tb :=
(.seq (.reg [(Op .mv [kf] 4)] none)
(.seq (.reg [(Mv 0 7), (Op (.call (some 133) 0) [.m 7] 8), (Mv 8 5)] none)
(.seq (.seq (.reg [(Op .mv [ki 0] 6)] none)
(.block 0 (.drop [4] (.cut 0 fn157_o0 (.loop fn157_p0)))))
(.seq (.reg [(Op .mv [kf] 4)] none)
.ret))))
def fn157_w : Orc Tb := mkOrc (Y := Bool) tab [u8S, iS] [] (fun x h => fn157 x.1 x.2.1) (fun _ y k => k (.b y) [])
theorem fn157_k : WK fn157_w 94 := orcD (Y := Bool) (c := fn157_p) (res := [.tmp 4]) (n := 21) (R := (RSp.one (Y := Bool) tab (bS) [] (fun a b => a) (fun y => y) (fun y => ()))) fn157_rk oneD Tryz.func94 (cS uC (cS uC (cS (cS uC (cB (cD (cT fn157_q0)))) uC)))
def fn118_r : Orcs Tb := [(94, fn157_w)]
theorem fn118_rk : RK fn118_r := (yv720 fn157_k yv743)
def fn118_p : TCode Tb :=
(.seq (.reg [(Op .mv [kf] 4)] none)
(.seq (.reg [(Op .mv [.v 0] 5), (Op .mv [.v 1] 6), (Op (.call (some 94) 0) [.m 5, .m 6] 7), (Mv 7 8), (Yes .mv [.v 0] 9 8), (Yes (bi .eql) [.m 9, .k (.u8 (38 : UInt8))] 10 8), (Yes .mv [.m 10] 11 8), (No .mv [.m 0] 12 11), (No (bi .eql) [.m 12, .k (.u8 (11 : UInt8))] 13 11), (No .mv [.m 13] 14 11), (Yes .mv [.m 1] 15 14), (Yes (bi .eql) [.m 15, ki 3] 16 14), (No .pick [.m 14, .m 16, kf] 17 11), (Yes .pick [.m 11, kt, .m 17] 18 8), (Op .pick [.m 8, .m 18, kf] 19), (Mv 19 4)] none)
(.drop [0, 1, 9, 10, 11, 12, 13, 14, 15, 16, 17] .ret)))
def fn118_w : Orc Tb := mkOrc (Y := Bool) tab [u8S, iS] [] (fun x h => fn118 x.1 x.2.1) (fun _ y k => k (.b y) [])
theorem fn118_k : WK fn118_w 95 := orcD (Y := Bool) (c := fn118_p) (res := [.tmp 4]) (n := 20) (R := (RSp.one (Y := Bool) tab (bS) [] (fun a b => a) (fun y => y) (fun y => ()))) fn118_rk oneD Tryz.func95 uC
def fn158_r : Orcs Tb := []
theorem fn158_rk : RK fn158_r := yv743
def fn158_p0 : TCode Tb :=
(.seq (.seq (.reg [(Op .mv [.v 6] 7), (Op .mv [.v 0] 8), (Op .len [.m 8] 9), (Op (bi .lss) [.m 7, .m 9] 10)] none)
(.cond 10 (.drop [10] .skip)
(.drop [0, 1, 6, 10] (.exit 0))))
(.seq (.block 1 (.seq (.reg [(Op .mv [.v 0] 13), (Op .mv [.v 6] 14), (Op (.ia 4) [.v 13, .m 14] 15), (Fam 0 15 16), (Ld 16 17), (Op .mv [.v 1] 18), (Op (bi .eql) [.m 17, .m 18] 19)] none)
(.cond 19 (.drop [1, 13, 19] (.seq (.reg [(Mv 0 20), (Mv 6 21), (Op (.ia 4) [.v 20, .m 21] 22), (Op (.load (some 4)) [.m 22] 23), (Do (.store 4) [.v 4, .m 23]), (Op .mv [kt] 5)] none)
.ret))
(.drop [13, 19] .skip))))
(.reg [(Mv 6 11), (Op (bi .add) [.m 11, ki 1] 12), (Mv 12 6)] none)))
def fn158_s0 : SSh := ⟨[(0, lS 1), (1, u8S), (4, rS 0 0), (6, iS)], [[u8S, u32S, sS, sS]]⟩
def fn158_o0 : Cut Tb := cutL tab 0 fn158_s0 (fun x => x.1.2.2.2.1) (fun x => fn158_l0 x.1.1 x.1.2.1) (fun _ x y k => match y with | .inl y => k .ret ⟨[(4, .ref 0 0), (5, .b true), (20, .sl 1 x.1.1)], [[.u8 y.Id, .u32 y.N, .s y.A, .s y.B]]⟩ | .inr y => k (.exit 0) ⟨[(4, .ref 0 0)], [[.u8 x.2.1.1, .u32 x.2.1.2.1, .s x.2.1.2.2.1, .s x.2.1.2.2.2.1]]⟩)
theorem fn158_q0 : CK fn158_o0 0 (.loop fn158_p0) := yv752 (c := fn158_p0) (Z := Int) (Y := fn153 ⊕ Unit) tabOk fn158_rk uC (fun _ x z b e => fn158_b0 x.1.1 x.1.2.1 z (fun x5 => b x5) (fun y9 => e (.inl y9)) (e (.inr ()))) (fun x z => ⟨[(0, .sl 1 x.1.1), (1, .u8 x.1.2.1), (4, .ref 0 0), (6, .n .i64 z)], [[.u8 x.2.1.1, .u32 x.2.1.2.1, .s x.2.1.2.2.1, .s x.2.1.2.2.2.1]]⟩) (fun x y => match y with | .inl y => (.ret, ⟨[(4, .ref 0 0), (5, .b true), (20, .sl 1 x.1.1)], [[.u8 y.Id, .u32 y.N, .s y.A, .s y.B]]⟩) | .inr y => ((.exit 0), ⟨[(4, .ref 0 0)], [[.u8 x.2.1.1, .u32 x.2.1.2.1, .s x.2.1.2.2.1, .s x.2.1.2.2.2.1]]⟩)) (fun t => (prjS tab 0 fn158_s0 t).bind fun x => some x.1.2.2.2.1) (fun e t => (if eqE e .ret then yv543 ((prjS tab 0 ⟨[(4, rS 0 0), (5, .g (.f (.cb true))), (20, lS 1)], [[u8S, u32S, sS, sS]]⟩ t).bind fun v => some (.inl (tabBk 1 v.2.1 : fn153))) (if eqE e (.exit 0) then (prjS tab 0 ⟨[(4, rS 0 0)], [[u8S, u32S, sS, sS]]⟩ t).bind fun v => some (.inr ()) else none) else (if eqE e (.exit 0) then (prjS tab 0 ⟨[(4, rS 0 0)], [[u8S, u32S, sS, sS]]⟩ t).bind fun v => some (.inr ()) else none))) (fun x => by kernel_rfl) (fun x z => by kernel_rfl) (fun x y k => by rcases y with y | y <;> kernel_rfl) (fun x y => by rcases y with y | y <;> exact nofun) (fun x z => by kernel_rfl) (fun x y => by rcases y with y | y <;> kernel_rfl) (fun x z k => by kernel_rfl)
def fn158_p : TCode Tb :=
(.seq (.reg [(Op (.alloc [.u8 (0 : UInt8), .u32 (0 : UInt32), .s [], .s []]) [] 4), (Op .mv [kf] 5)] none)
(.seq (.seq (.reg [(Op .mv [ki 0] 6)] none)
(.block 0 (.drop [5] (.cut 0 fn158_o0 (.loop fn158_p0)))))
(.seq (.reg [(Op (.build [.u8 (0 : UInt8), .u32 (0 : UInt32), .s [], .s []] []) [] 24), (Do (.store 4) [.v 4, .m 24]), (Op .mv [kf] 5)] none)
.ret)))
def fn158_w : Orc Tb := mkOrc (Y := fn153 × Bool) tab [lS 1, u8S] [] (fun x h => fn158 x.1 x.2.1) (fun _ y k => k (.tup [.agg [.u8 y.1.Id, .u32 y.1.N, .s y.1.A, .s y.1.B], .b y.2]) [])
theorem fn158_k : WK fn158_w 49 := orcD (Y := fn153 × Bool) (c := fn158_p) (res := [.cell 4 (some 4), .tmp 5]) (n := 25) (R := (RSp.one (Y := fn153 × Bool) tab (.tup [.st 1, .f (.a .b)]) [] (fun a b => ((a.1 : fn153), a.2.1)) (fun y => ((y.1 : fn153), y.2, ())) (fun y => ()))) fn158_rk oneD Tryz.func49 (cS uC (cS (cS uC (cB (cD (cT fn158_q0)))) uC))
def fn119_r : Orcs Tb := [(93, fn116_w), (94, fn157_w), (95, fn118_w), (49, fn158_w)]
theorem fn119_rk : RK fn119_r := (yv720 fn116_k (yv720 fn157_k (yv720 fn118_k (yv720 fn158_k yv743))))
def fn119_p0 : TCode Tb :=
(.seq (.seq (.reg [(Op .mv [.v 5] 13), (Op .mv [.v 1] 14), (Op .len [.m 14] 15), (Op (bi .lss) [.m 13, .m 15] 16)] none)
(.cond 16 (.drop [16] .skip)
(.drop [0, 5, 16] (.exit 0))))
(.seq (.block 1 (.seq (.seq (.reg [(Op .mv [.v 1] 19), (Op .mv [.v 5] 20), (Op (.ia 4) [.v 19, .m 20] 21), (Op (.load (some 4)) [.m 21] 22), (Op (.call (some 93) 0) [.m 22] 23), (Op (.un .not) [.m 23] 24), (Mv 24 25), (No .mv [.v 1] 26 25), (No .mv [.v 5] 27 25), (No (.ia 4) [.v 26, .m 27] 28 25), (No (.fa 0) [.m 28] 29 25), (No ld [.m 29] 30 25), (No .mv [.v 0] 31 25), (No (.call (some 94) 1) [.m 30, .m 31] 32 25), (No (.un .not) [.m 32] 33 25), (Op .pick [.m 25, kt, .m 33] 34)] none)
(.drop [19, 26, 27, 28, 29, 30, 31, 32] (.cond 34 (.drop [0, 1, 5, 34] (.seq (.reg [(Op .mv [kf] 4)] none)
.ret))
(.drop [34] .skip))))
(.seq (.reg [(Op .mv [.v 5] 35), (Op (bi .gtr) [.m 35, ki 0] 36), (Mv 36 37), (Yes .mv [.v 1] 38 37), (Yes .mv [.v 5] 39 37), (Yes (bi .sub) [.m 39, ki 1] 40 37), (Yes (.ia 4) [.v 38, .m 40] 41 37), (Yes (.fa 0) [.m 41] 42 37), (Yes ld [.m 42] 43 37), (Yes .mv [.v 1] 44 37), (Yes .mv [.v 5] 45 37), (Yes (.ia 4) [.v 44, .m 45] 46 37), (Yes (.fa 0) [.m 46] 47 37), (Yes ld [.m 47] 48 37), (Yes (bi .gtr) [.m 43, .m 48] 49 37), (Yes .mv [.m 49] 50 37), (No .mv [.v 1] 51 50), (No .mv [.v 5] 52 50), (No (bi .sub) [.m 52, ki 1] 53 50), (No (.ia 4) [.v 51, .m 53] 54 50), (No (.fa 0) [.m 54] 55 50), (No ld [.m 55] 56 50), (No .mv [.v 1] 57 50), (No .mv [.v 5] 58 50), (No (.ia 4) [.v 57, .m 58] 59 50), (No (.fa 0) [.m 59] 60 50), (No ld [.m 60] 61 50), (No (bi .eql) [.m 56, .m 61] 62 50), (No .mv [.m 62] 63 50), (Yes .mv [.v 1] 64 63), (Yes .mv [.v 5] 65 63), (Yes (.ia 4) [.v 64, .m 65] 66 63), (Yes (.fa 0) [.m 66] 67 63), (Yes ld [.m 67] 68 63), (Yes .mv [.v 0] 69 63), (Yes (.call (some 95) 2) [.m 68, .m 69] 70 63), (Yes (.un .not) [.m 70] 71 63), (No .pick [.m 63, .m 71, kf] 72 50), (Yes .pick [.m 50, kt, .m 72] 73 37), (Op .pick [.m 37, .m 73, kf] 74)] (some [[], [], [], [], [], [], [], [], [], [], [], [], [], [8], [], [], [], [], [], [], [], [], [], [], [], [], [21], [], [], [], [], [], [], [], [], [], [], [], [], []]))
(.drop [38, 39, 40, 41, 42, 43, 44, 45, 46, 47, 48, 49, 50, 51, 52, 53, 54, 55, 56, 57, 58, 59, 60, 61, 62, 63, 64, 65, 66, 67, 68, 69, 70, 71, 72] (.cond 74 (.drop [0, 1, 5, 74] (.seq (.reg [(Op .mv [kf] 4)] none)
.ret))
(.drop [74] .skip))))))
(.reg [(Mv 5 17), (Op (bi .add) [.m 17, ki 1] 18), (Mv 18 5)] none)))
def fn119_s0 : SSh := ⟨[(0, iS), (1, lS 1), (5, iS)], []⟩
def fn119_o0 : Cut Tb := cutL tab 0 fn119_s0 (fun x => x.1.2.2.1) (fun x => fn119_l0 x.1.1 x.1.2.1) (fun _ x y k => match y with | .inl y => k .ret ⟨[(4, .b false)], []⟩ | .inr y => k (.exit 0) ⟨[(1, .sl 1 x.1.2.1)], []⟩)
theorem fn119_q0 : CK fn119_o0 0 (.loop fn119_p0) := yv752 (c := fn119_p0) (Z := Int) (Y := Unit ⊕ Unit) tabOk fn119_rk uC (fun _ x z b e => fn119_b0 x.1.1 x.1.2.1 z (fun x5 => b x5) (e (.inl ())) (e (.inr ()))) (fun x z => ⟨[(0, .n .i64 x.1.1), (1, .sl 1 x.1.2.1), (5, .n .i64 z)], []⟩) (fun x y => match y with | .inl y => (.ret, ⟨[(4, .b false)], []⟩) | .inr y => ((.exit 0), ⟨[(1, .sl 1 x.1.2.1)], []⟩)) (fun t => (prjS tab 0 fn119_s0 t).bind fun x => some x.1.2.2.1) (fun e t => (if eqE e .ret then yv543 ((prjS tab 0 ⟨[(4, .g (.f (.cb false)))], []⟩ t).bind fun v => some (.inl ())) (if eqE e (.exit 0) then (prjS tab 0 ⟨[(1, lS 1)], []⟩ t).bind fun v => some (.inr ()) else none) else (if eqE e (.exit 0) then (prjS tab 0 ⟨[(1, lS 1)], []⟩ t).bind fun v => some (.inr ()) else none))) (fun x => by kernel_rfl) (fun x z => by kernel_rfl) (fun x y k => by rcases y with y | y <;> kernel_rfl) (fun x y => by rcases y with y | y <;> exact nofun) (fun x z => by kernel_rfl) (fun x y => by rcases y with y | y <;> kernel_rfl) (fun x z k => by kernel_rfl)
def fn119_p : TCode Tb :=
(.seq (.reg [(Op .mv [kf] 4)] none)
(.seq (.seq (.reg [(Op .mv [.v 1] 10), (Op .len [.m 10] 11), (Op (bi .gtr) [.m 11, ki 1024] 12)] none)
(.cond 12 (.drop [0, 1, 4, 12] (.seq (.reg [(Op .mv [kf] 4)] none)
.ret))
(.drop [4, 12] .skip)))
(.seq (.seq (.reg [(Op .mv [ki 0] 5)] none)
(.block 0 (.cut 0 fn119_o0 (.loop fn119_p0))))
(.seq (.reg [(Op .mv [.v 1] 76), (Op (.call (some 49) 3) [.m 76, .k (.u8 (22 : UInt8))] 77), (Mv 77 75), (Op .extm [.c 75 0] 78), (Op (.ext 1) [.m 75] 79), (Op (.alloc [.u8 (0 : UInt8), .u32 (0 : UInt32), .s [], .s []]) [] 6), (Do (.store 4) [.m 6, .m 78]), (Mv 79 7)] none)
(.seq (.reg [(Mv 1 81), (Op (.call (some 49) 3) [.m 81, .k (.u8 (21 : UInt8))] 82), (Mv 82 80), (Op .extm [.c 80 0] 83), (Op (.ext 1) [.m 80] 84), (Op (.alloc [.u8 (0 : UInt8), .u32 (0 : UInt32), .s [], .s []]) [] 8), (Do (.store 4) [.m 8, .m 83]), (Mv 84 9)] none)
(.seq (.reg [(Mv 9 85), (Mv 85 86), (No .mv [.m 7] 87 86), (No (.un .not) [.m 87] 88 86), (Op .pick [.m 86, kt, .m 88] 89), (Mv 89 4)] none)
(.drop [7, 87] .ret)))))))
def fn119_w : Orc Tb := mkOrc (Y := Bool) tab [iS, lS 1] [] (fun x h => fn119 x.1 x.2.1) (fun _ y k => k (.b y) [])
theorem fn119_k : WK fn119_w 44 := orcD (Y := Bool) (c := fn119_p) (res := [.tmp 4]) (n := 90) (R := (RSp.one (Y := Bool) tab (bS) [] (fun a b => a) (fun y => y) (fun y => ()))) fn119_rk oneD Tryz.func44 (cS uC (cS uC (cS (cS uC (cB (cT fn119_q0))) uC)))
def fn120_r : Orcs Tb := []
theorem fn120_rk : RK fn120_r := yv743
def fn120_p0 : TCode Tb :=
(.seq (.seq (.reg [(Op .mv [.v 5] 14), (Op .mv [.v 0] 15), (Op .lens [.m 15] 16), (Op (bi .lss) [.m 14, .m 16] 17)] none)
(.cond 17 (.drop [17] .skip)
(.drop [0, 5, 17] (.exit 0))))
(.seq (.block 1 (.seq (.reg [(Op .mv [.v 0] 20), (Op .mv [.v 5] 21), (Op .sidx [.m 20, .m 21] 22), (Op (bi .eql) [.m 22, .k (.u8 (47 : UInt8))] 23)] none)
(.cond 23 (.drop [23] (.seq (.reg [(Op .mv [.v 0] 24), (Op .mv [.v 5] 25), (Op (.sstr true true) [.m 24, ki 7, .m 25] 26), (Op .mv [.v 0] 27), (Op .mv [.v 5] 28), (Op (bi .add) [.m 28, ki 1] 29), (Op (.sstr true false) [.m 27, .m 29] 30), (Mv 26 2), (Mv 30 3), (Op .mv [kt] 4)] (some [[], [], [], [], [], [], [], [], [], []]))
.ret))
(.drop [23] .skip))))
(.reg [(Mv 5 18), (Op (bi .add) [.m 18, ki 1] 19), (Mv 19 5)] none)))
def fn120_s0 : SSh := ⟨[(0, sS), (5, iS)], []⟩
def fn120_o0 : Cut Tb := cutL tab 0 fn120_s0 (fun x => x.1.2.1) (fun x => fn120_l0 x.1.1) (fun _ x y k => match y with | .inl y => k .ret ⟨[(0, .s x.1.1), (2, .s y.1), (3, .s y.2.1), (4, .b true), (5, .n .i64 y.2.2)], []⟩ | .inr y => k (.exit 0) ⟨[], []⟩)
theorem fn120_q0 : CK fn120_o0 0 (.loop fn120_p0) := yv752 (c := fn120_p0) (Z := Int) (Y := ((List UInt8) × (List UInt8) × Int) ⊕ Unit) tabOk fn120_rk uC (fun _ x z b e => fn120_b0 x.1.1 z (fun x4 => b x4) (fun y8 y9 y10 => e (.inl (y8, y9, y10))) (e (.inr ()))) (fun x z => ⟨[(0, .s x.1.1), (5, .n .i64 z)], []⟩) (fun x y => match y with | .inl y => (.ret, ⟨[(0, .s x.1.1), (2, .s y.1), (3, .s y.2.1), (4, .b true), (5, .n .i64 y.2.2)], []⟩) | .inr y => ((.exit 0), ⟨[], []⟩)) (fun t => (prjS tab 0 fn120_s0 t).bind fun x => some x.1.2.1) (fun e t => (if eqE e .ret then yv543 ((prjS tab 0 ⟨[(0, sS), (2, sS), (3, sS), (4, .g (.f (.cb true))), (5, iS)], []⟩ t).bind fun v => some (.inl (v.1.2.1, v.1.2.2.1, v.1.2.2.2.2.1))) (if eqE e (.exit 0) then (prjS tab 0 ⟨[], []⟩ t).bind fun v => some (.inr ()) else none) else (if eqE e (.exit 0) then (prjS tab 0 ⟨[], []⟩ t).bind fun v => some (.inr ()) else none))) (fun x => by kernel_rfl) (fun x z => by kernel_rfl) (fun x y k => by rcases y with y | y <;> kernel_rfl) (fun x y => by rcases y with y | y <;> exact nofun) (fun x z => by kernel_rfl) (fun x y => by rcases y with y | y <;> kernel_rfl) (fun x z k => by kernel_rfl)
def fn120_p : TCode Tb :=
(.seq (.reg [(Op .mv [.k (.s [])] 2), (Op .mv [.k (.s [])] 3), (Op .mv [kf] 4)] none)
(.seq (.seq (.reg [(Op .mv [.v 0] 6), (Op .lens [.m 6] 7), (Op (bi .lss) [.m 7, ki 7] 8), (Mv 8 9), (No .mv [.v 0] 10 9), (No (.sstr false true) [.m 10, ki 7] 11 9), (No (.bin .neq .s) [.m 11, .k (.s [36, 115, 104, 97, 114, 101, 47])] 12 9), (Op .pick [.m 9, kt, .m 12] 13)] none)
(.drop [2, 3, 4, 10, 11] (.cond 13 (.drop [0, 13] (.seq (.reg [(Op .mv [.k (.s [])] 2), (Op .mv [.k (.s [])] 3), (Op .mv [kf] 4)] none)
.ret))
(.drop [13] .skip))))
(.seq (.seq (.reg [(Op .mv [ki 7] 5)] none)
(.block 0 (.cut 0 fn120_o0 (.loop fn120_p0))))
(.seq (.reg [(Op .mv [.k (.s [])] 2), (Op .mv [.k (.s [])] 3), (Op .mv [kt] 4)] none)
.ret))))
def fn120_w : Orc Tb := mkOrc (Y := (List UInt8) × (List UInt8) × Bool) tab [sS] [] (fun x h => fn120 x.1) (fun _ y k => k (.tup [.s y.1, .s y.2.1, .b y.2.2]) [])
theorem fn120_k : WK fn120_w 103 := orcD (Y := (List UInt8) × (List UInt8) × Bool) (c := fn120_p) (res := [.tmp 2, .tmp 3, .tmp 4]) (n := 31) (R := (RSp.one (Y := (List UInt8) × (List UInt8) × Bool) tab (.tup [.f (.a .s), .f (.a .s), .f (.a .b)]) [] (fun a b => (a.1, a.2.1, a.2.2.1)) (fun y => (y.1, y.2.1, y.2.2, ())) (fun y => ()))) fn120_rk oneD Tryz.func103 (cS uC (cS uC (cS (cS uC (cB (cT fn120_q0))) uC)))
def fn95_r : Orcs Tb := []
theorem fn95_rk : RK fn95_r := yv743
def fn95_p1 : TCode Tb :=
(.cond 21 (.drop [21] (.seq (.reg [(Mv 3 22), (Op .mv [.v 0] 23), (Mv 4 24), (Op .mv [.v 5] 25), (Op (.sstr true true) [.m 23, .m 24, .m 25] 26), (Op (.bslice 8 1 ([] : List UInt8) [0]) [.m 26] 27), (Op (.app 1 16) [.m 22, .m 27] 28), (Mv 28 3)] none)
(.reg [(Op .mv [.v 5] 29), (Op (bi .add) [.m 29, ki 1] 30), (Mv 30 4)] none)))
(.drop [21] .skip))
def fn95_s1 : SSh := ⟨[(0, sS), (3, wS 8), (4, iS), (5, iS), (21, bS)], []⟩
def fn95_o1 : Cut Tb := cutJ tab 0 fn95_s1 (fun _ x k => fn95_c1 x.1.1 x.1.2.1 x.1.2.2.1 x.1.2.2.2.1 x.1.2.2.2.2.1 (fun y14 y15 => k .normal ⟨[(0, .s x.1.1), (3, .ow 8 y14), (4, .n .i64 y15), (5, .n .i64 x.1.2.2.2.1)], []⟩))
theorem fn95_q1 : CK fn95_o1 0 fn95_p1 := cutJD fn95_rk uC
def fn95_p0 : TCode Tb :=
(.seq (.seq (.reg [(Op .mv [.v 5] 6), (Op .mv [.v 0] 7), (Op .lens [.m 7] 8), (Op (bi .leq) [.m 6, .m 8] 9)] none)
(.cond 9 (.drop [9] .skip)
(.drop [0, 4, 5, 9] (.exit 0))))
(.seq (.block 1 (.seq (.reg [(Op .mv [.v 5] 12), (Op .mv [.v 0] 13), (Op .lens [.m 13] 14), (Op (bi .eql) [.m 12, .m 14] 15), (Mv 15 16), (No .mv [.v 0] 17 16), (No .mv [.v 5] 18 16), (No .sidx [.m 17, .m 18] 19 16), (No (bi .eql) [.m 19, .k (.u8 (47 : UInt8))] 20 16), (Op .pick [.m 16, kt, .m 20] 21)] none)
(.drop [17, 18, 19] (.cut 0 fn95_o1 fn95_p1))))
(.reg [(Mv 5 10), (Op (bi .add) [.m 10, ki 1] 11), (Mv 11 5)] none)))
def fn95_s0 : SSh := ⟨[(0, sS), (3, wS 8), (4, iS), (5, iS)], []⟩
def fn95_o0 : Cut Tb := cutL tab 0 fn95_s0 (fun x => (x.1.2.1, x.1.2.2.1, x.1.2.2.2.1)) (fun x => fn95_l0 x.1.1) (fun _ x y k => k (.exit 0) ⟨[(3, .ow 8 y)], []⟩)
theorem fn95_q0 : CK fn95_o0 0 (.loop fn95_p0) := cutLD (Z := (Option (List (List UInt8))) × Int × Int) (Y := (Option (List (List UInt8)))) fn95_rk (cS uC (cS (cB (cS uC (cD (cT fn95_q1)))) uC)) (fun _ x z b e => fn95_b0 x.1.1 z.1 z.2.1 z.2.2 (fun x3 x4 x5 => b (x3, x4, x5)) (fun y20 => e y20)) (fun x z => ⟨[(0, .s x.1.1), (3, .ow 8 z.1), (4, .n .i64 z.2.1), (5, .n .i64 z.2.2)], []⟩) (fun x y => ((.exit 0), ⟨[(3, .ow 8 y)], []⟩)) (fun t => (prjS tab 0 fn95_s0 t).bind fun x => some (x.1.2.1, x.1.2.2.1, x.1.2.2.2.1)) (fun e t => (if eqE e (.exit 0) then (prjS tab 0 ⟨[(3, wS 8)], []⟩ t).bind fun v => some v.1.1 else none))
def fn95_p : TCode Tb :=
(.seq (.reg [(Op .mv [.k (.nilS)] 2)] none)
(.seq (.reg [(Op .mv [.k (.nilS)] 3)] none)
(.seq (.reg [(Op .mv [ki 0] 4)] none)
(.seq (.seq (.reg [(Op .mv [ki 0] 5)] none)
(.block 0 (.drop [2] (.cut 0 fn95_o0 (.loop fn95_p0)))))
(.seq (.reg [(Mv 3 31), (Mv 31 2)] none)
.ret)))))
def fn95_w : Orc Tb := mkOrc (Y := (Option (List (List UInt8)))) tab [sS] [] (fun x h => fn95 x.1) (fun _ y k => k (.ow 8 y) [])
theorem fn95_k : WK fn95_w 155 := orcD (Y := (Option (List (List UInt8)))) (c := fn95_p) (res := [.tmp 2]) (n := 32) (R := (RSp.one (Y := (Option (List (List UInt8)))) tab (wS 8) [] (fun a b => a) (fun y => y) (fun y => ()))) fn95_rk oneD Tryz.func155 (cS uC (cS uC (cS uC (cS (cS uC (cB (cD (cT fn95_q0)))) uC))))
def fn121_r : Orcs Tb := [(155, fn95_w), (154, fn156_w)]
theorem fn121_rk : RK fn121_r := (yv720 fn95_k (yv720 fn156_k yv743))
def fn121_p0 : TCode Tb :=
(.seq (.seq (.reg [(Op .mv [.v 4] 7), (Op .mv [.v 3] 8), (Op .len [.m 8] 9), (Op (bi .lss) [.m 7, .m 9] 10)] none)
(.cond 10 (.drop [10] .skip)
(.drop [3, 4, 10] (.exit 0))))
(.seq (.block 1 (.seq (.reg [(Op .mv [.v 3] 13), (Op .mv [.v 4] 14), (Op (.ia 1) [.v 13, .m 14] 15), (Ld 15 16), (Op (.call (some 154) 1) [.m 16, .k (.u8 (43 : UInt8))] 17), (Mv 17 18), (Yes .mv [.v 3] 19 18), (Yes .mv [.v 4] 20 18), (Yes (.ia 1) [.v 19, .m 20] 21 18), (Yes ld [.m 21] 22 18), (Yes (.bin .neq .s) [.m 22, .k (.s [43])] 23 18), (Op .pick [.m 18, .m 23, kf] 24), (Mv 24 25), (No .mv [.v 3] 26 25), (No .mv [.v 4] 27 25), (No (.ia 1) [.v 26, .m 27] 28 25), (No ld [.m 28] 29 25), (No (.call (some 154) 1) [.m 29, .k (.u8 (35 : UInt8))] 30 25), (No .mv [.m 30] 31 25), (Yes .mv [.v 3] 32 31), (Yes .mv [.v 4] 33 31), (Yes (.ia 1) [.v 32, .m 33] 34 31), (Yes ld [.m 34] 35 31), (Yes (.bin .neq .s) [.m 35, .k (.s [35])] 36 31), (Yes .mv [.m 36] 37 31), (No .mv [.v 4] 38 37), (No (bi .add) [.m 38, ki 1] 39 37), (No .mv [.v 3] 40 37), (No .len [.m 40] 41 37), (No (bi .lss) [.m 39, .m 41] 42 37), (Yes .pick [.m 37, kt, .m 42] 43 31), (No .pick [.m 31, .m 43, kf] 44 25), (Op .pick [.m 25, kt, .m 44] 45)] none)
(.drop [13, 19, 20, 21, 22, 26, 27, 28, 29, 30, 31, 32, 33, 34, 35, 36, 37, 38, 39, 40, 41, 42, 43] (.cond 45 (.drop [0, 3, 4, 45] (.seq (.reg [(Op .mv [kf] 2)] none)
.ret))
(.drop [45] .skip)))))
(.reg [(Mv 4 11), (Op (bi .add) [.m 11, ki 1] 12), (Mv 12 4)] none)))
def fn121_s0 : SSh := ⟨[(0, sS), (3, wS 8), (4, iS)], []⟩
def fn121_o0 : Cut Tb := cutL tab 0 fn121_s0 (fun x => x.1.2.2.1) (fun x => fn121_l0 x.1.2.1) (fun _ x y k => match y with | .inl y => k .ret ⟨[(2, .b false)], []⟩ | .inr y => k (.exit 0) ⟨[(0, .s x.1.1)], []⟩)
theorem fn121_q0 : CK fn121_o0 0 (.loop fn121_p0) := yv752 (c := fn121_p0) (Z := Int) (Y := Unit ⊕ Unit) tabOk fn121_rk uC (fun _ x z b e => fn121_b0 x.1.2.1 z (fun x5 => b x5) (e (.inl ())) (e (.inr ()))) (fun x z => ⟨[(0, .s x.1.1), (3, .ow 8 x.1.2.1), (4, .n .i64 z)], []⟩) (fun x y => match y with | .inl y => (.ret, ⟨[(2, .b false)], []⟩) | .inr y => ((.exit 0), ⟨[(0, .s x.1.1)], []⟩)) (fun t => (prjS tab 0 fn121_s0 t).bind fun x => some x.1.2.2.1) (fun e t => (if eqE e .ret then yv543 ((prjS tab 0 ⟨[(2, .g (.f (.cb false)))], []⟩ t).bind fun v => some (.inl ())) (if eqE e (.exit 0) then (prjS tab 0 ⟨[(0, sS)], []⟩ t).bind fun v => some (.inr ()) else none) else (if eqE e (.exit 0) then (prjS tab 0 ⟨[(0, sS)], []⟩ t).bind fun v => some (.inr ()) else none))) (fun x => by kernel_rfl) (fun x z => by kernel_rfl) (fun x y k => by rcases y with y | y <;> kernel_rfl) (fun x y => by rcases y with y | y <;> exact nofun) (fun x z => by kernel_rfl) (fun x y => by rcases y with y | y <;> kernel_rfl) (fun x z k => by kernel_rfl)
def fn121_p : TCode Tb :=
(.seq (.reg [(Op .mv [kf] 2)] none)
(.seq (.reg [(Op .mv [.v 0] 5), (Op (.call (some 155) 0) [.m 5] 6), (Mv 6 3)] none)
(.seq (.seq (.reg [(Op .mv [ki 0] 4)] none)
(.block 0 (.drop [2] (.cut 0 fn121_o0 (.loop fn121_p0)))))
(.seq (.reg [(Mv 0 46), (Op .lens [.m 46] 47), (Op (bi .gtr) [.m 47, ki 0] 48), (Mv 48 2)] none)
.ret))))
def fn121_w : Orc Tb := mkOrc (Y := Bool) tab [sS] [] (fun x h => fn121 x.1) (fun _ y k => k (.b y) [])
theorem fn121_k : WK fn121_w 135 := orcD (Y := Bool) (c := fn121_p) (res := [.tmp 2]) (n := 49) (R := (RSp.one (Y := Bool) tab (bS) [] (fun a b => a) (fun y => y) (fun y => ()))) fn121_rk oneD Tryz.func135 (cS uC (cS uC (cS (cS uC (cB (cD (cT fn121_q0)))) uC)))
def fn96_r : Orcs Tb := [(98, fn114_w), (103, fn120_w), (134, fn143_w), (135, fn121_w)]
theorem fn96_rk : RK fn96_r := (yv720 fn114_k (yv720 fn120_k (yv720 fn143_k (yv720 fn121_k yv743))))
def fn96_p : TCode Tb :=
(.seq (.reg [(Op .mv [kf] 2)] none)
(.seq (.seq (.reg [(Op .mv [.v 0] 6), (Op (.call (some 98) 0) [.m 6] 7), (Op (.un .not) [.m 7] 8)] none)
(.cond 8 (.drop [0, 2, 8] (.seq (.reg [(Op .mv [kf] 2)] none)
.ret))
(.drop [2, 8] .skip)))
(.seq (.reg [(Op .mv [.v 0] 10), (Op (.call (some 103) 1) [.m 10] 11), (Mv 11 9), (Op .extm [.c 9 0] 12), (Op .extm [.c 9 1] 13), (Op (.ext 2) [.m 9] 14), (Mv 12 3), (Mv 13 4), (Mv 14 5)] none)
(.seq (.seq (.reg [(Mv 5 15)] none)
(.cond 15 (.drop [0, 15] (.seq (.reg [(Op .mv [.v 3] 16), (Op .lens [.m 16] 17), (Op (bi .gtr) [.m 17, ki 0] 18), (Mv 18 19), (Yes .mv [.m 3] 20 19), (Yes (.call (some 134) 2) [.m 20] 21 19), (Yes (.un .not) [.m 21] 22 19), (Op .pick [.m 19, .m 22, kf] 23), (Mv 23 24), (Yes .mv [.m 4] 25 24), (Yes (.call (some 135) 3) [.m 25] 26 24), (Op .pick [.m 24, .m 26, kf] 27), (Mv 27 2)] none)
(.drop [3, 4, 20, 21, 25] .ret)))
(.drop [3, 4, 15] .skip)))
(.seq (.reg [(Mv 0 28), (Op (.call (some 135) 3) [.m 28] 29), (Mv 29 2)] none)
.ret)))))
def fn96_w : Orc Tb := mkOrc (Y := Bool) tab [sS] [] (fun x h => fn96 x.1) (fun _ y k => k (.b y) [])
theorem fn96_k : WK fn96_w 96 := orcD (Y := Bool) (c := fn96_p) (res := [.tmp 2]) (n := 30) (R := (RSp.one (Y := Bool) tab (bS) [] (fun a b => a) (fun y => y) (fun y => ()))) fn96_rk oneD Tryz.func96 uC
def fn97_r : Orcs Tb := [(103, fn120_w), (96, fn96_w)]
theorem fn97_rk : RK fn97_r := (yv720 fn120_k (yv720 fn96_k yv743))
def fn97_p : TCode Tb :=
(.seq (.reg [(Op .mv [.k (.s [])] 2), (Op .mv [.k (.s [])] 3), (Op .mv [kf] 4)] none)
(.seq (.reg [(Op .mv [.v 0] 9), (Op (.call (some 103) 0) [.m 9] 10), (Mv 10 8), (Op .extm [.c 8 0] 11), (Op .extm [.c 8 1] 12), (Op (.ext 2) [.m 8] 13), (Mv 11 5), (Mv 12 6), (Mv 13 7)] none)
(.seq (.seq (.reg [(Mv 7 14), (Op (.un .not) [.m 14] 15), (Mv 15 16), (No .mv [.m 0] 17 16), (No (.call (some 96) 1) [.m 17] 18 16), (No (.un .not) [.m 18] 19 16), (Op .pick [.m 16, kt, .m 19] 20)] none)
(.drop [0, 2, 3, 4, 17, 18] (.cond 20 (.drop [5, 6, 20] (.seq (.reg [(Op .mv [.k (.s [])] 2), (Op .mv [.k (.s [])] 3), (Op .mv [kf] 4)] none)
.ret))
(.drop [20] .skip))))
(.seq (.reg [(Mv 5 21), (Mv 6 22), (Mv 21 2), (Mv 22 3), (Op .mv [kt] 4)] none)
.ret))))
def fn97_w : Orc Tb := mkOrc (Y := (List UInt8) × (List UInt8) × Bool) tab [sS] [] (fun x h => fn97 x.1) (fun _ y k => k (.tup [.s y.1, .s y.2.1, .b y.2.2]) [])
theorem fn97_k : WK fn97_w 58 := orcD (Y := (List UInt8) × (List UInt8) × Bool) (c := fn97_p) (res := [.tmp 2, .tmp 3, .tmp 4]) (n := 23) (R := (RSp.one (Y := (List UInt8) × (List UInt8) × Bool) tab (.tup [.f (.a .s), .f (.a .s), .f (.a .b)]) [] (fun a b => (a.1, a.2.1, a.2.2.1)) (fun y => (y.1, y.2.1, y.2.2, ())) (fun y => ()))) fn97_rk oneD Tryz.func58 uC
def fn122_r : Orcs Tb := []
theorem fn122_rk : RK fn122_r := yv743
def fn122_p0 : TCode Tb :=
(.cond 11 (.drop [7, 11] (.seq (.reg [(Op (.bslice 9 2 (0 : Int) [0, 1]) [ki 0, ki 0] 17), (Mv 17 4)] none)
.ret))
(.drop [11] (.seq (.reg [(Op (bi .eql) [.m 7, ki 9] 19), (Mv 19 18)] none)
(.cond 18 (.drop [18] (.seq (.reg [(Op (.bslice 9 4 (0 : Int) [0, 1, 2, 3]) [ki 0, ki 2, ki 128, ki 128] 20), (Mv 20 4)] none)
.ret))
(.drop [18] .skip)))))
def fn122_s0 : SSh := ⟨[(7, iS), (11, bS)], []⟩
def fn122_o0 : Cut Tb := cutJ tab 0 fn122_s0 (fun _ x k => fn122_c0 x.1.1 x.1.2.1 (fun y5 => k .ret ⟨[(4, .ow 9 y5)], []⟩) (k .normal ⟨[], []⟩))
theorem fn122_q0 : CK fn122_o0 0 fn122_p0 := cutJD fn122_rk uC
def fn122_p2 : TCode Tb :=
(.cond 31 (.drop [23, 31] (.seq (.reg [(Op (.bslice 9 4 (0 : Int) [0, 1, 2, 3]) [ki 0, ki 0, ki 146, ki 146] 34), (Mv 34 4)] none)
.ret))
(.drop [31] (.seq (.reg [(Op (bi .eql) [.v 23, ki 9] 36), (Mv 36 35)] none)
(.cond 35 (.drop [23, 35] (.seq (.reg [(Op (.bslice 9 18 (0 : Int) [0, 1, 2, 3, 4, 5, 6, 7, 8, 9, 10, 11, 12, 13, 14, 15, 16, 17]) [ki 0, ki 2, ki 128, ki 128, ki 131, ki 131, ki 135, ki 135, ki 143, ki 143, ki 145, ki 145, ki 151, ki 151, ki 158, ki 158, ki 161, ki 162] 37), (Mv 37 4)] none)
.ret))
(.drop [35] (.seq (.reg [(Op (bi .eql) [.v 23, ki 11] 39), (Mv 39 38)] none)
(.cond 38 (.drop [23, 38] (.seq (.reg [(Op (.bslice 9 14 (0 : Int) [0, 1, 2, 3, 4, 5, 6, 7, 8, 9, 10, 11, 12, 13]) [ki 0, ki 0, ki 17, ki 17, ki 128, ki 128, ki 131, ki 131, ki 135, ki 135, ki 143, ki 143, ki 145, ki 145] 40), (Mv 40 4)] none)
.ret))
(.drop [38] (.seq (.reg [(Op (bi .eql) [.v 23, ki 14] 42), (Mv 42 41)] none)
(.cond 41 (.drop [23, 41] (.seq (.reg [(Op (.bslice 9 16 (0 : Int) [0, 1, 2, 3, 4, 5, 6, 7, 8, 9, 10, 11, 12, 13, 14, 15]) [ki 0, ki 0, ki 4, ki 4, ki 128, ki 131, ki 135, ki 135, ki 137, ki 137, ki 139, ki 139, ki 141, ki 144, ki 147, ki 162] 43), (Mv 43 4)] none)
.ret))
(.drop [41] (.seq (.reg [(Op (bi .eql) [.m 23, ki 15] 45), (Mv 45 44)] none)
(.cond 44 (.drop [44] (.seq (.reg [(Op (.bslice 9 4 (0 : Int) [0, 1, 2, 3]) [ki 0, ki 0, ki 24, ki 25] 46), (Mv 46 4)] none)
.ret))
(.drop [44] .skip))))))))))))))
def fn122_s2 : SSh := ⟨[(23, iS), (31, bS)], []⟩
def fn122_o2 : Cut Tb := cutJ tab 0 fn122_s2 (fun _ x k => fn122_c2 x.1.1 x.1.2.1 (fun y15 => k .ret ⟨[(4, .ow 9 y15)], []⟩) (k .normal ⟨[], []⟩))
theorem fn122_q2 : CK fn122_o2 0 fn122_p2 := cutJD fn122_rk uC
def fn122_p1 : TCode Tb :=
(.cond 27 (.drop [23, 27] (.seq (.reg [(Op (.bslice 9 16 (0 : Int) [0, 1, 2, 3, 4, 5, 6, 7, 8, 9, 10, 11, 12, 13, 14, 15]) [ki 0, ki 0, ki 16, ki 16, ki 128, ki 128, ki 131, ki 131, ki 135, ki 135, ki 144, ki 145, ki 151, ki 151, ki 153, ki 153] 30), (Mv 30 4)] none)
.ret))
(.drop [27] (.seq (.seq (.reg [(Op (bi .eql) [.v 23, ki 6] 32), (Mv 32 31)] none)
(.cond 31 .skip
(.drop [31] (.reg [(Op (bi .eql) [.v 23, ki 7] 33), (Mv 33 31)] none))))
(.cut 0 fn122_o2 fn122_p2))))
def fn122_s1 : SSh := ⟨[(23, iS), (27, bS)], []⟩
def fn122_o1 : Cut Tb := cutJ tab 0 fn122_s1 (fun _ x k => fn122_c1 x.1.1 x.1.2.1 (fun y18 => k .ret ⟨[(4, .ow 9 y18)], []⟩) (k .normal ⟨[], []⟩))
theorem fn122_q1 : CK fn122_o1 0 fn122_p1 := cutJD fn122_rk (cC uC (cD (cS uC (cT fn122_q2))))
def fn122_p : TCode Tb :=
(.seq (.reg [(Op .mv [.k (.nilS)] 4)] none)
(.seq (.seq (.reg [(Op .mv [.v 0] 5), (Op (bi .eql) [.m 5, ki 4] 6)] none)
(.cond 6 (.drop [0, 4, 6] (.seq (.seq (.reg [(Mv 1 7)] none)
(.block 0 (.seq (.reg [(Op (bi .eql) [.v 7, ki 2] 9), (Mv 9 8)] none)
(.cond 8 (.drop [7, 8] (.seq (.reg [(Op (.bslice 9 2 (0 : Int) [0, 1]) [ki 0, ki 5] 10), (Mv 10 4)] none)
.ret))
(.drop [8] (.seq (.seq (.reg [(Op (bi .eql) [.v 7, ki 4] 12), (Mv 12 11)] none)
(.cond 11 .skip
(.drop [11] (.seq (.reg [(Op (bi .eql) [.v 7, ki 5] 13), (Mv 13 11)] none)
(.cond 11 .skip
(.drop [11] (.seq (.reg [(Op (bi .eql) [.v 7, ki 6] 14), (Mv 14 11)] none)
(.cond 11 .skip
(.drop [11] (.seq (.reg [(Op (bi .eql) [.v 7, ki 7] 15), (Mv 15 11)] none)
(.cond 11 .skip
(.drop [11] (.reg [(Op (bi .eql) [.v 7, ki 14] 16), (Mv 16 11)] none)))))))))))))
(.cut 0 fn122_o0 fn122_p0)))))))
(.seq (.reg [(Op .mv [.k (.nilS)] 4)] none)
.ret)))
(.drop [4, 6] .skip)))
(.seq (.seq (.reg [(Mv 0 21), (Op (bi .neq) [.m 21, ki 5] 22)] none)
(.cond 22 (.drop [1, 22] (.seq (.reg [(Op .mv [.k (.nilS)] 4)] none)
.ret))
(.drop [22] .skip)))
(.seq (.seq (.reg [(Mv 1 23)] none)
(.block 1 (.seq (.reg [(Op (bi .eql) [.v 23, ki 2] 25), (Mv 25 24)] none)
(.cond 24 (.drop [23, 24] (.seq (.reg [(Op (.bslice 9 16 (0 : Int) [0, 1, 2, 3, 4, 5, 6, 7, 8, 9, 10, 11, 12, 13, 14, 15]) [ki 0, ki 0, ki 128, ki 138, ki 140, ki 140, ki 144, ki 144, ki 149, ki 149, ki 151, ki 151, ki 153, ki 157, ki 159, ki 159] 26), (Mv 26 4)] none)
.ret))
(.drop [24] (.seq (.seq (.reg [(Op (bi .eql) [.v 23, ki 4] 28), (Mv 28 27)] none)
(.cond 27 .skip
(.drop [27] (.reg [(Op (bi .eql) [.v 23, ki 5] 29), (Mv 29 27)] none))))
(.cut 0 fn122_o1 fn122_p1)))))))
(.seq (.reg [(Op .mv [.k (.nilS)] 4)] none)
.ret)))))
def fn122_w : Orc Tb := mkOrc (Y := (Option (List Int))) tab [iS, iS] [] (fun x h => fn122 x.1 x.2.1) (fun _ y k => k (.ow 9 y) [])
theorem fn122_k : WK fn122_w 99 := orcD (Y := (Option (List Int))) (c := fn122_p) (res := [.tmp 4]) (n := 47) (R := (RSp.one (Y := (Option (List Int))) tab (wS 9) [] (fun a b => a) (fun y => y) (fun y => ()))) fn122_rk oneD Tryz.func99 (cS uC (cS (cS uC (cC (cD (cS (cS uC (cB (cS uC (cC uC (cD (cS uC (cT fn122_q0))))))) uC)) uC)) (cS uC (cS (cS uC (cB (cS uC (cC uC (cD (cS uC (cT fn122_q1))))))) uC))))
def fn123_r : Orcs Tb := [(99, fn122_w)]
theorem fn123_rk : RK fn123_r := (yv720 fn122_k yv743)
def fn123_p0 : TCode Tb :=
(.seq (.seq (.reg [(Op .mv [.v 8] 12), (Op (bi .add) [.m 12, ki 1] 13), (Op .mv [.v 7] 14), (Op .len [.m 14] 15), (Op (bi .lss) [.m 13, .m 15] 16)] none)
(.cond 16 (.drop [16] .skip)
(.drop [2, 7, 8, 16] (.exit 0))))
(.seq (.block 1 (.seq (.reg [(Op .mv [.v 2] 19), (Op (.cint .i64) [.m 19] 20), (Op .mv [.v 7] 21), (Op .mv [.v 8] 22), (Op (.ia 1) [.v 21, .m 22] 23), (Ld 23 24), (Op (bi .geq) [.m 20, .m 24] 25), (Mv 25 26), (Yes .mv [.v 2] 27 26), (Yes (.cint .i64) [.m 27] 28 26), (Yes .mv [.v 7] 29 26), (Yes .mv [.v 8] 30 26), (Yes (bi .add) [.m 30, ki 1] 31 26), (Yes (.ia 1) [.v 29, .m 31] 32 26), (Yes ld [.m 32] 33 26), (Yes (bi .leq) [.m 28, .m 33] 34 26), (Op .pick [.m 26, .m 34, kf] 35)] none)
(.drop [21, 27, 28, 29, 30, 31, 32, 33] (.cond 35 (.drop [2, 7, 8, 35] (.seq (.reg [(Op .mv [kt] 6)] none)
.ret))
(.drop [35] .skip)))))
(.reg [(Mv 8 17), (Op (bi .add) [.m 17, ki 2] 18), (Mv 18 8)] none)))
def fn123_s0 : SSh := ⟨[(2, u8S), (7, wS 9), (8, iS)], []⟩
def fn123_o0 : Cut Tb := cutL tab 0 fn123_s0 (fun x => x.1.2.2.1) (fun x => fn123_l0 x.1.1 x.1.2.1) (fun _ x y k => match y with | .inl y => k .ret ⟨[(6, .b true)], []⟩ | .inr y => k (.exit 0) ⟨[], []⟩)
theorem fn123_q0 : CK fn123_o0 0 (.loop fn123_p0) := yv752 (c := fn123_p0) (Z := Int) (Y := Unit ⊕ Unit) tabOk fn123_rk uC (fun _ x z b e => fn123_b0 x.1.1 x.1.2.1 z (fun x7 => b x7) (e (.inl ())) (e (.inr ()))) (fun x z => ⟨[(2, .u8 x.1.1), (7, .ow 9 x.1.2.1), (8, .n .i64 z)], []⟩) (fun x y => match y with | .inl y => (.ret, ⟨[(6, .b true)], []⟩) | .inr y => ((.exit 0), ⟨[], []⟩)) (fun t => (prjS tab 0 fn123_s0 t).bind fun x => some x.1.2.2.1) (fun e t => (if eqE e .ret then yv543 ((prjS tab 0 ⟨[(6, .g (.f (.cb true)))], []⟩ t).bind fun v => some (.inl ())) (if eqE e (.exit 0) then (prjS tab 0 ⟨[], []⟩ t).bind fun v => some (.inr ()) else none) else (if eqE e (.exit 0) then (prjS tab 0 ⟨[], []⟩ t).bind fun v => some (.inr ()) else none))) (fun x => by kernel_rfl) (fun x z => by kernel_rfl) (fun x y k => by rcases y with y | y <;> kernel_rfl) (fun x y => by rcases y with y | y <;> exact nofun) (fun x z => by kernel_rfl) (fun x y => by rcases y with y | y <;> kernel_rfl) (fun x z k => by kernel_rfl)
def fn123_p : TCode Tb :=
(.seq (.reg [(Op .mv [kf] 6)] none)
(.seq (.reg [(Mv 0 9), (Mv 1 10), (Op (.call (some 99) 0) [.m 9, .m 10] 11), (Mv 11 7)] none)
(.seq (.seq (.reg [(Op .mv [ki 0] 8)] none)
(.block 0 (.drop [6] (.cut 0 fn123_o0 (.loop fn123_p0)))))
(.seq (.reg [(Op .mv [kf] 6)] none)
.ret))))
def fn123_w : Orc Tb := mkOrc (Y := Bool) tab [iS, iS, u8S] [] (fun x h => fn123 x.1 x.2.1 x.2.2.1) (fun _ y k => k (.b y) [])
theorem fn123_k : WK fn123_w 47 := orcD (Y := Bool) (c := fn123_p) (res := [.tmp 6]) (n := 36) (R := (RSp.one (Y := Bool) tab (bS) [] (fun a b => a) (fun y => y) (fun y => ()))) fn123_rk oneD Tryz.func47 (cS uC (cS uC (cS (cS uC (cB (cD (cT fn123_q0)))) uC)))
def fn124_r : Orcs Tb := [(58, fn97_w), (96, fn96_w), (47, fn123_w)]
theorem fn124_rk : RK fn124_r := (yv720 fn97_k (yv720 fn96_k (yv720 fn123_k yv743)))
def fn124_s2 : SSh := ⟨[(0, iS), (3, rS 0 0), (5, iS)], [hS0]⟩
def fn124_o2 : Cut Tb := cutJ tab 0 fn124_s2 (fun _ x k => k .normal ⟨[(0, .n .i64 x.1.1), (3, .ref 0 0), (5, .n .i64 x.1.2.2.1)], [(injL tab hS0 x.2.1)]⟩)
theorem fn124_q2 : CK fn124_o2 0 .skip := yv751 (c := .skip) tabOk fn124_rk trivial (fun _ _ => by kernel_rfl)
def fn124_p1 : TCode Tb :=
(.fin 0 fn124_o2 (.seq (.seq (.reg [(Op .mv [.v 5] 29), (Fav 22 3 30), (Ld 30 31), (Op .len [.m 31] 32), (Op (bi .lss) [.m 29, .m 32] 33)] none)
(.cond 33 (.drop [33] .skip)
(.drop [5, 33] (.exit 0))))
(.seq (.block 1 (.seq (.reg [(Fav 22 3 36), (Ld 36 37), (Op .mv [.v 5] 38), (Op (.ia 2) [.v 37, .m 38] 39), (Op (.load (some 2)) [.m 39] 40), (Op (.alloc [.s [], .u8 (0 : UInt8)]) [] 6), (Do (.store 2) [.v 6, .m 40])] none)
(.seq (.reg [(Fav 0 6 42), (Ld 42 43), (Op (.call (some 58) 0) [.m 43] 44), (Mv 44 41), (Op .extm [.c 41 0] 45), (Op .extm [.c 41 1] 46), (Op (.ext 2) [.m 41] 47), (Mv 45 7), (Mv 46 8), (Mv 47 9)] none)
(.seq (.reg [(Fav 0 6 48), (Ld 48 49), (Op (.call (some 96) 1) [.m 49] 50), (Op (.un .not) [.m 50] 51), (Mv 51 52), (No (.fa 1) [.v 6] 53 52), (No ld [.m 53] 54 52), (No (bi .rem) [.m 54, .k (.u8 (4 : UInt8))] 55 52), (No (bi .eql) [.m 55, .k (.u8 (3 : UInt8))] 56 52), (Op .pick [.m 52, kt, .m 56] 57), (Mv 57 58), (No (.fa 0) [.v 3] 59 58), (No ld [.m 59] 60 58), (No (bi .eql) [.m 60, ki 10] 61 58), (No .mv [.m 61] 62 58), (Yes (.fa 1) [.v 6] 63 62), (Yes ld [.m 63] 64 62), (Yes (bi .neq) [.m 64, .k (.u8 (0 : UInt8))] 65 62), (No .pick [.m 62, .m 65, kf] 66 58), (Op .pick [.m 58, kt, .m 66] 67), (Mv 67 68), (No .mv [.v 0] 69 68), (No (bi .eql) [.m 69, ki 4] 70 68), (No .mv [.m 70] 71 68), (Yes (.fa 1) [.v 6] 72 71), (Yes ld [.m 72] 73 71), (Yes (bi .gtr) [.m 73, .k (.u8 (2 : UInt8))] 74 71), (No .pick [.m 71, .m 74, kf] 75 68), (Op .pick [.m 68, kt, .m 75] 76), (Mv 76 77), (No (.fa 1) [.v 6] 78 77), (No ld [.m 78] 79 77), (No (bi .geq) [.m 79, .k (.u8 (48 : UInt8))] 80 77), (Op .pick [.m 77, kt, .m 80] 81), (Mv 81 82), (No .mv [.m 9] 83 82), (No .mv [.m 83] 84 82), (Yes (.fa 1) [.m 6] 85 84), (Yes ld [.m 85] 86 84), (Yes (bi .quo) [.m 86, .k (.u8 (4 : UInt8))] 87 84), (Yes (bi .rem) [.m 87, .k (.u8 (2 : UInt8))] 88 84), (Yes (bi .eql) [.m 88, .k (.u8 (1 : UInt8))] 89 84), (No .pick [.m 84, .m 89, kf] 90 82), (Op .pick [.m 82, kt, .m 90] 91)] none)
(.drop [6, 7, 8, 9, 37, 53, 54, 55, 59, 60, 61, 62, 63, 64, 65, 69, 70, 71, 72, 73, 74, 78, 79, 83, 84, 85, 86, 87, 88, 89] (.cond 91 (.drop [0, 3, 5, 91] (.seq (.reg [(Op .mv [kf] 4)] none)
.ret))
(.drop [91] .skip)))))))
(.reg [(Mv 5 34), (Op (bi .add) [.m 34, ki 1] 35), (Mv 35 5)] none))))
def fn124_s1 : SSh := ⟨[(0, iS), (3, rS 0 0), (5, iS)], [hS0]⟩
def fn124_o1 : Cut Tb := cutL tab 0 fn124_s1 (fun x => x.1.2.2.1) (fun x => fn124_l1 x.1.1 (tabBk 3 x.2.1 : fn105)) (fun _ x y k => match y with | .inl y => k .ret ⟨[(4, .b false)], [(injL tab hS0 x.2.1), [.s y.Text, .u8 y.Opt]]⟩ | .inr y => k (.exit 0) ⟨[(0, .n .i64 x.1.1), (3, .ref 0 0)], [(injL tab hS0 x.2.1)]⟩)
theorem fn124_q1 : CK fn124_o1 0 (.loop fn124_p1) := yv752 (c := fn124_p1) (Z := Int) (Y := fn104 ⊕ Unit) tabOk fn124_rk (cF fn124_q2 uC) (fun _ x z b e => fn124_b1 x.1.1 (tabBk 3 x.2.1 : fn105) z (fun x7 => b x7) (fun y17 => e (.inl y17)) (e (.inr ()))) (fun x z => ⟨[(0, .n .i64 x.1.1), (3, .ref 0 0), (5, .n .i64 z)], [(injL tab hS0 x.2.1)]⟩) (fun x y => match y with | .inl y => (.ret, ⟨[(4, .b false)], [(injL tab hS0 x.2.1), [.s y.Text, .u8 y.Opt]]⟩) | .inr y => ((.exit 0), ⟨[(0, .n .i64 x.1.1), (3, .ref 0 0)], [(injL tab hS0 x.2.1)]⟩)) (fun t => (prjS tab 0 fn124_s1 t).bind fun x => some x.1.2.2.1) (fun e t => (if eqE e .ret then yv543 ((prjS tab 0 ⟨[(4, .g (.f (.cb false)))], [hS0, [sS, u8S]]⟩ t).bind fun v => some (.inl (⟨v.2.2.1.1, v.2.2.1.2.1⟩ : fn104))) (if eqE e (.exit 0) then (prjS tab 0 ⟨[(0, iS), (3, rS 0 0)], [hS0]⟩ t).bind fun v => some (.inr ()) else none) else (if eqE e (.exit 0) then (prjS tab 0 ⟨[(0, iS), (3, rS 0 0)], [hS0]⟩ t).bind fun v => some (.inr ()) else none))) (fun x => by kernel_rfl) (fun x z => by kernel_rfl) (fun x y k => by rcases y with y | y <;> kernel_rfl) (fun x y => by rcases y with y | y <;> exact nofun) (fun x z => by kernel_rfl) (fun x y => by rcases y with y | y <;> kernel_rfl) (fun x z k => by kernel_rfl)
def fn124_p0 : TCode Tb :=
(.cond 18 (.drop [18] (.seq (.seq (.reg [(Fav 22 3 19), (Ld 19 20), (Op .len [.m 20] 21), (Op (bi .lss) [.m 21, ki 1] 22), (Mv 22 23), (No (.fa 22) [.v 3] 24 23), (No ld [.m 24] 25 23), (No .len [.m 25] 26 23), (No (bi .gtr) [.m 26, ki 1024] 27 23), (Op .pick [.m 23, kt, .m 27] 28)] none)
(.drop [24, 25, 26] (.cond 28 (.drop [0, 3, 28] (.seq (.reg [(Op .mv [kf] 4)] none)
.ret))
(.drop [28] .skip))))
(.seq (.reg [(Op .mv [ki 0] 5)] none)
(.block 0 (.cut 0 fn124_o1 (.loop fn124_p1))))))
(.drop [18] .skip))
def fn124_s0 : SSh := ⟨[(0, iS), (3, rS 0 0), (18, bS)], [hS0]⟩
def fn124_o0 : Cut Tb := cutJ tab 0 fn124_s0 (fun _ x k => fn124_c0 x.1.1 x.1.2.2.1 (tabBk 3 x.2.1 : fn105) (k .ret ⟨[(4, .b false)], [(injL tab hS0 x.2.1)]⟩) (fun y19 => k .ret ⟨[(4, .b false)], [(injL tab hS0 x.2.1), [.s y19.Text, .u8 y19.Opt]]⟩) (k .normal ⟨[(0, .n .i64 x.1.1), (3, .ref 0 0)], [(injL tab hS0 x.2.1)]⟩))
theorem fn124_q0 : CK fn124_o0 0 fn124_p0 := cutJD fn124_rk (cC (cD (cS uC (cS uC (cB (cT fn124_q1))))) uC)
def fn124_p5 : TCode Tb :=
(.seq (.seq (.reg [(Op .mv [.v 10] 114), (Fav 23 3 115), (Ld 115 116), (Op .len [.m 116] 117), (Op (bi .lss) [.m 114, .m 117] 118)] none)
(.cond 118 (.drop [118] .skip)
(.drop [10, 118] (.exit 2))))
(.seq (.block 3 (.seq (.reg [(Op .mv [.v 0] 121), (Fav 0 3 122), (Ld 122 123), (Fav 23 3 124), (Ld 124 125), (Op .mv [.v 10] 126), (Op (.ia 1) [.v 125, .m 126] 127), (Ld 127 128), (Op (.call (some 47) 2) [.m 121, .m 123, .m 128] 129), (Op (.un .not) [.m 129] 130)] (some [[], [], [], [], [2], [], [], [2], [], []]))
(.cond 130 (.drop [0, 3, 10, 125, 130] (.seq (.reg [(Op .mv [kf] 4)] none)
.ret))
(.drop [125, 130] .skip))))
(.reg [(Mv 10 119), (Op (bi .add) [.m 119, ki 1] 120), (Mv 120 10)] none)))
def fn124_s5 : SSh := ⟨[(0, iS), (3, rS 0 0), (10, iS)], [hS0]⟩
def fn124_o5 : Cut Tb := cutL tab 0 fn124_s5 (fun x => x.1.2.2.1) (fun x => fn124_l5 x.1.1 (tabBk 3 x.2.1 : fn105)) (fun _ x y k => match y with | .inl y => k .ret ⟨[(4, .b false)], [(injL tab hS0 x.2.1)]⟩ | .inr y => k (.exit 2) ⟨[(0, .n .i64 x.1.1), (3, .ref 0 0)], [(injL tab hS0 x.2.1)]⟩)
theorem fn124_q5 : CK fn124_o5 0 (.loop fn124_p5) := yv752 (c := fn124_p5) (Z := Int) (Y := Unit ⊕ Unit) tabOk fn124_rk uC (fun _ x z b e => fn124_b5 x.1.1 (tabBk 3 x.2.1 : fn105) z (fun x28 => b x28) (e (.inl ())) (e (.inr ()))) (fun x z => ⟨[(0, .n .i64 x.1.1), (3, .ref 0 0), (10, .n .i64 z)], [(injL tab hS0 x.2.1)]⟩) (fun x y => match y with | .inl y => (.ret, ⟨[(4, .b false)], [(injL tab hS0 x.2.1)]⟩) | .inr y => ((.exit 2), ⟨[(0, .n .i64 x.1.1), (3, .ref 0 0)], [(injL tab hS0 x.2.1)]⟩)) (fun t => (prjS tab 0 fn124_s5 t).bind fun x => some x.1.2.2.1) (fun e t => (if eqE e .ret then yv543 ((prjS tab 0 ⟨[(4, .g (.f (.cb false)))], [hS0]⟩ t).bind fun v => some (.inl ())) (if eqE e (.exit 2) then (prjS tab 0 ⟨[(0, iS), (3, rS 0 0)], [hS0]⟩ t).bind fun v => some (.inr ()) else none) else (if eqE e (.exit 2) then (prjS tab 0 ⟨[(0, iS), (3, rS 0 0)], [hS0]⟩ t).bind fun v => some (.inr ()) else none))) (fun x => by kernel_rfl) (fun x z => by kernel_rfl) (fun x y k => by rcases y with y | y <;> kernel_rfl) (fun x y => by rcases y with y | y <;> exact nofun) (fun x z => by kernel_rfl) (fun x y => by rcases y with y | y <;> kernel_rfl) (fun x z k => by kernel_rfl)
def fn124_p4 : TCode Tb :=
(.cond 103 (.drop [103] (.seq (.seq (.reg [(Fav 23 3 104), (Ld 104 105), (Op .len [.m 105] 106), (Op (bi .lss) [.m 106, ki 1] 107), (Mv 107 108), (No (.fa 23) [.v 3] 109 108), (No ld [.m 109] 110 108), (No .len [.m 110] 111 108), (No (bi .gtr) [.m 111, ki 1024] 112 108), (Op .pick [.m 108, kt, .m 112] 113)] none)
(.drop [109, 110, 111] (.cond 113 (.drop [0, 3, 113] (.seq (.reg [(Op .mv [kf] 4)] none)
.ret))
(.drop [113] .skip))))
(.seq (.reg [(Op .mv [ki 0] 10)] none)
(.block 2 (.cut 0 fn124_o5 (.loop fn124_p5))))))
(.drop [103] .skip))
def fn124_s4 : SSh := ⟨[(0, iS), (3, rS 0 0), (103, bS)], [hS0]⟩
def fn124_o4 : Cut Tb := cutJ tab 0 fn124_s4 (fun _ x k => fn124_c4 x.1.1 x.1.2.2.1 (tabBk 3 x.2.1 : fn105) (k .ret ⟨[(4, .b false)], [(injL tab hS0 x.2.1)]⟩) (k .normal ⟨[(0, .n .i64 x.1.1), (3, .ref 0 0)], [(injL tab hS0 x.2.1)]⟩))
theorem fn124_q4 : CK fn124_o4 0 fn124_p4 := cutJD fn124_rk (cC (cD (cS uC (cS uC (cB (cT fn124_q5))))) uC)
def fn124_p6 : TCode Tb :=
(.seq (.reg [(Fav 0 3 131), (Ld 131 132), (Op (bi .eql) [.m 132, ki 11] 133), (Mv 133 134), (Yes .mv [.m 0] 135 134), (Yes (bi .eql) [.m 135, ki 4] 136 134), (Op .pick [.m 134, .m 136, kf] 137), (Mv 137 138), (Yes (.fa 23) [.m 3] 139 138), (Yes ld [.m 139] 140 138), (Yes .len [.m 140] 141 138), (Yes (bi .gtr) [.m 141, ki 0] 142 138), (Op .pick [.m 138, .m 142, kf] 143), (Op (.un .not) [.m 143] 144), (Mv 144 4)] none)
(.drop [0, 3, 135, 139, 140, 141] .ret))
def fn124_s6 : SSh := ⟨[(0, iS), (3, rS 0 0)], [hS0]⟩
def fn124_o6 : Cut Tb := cutJ tab 0 fn124_s6 (fun _ x k => fn124_c6 x.1.1 (tabBk 3 x.2.1 : fn105) (fun y34 => k .ret ⟨[(4, .b y34)], [(injL tab hS0 x.2.1)]⟩))
theorem fn124_q6 : CK fn124_o6 0 fn124_p6 := cutJD fn124_rk uC
def fn124_p3 : TCode Tb :=
(.seq (.seq (.reg [(Fav 0 3 92), (Ld 92 93), (Op (bi .eql) [.m 93, ki 9] 94), (Mv 94 95), (No (.fa 0) [.v 3] 96 95), (No ld [.m 96] 97 95), (No (bi .eql) [.m 97, ki 11] 98 95), (No .mv [.m 98] 99 95), (Yes .mv [.v 0] 100 99), (Yes (bi .eql) [.m 100, ki 5] 101 99), (No .pick [.m 99, .m 101, kf] 102 95), (Op .pick [.m 95, kt, .m 102] 103)] none)
(.drop [96, 97, 98, 99, 100, 101] (.cut 0 fn124_o4 fn124_p4)))
(.cut 0 fn124_o6 fn124_p6))
def fn124_s3 : SSh := ⟨[(0, iS), (3, rS 0 0)], [hS0]⟩
def fn124_o3 : Cut Tb := cutJ tab 0 fn124_s3 (fun _ x k => fn124_c3 x.1.1 (tabBk 3 x.2.1 : fn105) (fun y38 => k .ret ⟨[(4, .b y38)], [(injL tab hS0 x.2.1)]⟩))
theorem fn124_q3 : CK fn124_o3 0 fn124_p3 := cutJD fn124_rk (cS (cS uC (cD (cT fn124_q4))) (cT fn124_q6))
def fn124_p : TCode Tb :=
(.seq (.reg [(Op .box [.m 1] 3), (Op .mv [kf] 4)] none)
(.seq (.seq (.reg [(Fav 0 3 11), (Ld 11 12), (Op (bi .eql) [.m 12, ki 8] 13), (Mv 13 14), (No (.fa 0) [.v 3] 15 14), (No ld [.m 15] 16 14), (No (bi .eql) [.m 16, ki 10] 17 14), (Op .pick [.m 14, kt, .m 17] 18)] none)
(.drop [4, 15, 16] (.cut 0 fn124_o0 fn124_p0)))
(.cut 0 fn124_o3 fn124_p3)))
def fn124_w : Orc Tb := mkOrc (Y := Bool) tab [iS, .g (.st 3)] [] (fun x h => fn124 x.1 (x.2.1 : fn105)) (fun _ y k => k (.b y) [])
theorem fn124_k : WK fn124_w 45 := orcD (Y := Bool) (c := fn124_p) (res := [.tmp 4]) (n := 145) (R := (RSp.one (Y := Bool) tab (bS) [] (fun a b => a) (fun y => y) (fun y => ()))) fn124_rk oneD Tryz.func45 (cS uC (cS (cS uC (cD (cT fn124_q0))) (cT fn124_q3)))
def fn75_r : Orcs Tb := [(97, fn144_w), (98, fn114_w)]
theorem fn75_rk : RK fn75_r := (yv720 fn144_k (yv720 fn114_k yv743))
def fn75_p0 : TCode Tb :=
(.seq (.reg [(Fav 17 3 41), (Ld 41 42), (Op .lens [.m 42] 43), (Op (bi .leq) [.m 43, ki 65535] 44), (Mv 44 45), (Yes (.fa 15) [.v 3] 46 45), (Yes ld [.m 46] 47 45), (Yes .lens [.m 47] 48 45), (Yes (bi .leq) [.m 48, ki 65535] 49 45), (Op .pick [.m 45, .m 49, kf] 50), (Mv 50 51), (Yes (.fa 7) [.v 3] 52 51), (Yes ld [.m 52] 53 51), (Yes (.call (some 98) 1) [.m 53] 54 51), (Op .pick [.m 51, .m 54, kf] 55), (Mv 55 56), (Yes (.fa 16) [.m 3] 57 56), (Yes ld [.m 57] 58 56), (Yes (.call (some 98) 1) [.m 58] 59 56), (Op .pick [.m 56, .m 59, kf] 60), (Mv 60 4)] none)
(.drop [3, 46, 47, 48, 52, 53, 57, 58] .ret))
def fn75_s0 : SSh := ⟨[(3, rS 0 0)], [hS0]⟩
def fn75_o0 : Cut Tb := cutJ tab 0 fn75_s0 (fun _ x k => fn75_c0 (tabBk 3 x.2.1 : fn105) (fun y7 => k .ret ⟨[(4, .b y7)], [(injL tab hS0 x.2.1)]⟩))
theorem fn75_q0 : CK fn75_o0 0 fn75_p0 := cutJD fn75_rk uC
def fn75_p : TCode Tb :=
(.seq (.reg [(Op .box [.m 1] 3), (Op .mv [kf] 4)] none)
(.seq (.seq (.reg [(Fav 8 3 5), (Ld 5 6), (Mv 6 7), (Yes (.fa 11) [.v 3] 8 7), (Yes ld [.m 8] 9 7), (Yes (bi .gtr) [.m 9, .k (.u8 (2 : UInt8))] 10 7), (Yes .mv [.m 10] 11 7), (No (.fa 14) [.v 3] 12 11), (No ld [.m 12] 13 11), (No (.call (some 97) 0) [.m 13] 14 11), (No (.un .not) [.m 14] 15 11), (Yes .pick [.m 11, kt, .m 15] 16 7), (Op .pick [.m 7, .m 16, kf] 17), (Mv 17 18), (No .mv [.m 0] 19 18), (No (bi .eql) [.m 19, ki 4] 20 18), (No .mv [.m 20] 21 18), (Yes (.fa 10) [.v 3] 22 21), (Yes ld [.m 22] 23 21), (Yes .mv [.m 23] 24 21), (Yes (.fa 9) [.v 3] 25 24), (Yes ld [.m 25] 26 24), (Yes (.un .not) [.m 26] 27 24), (Yes .pick [.m 24, .m 27, kf] 28 21), (Yes .mv [.m 28] 29 21), (No (.fa 7) [.v 3] 30 29), (No ld [.m 30] 31 29), (No (.bin .eql .s) [.m 31, .k (.s [])] 32 29), (No .mv [.m 32] 33 29), (Yes (.fa 5) [.v 3] 34 33), (Yes ld [.m 34] 35 33), (Yes (.un .not) [.m 35] 36 33), (No .pick [.m 33, .m 36, kf] 37 29), (Yes .pick [.m 29, kt, .m 37] 38 21), (No .pick [.m 21, .m 38, kf] 39 18), (Op .pick [.m 18, kt, .m 39] 40)] none)
(.drop [0, 4, 8, 9, 10, 11, 12, 13, 14, 15, 19, 20, 21, 22, 23, 24, 25, 26, 27, 28, 29, 30, 31, 32, 33, 34, 35, 36, 37, 38] (.cond 40 (.drop [3, 40] (.seq (.reg [(Op .mv [kf] 4)] none)
.ret))
(.drop [40] .skip))))
(.cut 0 fn75_o0 fn75_p0)))
def fn75_w : Orc Tb := mkOrc (Y := Bool) tab [iS, .g (.st 3)] [] (fun x h => fn75 x.1 (x.2.1 : fn105)) (fun _ y k => k (.b y) [])
theorem fn75_k : WK fn75_w 46 := orcD (Y := Bool) (c := fn75_p) (res := [.tmp 4]) (n := 61) (R := (RSp.one (Y := Bool) tab (bS) [] (fun a b => a) (fun y => y) (fun y => ()))) fn75_rk oneD Tryz.func46 (cS uC (cS uC (cT fn75_q0)))
def fn76_r : Orcs Tb := [(49, fn158_w), (97, fn144_w)]
theorem fn76_rk : RK fn76_r := (yv720 fn158_k (yv720 fn144_k yv743))
def fn76_p0 : TCode Tb :=
(.seq (.reg [(Fav 24 3 29), (Ld 29 30), (Op (.call (some 49) 0) [.m 30, .k (.u8 (35 : UInt8))] 31), (Mv 31 28), (Op .extm [.c 28 0] 32), (Op (.ext 1) [.m 28] 33), (Op (.alloc [.u8 (0 : UInt8), .u32 (0 : UInt32), .s [], .s []]) [] 5), (Do (.store 4) [.m 5, .m 32]), (Mv 33 6)] none)
(.seq (.reg [(Fav 20 3 34), (Ld 34 35), (Op (.call (some 97) 1) [.m 35] 36), (Mv 36 37), (No .mv [.m 0] 38 37), (No (bi .eql) [.m 38, ki 5] 39 37), (No .mv [.m 39] 40 37), (Yes (.fa 20) [.m 3] 41 40), (Yes ld [.m 41] 42 40), (Yes (.bin .eql .s) [.m 42, .k (.s [])] 43 40), (No .pick [.m 40, .m 43, kf] 44 37), (No .mv [.m 44] 45 37), (Yes .mv [.m 6] 46 45), (No .pick [.m 45, .m 46, kf] 47 37), (Op .pick [.m 37, kt, .m 47] 48), (Mv 48 4)] none)
(.drop [0, 3, 6, 38, 39, 40, 41, 42, 43, 44, 45, 46] .ret)))
def fn76_s0 : SSh := ⟨[(0, iS), (3, rS 0 0)], [hS0]⟩
def fn76_o0 : Cut Tb := cutJ tab 0 fn76_s0 (fun _ x k => fn76_c0 x.1.1 (tabBk 3 x.2.1 : fn105) (fun y8 y9 => k .ret ⟨[(4, .b y8)], [(injL tab hS0 x.2.1), [.u8 y9.Id, .u32 y9.N, .s y9.A, .s y9.B]]⟩))
theorem fn76_q0 : CK fn76_o0 0 fn76_p0 := cutJD fn76_rk uC
def fn76_p : TCode Tb :=
(.seq (.reg [(Op .box [.m 1] 3), (Op .mv [kf] 4)] none)
(.seq (.seq (.reg [(Fav 3 3 7), (Ld 7 8), (Op (bi .gtr) [.m 8, .k (.u8 (2 : UInt8))] 9), (Mv 9 10), (No (.fa 1) [.v 3] 11 10), (No ld [.m 11] 12 10), (No .mv [.m 12] 13 10), (Yes (.fa 3) [.v 3] 14 13), (Yes ld [.m 14] 15 13), (Yes (bi .eql) [.m 15, .k (.u8 (0 : UInt8))] 16 13), (No .pick [.m 13, .m 16, kf] 17 10), (Op .pick [.m 10, kt, .m 17] 18), (Mv 18 19), (No (.fa 4) [.v 3] 20 19), (No ld [.m 20] 21 19), (No (bi .eql) [.m 21, .k (.u16 (0 : UInt16))] 22 19), (No (.fa 3) [.v 3] 23 19), (No ld [.m 23] 24 19), (No (bi .eql) [.m 24, .k (.u8 (0 : UInt8))] 25 19), (No (.bin .neq .b) [.m 22, .m 25] 26 19), (Op .pick [.m 19, kt, .m 26] 27)] none)
(.drop [4, 11, 12, 13, 14, 15, 16, 20, 21, 22, 23, 24, 25] (.cond 27 (.drop [0, 3, 27] (.seq (.reg [(Op .mv [kf] 4)] none)
.ret))
(.drop [27] .skip))))
(.cut 0 fn76_o0 fn76_p0)))
def fn76_w : Orc Tb := mkOrc (Y := Bool) tab [iS, .g (.st 3)] [] (fun x h => fn76 x.1 (x.2.1 : fn105)) (fun _ y k => k (.b y) [])
theorem fn76_k : WK fn76_w 48 := orcD (Y := Bool) (c := fn76_p) (res := [.tmp 4]) (n := 49) (R := (RSp.one (Y := Bool) tab (bS) [] (fun a b => a) (fun y => y) (fun y => ()))) fn76_rk oneD Tryz.func48 (cS uC (cS uC (cT fn76_q0)))
def fn125_r : Orcs Tb := [(25, fn138_w), (18, fn140_w), (44, fn119_w), (45, fn124_w), (46, fn75_w), (47, fn123_w), (48, fn76_w), (49, fn158_w)]
theorem fn125_rk : RK fn125_r := (yv720 fn138_k (yv720 fn140_k (yv720 fn119_k (yv720 fn124_k (yv720 fn75_k (yv720 fn123_k (yv720 fn76_k (yv720 fn158_k yv743))))))))
def fn125_p3 : TCode Tb :=
(.cond 114 (.drop [87, 114] (.seq (.reg [(Mv 0 120), (Fav 0 3 121), (Ld 121 122), (Fam 19 3 123), (Ld 123 124), (Op (.call (some 47) 5) [.m 120, .m 122, .m 124] 125), (Mv 125 4)] none)
.ret))
(.drop [114] (.seq (.reg [(Op (bi .eql) [.m 87, ki 15] 127), (Mv 127 126)] none)
(.cond 126 (.drop [126] (.seq (.reg [(Fav 24 3 129), (Ld 129 130), (Op (.call (some 49) 7) [.m 130, .k (.u8 (21 : UInt8))] 131), (Mv 131 128), (Op .extm [.c 128 0] 132), (Op (.ext 1) [.m 128] 133), (Op (.alloc [.u8 (0 : UInt8), .u32 (0 : UInt32), .s [], .s []]) [] 5), (Do (.store 4) [.m 5, .m 132]), (Mv 133 6)] none)
(.seq (.reg [(Mv 0 134), (Fam 19 3 135), (Ld 135 136), (Op (.call (some 47) 5) [.m 134, ki 15, .m 136] 137), (Mv 137 138), (Yes .mv [.m 6] 139 138), (Op .pick [.m 138, .m 139, kf] 140), (Mv 140 4)] none)
(.drop [6] .ret))))
(.drop [0, 3, 126] .skip)))))
def fn125_s3 : SSh := ⟨[(0, iS), (3, rS 0 0), (87, iS), (114, bS)], [hS0]⟩
def fn125_o3 : Cut Tb := cutJ tab 0 fn125_s3 (fun _ x k => fn125_c3 x.1.1 x.1.2.2.1 x.1.2.2.2.1 (tabBk 3 x.2.1 : fn105) (fun y35 => k .ret ⟨[(4, .b y35)], [(injL tab hS0 x.2.1)]⟩) (fun y36 y37 => k .ret ⟨[(4, .b y36)], [(injL tab hS0 x.2.1), [.u8 y37.Id, .u32 y37.N, .s y37.A, .s y37.B]]⟩) (k .normal ⟨[], [(injL tab hS0 x.2.1)]⟩))
theorem fn125_q3 : CK fn125_o3 0 fn125_p3 := cutJD fn125_rk uC
def fn125_p2 : TCode Tb :=
(.seq (.seq (.reg [(Fav 0 3 86), (Ld 86 87)] none)
(.block 0 (.seq (.reg [(Op (bi .eql) [.v 87, ki 1] 89), (Mv 89 88)] none)
(.cond 88 (.drop [87, 88] (.seq (.reg [(Mv 0 90), (Op (.load (some 25)) [.m 3] 91), (Op (.call (some 46) 4) [.m 90, .m 91] 92), (Mv 92 4)] none)
.ret))
(.drop [88] (.seq (.reg [(Op (bi .eql) [.v 87, ki 2] 94), (Mv 94 93)] none)
(.cond 93 (.drop [87, 93] (.seq (.reg [(Mv 0 95), (Fav 19 3 96), (Ld 96 97), (Op (.call (some 47) 5) [.m 95, ki 2, .m 97] 98), (Mv 98 99), (Yes (.fa 18) [.v 3] 100 99), (Yes ld [.m 100] 101 99), (Yes .mv [.m 101] 102 99), (Yes (.fa 19) [.m 3] 103 102), (Yes ld [.m 103] 104 102), (Yes (bi .neq) [.m 104, .k (.u8 (0 : UInt8))] 105 102), (Yes .pick [.m 102, .m 105, kf] 106 99), (Yes (.un .not) [.m 106] 107 99), (Op .pick [.m 99, .m 107, kf] 108), (Mv 108 4)] none)
(.drop [3, 100, 101, 102, 103, 104, 105, 106] .ret)))
(.drop [93] (.seq (.reg [(Op (bi .eql) [.v 87, ki 3] 110), (Mv 110 109)] none)
(.cond 109 (.drop [87, 109] (.seq (.reg [(Mv 0 111), (Op (.load (some 25)) [.m 3] 112), (Op (.call (some 48) 6) [.m 111, .m 112] 113), (Mv 113 4)] none)
.ret))
(.drop [109] (.seq (.seq (.reg [(Op (bi .eql) [.v 87, ki 4] 115), (Mv 115 114)] none)
(.cond 114 .skip
(.drop [114] (.seq (.reg [(Op (bi .eql) [.v 87, ki 5] 116), (Mv 116 114)] none)
(.cond 114 .skip
(.drop [114] (.seq (.reg [(Op (bi .eql) [.v 87, ki 6] 117), (Mv 117 114)] none)
(.cond 114 .skip
(.drop [114] (.seq (.reg [(Op (bi .eql) [.v 87, ki 7] 118), (Mv 118 114)] none)
(.cond 114 .skip
(.drop [114] (.reg [(Op (bi .eql) [.v 87, ki 14] 119), (Mv 119 114)] none)))))))))))))
(.cut 0 fn125_o3 fn125_p3)))))))))))))
(.seq (.reg [(Op .mv [kt] 4)] none)
.ret))
def fn125_s2 : SSh := ⟨[(0, iS), (3, rS 0 0)], [hS0]⟩
def fn125_o2 : Cut Tb := cutJ tab 0 fn125_s2 (fun _ x k => fn125_c2 x.1.1 (tabBk 3 x.2.1 : fn105) (fun y53 => k .ret ⟨[(4, .b y53)], [(injL tab hS0 x.2.1)]⟩) (fun y54 y55 => k .ret ⟨[(4, .b y54)], [(injL tab hS0 x.2.1), [.u8 y55.Id, .u32 y55.N, .s y55.A, .s y55.B]]⟩))
theorem fn125_q2 : CK fn125_o2 0 fn125_p2 := cutJD fn125_rk (cS (cS uC (cB (cS uC (cC uC (cD (cS uC (cC uC (cD (cS uC (cC uC (cD (cS uC (cT fn125_q3))))))))))))) uC)
def fn125_p1 : TCode Tb :=
(.seq (.seq (.reg [(Fav 0 3 67), (Ld 67 68), (Op (bi .geq) [.m 68, ki 4] 69), (Mv 69 70), (Yes (.fa 0) [.v 3] 71 70), (Yes ld [.m 71] 72 70), (Yes (bi .leq) [.m 72, ki 11] 73 70), (Op .pick [.m 70, .m 73, kf] 74), (Mv 74 75), (Yes (.fa 4) [.v 3] 76 75), (Yes ld [.m 76] 77 75), (Yes (bi .eql) [.m 77, .k (.u16 (0 : UInt16))] 78 75), (Op .pick [.m 75, .m 78, kf] 79), (Mv 79 80), (No .mv [.v 0] 81 80), (No (.load (some 25)) [.v 3] 82 80), (No (.call (some 45) 3) [.m 81, .m 82] 83 80), (No (.un .not) [.m 83] 84 80), (Op .pick [.m 80, kt, .m 84] 85)] none)
(.drop [71, 72, 76, 77, 81, 82, 83] (.cond 85 (.drop [0, 3, 85] (.seq (.reg [(Op .mv [kf] 4)] none)
.ret))
(.drop [85] .skip))))
(.cut 0 fn125_o2 fn125_p2))
def fn125_s1 : SSh := ⟨[(0, iS), (3, rS 0 0)], [hS0]⟩
def fn125_o1 : Cut Tb := cutJ tab 0 fn125_s1 (fun _ x k => fn125_c1 x.1.1 (tabBk 3 x.2.1 : fn105) (fun y65 => k .ret ⟨[(4, .b y65)], [(injL tab hS0 x.2.1)]⟩) (fun y66 y67 => k .ret ⟨[(4, .b y66)], [(injL tab hS0 x.2.1), [.u8 y67.Id, .u32 y67.N, .s y67.A, .s y67.B]]⟩))
theorem fn125_q1 : CK fn125_o1 0 fn125_p1 := cutJD fn125_rk (cS uC (cT fn125_q2))
def fn125_p0 : TCode Tb :=
(.seq (.seq (.reg [(Op .mv [.v 0] 39), (Op (bi .eql) [.m 39, ki 4] 40), (Mv 40 41), (Yes (.fa 24) [.v 3] 42 41), (Yes ld [.m 42] 43 41), (Yes .len [.m 43] 44 41), (Yes (bi .gtr) [.m 44, ki 0] 45 41), (Yes .mv [.m 45] 46 41), (No (.fa 13) [.v 3] 47 46), (No ld [.m 47] 48 46), (No .len [.m 48] 49 46), (No (bi .gtr) [.m 49, ki 0] 50 46), (Yes .pick [.m 46, kt, .m 50] 51 41), (Op .pick [.m 41, .m 51, kf] 52), (Mv 52 53), (No (.fa 0) [.v 3] 54 53), (No ld [.m 54] 55 53), (No (.fa 24) [.v 3] 56 53), (No ld [.m 56] 57 53), (No (.call (some 44) 2) [.m 55, .m 57] 58 53), (No (.un .not) [.m 58] 59 53), (Op .pick [.m 53, kt, .m 59] 60), (Mv 60 61), (No (.fa 13) [.v 3] 62 61), (No ld [.m 62] 63 61), (No (.call (some 44) 2) [ki 16, .m 63] 64 61), (No (.un .not) [.m 64] 65 61), (Op .pick [.m 61, kt, .m 65] 66)] none)
(.drop [42, 43, 44, 45, 46, 47, 48, 49, 50, 54, 55, 56, 57, 58, 62, 63, 64] (.cond 66 (.drop [0, 3, 66] (.seq (.reg [(Op .mv [kf] 4)] none)
.ret))
(.drop [66] .skip))))
(.cut 0 fn125_o1 fn125_p1))
def fn125_s0 : SSh := ⟨[(0, iS), (3, rS 0 0)], [hS0]⟩
def fn125_o0 : Cut Tb := cutJ tab 0 fn125_s0 (fun _ x k => fn125_c0 x.1.1 (tabBk 3 x.2.1 : fn105) (fun y74 => k .ret ⟨[(4, .b y74)], [(injL tab hS0 x.2.1)]⟩) (fun y75 y76 => k .ret ⟨[(4, .b y75)], [(injL tab hS0 x.2.1), [.u8 y76.Id, .u32 y76.N, .s y76.A, .s y76.B]]⟩))
theorem fn125_q0 : CK fn125_o0 0 fn125_p0 := cutJD fn125_rk (cS uC (cT fn125_q1))
def fn125_p : TCode Tb :=
(.seq (.reg [(Op .box [.m 1] 3), (Op .mv [kf] 4)] none)
(.seq (.seq (.reg [(Op .mv [.v 0] 7), (Op (bi .neq) [.m 7, ki 4] 8), (Mv 8 9), (Yes .mv [.v 0] 10 9), (Yes (bi .neq) [.m 10, ki 5] 11 9), (Op .pick [.m 9, .m 11, kf] 12), (Mv 12 13), (No (.fa 0) [.v 3] 14 13), (No ld [.m 14] 15 13), (No (bi .lss) [.m 15, ki 1] 16 13), (Op .pick [.m 13, kt, .m 16] 17), (Mv 17 18), (No (.fa 0) [.v 3] 19 18), (No ld [.m 19] 20 18), (No (bi .gtr) [.m 20, ki 15] 21 18), (Op .pick [.m 18, kt, .m 21] 22), (Mv 22 23), (No .mv [.v 0] 24 23), (No (bi .eql) [.m 24, ki 4] 25 23), (No .mv [.m 25] 26 23), (Yes (.fa 0) [.v 3] 27 26), (Yes ld [.m 27] 28 26), (Yes (bi .eql) [.m 28, ki 15] 29 26), (No .pick [.m 26, .m 29, kf] 30 23), (Op .pick [.m 23, kt, .m 30] 31), (Mv 31 32), (No (.load (some 25)) [.v 3] 33 32), (No (.load (some 25)) [.v 3] 34 32), (No (.call (some 25) 0) [.m 34] 35 32), (No (.call (some 18) 1) [.m 33, .m 35] 36 32), (No (.un .not) [.m 36] 37 32), (Op .pick [.m 32, kt, .m 37] 38)] (some [[], [], [], [], [], [], [], [], [], [], [], [], [], [], [], [], [], [], [], [], [], [], [], [], [], [], [], [26], [26], [], [], []]))
(.drop [4, 10, 14, 15, 19, 20, 24, 25, 26, 27, 28, 29, 33, 34, 35, 36] (.cond 38 (.drop [0, 3, 38] (.seq (.reg [(Op .mv [kf] 4)] none)
.ret))
(.drop [38] .skip))))
(.cut 0 fn125_o0 fn125_p0)))
def fn125_w : Orc Tb := mkOrc (Y := Bool) tab [iS, .g (.st 3)] [] (fun x h => fn125 x.1 (x.2.1 : fn105)) (fun _ y k => k (.b y) [])
theorem fn125_k : WK fn125_w 17 := orcD (Y := Bool) (c := fn125_p) (res := [.tmp 4]) (n := 141) (R := (RSp.one (Y := Bool) tab (bS) [] (fun a b => a) (fun y => y) (fun y => ()))) fn125_rk oneD Tryz.func17 (cS uC (cS uC (cT fn125_q0)))
def fn145_r : Orcs Tb := []
theorem fn145_rk : RK fn145_r := yv743
def fn145_p : TCode Tb :=
(.seq (.reg [(Op .box [.m 0] 1), (Op (.alloc [.u8 (0 : UInt8), .u32 (0 : UInt32), .s [], .s []]) [] 2)] none)
(.seq (.reg [(Fav 0 1 3), (Ld 3 4), (Fav 1 1 5), (Ld 5 6), (Fav 2 1 7), (Ld 7 8), (Fam 3 1 9), (Ld 9 10), (Op (.build [.u8 (0 : UInt8), .u32 (0 : UInt32), .s [], .s []] [(0, 1), (1, 1), (2, 1), (3, 1)]) [.m 4, .m 6, .m 8, .m 10] 11), (Do (.store 4) [.v 2, .m 11])] none)
.ret))
def fn145_w : Orc Tb := mkOrc (Y := fn153) tab [.g (.st 4)] [] (fun x h => fn145 (x.1 : fn132)) (fun _ y k => k (.agg [.u8 y.Id, .u32 y.N, .s y.A, .s y.B]) [])
theorem fn145_k : WK fn145_w 100 := orcD (Y := fn153) (c := fn145_p) (res := [.cell 2 (some 4)]) (n := 12) (R := (RSp.one (Y := fn153) tab (.g (.st 1)) [] (fun a b => (a : fn153)) (fun y => (y : fn153)) (fun y => ()))) fn145_rk oneD Tryz.func100 uC
def fn146_r : Orcs Tb := [(100, fn145_w)]
theorem fn146_rk : RK fn146_r := (yv720 fn145_k yv743)
def fn146_p0 : TCode Tb :=
(.seq (.seq (.reg [(Op .mv [.v 4] 5), (Op .mv [.v 0] 6), (Op .len [.m 6] 7), (Op (bi .lss) [.m 5, .m 7] 8)] none)
(.cond 8 (.drop [8] .skip)
(.drop [0, 4, 8] (.exit 0))))
(.seq (.block 1 (.reg [(Mv 3 11), (Op .mv [.v 0] 12), (Op .mv [.v 4] 13), (Op (.ia 4) [.v 12, .m 13] 14), (Op (.load (some 4)) [.m 14] 15), (Op (.call (some 100) 0) [.m 15] 16), ⟨(.bslice 1 1 ((⟨(0 : UInt8), (0 : UInt32), [], []⟩ : fn153) : fn153) [0]), [.m 16], some 17, none⟩, (Op (.app 4 40) [.m 11, .m 17] 18), (Mv 18 3)] none))
(.drop [12] (.reg [(Mv 4 9), (Op (bi .add) [.m 9, ki 1] 10), (Mv 10 4)] none))))
def fn146_s0 : SSh := ⟨[(0, lS 4), (3, wS 1), (4, iS)], []⟩
def fn146_o0 : Cut Tb := cutL tab 0 fn146_s0 (fun x => (x.1.2.1, x.1.2.2.1)) (fun x => fn146_l0 x.1.1) (fun _ x y k => k (.exit 0) ⟨[(3, .ow 1 y)], []⟩)
theorem fn146_q0 : CK fn146_o0 0 (.loop fn146_p0) := cutLD (Z := (Option (List fn153)) × Int) (Y := (Option (List fn153))) fn146_rk uC (fun _ x z b e => fn146_b0 x.1.1 z.1 z.2 (fun x3 x4 => b (x3, x4)) (fun y8 => e y8)) (fun x z => ⟨[(0, .sl 4 x.1.1), (3, .ow 1 z.1), (4, .n .i64 z.2)], []⟩) (fun x y => ((.exit 0), ⟨[(3, .ow 1 y)], []⟩)) (fun t => (prjS tab 0 fn146_s0 t).bind fun x => some (x.1.2.1, x.1.2.2.1)) (fun e t => (if eqE e (.exit 0) then (prjS tab 0 ⟨[(3, wS 1)], []⟩ t).bind fun v => some v.1.1 else none))
def fn146_p : TCode Tb :=
(.seq (.reg [(Op .mv [.k (.nilS)] 2)] none)
(.seq (.reg [(Op .mv [.k (.nilS)] 3)] none)
(.seq (.seq (.reg [(Op .mv [ki 0] 4)] none)
(.block 0 (.drop [2] (.cut 0 fn146_o0 (.loop fn146_p0)))))
(.seq (.reg [(Mv 3 19), (Mv 19 2)] none)
.ret))))
def fn146_w : Orc Tb := mkOrc (Y := (Option (List fn153))) tab [lS 4] [] (fun x h => fn146 x.1) (fun _ y k => k (.ow 1 y) [])
theorem fn146_k : WK fn146_w 51 := orcD (Y := (Option (List fn153))) (c := fn146_p) (res := [.tmp 2]) (n := 20) (R := (RSp.one (Y := (Option (List fn153))) tab (wS 1) [] (fun a b => a) (fun y => y) (fun y => ()))) fn146_rk oneD Tryz.func51 (cS uC (cS uC (cS (cS uC (cB (cD (cT fn146_q0)))) uC)))
def fn147_r : Orcs Tb := [(51, fn146_w)]
theorem fn147_rk : RK fn147_r := (yv720 fn146_k yv743)
def fn147_p0 : TCode Tb :=
(.seq (.seq (.reg [(Op .mv [.v 4] 58), (Fav 22 1 59), (Ld 59 60), (Op .len [.m 60] 61), (Op (bi .lss) [.m 58, .m 61] 62)] none)
(.cond 62 (.drop [62] .skip)
(.drop [1, 4, 62] (.exit 0))))
(.seq (.block 1 (.reg [(Fav 22 3 65), (Op .loadm [.m 65] 66), (Fav 22 1 67), (Ld 67 68), (Op .mv [.v 4] 69), (Op (.ia 2) [.v 68, .m 69] 70), (Fam 0 70 71), (Ld 71 72), (Fav 22 1 73), (Ld 73 74), (Op .mv [.v 4] 75), (Op (.ia 2) [.v 74, .m 75] 76), (Fam 1 76 77), (Ld 77 78), (Op (.build [.s [], .u8 (0 : UInt8)] [(0, 1), (1, 1)]) [.m 72, .m 78] 79), ⟨(.bslice 2 1 ((⟨[], (0 : UInt8)⟩ : fn104) : fn104) [0]), [.m 79], some 80, none⟩, (Op (.app 2 24) [.m 66, .m 80] 81), (Fav 22 3 82), (Do (.store 1) [.m 82, .m 81])] (some [[], [], [], [1], [], [], [], [1], [], [1, 3, 7], [], [], [], [1, 3, 7], [], [], [], [], []])))
(.drop [68, 74] (.reg [(Mv 4 63), (Op (bi .add) [.m 63, ki 1] 64), (Mv 64 4)] none))))
def fn147_s0 : SSh := ⟨[(1, rS 0 0), (2, rS 1 0), (3, rS 2 0), (4, iS)], [[iS, bS, bS, u8S, u16S, bS, u16S, sS, bS, bS, bS, u8S, bS, lS 4, sS, sS, sS, sS, bS, u8S, sS, sS, lS 5, bsS, lS 4], [iS, bS, bS, u8S, u16S, bS, u16S, sS, bS, bS, bS, u8S, bS, wS 1, sS, sS, sS, sS, bS, u8S, sS, sS, wS 2, boS, wS 1], [iS, bS, bS, u8S, u16S, bS, u16S, sS, bS, bS, bS, u8S, bS, lS 1, sS, sS, sS, sS, bS, u8S, sS, sS, wS 2, bsS, lS 1]]⟩
def fn147_o0 : Cut Tb := cutL tab 0 fn147_s0 (fun x => (x.1.2.2.2.1, (⟨x.2.2.2.1.1, x.2.2.2.1.2.1, x.2.2.2.1.2.2.1, x.2.2.2.1.2.2.2.1, x.2.2.2.1.2.2.2.2.1, x.2.2.2.1.2.2.2.2.2.1, x.2.2.2.1.2.2.2.2.2.2.1, x.2.2.2.1.2.2.2.2.2.2.2.1, x.2.2.2.1.2.2.2.2.2.2.2.2.1, x.2.2.2.1.2.2.2.2.2.2.2.2.2.1, x.2.2.2.1.2.2.2.2.2.2.2.2.2.2.1, x.2.2.2.1.2.2.2.2.2.2.2.2.2.2.2.1, x.2.2.2.1.2.2.2.2.2.2.2.2.2.2.2.2.1, x.2.2.2.1.2.2.2.2.2.2.2.2.2.2.2.2.2.1, x.2.2.2.1.2.2.2.2.2.2.2.2.2.2.2.2.2.2.1, x.2.2.2.1.2.2.2.2.2.2.2.2.2.2.2.2.2.2.2.1, x.2.2.2.1.2.2.2.2.2.2.2.2.2.2.2.2.2.2.2.2.1, x.2.2.2.1.2.2.2.2.2.2.2.2.2.2.2.2.2.2.2.2.2.1, x.2.2.2.1.2.2.2.2.2.2.2.2.2.2.2.2.2.2.2.2.2.2.1, x.2.2.2.1.2.2.2.2.2.2.2.2.2.2.2.2.2.2.2.2.2.2.2.1, x.2.2.2.1.2.2.2.2.2.2.2.2.2.2.2.2.2.2.2.2.2.2.2.2.1, x.2.2.2.1.2.2.2.2.2.2.2.2.2.2.2.2.2.2.2.2.2.2.2.2.2.1, x.2.2.2.1.2.2.2.2.2.2.2.2.2.2.2.2.2.2.2.2.2.2.2.2.2.2.1, x.2.2.2.1.2.2.2.2.2.2.2.2.2.2.2.2.2.2.2.2.2.2.2.2.2.2.2.1, x.2.2.2.1.2.2.2.2.2.2.2.2.2.2.2.2.2.2.2.2.2.2.2.2.2.2.2.2.1⟩ : fn105))) (fun x => fn147_l0 (⟨x.2.1.1, x.2.1.2.1, x.2.1.2.2.1, x.2.1.2.2.2.1, x.2.1.2.2.2.2.1, x.2.1.2.2.2.2.2.1, x.2.1.2.2.2.2.2.2.1, x.2.1.2.2.2.2.2.2.2.1, x.2.1.2.2.2.2.2.2.2.2.1, x.2.1.2.2.2.2.2.2.2.2.2.1, x.2.1.2.2.2.2.2.2.2.2.2.2.1, x.2.1.2.2.2.2.2.2.2.2.2.2.2.1, x.2.1.2.2.2.2.2.2.2.2.2.2.2.2.1, x.2.1.2.2.2.2.2.2.2.2.2.2.2.2.2.1, x.2.1.2.2.2.2.2.2.2.2.2.2.2.2.2.2.1, x.2.1.2.2.2.2.2.2.2.2.2.2.2.2.2.2.2.1, x.2.1.2.2.2.2.2.2.2.2.2.2.2.2.2.2.2.2.1, x.2.1.2.2.2.2.2.2.2.2.2.2.2.2.2.2.2.2.2.1, x.2.1.2.2.2.2.2.2.2.2.2.2.2.2.2.2.2.2.2.2.1, x.2.1.2.2.2.2.2.2.2.2.2.2.2.2.2.2.2.2.2.2.2.1, x.2.1.2.2.2.2.2.2.2.2.2.2.2.2.2.2.2.2.2.2.2.2.1, x.2.1.2.2.2.2.2.2.2.2.2.2.2.2.2.2.2.2.2.2.2.2.2.1, x.2.1.2.2.2.2.2.2.2.2.2.2.2.2.2.2.2.2.2.2.2.2.2.2.1, x.2.1.2.2.2.2.2.2.2.2.2.2.2.2.2.2.2.2.2.2.2.2.2.2.2.1, x.2.1.2.2.2.2.2.2.2.2.2.2.2.2.2.2.2.2.2.2.2.2.2.2.2.2.1⟩ : fn54)) (fun _ x y k => k (.exit 0) ⟨[(2, .ref 1 0), (3, .ref 2 0)], [[.n .i64 x.2.1.1, .b x.2.1.2.1, .b x.2.1.2.2.1, .u8 x.2.1.2.2.2.1, .u16 x.2.1.2.2.2.2.1, .b x.2.1.2.2.2.2.2.1, .u16 x.2.1.2.2.2.2.2.2.1, .s x.2.1.2.2.2.2.2.2.2.1, .b x.2.1.2.2.2.2.2.2.2.2.1, .b x.2.1.2.2.2.2.2.2.2.2.2.1, .b x.2.1.2.2.2.2.2.2.2.2.2.2.1, .u8 x.2.1.2.2.2.2.2.2.2.2.2.2.2.1, .b x.2.1.2.2.2.2.2.2.2.2.2.2.2.2.1, .sl 4 x.2.1.2.2.2.2.2.2.2.2.2.2.2.2.2.1, .s x.2.1.2.2.2.2.2.2.2.2.2.2.2.2.2.2.1, .s x.2.1.2.2.2.2.2.2.2.2.2.2.2.2.2.2.2.1, .s x.2.1.2.2.2.2.2.2.2.2.2.2.2.2.2.2.2.2.1, .s x.2.1.2.2.2.2.2.2.2.2.2.2.2.2.2.2.2.2.2.1, .b x.2.1.2.2.2.2.2.2.2.2.2.2.2.2.2.2.2.2.2.2.1, .u8 x.2.1.2.2.2.2.2.2.2.2.2.2.2.2.2.2.2.2.2.2.2.1, .s x.2.1.2.2.2.2.2.2.2.2.2.2.2.2.2.2.2.2.2.2.2.2.1, .s x.2.1.2.2.2.2.2.2.2.2.2.2.2.2.2.2.2.2.2.2.2.2.2.1, .sl 5 x.2.1.2.2.2.2.2.2.2.2.2.2.2.2.2.2.2.2.2.2.2.2.2.2.1, .bs x.2.1.2.2.2.2.2.2.2.2.2.2.2.2.2.2.2.2.2.2.2.2.2.2.2.1, .sl 4 x.2.1.2.2.2.2.2.2.2.2.2.2.2.2.2.2.2.2.2.2.2.2.2.2.2.2.1], [.n .i64 x.2.2.1.1, .b x.2.2.1.2.1, .b x.2.2.1.2.2.1, .u8 x.2.2.1.2.2.2.1, .u16 x.2.2.1.2.2.2.2.1, .b x.2.2.1.2.2.2.2.2.1, .u16 x.2.2.1.2.2.2.2.2.2.1, .s x.2.2.1.2.2.2.2.2.2.2.1, .b x.2.2.1.2.2.2.2.2.2.2.2.1, .b x.2.2.1.2.2.2.2.2.2.2.2.2.1, .b x.2.2.1.2.2.2.2.2.2.2.2.2.2.1, .u8 x.2.2.1.2.2.2.2.2.2.2.2.2.2.2.1, .b x.2.2.1.2.2.2.2.2.2.2.2.2.2.2.2.1, .ow 1 x.2.2.1.2.2.2.2.2.2.2.2.2.2.2.2.2.1, .s x.2.2.1.2.2.2.2.2.2.2.2.2.2.2.2.2.2.1, .s x.2.2.1.2.2.2.2.2.2.2.2.2.2.2.2.2.2.2.1, .s x.2.2.1.2.2.2.2.2.2.2.2.2.2.2.2.2.2.2.2.1, .s x.2.2.1.2.2.2.2.2.2.2.2.2.2.2.2.2.2.2.2.2.1, .b x.2.2.1.2.2.2.2.2.2.2.2.2.2.2.2.2.2.2.2.2.2.1, .u8 x.2.2.1.2.2.2.2.2.2.2.2.2.2.2.2.2.2.2.2.2.2.2.1, .s x.2.2.1.2.2.2.2.2.2.2.2.2.2.2.2.2.2.2.2.2.2.2.2.1, .s x.2.2.1.2.2.2.2.2.2.2.2.2.2.2.2.2.2.2.2.2.2.2.2.2.1, .ow 2 x.2.2.1.2.2.2.2.2.2.2.2.2.2.2.2.2.2.2.2.2.2.2.2.2.2.1, .bo x.2.2.1.2.2.2.2.2.2.2.2.2.2.2.2.2.2.2.2.2.2.2.2.2.2.2.1, .ow 1 x.2.2.1.2.2.2.2.2.2.2.2.2.2.2.2.2.2.2.2.2.2.2.2.2.2.2.2.1], [.n .i64 y.Kind, .b y.Dup, .b y.Retain, .u8 y.QoS, .u16 y.Id, .b y.Clean, .u16 y.Keep, .s y.Client, .b y.HasWill, .b y.HasUser, .b y.HasPass, .u8 y.WillQoS, .b y.WillRetain, .sl 1 y.WillProps, .s y.WillTopic, .s y.WillLoad, .s y.User, .s y.Pass, .b y.Present, .u8 y.Code, .s y.Topic, .s y.Load, .ow 2 y.Filters, .bs y.Codes, .sl 1 y.Props]]⟩)
theorem fn147_q0 : CK fn147_o0 0 (.loop fn147_p0) := cutLD (Z := Int × fn105) (Y := fn105) fn147_rk uC (fun _ x z b e => fn147_b0 (⟨x.2.1.1, x.2.1.2.1, x.2.1.2.2.1, x.2.1.2.2.2.1, x.2.1.2.2.2.2.1, x.2.1.2.2.2.2.2.1, x.2.1.2.2.2.2.2.2.1, x.2.1.2.2.2.2.2.2.2.1, x.2.1.2.2.2.2.2.2.2.2.1, x.2.1.2.2.2.2.2.2.2.2.2.1, x.2.1.2.2.2.2.2.2.2.2.2.2.1, x.2.1.2.2.2.2.2.2.2.2.2.2.2.1, x.2.1.2.2.2.2.2.2.2.2.2.2.2.2.1, x.2.1.2.2.2.2.2.2.2.2.2.2.2.2.2.1, x.2.1.2.2.2.2.2.2.2.2.2.2.2.2.2.2.1, x.2.1.2.2.2.2.2.2.2.2.2.2.2.2.2.2.2.1, x.2.1.2.2.2.2.2.2.2.2.2.2.2.2.2.2.2.2.1, x.2.1.2.2.2.2.2.2.2.2.2.2.2.2.2.2.2.2.2.1, x.2.1.2.2.2.2.2.2.2.2.2.2.2.2.2.2.2.2.2.2.1, x.2.1.2.2.2.2.2.2.2.2.2.2.2.2.2.2.2.2.2.2.2.1, x.2.1.2.2.2.2.2.2.2.2.2.2.2.2.2.2.2.2.2.2.2.2.1, x.2.1.2.2.2.2.2.2.2.2.2.2.2.2.2.2.2.2.2.2.2.2.2.1, x.2.1.2.2.2.2.2.2.2.2.2.2.2.2.2.2.2.2.2.2.2.2.2.2.1, x.2.1.2.2.2.2.2.2.2.2.2.2.2.2.2.2.2.2.2.2.2.2.2.2.2.1, x.2.1.2.2.2.2.2.2.2.2.2.2.2.2.2.2.2.2.2.2.2.2.2.2.2.2.1⟩ : fn54) z.1 z.2 (fun x5 x8 => b (x5, x8)) (fun y12 => e y12)) (fun x z => ⟨[(1, .ref 0 0), (2, .ref 1 0), (3, .ref 2 0), (4, .n .i64 z.1)], [[.n .i64 x.2.1.1, .b x.2.1.2.1, .b x.2.1.2.2.1, .u8 x.2.1.2.2.2.1, .u16 x.2.1.2.2.2.2.1, .b x.2.1.2.2.2.2.2.1, .u16 x.2.1.2.2.2.2.2.2.1, .s x.2.1.2.2.2.2.2.2.2.1, .b x.2.1.2.2.2.2.2.2.2.2.1, .b x.2.1.2.2.2.2.2.2.2.2.2.1, .b x.2.1.2.2.2.2.2.2.2.2.2.2.1, .u8 x.2.1.2.2.2.2.2.2.2.2.2.2.2.1, .b x.2.1.2.2.2.2.2.2.2.2.2.2.2.2.1, .sl 4 x.2.1.2.2.2.2.2.2.2.2.2.2.2.2.2.1, .s x.2.1.2.2.2.2.2.2.2.2.2.2.2.2.2.2.1, .s x.2.1.2.2.2.2.2.2.2.2.2.2.2.2.2.2.2.1, .s x.2.1.2.2.2.2.2.2.2.2.2.2.2.2.2.2.2.2.1, .s x.2.1.2.2.2.2.2.2.2.2.2.2.2.2.2.2.2.2.2.1, .b x.2.1.2.2.2.2.2.2.2.2.2.2.2.2.2.2.2.2.2.2.1, .u8 x.2.1.2.2.2.2.2.2.2.2.2.2.2.2.2.2.2.2.2.2.2.1, .s x.2.1.2.2.2.2.2.2.2.2.2.2.2.2.2.2.2.2.2.2.2.2.1, .s x.2.1.2.2.2.2.2.2.2.2.2.2.2.2.2.2.2.2.2.2.2.2.2.1, .sl 5 x.2.1.2.2.2.2.2.2.2.2.2.2.2.2.2.2.2.2.2.2.2.2.2.2.1, .bs x.2.1.2.2.2.2.2.2.2.2.2.2.2.2.2.2.2.2.2.2.2.2.2.2.2.1, .sl 4 x.2.1.2.2.2.2.2.2.2.2.2.2.2.2.2.2.2.2.2.2.2.2.2.2.2.2.1], [.n .i64 x.2.2.1.1, .b x.2.2.1.2.1, .b x.2.2.1.2.2.1, .u8 x.2.2.1.2.2.2.1, .u16 x.2.2.1.2.2.2.2.1, .b x.2.2.1.2.2.2.2.2.1, .u16 x.2.2.1.2.2.2.2.2.2.1, .s x.2.2.1.2.2.2.2.2.2.2.1, .b x.2.2.1.2.2.2.2.2.2.2.2.1, .b x.2.2.1.2.2.2.2.2.2.2.2.2.1, .b x.2.2.1.2.2.2.2.2.2.2.2.2.2.1, .u8 x.2.2.1.2.2.2.2.2.2.2.2.2.2.2.1, .b x.2.2.1.2.2.2.2.2.2.2.2.2.2.2.2.1, .ow 1 x.2.2.1.2.2.2.2.2.2.2.2.2.2.2.2.2.1, .s x.2.2.1.2.2.2.2.2.2.2.2.2.2.2.2.2.2.1, .s x.2.2.1.2.2.2.2.2.2.2.2.2.2.2.2.2.2.2.1, .s x.2.2.1.2.2.2.2.2.2.2.2.2.2.2.2.2.2.2.2.1, .s x.2.2.1.2.2.2.2.2.2.2.2.2.2.2.2.2.2.2.2.2.1, .b x.2.2.1.2.2.2.2.2.2.2.2.2.2.2.2.2.2.2.2.2.2.1, .u8 x.2.2.1.2.2.2.2.2.2.2.2.2.2.2.2.2.2.2.2.2.2.2.1, .s x.2.2.1.2.2.2.2.2.2.2.2.2.2.2.2.2.2.2.2.2.2.2.2.1, .s x.2.2.1.2.2.2.2.2.2.2.2.2.2.2.2.2.2.2.2.2.2.2.2.2.1, .ow 2 x.2.2.1.2.2.2.2.2.2.2.2.2.2.2.2.2.2.2.2.2.2.2.2.2.2.1, .bo x.2.2.1.2.2.2.2.2.2.2.2.2.2.2.2.2.2.2.2.2.2.2.2.2.2.2.1, .ow 1 x.2.2.1.2.2.2.2.2.2.2.2.2.2.2.2.2.2.2.2.2.2.2.2.2.2.2.2.1], [.n .i64 z.2.Kind, .b z.2.Dup, .b z.2.Retain, .u8 z.2.QoS, .u16 z.2.Id, .b z.2.Clean, .u16 z.2.Keep, .s z.2.Client, .b z.2.HasWill, .b z.2.HasUser, .b z.2.HasPass, .u8 z.2.WillQoS, .b z.2.WillRetain, .sl 1 z.2.WillProps, .s z.2.WillTopic, .s z.2.WillLoad, .s z.2.User, .s z.2.Pass, .b z.2.Present, .u8 z.2.Code, .s z.2.Topic, .s z.2.Load, .ow 2 z.2.Filters, .bs z.2.Codes, .sl 1 z.2.Props]]⟩) (fun x y => ((.exit 0), ⟨[(2, .ref 1 0), (3, .ref 2 0)], [[.n .i64 x.2.1.1, .b x.2.1.2.1, .b x.2.1.2.2.1, .u8 x.2.1.2.2.2.1, .u16 x.2.1.2.2.2.2.1, .b x.2.1.2.2.2.2.2.1, .u16 x.2.1.2.2.2.2.2.2.1, .s x.2.1.2.2.2.2.2.2.2.1, .b x.2.1.2.2.2.2.2.2.2.2.1, .b x.2.1.2.2.2.2.2.2.2.2.2.1, .b x.2.1.2.2.2.2.2.2.2.2.2.2.1, .u8 x.2.1.2.2.2.2.2.2.2.2.2.2.2.1, .b x.2.1.2.2.2.2.2.2.2.2.2.2.2.2.1, .sl 4 x.2.1.2.2.2.2.2.2.2.2.2.2.2.2.2.1, .s x.2.1.2.2.2.2.2.2.2.2.2.2.2.2.2.2.1, .s x.2.1.2.2.2.2.2.2.2.2.2.2.2.2.2.2.2.1, .s x.2.1.2.2.2.2.2.2.2.2.2.2.2.2.2.2.2.2.1, .s x.2.1.2.2.2.2.2.2.2.2.2.2.2.2.2.2.2.2.2.1, .b x.2.1.2.2.2.2.2.2.2.2.2.2.2.2.2.2.2.2.2.2.1, .u8 x.2.1.2.2.2.2.2.2.2.2.2.2.2.2.2.2.2.2.2.2.2.1, .s x.2.1.2.2.2.2.2.2.2.2.2.2.2.2.2.2.2.2.2.2.2.2.1, .s x.2.1.2.2.2.2.2.2.2.2.2.2.2.2.2.2.2.2.2.2.2.2.2.1, .sl 5 x.2.1.2.2.2.2.2.2.2.2.2.2.2.2.2.2.2.2.2.2.2.2.2.2.1, .bs x.2.1.2.2.2.2.2.2.2.2.2.2.2.2.2.2.2.2.2.2.2.2.2.2.2.1, .sl 4 x.2.1.2.2.2.2.2.2.2.2.2.2.2.2.2.2.2.2.2.2.2.2.2.2.2.2.1], [.n .i64 x.2.2.1.1, .b x.2.2.1.2.1, .b x.2.2.1.2.2.1, .u8 x.2.2.1.2.2.2.1, .u16 x.2.2.1.2.2.2.2.1, .b x.2.2.1.2.2.2.2.2.1, .u16 x.2.2.1.2.2.2.2.2.2.1, .s x.2.2.1.2.2.2.2.2.2.2.1, .b x.2.2.1.2.2.2.2.2.2.2.2.1, .b x.2.2.1.2.2.2.2.2.2.2.2.2.1, .b x.2.2.1.2.2.2.2.2.2.2.2.2.2.1, .u8 x.2.2.1.2.2.2.2.2.2.2.2.2.2.2.1, .b x.2.2.1.2.2.2.2.2.2.2.2.2.2.2.2.1, .ow 1 x.2.2.1.2.2.2.2.2.2.2.2.2.2.2.2.2.1, .s x.2.2.1.2.2.2.2.2.2.2.2.2.2.2.2.2.2.1, .s x.2.2.1.2.2.2.2.2.2.2.2.2.2.2.2.2.2.2.1, .s x.2.2.1.2.2.2.2.2.2.2.2.2.2.2.2.2.2.2.2.1, .s x.2.2.1.2.2.2.2.2.2.2.2.2.2.2.2.2.2.2.2.2.1, .b x.2.2.1.2.2.2.2.2.2.2.2.2.2.2.2.2.2.2.2.2.2.1, .u8 x.2.2.1.2.2.2.2.2.2.2.2.2.2.2.2.2.2.2.2.2.2.2.1, .s x.2.2.1.2.2.2.2.2.2.2.2.2.2.2.2.2.2.2.2.2.2.2.2.1, .s x.2.2.1.2.2.2.2.2.2.2.2.2.2.2.2.2.2.2.2.2.2.2.2.2.1, .ow 2 x.2.2.1.2.2.2.2.2.2.2.2.2.2.2.2.2.2.2.2.2.2.2.2.2.2.1, .bo x.2.2.1.2.2.2.2.2.2.2.2.2.2.2.2.2.2.2.2.2.2.2.2.2.2.2.1, .ow 1 x.2.2.1.2.2.2.2.2.2.2.2.2.2.2.2.2.2.2.2.2.2.2.2.2.2.2.2.1], [.n .i64 y.Kind, .b y.Dup, .b y.Retain, .u8 y.QoS, .u16 y.Id, .b y.Clean, .u16 y.Keep, .s y.Client, .b y.HasWill, .b y.HasUser, .b y.HasPass, .u8 y.WillQoS, .b y.WillRetain, .sl 1 y.WillProps, .s y.WillTopic, .s y.WillLoad, .s y.User, .s y.Pass, .b y.Present, .u8 y.Code, .s y.Topic, .s y.Load, .ow 2 y.Filters, .bs y.Codes, .sl 1 y.Props]]⟩)) (fun t => (prjS tab 0 fn147_s0 t).bind fun x => some (x.1.2.2.2.1, (⟨x.2.2.2.1.1, x.2.2.2.1.2.1, x.2.2.2.1.2.2.1, x.2.2.2.1.2.2.2.1, x.2.2.2.1.2.2.2.2.1, x.2.2.2.1.2.2.2.2.2.1, x.2.2.2.1.2.2.2.2.2.2.1, x.2.2.2.1.2.2.2.2.2.2.2.1, x.2.2.2.1.2.2.2.2.2.2.2.2.1, x.2.2.2.1.2.2.2.2.2.2.2.2.2.1, x.2.2.2.1.2.2.2.2.2.2.2.2.2.2.1, x.2.2.2.1.2.2.2.2.2.2.2.2.2.2.2.1, x.2.2.2.1.2.2.2.2.2.2.2.2.2.2.2.2.1, x.2.2.2.1.2.2.2.2.2.2.2.2.2.2.2.2.2.1, x.2.2.2.1.2.2.2.2.2.2.2.2.2.2.2.2.2.2.1, x.2.2.2.1.2.2.2.2.2.2.2.2.2.2.2.2.2.2.2.1, x.2.2.2.1.2.2.2.2.2.2.2.2.2.2.2.2.2.2.2.2.1, x.2.2.2.1.2.2.2.2.2.2.2.2.2.2.2.2.2.2.2.2.2.1, x.2.2.2.1.2.2.2.2.2.2.2.2.2.2.2.2.2.2.2.2.2.2.1, x.2.2.2.1.2.2.2.2.2.2.2.2.2.2.2.2.2.2.2.2.2.2.2.1, x.2.2.2.1.2.2.2.2.2.2.2.2.2.2.2.2.2.2.2.2.2.2.2.2.1, x.2.2.2.1.2.2.2.2.2.2.2.2.2.2.2.2.2.2.2.2.2.2.2.2.2.1, x.2.2.2.1.2.2.2.2.2.2.2.2.2.2.2.2.2.2.2.2.2.2.2.2.2.2.1, x.2.2.2.1.2.2.2.2.2.2.2.2.2.2.2.2.2.2.2.2.2.2.2.2.2.2.2.1, x.2.2.2.1.2.2.2.2.2.2.2.2.2.2.2.2.2.2.2.2.2.2.2.2.2.2.2.2.1⟩ : fn105))) (fun e t => (if eqE e (.exit 0) then (prjS tab 0 ⟨[(2, rS 1 0), (3, rS 2 0)], [[iS, bS, bS, u8S, u16S, bS, u16S, sS, bS, bS, bS, u8S, bS, lS 4, sS, sS, sS, sS, bS, u8S, sS, sS, lS 5, bsS, lS 4], [iS, bS, bS, u8S, u16S, bS, u16S, sS, bS, bS, bS, u8S, bS, wS 1, sS, sS, sS, sS, bS, u8S, sS, sS, wS 2, boS, wS 1], [iS, bS, bS, u8S, u16S, bS, u16S, sS, bS, bS, bS, u8S, bS, lS 1, sS, sS, sS, sS, bS, u8S, sS, sS, wS 2, bsS, lS 1]]⟩ t).bind fun v => some (⟨v.2.2.2.1.1, v.2.2.2.1.2.1, v.2.2.2.1.2.2.1, v.2.2.2.1.2.2.2.1, v.2.2.2.1.2.2.2.2.1, v.2.2.2.1.2.2.2.2.2.1, v.2.2.2.1.2.2.2.2.2.2.1, v.2.2.2.1.2.2.2.2.2.2.2.1, v.2.2.2.1.2.2.2.2.2.2.2.2.1, v.2.2.2.1.2.2.2.2.2.2.2.2.2.1, v.2.2.2.1.2.2.2.2.2.2.2.2.2.2.1, v.2.2.2.1.2.2.2.2.2.2.2.2.2.2.2.1, v.2.2.2.1.2.2.2.2.2.2.2.2.2.2.2.2.1, v.2.2.2.1.2.2.2.2.2.2.2.2.2.2.2.2.2.1, v.2.2.2.1.2.2.2.2.2.2.2.2.2.2.2.2.2.2.1, v.2.2.2.1.2.2.2.2.2.2.2.2.2.2.2.2.2.2.2.1, v.2.2.2.1.2.2.2.2.2.2.2.2.2.2.2.2.2.2.2.2.1, v.2.2.2.1.2.2.2.2.2.2.2.2.2.2.2.2.2.2.2.2.2.1, v.2.2.2.1.2.2.2.2.2.2.2.2.2.2.2.2.2.2.2.2.2.2.1, v.2.2.2.1.2.2.2.2.2.2.2.2.2.2.2.2.2.2.2.2.2.2.2.1, v.2.2.2.1.2.2.2.2.2.2.2.2.2.2.2.2.2.2.2.2.2.2.2.2.1, v.2.2.2.1.2.2.2.2.2.2.2.2.2.2.2.2.2.2.2.2.2.2.2.2.2.1, v.2.2.2.1.2.2.2.2.2.2.2.2.2.2.2.2.2.2.2.2.2.2.2.2.2.2.1, v.2.2.2.1.2.2.2.2.2.2.2.2.2.2.2.2.2.2.2.2.2.2.2.2.2.2.2.1, v.2.2.2.1.2.2.2.2.2.2.2.2.2.2.2.2.2.2.2.2.2.2.2.2.2.2.2.2.1⟩ : fn105) else none))
def fn147_p : TCode Tb :=
(.seq (.reg [(Op .box [.m 0] 1), (Op (.alloc zV4) [] 2)] none)
(.seq (.reg [(Fav 0 1 5), (Ld 5 6), (Fav 1 1 7), (Ld 7 8), (Fav 2 1 9), (Ld 9 10), (Fav 3 1 11), (Ld 11 12), (Fav 4 1 13), (Ld 13 14), (Fav 5 1 15), (Ld 15 16), (Fav 6 1 17), (Ld 17 18), (Fav 7 1 19), (Ld 19 20), (Fav 8 1 21), (Ld 21 22), (Fav 9 1 23), (Ld 23 24), (Fav 10 1 25), (Ld 25 26), (Fav 11 1 27), (Ld 27 28), (Fav 12 1 29), (Ld 29 30), (Fav 13 1 31), (Ld 31 32), (Op (.call (some 51) 0) [.m 32] 33), (Fav 14 1 34), (Ld 34 35), (Fav 15 1 36), (Ld 36 37), (Fav 16 1 38), (Ld 38 39), (Fav 17 1 40), (Ld 40 41), (Fav 18 1 42), (Ld 42 43), (Fav 19 1 44), (Ld 44 45), (Fav 20 1 46), (Ld 46 47), (Fav 21 1 48), (Ld 48 49), (Op (.b8 0 []) [] 50), (Fav 23 1 51), (Ld 51 52), (Op (.app 1 1) [.m 50, .m 52] 53), (Fav 24 1 54), (Ld 54 55), (Op (.call (some 51) 0) [.m 55] 56), (Op (.build zV4 [(0, 1), (1, 1), (2, 1), (3, 1), (4, 1), (5, 1), (6, 1), (7, 1), (8, 1), (9, 1), (10, 1), (11, 1), (12, 1), (13, 1), (14, 1), (15, 1), (16, 1), (17, 1), (18, 1), (19, 1), (20, 1), (21, 1), (23, 1), (24, 1)]) [.m 6, .m 8, .m 10, .m 12, .m 14, .m 16, .m 18, .m 20, .m 22, .m 24, .m 26, .m 28, .m 30, .m 33, .m 35, .m 37, .m 39, .m 41, .m 43, .m 45, .m 47, .m 49, .m 53, .m 56] 57), (Op (.alloc zV4) [] 3), (Do (.store 25) [.v 3, .m 57])] (some [[], [], [], [1], [], [1, 3], [], [1, 3, 5], [], [1, 3, 5, 7], [], [1, 3, 5, 7, 9], [], [1, 3, 5, 7, 9, 11], [], [1, 3, 5, 7, 9, 11, 13], [], [1, 3, 5, 7, 9, 11, 13, 15], [], [1, 3, 5, 7, 9, 11, 13, 15, 17], [], [1, 3, 5, 7, 9, 11, 13, 15, 17, 19], [], [1, 3, 5, 7, 9, 11, 13, 15, 17, 19, 21], [], [1, 3, 5, 7, 9, 11, 13, 15, 17, 19, 21, 23], [], [1, 3, 5, 7, 9, 11, 13, 15, 17, 19, 21, 23, 25], [1, 3, 5, 7, 9, 11, 13, 15, 17, 19, 21, 23, 25], [], [1, 3, 5, 7, 9, 11, 13, 15, 17, 19, 21, 23, 25, 27, 28], [], [1, 3, 5, 7, 9, 11, 13, 15, 17, 19, 21, 23, 25, 27, 28, 30], [], [1, 3, 5, 7, 9, 11, 13, 15, 17, 19, 21, 23, 25, 27, 28, 30, 32], [], [1, 3, 5, 7, 9, 11, 13, 15, 17, 19, 21, 23, 25, 27, 28, 30, 32, 34], [], [1, 3, 5, 7, 9, 11, 13, 15, 17, 19, 21, 23, 25, 27, 28, 30, 32, 34, 36], [], [1, 3, 5, 7, 9, 11, 13, 15, 17, 19, 21, 23, 25, 27, 28, 30, 32, 34, 36, 38], [], [1, 3, 5, 7, 9, 11, 13, 15, 17, 19, 21, 23, 25, 27, 28, 30, 32, 34, 36, 38, 40], [], [1, 3, 5, 7, 9, 11, 13, 15, 17, 19, 21, 23, 25, 27, 28, 30, 32, 34, 36, 38, 40, 42], [], [], [1, 3, 5, 7, 9, 11, 13, 15, 17, 19, 21, 23, 25, 27, 28, 30, 32, 34, 36, 38, 40, 42, 44], [], [], [1, 3, 5, 7, 9, 11, 13, 15, 17, 19, 21, 23, 25, 27, 28, 30, 32, 34, 36, 38, 40, 42, 44, 47], [1, 3, 5, 7, 9, 11, 13, 15, 17, 19, 21, 23, 25, 30, 32, 34, 36, 38, 40, 42, 44], [], [1, 3, 5, 7, 9, 11, 13, 15, 17, 19, 21, 23, 25, 27, 28, 30, 32, 34, 36, 38, 40, 42, 44, 47, 50, 51], []]))
(.seq (.seq (.reg [(Op .mv [ki 0] 4)] none)
(.block 0 (.cut 0 fn147_o0 (.loop fn147_p0))))
(.seq (.reg [(Op (.load (some 25)) [.m 3] 83), (Do (.store 25) [.v 2, .m 83])] none)
.ret))))
def fn147_w : Orc Tb := mkOrc (Y := fn105) tab [.g (.st 6)] [] (fun x h => fn147 (x.1 : fn54)) (fun _ y k => k (.agg (injL tab hS0 (tabUn 3 y))) [])
theorem fn147_k : WK fn147_w 19 := orcD (Y := fn105) (c := fn147_p) (res := [.cell 2 (some 25)]) (n := 84) (R := (RSp.one (Y := fn105) tab (.g (.st 3)) [] (fun a b => (a : fn105)) (fun y => (y : fn105)) (fun y => ()))) fn147_rk oneD Tryz.func19 (cS uC (cS uC (cS (cS uC (cB (cT fn147_q0))) uC)))
def fn26_r : Orcs Tb := [(13, fn155_w), (14, fn137_w), (15, l07_To_w), (16, fn62_w), (17, fn125_w), (19, fn147_w), (18, fn140_w)]
theorem fn26_rk : RK fn26_r := (yv720 fn155_k (yv720 fn137_k (yv720 l07_To_k (yv720 fn62_k (yv720 fn125_k (yv720 fn147_k (yv720 fn140_k yv743)))))))
def fn26_p : TCode Tb :=
(.seq (.reg [(Op .box [.m 1] 3), (Op .mv [kf] 4)] none)
(.seq (.seq (.reg [(Op (.load (some 25)) [.v 3] 6), (Op (.call (some 13) 0) [.m 6] 7), (Op (.un .not) [.m 7] 8)] none)
(.cond 8 (.drop [0, 3, 4, 8] (.seq (.reg [(Op (.call (some 14) 1) [] 9), (Mv 9 4)] none)
.ret))
(.drop [4, 8] .skip)))
(.seq (.reg [(Op (.load (some 25)) [.v 3] 10), (Op (.call (some 15) 2) [.m 10] 11), (Op (.alloc zV0) [] 5), (Do (.store 25) [.v 5, .m 11])] none)
(.seq (.reg [(Op (.call (some 14) 1) [] 12), (Mv 12 13), (Yes .mv [.v 0] 14 13), (Yes (.load (some 25)) [.v 5] 15 13), (Yes (.call (some 16) 3) [.m 14, .m 15] 16 13), (Yes .mv [.v 0] 17 13), (Yes (.load (some 25)) [.v 3] 18 13), (Yes (.call (some 17) 4) [.m 17, .m 18] 19 13), (Yes (.bin .eql .b) [.m 16, .m 19] 20 13), (Op .pick [.m 13, .m 20, kf] 21), (Mv 21 22), (Yes (.load (some 25)) [.m 5] 23 22), (Yes (.call (some 19) 5) [.m 23] 24 22), (Yes (.load (some 25)) [.m 3] 25 22), (Yes (.call (some 18) 6) [.m 24, .m 25] 26 22), (Op .pick [.m 22, .m 26, kf] 27), (Mv 27 4)] (some [[], [], [], [], [], [], [3, 4], [], [], [], [], [], [], [11, 12], [], [], []]))
(.drop [0, 3, 5, 14, 15, 16, 17, 18, 19, 23, 24, 25] .ret)))))
def fn26_w : Orc Tb := mkOrc (Y := Bool) tab [iS, .g (.st 3)] [] (fun x h => fn26 x.1 (x.2.1 : fn105)) (fun _ y k => k (.b y) [])
theorem fn26_k : WK fn26_w 3 := orcD (Y := Bool) (c := fn26_p) (res := [.tmp 4]) (n := 28) (R := (RSp.one (Y := Bool) tab (bS) [] (fun a b => a) (fun y => y) (fun y => ()))) fn26_rk oneD Tryz.func3 uC
end Go.Rv
