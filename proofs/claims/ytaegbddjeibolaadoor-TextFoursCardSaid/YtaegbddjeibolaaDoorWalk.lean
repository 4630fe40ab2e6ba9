/- That the program's functions are these plain functions. -/
import Derived.Test.YtaegbddjeibolaaDoorPure
import Derived.Test.YtaegbddjeibolaaDoorChecked
set_option linter.unusedSimpArgs false
set_option linter.unusedVariables false
set_option maxRecDepth 100000
namespace Go.Rv
open Go.Proofs
def Wp : World → Prop := TrydWp
def utf8_ValidString_w : Orc Tb := mkOrc (Y := Bool) tab [.g (.f (.a .s))] [] (fun x h => utf8_ValidString x.1) (fun _ y k => k (.b y) [])
theorem utf8_ValidString_k : (utf8_ValidString_w).Ok Tryd.prog Wp tab 13 := lw_ValidString tabOk (by kernel_rfl) (fun _ h => h) Tryd.utf8_ValidString
def strings_Contains_w : Orc Tb := mkOrc (Y := Bool) tab [.g (.f (.a .s)), .g (.f (.a .s))] [] (fun x h => strings_Contains x.1 x.2.1) (fun _ y k => k (.b y) [])
theorem strings_Contains_k : (strings_Contains_w).Ok Tryd.prog Wp tab 14 := lw_Contains tabOk (by kernel_rfl) Tryd.strings_Contains_one
def text_Right_r : Orcs Tb := [(13, utf8_ValidString_w), (14, strings_Contains_w)]
theorem text_Right_rk : OrcsOk Tryd.prog Wp tab text_Right_r := (orcs_cons utf8_ValidString_k (orcs_cons strings_Contains_k orcs_nil))
def text_Right_p : TCode Tb :=
(.seq (.reg [⟨.mv, [.k (.b false)], some 2, none⟩] none)
(.seq (.reg [⟨.mv, [.v 0], some 3, none⟩, ⟨.lens, [.m 3], some 4, none⟩, ⟨(.bin .leq .i), [.m 4, .k (.n .i64 65535)], some 5, none⟩, ⟨.mv, [.m 5], some 6, none⟩, ⟨.mv, [.v 0], some 7, some (6, true)⟩, ⟨(.call (some 13) 0), [.m 7], some 8, some (6, true)⟩, ⟨.pick, [.m 6, .m 8, .k (.b false)], some 9, none⟩, ⟨.mv, [.m 9], some 10, none⟩, ⟨.mv, [.m 0], some 11, some (10, true)⟩, ⟨(.call (some 14) 1), [.m 11, .k (.s [0])], some 12, some (10, true)⟩, ⟨(.un .not), [.m 12], some 13, some (10, true)⟩, ⟨.pick, [.m 10, .m 13, .k (.b false)], some 14, none⟩, ⟨.mv, [.m 14], some 2, none⟩] none)
(.drop [0, 7, 11, 12] .ret)))
def text_Right_w : Orc Tb := mkOrc (Y := Bool) tab [.g (.f (.a .s))] [] (fun x h => text_Right x.1) (fun _ y k => k (.b y) [])
theorem text_Right_k : (text_Right_w).Ok Tryd.prog Wp tab 8 := orc_ok (Y := Bool) (orcs := text_Right_r) (c := text_Right_p) (res := [.tmp 2]) (n := 15) (R := (RSp.one (Y := Bool) tab (.g (.f (.a .b))) [] (fun a b => a) (fun y => y) (fun y => ()))) tabOk text_Right_rk (RSp.one_ok tabOk (fun _ _ => by kernel_rfl) (fun _ _ => by kernel_rfl)) Tryd.func8 (by kernel_rfl) (by kernel_rfl) (by kernel_rfl) (by kernel_rfl) (cS trivial (cS trivial (cD trivial))) (fun _ y k => by kernel_rfl) (fun y => by kernel_rfl) (fun x h => by kernel_rfl)
def utf8_RuneCountInString_w : Orc Tb := mkOrc (Y := Int) tab [.g (.f (.a .s))] [] (fun x h => utf8_RuneCountInString x.1) (fun _ y k => k (.n .i64 y) [])
theorem utf8_RuneCountInString_k : (utf8_RuneCountInString_w).Ok Tryd.prog Wp tab 15 := lw_RuneCount tabOk (by kernel_rfl) Tryd.utf8_RuneCountInString
def text_Runes_r : Orcs Tb := [(8, text_Right_w), (15, utf8_RuneCountInString_w)]
theorem text_Runes_rk : OrcsOk Tryd.prog Wp tab text_Runes_r := (orcs_cons text_Right_k (orcs_cons utf8_RuneCountInString_k orcs_nil))
def text_Runes_p : TCode Tb :=
(.seq (.reg [⟨.mv, [.k (.n .i64 0)], some 2, none⟩] none)
(.seq (.seq (.reg [⟨.mv, [.v 0], some 3, none⟩, ⟨(.call (some 8) 0), [.m 3], some 4, none⟩, ⟨(.un .not), [.m 4], some 5, none⟩] none)
(.cond 5 (.drop [0, 2, 5] (.seq (.reg [⟨.mv, [.k (.n .i64 0)], some 2, none⟩] none)
.ret))
(.drop [2, 5] .skip)))
(.seq (.reg [⟨.mv, [.m 0], some 6, none⟩, ⟨(.call (some 15) 1), [.m 6], some 7, none⟩, ⟨.mv, [.m 7], some 2, none⟩] none)
.ret)))
def text_Runes_w : Orc Tb := mkOrc (Y := Int) tab [.g (.f (.a .s))] [] (fun x h => text_Runes x.1) (fun _ y k => k (.n .i64 y) [])
theorem text_Runes_k : (text_Runes_w).Ok Tryd.prog Wp tab 10 := orc_ok (Y := Int) (orcs := text_Runes_r) (c := text_Runes_p) (res := [.tmp 2]) (n := 8) (R := (RSp.one (Y := Int) tab (.g (.f (.a (.n .i64)))) [] (fun a b => a) (fun y => y) (fun y => ()))) tabOk text_Runes_rk (RSp.one_ok tabOk (fun _ _ => by kernel_rfl) (fun _ _ => by kernel_rfl)) Tryd.func10 (by kernel_rfl) (by kernel_rfl) (by kernel_rfl) (by kernel_rfl) (cS trivial (cS (cS trivial (cC (cD (cS trivial trivial)) (cD trivial))) (cS trivial trivial))) (fun _ y k => by kernel_rfl) (fun y => by kernel_rfl) (fun x h => by kernel_rfl)
def l02_told_r : Orcs Tb := [(8, text_Right_w), (10, text_Runes_w)]
theorem l02_told_rk : OrcsOk Tryd.prog Wp tab l02_told_r := (orcs_cons text_Right_k (orcs_cons text_Runes_k orcs_nil))
def l02_told_p : TCode Tb :=
(.seq (.reg [⟨.mv, [.k (.b false)], some 0, none⟩] none)
(.seq (.reg [⟨(.call (some 8) 0), [.k (.s [97, 195, 164])], some 1, none⟩, ⟨.mv, [.m 1], some 2, none⟩, ⟨(.call (some 10) 1), [.k (.s [97, 195, 164])], some 3, some (2, true)⟩, ⟨(.bin .eql .i), [.m 3, .k (.n .i64 2)], some 4, some (2, true)⟩, ⟨.pick, [.m 2, .m 4, .k (.b false)], some 5, none⟩, ⟨.mv, [.m 5], some 6, none⟩, ⟨(.call (some 8) 0), [.k (.s [192, 128])], some 7, some (6, true)⟩, ⟨(.un .not), [.m 7], some 8, some (6, true)⟩, ⟨.pick, [.m 6, .m 8, .k (.b false)], some 9, none⟩, ⟨.mv, [.m 9], some 10, none⟩, ⟨(.call (some 8) 0), [.k (.s [237, 160, 128])], some 11, some (10, true)⟩, ⟨(.un .not), [.m 11], some 12, some (10, true)⟩, ⟨.pick, [.m 10, .m 12, .k (.b false)], some 13, none⟩, ⟨.mv, [.m 13], some 14, none⟩, ⟨(.call (some 8) 0), [.k (.s [244, 144, 128, 128])], some 15, some (14, true)⟩, ⟨(.un .not), [.m 15], some 16, some (14, true)⟩, ⟨.pick, [.m 14, .m 16, .k (.b false)], some 17, none⟩, ⟨.mv, [.m 17], some 18, none⟩, ⟨(.call (some 8) 0), [.k (.s [0])], some 19, some (18, true)⟩, ⟨(.un .not), [.m 19], some 20, some (18, true)⟩, ⟨.pick, [.m 18, .m 20, .k (.b false)], some 21, none⟩, ⟨.mv, [.m 21], some 22, none⟩, ⟨(.call (some 8) 0), [.k (.s [])], some 23, some (22, true)⟩, ⟨.pick, [.m 22, .m 23, .k (.b false)], some 24, none⟩, ⟨.mv, [.m 24], some 0, none⟩] none)
(.drop [3, 7, 11, 15, 19] .ret)))
def l02_told_w : Orc Tb := mkOrc (Y := Bool) tab [] [] (fun x h => l02_told) (fun _ y k => k (.b y) [])
theorem l02_told_k : (l02_told_w).Ok Tryd.prog Wp tab 7 := orc_ok (Y := Bool) (orcs := l02_told_r) (c := l02_told_p) (res := [.tmp 0]) (n := 25) (R := (RSp.one (Y := Bool) tab (.g (.f (.a .b))) [] (fun a b => a) (fun y => y) (fun y => ()))) tabOk l02_told_rk (RSp.one_ok tabOk (fun _ _ => by kernel_rfl) (fun _ _ => by kernel_rfl)) Tryd.func7 (by kernel_rfl) (by kernel_rfl) (by kernel_rfl) (by kernel_rfl) (cS trivial (cS trivial (cD trivial))) (fun _ y k => by kernel_rfl) (fun y => by kernel_rfl) (fun x h => by kernel_rfl)
def r02_sign_r : Orcs Tb := []
theorem r02_sign_rk : OrcsOk Tryd.prog Wp tab r02_sign_r := orcs_nil
def r02_sign_p1 : TCode Tb :=
(.seq (.seq (.reg [⟨.mv, [.v 10], some 41, none⟩, ⟨.mv, [.v 7], some 42, none⟩, ⟨(.bin .lss .i), [.m 41, .m 42], some 43, none⟩] none)
(.cond 43 (.drop [43] .skip)
(.drop [0, 1, 10, 43] (.exit 0))))
(.seq (.block 1 (.seq (.reg [⟨.mv, [.v 0], some 46, none⟩, ⟨.mv, [.v 1], some 47, none⟩, ⟨.mv, [.v 10], some 48, none⟩, ⟨(.bin .add .i), [.m 47, .m 48], some 49, none⟩, ⟨.sidx, [.m 46, .m 49], some 50, none⟩, ⟨(.cint .i64), [.m 50], some 51, none⟩, ⟨.mv, [.m 51], some 11, none⟩] none)
(.seq (.seq (.reg [⟨.mv, [.v 11], some 52, none⟩, ⟨(.bin .lss .i), [.m 52, .k (.n .i64 128)], some 53, none⟩, ⟨.mv, [.m 53], some 54, none⟩, ⟨.mv, [.v 11], some 55, some (54, false)⟩, ⟨(.bin .geq .i), [.m 55, .k (.n .i64 192)], some 56, some (54, false)⟩, ⟨.pick, [.m 54, .k (.b true), .m 56], some 57, none⟩] none)
(.drop [55] (.cond 57 (.drop [0, 1, 7, 8, 9, 10, 11, 57] (.seq (.reg [⟨.mv, [.k (.n .i64 0)], some 4, none⟩, ⟨.mv, [.k (.n .i64 0)], some 5, none⟩] none)
.ret))
(.drop [57] .skip))))
(.reg [⟨.mv, [.m 8], some 58, none⟩, ⟨(.bin .mul .i), [.k (.n .i64 64), .m 58], some 59, none⟩, ⟨.mv, [.m 11], some 60, none⟩, ⟨(.bin .add .i), [.m 59, .m 60], some 61, none⟩, ⟨(.bin .sub .i), [.m 61, .k (.n .i64 128)], some 62, none⟩, ⟨.mv, [.m 62], some 8, none⟩] none))))
(.reg [⟨.mv, [.m 10], some 44, none⟩, ⟨(.bin .add .i), [.m 44, .k (.n .i64 1)], some 45, none⟩, ⟨.mv, [.m 45], some 10, none⟩] none)))
def r02_sign_s1 : SSh := ⟨[(0, .g (.f (.a .s))), (1, .g (.f (.a (.n .i64)))), (7, .g (.f (.a (.n .i64)))), (8, .g (.f (.a (.n .i64)))), (9, .g (.f (.a (.n .i64)))), (10, .g (.f (.a (.n .i64))))], []⟩
def r02_sign_o1 : Cut Tb := cutL tab 0 r02_sign_s1 (fun x => (x.1.2.2.2.1, x.1.2.2.2.2.2.1)) (fun x => r02_sign_l1 x.1.1 x.1.2.1 x.1.2.2.1) (fun _ x y k => match y with | .inl y => k .ret ⟨[(4, .n .i64 0), (5, .n .i64 0)], []⟩ | .inr y => k (.exit 0) ⟨[(7, .n .i64 x.1.2.2.1), (8, .n .i64 y), (9, .n .i64 x.1.2.2.2.2.1)], []⟩)
theorem r02_sign_q1 : (r02_sign_o1).Ok Tryd.prog Wp tab 0 (.loop r02_sign_p1) := cutL_ok (c := r02_sign_p1) (Z := Int × Int) (Y := Unit ⊕ Int) tabOk r02_sign_rk (cS (cS trivial (cC (cD trivial) (cD trivial))) (cS (cB (cS trivial (cS (cS trivial (cD (cC (cD (cS trivial trivial)) (cD trivial)))) trivial))) trivial)) (fun _ x z b e => r02_sign_b1 x.1.1 x.1.2.1 x.1.2.2.1 z.1 z.2 (fun x13 x15 => b (x13, x15)) (e (.inl ())) (fun y17 => e (.inr y17))) (fun x z => ⟨[(0, .s x.1.1), (1, .n .i64 x.1.2.1), (7, .n .i64 x.1.2.2.1), (8, .n .i64 z.1), (9, .n .i64 x.1.2.2.2.2.1), (10, .n .i64 z.2)], []⟩) (fun x y => match y with | .inl y => (.ret, ⟨[(4, .n .i64 0), (5, .n .i64 0)], []⟩) | .inr y => ((.exit 0), ⟨[(7, .n .i64 x.1.2.2.1), (8, .n .i64 y), (9, .n .i64 x.1.2.2.2.2.1)], []⟩)) (fun t => (prjS tab 0 r02_sign_s1 t).bind fun x => some (x.1.2.2.2.1, x.1.2.2.2.2.2.1)) (fun e t => (if eqE e .ret then orElse ((prjS tab 0 ⟨[(4, .g (.f (.ci .i64 0))), (5, .g (.f (.ci .i64 0)))], []⟩ t).bind fun v => some (.inl ())) (if eqE e (.exit 0) then (prjS tab 0 ⟨[(7, .g (.f (.a (.n .i64)))), (8, .g (.f (.a (.n .i64)))), (9, .g (.f (.a (.n .i64))))], []⟩ t).bind fun v => some (.inr v.1.2.1) else none) else (if eqE e (.exit 0) then (prjS tab 0 ⟨[(7, .g (.f (.a (.n .i64)))), (8, .g (.f (.a (.n .i64)))), (9, .g (.f (.a (.n .i64))))], []⟩ t).bind fun v => some (.inr v.1.2.1) else none))) (fun x => by kernel_rfl) (fun x z => by kernel_rfl) (fun x y k => by rcases y with y | y <;> kernel_rfl) (fun x y => by rcases y with y | y <;> exact nofun) (fun x z => by kernel_rfl) (fun x y => by rcases y with y | y <;> kernel_rfl) (fun x z k => by kernel_rfl)
def r02_sign_p0 : TCode Tb :=
(.seq (.seq (.reg [⟨.mv, [.m 6], some 31, none⟩, ⟨(.bin .geq .i), [.m 31, .k (.n .i64 248)], some 32, none⟩, ⟨.mv, [.m 32], some 33, none⟩, ⟨.mv, [.v 1], some 34, some (33, false)⟩, ⟨.mv, [.v 7], some 35, some (33, false)⟩, ⟨(.bin .add .i), [.m 34, .m 35], some 36, some (33, false)⟩, ⟨.mv, [.v 0], some 37, some (33, false)⟩, ⟨.lens, [.m 37], some 38, some (33, false)⟩, ⟨(.bin .gtr .i), [.m 36, .m 38], some 39, some (33, false)⟩, ⟨.pick, [.m 33, .k (.b true), .m 39], some 40, none⟩] none)
(.drop [34, 35, 36, 37, 38] (.cond 40 (.drop [0, 1, 7, 8, 9, 40] (.seq (.reg [⟨.mv, [.k (.n .i64 0)], some 4, none⟩, ⟨.mv, [.k (.n .i64 0)], some 5, none⟩] none)
.ret))
(.drop [40] .skip))))
(.seq (.seq (.reg [⟨.mv, [.k (.n .i64 1)], some 10, none⟩] none)
(.block 0 (.cut 0 r02_sign_o1 (.loop r02_sign_p1))))
(.seq (.seq (.reg [⟨.mv, [.v 8], some 63, none⟩, ⟨.mv, [.m 9], some 64, none⟩, ⟨(.bin .lss .i), [.m 63, .m 64], some 65, none⟩, ⟨.mv, [.m 65], some 66, none⟩, ⟨.mv, [.v 8], some 67, some (66, false)⟩, ⟨(.bin .gtr .i), [.m 67, .k (.n .i64 1114111)], some 68, some (66, false)⟩, ⟨.pick, [.m 66, .k (.b true), .m 68], some 69, none⟩, ⟨.mv, [.m 69], some 70, none⟩, ⟨.mv, [.v 8], some 71, some (70, false)⟩, ⟨(.bin .geq .i), [.m 71, .k (.n .i64 55296)], some 72, some (70, false)⟩, ⟨.mv, [.m 72], some 73, some (70, false)⟩, ⟨.mv, [.v 8], some 74, some (73, true)⟩, ⟨(.bin .leq .i), [.m 74, .k (.n .i64 57343)], some 75, some (73, true)⟩, ⟨.pick, [.m 73, .m 75, .k (.b false)], some 76, some (70, false)⟩, ⟨.pick, [.m 70, .k (.b true), .m 76], some 77, none⟩] none)
(.drop [67, 71, 72, 73, 74, 75] (.cond 77 (.drop [7, 8, 77] (.seq (.reg [⟨.mv, [.k (.n .i64 0)], some 4, none⟩, ⟨.mv, [.k (.n .i64 0)], some 5, none⟩] none)
.ret))
(.drop [77] .skip))))
(.seq (.reg [⟨.mv, [.m 8], some 78, none⟩, ⟨.mv, [.m 7], some 79, none⟩, ⟨.mv, [.m 78], some 4, none⟩, ⟨.mv, [.m 79], some 5, none⟩] none)
.ret))))
def r02_sign_s0 : SSh := ⟨[(0, .g (.f (.a .s))), (1, .g (.f (.a (.n .i64)))), (6, .g (.f (.a (.n .i64)))), (7, .g (.f (.a (.n .i64)))), (8, .g (.f (.a (.n .i64)))), (9, .g (.f (.a (.n .i64))))], []⟩
def r02_sign_o0 : Cut Tb := cutJ tab 0 r02_sign_s0 (fun _ x k => r02_sign_c0 x.1.1 x.1.2.1 x.1.2.2.1 x.1.2.2.2.1 x.1.2.2.2.2.1 x.1.2.2.2.2.2.1 (fun y19 y20 => k .ret ⟨[(4, .n .i64 y19), (5, .n .i64 y20)], []⟩))
theorem r02_sign_q0 : (r02_sign_o0).Ok Tryd.prog Wp tab 0 r02_sign_p0 := cutJ_ok (c := r02_sign_p0) tabOk r02_sign_rk (cS (cS trivial (cD (cC (cD (cS trivial trivial)) (cD trivial)))) (cS (cS trivial (cB (cT r02_sign_q1))) (cS (cS trivial (cD (cC (cD (cS trivial trivial)) (cD trivial)))) (cS trivial trivial)))) (fun _ _ => by kernel_rfl)
def r02_sign_p : TCode Tb :=
(.seq (.reg [⟨.mv, [.k (.n .i64 0)], some 4, none⟩, ⟨.mv, [.k (.n .i64 0)], some 5, none⟩] none)
(.seq (.reg [⟨.mv, [.v 0], some 12, none⟩, ⟨.mv, [.v 1], some 13, none⟩, ⟨.sidx, [.m 12, .m 13], some 14, none⟩, ⟨(.cint .i64), [.m 14], some 15, none⟩, ⟨.mv, [.m 15], some 6, none⟩] none)
(.seq (.reg [⟨.mv, [.v 6], some 16, none⟩, ⟨.mv, [.k (.n .i64 1)], some 7, none⟩, ⟨.mv, [.m 16], some 8, none⟩, ⟨.mv, [.k (.n .i64 1)], some 9, none⟩] none)
(.seq (.seq (.reg [⟨.mv, [.v 6], some 17, none⟩, ⟨(.bin .geq .i), [.m 17, .k (.n .i64 240)], some 18, none⟩] none)
(.cond 18 (.drop [4, 5, 7, 8, 9, 18] (.reg [⟨.mv, [.v 6], some 19, none⟩, ⟨(.bin .sub .i), [.m 19, .k (.n .i64 240)], some 20, none⟩, ⟨.mv, [.k (.n .i64 4)], some 7, none⟩, ⟨.mv, [.m 20], some 8, none⟩, ⟨.mv, [.k (.n .i64 65536)], some 9, none⟩] none))
(.drop [4, 5, 18] (.seq (.reg [⟨.mv, [.v 6], some 21, none⟩, ⟨(.bin .geq .i), [.m 21, .k (.n .i64 224)], some 22, none⟩] none)
(.cond 22 (.drop [7, 8, 9, 22] (.reg [⟨.mv, [.v 6], some 23, none⟩, ⟨(.bin .sub .i), [.m 23, .k (.n .i64 224)], some 24, none⟩, ⟨.mv, [.k (.n .i64 3)], some 7, none⟩, ⟨.mv, [.m 24], some 8, none⟩, ⟨.mv, [.k (.n .i64 2048)], some 9, none⟩] none))
(.drop [22] (.seq (.reg [⟨.mv, [.v 6], some 25, none⟩, ⟨(.bin .geq .i), [.m 25, .k (.n .i64 192)], some 26, none⟩] none)
(.cond 26 (.drop [7, 8, 9, 26] (.reg [⟨.mv, [.v 6], some 27, none⟩, ⟨(.bin .sub .i), [.m 27, .k (.n .i64 192)], some 28, none⟩, ⟨.mv, [.k (.n .i64 2)], some 7, none⟩, ⟨.mv, [.m 28], some 8, none⟩, ⟨.mv, [.k (.n .i64 128)], some 9, none⟩] none))
(.drop [26] (.seq (.reg [⟨.mv, [.v 6], some 29, none⟩, ⟨(.bin .geq .i), [.m 29, .k (.n .i64 128)], some 30, none⟩] none)
(.cond 30 (.drop [0, 1, 6, 7, 8, 9, 30] (.seq (.reg [⟨.mv, [.k (.n .i64 0)], some 4, none⟩, ⟨.mv, [.k (.n .i64 0)], some 5, none⟩] none)
.ret))
(.drop [30] .skip))))))))))))
(.cut 0 r02_sign_o0 r02_sign_p0)))))
def r02_sign_w : Orc Tb := mkOrc (Y := Int × Int) tab [.g (.f (.a .s)), .g (.f (.a (.n .i64)))] [] (fun x h => r02_sign x.1 x.2.1) (fun _ y k => k (.tup [.n .i64 y.1, .n .i64 y.2]) [])
theorem r02_sign_k : (r02_sign_w).Ok Tryd.prog Wp tab 16 := orc_ok (Y := Int × Int) (orcs := r02_sign_r) (c := r02_sign_p) (res := [.tmp 4, .tmp 5]) (n := 80) (R := (RSp.one (Y := Int × Int) tab (.tup [.f (.a (.n .i64)), .f (.a (.n .i64))]) [] (fun a b => (a.1, a.2.1)) (fun y => (y.1, y.2, ())) (fun y => ()))) tabOk r02_sign_rk (RSp.one_ok tabOk (fun _ _ => by kernel_rfl) (fun _ _ => by kernel_rfl)) Tryd.func16 (by kernel_rfl) (by kernel_rfl) (by kernel_rfl) (by kernel_rfl) (cS trivial (cS trivial (cS trivial (cS (cS trivial (cC (cD trivial) (cD (cS trivial (cC (cD trivial) (cD (cS trivial (cC (cD trivial) (cD (cS trivial (cC (cD (cS trivial trivial)) (cD trivial)))))))))))) (cT r02_sign_q0))))) (fun _ y k => by kernel_rfl) (fun y => by kernel_rfl) (fun x h => by kernel_rfl)
def r02_Runes_r : Orcs Tb := [(16, r02_sign_w)]
theorem r02_Runes_rk : OrcsOk Tryd.prog Wp tab r02_Runes_r := (orcs_cons r02_sign_k orcs_nil)
def r02_Runes_p0 : TCode Tb :=
(.seq (.seq (.reg [⟨.mv, [.v 4], some 10, none⟩, ⟨.mv, [.v 0], some 11, none⟩, ⟨.lens, [.m 11], some 12, none⟩, ⟨(.bin .lss .i), [.m 10, .m 12], some 13, none⟩] none)
(.cond 13 (.drop [13] .skip)
(.drop [0, 4, 13] (.exit 0))))
(.block 1 (.seq (.reg [⟨.mv, [.v 0], some 15, none⟩, ⟨.mv, [.v 4], some 16, none⟩, ⟨(.call (some 16) 0), [.m 15, .m 16], some 17, none⟩, ⟨.mv, [.m 17], some 14, none⟩, ⟨.extm, [.c 14 0], some 18, none⟩, ⟨(.ext 1), [.m 14], some 19, none⟩, ⟨.mv, [.m 18], some 5, none⟩, ⟨.mv, [.m 19], some 6, none⟩] none)
(.seq (.seq (.reg [⟨.mv, [.v 6], some 20, none⟩, ⟨(.bin .eql .i), [.m 20, .k (.n .i64 0)], some 21, none⟩] none)
(.cond 21 (.drop [0, 3, 4, 5, 6, 21] (.seq (.reg [⟨.mv, [.k (.n .i64 (-1))], some 2, none⟩] none)
.ret))
(.drop [5, 21] .skip)))
(.seq (.reg [⟨.mv, [.m 4], some 22, none⟩, ⟨.mv, [.m 6], some 23, none⟩, ⟨(.bin .add .i), [.m 22, .m 23], some 24, none⟩, ⟨.mv, [.m 24], some 4, none⟩] none)
(.reg [⟨.mv, [.m 3], some 25, none⟩, ⟨(.bin .add .i), [.m 25, .k (.n .i64 1)], some 26, none⟩, ⟨.mv, [.m 26], some 3, none⟩] none))))))
def r02_Runes_s0 : SSh := ⟨[(0, .g (.f (.a .s))), (3, .g (.f (.a (.n .i64)))), (4, .g (.f (.a (.n .i64))))], []⟩
def r02_Runes_o0 : Cut Tb := cutL tab 0 r02_Runes_s0 (fun x => (x.1.2.1, x.1.2.2.1)) (fun x => r02_Runes_l0 x.1.1) (fun _ x y k => match y with | .inl y => k .ret ⟨[(2, .n .i64 (-1))], []⟩ | .inr y => k (.exit 0) ⟨[(3, .n .i64 y)], []⟩)
theorem r02_Runes_q0 : (r02_Runes_o0).Ok Tryd.prog Wp tab 0 (.loop r02_Runes_p0) := cutL_ok (c := r02_Runes_p0) (Z := Int × Int) (Y := Unit ⊕ Int) tabOk r02_Runes_rk (cS (cS trivial (cC (cD trivial) (cD trivial))) (cB (cS trivial (cS (cS trivial (cC (cD (cS trivial trivial)) (cD trivial))) (cS trivial trivial))))) (fun _ x z b e => r02_Runes_b0 x.1.1 z.1 z.2 (fun x3 x4 => b (x3, x4)) (e (.inl ())) (fun y7 => e (.inr y7))) (fun x z => ⟨[(0, .s x.1.1), (3, .n .i64 z.1), (4, .n .i64 z.2)], []⟩) (fun x y => match y with | .inl y => (.ret, ⟨[(2, .n .i64 (-1))], []⟩) | .inr y => ((.exit 0), ⟨[(3, .n .i64 y)], []⟩)) (fun t => (prjS tab 0 r02_Runes_s0 t).bind fun x => some (x.1.2.1, x.1.2.2.1)) (fun e t => (if eqE e .ret then orElse ((prjS tab 0 ⟨[(2, .g (.f (.ci .i64 (-1))))], []⟩ t).bind fun v => some (.inl ())) (if eqE e (.exit 0) then (prjS tab 0 ⟨[(3, .g (.f (.a (.n .i64))))], []⟩ t).bind fun v => some (.inr v.1.1) else none) else (if eqE e (.exit 0) then (prjS tab 0 ⟨[(3, .g (.f (.a (.n .i64))))], []⟩ t).bind fun v => some (.inr v.1.1) else none))) (fun x => by kernel_rfl) (fun x z => by kernel_rfl) (fun x y k => by rcases y with y | y <;> kernel_rfl) (fun x y => by rcases y with y | y <;> exact nofun) (fun x z => by kernel_rfl) (fun x y => by rcases y with y | y <;> kernel_rfl) (fun x z k => by kernel_rfl)
def r02_Runes_p : TCode Tb :=
(.seq (.reg [⟨.mv, [.k (.n .i64 0)], some 2, none⟩] none)
(.seq (.seq (.reg [⟨.mv, [.v 0], some 7, none⟩, ⟨.lens, [.m 7], some 8, none⟩, ⟨(.bin .gtr .i), [.m 8, .k (.n .i64 65535)], some 9, none⟩] none)
(.cond 9 (.drop [0, 2, 9] (.seq (.reg [⟨.mv, [.k (.n .i64 (-1))], some 2, none⟩] none)
.ret))
(.drop [2, 9] .skip)))
(.seq (.reg [⟨.mv, [.k (.n .i64 0)], some 3, none⟩] none)
(.seq (.seq (.reg [⟨.mv, [.k (.n .i64 0)], some 4, none⟩] none)
(.block 0 (.cut 0 r02_Runes_o0 (.loop r02_Runes_p0))))
(.seq (.reg [⟨.mv, [.m 3], some 27, none⟩, ⟨.mv, [.m 27], some 2, none⟩] none)
.ret)))))
def r02_Runes_w : Orc Tb := mkOrc (Y := Int) tab [.g (.f (.a .s))] [] (fun x h => r02_Runes x.1) (fun _ y k => k (.n .i64 y) [])
theorem r02_Runes_k : (r02_Runes_w).Ok Tryd.prog Wp tab 11 := orc_ok (Y := Int) (orcs := r02_Runes_r) (c := r02_Runes_p) (res := [.tmp 2]) (n := 28) (R := (RSp.one (Y := Int) tab (.g (.f (.a (.n .i64)))) [] (fun a b => a) (fun y => y) (fun y => ()))) tabOk r02_Runes_rk (RSp.one_ok tabOk (fun _ _ => by kernel_rfl) (fun _ _ => by kernel_rfl)) Tryd.func11 (by kernel_rfl) (by kernel_rfl) (by kernel_rfl) (by kernel_rfl) (cS trivial (cS (cS trivial (cC (cD (cS trivial trivial)) (cD trivial))) (cS trivial (cS (cS trivial (cB (cT r02_Runes_q0))) (cS trivial trivial))))) (fun _ y k => by kernel_rfl) (fun y => by kernel_rfl) (fun x h => by kernel_rfl)
def r02_Right_r : Orcs Tb := [(11, r02_Runes_w)]
theorem r02_Right_rk : OrcsOk Tryd.prog Wp tab r02_Right_r := (orcs_cons r02_Runes_k orcs_nil)
def r02_Right_p : TCode Tb :=
(.seq (.reg [⟨.mv, [.k (.b false)], some 2, none⟩] none)
(.seq (.reg [⟨.mv, [.m 0], some 3, none⟩, ⟨(.call (some 11) 0), [.m 3], some 4, none⟩, ⟨(.bin .geq .i), [.m 4, .k (.n .i64 0)], some 5, none⟩, ⟨.mv, [.m 5], some 2, none⟩] none)
.ret))
def r02_Right_w : Orc Tb := mkOrc (Y := Bool) tab [.g (.f (.a .s))] [] (fun x h => r02_Right x.1) (fun _ y k => k (.b y) [])
theorem r02_Right_k : (r02_Right_w).Ok Tryd.prog Wp tab 9 := orc_ok (Y := Bool) (orcs := r02_Right_r) (c := r02_Right_p) (res := [.tmp 2]) (n := 6) (R := (RSp.one (Y := Bool) tab (.g (.f (.a .b))) [] (fun a b => a) (fun y => y) (fun y => ()))) tabOk r02_Right_rk (RSp.one_ok tabOk (fun _ _ => by kernel_rfl) (fun _ _ => by kernel_rfl)) Tryd.func9 (by kernel_rfl) (by kernel_rfl) (by kernel_rfl) (by kernel_rfl) (cS trivial (cS trivial trivial)) (fun _ y k => by kernel_rfl) (fun y => by kernel_rfl) (fun x h => by kernel_rfl)
def l02_TextFours_r : Orcs Tb := [(8, text_Right_w), (9, r02_Right_w), (10, text_Runes_w), (11, r02_Runes_w), (7, l02_told_w)]
theorem l02_TextFours_rk : OrcsOk Tryd.prog Wp tab l02_TextFours_r := (orcs_cons text_Right_k (orcs_cons r02_Right_k (orcs_cons text_Runes_k (orcs_cons r02_Runes_k (orcs_cons l02_told_k orcs_nil)))))
def l02_TextFours_p0 : TCode Tb :=
(.seq (.seq (.reg [⟨.mv, [.v 4], some 7, none⟩, ⟨(.bin .leq .i), [.m 7, .k (.n .i64 4)], some 8, none⟩] none)
(.cond 8 (.drop [8] .skip)
(.drop [3, 4, 8] (.exit 0))))
(.seq (.block 1 (.seq (.reg [⟨.mv, [.v 3], some 11, none⟩, ⟨.mv, [.v 4], some 12, none⟩, ⟨(.sstr false true), [.m 11, .m 12], some 13, none⟩, ⟨(.call (some 8) 0), [.m 13], some 14, none⟩, ⟨.mv, [.v 3], some 15, none⟩, ⟨.mv, [.v 4], some 16, none⟩, ⟨(.sstr false true), [.m 15, .m 16], some 17, none⟩, ⟨(.call (some 9) 1), [.m 17], some 18, none⟩, ⟨(.bin .neq .b), [.m 14, .m 18], some 19, none⟩, ⟨.mv, [.m 19], some 20, none⟩, ⟨.mv, [.v 3], some 21, some (20, false)⟩, ⟨.mv, [.v 4], some 22, some (20, false)⟩, ⟨(.bin .sub .i), [.k (.n .i64 4), .m 22], some 23, some (20, false)⟩, ⟨(.sstr true false), [.m 21, .m 23], some 24, some (20, false)⟩, ⟨(.call (some 10) 2), [.m 24], some 25, some (20, false)⟩, ⟨.mv, [.v 3], some 26, some (20, false)⟩, ⟨.mv, [.v 4], some 27, some (20, false)⟩, ⟨(.bin .sub .i), [.k (.n .i64 4), .m 27], some 28, some (20, false)⟩, ⟨(.sstr true false), [.m 26, .m 28], some 29, some (20, false)⟩, ⟨(.call (some 11) 3), [.m 29], some 30, some (20, false)⟩, ⟨.max, [.m 30, .k (.n .i64 0)], some 31, some (20, false)⟩, ⟨(.bin .neq .i), [.m 25, .m 31], some 32, some (20, false)⟩, ⟨.pick, [.m 20, .k (.b true), .m 32], some 33, none⟩] (some [[], [], [], [], [], [], [], [], [], [], [], [], [], [], [], [], [], [], [], [], [], [], []]))
(.drop [21, 22, 23, 24, 25, 26, 27, 28, 29, 30, 31] (.cond 33 (.drop [3, 4, 33] (.seq (.reg [⟨.mv, [.k (.b false)], some 2, none⟩] none)
.ret))
(.drop [33] .skip)))))
(.reg [⟨.mv, [.m 4], some 9, none⟩, ⟨(.bin .add .i), [.m 9, .k (.n .i64 1)], some 10, none⟩, ⟨.mv, [.m 10], some 4, none⟩] none)))
def l02_TextFours_s0 : SSh := ⟨[(3, .g (.f (.a .s))), (4, .g (.f (.a (.n .i64))))], []⟩
def l02_TextFours_o0 : Cut Tb := cutL tab 0 l02_TextFours_s0 (fun x => x.1.2.1) (fun x => l02_TextFours_l0 x.1.1) (fun _ x y k => match y with | .inl y => k .ret ⟨[(2, .b false)], []⟩ | .inr y => k (.exit 0) ⟨[], []⟩)
theorem l02_TextFours_q0 : (l02_TextFours_o0).Ok Tryd.prog Wp tab 0 (.loop l02_TextFours_p0) := cutL_ok (c := l02_TextFours_p0) (Z := Int) (Y := Unit ⊕ Unit) tabOk l02_TextFours_rk (cS (cS trivial (cC (cD trivial) (cD trivial))) (cS (cB (cS trivial (cD (cC (cD (cS trivial trivial)) (cD trivial))))) trivial)) (fun _ x z b e => l02_TextFours_b0 x.1.1 z (fun x3 => b x3) (e (.inl ())) (e (.inr ()))) (fun x z => ⟨[(3, .s x.1.1), (4, .n .i64 z)], []⟩) (fun x y => match y with | .inl y => (.ret, ⟨[(2, .b false)], []⟩) | .inr y => ((.exit 0), ⟨[], []⟩)) (fun t => (prjS tab 0 l02_TextFours_s0 t).bind fun x => some x.1.2.1) (fun e t => (if eqE e .ret then orElse ((prjS tab 0 ⟨[(2, .g (.f (.cb false)))], []⟩ t).bind fun v => some (.inl ())) (if eqE e (.exit 0) then (prjS tab 0 ⟨[], []⟩ t).bind fun v => some (.inr ()) else none) else (if eqE e (.exit 0) then (prjS tab 0 ⟨[], []⟩ t).bind fun v => some (.inr ()) else none))) (fun x => by kernel_rfl) (fun x z => by kernel_rfl) (fun x y k => by rcases y with y | y <;> kernel_rfl) (fun x y => by rcases y with y | y <;> exact nofun) (fun x z => by kernel_rfl) (fun x y => by rcases y with y | y <;> kernel_rfl) (fun x z k => by kernel_rfl)
def l02_TextFours_p : TCode Tb :=
(.seq (.reg [⟨.box, [.m 0], some 1, none⟩, ⟨.mv, [.k (.b false)], some 2, none⟩] none)
(.seq (.reg [⟨(.sarr 4), [.m 1], some 5, none⟩, ⟨.b2v, [.m 5], some 6, none⟩, ⟨.mv, [.m 6], some 3, none⟩] none)
(.seq (.seq (.reg [⟨.mv, [.k (.n .i64 1)], some 4, none⟩] none)
(.block 0 (.drop [2] (.cut 0 l02_TextFours_o0 (.loop l02_TextFours_p0)))))
(.seq (.reg [⟨(.call (some 7) 4), [], some 34, none⟩, ⟨.mv, [.m 34], some 2, none⟩] none)
.ret))))
def l02_TextFours_w : Orc Tb := mkOrc (Y := Bool) tab [.g (.st 2)] [] (fun x h => l02_TextFours (⟨x.1.x0, x.1.x1, x.1.x2, x.1.x3⟩ : arr4_u8)) (fun _ y k => k (.b y) [])
theorem l02_TextFours_k : (l02_TextFours_w).Ok Tryd.prog Wp tab 4 := orc_ok (Y := Bool) (orcs := l02_TextFours_r) (c := l02_TextFours_p) (res := [.tmp 2]) (n := 35) (R := (RSp.one (Y := Bool) tab (.g (.f (.a .b))) [] (fun a b => a) (fun y => y) (fun y => ()))) tabOk l02_TextFours_rk (RSp.one_ok tabOk (fun _ _ => by kernel_rfl) (fun _ _ => by kernel_rfl)) Tryd.func4 (by kernel_rfl) (by kernel_rfl) (by kernel_rfl) (by kernel_rfl) (cS trivial (cS trivial (cS (cS trivial (cB (cD (cT l02_TextFours_q0)))) (cS trivial trivial)))) (fun _ y k => by kernel_rfl) (fun y => by kernel_rfl) (fun x h => by kernel_rfl)
end Go.Rv
