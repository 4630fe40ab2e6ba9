/- That the program's functions are these plain functions. -/
import Derived.Test.YtaegbddjeibolaaDoorPure
import Derived.Test.YtaegbddjeibolaaDoorChecked
set_option linter.unusedSimpArgs false
set_option linter.unusedVariables false
set_option maxRecDepth 100000
namespace Go.Rv
open Go.Proofs
def Wp : World → Prop := TrydWp
def utf8_ValidString_w : Orc Tb := mkOrc (Y := Bool) tab [.g (.f (.a .s))] [] (fun x h => utf8_ValidString x.1) (fun _ y k => k (.b y) [])
theorem utf8_ValidString_k : (utf8_ValidString_w).Ok Tryd.prog Wp tab 13 := lw_ValidString tabOk (by kernel_rfl) (fun _ h => h) Tryd.utf8_ValidString
def strings_Contains_w : Orc Tb := mkOrc (Y := Bool) tab [.g (.f (.a .s)), .g (.f (.a .s))] [] (fun x h => strings_Contains x.1 x.2.1) (fun _ y k => k (.b y) [])
theorem strings_Contains_k : (strings_Contains_w).Ok Tryd.prog Wp tab 14 := lw_Contains tabOk (by kernel_rfl) Tryd.strings_Contains_one
def text_Right_r : Orcs Tb := [(13, utf8_ValidString_w), (14, strings_Contains_w)]
theorem text_Right_rk : OrcsOk Tryd.prog Wp tab text_Right_r := (orcs_cons utf8_ValidString_k (orcs_cons strings_Contains_k orcs_nil))
def text_Right_p : TCode Tb :=
(.seq (.reg [⟨.mv, [.k (.b false)], some 2, none⟩] none)
(.seq (.reg [⟨.mv, [.v 0], some 3, none⟩, ⟨.lens, [.m 3], some 4, none⟩, ⟨(.bin .leq .i), [.m 4, .k (.n .i64 65535)], some 5, none⟩, ⟨.mv, [.m 5], some 6, none⟩, ⟨.mv, [.v 0], some 7, some (6, true)⟩, ⟨(.call (some 13) 0), [.m 7], some 8, some (6, true)⟩, ⟨.pick, [.m 6, .m 8, .k (.b false)], some 9, none⟩, ⟨.mv, [.m 9], some 10, none⟩, ⟨.mv, [.m 0], some 11, some (10, true)⟩, ⟨(.call (some 14) 1), [.m 11, .k (.s [0])], some 12, some (10, true)⟩, ⟨(.un .not), [.m 12], some 13, some (10, true)⟩, ⟨.pick, [.m 10, .m 13, .k (.b false)], some 14, none⟩, ⟨.mv, [.m 14], some 2, none⟩] none)
(.drop [0, 7, 11, 12] .ret)))
def text_Right_w : Orc Tb := mkOrc (Y := Bool) tab [.g (.f (.a .s))] [] (fun x h => text_Right x.1) (fun _ y k => k (.b y) [])
theorem text_Right_k : (text_Right_w).Ok Tryd.prog Wp tab 8 := orc_ok (Y := Bool) (orcs := text_Right_r) (c := text_Right_p) (res := [.tmp 2]) (n := 15) (R := (RSp.one (Y := Bool) tab (.g (.f (.a .b))) [] (fun a b => a) (fun y => y) (fun y => ()))) tabOk text_Right_rk (RSp.one_ok tabOk (fun _ _ => by kernel_rfl) (fun _ _ => by kernel_rfl)) Tryd.func8 (by kernel_rfl) (by kernel_rfl) (by kernel_rfl) (by kernel_rfl) (cS trivial (cS trivial (cD trivial))) (fun _ y k => by kernel_rfl) (fun y => by kernel_rfl) (fun x h => by kernel_rfl)
def utf8_RuneCountInString_w : Orc Tb := mkOrc (Y := Int) tab [.g (.f (.a .s))] [] (fun x h => utf8_RuneCountInString x.1) (fun _ y k => k (.n .i64 y) [])
theorem utf8_RuneCountInString_k : (utf8_RuneCountInString_w).Ok Tryd.prog Wp tab 15 := lw_RuneCount tabOk (by kernel_rfl) Tryd.utf8_RuneCountInString
def text_Runes_r : Orcs Tb := [(8, text_Right_w), (15, utf8_RuneCountInString_w)]
theorem text_Runes_rk : OrcsOk Tryd.prog Wp tab text_Runes_r := (orcs_cons text_Right_k (orcs_cons utf8_RuneCountInString_k orcs_nil))
def text_Runes_p : TCode Tb :=
(.seq (.reg [⟨.mv, [.k (.n .i64 0)], some 2, none⟩] none)
(.seq (.seq (.reg [⟨.mv, [.v 0], some 3, none⟩, ⟨(.call (some 8) 0), [.m 3], some 4, none⟩, ⟨(.un .not), [.m 4], some 5, none⟩] none)
(.cond 5 (.drop [0, 2, 5] (.seq (.reg [⟨.mv, [.k (.n .i64 0)], some 2, none⟩] none)
.ret))
(.drop [2, 5] .skip)))
(.seq (.reg [⟨.mv, [.m 0], some 6, none⟩, ⟨(.call (some 15) 1), [.m 6], some 7, none⟩, ⟨.mv, [.m 7], some 2, none⟩] none)
.ret)))
def text_Runes_w : Orc Tb := mkOrc (Y := Int) tab [.g (.f (.a .s))] [] (fun x h => text_Runes x.1) (fun _ y k => k (.n .i64 y) [])
theorem text_Runes_k : (text_Runes_w).Ok Tryd.prog Wp tab 10 := orc_ok (Y := Int) (orcs := text_Runes_r) (c := text_Runes_p) (res := [.tmp 2]) (n := 8) (R := (RSp.one (Y := Int) tab (.g (.f (.a (.n .i64)))) [] (fun a b => a) (fun y => y) (fun y => ()))) tabOk text_Runes_rk (RSp.one_ok tabOk (fun _ _ => by kernel_rfl) (fun _ _ => by kernel_rfl)) Tryd.func10 (by kernel_rfl) (by kernel_rfl) (by kernel_rfl) (by kernel_rfl) (cS trivial (cS (cS trivial (cC (cD (cS trivial trivial)) (cD trivial))) (cS trivial trivial))) (fun _ y k => by kernel_rfl) (fun y => by kernel_rfl) (fun x h => by kernel_rfl)
def l02_told_r : Orcs Tb := [(8, text_Right_w), (10, text_Runes_w)]
theorem l02_told_rk : OrcsOk Tryd.prog Wp tab l02_told_r := (orcs_cons text_Right_k (orcs_cons text_Runes_k orcs_nil))
def l02_told_p : TCode Tb :=
(.seq (.reg [⟨.mv, [.k (.b false)], some 0, none⟩] none)
(.seq (.reg [⟨(.call (some 8) 0), [.k (.s [97, 195, 164])], some 1, none⟩, ⟨.mv, [.m 1], some 2, none⟩, ⟨(.call (some 10) 1), [.k (.s [97, 195, 164])], some 3, some (2, true)⟩, ⟨(.bin .eql .i), [.m 3, .k (.n .i64 2)], some 4, some (2, true)⟩, ⟨.pick, [.m 2, .m 4, .k (.b false)], some 5, none⟩, ⟨.mv, [.m 5], some 6, none⟩, ⟨(.call (some 8) 0), [.k (.s [192, 128])], some 7, some (6, true)⟩, ⟨(.un .not), [.m 7], some 8, some (6, true)⟩, ⟨.pick, [.m 6, .m 8, .k (.b false)], some 9, none⟩, ⟨.mv, [.m 9], some 10, none⟩, ⟨(.call (some 8) 0), [.k (.s [237, 160, 128])], some 11, some (10, true)⟩, ⟨(.un .not), [.m 11], some 12, some (10, true)⟩, ⟨.pick, [.m 10, .m 12, .k (.b false)], some 13, none⟩, ⟨.mv, [.m 13], some 14, none⟩, ⟨(.call (some 8) 0), [.k (.s [244, 144, 128, 128])], some 15, some (14, true)⟩, ⟨(.un .not), [.m 15], some 16, some (14, true)⟩, ⟨.pick, [.m 14, .m 16, .k (.b false)], some 17, none⟩, ⟨.mv, [.m 17], some 18, none⟩, ⟨(.call (some 8) 0), [.k (.s [0])], some 19, some (18, true)⟩, ⟨(.un .not), [.m 19], some 20, some (18, true)⟩, ⟨.pick, [.m 18, .m 20, .k (.b false)], some 21, none⟩, ⟨.mv, [.m 21], some 22, none⟩, ⟨(.call (some 8) 0), [.k (.s [])], some 23, some (22, true)⟩, ⟨.pick, [.m 22, .m 23, .k (.b false)], some 24, none⟩, ⟨.mv, [.m 24], some 0, none⟩] none)
(.drop [3, 7, 11, 15, 19] .ret)))
def l02_told_w : Orc Tb := mkOrc (Y := Bool) tab [] [] (fun x h => l02_told) (fun _ y k => k (.b y) [])
theorem l02_told_k : (l02_told_w).Ok Tryd.prog Wp tab 7 := orc_ok (Y := Bool) (orcs := l02_told_r) (c := l02_told_p) (res := [.tmp 0]) (n := 25) (R := (RSp.one (Y := Bool) tab (.g (.f (.a .b))) [] (fun a b => a) (fun y => y) (fun y => ()))) tabOk l02_told_rk (RSp.one_ok tabOk (fun _ _ => by kernel_rfl) (fun _ _ => by kernel_rfl)) Tryd.func7 (by kernel_rfl) (by kernel_rfl) (by kernel_rfl) (by kernel_rfl) (cS trivial (cS trivial (cD trivial))) (fun _ y k => by kernel_rfl) (fun y => by kernel_rfl) (fun x h => by kernel_rfl)
def r02_Fix_r : Orcs Tb := []
theorem r02_Fix_rk : OrcsOk Tryd.prog Wp tab r02_Fix_r := orcs_nil
def r02_Fix_p0 : TCode Tb :=
(.seq (.seq (.reg [⟨.mv, [.v 5], some 7, none⟩, ⟨.mv, [.v 0], some 8, none⟩, ⟨.lens, [.m 8], some 9, none⟩, ⟨(.bin .lss .i), [.m 7, .m 9], some 10, none⟩, ⟨.mv, [.m 10], some 11, none⟩, ⟨.mv, [.v 5], some 12, some (11, true)⟩, ⟨(.bin .lss .i), [.m 12, .k (.n .i64 8)], some 13, some (11, true)⟩, ⟨.pick, [.m 11, .m 13, .k (.b false)], some 14, none⟩] none)
(.drop [12] (.cond 14 (.drop [14] .skip)
(.drop [0, 3, 5, 14] (.exit 0)))))
(.seq (.block 1 (.reg [⟨.mv, [.m 4], some 17, none⟩, ⟨.mv, [.v 3], some 18, none⟩, ⟨.mv, [.v 0], some 19, none⟩, ⟨.mv, [.v 5], some 20, none⟩, ⟨.sidx, [.m 19, .m 20], some 21, none⟩, ⟨(.cint .i64), [.m 21], some 22, none⟩, ⟨.mv, [.v 3], some 23, none⟩, ⟨.len, [.m 23], some 24, none⟩, ⟨(.bin .rem .i), [.m 22, .m 24], some 25, none⟩, ⟨(.ia 1), [.v 18, .m 25], some 26, none⟩, ⟨(.load none), [.m 26], some 27, none⟩, ⟨(.bin .add .i), [.m 17, .m 27], some 28, none⟩, ⟨.mv, [.m 28], some 4, none⟩] none))
(.drop [18] (.reg [⟨.mv, [.m 5], some 15, none⟩, ⟨(.bin .add .i), [.m 15, .k (.n .i64 1)], some 16, none⟩, ⟨.mv, [.m 16], some 5, none⟩] none))))
def r02_Fix_s0 : SSh := ⟨[(0, .g (.f (.a .s))), (3, .g (.f (.ow 0))), (4, .g (.f (.a .s))), (5, .g (.f (.a (.n .i64))))], []⟩
def r02_Fix_o0 : Cut Tb := cutL tab 0 r02_Fix_s0 (fun x => (x.1.2.2.1, x.1.2.2.2.1)) (fun x => r02_Fix_l0 x.1.1 x.1.2.1) (fun _ x y k => k (.exit 0) ⟨[(4, .s y)], []⟩)
theorem r02_Fix_q0 : (r02_Fix_o0).Ok Tryd.prog Wp tab 0 (.loop r02_Fix_p0) := cutL_ok (c := r02_Fix_p0) (Z := (List UInt8) × Int) (Y := (List UInt8)) tabOk r02_Fix_rk (cS (cS trivial (cD (cC (cD trivial) (cD trivial)))) (cS (cB trivial) (cD trivial))) (fun _ x z b e => r02_Fix_b0 x.1.1 x.1.2.1 z.1 z.2 (fun x4 x5 => b (x4, x5)) (fun y9 => e y9)) (fun x z => ⟨[(0, .s x.1.1), (3, .ow 0 x.1.2.1), (4, .s z.1), (5, .n .i64 z.2)], []⟩) (fun x y => ((.exit 0), ⟨[(4, .s y)], []⟩)) (fun t => (prjS tab 0 r02_Fix_s0 t).bind fun x => some (x.1.2.2.1, x.1.2.2.2.1)) (fun e t => (if eqE e (.exit 0) then (prjS tab 0 ⟨[(4, .g (.f (.a .s)))], []⟩ t).bind fun v => some v.1.1 else none)) (fun x => by kernel_rfl) (fun x z => by kernel_rfl) (fun x y k => by kernel_rfl) (fun x y => by exact nofun) (fun x z => by kernel_rfl) (fun x y => by kernel_rfl) (fun x z k => by kernel_rfl)
def r02_Fix_p : TCode Tb :=
(.seq (.reg [⟨.mv, [.k (.s [])], some 2, none⟩] none)
(.seq (.reg [⟨(.bslice 0 8 ([] : List UInt8) [0, 1, 2, 3, 4, 5, 6, 7]), [.k (.s [97]), .k (.s [98]), .k (.s [97, 98]), .k (.s [195, 164]), .k (.s [226, 130, 172]), .k (.s [240, 159, 153, 130]), .k (.s [49]), .k (.s [99])], some 6, none⟩, ⟨.mv, [.m 6], some 3, none⟩] none)
(.seq (.reg [⟨.mv, [.k (.s [])], some 4, none⟩] none)
(.seq (.seq (.reg [⟨.mv, [.k (.n .i64 0)], some 5, none⟩] none)
(.block 0 (.drop [2] (.cut 0 r02_Fix_o0 (.loop r02_Fix_p0)))))
(.seq (.reg [⟨.mv, [.m 4], some 29, none⟩, ⟨.mv, [.m 29], some 2, none⟩] none)
.ret)))))
def r02_Fix_w : Orc Tb := mkOrc (Y := (List UInt8)) tab [.g (.f (.a .s))] [] (fun x h => r02_Fix x.1) (fun _ y k => k (.s y) [])
theorem r02_Fix_k : (r02_Fix_w).Ok Tryd.prog Wp tab 12 := orc_ok (Y := (List UInt8)) (orcs := r02_Fix_r) (c := r02_Fix_p) (res := [.tmp 2]) (n := 30) (R := (RSp.one (Y := (List UInt8)) tab (.g (.f (.a .s))) [] (fun a b => a) (fun y => y) (fun y => ()))) tabOk r02_Fix_rk (RSp.one_ok tabOk (fun _ _ => by kernel_rfl) (fun _ _ => by kernel_rfl)) Tryd.func12 (by kernel_rfl) (by kernel_rfl) (by kernel_rfl) (by kernel_rfl) (cS trivial (cS trivial (cS trivial (cS (cS trivial (cB (cD (cT r02_Fix_q0)))) (cS trivial trivial))))) (fun _ y k => by kernel_rfl) (fun y => by kernel_rfl) (fun x h => by kernel_rfl)
def l02_TextJoins_r : Orcs Tb := [(12, r02_Fix_w), (7, l02_told_w), (8, text_Right_w), (10, text_Runes_w)]
theorem l02_TextJoins_rk : OrcsOk Tryd.prog Wp tab l02_TextJoins_r := (orcs_cons r02_Fix_k (orcs_cons l02_told_k (orcs_cons text_Right_k (orcs_cons text_Runes_k orcs_nil))))
def l02_TextJoins_p : TCode Tb :=
(.seq (.reg [⟨.mv, [.k (.b false)], some 6, none⟩] none)
(.seq (.reg [⟨.mv, [.m 0], some 9, none⟩, ⟨(.call (some 12) 0), [.m 9], some 10, none⟩, ⟨.mv, [.m 1], some 11, none⟩, ⟨(.call (some 12) 0), [.m 11], some 12, none⟩, ⟨.mv, [.m 10], some 0, none⟩, ⟨.mv, [.m 12], some 1, none⟩] none)
(.seq (.reg [⟨.mv, [.v 0], some 13, none⟩, ⟨.mv, [.v 1], some 14, none⟩, ⟨(.bin .add .i), [.m 13, .m 14], some 15, none⟩, ⟨.mv, [.m 15], some 7, none⟩] none)
(.seq (.seq (.reg [⟨(.call (some 7) 1), [], some 16, none⟩, ⟨(.un .not), [.m 16], some 17, none⟩, ⟨.mv, [.m 17], some 18, none⟩, ⟨.mv, [.v 7], some 19, some (18, false)⟩, ⟨(.call (some 8) 2), [.m 19], some 20, some (18, false)⟩, ⟨(.un .not), [.m 20], some 21, some (18, false)⟩, ⟨.pick, [.m 18, .k (.b true), .m 21], some 22, none⟩, ⟨.mv, [.m 22], some 23, none⟩, ⟨.mv, [.v 7], some 24, some (23, false)⟩, ⟨(.call (some 10) 3), [.m 24], some 25, some (23, false)⟩, ⟨.mv, [.m 0], some 26, some (23, false)⟩, ⟨(.call (some 10) 3), [.m 26], some 27, some (23, false)⟩, ⟨.mv, [.m 1], some 28, some (23, false)⟩, ⟨(.call (some 10) 3), [.m 28], some 29, some (23, false)⟩, ⟨(.bin .add .i), [.m 27, .m 29], some 30, some (23, false)⟩, ⟨(.bin .neq .i), [.m 25, .m 30], some 31, some (23, false)⟩, ⟨.pick, [.m 23, .k (.b true), .m 31], some 32, none⟩] none)
(.drop [0, 1, 6, 19, 20, 24, 25, 26, 27, 28, 29, 30] (.cond 32 (.drop [2, 7, 32] (.seq (.reg [⟨.mv, [.k (.b false)], some 6, none⟩] none)
.ret))
(.drop [32] .skip))))
(.seq (.seq (.reg [⟨.mv, [.v 7], some 33, none⟩, ⟨.lens, [.m 33], some 34, none⟩, ⟨(.bin .eql .i), [.m 34, .k (.n .i64 0)], some 35, none⟩] none)
(.cond 35 (.drop [2, 7, 35] (.seq (.reg [⟨.mv, [.k (.b true)], some 6, none⟩] none)
.ret))
(.drop [35] .skip)))
(.seq (.reg [⟨.mv, [.m 2], some 36, none⟩, ⟨(.cint .u64), [.m 36], some 37, none⟩, ⟨.mv, [.v 7], some 38, none⟩, ⟨.lens, [.m 38], some 39, none⟩, ⟨(.cint .u64), [.m 39], some 40, none⟩, ⟨(.bin .rem .i), [.m 37, .m 40], some 41, none⟩, ⟨(.cint .i64), [.m 41], some 42, none⟩, ⟨.mv, [.m 42], some 8, none⟩] none)
(.seq (.reg [⟨.mv, [.v 7], some 43, none⟩, ⟨.mv, [.v 8], some 44, none⟩, ⟨(.sstr false true), [.m 43, .m 44], some 45, none⟩, ⟨(.call (some 8) 2), [.m 45], some 46, none⟩, ⟨.mv, [.v 7], some 47, none⟩, ⟨.mv, [.v 8], some 48, none⟩, ⟨.sidx, [.m 47, .m 48], some 49, none⟩, ⟨(.bin .lss .i), [.m 49, .k (.u8 (128 : UInt8))], some 50, none⟩, ⟨.mv, [.m 50], some 51, none⟩, ⟨.mv, [.v 7], some 52, some (51, false)⟩, ⟨.mv, [.v 8], some 53, some (51, false)⟩, ⟨.sidx, [.m 52, .m 53], some 54, some (51, false)⟩, ⟨(.bin .geq .i), [.m 54, .k (.u8 (192 : UInt8))], some 55, some (51, false)⟩, ⟨.pick, [.m 51, .k (.b true), .m 55], some 56, none⟩, ⟨(.bin .eql .b), [.m 46, .m 56], some 57, none⟩, ⟨.mv, [.m 57], some 58, none⟩, ⟨.mv, [.v 7], some 59, some (58, true)⟩, ⟨.mv, [.v 8], some 60, some (58, true)⟩, ⟨(.sstr true false), [.m 59, .m 60], some 61, some (58, true)⟩, ⟨(.call (some 8) 2), [.m 61], some 62, some (58, true)⟩, ⟨.mv, [.v 7], some 63, some (58, true)⟩, ⟨.mv, [.v 8], some 64, some (58, true)⟩, ⟨.sidx, [.m 63, .m 64], some 65, some (58, true)⟩, ⟨(.bin .lss .i), [.m 65, .k (.u8 (128 : UInt8))], some 66, some (58, true)⟩, ⟨.mv, [.m 66], some 67, some (58, true)⟩, ⟨.mv, [.m 7], some 68, some (67, false)⟩, ⟨.mv, [.m 8], some 69, some (67, false)⟩, ⟨.sidx, [.m 68, .m 69], some 70, some (67, false)⟩, ⟨(.bin .geq .i), [.m 70, .k (.u8 (192 : UInt8))], some 71, some (67, false)⟩, ⟨.pick, [.m 67, .k (.b true), .m 71], some 72, some (58, true)⟩, ⟨(.bin .eql .b), [.m 62, .m 72], some 73, some (58, true)⟩, ⟨.pick, [.m 58, .m 73, .k (.b false)], some 74, none⟩, ⟨.mv, [.m 74], some 6, none⟩] (some [[], [], [], [], [], [], [], [], [], [], [], [], [], [], [], [], [], [], [], [], [], [], [], [], [], [], [], [], [], [], [], [], []]))
(.drop [7, 8, 52, 53, 54, 59, 60, 61, 62, 63, 64, 65, 66, 67, 68, 69, 70, 71, 72] .ret))))))))
def l02_TextJoins_w : Orc Tb := mkOrc (Y := Bool) tab [.g (.f (.a .s)), .g (.f (.a .s)), .g (.f (.a (.n .i64)))] [] (fun x h => l02_TextJoins x.1 x.2.1 x.2.2.1) (fun _ y k => k (.b y) [])
theorem l02_TextJoins_k : (l02_TextJoins_w).Ok Tryd.prog Wp tab 5 := orc_ok (Y := Bool) (orcs := l02_TextJoins_r) (c := l02_TextJoins_p) (res := [.tmp 6]) (n := 75) (R := (RSp.one (Y := Bool) tab (.g (.f (.a .b))) [] (fun a b => a) (fun y => y) (fun y => ()))) tabOk l02_TextJoins_rk (RSp.one_ok tabOk (fun _ _ => by kernel_rfl) (fun _ _ => by kernel_rfl)) Tryd.func5 (by kernel_rfl) (by kernel_rfl) (by kernel_rfl) (by kernel_rfl) (cS trivial (cS trivial (cS trivial (cS (cS trivial (cD (cC (cD (cS trivial trivial)) (cD trivial)))) (cS (cS trivial (cC (cD (cS trivial trivial)) (cD trivial))) (cS trivial (cS trivial (cD trivial)))))))) (fun _ y k => by kernel_rfl) (fun y => by kernel_rfl) (fun x h => by kernel_rfl)
end Go.Rv
