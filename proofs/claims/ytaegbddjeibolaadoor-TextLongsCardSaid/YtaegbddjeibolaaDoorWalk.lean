/- That the program's functions are these plain functions. -/
import Derived.Test.YtaegbddjeibolaaDoorPure
import Derived.Test.YtaegbddjeibolaaDoorChecked
set_option linter.unusedSimpArgs false
set_option linter.unusedVariables false
set_option maxRecDepth 100000
namespace Go.Rv
open Go.Proofs
def Wp : World → Prop := TrydWp
def utf8_ValidString_w : Orc Tb := mkOrc (Y := Bool) tab [.g (.f (.a .s))] [] (fun x h => utf8_ValidString x.1) (fun _ y k => k (.b y) [])
theorem utf8_ValidString_k : (utf8_ValidString_w).Ok Tryd.prog Wp tab 13 := lw_ValidString tabOk (by kernel_rfl) (fun _ h => h) Tryd.utf8_ValidString
def strings_Contains_w : Orc Tb := mkOrc (Y := Bool) tab [.g (.f (.a .s)), .g (.f (.a .s))] [] (fun x h => strings_Contains x.1 x.2.1) (fun _ y k => k (.b y) [])
theorem strings_Contains_k : (strings_Contains_w).Ok Tryd.prog Wp tab 14 := lw_Contains tabOk (by kernel_rfl) Tryd.strings_Contains_one
def text_Right_r : Orcs Tb := [(13, utf8_ValidString_w), (14, strings_Contains_w)]
theorem text_Right_rk : OrcsOk Tryd.prog Wp tab text_Right_r := (orcs_cons utf8_ValidString_k (orcs_cons strings_Contains_k orcs_nil))
def text_Right_p : TCode Tb :=
(.seq (.reg [⟨.mv, [.k (.b false)], some 2, none⟩] none)
(.seq (.reg [⟨.mv, [.v 0], some 3, none⟩, ⟨.lens, [.m 3], some 4, none⟩, ⟨(.bin .leq .i), [.m 4, .k (.n .i64 65535)], some 5, none⟩, ⟨.mv, [.m 5], some 6, none⟩, ⟨.mv, [.v 0], some 7, some (6, true)⟩, ⟨(.call (some 13) 0), [.m 7], some 8, some (6, true)⟩, ⟨.pick, [.m 6, .m 8, .k (.b false)], some 9, none⟩, ⟨.mv, [.m 9], some 10, none⟩, ⟨.mv, [.m 0], some 11, some (10, true)⟩, ⟨(.call (some 14) 1), [.m 11, .k (.s [0])], some 12, some (10, true)⟩, ⟨(.un .not), [.m 12], some 13, some (10, true)⟩, ⟨.pick, [.m 10, .m 13, .k (.b false)], some 14, none⟩, ⟨.mv, [.m 14], some 2, none⟩] none)
(.drop [0, 7, 11, 12] .ret)))
def text_Right_w : Orc Tb := mkOrc (Y := Bool) tab [.g (.f (.a .s))] [] (fun x h => text_Right x.1) (fun _ y k => k (.b y) [])
theorem text_Right_k : (text_Right_w).Ok Tryd.prog Wp tab 8 := orc_ok (Y := Bool) (orcs := text_Right_r) (c := text_Right_p) (res := [.tmp 2]) (n := 15) (R := (RSp.one (Y := Bool) tab (.g (.f (.a .b))) [] (fun a b => a) (fun y => y) (fun y => ()))) tabOk text_Right_rk (RSp.one_ok tabOk (fun _ _ => by kernel_rfl) (fun _ _ => by kernel_rfl)) Tryd.func8 (by kernel_rfl) (by kernel_rfl) (by kernel_rfl) (by kernel_rfl) (cS trivial (cS trivial (cD trivial))) (fun _ y k => by kernel_rfl) (fun y => by kernel_rfl) (fun x h => by kernel_rfl)
def utf8_RuneCountInString_w : Orc Tb := mkOrc (Y := Int) tab [.g (.f (.a .s))] [] (fun x h => utf8_RuneCountInString x.1) (fun _ y k => k (.n .i64 y) [])
theorem utf8_RuneCountInString_k : (utf8_RuneCountInString_w).Ok Tryd.prog Wp tab 15 := lw_RuneCount tabOk (by kernel_rfl) Tryd.utf8_RuneCountInString
def text_Runes_r : Orcs Tb := [(8, text_Right_w), (15, utf8_RuneCountInString_w)]
theorem text_Runes_rk : OrcsOk Tryd.prog Wp tab text_Runes_r := (orcs_cons text_Right_k (orcs_cons utf8_RuneCountInString_k orcs_nil))
def text_Runes_p : TCode Tb :=
(.seq (.reg [⟨.mv, [.k (.n .i64 0)], some 2, none⟩] none)
(.seq (.seq (.reg [⟨.mv, [.v 0], some 3, none⟩, ⟨(.call (some 8) 0), [.m 3], some 4, none⟩, ⟨(.un .not), [.m 4], some 5, none⟩] none)
(.cond 5 (.drop [0, 2, 5] (.seq (.reg [⟨.mv, [.k (.n .i64 0)], some 2, none⟩] none)
.ret))
(.drop [2, 5] .skip)))
(.seq (.reg [⟨.mv, [.m 0], some 6, none⟩, ⟨(.call (some 15) 1), [.m 6], some 7, none⟩, ⟨.mv, [.m 7], some 2, none⟩] none)
.ret)))
def text_Runes_w : Orc Tb := mkOrc (Y := Int) tab [.g (.f (.a .s))] [] (fun x h => text_Runes x.1) (fun _ y k => k (.n .i64 y) [])
theorem text_Runes_k : (text_Runes_w).Ok Tryd.prog Wp tab 10 := orc_ok (Y := Int) (orcs := text_Runes_r) (c := text_Runes_p) (res := [.tmp 2]) (n := 8) (R := (RSp.one (Y := Int) tab (.g (.f (.a (.n .i64)))) [] (fun a b => a) (fun y => y) (fun y => ()))) tabOk text_Runes_rk (RSp.one_ok tabOk (fun _ _ => by kernel_rfl) (fun _ _ => by kernel_rfl)) Tryd.func10 (by kernel_rfl) (by kernel_rfl) (by kernel_rfl) (by kernel_rfl) (cS trivial (cS (cS trivial (cC (cD (cS trivial trivial)) (cD trivial))) (cS trivial trivial))) (fun _ y k => by kernel_rfl) (fun y => by kernel_rfl) (fun x h => by kernel_rfl)
def l02_told_r : Orcs Tb := [(8, text_Right_w), (10, text_Runes_w)]
theorem l02_told_rk : OrcsOk Tryd.prog Wp tab l02_told_r := (orcs_cons text_Right_k (orcs_cons text_Runes_k orcs_nil))
def l02_told_p : TCode Tb :=
(.seq (.reg [⟨.mv, [.k (.b false)], some 0, none⟩] none)
(.seq (.reg [⟨(.call (some 8) 0), [.k (.s [97, 195, 164])], some 1, none⟩, ⟨.mv, [.m 1], some 2, none⟩, ⟨(.call (some 10) 1), [.k (.s [97, 195, 164])], some 3, some (2, true)⟩, ⟨(.bin .eql .i), [.m 3, .k (.n .i64 2)], some 4, some (2, true)⟩, ⟨.pick, [.m 2, .m 4, .k (.b false)], some 5, none⟩, ⟨.mv, [.m 5], some 6, none⟩, ⟨(.call (some 8) 0), [.k (.s [192, 128])], some 7, some (6, true)⟩, ⟨(.un .not), [.m 7], some 8, some (6, true)⟩, ⟨.pick, [.m 6, .m 8, .k (.b false)], some 9, none⟩, ⟨.mv, [.m 9], some 10, none⟩, ⟨(.call (some 8) 0), [.k (.s [237, 160, 128])], some 11, some (10, true)⟩, ⟨(.un .not), [.m 11], some 12, some (10, true)⟩, ⟨.pick, [.m 10, .m 12, .k (.b false)], some 13, none⟩, ⟨.mv, [.m 13], some 14, none⟩, ⟨(.call (some 8) 0), [.k (.s [244, 144, 128, 128])], some 15, some (14, true)⟩, ⟨(.un .not), [.m 15], some 16, some (14, true)⟩, ⟨.pick, [.m 14, .m 16, .k (.b false)], some 17, none⟩, ⟨.mv, [.m 17], some 18, none⟩, ⟨(.call (some 8) 0), [.k (.s [0])], some 19, some (18, true)⟩, ⟨(.un .not), [.m 19], some 20, some (18, true)⟩, ⟨.pick, [.m 18, .m 20, .k (.b false)], some 21, none⟩, ⟨.mv, [.m 21], some 22, none⟩, ⟨(.call (some 8) 0), [.k (.s [])], some 23, some (22, true)⟩, ⟨.pick, [.m 22, .m 23, .k (.b false)], some 24, none⟩, ⟨.mv, [.m 24], some 0, none⟩] none)
(.drop [3, 7, 11, 15, 19] .ret)))
def l02_told_w : Orc Tb := mkOrc (Y := Bool) tab [] [] (fun x h => l02_told) (fun _ y k => k (.b y) [])
theorem l02_told_k : (l02_told_w).Ok Tryd.prog Wp tab 7 := orc_ok (Y := Bool) (orcs := l02_told_r) (c := l02_told_p) (res := [.tmp 0]) (n := 25) (R := (RSp.one (Y := Bool) tab (.g (.f (.a .b))) [] (fun a b => a) (fun y => y) (fun y => ()))) tabOk l02_told_rk (RSp.one_ok tabOk (fun _ _ => by kernel_rfl) (fun _ _ => by kernel_rfl)) Tryd.func7 (by kernel_rfl) (by kernel_rfl) (by kernel_rfl) (by kernel_rfl) (cS trivial (cS trivial (cD trivial))) (fun _ y k => by kernel_rfl) (fun y => by kernel_rfl) (fun x h => by kernel_rfl)
def l02_TextLongs_r : Orcs Tb := [(7, l02_told_w), (8, text_Right_w)]
theorem l02_TextLongs_rk : OrcsOk Tryd.prog Wp tab l02_TextLongs_r := (orcs_cons l02_told_k (orcs_cons text_Right_k orcs_nil))
def l02_TextLongs_p0 : TCode Tb :=
(.seq (.seq (.reg [⟨.mv, [.v 7], some 15, none⟩, ⟨.mv, [.v 5], some 16, none⟩, ⟨(.bin .lss .i), [.m 15, .m 16], some 17, none⟩] none)
(.cond 17 (.drop [17] .skip)
(.drop [7, 17] (.exit 0))))
(.seq (.block 1 (.reg [⟨.mv, [.v 6], some 20, none⟩, ⟨.mv, [.v 7], some 21, none⟩, ⟨(.ia 1), [.v 20, .m 21], some 22, none⟩, ⟨(.store 1), [.m 22, .k (.u8 (97 : UInt8))], none, none⟩] none))
(.drop [20] (.reg [⟨.mv, [.m 7], some 18, none⟩, ⟨(.bin .add .i), [.m 18, .k (.n .i64 1)], some 19, none⟩, ⟨.mv, [.m 19], some 7, none⟩] none))))
def l02_TextLongs_s0 : SSh := ⟨[(1, .g (.f (.a .u8))), (5, .g (.f (.a (.n .i64)))), (6, .g (.f (.vw 0 0))), (7, .g (.f (.a (.n .i64))))], [[.g (.f (.blk 0))]]⟩
def l02_TextLongs_o0 : Cut Tb := cutL tab 0 l02_TextLongs_s0 (fun x => (x.1.2.2.2.1, x.2.1.1)) (fun x => l02_TextLongs_l0 x.1.2.1 x.1.2.2.1) (fun _ x y k => k (.exit 0) ⟨[(1, .u8 x.1.1), (5, .n .i64 x.1.2.1), (6, .vw 0 0 x.1.2.2.1)], [[.blk 0 y]]⟩)
theorem l02_TextLongs_q0 : (l02_TextLongs_o0).Ok Tryd.prog Wp tab 0 (.loop l02_TextLongs_p0) := cutL_ok (c := l02_TextLongs_p0) (Z := Int × (List UInt8)) (Y := (List UInt8)) tabOk l02_TextLongs_rk (cS (cS trivial (cC (cD trivial) (cD trivial))) (cS (cB trivial) (cD trivial))) (fun _ x z b e => l02_TextLongs_b0 x.1.2.1 x.1.2.2.1 z.1 z.2 (fun x6 x7 => b (x6, x7)) (fun y10 => e y10)) (fun x z => ⟨[(1, .u8 x.1.1), (5, .n .i64 x.1.2.1), (6, .vw 0 0 x.1.2.2.1), (7, .n .i64 z.1)], [[.blk 0 z.2]]⟩) (fun x y => ((.exit 0), ⟨[(1, .u8 x.1.1), (5, .n .i64 x.1.2.1), (6, .vw 0 0 x.1.2.2.1)], [[.blk 0 y]]⟩)) (fun t => (prjS tab 0 l02_TextLongs_s0 t).bind fun x => some (x.1.2.2.2.1, x.2.1.1)) (fun e t => (if eqE e (.exit 0) then (prjS tab 0 ⟨[(1, .g (.f (.a .u8))), (5, .g (.f (.a (.n .i64)))), (6, .g (.f (.vw 0 0)))], [[.g (.f (.blk 0))]]⟩ t).bind fun v => some v.2.1.1 else none)) (fun x => by kernel_rfl) (fun x z => by kernel_rfl) (fun x y k => by kernel_rfl) (fun x y => by exact nofun) (fun x z => by kernel_rfl) (fun x y => by kernel_rfl) (fun x z k => by kernel_rfl)
def l02_TextLongs_p : TCode Tb :=
(.seq (.reg [⟨.mv, [.k (.b false)], some 4, none⟩] none)
(.seq (.reg [⟨.mv, [.m 0], some 8, none⟩, ⟨(.cint .u64), [.m 8], some 9, none⟩, ⟨(.bin .rem .i), [.m 9, .k (.u64 (12 : UInt64))], some 10, none⟩, ⟨(.cint .i64), [.m 10], some 11, none⟩, ⟨(.bin .add .i), [.k (.n .i64 65530), .m 11], some 12, none⟩, ⟨.mv, [.m 12], some 5, none⟩] none)
(.seq (.reg [⟨.mv, [.v 5], some 13, none⟩, ⟨(.mksl 0 1 (0 : UInt8)), [.v 13, .m 13], some 14, none⟩, ⟨.mv, [.m 14], some 6, none⟩] none)
(.seq (.seq (.reg [⟨.mv, [.k (.n .i64 0)], some 7, none⟩] none)
(.block 0 (.drop [4] (.cut 0 l02_TextLongs_o0 (.loop l02_TextLongs_p0)))))
(.seq (.reg [⟨.mv, [.v 6], some 23, none⟩, ⟨.mv, [.v 5], some 24, none⟩, ⟨(.bin .quo .i), [.m 24, .k (.n .i64 2)], some 25, none⟩, ⟨.mv, [.m 1], some 26, none⟩, ⟨(.bin .rem .i), [.m 26, .k (.u8 (127 : UInt8))], some 27, none⟩, ⟨(.bin .add .i), [.k (.u8 (1 : UInt8)), .m 27], some 28, none⟩, ⟨(.ia 1), [.v 23, .m 25], some 29, none⟩, ⟨(.store 1), [.m 29, .m 28], none, none⟩] none)
(.seq (.frz [6] none (.reg [⟨(.call (some 7) 0), [], some 30, none⟩, ⟨.mv, [.m 30], some 31, none⟩, ⟨.mv, [.m 6], some 32, some (31, true)⟩, ⟨.b2s, [.m 32], some 33, some (31, true)⟩, ⟨(.call (some 8) 1), [.m 33], some 34, some (31, true)⟩, ⟨.mv, [.m 5], some 35, some (31, true)⟩, ⟨(.bin .leq .i), [.m 35, .k (.n .i64 65535)], some 36, some (31, true)⟩, ⟨(.bin .eql .b), [.m 34, .m 36], some 37, some (31, true)⟩, ⟨.pick, [.m 31, .m 37, .k (.b false)], some 38, none⟩, ⟨.mv, [.m 38], some 4, none⟩] none))
(.drop [5, 6, 23, 32, 33, 34, 35, 36] .ret)))))))
def l02_TextLongs_w : Orc Tb := mkOrc (Y := Bool) tab [.g (.f (.a (.n .i64))), .g (.f (.a .u8))] [] (fun x h => l02_TextLongs x.1 x.2.1) (fun _ y k => k (.b y) [])
theorem l02_TextLongs_k : (l02_TextLongs_w).Ok Tryd.prog Wp tab 6 := orc_ok (Y := Bool) (orcs := l02_TextLongs_r) (c := l02_TextLongs_p) (res := [.tmp 4]) (n := 39) (R := (RSp.one (Y := Bool) tab (.g (.f (.a .b))) [] (fun a b => a) (fun y => y) (fun y => ()))) tabOk l02_TextLongs_rk (RSp.one_ok tabOk (fun _ _ => by kernel_rfl) (fun _ _ => by kernel_rfl)) Tryd.func6 (by kernel_rfl) (by kernel_rfl) (by kernel_rfl) (by kernel_rfl) (cS trivial (cS trivial (cS trivial (cS (cS trivial (cB (cD (cT l02_TextLongs_q0)))) (cS trivial (cS (cZ trivial) (cD trivial))))))) (fun _ y k => by kernel_rfl) (fun y => by kernel_rfl) (fun x h => by kernel_rfl)
end Go.Rv
