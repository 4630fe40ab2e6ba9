/- That the program's functions are these plain functions. -/
import Derived.Test.YthabicfefgahkaaDoorPure
import Derived.Test.YthabicfefgahkaaDoorChecked
set_option linter.unusedSimpArgs false
set_option linter.unusedVariables false
set_option maxRecDepth 100000
namespace Go.Rv
open Go.Proofs
def Wp : World → Prop := TrydWp
def utf8_ValidString_w : Orc Tb := mkOrc (Y := Bool) tab [.g (.f (.a .s))] [] (fun x h => utf8_ValidString x.1) (fun _ y k => k (.b y) [])
theorem utf8_ValidString_k : utf8_ValidString_w.Ok Tryd.prog Wp tab 30 := lw_ValidString tabOk (by kernel_rfl) (fun _ h => h) Tryd.utf8_ValidString
def strings_Contains_w : Orc Tb := mkOrc (Y := Bool) tab [.g (.f (.a .s)), .g (.f (.a .s))] [] (fun x h => strings_Contains x.1 x.2.1) (fun _ y k => k (.b y) [])
theorem strings_Contains_k : strings_Contains_w.Ok Tryd.prog Wp tab 31 := lw_Contains tabOk (by kernel_rfl) Tryd.strings_Contains_one
def text_Right_r : Orcs Tb := [(30, utf8_ValidString_w), (31, strings_Contains_w)]
theorem text_Right_rk : OrcsOk Tryd.prog Wp tab text_Right_r := (orcs_cons utf8_ValidString_k (orcs_cons strings_Contains_k orcs_nil))
def text_Right_p : TCode Tb :=
(.seq (.reg [⟨.mv, [.k (.b false)], some 2, none⟩] none)
(.seq (.reg [⟨.mv, [.v 0], some 3, none⟩, ⟨.lens, [.m 3], some 4, none⟩, ⟨(.bin .leq .i), [.m 4, .k (.n .i64 65535)], some 5, none⟩, ⟨.mv, [.m 5], some 6, none⟩, ⟨.mv, [.v 0], some 7, some (6, true)⟩, ⟨(.call (some 30) 0), [.m 7], some 8, some (6, true)⟩, ⟨.pick, [.m 6, .m 8, .k (.b false)], some 9, none⟩, ⟨.mv, [.m 9], some 10, none⟩, ⟨.mv, [.m 0], some 11, some (10, true)⟩, ⟨(.call (some 31) 1), [.m 11, .k (.s [0])], some 12, some (10, true)⟩, ⟨(.un .not), [.m 12], some 13, some (10, true)⟩, ⟨.pick, [.m 10, .m 13, .k (.b false)], some 14, none⟩, ⟨.mv, [.m 14], some 2, none⟩] none)
(.drop [0, 7, 11, 12] .ret)))
def text_Right_w : Orc Tb := mkOrc (Y := Bool) tab [.g (.f (.a .s))] [] (fun x h => text_Right x.1) (fun _ y k => k (.b y) [])
theorem text_Right_k : text_Right_w.Ok Tryd.prog Wp tab 22 := orc_ok (Y := Bool) (orcs := text_Right_r) (c := text_Right_p) (res := [.tmp 2]) (n := 15) (R := (RSp.one (Y := Bool) tab (.g (.f (.a .b))) [] (fun a b => a) (fun y => y) (fun y => ()))) tabOk text_Right_rk (RSp.one_ok tabOk (fun _ _ => by kernel_rfl) (fun _ _ => by kernel_rfl)) Tryd.func22 (by kernel_rfl) (by kernel_rfl) (by kernel_rfl) (by kernel_rfl) (cS trivial (cS trivial (cD trivial))) (fun _ y k => by kernel_rfl) (fun y => by kernel_rfl) (fun x h => by kernel_rfl)
def strings_ContainsAny_w : Orc Tb := mkOrc (Y := Bool) tab [.g (.f (.a .s)), .g (.f (.a .s))] [] (fun x h => strings_ContainsAny x.1 x.2.1) (fun _ y k => k (.b y) [])
theorem strings_ContainsAny_k : strings_ContainsAny_w.Ok Tryd.prog Wp tab 32 := lw_ContainsAny tabOk (by kernel_rfl) Tryd.strings_ContainsAny
def topic_Wild_r : Orcs Tb := [(32, strings_ContainsAny_w)]
theorem topic_Wild_rk : OrcsOk Tryd.prog Wp tab topic_Wild_r := (orcs_cons strings_ContainsAny_k orcs_nil)
def topic_Wild_p : TCode Tb :=
(.seq (.reg [⟨.mv, [.k (.b false)], some 2, none⟩] none)
(.seq (.reg [⟨.mv, [.m 0], some 3, none⟩, ⟨(.call (some 32) 0), [.m 3, .k (.s [43, 35])], some 4, none⟩, ⟨.mv, [.m 4], some 2, none⟩] none)
.ret))
def topic_Wild_w : Orc Tb := mkOrc (Y := Bool) tab [.g (.f (.a .s))] [] (fun x h => topic_Wild x.1) (fun _ y k => k (.b y) [])
theorem topic_Wild_k : topic_Wild_w.Ok Tryd.prog Wp tab 23 := orc_ok (Y := Bool) (orcs := topic_Wild_r) (c := topic_Wild_p) (res := [.tmp 2]) (n := 5) (R := (RSp.one (Y := Bool) tab (.g (.f (.a .b))) [] (fun a b => a) (fun y => y) (fun y => ()))) tabOk topic_Wild_rk (RSp.one_ok tabOk (fun _ _ => by kernel_rfl) (fun _ _ => by kernel_rfl)) Tryd.func23 (by kernel_rfl) (by kernel_rfl) (by kernel_rfl) (by kernel_rfl) (cS trivial (cS trivial trivial)) (fun _ y k => by kernel_rfl) (fun y => by kernel_rfl) (fun x h => by kernel_rfl)
def topic_Name_r : Orcs Tb := [(22, text_Right_w), (23, topic_Wild_w)]
theorem topic_Name_rk : OrcsOk Tryd.prog Wp tab topic_Name_r := (orcs_cons text_Right_k (orcs_cons topic_Wild_k orcs_nil))
def topic_Name_p : TCode Tb :=
(.seq (.reg [⟨.mv, [.k (.b false)], some 2, none⟩] none)
(.seq (.reg [⟨.mv, [.v 0], some 3, none⟩, ⟨(.bin .neq .s), [.m 3, .k (.s [])], some 4, none⟩, ⟨.mv, [.m 4], some 5, none⟩, ⟨.mv, [.v 0], some 6, some (5, true)⟩, ⟨(.call (some 22) 0), [.m 6], some 7, some (5, true)⟩, ⟨.pick, [.m 5, .m 7, .k (.b false)], some 8, none⟩, ⟨.mv, [.m 8], some 9, none⟩, ⟨.mv, [.m 0], some 10, some (9, true)⟩, ⟨(.call (some 23) 1), [.m 10], some 11, some (9, true)⟩, ⟨(.un .not), [.m 11], some 12, some (9, true)⟩, ⟨.pick, [.m 9, .m 12, .k (.b false)], some 13, none⟩, ⟨.mv, [.m 13], some 2, none⟩] none)
(.drop [0, 6, 10, 11] .ret)))
def topic_Name_w : Orc Tb := mkOrc (Y := Bool) tab [.g (.f (.a .s))] [] (fun x h => topic_Name x.1) (fun _ y k => k (.b y) [])
theorem topic_Name_k : topic_Name_w.Ok Tryd.prog Wp tab 16 := orc_ok (Y := Bool) (orcs := topic_Name_r) (c := topic_Name_p) (res := [.tmp 2]) (n := 14) (R := (RSp.one (Y := Bool) tab (.g (.f (.a .b))) [] (fun a b => a) (fun y => y) (fun y => ()))) tabOk topic_Name_rk (RSp.one_ok tabOk (fun _ _ => by kernel_rfl) (fun _ _ => by kernel_rfl)) Tryd.func16 (by kernel_rfl) (by kernel_rfl) (by kernel_rfl) (by kernel_rfl) (cS trivial (cS trivial (cD trivial))) (fun _ y k => by kernel_rfl) (fun y => by kernel_rfl) (fun x h => by kernel_rfl)
def cmp_isNaN_uint16_r : Orcs Tb := []
theorem cmp_isNaN_uint16_rk : OrcsOk Tryd.prog Wp tab cmp_isNaN_uint16_r := orcs_nil
def cmp_isNaN_uint16_p : TCode Tb :=
(.seq (.reg [⟨.mv, [.k (.b false)], some 2, none⟩] none)
(.seq (.reg [⟨.mv, [.v 0], some 3, none⟩, ⟨.mv, [.m 0], some 4, none⟩, ⟨(.bin .neq .i), [.m 3, .m 4], some 5, none⟩, ⟨.mv, [.m 5], some 2, none⟩] none)
.ret))
def cmp_isNaN_uint16_w : Orc Tb := mkOrc (Y := Bool) tab [.g (.f (.a .u16))] [] (fun x h => cmp_isNaN_uint16 x.1) (fun _ y k => k (.b y) [])
theorem cmp_isNaN_uint16_k : cmp_isNaN_uint16_w.Ok Tryd.prog Wp tab 29 := orc_ok (Y := Bool) (orcs := cmp_isNaN_uint16_r) (c := cmp_isNaN_uint16_p) (res := [.tmp 2]) (n := 6) (R := (RSp.one (Y := Bool) tab (.g (.f (.a .b))) [] (fun a b => a) (fun y => y) (fun y => ()))) tabOk cmp_isNaN_uint16_rk (RSp.one_ok tabOk (fun _ _ => by kernel_rfl) (fun _ _ => by kernel_rfl)) Tryd.func29 (by kernel_rfl) (by kernel_rfl) (by kernel_rfl) (by kernel_rfl) (cS trivial (cS trivial trivial)) (fun _ y k => by kernel_rfl) (fun y => by kernel_rfl) (fun x h => by kernel_rfl)
def cmp_Compare_uint16_r : Orcs Tb := [(29, cmp_isNaN_uint16_w)]
theorem cmp_Compare_uint16_rk : OrcsOk Tryd.prog Wp tab cmp_Compare_uint16_r := (orcs_cons cmp_isNaN_uint16_k orcs_nil)
def cmp_Compare_uint16_p : TCode Tb :=
(.seq (.reg [⟨.mv, [.k (.n .i64 0)], some 4, none⟩] none)
(.seq (.reg [⟨.mv, [.v 0], some 7, none⟩, ⟨(.call (some 29) 0), [.m 7], some 8, none⟩, ⟨.mv, [.m 8], some 5, none⟩] none)
(.seq (.reg [⟨.mv, [.v 1], some 9, none⟩, ⟨(.call (some 29) 0), [.m 9], some 10, none⟩, ⟨.mv, [.m 10], some 6, none⟩] none)
(.seq (.seq (.reg [⟨.mv, [.m 5], some 11, none⟩] none)
(.cond 11 (.drop [0, 1, 4, 11] (.seq (.seq (.reg [⟨.mv, [.m 6], some 12, none⟩] none)
(.cond 12 (.drop [12] (.seq (.reg [⟨.mv, [.k (.n .i64 0)], some 4, none⟩] none)
.ret))
(.drop [12] .skip)))
(.seq (.reg [⟨.mv, [.k (.n .i64 (-1))], some 4, none⟩] none)
.ret)))
(.drop [4, 11] .skip)))
(.seq (.seq (.reg [⟨.mv, [.m 6], some 13, none⟩] none)
(.cond 13 (.drop [0, 1, 13] (.seq (.reg [⟨.mv, [.k (.n .i64 1)], some 4, none⟩] none)
.ret))
(.drop [13] .skip)))
(.seq (.seq (.reg [⟨.mv, [.v 0], some 14, none⟩, ⟨.mv, [.v 1], some 15, none⟩, ⟨(.bin .lss .i), [.m 14, .m 15], some 16, none⟩] none)
(.cond 16 (.drop [0, 1, 16] (.seq (.reg [⟨.mv, [.k (.n .i64 (-1))], some 4, none⟩] none)
.ret))
(.drop [16] .skip)))
(.seq (.seq (.reg [⟨.mv, [.m 0], some 17, none⟩, ⟨.mv, [.m 1], some 18, none⟩, ⟨(.bin .gtr .i), [.m 17, .m 18], some 19, none⟩] none)
(.cond 19 (.drop [19] (.seq (.reg [⟨.mv, [.k (.n .i64 1)], some 4, none⟩] none)
.ret))
(.drop [19] .skip)))
(.seq (.reg [⟨.mv, [.k (.n .i64 0)], some 4, none⟩] none)
.ret))))))))
def cmp_Compare_uint16_w : Orc Tb := mkOrc (Y := Int) tab [.g (.f (.a .u16)), .g (.f (.a .u16))] [] (fun x h => cmp_Compare_uint16 x.1 x.2.1) (fun _ y k => k (.n .i64 y) [])
theorem cmp_Compare_uint16_k : cmp_Compare_uint16_w.Ok Tryd.prog Wp tab 21 := orc_ok (Y := Int) (orcs := cmp_Compare_uint16_r) (c := cmp_Compare_uint16_p) (res := [.tmp 4]) (n := 20) (R := (RSp.one (Y := Int) tab (.g (.f (.a (.n .i64)))) [] (fun a b => a) (fun y => y) (fun y => ()))) tabOk cmp_Compare_uint16_rk (RSp.one_ok tabOk (fun _ _ => by kernel_rfl) (fun _ _ => by kernel_rfl)) Tryd.func21 (by kernel_rfl) (by kernel_rfl) (by kernel_rfl) (by kernel_rfl) (cS trivial (cS trivial (cS trivial (cS (cS trivial (cC (cD (cS (cS trivial (cC (cD (cS trivial trivial)) (cD trivial))) (cS trivial trivial))) (cD trivial))) (cS (cS trivial (cC (cD (cS trivial trivial)) (cD trivial))) (cS (cS trivial (cC (cD (cS trivial trivial)) (cD trivial))) (cS (cS trivial (cC (cD (cS trivial trivial)) (cD trivial))) (cS trivial trivial)))))))) (fun _ y k => by kernel_rfl) (fun y => by kernel_rfl) (fun x h => by kernel_rfl)
def alias_order_r : Orcs Tb := [(21, cmp_Compare_uint16_w)]
theorem alias_order_rk : OrcsOk Tryd.prog Wp tab alias_order_r := (orcs_cons cmp_Compare_uint16_k orcs_nil)
def alias_order_p : TCode Tb :=
(.seq (.reg [⟨.box, [.m 0], some 2, none⟩, ⟨.box, [.m 1], some 3, none⟩, ⟨.mv, [.k (.n .i64 0)], some 4, none⟩] none)
(.seq (.reg [⟨(.fa 0), [.m 2], some 5, none⟩, ⟨(.load none), [.m 5], some 6, none⟩, ⟨(.fa 0), [.m 3], some 7, none⟩, ⟨(.load none), [.m 7], some 8, none⟩, ⟨(.call (some 21) 0), [.m 6, .m 8], some 9, none⟩, ⟨.mv, [.m 9], some 4, none⟩] none)
.ret))
def alias_order_w : Orc Tb := mkOrc (Y := Int) tab [.g (.st 1), .g (.st 1)] [] (fun x h => alias_order (⟨x.1.Alias, x.1.Topic⟩ : alias_Row) (⟨x.2.1.Alias, x.2.1.Topic⟩ : alias_Row)) (fun _ y k => k (.n .i64 y) [])
theorem alias_order_k : alias_order_w.Ok Tryd.prog Wp tab 15 := orc_ok (Y := Int) (orcs := alias_order_r) (c := alias_order_p) (res := [.tmp 4]) (n := 10) (R := (RSp.one (Y := Int) tab (.g (.f (.a (.n .i64)))) [] (fun a b => a) (fun y => y) (fun y => ()))) tabOk alias_order_rk (RSp.one_ok tabOk (fun _ _ => by kernel_rfl) (fun _ _ => by kernel_rfl)) Tryd.func15 (by kernel_rfl) (by kernel_rfl) (by kernel_rfl) (by kernel_rfl) (cS trivial (cS trivial trivial)) (fun _ y k => by kernel_rfl) (fun y => by kernel_rfl) (fun x h => by kernel_rfl)
def slices_BinarySearchFunc_alias_Table_alias_Row_alias_Row_r : Orcs Tb := [(15, alias_order_w)]
theorem slices_BinarySearchFunc_alias_Table_alias_Row_alias_Row_rk : OrcsOk Tryd.prog Wp tab slices_BinarySearchFunc_alias_Table_alias_Row_alias_Row_r := (orcs_cons alias_order_k orcs_nil)
def slices_BinarySearchFunc_alias_Table_alias_Row_alias_Row_p0 : TCode Tb :=
(.seq (.seq (.reg [⟨.mv, [.v 9], some 15, none⟩, ⟨.mv, [.v 10], some 16, none⟩, ⟨(.bin .lss .i), [.m 15, .m 16], some 17, none⟩] none)
(.cond 17 (.drop [17] .skip)
(.drop [10, 17] (.exit 0))))
(.block 1 (.seq (.reg [⟨.mv, [.v 9], some 18, none⟩, ⟨.mv, [.v 10], some 19, none⟩, ⟨(.bin .add .i), [.m 18, .m 19], some 20, none⟩, ⟨(.cint .u64), [.m 20], some 21, none⟩, ⟨(.bin .shr .i), [.m 21, .k (.u64 (1 : UInt64))], some 22, none⟩, ⟨(.cint .i64), [.m 22], some 23, none⟩, ⟨.mv, [.m 23], some 11, none⟩] none)
(.seq (.reg [⟨.mv, [.v 2], some 24, none⟩, ⟨.mv, [.v 0], some 25, none⟩, ⟨.mv, [.v 11], some 26, none⟩, ⟨(.ia 2), [.v 25, .m 26], some 27, none⟩, ⟨(.load (some 2)), [.m 27], some 28, none⟩, ⟨(.load (some 2)), [.v 4], some 29, none⟩, ⟨(.call none 0), [.m 24, .m 28, .m 29], some 30, none⟩, ⟨(.bin .lss .i), [.m 30, .k (.n .i64 0)], some 31, none⟩] (some [[], [], [], [], [], [4], [], []]))
(.cond 31 (.drop [9, 25, 31] (.reg [⟨.mv, [.m 11], some 32, none⟩, ⟨(.bin .add .i), [.m 32, .k (.n .i64 1)], some 33, none⟩, ⟨.mv, [.m 33], some 9, none⟩] none))
(.drop [10, 25, 31] (.reg [⟨.mv, [.m 11], some 34, none⟩, ⟨.mv, [.m 34], some 10, none⟩] none)))))))
def slices_BinarySearchFunc_alias_Table_alias_Row_alias_Row_s0 : SSh := ⟨[(0, .g (.f (.a (.sl 1)))), (2, .g (.clo 15 [] [])), (4, .g (.f (.ref 0 0))), (8, .g (.f (.a (.n .i64)))), (9, .g (.f (.a (.n .i64)))), (10, .g (.f (.a (.n .i64))))], [[.g (.f (.a .u16)), .g (.f (.a .s))]]⟩
def slices_BinarySearchFunc_alias_Table_alias_Row_alias_Row_o0 : Cut Tb := cutL tab 0 slices_BinarySearchFunc_alias_Table_alias_Row_alias_Row_s0 (fun x => (x.1.2.2.2.2.1, x.1.2.2.2.2.2.1)) (fun x => slices_BinarySearchFunc_alias_Table_alias_Row_alias_Row_l0 x.1.1 (⟨x.2.1.1, x.2.1.2.1⟩ : alias_Row)) (fun _ x y k => k (.exit 0) ⟨[(0, .sl 1 x.1.1), (2, .clo 15 [] []), (4, .ref 0 0), (8, .n .i64 x.1.2.2.2.1), (9, .n .i64 y)], [[.u16 x.2.1.1, .s x.2.1.2.1]]⟩)
theorem slices_BinarySearchFunc_alias_Table_alias_Row_alias_Row_q0 : slices_BinarySearchFunc_alias_Table_alias_Row_alias_Row_o0.Ok Tryd.prog Wp tab 0 (.loop slices_BinarySearchFunc_alias_Table_alias_Row_alias_Row_p0) := cutL_ok (c := slices_BinarySearchFunc_alias_Table_alias_Row_alias_Row_p0) (Z := Int × Int) (Y := Int) tabOk slices_BinarySearchFunc_alias_Table_alias_Row_alias_Row_rk (cS (cS trivial (cC (cD trivial) (cD trivial))) (cB (cS trivial (cS trivial (cC (cD trivial) (cD trivial)))))) (fun _ x z b e => slices_BinarySearchFunc_alias_Table_alias_Row_alias_Row_b0 x.1.1 (⟨x.2.1.1, x.2.1.2.1⟩ : alias_Row) z.1 z.2 (fun x5 x6 => b (x5, x6)) (fun y10 => e y10)) (fun x z => ⟨[(0, .sl 1 x.1.1), (2, .clo 15 [] []), (4, .ref 0 0), (8, .n .i64 x.1.2.2.2.1), (9, .n .i64 z.1), (10, .n .i64 z.2)], [[.u16 x.2.1.1, .s x.2.1.2.1]]⟩) (fun x y => ((.exit 0), ⟨[(0, .sl 1 x.1.1), (2, .clo 15 [] []), (4, .ref 0 0), (8, .n .i64 x.1.2.2.2.1), (9, .n .i64 y)], [[.u16 x.2.1.1, .s x.2.1.2.1]]⟩)) (fun t => (prjS tab 0 slices_BinarySearchFunc_alias_Table_alias_Row_alias_Row_s0 t).bind fun x => some (x.1.2.2.2.2.1, x.1.2.2.2.2.2.1)) (fun e t => (if eqE e (.exit 0) then (prjS tab 0 ⟨[(0, .g (.f (.a (.sl 1)))), (2, .g (.clo 15 [] [])), (4, .g (.f (.ref 0 0))), (8, .g (.f (.a (.n .i64)))), (9, .g (.f (.a (.n .i64))))], [[.g (.f (.a .u16)), .g (.f (.a .s))]]⟩ t).bind fun v => some v.1.2.2.2.2.1 else none)) (fun x => by kernel_rfl) (fun x z => by kernel_rfl) (fun x y k => by kernel_rfl) (fun x y => by exact nofun) (fun x z => by kernel_rfl) (fun x y => by kernel_rfl) (fun x z k => by kernel_rfl)
def slices_BinarySearchFunc_alias_Table_alias_Row_alias_Row_p : TCode Tb :=
(.seq (.reg [⟨.box, [.m 1], some 4, none⟩, ⟨.mv, [.k (.n .i64 0)], some 6, none⟩, ⟨.mv, [.k (.b false)], some 7, none⟩] none)
(.seq (.reg [⟨.mv, [.v 0], some 12, none⟩, ⟨.len, [.m 12], some 13, none⟩, ⟨.mv, [.m 13], some 8, none⟩] none)
(.seq (.reg [⟨.mv, [.v 8], some 14, none⟩, ⟨.mv, [.k (.n .i64 0)], some 9, none⟩, ⟨.mv, [.m 14], some 10, none⟩] none)
(.seq (.block 0 (.drop [6, 7] (.cut 0 slices_BinarySearchFunc_alias_Table_alias_Row_alias_Row_o0 (.loop slices_BinarySearchFunc_alias_Table_alias_Row_alias_Row_p0))))
(.seq (.reg [⟨.mv, [.v 9], some 35, none⟩, ⟨.mv, [.v 9], some 36, none⟩, ⟨.mv, [.m 8], some 37, none⟩, ⟨(.bin .lss .i), [.m 36, .m 37], some 38, none⟩, ⟨.mv, [.m 38], some 39, none⟩, ⟨.mv, [.m 2], some 40, some (39, true)⟩, ⟨.mv, [.m 0], some 41, some (39, true)⟩, ⟨.mv, [.v 9], some 42, some (39, true)⟩, ⟨(.ia 2), [.v 41, .m 42], some 43, some (39, true)⟩, ⟨(.load (some 2)), [.m 43], some 44, some (39, true)⟩, ⟨(.load (some 2)), [.m 4], some 45, some (39, true)⟩, ⟨(.call none 0), [.m 40, .m 44, .m 45], some 46, some (39, true)⟩, ⟨(.bin .eql .i), [.m 46, .k (.n .i64 0)], some 47, some (39, true)⟩, ⟨.pick, [.m 39, .m 47, .k (.b false)], some 48, none⟩, ⟨.mv, [.m 35], some 6, none⟩, ⟨.mv, [.m 48], some 7, none⟩] (some [[], [], [], [], [], [], [], [], [], [], [9], [], [], [], [], []]))
(.drop [0, 2, 4, 9, 40, 41, 42, 43, 44, 45, 46] .ret))))))
def slices_BinarySearchFunc_alias_Table_alias_Row_alias_Row_w : Orc Tb := mkOrc (Y := Int × Bool) tab [.g (.f (.a (.sl 1))), .g (.st 1), .g (.clo 15 [] [])] [] (fun x h => slices_BinarySearchFunc_alias_Table_alias_Row_alias_Row x.1 (⟨x.2.1.Alias, x.2.1.Topic⟩ : alias_Row)) (fun _ y k => k (.tup [.n .i64 y.1, .b y.2]) [])
theorem slices_BinarySearchFunc_alias_Table_alias_Row_alias_Row_k : slices_BinarySearchFunc_alias_Table_alias_Row_alias_Row_w.Ok Tryd.prog Wp tab 26 := orc_ok (Y := Int × Bool) (orcs := slices_BinarySearchFunc_alias_Table_alias_Row_alias_Row_r) (c := slices_BinarySearchFunc_alias_Table_alias_Row_alias_Row_p) (res := [.tmp 6, .tmp 7]) (n := 49) (R := (RSp.one (Y := Int × Bool) tab (.tup [.f (.a (.n .i64)), .f (.a .b)]) [] (fun a b => (a.1, a.2.1)) (fun y => (y.1, y.2, ())) (fun y => ()))) tabOk slices_BinarySearchFunc_alias_Table_alias_Row_alias_Row_rk (RSp.one_ok tabOk (fun _ _ => by kernel_rfl) (fun _ _ => by kernel_rfl)) Tryd.func26 (by kernel_rfl) (by kernel_rfl) (by kernel_rfl) (by kernel_rfl) (cS trivial (cS trivial (cS trivial (cS (cB (cD (cT slices_BinarySearchFunc_alias_Table_alias_Row_alias_Row_q0))) (cS trivial (cD trivial)))))) (fun _ y k => by kernel_rfl) (fun y => by kernel_rfl) (fun x h => by kernel_rfl)
def alias_find_r : Orcs Tb := [(26, slices_BinarySearchFunc_alias_Table_alias_Row_alias_Row_w)]
theorem alias_find_rk : OrcsOk Tryd.prog Wp tab alias_find_r := (orcs_cons slices_BinarySearchFunc_alias_Table_alias_Row_alias_Row_k orcs_nil)
def alias_find_p : TCode Tb :=
(.seq (.reg [⟨.mv, [.k (.n .i64 0)], some 4, none⟩, ⟨.mv, [.k (.b false)], some 5, none⟩] none)
(.seq (.reg [⟨.mv, [.m 0], some 6, none⟩, ⟨.mv, [.m 1], some 7, none⟩, ⟨(.build [.u16 (0 : UInt16), .s []] [(0, 1)]), [.m 7], some 8, none⟩, ⟨(.call (some 26) 0), [.m 6, .m 8, .k (.clo 15 [] [])], some 9, none⟩, ⟨.extm, [.c 9 0], some 10, none⟩, ⟨(.ext 1), [.m 9], some 11, none⟩, ⟨.mv, [.m 10], some 4, none⟩, ⟨.mv, [.m 11], some 5, none⟩] none)
.ret))
def alias_find_w : Orc Tb := mkOrc (Y := Int × Bool) tab [.g (.f (.a (.sl 1))), .g (.f (.a .u16))] [] (fun x h => alias_find x.1 x.2.1) (fun _ y k => k (.tup [.n .i64 y.1, .b y.2]) [])
theorem alias_find_k : alias_find_w.Ok Tryd.prog Wp tab 18 := orc_ok (Y := Int × Bool) (orcs := alias_find_r) (c := alias_find_p) (res := [.tmp 4, .tmp 5]) (n := 12) (R := (RSp.one (Y := Int × Bool) tab (.tup [.f (.a (.n .i64)), .f (.a .b)]) [] (fun a b => (a.1, a.2.1)) (fun y => (y.1, y.2, ())) (fun y => ()))) tabOk alias_find_rk (RSp.one_ok tabOk (fun _ _ => by kernel_rfl) (fun _ _ => by kernel_rfl)) Tryd.func18 (by kernel_rfl) (by kernel_rfl) (by kernel_rfl) (by kernel_rfl) (cS trivial (cS trivial trivial)) (fun _ y k => by kernel_rfl) (fun y => by kernel_rfl) (fun x h => by kernel_rfl)
def slices_Clone_alias_Table_alias_Row_o_r : Orcs Tb := []
theorem slices_Clone_alias_Table_alias_Row_o_rk : OrcsOk Tryd.prog Wp tab slices_Clone_alias_Table_alias_Row_o_r := orcs_nil
def slices_Clone_alias_Table_alias_Row_o_p : TCode Tb :=
(.seq (.reg [⟨.mv, [.k (.nilS)], some 2, none⟩] none)
(.seq (.seq (.reg [⟨.mv, [.v 0], some 3, none⟩, ⟨(.bin .eql .sl), [.v 3, .k (.nilS)], some 4, none⟩] none)
(.cond 4 (.drop [0, 2, 3, 4] (.seq (.reg [⟨.mv, [.k (.nilS)], some 2, none⟩] none)
.ret))
(.drop [2, 3, 4] .skip)))
(.seq (.reg [⟨(.bslice 1 0 ((⟨(0 : UInt16), []⟩ : alias_Row) : alias_Row) []), [], some 5, none⟩, ⟨.mv, [.m 0], some 6, none⟩, ⟨(.app 2 24), [.m 5, .m 6], some 7, none⟩, ⟨.mv, [.m 7], some 2, none⟩] none)
.ret)))
def slices_Clone_alias_Table_alias_Row_o_w : Orc Tb := mkOrc (Y := (Option (List alias_Row))) tab [.g (.f (.a (.sl 1)))] [] (fun x h => slices_Clone_alias_Table_alias_Row_o x.1) (fun _ y k => k (.ow 1 y) [])
theorem slices_Clone_alias_Table_alias_Row_o_k : slices_Clone_alias_Table_alias_Row_o_w.Ok Tryd.prog Wp tab 19 := orc_ok (Y := (Option (List alias_Row))) (orcs := slices_Clone_alias_Table_alias_Row_o_r) (c := slices_Clone_alias_Table_alias_Row_o_p) (res := [.tmp 2]) (n := 8) (R := (RSp.one (Y := (Option (List alias_Row))) tab (.g (.f (.ow 1))) [] (fun a b => a) (fun y => y) (fun y => ()))) tabOk slices_Clone_alias_Table_alias_Row_o_rk (RSp.one_ok tabOk (fun _ _ => by kernel_rfl) (fun _ _ => by kernel_rfl)) Tryd.func19 (by kernel_rfl) (by kernel_rfl) (by kernel_rfl) (by kernel_rfl) (cS trivial (cS (cS trivial (cC (cD (cS trivial trivial)) (cD trivial))) (cS trivial trivial))) (fun _ y k => by kernel_rfl) (fun y => by kernel_rfl) (fun x h => by kernel_rfl)
def slices_Clone_alias_Table_alias_Row_v_r : Orcs Tb := []
theorem slices_Clone_alias_Table_alias_Row_v_rk : OrcsOk Tryd.prog Wp tab slices_Clone_alias_Table_alias_Row_v_r := orcs_nil
def slices_Clone_alias_Table_alias_Row_v_p : TCode Tb :=
(.seq (.reg [⟨.mv, [.k (.nilS)], some 2, none⟩] none)
(.seq (.seq (.reg [⟨.mv, [.v 0], some 3, none⟩, ⟨(.bin .eql .sl), [.v 3, .k (.nilS)], some 4, none⟩] none)
(.cond 4 (.drop [0, 2, 3, 4] (.seq (.reg [⟨.mv, [.k (.nilS)], some 2, none⟩] none)
.ret))
(.drop [2, 3, 4] .skip)))
(.seq (.reg [⟨(.bslice 1 0 ((⟨(0 : UInt16), []⟩ : alias_Row) : alias_Row) []), [], some 5, none⟩, ⟨.mv, [.m 0], some 6, none⟩, ⟨(.appv 1 24), [.m 5, .m 6], some 7, none⟩, ⟨.mv, [.m 7], some 2, none⟩] none)
.ret)))
def slices_Clone_alias_Table_alias_Row_v_w : Orc Tb := mkOrc (Y := ((Option (List alias_Row))) ⊕ (Nat × (List alias_Row))) tab [.g (.f (.a (.sl 1)))] [] (fun x h => slices_Clone_alias_Table_alias_Row_v x.1) (fun _ y k => match y with | .inl y => k (.ow 1 y) [] | .inr y => k (.vw 1 0 y.1) [[.blk 1 y.2]])
theorem slices_Clone_alias_Table_alias_Row_v_k : slices_Clone_alias_Table_alias_Row_v_w.Ok Tryd.prog Wp tab 19 := orc_ok (Y := ((Option (List alias_Row))) ⊕ (Nat × (List alias_Row))) (orcs := slices_Clone_alias_Table_alias_Row_v_r) (c := slices_Clone_alias_Table_alias_Row_v_p) (res := [.tmp 2]) (n := 8) (R := (RSp.or (RSp.one (Y := (Option (List alias_Row))) tab (.g (.f (.ow 1))) [] (fun a b => a) (fun y => y) (fun y => ())) (RSp.one (Y := Nat × (List alias_Row)) tab (.g (.f (.vw 1 0))) [[.g (.f (.blk 1))]] (fun a b => (a, b.1.1)) (fun y => y.1) (fun y => ((y.2, ()), ()))))) tabOk slices_Clone_alias_Table_alias_Row_v_rk (RSp.or_ok (RSp.one_ok tabOk (fun _ _ => by kernel_rfl) (fun _ _ => by kernel_rfl)) (RSp.one_ok tabOk (fun _ _ => by kernel_rfl) (fun _ _ => by kernel_rfl))) Tryd.func19 (by kernel_rfl) (by kernel_rfl) (by kernel_rfl) (by kernel_rfl) (cS trivial (cS (cS trivial (cC (cD (cS trivial trivial)) (cD trivial))) (cS trivial trivial))) (fun _ y k => by rcases y with y | y <;> kernel_rfl) (fun y => by rcases y with y | y <;> kernel_rfl) (fun x h => by kernel_rfl)
def slices_Clone_alias_Table_alias_Row_w : Orc Tb := cloneW tab 1 24
theorem slices_Clone_alias_Table_alias_Row_k : slices_Clone_alias_Table_alias_Row_w.Ok Tryd.prog Wp tab 19 := clone_ok (o1 := slices_Clone_alias_Table_alias_Row_o_w) (o2 := slices_Clone_alias_Table_alias_Row_v_w) tabOk slices_Clone_alias_Table_alias_Row_o_k slices_Clone_alias_Table_alias_Row_v_k (.ow 1 none) rfl (by kernel_rfl) (by kernel_rfl) (fun x xs hc => ⟨_, _, rfl, rfl, by
  have e : slices_Clone_alias_Table_alias_Row_v (some (x :: xs)) = some (.inr (xs.length + 1, x :: xs)) := by
    show ((chk (decide ((xs.length + 1) * 24 ≤ room ∧ xs.length + 1 ≤ room))).bind fun _ => (some (.inr (xs.length + 1, x :: xs)) : Option ((Option (List alias_Row)) ⊕ (Nat × (List alias_Row))))) = _
    rw [show chk (decide ((xs.length + 1) * 24 ≤ room ∧ xs.length + 1 ≤ room)) = some () by rw [decide_eq_true hc]; rfl]
    rfl
  show (slices_Clone_alias_Table_alias_Row_v (some (x :: xs))).bind (fun y => match y with | .inl y => (some (TV.ow 1 y, []) : Option (TV Tb × THeap Tb)) | .inr y => some (TV.vw 1 0 y.1, [[TV.blk 1 y.2]])) = _
  rw [e]
  rfl⟩)
def slices_Insert_alias_Table_alias_Row_w : Orc Tb := insW tab 1
theorem slices_Insert_alias_Table_alias_Row_k : slices_Insert_alias_Table_alias_Row_w.Ok Tryd.prog Wp tab 20 := insW_ok tabOk 1 rfl
def alias_Use_r : Orcs Tb := [(16, topic_Name_w), (18, alias_find_w), (19, slices_Clone_alias_Table_alias_Row_w), (20, slices_Insert_alias_Table_alias_Row_w)]
theorem alias_Use_rk : OrcsOk Tryd.prog Wp tab alias_Use_r := (orcs_cons topic_Name_k (orcs_cons alias_find_k (orcs_cons slices_Clone_alias_Table_alias_Row_k (orcs_cons slices_Insert_alias_Table_alias_Row_k orcs_nil))))
def alias_Use_p0 : TCode Tb :=
(.seq (.reg [⟨.mv, [.v 0], some 32, none⟩, ⟨.mv, [.v 2], some 33, none⟩, ⟨(.call (some 18) 1), [.m 32, .m 33], some 34, none⟩, ⟨.mv, [.m 34], some 31, none⟩, ⟨.extm, [.c 31 0], some 35, none⟩, ⟨(.ext 1), [.m 31], some 36, none⟩, ⟨.mv, [.m 35], some 11, none⟩, ⟨.mv, [.m 36], some 12, none⟩] none)
(.seq (.reg [⟨.mv, [.v 0], some 37, none⟩, ⟨(.call (some 19) 2), [.m 37], some 38, none⟩, ⟨.mv, [.m 38], some 13, none⟩] none)
(.seq (.block 0 (.seq (.reg [⟨.mv, [.v 3], some 47, none⟩, ⟨(.bin .eql .s), [.m 47, .k (.s [])], some 48, none⟩, ⟨.mv, [.m 48], some 49, none⟩, ⟨.mv, [.v 12], some 50, some (49, true)⟩, ⟨(.un .not), [.m 50], some 51, some (49, true)⟩, ⟨.pick, [.m 49, .m 51, .k (.b false)], some 52, none⟩, ⟨.mv, [.m 52], some 46, none⟩] none)
(.drop [50] (.cond 46 (.drop [2, 3, 11, 12, 13, 46] (.seq (.reg [⟨.mv, [.m 0], some 53, none⟩, ⟨.mv, [.m 53], some 8, none⟩, ⟨.mv, [.k (.s [])], some 9, none⟩, ⟨.mv, [.k (.n .i64 8)], some 10, none⟩] none)
.ret))
(.drop [0, 46] (.seq (.reg [⟨.mv, [.v 3], some 55, none⟩, ⟨(.bin .eql .s), [.m 55, .k (.s [])], some 56, none⟩, ⟨.mv, [.m 56], some 54, none⟩] none)
(.cond 54 (.drop [2, 3, 12, 54] (.seq (.reg [⟨.mv, [.v 13], some 57, none⟩, ⟨.mv, [.v 13], some 58, none⟩, ⟨.mv, [.m 11], some 59, none⟩, ⟨(.ia 2), [.v 58, .m 59], some 60, none⟩, ⟨(.fa 1), [.m 60], some 61, none⟩, ⟨(.load none), [.m 61], some 62, none⟩, ⟨.mv, [.m 57], some 8, none⟩, ⟨.mv, [.m 62], some 9, none⟩, ⟨.mv, [.k (.n .i64 0)], some 10, none⟩] (some [[], [], [], [], [], [], [], [], []]))
.ret))
(.drop [54] (.seq (.reg [⟨.mv, [.m 12], some 64, none⟩, ⟨.mv, [.m 64], some 63, none⟩] none)
(.cond 63 (.drop [2, 63] (.reg [⟨.mv, [.v 13], some 65, none⟩, ⟨.mv, [.m 11], some 66, none⟩, ⟨.mv, [.v 3], some 67, none⟩, ⟨(.ia 2), [.v 65, .m 66], some 68, none⟩, ⟨(.fa 1), [.m 68], some 69, none⟩, ⟨(.store 1), [.m 69, .m 67], none, none⟩] none))
(.drop [63] (.reg [⟨.mv, [.m 13], some 39, none⟩, ⟨.mv, [.m 11], some 40, none⟩, ⟨.mv, [.m 2], some 41, none⟩, ⟨.mv, [.v 3], some 42, none⟩, ⟨(.build [.u16 (0 : UInt16), .s []] [(0, 1), (1, 1)]), [.m 41, .m 42], some 43, none⟩, ⟨(.bslice 1 1 ((⟨(0 : UInt16), []⟩ : alias_Row) : alias_Row) [0]), [.m 43], some 44, none⟩, ⟨(.call (some 20) 3), [.m 39, .m 40, .m 44], some 45, none⟩, ⟨.mv, [.m 45], some 13, none⟩] none))))))))))))
(.drop [65] (.seq (.reg [⟨.mv, [.m 13], some 70, none⟩, ⟨.mv, [.m 3], some 71, none⟩, ⟨.mv, [.m 70], some 8, none⟩, ⟨.mv, [.m 71], some 9, none⟩, ⟨.mv, [.k (.n .i64 0)], some 10, none⟩] none)
.ret)))))
def alias_Use_s0 : SSh := ⟨[(0, .g (.f (.a (.sl 1)))), (2, .g (.f (.a .u16))), (3, .g (.f (.a .s)))], []⟩
def alias_Use_o0 : Cut Tb := cutJ tab 0 alias_Use_s0 (fun _ x k => alias_Use_c0 x.1.1 x.1.2.1 x.1.2.2.1 (k .ret ⟨[(8, .sl 1 x.1.1), (9, .s []), (10, .n .i64 8)], []⟩) (fun y28 => k .ret ⟨[(8, .ow 1 y28), (9, .s x.1.2.2.1), (10, .n .i64 0)], []⟩) (fun y29 y30 y31 y32 => k .ret ⟨[(8, .sl 1 y29), (9, .s y30), (10, .n .i64 0), (13, .ow 1 y31), (58, .sl 1 y32)], []⟩) (fun y33 => k .ret ⟨[(8, .sl 1 x.1.1), (9, .s []), (10, .n .i64 8)], [[.blk 1 y33]]⟩) (fun y34 y35 y36 y37 y38 => k .ret ⟨[(8, .vw 1 0 y34), (9, .s y35), (10, .n .i64 0), (13, .vw 1 0 y36), (58, .vw 1 0 y37)], [[.blk 1 y38]]⟩) (fun y39 y40 => k .ret ⟨[(8, .vw 1 0 y39), (9, .s x.1.2.2.1), (10, .n .i64 0)], [[.blk 1 y40]]⟩) (fun y41 => k .ret ⟨[(8, .sl 1 y41), (9, .s x.1.2.2.1), (10, .n .i64 0)], [[]]⟩))
theorem alias_Use_q0 : alias_Use_o0.Ok Tryd.prog Wp tab 0 alias_Use_p0 := cutJ_ok (c := alias_Use_p0) tabOk alias_Use_rk (cS trivial (cS trivial (cS (cB (cS trivial (cD (cC (cD (cS trivial trivial)) (cD (cS trivial (cC (cD (cS trivial trivial)) (cD (cS trivial (cC (cD trivial) (cD trivial))))))))))) (cD (cS trivial trivial))))) (fun _ _ => by kernel_rfl)
def alias_Use_p : TCode Tb :=
(.fend 0 (.seq (.reg [⟨.mv, [.k (.nilS)], some 8, none⟩, ⟨.mv, [.k (.s [])], some 9, none⟩, ⟨.mv, [.k (.n .i64 0)], some 10, none⟩] none)
(.seq (.seq (.reg [⟨.mv, [.v 2], some 14, none⟩, ⟨(.bin .eql .i), [.m 14, .k (.u16 (0 : UInt16))], some 15, none⟩, ⟨.mv, [.m 15], some 16, none⟩, ⟨.mv, [.v 2], some 17, some (16, false)⟩, ⟨.mv, [.m 1], some 18, some (16, false)⟩, ⟨(.bin .gtr .i), [.m 17, .m 18], some 19, some (16, false)⟩, ⟨.pick, [.m 16, .k (.b true), .m 19], some 20, none⟩, ⟨.mv, [.m 20], some 21, none⟩, ⟨.mv, [.v 3], some 22, some (21, false)⟩, ⟨(.bin .neq .s), [.m 22, .k (.s [])], some 23, some (21, false)⟩, ⟨.mv, [.m 23], some 24, some (21, false)⟩, ⟨.mv, [.v 3], some 25, some (24, true)⟩, ⟨(.call (some 16) 0), [.m 25], some 26, some (24, true)⟩, ⟨(.un .not), [.m 26], some 27, some (24, true)⟩, ⟨.pick, [.m 24, .m 27, .k (.b false)], some 28, some (21, false)⟩, ⟨.pick, [.m 21, .k (.b true), .m 28], some 29, none⟩] none)
(.drop [1, 8, 9, 10, 17, 18, 22, 23, 24, 25, 26, 27] (.cond 29 (.drop [2, 3, 29] (.seq (.reg [⟨.mv, [.m 0], some 30, none⟩, ⟨.mv, [.m 30], some 8, none⟩, ⟨.mv, [.k (.s [])], some 9, none⟩, ⟨.mv, [.k (.n .i64 1)], some 10, none⟩] none)
.ret))
(.drop [29] .skip))))
(.cut 0 alias_Use_o0 alias_Use_p0))))
def alias_Use_w : Orc Tb := mkOrc (Y := (Option (List alias_Row)) × (List UInt8) × Int) tab [.g (.f (.a (.sl 1))), .g (.f (.a .u16)), .g (.f (.a .u16)), .g (.f (.a .s))] [] (fun x h => alias_Use x.1 x.2.1 x.2.2.1 x.2.2.2.1) (fun _ y k => k (.tup [.sl 1 y.1, .s y.2.1, .n .i64 y.2.2]) [])
theorem alias_Use_k : alias_Use_w.Ok Tryd.prog Wp tab 10 := orc_ok (Y := (Option (List alias_Row)) × (List UInt8) × Int) (orcs := alias_Use_r) (c := alias_Use_p) (res := [.tmp 8, .tmp 9, .tmp 10]) (n := 72) (R := (RSp.one (Y := (Option (List alias_Row)) × (List UInt8) × Int) tab (.tup [.f (.a (.sl 1)), .f (.a .s), .f (.a (.n .i64))]) [] (fun a b => (a.1, a.2.1, a.2.2.1)) (fun y => (y.1, y.2.1, y.2.2, ())) (fun y => ()))) tabOk alias_Use_rk (RSp.one_ok tabOk (fun _ _ => by kernel_rfl) (fun _ _ => by kernel_rfl)) Tryd.func10 (by kernel_rfl) (by kernel_rfl) (by kernel_rfl) (by kernel_rfl) (cY (cS trivial (cS (cS trivial (cD (cC (cD (cS trivial trivial)) (cD trivial)))) (cT alias_Use_q0)))) (fun _ y k => by kernel_rfl) (fun y => by kernel_rfl) (fun x h => by kernel_rfl)
def alias_Right_r : Orcs Tb := [(15, alias_order_w), (16, topic_Name_w)]
theorem alias_Right_rk : OrcsOk Tryd.prog Wp tab alias_Right_r := (orcs_cons alias_order_k (orcs_cons topic_Name_k orcs_nil))
def alias_Right_s1 : SSh := ⟨[(0, .g (.f (.a (.sl 1)))), (5, .g (.f (.a (.sl 1)))), (6, .g (.f (.a (.n .i64)))), (7, .g (.f (.a (.n .i64))))], []⟩
def alias_Right_o1 : Cut Tb := cutJ tab 0 alias_Right_s1 (fun _ x k => k .normal ⟨[(0, .sl 1 x.1.1), (5, .sl 1 x.1.2.1), (6, .n .i64 x.1.2.2.1), (7, .n .i64 x.1.2.2.2.1)], []⟩)
theorem alias_Right_q1 : alias_Right_o1.Ok Tryd.prog Wp tab 0 .skip := cutJ_ok (c := .skip) tabOk alias_Right_rk trivial (fun _ _ => by kernel_rfl)
def alias_Right_p0 : TCode Tb :=
(.fin 0 alias_Right_o1 (.seq (.reg [⟨(.bin .lss .i), [.v 7, .v 6], some 8, none⟩] none)
(.seq (.cond 8 (.drop [8] .skip)
(.drop [0, 5, 6, 7, 8] (.exit 0)))
(.seq (.block 1 (.seq (.reg [⟨.mv, [.v 7], some 9, none⟩, ⟨(.ia 2), [.v 5, .v 7], some 10, none⟩, ⟨(.load (some 2)), [.m 10], some 11, none⟩, ⟨(.alloc [.u16 (0 : UInt16), .s []]), [], some 4, none⟩, ⟨.mv, [.m 9], some 3, none⟩, ⟨(.store 2), [.v 4, .m 11], none, none⟩] none)
(.seq (.reg [⟨(.fa 0), [.v 4], some 12, none⟩, ⟨(.load none), [.m 12], some 13, none⟩, ⟨(.bin .eql .i), [.m 13, .k (.u16 (0 : UInt16))], some 14, none⟩, ⟨.mv, [.m 14], some 15, none⟩, ⟨.mv, [.v 3], some 16, some (15, false)⟩, ⟨(.bin .gtr .i), [.m 16, .k (.n .i64 0)], some 17, some (15, false)⟩, ⟨.mv, [.m 17], some 18, some (15, false)⟩, ⟨.mv, [.v 0], some 19, some (18, true)⟩, ⟨.mv, [.m 3], some 20, some (18, true)⟩, ⟨(.bin .sub .i), [.m 20, .k (.n .i64 1)], some 21, some (18, true)⟩, ⟨(.ia 2), [.v 19, .m 21], some 22, some (18, true)⟩, ⟨(.load (some 2)), [.m 22], some 23, some (18, true)⟩, ⟨(.load (some 2)), [.v 4], some 24, some (18, true)⟩, ⟨(.call (some 15) 0), [.m 23, .m 24], some 25, some (18, true)⟩, ⟨(.bin .geq .i), [.m 25, .k (.n .i64 0)], some 26, some (18, true)⟩, ⟨.pick, [.m 18, .m 26, .k (.b false)], some 27, some (15, false)⟩, ⟨.pick, [.m 15, .k (.b true), .m 27], some 28, none⟩, ⟨.mv, [.m 28], some 29, none⟩, ⟨(.fa 1), [.m 4], some 30, some (29, false)⟩, ⟨(.load none), [.m 30], some 31, some (29, false)⟩, ⟨(.call (some 16) 1), [.m 31], some 32, some (29, false)⟩, ⟨(.un .not), [.m 32], some 33, some (29, false)⟩, ⟨.pick, [.m 29, .k (.b true), .m 33], some 34, none⟩] (some [[], [], [], [], [], [], [], [], [], [], [], [], [11], [], [], [], [], [], [], [], [], [], []]))
(.drop [3, 4, 16, 17, 18, 19, 20, 21, 22, 23, 24, 25, 26, 30, 31, 32] (.cond 34 (.drop [0, 5, 6, 7, 34] (.seq (.reg [⟨.mv, [.k (.b false)], some 2, none⟩] none)
.ret))
(.drop [34] .skip))))))
(.reg [⟨(.bin .add .i), [.m 7, .k (.n .i64 1)], some 35, none⟩, ⟨.mv, [.m 35], some 7, none⟩] none)))))
def alias_Right_s0 : SSh := ⟨[(0, .g (.f (.a (.sl 1)))), (5, .g (.f (.a (.sl 1)))), (6, .g (.f (.a (.n .i64)))), (7, .g (.f (.a (.n .i64))))], []⟩
def alias_Right_o0 : Cut Tb := cutL tab 0 alias_Right_s0 (fun x => x.1.2.2.2.1) (fun x => alias_Right_l0 x.1.1 x.1.2.1 x.1.2.2.1) (fun _ x y k => match y with | .inl y => k .ret ⟨[(2, .b false)], [[.u16 y.Alias, .s y.Topic]]⟩ | .inr y => k (.exit 0) ⟨[], []⟩)
theorem alias_Right_q0 : alias_Right_o0.Ok Tryd.prog Wp tab 0 (.loop alias_Right_p0) := cutL_ok (c := alias_Right_p0) (Z := Int) (Y := alias_Row ⊕ Unit) tabOk alias_Right_rk (cF alias_Right_q1 (cS trivial (cS (cC (cD trivial) (cD trivial)) (cS (cB (cS trivial (cS trivial (cD (cC (cD (cS trivial trivial)) (cD trivial)))))) trivial)))) (fun _ x z b e => alias_Right_b0 x.1.1 x.1.2.1 x.1.2.2.1 z (fun x5 => b x5) (fun y15 => e (.inl y15)) (e (.inr ()))) (fun x z => ⟨[(0, .sl 1 x.1.1), (5, .sl 1 x.1.2.1), (6, .n .i64 x.1.2.2.1), (7, .n .i64 z)], []⟩) (fun x y => match y with | .inl y => (.ret, ⟨[(2, .b false)], [[.u16 y.Alias, .s y.Topic]]⟩) | .inr y => ((.exit 0), ⟨[], []⟩)) (fun t => (prjS tab 0 alias_Right_s0 t).bind fun x => some x.1.2.2.2.1) (fun e t => (if eqE e .ret then orElse ((prjS tab 0 ⟨[(2, .g (.f (.cb false)))], [[.g (.f (.a .u16)), .g (.f (.a .s))]]⟩ t).bind fun v => some (.inl (⟨v.2.1.1, v.2.1.2.1⟩ : alias_Row))) (if eqE e (.exit 0) then (prjS tab 0 ⟨[], []⟩ t).bind fun v => some (.inr ()) else none) else (if eqE e (.exit 0) then (prjS tab 0 ⟨[], []⟩ t).bind fun v => some (.inr ()) else none))) (fun x => by kernel_rfl) (fun x z => by kernel_rfl) (fun x y k => by rcases y with y | y <;> kernel_rfl) (fun x y => by rcases y with y | y <;> exact nofun) (fun x z => by kernel_rfl) (fun x y => by rcases y with y | y <;> kernel_rfl) (fun x z k => by kernel_rfl)
def alias_Right_p : TCode Tb :=
(.seq (.reg [⟨.mv, [.k (.b false)], some 2, none⟩] none)
(.seq (.seq (.reg [⟨.mv, [.v 0], some 5, none⟩, ⟨.len, [.v 5], some 6, none⟩, ⟨.mv, [.k (.n .i64 0)], some 7, none⟩] none)
(.block 0 (.drop [2] (.cut 0 alias_Right_o0 (.loop alias_Right_p0)))))
(.seq (.reg [⟨.mv, [.k (.b true)], some 2, none⟩] none)
.ret)))
def alias_Right_w : Orc Tb := mkOrc (Y := Bool) tab [.g (.f (.a (.sl 1)))] [] (fun x h => alias_Right x.1) (fun _ y k => k (.b y) [])
theorem alias_Right_k : alias_Right_w.Ok Tryd.prog Wp tab 6 := orc_ok (Y := Bool) (orcs := alias_Right_r) (c := alias_Right_p) (res := [.tmp 2]) (n := 36) (R := (RSp.one (Y := Bool) tab (.g (.f (.a .b))) [] (fun a b => a) (fun y => y) (fun y => ()))) tabOk alias_Right_rk (RSp.one_ok tabOk (fun _ _ => by kernel_rfl) (fun _ _ => by kernel_rfl)) Tryd.func6 (by kernel_rfl) (by kernel_rfl) (by kernel_rfl) (by kernel_rfl) (cS trivial (cS (cS trivial (cB (cD (cT alias_Right_q0)))) (cS trivial trivial))) (fun _ y k => by kernel_rfl) (fun y => by kernel_rfl) (fun x h => by kernel_rfl)
def l12_told_r : Orcs Tb := [(10, alias_Use_w), (6, alias_Right_w)]
theorem l12_told_rk : OrcsOk Tryd.prog Wp tab l12_told_r := (orcs_cons alias_Use_k (orcs_cons alias_Right_k orcs_nil))
def l12_told_p : TCode Tb :=
(.seq (.reg [⟨.mv, [.k (.b false)], some 0, none⟩] none)
(.seq (.reg [⟨(.call (some 10) 0), [.k (.nilS), .k (.u16 (5 : UInt16)), .k (.u16 (3 : UInt16)), .k (.s [97])], some 11, none⟩, ⟨.mv, [.m 11], some 10, none⟩, ⟨.extm, [.c 10 0], some 12, none⟩, ⟨.extm, [.c 10 1], some 13, none⟩, ⟨(.ext 2), [.m 10], some 14, none⟩, ⟨.mv, [.m 12], some 1, none⟩, ⟨.mv, [.m 13], some 2, none⟩, ⟨.mv, [.m 14], some 3, none⟩] none)
(.seq (.reg [⟨.mv, [.v 1], some 16, none⟩, ⟨(.call (some 10) 0), [.m 16, .k (.u16 (5 : UInt16)), .k (.u16 (3 : UInt16)), .k (.s [])], some 17, none⟩, ⟨.mv, [.m 17], some 15, none⟩, ⟨.extm, [.c 15 0], some 18, none⟩, ⟨.extm, [.c 15 1], some 19, none⟩, ⟨(.ext 2), [.m 15], some 20, none⟩, ⟨.mv, [.m 18], some 4, none⟩, ⟨.mv, [.m 19], some 5, none⟩, ⟨.mv, [.m 20], some 6, none⟩] none)
(.seq (.reg [⟨.mv, [.v 1], some 22, none⟩, ⟨(.call (some 10) 0), [.m 22, .k (.u16 (5 : UInt16)), .k (.u16 (4 : UInt16)), .k (.s [])], some 23, none⟩, ⟨.mv, [.m 23], some 21, none⟩, ⟨.extm, [.c 21 0], some 24, none⟩, ⟨.extm, [.c 21 1], some 25, none⟩, ⟨(.ext 2), [.m 21], some 26, none⟩, ⟨.mv, [.m 24], some 7, none⟩, ⟨.mv, [.m 25], some 8, none⟩, ⟨.mv, [.m 26], some 9, none⟩] none)
(.seq (.reg [⟨.mv, [.m 2], some 27, none⟩, ⟨(.bin .eql .s), [.m 27, .k (.s [97])], some 28, none⟩, ⟨.mv, [.m 28], some 29, none⟩, ⟨.mv, [.m 3], some 30, some (29, true)⟩, ⟨(.bin .eql .i), [.m 30, .k (.n .i64 0)], some 31, some (29, true)⟩, ⟨.pick, [.m 29, .m 31, .k (.b false)], some 32, none⟩, ⟨.mv, [.m 32], some 33, none⟩, ⟨.mv, [.m 5], some 34, some (33, true)⟩, ⟨(.bin .eql .s), [.m 34, .k (.s [97])], some 35, some (33, true)⟩, ⟨.pick, [.m 33, .m 35, .k (.b false)], some 36, none⟩, ⟨.mv, [.m 36], some 37, none⟩, ⟨.mv, [.m 6], some 38, some (37, true)⟩, ⟨(.bin .eql .i), [.m 38, .k (.n .i64 0)], some 39, some (37, true)⟩, ⟨.pick, [.m 37, .m 39, .k (.b false)], some 40, none⟩, ⟨.mv, [.m 40], some 41, none⟩, ⟨.mv, [.m 9], some 42, some (41, true)⟩, ⟨(.bin .eql .i), [.m 42, .k (.n .i64 8)], some 43, some (41, true)⟩, ⟨.pick, [.m 41, .m 43, .k (.b false)], some 44, none⟩, ⟨.mv, [.m 44], some 45, none⟩, ⟨.mv, [.m 1], some 46, some (45, true)⟩, ⟨(.call (some 6) 1), [.m 46], some 47, some (45, true)⟩, ⟨.pick, [.m 45, .m 47, .k (.b false)], some 48, none⟩, ⟨.mv, [.m 48], some 0, none⟩] none)
(.drop [1, 3, 4, 5, 6, 7, 8, 9, 30, 34, 38, 42, 46] .ret))))))
def l12_told_w : Orc Tb := mkOrc (Y := Bool) tab [] [] (fun x h => l12_told) (fun _ y k => k (.b y) [])
theorem l12_told_k : l12_told_w.Ok Tryd.prog Wp tab 5 := orc_ok (Y := Bool) (orcs := l12_told_r) (c := l12_told_p) (res := [.tmp 0]) (n := 49) (R := (RSp.one (Y := Bool) tab (.g (.f (.a .b))) [] (fun a b => a) (fun y => y) (fun y => ()))) tabOk l12_told_rk (RSp.one_ok tabOk (fun _ _ => by kernel_rfl) (fun _ _ => by kernel_rfl)) Tryd.func5 (by kernel_rfl) (by kernel_rfl) (by kernel_rfl) (by kernel_rfl) (cS trivial (cS trivial (cS trivial (cS trivial (cS trivial (cD trivial)))))) (fun _ y k => by kernel_rfl) (fun y => by kernel_rfl) (fun x h => by kernel_rfl)
def l12_To_r : Orcs Tb := []
theorem l12_To_rk : OrcsOk Tryd.prog Wp tab l12_To_r := orcs_nil
def l12_To_p0 : TCode Tb :=
(.seq (.seq (.reg [⟨.mv, [.v 4], some 5, none⟩, ⟨.mv, [.v 0], some 6, none⟩, ⟨.len, [.m 6], some 7, none⟩, ⟨(.bin .lss .i), [.m 5, .m 7], some 8, none⟩] none)
(.cond 8 (.drop [8] .skip)
(.drop [0, 4, 8] (.exit 0))))
(.seq (.block 1 (.reg [⟨.mv, [.m 3], some 11, none⟩, ⟨.mv, [.v 0], some 12, none⟩, ⟨.mv, [.v 4], some 13, none⟩, ⟨(.ia 2), [.v 12, .m 13], some 14, none⟩, ⟨(.fa 0), [.m 14], some 15, none⟩, ⟨(.load none), [.m 15], some 16, none⟩, ⟨.mv, [.v 0], some 17, none⟩, ⟨.mv, [.v 4], some 18, none⟩, ⟨(.ia 2), [.v 17, .m 18], some 19, none⟩, ⟨(.fa 1), [.m 19], some 20, none⟩, ⟨(.load none), [.m 20], some 21, none⟩, ⟨(.build [.u16 (0 : UInt16), .s []] [(0, 1), (1, 1)]), [.m 16, .m 21], some 22, none⟩, ⟨(.bslice 1 1 ((⟨(0 : UInt16), []⟩ : alias_Row) : alias_Row) [0]), [.m 22], some 23, none⟩, ⟨(.app 2 24), [.m 11, .m 23], some 24, none⟩, ⟨.mv, [.m 24], some 3, none⟩] (some [[], [], [], [], [], [], [], [], [], [], [5], [], [], [], []])))
(.drop [12, 17] (.reg [⟨.mv, [.m 4], some 9, none⟩, ⟨(.bin .add .i), [.m 9, .k (.n .i64 1)], some 10, none⟩, ⟨.mv, [.m 10], some 4, none⟩] none))))
def l12_To_s0 : SSh := ⟨[(0, .g (.f (.a (.sl 2)))), (3, .g (.f (.ow 1))), (4, .g (.f (.a (.n .i64))))], []⟩
def l12_To_o0 : Cut Tb := cutL tab 0 l12_To_s0 (fun x => (x.1.2.1, x.1.2.2.1)) (fun x => l12_To_l0 x.1.1) (fun _ x y k => k (.exit 0) ⟨[(3, .ow 1 y)], []⟩)
theorem l12_To_q0 : l12_To_o0.Ok Tryd.prog Wp tab 0 (.loop l12_To_p0) := cutL_ok (c := l12_To_p0) (Z := (Option (List alias_Row)) × Int) (Y := (Option (List alias_Row))) tabOk l12_To_rk (cS (cS trivial (cC (cD trivial) (cD trivial))) (cS (cB trivial) (cD trivial))) (fun _ x z b e => l12_To_b0 x.1.1 z.1 z.2 (fun x3 x4 => b (x3, x4)) (fun y8 => e y8)) (fun x z => ⟨[(0, .sl 2 x.1.1), (3, .ow 1 z.1), (4, .n .i64 z.2)], []⟩) (fun x y => ((.exit 0), ⟨[(3, .ow 1 y)], []⟩)) (fun t => (prjS tab 0 l12_To_s0 t).bind fun x => some (x.1.2.1, x.1.2.2.1)) (fun e t => (if eqE e (.exit 0) then (prjS tab 0 ⟨[(3, .g (.f (.ow 1)))], []⟩ t).bind fun v => some v.1.1 else none)) (fun x => by kernel_rfl) (fun x z => by kernel_rfl) (fun x y k => by kernel_rfl) (fun x y => by exact nofun) (fun x z => by kernel_rfl) (fun x y => by kernel_rfl) (fun x z k => by kernel_rfl)
def l12_To_p : TCode Tb :=
(.seq (.reg [⟨.mv, [.k (.nilS)], some 2, none⟩] none)
(.seq (.reg [⟨.mv, [.k (.nilS)], some 3, none⟩] none)
(.seq (.seq (.reg [⟨.mv, [.k (.n .i64 0)], some 4, none⟩] none)
(.block 0 (.drop [2] (.cut 0 l12_To_o0 (.loop l12_To_p0)))))
(.seq (.reg [⟨.mv, [.m 3], some 25, none⟩, ⟨.mv, [.m 25], some 2, none⟩] none)
.ret))))
def l12_To_w : Orc Tb := mkOrc (Y := (Option (List alias_Row))) tab [.g (.f (.a (.sl 2)))] [] (fun x h => l12_To x.1) (fun _ y k => k (.ow 1 y) [])
theorem l12_To_k : l12_To_w.Ok Tryd.prog Wp tab 7 := orc_ok (Y := (Option (List alias_Row))) (orcs := l12_To_r) (c := l12_To_p) (res := [.tmp 2]) (n := 26) (R := (RSp.one (Y := (Option (List alias_Row))) tab (.g (.f (.ow 1))) [] (fun a b => a) (fun y => y) (fun y => ()))) tabOk l12_To_rk (RSp.one_ok tabOk (fun _ _ => by kernel_rfl) (fun _ _ => by kernel_rfl)) Tryd.func7 (by kernel_rfl) (by kernel_rfl) (by kernel_rfl) (by kernel_rfl) (cS trivial (cS trivial (cS (cS trivial (cB (cD (cT l12_To_q0)))) (cS trivial trivial)))) (fun _ y k => by kernel_rfl) (fun y => by kernel_rfl) (fun x h => by kernel_rfl)
def r02_sign_r : Orcs Tb := []
theorem r02_sign_rk : OrcsOk Tryd.prog Wp tab r02_sign_r := orcs_nil
def r02_sign_p1 : TCode Tb :=
(.seq (.seq (.reg [⟨.mv, [.v 10], some 41, none⟩, ⟨.mv, [.v 7], some 42, none⟩, ⟨(.bin .lss .i), [.m 41, .m 42], some 43, none⟩] none)
(.cond 43 (.drop [43] .skip)
(.drop [0, 1, 10, 43] (.exit 0))))
(.seq (.block 1 (.seq (.reg [⟨.mv, [.v 0], some 46, none⟩, ⟨.mv, [.v 1], some 47, none⟩, ⟨.mv, [.v 10], some 48, none⟩, ⟨(.bin .add .i), [.m 47, .m 48], some 49, none⟩, ⟨.sidx, [.m 46, .m 49], some 50, none⟩, ⟨(.cint .i64), [.m 50], some 51, none⟩, ⟨.mv, [.m 51], some 11, none⟩] none)
(.seq (.seq (.reg [⟨.mv, [.v 11], some 52, none⟩, ⟨(.bin .lss .i), [.m 52, .k (.n .i64 128)], some 53, none⟩, ⟨.mv, [.m 53], some 54, none⟩, ⟨.mv, [.v 11], some 55, some (54, false)⟩, ⟨(.bin .geq .i), [.m 55, .k (.n .i64 192)], some 56, some (54, false)⟩, ⟨.pick, [.m 54, .k (.b true), .m 56], some 57, none⟩] none)
(.drop [55] (.cond 57 (.drop [0, 1, 7, 8, 9, 10, 11, 57] (.seq (.reg [⟨.mv, [.k (.n .i64 0)], some 4, none⟩, ⟨.mv, [.k (.n .i64 0)], some 5, none⟩] none)
.ret))
(.drop [57] .skip))))
(.reg [⟨.mv, [.m 8], some 58, none⟩, ⟨(.bin .mul .i), [.k (.n .i64 64), .m 58], some 59, none⟩, ⟨.mv, [.m 11], some 60, none⟩, ⟨(.bin .add .i), [.m 59, .m 60], some 61, none⟩, ⟨(.bin .sub .i), [.m 61, .k (.n .i64 128)], some 62, none⟩, ⟨.mv, [.m 62], some 8, none⟩] none))))
(.reg [⟨.mv, [.m 10], some 44, none⟩, ⟨(.bin .add .i), [.m 44, .k (.n .i64 1)], some 45, none⟩, ⟨.mv, [.m 45], some 10, none⟩] none)))
def r02_sign_s1 : SSh := ⟨[(0, .g (.f (.a .s))), (1, .g (.f (.a (.n .i64)))), (7, .g (.f (.a (.n .i64)))), (8, .g (.f (.a (.n .i64)))), (9, .g (.f (.a (.n .i64)))), (10, .g (.f (.a (.n .i64))))], []⟩
def r02_sign_o1 : Cut Tb := cutL tab 0 r02_sign_s1 (fun x => (x.1.2.2.2.1, x.1.2.2.2.2.2.1)) (fun x => r02_sign_l1 x.1.1 x.1.2.1 x.1.2.2.1) (fun _ x y k => match y with | .inl y => k .ret ⟨[(4, .n .i64 0), (5, .n .i64 0)], []⟩ | .inr y => k (.exit 0) ⟨[(7, .n .i64 x.1.2.2.1), (8, .n .i64 y), (9, .n .i64 x.1.2.2.2.2.1)], []⟩)
theorem r02_sign_q1 : r02_sign_o1.Ok Tryd.prog Wp tab 0 (.loop r02_sign_p1) := cutL_ok (c := r02_sign_p1) (Z := Int × Int) (Y := Unit ⊕ Int) tabOk r02_sign_rk (cS (cS trivial (cC (cD trivial) (cD trivial))) (cS (cB (cS trivial (cS (cS trivial (cD (cC (cD (cS trivial trivial)) (cD trivial)))) trivial))) trivial)) (fun _ x z b e => r02_sign_b1 x.1.1 x.1.2.1 x.1.2.2.1 z.1 z.2 (fun x13 x15 => b (x13, x15)) (e (.inl ())) (fun y17 => e (.inr y17))) (fun x z => ⟨[(0, .s x.1.1), (1, .n .i64 x.1.2.1), (7, .n .i64 x.1.2.2.1), (8, .n .i64 z.1), (9, .n .i64 x.1.2.2.2.2.1), (10, .n .i64 z.2)], []⟩) (fun x y => match y with | .inl y => (.ret, ⟨[(4, .n .i64 0), (5, .n .i64 0)], []⟩) | .inr y => ((.exit 0), ⟨[(7, .n .i64 x.1.2.2.1), (8, .n .i64 y), (9, .n .i64 x.1.2.2.2.2.1)], []⟩)) (fun t => (prjS tab 0 r02_sign_s1 t).bind fun x => some (x.1.2.2.2.1, x.1.2.2.2.2.2.1)) (fun e t => (if eqE e .ret then orElse ((prjS tab 0 ⟨[(4, .g (.f (.ci .i64 0))), (5, .g (.f (.ci .i64 0)))], []⟩ t).bind fun v => some (.inl ())) (if eqE e (.exit 0) then (prjS tab 0 ⟨[(7, .g (.f (.a (.n .i64)))), (8, .g (.f (.a (.n .i64)))), (9, .g (.f (.a (.n .i64))))], []⟩ t).bind fun v => some (.inr v.1.2.1) else none) else (if eqE e (.exit 0) then (prjS tab 0 ⟨[(7, .g (.f (.a (.n .i64)))), (8, .g (.f (.a (.n .i64)))), (9, .g (.f (.a (.n .i64))))], []⟩ t).bind fun v => some (.inr v.1.2.1) else none))) (fun x => by kernel_rfl) (fun x z => by kernel_rfl) (fun x y k => by rcases y with y | y <;> kernel_rfl) (fun x y => by rcases y with y | y <;> exact nofun) (fun x z => by kernel_rfl) (fun x y => by rcases y with y | y <;> kernel_rfl) (fun x z k => by kernel_rfl)
def r02_sign_p0 : TCode Tb :=
(.seq (.seq (.reg [⟨.mv, [.m 6], some 31, none⟩, ⟨(.bin .geq .i), [.m 31, .k (.n .i64 248)], some 32, none⟩, ⟨.mv, [.m 32], some 33, none⟩, ⟨.mv, [.v 1], some 34, some (33, false)⟩, ⟨.mv, [.v 7], some 35, some (33, false)⟩, ⟨(.bin .add .i), [.m 34, .m 35], some 36, some (33, false)⟩, ⟨.mv, [.v 0], some 37, some (33, false)⟩, ⟨.lens, [.m 37], some 38, some (33, false)⟩, ⟨(.bin .gtr .i), [.m 36, .m 38], some 39, some (33, false)⟩, ⟨.pick, [.m 33, .k (.b true), .m 39], some 40, none⟩] none)
(.drop [34, 35, 36, 37, 38] (.cond 40 (.drop [0, 1, 7, 8, 9, 40] (.seq (.reg [⟨.mv, [.k (.n .i64 0)], some 4, none⟩, ⟨.mv, [.k (.n .i64 0)], some 5, none⟩] none)
.ret))
(.drop [40] .skip))))
(.seq (.seq (.reg [⟨.mv, [.k (.n .i64 1)], some 10, none⟩] none)
(.block 0 (.cut 0 r02_sign_o1 (.loop r02_sign_p1))))
(.seq (.seq (.reg [⟨.mv, [.v 8], some 63, none⟩, ⟨.mv, [.m 9], some 64, none⟩, ⟨(.bin .lss .i), [.m 63, .m 64], some 65, none⟩, ⟨.mv, [.m 65], some 66, none⟩, ⟨.mv, [.v 8], some 67, some (66, false)⟩, ⟨(.bin .gtr .i), [.m 67, .k (.n .i64 1114111)], some 68, some (66, false)⟩, ⟨.pick, [.m 66, .k (.b true), .m 68], some 69, none⟩, ⟨.mv, [.m 69], some 70, none⟩, ⟨.mv, [.v 8], some 71, some (70, false)⟩, ⟨(.bin .geq .i), [.m 71, .k (.n .i64 55296)], some 72, some (70, false)⟩, ⟨.mv, [.m 72], some 73, some (70, false)⟩, ⟨.mv, [.v 8], some 74, some (73, true)⟩, ⟨(.bin .leq .i), [.m 74, .k (.n .i64 57343)], some 75, some (73, true)⟩, ⟨.pick, [.m 73, .m 75, .k (.b false)], some 76, some (70, false)⟩, ⟨.pick, [.m 70, .k (.b true), .m 76], some 77, none⟩] none)
(.drop [67, 71, 72, 73, 74, 75] (.cond 77 (.drop [7, 8, 77] (.seq (.reg [⟨.mv, [.k (.n .i64 0)], some 4, none⟩, ⟨.mv, [.k (.n .i64 0)], some 5, none⟩] none)
.ret))
(.drop [77] .skip))))
(.seq (.reg [⟨.mv, [.m 8], some 78, none⟩, ⟨.mv, [.m 7], some 79, none⟩, ⟨.mv, [.m 78], some 4, none⟩, ⟨.mv, [.m 79], some 5, none⟩] none)
.ret))))
def r02_sign_s0 : SSh := ⟨[(0, .g (.f (.a .s))), (1, .g (.f (.a (.n .i64)))), (6, .g (.f (.a (.n .i64)))), (7, .g (.f (.a (.n .i64)))), (8, .g (.f (.a (.n .i64)))), (9, .g (.f (.a (.n .i64))))], []⟩
def r02_sign_o0 : Cut Tb := cutJ tab 0 r02_sign_s0 (fun _ x k => r02_sign_c0 x.1.1 x.1.2.1 x.1.2.2.1 x.1.2.2.2.1 x.1.2.2.2.2.1 x.1.2.2.2.2.2.1 (fun y19 y20 => k .ret ⟨[(4, .n .i64 y19), (5, .n .i64 y20)], []⟩))
theorem r02_sign_q0 : r02_sign_o0.Ok Tryd.prog Wp tab 0 r02_sign_p0 := cutJ_ok (c := r02_sign_p0) tabOk r02_sign_rk (cS (cS trivial (cD (cC (cD (cS trivial trivial)) (cD trivial)))) (cS (cS trivial (cB (cT r02_sign_q1))) (cS (cS trivial (cD (cC (cD (cS trivial trivial)) (cD trivial)))) (cS trivial trivial)))) (fun _ _ => by kernel_rfl)
def r02_sign_p : TCode Tb :=
(.seq (.reg [⟨.mv, [.k (.n .i64 0)], some 4, none⟩, ⟨.mv, [.k (.n .i64 0)], some 5, none⟩] none)
(.seq (.reg [⟨.mv, [.v 0], some 12, none⟩, ⟨.mv, [.v 1], some 13, none⟩, ⟨.sidx, [.m 12, .m 13], some 14, none⟩, ⟨(.cint .i64), [.m 14], some 15, none⟩, ⟨.mv, [.m 15], some 6, none⟩] none)
(.seq (.reg [⟨.mv, [.v 6], some 16, none⟩, ⟨.mv, [.k (.n .i64 1)], some 7, none⟩, ⟨.mv, [.m 16], some 8, none⟩, ⟨.mv, [.k (.n .i64 1)], some 9, none⟩] none)
(.seq (.seq (.reg [⟨.mv, [.v 6], some 17, none⟩, ⟨(.bin .geq .i), [.m 17, .k (.n .i64 240)], some 18, none⟩] none)
(.cond 18 (.drop [4, 5, 7, 8, 9, 18] (.reg [⟨.mv, [.v 6], some 19, none⟩, ⟨(.bin .sub .i), [.m 19, .k (.n .i64 240)], some 20, none⟩, ⟨.mv, [.k (.n .i64 4)], some 7, none⟩, ⟨.mv, [.m 20], some 8, none⟩, ⟨.mv, [.k (.n .i64 65536)], some 9, none⟩] none))
(.drop [4, 5, 18] (.seq (.reg [⟨.mv, [.v 6], some 21, none⟩, ⟨(.bin .geq .i), [.m 21, .k (.n .i64 224)], some 22, none⟩] none)
(.cond 22 (.drop [7, 8, 9, 22] (.reg [⟨.mv, [.v 6], some 23, none⟩, ⟨(.bin .sub .i), [.m 23, .k (.n .i64 224)], some 24, none⟩, ⟨.mv, [.k (.n .i64 3)], some 7, none⟩, ⟨.mv, [.m 24], some 8, none⟩, ⟨.mv, [.k (.n .i64 2048)], some 9, none⟩] none))
(.drop [22] (.seq (.reg [⟨.mv, [.v 6], some 25, none⟩, ⟨(.bin .geq .i), [.m 25, .k (.n .i64 192)], some 26, none⟩] none)
(.cond 26 (.drop [7, 8, 9, 26] (.reg [⟨.mv, [.v 6], some 27, none⟩, ⟨(.bin .sub .i), [.m 27, .k (.n .i64 192)], some 28, none⟩, ⟨.mv, [.k (.n .i64 2)], some 7, none⟩, ⟨.mv, [.m 28], some 8, none⟩, ⟨.mv, [.k (.n .i64 128)], some 9, none⟩] none))
(.drop [26] (.seq (.reg [⟨.mv, [.v 6], some 29, none⟩, ⟨(.bin .geq .i), [.m 29, .k (.n .i64 128)], some 30, none⟩] none)
(.cond 30 (.drop [0, 1, 6, 7, 8, 9, 30] (.seq (.reg [⟨.mv, [.k (.n .i64 0)], some 4, none⟩, ⟨.mv, [.k (.n .i64 0)], some 5, none⟩] none)
.ret))
(.drop [30] .skip))))))))))))
(.cut 0 r02_sign_o0 r02_sign_p0)))))
def r02_sign_w : Orc Tb := mkOrc (Y := Int × Int) tab [.g (.f (.a .s)), .g (.f (.a (.n .i64)))] [] (fun x h => r02_sign x.1 x.2.1) (fun _ y k => k (.tup [.n .i64 y.1, .n .i64 y.2]) [])
theorem r02_sign_k : r02_sign_w.Ok Tryd.prog Wp tab 39 := orc_ok (Y := Int × Int) (orcs := r02_sign_r) (c := r02_sign_p) (res := [.tmp 4, .tmp 5]) (n := 80) (R := (RSp.one (Y := Int × Int) tab (.tup [.f (.a (.n .i64)), .f (.a (.n .i64))]) [] (fun a b => (a.1, a.2.1)) (fun y => (y.1, y.2, ())) (fun y => ()))) tabOk r02_sign_rk (RSp.one_ok tabOk (fun _ _ => by kernel_rfl) (fun _ _ => by kernel_rfl)) Tryd.func39 (by kernel_rfl) (by kernel_rfl) (by kernel_rfl) (by kernel_rfl) (cS trivial (cS trivial (cS trivial (cS (cS trivial (cC (cD trivial) (cD (cS trivial (cC (cD trivial) (cD (cS trivial (cC (cD trivial) (cD (cS trivial (cC (cD (cS trivial trivial)) (cD trivial)))))))))))) (cT r02_sign_q0))))) (fun _ y k => by kernel_rfl) (fun y => by kernel_rfl) (fun x h => by kernel_rfl)
def r02_Runes_r : Orcs Tb := [(39, r02_sign_w)]
theorem r02_Runes_rk : OrcsOk Tryd.prog Wp tab r02_Runes_r := (orcs_cons r02_sign_k orcs_nil)
def r02_Runes_p0 : TCode Tb :=
(.seq (.seq (.reg [⟨.mv, [.v 4], some 10, none⟩, ⟨.mv, [.v 0], some 11, none⟩, ⟨.lens, [.m 11], some 12, none⟩, ⟨(.bin .lss .i), [.m 10, .m 12], some 13, none⟩] none)
(.cond 13 (.drop [13] .skip)
(.drop [0, 4, 13] (.exit 0))))
(.block 1 (.seq (.reg [⟨.mv, [.v 0], some 15, none⟩, ⟨.mv, [.v 4], some 16, none⟩, ⟨(.call (some 39) 0), [.m 15, .m 16], some 17, none⟩, ⟨.mv, [.m 17], some 14, none⟩, ⟨.extm, [.c 14 0], some 18, none⟩, ⟨(.ext 1), [.m 14], some 19, none⟩, ⟨.mv, [.m 18], some 5, none⟩, ⟨.mv, [.m 19], some 6, none⟩] none)
(.seq (.seq (.reg [⟨.mv, [.v 6], some 20, none⟩, ⟨(.bin .eql .i), [.m 20, .k (.n .i64 0)], some 21, none⟩] none)
(.cond 21 (.drop [0, 3, 4, 5, 6, 21] (.seq (.reg [⟨.mv, [.k (.n .i64 (-1))], some 2, none⟩] none)
.ret))
(.drop [5, 21] .skip)))
(.seq (.reg [⟨.mv, [.m 4], some 22, none⟩, ⟨.mv, [.m 6], some 23, none⟩, ⟨(.bin .add .i), [.m 22, .m 23], some 24, none⟩, ⟨.mv, [.m 24], some 4, none⟩] none)
(.reg [⟨.mv, [.m 3], some 25, none⟩, ⟨(.bin .add .i), [.m 25, .k (.n .i64 1)], some 26, none⟩, ⟨.mv, [.m 26], some 3, none⟩] none))))))
def r02_Runes_s0 : SSh := ⟨[(0, .g (.f (.a .s))), (3, .g (.f (.a (.n .i64)))), (4, .g (.f (.a (.n .i64))))], []⟩
def r02_Runes_o0 : Cut Tb := cutL tab 0 r02_Runes_s0 (fun x => (x.1.2.1, x.1.2.2.1)) (fun x => r02_Runes_l0 x.1.1) (fun _ x y k => match y with | .inl y => k .ret ⟨[(2, .n .i64 (-1))], []⟩ | .inr y => k (.exit 0) ⟨[(3, .n .i64 y)], []⟩)
theorem r02_Runes_q0 : r02_Runes_o0.Ok Tryd.prog Wp tab 0 (.loop r02_Runes_p0) := cutL_ok (c := r02_Runes_p0) (Z := Int × Int) (Y := Unit ⊕ Int) tabOk r02_Runes_rk (cS (cS trivial (cC (cD trivial) (cD trivial))) (cB (cS trivial (cS (cS trivial (cC (cD (cS trivial trivial)) (cD trivial))) (cS trivial trivial))))) (fun _ x z b e => r02_Runes_b0 x.1.1 z.1 z.2 (fun x3 x4 => b (x3, x4)) (e (.inl ())) (fun y7 => e (.inr y7))) (fun x z => ⟨[(0, .s x.1.1), (3, .n .i64 z.1), (4, .n .i64 z.2)], []⟩) (fun x y => match y with | .inl y => (.ret, ⟨[(2, .n .i64 (-1))], []⟩) | .inr y => ((.exit 0), ⟨[(3, .n .i64 y)], []⟩)) (fun t => (prjS tab 0 r02_Runes_s0 t).bind fun x => some (x.1.2.1, x.1.2.2.1)) (fun e t => (if eqE e .ret then orElse ((prjS tab 0 ⟨[(2, .g (.f (.ci .i64 (-1))))], []⟩ t).bind fun v => some (.inl ())) (if eqE e (.exit 0) then (prjS tab 0 ⟨[(3, .g (.f (.a (.n .i64))))], []⟩ t).bind fun v => some (.inr v.1.1) else none) else (if eqE e (.exit 0) then (prjS tab 0 ⟨[(3, .g (.f (.a (.n .i64))))], []⟩ t).bind fun v => some (.inr v.1.1) else none))) (fun x => by kernel_rfl) (fun x z => by kernel_rfl) (fun x y k => by rcases y with y | y <;> kernel_rfl) (fun x y => by rcases y with y | y <;> exact nofun) (fun x z => by kernel_rfl) (fun x y => by rcases y with y | y <;> kernel_rfl) (fun x z k => by kernel_rfl)
def r02_Runes_p : TCode Tb :=
(.seq (.reg [⟨.mv, [.k (.n .i64 0)], some 2, none⟩] none)
(.seq (.seq (.reg [⟨.mv, [.v 0], some 7, none⟩, ⟨.lens, [.m 7], some 8, none⟩, ⟨(.bin .gtr .i), [.m 8, .k (.n .i64 65535)], some 9, none⟩] none)
(.cond 9 (.drop [0, 2, 9] (.seq (.reg [⟨.mv, [.k (.n .i64 (-1))], some 2, none⟩] none)
.ret))
(.drop [2, 9] .skip)))
(.seq (.reg [⟨.mv, [.k (.n .i64 0)], some 3, none⟩] none)
(.seq (.seq (.reg [⟨.mv, [.k (.n .i64 0)], some 4, none⟩] none)
(.block 0 (.cut 0 r02_Runes_o0 (.loop r02_Runes_p0))))
(.seq (.reg [⟨.mv, [.m 3], some 27, none⟩, ⟨.mv, [.m 27], some 2, none⟩] none)
.ret)))))
def r02_Runes_w : Orc Tb := mkOrc (Y := Int) tab [.g (.f (.a .s))] [] (fun x h => r02_Runes x.1) (fun _ y k => k (.n .i64 y) [])
theorem r02_Runes_k : r02_Runes_w.Ok Tryd.prog Wp tab 33 := orc_ok (Y := Int) (orcs := r02_Runes_r) (c := r02_Runes_p) (res := [.tmp 2]) (n := 28) (R := (RSp.one (Y := Int) tab (.g (.f (.a (.n .i64)))) [] (fun a b => a) (fun y => y) (fun y => ()))) tabOk r02_Runes_rk (RSp.one_ok tabOk (fun _ _ => by kernel_rfl) (fun _ _ => by kernel_rfl)) Tryd.func33 (by kernel_rfl) (by kernel_rfl) (by kernel_rfl) (by kernel_rfl) (cS trivial (cS (cS trivial (cC (cD (cS trivial trivial)) (cD trivial))) (cS trivial (cS (cS trivial (cB (cT r02_Runes_q0))) (cS trivial trivial))))) (fun _ y k => by kernel_rfl) (fun y => by kernel_rfl) (fun x h => by kernel_rfl)
def r02_Right_r : Orcs Tb := [(33, r02_Runes_w)]
theorem r02_Right_rk : OrcsOk Tryd.prog Wp tab r02_Right_r := (orcs_cons r02_Runes_k orcs_nil)
def r02_Right_p : TCode Tb :=
(.seq (.reg [⟨.mv, [.k (.b false)], some 2, none⟩] none)
(.seq (.reg [⟨.mv, [.m 0], some 3, none⟩, ⟨(.call (some 33) 0), [.m 3], some 4, none⟩, ⟨(.bin .geq .i), [.m 4, .k (.n .i64 0)], some 5, none⟩, ⟨.mv, [.m 5], some 2, none⟩] none)
.ret))
def r02_Right_w : Orc Tb := mkOrc (Y := Bool) tab [.g (.f (.a .s))] [] (fun x h => r02_Right x.1) (fun _ y k => k (.b y) [])
theorem r02_Right_k : r02_Right_w.Ok Tryd.prog Wp tab 24 := orc_ok (Y := Bool) (orcs := r02_Right_r) (c := r02_Right_p) (res := [.tmp 2]) (n := 6) (R := (RSp.one (Y := Bool) tab (.g (.f (.a .b))) [] (fun a b => a) (fun y => y) (fun y => ()))) tabOk r02_Right_rk (RSp.one_ok tabOk (fun _ _ => by kernel_rfl) (fun _ _ => by kernel_rfl)) Tryd.func24 (by kernel_rfl) (by kernel_rfl) (by kernel_rfl) (by kernel_rfl) (cS trivial (cS trivial trivial)) (fun _ y k => by kernel_rfl) (fun y => by kernel_rfl) (fun x h => by kernel_rfl)
def r04_has_r : Orcs Tb := []
theorem r04_has_rk : OrcsOk Tryd.prog Wp tab r04_has_r := orcs_nil
def r04_has_p0 : TCode Tb :=
(.seq (.seq (.reg [⟨.mv, [.v 5], some 6, none⟩, ⟨.mv, [.v 0], some 7, none⟩, ⟨.lens, [.m 7], some 8, none⟩, ⟨(.bin .lss .i), [.m 6, .m 8], some 9, none⟩] none)
(.cond 9 (.drop [9] .skip)
(.drop [0, 1, 5, 9] (.exit 0))))
(.seq (.block 1 (.seq (.reg [⟨.mv, [.v 0], some 12, none⟩, ⟨.mv, [.v 5], some 13, none⟩, ⟨.sidx, [.m 12, .m 13], some 14, none⟩, ⟨.mv, [.v 1], some 15, none⟩, ⟨(.bin .eql .i), [.m 14, .m 15], some 16, none⟩] none)
(.cond 16 (.drop [0, 1, 5, 16] (.seq (.reg [⟨.mv, [.k (.b true)], some 4, none⟩] none)
.ret))
(.drop [16] .skip))))
(.reg [⟨.mv, [.m 5], some 10, none⟩, ⟨(.bin .add .i), [.m 10, .k (.n .i64 1)], some 11, none⟩, ⟨.mv, [.m 11], some 5, none⟩] none)))
def r04_has_s0 : SSh := ⟨[(0, .g (.f (.a .s))), (1, .g (.f (.a .u8))), (5, .g (.f (.a (.n .i64))))], []⟩
def r04_has_o0 : Cut Tb := cutL tab 0 r04_has_s0 (fun x => x.1.2.2.1) (fun x => r04_has_l0 x.1.1 x.1.2.1) (fun _ x y k => match y with | .inl y => k .ret ⟨[(4, .b true)], []⟩ | .inr y => k (.exit 0) ⟨[], []⟩)
theorem r04_has_q0 : r04_has_o0.Ok Tryd.prog Wp tab 0 (.loop r04_has_p0) := cutL_ok (c := r04_has_p0) (Z := Int) (Y := Unit ⊕ Unit) tabOk r04_has_rk (cS (cS trivial (cC (cD trivial) (cD trivial))) (cS (cB (cS trivial (cC (cD (cS trivial trivial)) (cD trivial)))) trivial)) (fun _ x z b e => r04_has_b0 x.1.1 x.1.2.1 z (fun x5 => b x5) (e (.inl ())) (e (.inr ()))) (fun x z => ⟨[(0, .s x.1.1), (1, .u8 x.1.2.1), (5, .n .i64 z)], []⟩) (fun x y => match y with | .inl y => (.ret, ⟨[(4, .b true)], []⟩) | .inr y => ((.exit 0), ⟨[], []⟩)) (fun t => (prjS tab 0 r04_has_s0 t).bind fun x => some x.1.2.2.1) (fun e t => (if eqE e .ret then orElse ((prjS tab 0 ⟨[(4, .g (.f (.cb true)))], []⟩ t).bind fun v => some (.inl ())) (if eqE e (.exit 0) then (prjS tab 0 ⟨[], []⟩ t).bind fun v => some (.inr ()) else none) else (if eqE e (.exit 0) then (prjS tab 0 ⟨[], []⟩ t).bind fun v => some (.inr ()) else none))) (fun x => by kernel_rfl) (fun x z => by kernel_rfl) (fun x y k => by rcases y with y | y <;> kernel_rfl) (fun x y => by rcases y with y | y <;> exact nofun) (fun x z => by kernel_rfl) (fun x y => by rcases y with y | y <;> kernel_rfl) (fun x z k => by kernel_rfl)
def r04_has_p : TCode Tb :=
(.seq (.reg [⟨.mv, [.k (.b false)], some 4, none⟩] none)
(.seq (.seq (.reg [⟨.mv, [.k (.n .i64 0)], some 5, none⟩] none)
(.block 0 (.drop [4] (.cut 0 r04_has_o0 (.loop r04_has_p0)))))
(.seq (.reg [⟨.mv, [.k (.b false)], some 4, none⟩] none)
.ret)))
def r04_has_w : Orc Tb := mkOrc (Y := Bool) tab [.g (.f (.a .s)), .g (.f (.a .u8))] [] (fun x h => r04_has x.1 x.2.1) (fun _ y k => k (.b y) [])
theorem r04_has_k : r04_has_w.Ok Tryd.prog Wp tab 34 := orc_ok (Y := Bool) (orcs := r04_has_r) (c := r04_has_p) (res := [.tmp 4]) (n := 17) (R := (RSp.one (Y := Bool) tab (.g (.f (.a .b))) [] (fun a b => a) (fun y => y) (fun y => ()))) tabOk r04_has_rk (RSp.one_ok tabOk (fun _ _ => by kernel_rfl) (fun _ _ => by kernel_rfl)) Tryd.func34 (by kernel_rfl) (by kernel_rfl) (by kernel_rfl) (by kernel_rfl) (cS trivial (cS (cS trivial (cB (cD (cT r04_has_q0)))) (cS trivial trivial))) (fun _ y k => by kernel_rfl) (fun y => by kernel_rfl) (fun x h => by kernel_rfl)
def r04_Wild_r : Orcs Tb := [(34, r04_has_w)]
theorem r04_Wild_rk : OrcsOk Tryd.prog Wp tab r04_Wild_r := (orcs_cons r04_has_k orcs_nil)
def r04_Wild_p : TCode Tb :=
(.seq (.reg [⟨.mv, [.k (.b false)], some 2, none⟩] none)
(.seq (.reg [⟨.mv, [.v 0], some 3, none⟩, ⟨(.call (some 34) 0), [.m 3, .k (.u8 (43 : UInt8))], some 4, none⟩, ⟨.mv, [.m 4], some 5, none⟩, ⟨.mv, [.m 0], some 6, some (5, false)⟩, ⟨(.call (some 34) 0), [.m 6, .k (.u8 (35 : UInt8))], some 7, some (5, false)⟩, ⟨.pick, [.m 5, .k (.b true), .m 7], some 8, none⟩, ⟨.mv, [.m 8], some 2, none⟩] none)
(.drop [0, 6] .ret)))
def r04_Wild_w : Orc Tb := mkOrc (Y := Bool) tab [.g (.f (.a .s))] [] (fun x h => r04_Wild x.1) (fun _ y k => k (.b y) [])
theorem r04_Wild_k : r04_Wild_w.Ok Tryd.prog Wp tab 25 := orc_ok (Y := Bool) (orcs := r04_Wild_r) (c := r04_Wild_p) (res := [.tmp 2]) (n := 9) (R := (RSp.one (Y := Bool) tab (.g (.f (.a .b))) [] (fun a b => a) (fun y => y) (fun y => ()))) tabOk r04_Wild_rk (RSp.one_ok tabOk (fun _ _ => by kernel_rfl) (fun _ _ => by kernel_rfl)) Tryd.func25 (by kernel_rfl) (by kernel_rfl) (by kernel_rfl) (by kernel_rfl) (cS trivial (cS trivial (cD trivial))) (fun _ y k => by kernel_rfl) (fun y => by kernel_rfl) (fun x h => by kernel_rfl)
def r04_Name_r : Orcs Tb := [(24, r02_Right_w), (25, r04_Wild_w)]
theorem r04_Name_rk : OrcsOk Tryd.prog Wp tab r04_Name_r := (orcs_cons r02_Right_k (orcs_cons r04_Wild_k orcs_nil))
def r04_Name_p : TCode Tb :=
(.seq (.reg [⟨.mv, [.k (.b false)], some 2, none⟩] none)
(.seq (.reg [⟨.mv, [.v 0], some 3, none⟩, ⟨(.call (some 24) 0), [.m 3], some 4, none⟩, ⟨.mv, [.m 4], some 5, none⟩, ⟨.mv, [.v 0], some 6, some (5, true)⟩, ⟨.lens, [.m 6], some 7, some (5, true)⟩, ⟨(.bin .gtr .i), [.m 7, .k (.n .i64 0)], some 8, some (5, true)⟩, ⟨.pick, [.m 5, .m 8, .k (.b false)], some 9, none⟩, ⟨.mv, [.m 9], some 10, none⟩, ⟨.mv, [.m 0], some 11, some (10, true)⟩, ⟨(.call (some 25) 1), [.m 11], some 12, some (10, true)⟩, ⟨(.un .not), [.m 12], some 13, some (10, true)⟩, ⟨.pick, [.m 10, .m 13, .k (.b false)], some 14, none⟩, ⟨.mv, [.m 14], some 2, none⟩] none)
(.drop [0, 6, 7, 11, 12] .ret)))
def r04_Name_w : Orc Tb := mkOrc (Y := Bool) tab [.g (.f (.a .s))] [] (fun x h => r04_Name x.1) (fun _ y k => k (.b y) [])
theorem r04_Name_k : r04_Name_w.Ok Tryd.prog Wp tab 17 := orc_ok (Y := Bool) (orcs := r04_Name_r) (c := r04_Name_p) (res := [.tmp 2]) (n := 15) (R := (RSp.one (Y := Bool) tab (.g (.f (.a .b))) [] (fun a b => a) (fun y => y) (fun y => ()))) tabOk r04_Name_rk (RSp.one_ok tabOk (fun _ _ => by kernel_rfl) (fun _ _ => by kernel_rfl)) Tryd.func17 (by kernel_rfl) (by kernel_rfl) (by kernel_rfl) (by kernel_rfl) (cS trivial (cS trivial (cD trivial))) (fun _ y k => by kernel_rfl) (fun y => by kernel_rfl) (fun x h => by kernel_rfl)
def r12_Right_r : Orcs Tb := [(17, r04_Name_w)]
theorem r12_Right_rk : OrcsOk Tryd.prog Wp tab r12_Right_r := (orcs_cons r04_Name_k orcs_nil)
def r12_Right_p0 : TCode Tb :=
(.seq (.seq (.reg [⟨.mv, [.v 3], some 4, none⟩, ⟨.mv, [.v 0], some 5, none⟩, ⟨.len, [.m 5], some 6, none⟩, ⟨(.bin .lss .i), [.m 4, .m 6], some 7, none⟩] none)
(.cond 7 (.drop [7] .skip)
(.drop [0, 3, 7] (.exit 0))))
(.seq (.block 1 (.seq (.reg [⟨.mv, [.v 0], some 10, none⟩, ⟨.mv, [.v 3], some 11, none⟩, ⟨(.ia 2), [.v 10, .m 11], some 12, none⟩, ⟨(.fa 0), [.m 12], some 13, none⟩, ⟨(.load none), [.m 13], some 14, none⟩, ⟨(.bin .eql .i), [.m 14, .k (.u16 (0 : UInt16))], some 15, none⟩, ⟨.mv, [.m 15], some 16, none⟩, ⟨.mv, [.v 3], some 17, some (16, false)⟩, ⟨(.bin .gtr .i), [.m 17, .k (.n .i64 0)], some 18, some (16, false)⟩, ⟨.mv, [.m 18], some 19, some (16, false)⟩, ⟨.mv, [.v 0], some 20, some (19, true)⟩, ⟨.mv, [.v 3], some 21, some (19, true)⟩, ⟨(.bin .sub .i), [.m 21, .k (.n .i64 1)], some 22, some (19, true)⟩, ⟨(.ia 2), [.v 20, .m 22], some 23, some (19, true)⟩, ⟨(.fa 0), [.m 23], some 24, some (19, true)⟩, ⟨(.load none), [.m 24], some 25, some (19, true)⟩, ⟨.mv, [.v 0], some 26, some (19, true)⟩, ⟨.mv, [.v 3], some 27, some (19, true)⟩, ⟨(.ia 2), [.v 26, .m 27], some 28, some (19, true)⟩, ⟨(.fa 0), [.m 28], some 29, some (19, true)⟩, ⟨(.load none), [.m 29], some 30, some (19, true)⟩, ⟨(.bin .geq .i), [.m 25, .m 30], some 31, some (19, true)⟩, ⟨.pick, [.m 19, .m 31, .k (.b false)], some 32, some (16, false)⟩, ⟨.pick, [.m 16, .k (.b true), .m 32], some 33, none⟩, ⟨.mv, [.m 33], some 34, none⟩, ⟨.mv, [.v 0], some 35, some (34, false)⟩, ⟨.mv, [.v 3], some 36, some (34, false)⟩, ⟨(.ia 2), [.v 35, .m 36], some 37, some (34, false)⟩, ⟨(.fa 1), [.m 37], some 38, some (34, false)⟩, ⟨(.load none), [.m 38], some 39, some (34, false)⟩, ⟨(.call (some 17) 0), [.m 39], some 40, some (34, false)⟩, ⟨(.un .not), [.m 40], some 41, some (34, false)⟩, ⟨.pick, [.m 34, .k (.b true), .m 41], some 42, none⟩] (some [[], [], [], [], [], [], [], [], [], [], [], [], [], [], [], [], [], [], [], [], [15], [], [], [], [], [], [], [], [], [], [], [], []]))
(.drop [10, 17, 18, 19, 20, 21, 22, 23, 24, 25, 26, 27, 28, 29, 30, 31, 35, 36, 37, 38, 39, 40] (.cond 42 (.drop [0, 3, 42] (.seq (.reg [⟨.mv, [.k (.b false)], some 2, none⟩] none)
.ret))
(.drop [42] .skip)))))
(.reg [⟨.mv, [.m 3], some 8, none⟩, ⟨(.bin .add .i), [.m 8, .k (.n .i64 1)], some 9, none⟩, ⟨.mv, [.m 9], some 3, none⟩] none)))
def r12_Right_s0 : SSh := ⟨[(0, .g (.f (.a (.sl 2)))), (3, .g (.f (.a (.n .i64))))], []⟩
def r12_Right_o0 : Cut Tb := cutL tab 0 r12_Right_s0 (fun x => x.1.2.1) (fun x => r12_Right_l0 x.1.1) (fun _ x y k => match y with | .inl y => k .ret ⟨[(2, .b false)], []⟩ | .inr y => k (.exit 0) ⟨[], []⟩)
theorem r12_Right_q0 : r12_Right_o0.Ok Tryd.prog Wp tab 0 (.loop r12_Right_p0) := cutL_ok (c := r12_Right_p0) (Z := Int) (Y := Unit ⊕ Unit) tabOk r12_Right_rk (cS (cS trivial (cC (cD trivial) (cD trivial))) (cS (cB (cS trivial (cD (cC (cD (cS trivial trivial)) (cD trivial))))) trivial)) (fun _ x z b e => r12_Right_b0 x.1.1 z (fun x3 => b x3) (e (.inl ())) (e (.inr ()))) (fun x z => ⟨[(0, .sl 2 x.1.1), (3, .n .i64 z)], []⟩) (fun x y => match y with | .inl y => (.ret, ⟨[(2, .b false)], []⟩) | .inr y => ((.exit 0), ⟨[], []⟩)) (fun t => (prjS tab 0 r12_Right_s0 t).bind fun x => some x.1.2.1) (fun e t => (if eqE e .ret then orElse ((prjS tab 0 ⟨[(2, .g (.f (.cb false)))], []⟩ t).bind fun v => some (.inl ())) (if eqE e (.exit 0) then (prjS tab 0 ⟨[], []⟩ t).bind fun v => some (.inr ()) else none) else (if eqE e (.exit 0) then (prjS tab 0 ⟨[], []⟩ t).bind fun v => some (.inr ()) else none))) (fun x => by kernel_rfl) (fun x z => by kernel_rfl) (fun x y k => by rcases y with y | y <;> kernel_rfl) (fun x y => by rcases y with y | y <;> exact nofun) (fun x z => by kernel_rfl) (fun x y => by rcases y with y | y <;> kernel_rfl) (fun x z k => by kernel_rfl)
def r12_Right_p : TCode Tb :=
(.seq (.reg [⟨.mv, [.k (.b false)], some 2, none⟩] none)
(.seq (.seq (.reg [⟨.mv, [.k (.n .i64 0)], some 3, none⟩] none)
(.block 0 (.drop [2] (.cut 0 r12_Right_o0 (.loop r12_Right_p0)))))
(.seq (.reg [⟨.mv, [.k (.b true)], some 2, none⟩] none)
.ret)))
def r12_Right_w : Orc Tb := mkOrc (Y := Bool) tab [.g (.f (.a (.sl 2)))] [] (fun x h => r12_Right x.1) (fun _ y k => k (.b y) [])
theorem r12_Right_k : r12_Right_w.Ok Tryd.prog Wp tab 8 := orc_ok (Y := Bool) (orcs := r12_Right_r) (c := r12_Right_p) (res := [.tmp 2]) (n := 43) (R := (RSp.one (Y := Bool) tab (.g (.f (.a .b))) [] (fun a b => a) (fun y => y) (fun y => ()))) tabOk r12_Right_rk (RSp.one_ok tabOk (fun _ _ => by kernel_rfl) (fun _ _ => by kernel_rfl)) Tryd.func8 (by kernel_rfl) (by kernel_rfl) (by kernel_rfl) (by kernel_rfl) (cS trivial (cS (cS trivial (cB (cD (cT r12_Right_q0)))) (cS trivial trivial))) (fun _ y k => by kernel_rfl) (fun y => by kernel_rfl) (fun x h => by kernel_rfl)
def l12_AliasRights_r : Orcs Tb := [(5, l12_told_w), (7, l12_To_w), (6, alias_Right_w), (8, r12_Right_w)]
theorem l12_AliasRights_rk : OrcsOk Tryd.prog Wp tab l12_AliasRights_r := (orcs_cons l12_told_k (orcs_cons l12_To_k (orcs_cons alias_Right_k (orcs_cons r12_Right_k orcs_nil))))
def l12_AliasRights_p0 : TCode Tb :=
(.seq (.seq (.reg [⟨.mv, [.v 3], some 9, none⟩, ⟨.mv, [.v 0], some 10, none⟩, ⟨.len, [.m 10], some 11, none⟩, ⟨(.bin .lss .i), [.m 9, .m 11], some 12, none⟩] none)
(.cond 12 (.drop [12] .skip)
(.drop [3, 12] (.exit 0))))
(.seq (.block 1 (.seq (.reg [⟨.mv, [.v 0], some 15, none⟩, ⟨.mv, [.v 3], some 16, none⟩, ⟨(.ia 2), [.v 15, .m 16], some 17, none⟩, ⟨(.fa 1), [.m 17], some 18, none⟩, ⟨(.load none), [.m 18], some 19, none⟩, ⟨.lens, [.m 19], some 20, none⟩, ⟨(.bin .gtr .i), [.m 20, .k (.n .i64 200)], some 21, none⟩] none)
(.cond 21 (.drop [0, 3, 15, 21] (.seq (.reg [⟨(.call (some 5) 0), [], some 22, none⟩, ⟨.mv, [.m 22], some 2, none⟩] none)
.ret))
(.drop [15, 21] .skip))))
(.reg [⟨.mv, [.m 3], some 13, none⟩, ⟨(.bin .add .i), [.m 13, .k (.n .i64 1)], some 14, none⟩, ⟨.mv, [.m 14], some 3, none⟩] none)))
def l12_AliasRights_s0 : SSh := ⟨[(0, .g (.f (.a (.sl 2)))), (3, .g (.f (.a (.n .i64))))], []⟩
def l12_AliasRights_o0 : Cut Tb := cutL tab 0 l12_AliasRights_s0 (fun x => x.1.2.1) (fun x => l12_AliasRights_l0 x.1.1) (fun _ x y k => match y with | .inl y => k .ret ⟨[(2, .b y)], []⟩ | .inr y => k (.exit 0) ⟨[(0, .sl 2 x.1.1)], []⟩)
theorem l12_AliasRights_q0 : l12_AliasRights_o0.Ok Tryd.prog Wp tab 0 (.loop l12_AliasRights_p0) := cutL_ok (c := l12_AliasRights_p0) (Z := Int) (Y := Bool ⊕ Unit) tabOk l12_AliasRights_rk (cS (cS trivial (cC (cD trivial) (cD trivial))) (cS (cB (cS trivial (cC (cD (cS trivial trivial)) (cD trivial)))) trivial)) (fun _ x z b e => l12_AliasRights_b0 x.1.1 z (fun x4 => b x4) (fun y7 => e (.inl y7)) (e (.inr ()))) (fun x z => ⟨[(0, .sl 2 x.1.1), (3, .n .i64 z)], []⟩) (fun x y => match y with | .inl y => (.ret, ⟨[(2, .b y)], []⟩) | .inr y => ((.exit 0), ⟨[(0, .sl 2 x.1.1)], []⟩)) (fun t => (prjS tab 0 l12_AliasRights_s0 t).bind fun x => some x.1.2.1) (fun e t => (if eqE e .ret then orElse ((prjS tab 0 ⟨[(2, .g (.f (.a .b)))], []⟩ t).bind fun v => some (.inl v.1.1)) (if eqE e (.exit 0) then (prjS tab 0 ⟨[(0, .g (.f (.a (.sl 2))))], []⟩ t).bind fun v => some (.inr ()) else none) else (if eqE e (.exit 0) then (prjS tab 0 ⟨[(0, .g (.f (.a (.sl 2))))], []⟩ t).bind fun v => some (.inr ()) else none))) (fun x => by kernel_rfl) (fun x z => by kernel_rfl) (fun x y k => by rcases y with y | y <;> kernel_rfl) (fun x y => by rcases y with y | y <;> exact nofun) (fun x z => by kernel_rfl) (fun x y => by rcases y with y | y <;> kernel_rfl) (fun x z k => by kernel_rfl)
def l12_AliasRights_p : TCode Tb :=
(.seq (.reg [⟨.mv, [.k (.b false)], some 2, none⟩] none)
(.seq (.reg [⟨.mv, [.v 0], some 4, none⟩, ⟨.mv, [.m 0], some 5, none⟩, ⟨.len, [.m 5], some 6, none⟩, ⟨.min, [.m 6, .k (.n .i64 30)], some 7, none⟩, ⟨(.ssl 2 false true), [.v 4, .m 7], some 8, none⟩, ⟨.mv, [.m 8], some 0, none⟩] none)
(.seq (.seq (.reg [⟨.mv, [.k (.n .i64 0)], some 3, none⟩] none)
(.block 0 (.drop [2, 4] (.cut 0 l12_AliasRights_o0 (.loop l12_AliasRights_p0)))))
(.seq (.reg [⟨(.call (some 5) 0), [], some 23, none⟩, ⟨.mv, [.m 23], some 24, none⟩, ⟨.mv, [.v 0], some 25, some (24, true)⟩, ⟨(.call (some 7) 1), [.m 25], some 26, some (24, true)⟩, ⟨(.call (some 6) 2), [.m 26], some 27, some (24, true)⟩, ⟨.mv, [.m 0], some 28, some (24, true)⟩, ⟨(.call (some 8) 3), [.m 28], some 29, some (24, true)⟩, ⟨(.bin .eql .b), [.m 27, .m 29], some 30, some (24, true)⟩, ⟨.pick, [.m 24, .m 30, .k (.b false)], some 31, none⟩, ⟨.mv, [.m 31], some 2, none⟩] none)
(.drop [0, 25, 26, 27, 28, 29] .ret)))))
def l12_AliasRights_w : Orc Tb := mkOrc (Y := Bool) tab [.g (.f (.a (.sl 2)))] [] (fun x h => l12_AliasRights x.1) (fun _ y k => k (.b y) [])
theorem l12_AliasRights_k : l12_AliasRights_w.Ok Tryd.prog Wp tab 3 := orc_ok (Y := Bool) (orcs := l12_AliasRights_r) (c := l12_AliasRights_p) (res := [.tmp 2]) (n := 32) (R := (RSp.one (Y := Bool) tab (.g (.f (.a .b))) [] (fun a b => a) (fun y => y) (fun y => ()))) tabOk l12_AliasRights_rk (RSp.one_ok tabOk (fun _ _ => by kernel_rfl) (fun _ _ => by kernel_rfl)) Tryd.func3 (by kernel_rfl) (by kernel_rfl) (by kernel_rfl) (by kernel_rfl) (cS trivial (cS trivial (cS (cS trivial (cB (cD (cT l12_AliasRights_q0)))) (cS trivial (cD trivial))))) (fun _ y k => by kernel_rfl) (fun y => by kernel_rfl) (fun x h => by kernel_rfl)
end Go.Rv
