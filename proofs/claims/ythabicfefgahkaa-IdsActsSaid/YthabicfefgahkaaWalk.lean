/- That the program's functions are these plain functions. -/
import Derived.Test.YthabicfefgahkaaPure
import Derived.Test.YthabicfefgahkaaChecked
set_option linter.unusedSimpArgs false
set_option linter.unusedVariables false
set_option maxRecDepth 100000
namespace Go.Rv
open Go.Proofs
variable {Wp : World → Prop}
def ids_counts_r : Orcs Tb := []
theorem ids_counts_rk : OrcsOk Try.prog Wp tab ids_counts_r := orcs_nil
def ids_counts_p : TCode Tb :=
(.seq (.reg [⟨.mv, [.k (.b false)], some 4, none⟩] none)
(.seq (.reg [⟨.mv, [.v 1], some 5, none⟩, ⟨(.bin .eql .i), [.m 5, .k (.n .i64 0)], some 6, none⟩, ⟨.mv, [.m 6], some 7, none⟩, ⟨.mv, [.m 1], some 8, some (7, false)⟩, ⟨(.bin .gtr .i), [.m 8, .k (.n .i64 0)], some 9, some (7, false)⟩, ⟨.mv, [.m 9], some 10, some (7, false)⟩, ⟨.mv, [.m 0], some 11, some (10, true)⟩, ⟨(.bin .geq .i), [.m 11, .k (.n .i64 5)], some 12, some (10, true)⟩, ⟨.pick, [.m 10, .m 12, .k (.b false)], some 13, some (7, false)⟩, ⟨.pick, [.m 7, .k (.b true), .m 13], some 14, none⟩, ⟨.mv, [.m 14], some 4, none⟩] none)
(.drop [0, 1, 8, 9, 10, 11, 12] .ret)))
def ids_counts_w : Orc Tb := mkOrc (Y := Bool) tab [.g (.f (.a (.n .i64))), .g (.f (.a (.n .i64)))] [] (fun x h => ids_counts x.1 x.2.1) (fun _ y k => k (.b y) [])
theorem ids_counts_k : (ids_counts_w).Ok Try.prog Wp tab 20 := orc_ok (Y := Bool) (orcs := ids_counts_r) (c := ids_counts_p) (res := [.tmp 4]) (n := 15) (R := (RSp.one (Y := Bool) tab (.g (.f (.a .b))) [] (fun a b => a) (fun y => y) (fun y => ()))) tabOk ids_counts_rk (RSp.one_ok tabOk (fun _ _ => by kernel_rfl) (fun _ _ => by kernel_rfl)) Try.func20 (by kernel_rfl) (by kernel_rfl) (by kernel_rfl) (by kernel_rfl) (cS trivial (cS trivial (cD trivial))) (fun _ y k => by kernel_rfl) (fun y => by kernel_rfl) (fun x h => by kernel_rfl)
def cmp_isNaN_uint16_r : Orcs Tb := []
theorem cmp_isNaN_uint16_rk : OrcsOk Try.prog Wp tab cmp_isNaN_uint16_r := orcs_nil
def cmp_isNaN_uint16_p : TCode Tb :=
(.seq (.reg [⟨.mv, [.k (.b false)], some 2, none⟩] none)
(.seq (.reg [⟨.mv, [.v 0], some 3, none⟩, ⟨.mv, [.m 0], some 4, none⟩, ⟨(.bin .neq .i), [.m 3, .m 4], some 5, none⟩, ⟨.mv, [.m 5], some 2, none⟩] none)
.ret))
def cmp_isNaN_uint16_w : Orc Tb := mkOrc (Y := Bool) tab [.g (.f (.a .u16))] [] (fun x h => cmp_isNaN_uint16 x.1) (fun _ y k => k (.b y) [])
theorem cmp_isNaN_uint16_k : (cmp_isNaN_uint16_w).Ok Try.prog Wp tab 34 := orc_ok (Y := Bool) (orcs := cmp_isNaN_uint16_r) (c := cmp_isNaN_uint16_p) (res := [.tmp 2]) (n := 6) (R := (RSp.one (Y := Bool) tab (.g (.f (.a .b))) [] (fun a b => a) (fun y => y) (fun y => ()))) tabOk cmp_isNaN_uint16_rk (RSp.one_ok tabOk (fun _ _ => by kernel_rfl) (fun _ _ => by kernel_rfl)) Try.func34 (by kernel_rfl) (by kernel_rfl) (by kernel_rfl) (by kernel_rfl) (cS trivial (cS trivial trivial)) (fun _ y k => by kernel_rfl) (fun y => by kernel_rfl) (fun x h => by kernel_rfl)
def cmp_Compare_uint16_r : Orcs Tb := [(34, cmp_isNaN_uint16_w)]
theorem cmp_Compare_uint16_rk : OrcsOk Try.prog Wp tab cmp_Compare_uint16_r := (orcs_cons cmp_isNaN_uint16_k orcs_nil)
def cmp_Compare_uint16_p : TCode Tb :=
(.seq (.reg [⟨.mv, [.k (.n .i64 0)], some 4, none⟩] none)
(.seq (.reg [⟨.mv, [.v 0], some 7, none⟩, ⟨(.call (some 34) 0), [.m 7], some 8, none⟩, ⟨.mv, [.m 8], some 5, none⟩] none)
(.seq (.reg [⟨.mv, [.v 1], some 9, none⟩, ⟨(.call (some 34) 0), [.m 9], some 10, none⟩, ⟨.mv, [.m 10], some 6, none⟩] none)
(.seq (.seq (.reg [⟨.mv, [.m 5], some 11, none⟩] none)
(.cond 11 (.drop [0, 1, 4, 11] (.seq (.seq (.reg [⟨.mv, [.m 6], some 12, none⟩] none)
(.cond 12 (.drop [12] (.seq (.reg [⟨.mv, [.k (.n .i64 0)], some 4, none⟩] none)
.ret))
(.drop [12] .skip)))
(.seq (.reg [⟨.mv, [.k (.n .i64 (-1))], some 4, none⟩] none)
.ret)))
(.drop [4, 11] .skip)))
(.seq (.seq (.reg [⟨.mv, [.m 6], some 13, none⟩] none)
(.cond 13 (.drop [0, 1, 13] (.seq (.reg [⟨.mv, [.k (.n .i64 1)], some 4, none⟩] none)
.ret))
(.drop [13] .skip)))
(.seq (.seq (.reg [⟨.mv, [.v 0], some 14, none⟩, ⟨.mv, [.v 1], some 15, none⟩, ⟨(.bin .lss .i), [.m 14, .m 15], some 16, none⟩] none)
(.cond 16 (.drop [0, 1, 16] (.seq (.reg [⟨.mv, [.k (.n .i64 (-1))], some 4, none⟩] none)
.ret))
(.drop [16] .skip)))
(.seq (.seq (.reg [⟨.mv, [.m 0], some 17, none⟩, ⟨.mv, [.m 1], some 18, none⟩, ⟨(.bin .gtr .i), [.m 17, .m 18], some 19, none⟩] none)
(.cond 19 (.drop [19] (.seq (.reg [⟨.mv, [.k (.n .i64 1)], some 4, none⟩] none)
.ret))
(.drop [19] .skip)))
(.seq (.reg [⟨.mv, [.k (.n .i64 0)], some 4, none⟩] none)
.ret))))))))
def cmp_Compare_uint16_w : Orc Tb := mkOrc (Y := Int) tab [.g (.f (.a .u16)), .g (.f (.a .u16))] [] (fun x h => cmp_Compare_uint16 x.1 x.2.1) (fun _ y k => k (.n .i64 y) [])
theorem cmp_Compare_uint16_k : (cmp_Compare_uint16_w).Ok Try.prog Wp tab 32 := orc_ok (Y := Int) (orcs := cmp_Compare_uint16_r) (c := cmp_Compare_uint16_p) (res := [.tmp 4]) (n := 20) (R := (RSp.one (Y := Int) tab (.g (.f (.a (.n .i64)))) [] (fun a b => a) (fun y => y) (fun y => ()))) tabOk cmp_Compare_uint16_rk (RSp.one_ok tabOk (fun _ _ => by kernel_rfl) (fun _ _ => by kernel_rfl)) Try.func32 (by kernel_rfl) (by kernel_rfl) (by kernel_rfl) (by kernel_rfl) (cS trivial (cS trivial (cS trivial (cS (cS trivial (cC (cD (cS (cS trivial (cC (cD (cS trivial trivial)) (cD trivial))) (cS trivial trivial))) (cD trivial))) (cS (cS trivial (cC (cD (cS trivial trivial)) (cD trivial))) (cS (cS trivial (cC (cD (cS trivial trivial)) (cD trivial))) (cS (cS trivial (cC (cD (cS trivial trivial)) (cD trivial))) (cS trivial trivial)))))))) (fun _ y k => by kernel_rfl) (fun y => by kernel_rfl) (fun x h => by kernel_rfl)
def ids_order_r : Orcs Tb := [(32, cmp_Compare_uint16_w)]
theorem ids_order_rk : OrcsOk Try.prog Wp tab ids_order_r := (orcs_cons cmp_Compare_uint16_k orcs_nil)
def ids_order_p : TCode Tb :=
(.seq (.reg [⟨.box, [.m 0], some 2, none⟩, ⟨.box, [.m 1], some 3, none⟩, ⟨.mv, [.k (.n .i64 0)], some 4, none⟩] none)
(.seq (.reg [⟨(.fa 0), [.m 2], some 5, none⟩, ⟨(.load none), [.m 5], some 6, none⟩, ⟨(.fa 0), [.m 3], some 7, none⟩, ⟨(.load none), [.m 7], some 8, none⟩, ⟨(.call (some 32) 0), [.m 6, .m 8], some 9, none⟩, ⟨.mv, [.m 9], some 4, none⟩] none)
.ret))
def ids_order_w : Orc Tb := mkOrc (Y := Int) tab [.g (.st 1), .g (.st 1)] [] (fun x h => ids_order (⟨x.1.Id, x.1.State, x.1.N⟩ : ids_Row) (⟨x.2.1.Id, x.2.1.State, x.2.1.N⟩ : ids_Row)) (fun _ y k => k (.n .i64 y) [])
theorem ids_order_k : (ids_order_w).Ok Try.prog Wp tab 26 := orc_ok (Y := Int) (orcs := ids_order_r) (c := ids_order_p) (res := [.tmp 4]) (n := 10) (R := (RSp.one (Y := Int) tab (.g (.f (.a (.n .i64)))) [] (fun a b => a) (fun y => y) (fun y => ()))) tabOk ids_order_rk (RSp.one_ok tabOk (fun _ _ => by kernel_rfl) (fun _ _ => by kernel_rfl)) Try.func26 (by kernel_rfl) (by kernel_rfl) (by kernel_rfl) (by kernel_rfl) (cS trivial (cS trivial trivial)) (fun _ y k => by kernel_rfl) (fun y => by kernel_rfl) (fun x h => by kernel_rfl)
def slices_BinarySearchFunc_ids_Table_ids_Row_ids_Row_r : Orcs Tb := [(26, ids_order_w)]
theorem slices_BinarySearchFunc_ids_Table_ids_Row_ids_Row_rk : OrcsOk Try.prog Wp tab slices_BinarySearchFunc_ids_Table_ids_Row_ids_Row_r := (orcs_cons ids_order_k orcs_nil)
def slices_BinarySearchFunc_ids_Table_ids_Row_ids_Row_p0 : TCode Tb :=
(.seq (.seq (.reg [⟨.mv, [.v 9], some 15, none⟩, ⟨.mv, [.v 10], some 16, none⟩, ⟨(.bin .lss .i), [.m 15, .m 16], some 17, none⟩] none)
(.cond 17 (.drop [17] .skip)
(.drop [10, 17] (.exit 0))))
(.block 1 (.seq (.reg [⟨.mv, [.v 9], some 18, none⟩, ⟨.mv, [.v 10], some 19, none⟩, ⟨(.bin .add .i), [.m 18, .m 19], some 20, none⟩, ⟨(.cint .u64), [.m 20], some 21, none⟩, ⟨(.bin .shr .i), [.m 21, .k (.u64 (1 : UInt64))], some 22, none⟩, ⟨(.cint .i64), [.m 22], some 23, none⟩, ⟨.mv, [.m 23], some 11, none⟩] none)
(.seq (.reg [⟨.mv, [.v 2], some 24, none⟩, ⟨.mv, [.v 0], some 25, none⟩, ⟨.mv, [.v 11], some 26, none⟩, ⟨(.ia 3), [.v 25, .m 26], some 27, none⟩, ⟨(.load (some 3)), [.m 27], some 28, none⟩, ⟨(.load (some 3)), [.v 4], some 29, none⟩, ⟨(.call none 0), [.m 24, .m 28, .m 29], some 30, none⟩, ⟨(.bin .lss .i), [.m 30, .k (.n .i64 0)], some 31, none⟩] (some [[], [], [], [], [], [4], [], []]))
(.cond 31 (.drop [9, 25, 31] (.reg [⟨.mv, [.m 11], some 32, none⟩, ⟨(.bin .add .i), [.m 32, .k (.n .i64 1)], some 33, none⟩, ⟨.mv, [.m 33], some 9, none⟩] none))
(.drop [10, 25, 31] (.reg [⟨.mv, [.m 11], some 34, none⟩, ⟨.mv, [.m 34], some 10, none⟩] none)))))))
def slices_BinarySearchFunc_ids_Table_ids_Row_ids_Row_s0 : SSh := ⟨[(0, .g (.f (.a (.sl 1)))), (2, .g (.clo 26 [] [])), (4, .g (.f (.ref 0 0))), (8, .g (.f (.a (.n .i64)))), (9, .g (.f (.a (.n .i64)))), (10, .g (.f (.a (.n .i64))))], [[.g (.f (.a .u16)), .g (.f (.a (.n .i64))), .g (.f (.a (.n .i64)))]]⟩
def slices_BinarySearchFunc_ids_Table_ids_Row_ids_Row_o0 : Cut Tb := cutL tab 0 slices_BinarySearchFunc_ids_Table_ids_Row_ids_Row_s0 (fun x => (x.1.2.2.2.2.1, x.1.2.2.2.2.2.1)) (fun x => slices_BinarySearchFunc_ids_Table_ids_Row_ids_Row_l0 x.1.1 (⟨x.2.1.1, x.2.1.2.1, x.2.1.2.2.1⟩ : ids_Row)) (fun _ x y k => k (.exit 0) ⟨[(0, .sl 1 x.1.1), (2, .clo 26 [] []), (4, .ref 0 0), (8, .n .i64 x.1.2.2.2.1), (9, .n .i64 y)], [[.u16 ((⟨x.2.1.1, x.2.1.2.1, x.2.1.2.2.1⟩ : ids_Row).Id), .n .i64 ((⟨x.2.1.1, x.2.1.2.1, x.2.1.2.2.1⟩ : ids_Row).State), .n .i64 ((⟨x.2.1.1, x.2.1.2.1, x.2.1.2.2.1⟩ : ids_Row).N)]]⟩)
theorem slices_BinarySearchFunc_ids_Table_ids_Row_ids_Row_q0 : (slices_BinarySearchFunc_ids_Table_ids_Row_ids_Row_o0).Ok Try.prog Wp tab 0 (.loop slices_BinarySearchFunc_ids_Table_ids_Row_ids_Row_p0) := cutL_ok (c := slices_BinarySearchFunc_ids_Table_ids_Row_ids_Row_p0) (Z := Int × Int) (Y := Int) tabOk slices_BinarySearchFunc_ids_Table_ids_Row_ids_Row_rk (cS (cS trivial (cC (cD trivial) (cD trivial))) (cB (cS trivial (cS trivial (cC (cD trivial) (cD trivial)))))) (fun _ x z b e => slices_BinarySearchFunc_ids_Table_ids_Row_ids_Row_b0 x.1.1 (⟨x.2.1.1, x.2.1.2.1, x.2.1.2.2.1⟩ : ids_Row) z.1 z.2 (fun x5 x6 => b (x5, x6)) (fun y10 => e y10)) (fun x z => ⟨[(0, .sl 1 x.1.1), (2, .clo 26 [] []), (4, .ref 0 0), (8, .n .i64 x.1.2.2.2.1), (9, .n .i64 z.1), (10, .n .i64 z.2)], [[.u16 ((⟨x.2.1.1, x.2.1.2.1, x.2.1.2.2.1⟩ : ids_Row).Id), .n .i64 ((⟨x.2.1.1, x.2.1.2.1, x.2.1.2.2.1⟩ : ids_Row).State), .n .i64 ((⟨x.2.1.1, x.2.1.2.1, x.2.1.2.2.1⟩ : ids_Row).N)]]⟩) (fun x y => ((.exit 0), ⟨[(0, .sl 1 x.1.1), (2, .clo 26 [] []), (4, .ref 0 0), (8, .n .i64 x.1.2.2.2.1), (9, .n .i64 y)], [[.u16 ((⟨x.2.1.1, x.2.1.2.1, x.2.1.2.2.1⟩ : ids_Row).Id), .n .i64 ((⟨x.2.1.1, x.2.1.2.1, x.2.1.2.2.1⟩ : ids_Row).State), .n .i64 ((⟨x.2.1.1, x.2.1.2.1, x.2.1.2.2.1⟩ : ids_Row).N)]]⟩)) (fun t => (prjS tab 0 slices_BinarySearchFunc_ids_Table_ids_Row_ids_Row_s0 t).bind fun x => some (x.1.2.2.2.2.1, x.1.2.2.2.2.2.1)) (fun e t => (if eqE e (.exit 0) then (prjS tab 0 ⟨[(0, .g (.f (.a (.sl 1)))), (2, .g (.clo 26 [] [])), (4, .g (.f (.ref 0 0))), (8, .g (.f (.a (.n .i64)))), (9, .g (.f (.a (.n .i64))))], [[.g (.f (.a .u16)), .g (.f (.a (.n .i64))), .g (.f (.a (.n .i64)))]]⟩ t).bind fun v => some v.1.2.2.2.2.1 else none)) (fun x => by kernel_rfl) (fun x z => by kernel_rfl) (fun x y k => by kernel_rfl) (fun x y => by exact nofun) (fun x z => by kernel_rfl) (fun x y => by kernel_rfl) (fun x z k => by kernel_rfl)
def slices_BinarySearchFunc_ids_Table_ids_Row_ids_Row_p : TCode Tb :=
(.seq (.reg [⟨.box, [.m 1], some 4, none⟩, ⟨.mv, [.k (.n .i64 0)], some 6, none⟩, ⟨.mv, [.k (.b false)], some 7, none⟩] none)
(.seq (.reg [⟨.mv, [.v 0], some 12, none⟩, ⟨.len, [.m 12], some 13, none⟩, ⟨.mv, [.m 13], some 8, none⟩] none)
(.seq (.reg [⟨.mv, [.v 8], some 14, none⟩, ⟨.mv, [.k (.n .i64 0)], some 9, none⟩, ⟨.mv, [.m 14], some 10, none⟩] none)
(.seq (.block 0 (.drop [6, 7] (.cut 0 slices_BinarySearchFunc_ids_Table_ids_Row_ids_Row_o0 (.loop slices_BinarySearchFunc_ids_Table_ids_Row_ids_Row_p0))))
(.seq (.reg [⟨.mv, [.v 9], some 35, none⟩, ⟨.mv, [.v 9], some 36, none⟩, ⟨.mv, [.m 8], some 37, none⟩, ⟨(.bin .lss .i), [.m 36, .m 37], some 38, none⟩, ⟨.mv, [.m 38], some 39, none⟩, ⟨.mv, [.m 2], some 40, some (39, true)⟩, ⟨.mv, [.m 0], some 41, some (39, true)⟩, ⟨.mv, [.v 9], some 42, some (39, true)⟩, ⟨(.ia 3), [.v 41, .m 42], some 43, some (39, true)⟩, ⟨(.load (some 3)), [.m 43], some 44, some (39, true)⟩, ⟨(.load (some 3)), [.m 4], some 45, some (39, true)⟩, ⟨(.call none 0), [.m 40, .m 44, .m 45], some 46, some (39, true)⟩, ⟨(.bin .eql .i), [.m 46, .k (.n .i64 0)], some 47, some (39, true)⟩, ⟨.pick, [.m 39, .m 47, .k (.b false)], some 48, none⟩, ⟨.mv, [.m 35], some 6, none⟩, ⟨.mv, [.m 48], some 7, none⟩] (some [[], [], [], [], [], [], [], [], [], [], [9], [], [], [], [], []]))
(.drop [0, 2, 4, 9, 40, 41, 42, 43, 44, 45, 46] .ret))))))
def slices_BinarySearchFunc_ids_Table_ids_Row_ids_Row_w : Orc Tb := mkOrc (Y := Int × Bool) tab [.g (.f (.a (.sl 1))), .g (.st 1), .g (.clo 26 [] [])] [] (fun x h => slices_BinarySearchFunc_ids_Table_ids_Row_ids_Row x.1 (⟨x.2.1.Id, x.2.1.State, x.2.1.N⟩ : ids_Row)) (fun _ y k => k (.tup [.n .i64 y.1, .b y.2]) [])
theorem slices_BinarySearchFunc_ids_Table_ids_Row_ids_Row_k : (slices_BinarySearchFunc_ids_Table_ids_Row_ids_Row_w).Ok Try.prog Wp tab 29 := orc_ok (Y := Int × Bool) (orcs := slices_BinarySearchFunc_ids_Table_ids_Row_ids_Row_r) (c := slices_BinarySearchFunc_ids_Table_ids_Row_ids_Row_p) (res := [.tmp 6, .tmp 7]) (n := 49) (R := (RSp.one (Y := Int × Bool) tab (.tup [.f (.a (.n .i64)), .f (.a .b)]) [] (fun a b => (a.1, a.2.1)) (fun y => (y.1, y.2, ())) (fun y => ()))) tabOk slices_BinarySearchFunc_ids_Table_ids_Row_ids_Row_rk (RSp.one_ok tabOk (fun _ _ => by kernel_rfl) (fun _ _ => by kernel_rfl)) Try.func29 (by kernel_rfl) (by kernel_rfl) (by kernel_rfl) (by kernel_rfl) (cS trivial (cS trivial (cS trivial (cS (cB (cD (cT slices_BinarySearchFunc_ids_Table_ids_Row_ids_Row_q0))) (cS trivial (cD trivial)))))) (fun _ y k => by kernel_rfl) (fun y => by kernel_rfl) (fun x h => by kernel_rfl)
def ids_find_r : Orcs Tb := [(29, slices_BinarySearchFunc_ids_Table_ids_Row_ids_Row_w)]
theorem ids_find_rk : OrcsOk Try.prog Wp tab ids_find_r := (orcs_cons slices_BinarySearchFunc_ids_Table_ids_Row_ids_Row_k orcs_nil)
def ids_find_p : TCode Tb :=
(.seq (.reg [⟨.mv, [.k (.n .i64 0)], some 4, none⟩, ⟨.mv, [.k (.b false)], some 5, none⟩] none)
(.seq (.reg [⟨.mv, [.m 0], some 6, none⟩, ⟨.mv, [.m 1], some 7, none⟩, ⟨(.build [.u16 (0 : UInt16), .n .i64 0, .n .i64 0] [(0, 1)]), [.m 7], some 8, none⟩, ⟨(.call (some 29) 0), [.m 6, .m 8, .k (.clo 26 [] [])], some 9, none⟩, ⟨.extm, [.c 9 0], some 10, none⟩, ⟨(.ext 1), [.m 9], some 11, none⟩, ⟨.mv, [.m 10], some 4, none⟩, ⟨.mv, [.m 11], some 5, none⟩] none)
.ret))
def ids_find_w : Orc Tb := mkOrc (Y := Int × Bool) tab [.g (.f (.a (.sl 1))), .g (.f (.a .u16))] [] (fun x h => ids_find x.1 x.2.1) (fun _ y k => k (.tup [.n .i64 y.1, .b y.2]) [])
theorem ids_find_k : (ids_find_w).Ok Try.prog Wp tab 21 := orc_ok (Y := Int × Bool) (orcs := ids_find_r) (c := ids_find_p) (res := [.tmp 4, .tmp 5]) (n := 12) (R := (RSp.one (Y := Int × Bool) tab (.tup [.f (.a (.n .i64)), .f (.a .b)]) [] (fun a b => (a.1, a.2.1)) (fun y => (y.1, y.2, ())) (fun y => ()))) tabOk ids_find_rk (RSp.one_ok tabOk (fun _ _ => by kernel_rfl) (fun _ _ => by kernel_rfl)) Try.func21 (by kernel_rfl) (by kernel_rfl) (by kernel_rfl) (by kernel_rfl) (cS trivial (cS trivial trivial)) (fun _ y k => by kernel_rfl) (fun y => by kernel_rfl) (fun x h => by kernel_rfl)
def slices_Clone_ids_Table_ids_Row_o_r : Orcs Tb := []
theorem slices_Clone_ids_Table_ids_Row_o_rk : OrcsOk Try.prog Wp tab slices_Clone_ids_Table_ids_Row_o_r := orcs_nil
def slices_Clone_ids_Table_ids_Row_o_p : TCode Tb :=
(.seq (.reg [⟨.mv, [.k (.nilS)], some 2, none⟩] none)
(.seq (.seq (.reg [⟨.mv, [.v 0], some 3, none⟩, ⟨(.bin .eql .sl), [.v 3, .k (.nilS)], some 4, none⟩] none)
(.cond 4 (.drop [0, 2, 3, 4] (.seq (.reg [⟨.mv, [.k (.nilS)], some 2, none⟩] none)
.ret))
(.drop [2, 3, 4] .skip)))
(.seq (.reg [⟨(.bslice 1 0 ((⟨(0 : UInt16), 0, 0⟩ : ids_Row) : ids_Row) []), [], some 5, none⟩, ⟨.mv, [.m 0], some 6, none⟩, ⟨(.app 3 24), [.m 5, .m 6], some 7, none⟩, ⟨.mv, [.m 7], some 2, none⟩] none)
.ret)))
def slices_Clone_ids_Table_ids_Row_o_w : Orc Tb := mkOrc (Y := (Option (List ids_Row))) tab [.g (.f (.a (.sl 1)))] [] (fun x h => slices_Clone_ids_Table_ids_Row_o x.1) (fun _ y k => k (.ow 1 y) [])
theorem slices_Clone_ids_Table_ids_Row_o_k : (slices_Clone_ids_Table_ids_Row_o_w).Ok Try.prog Wp tab 23 := orc_ok (Y := (Option (List ids_Row))) (orcs := slices_Clone_ids_Table_ids_Row_o_r) (c := slices_Clone_ids_Table_ids_Row_o_p) (res := [.tmp 2]) (n := 8) (R := (RSp.one (Y := (Option (List ids_Row))) tab (.g (.f (.ow 1))) [] (fun a b => a) (fun y => y) (fun y => ()))) tabOk slices_Clone_ids_Table_ids_Row_o_rk (RSp.one_ok tabOk (fun _ _ => by kernel_rfl) (fun _ _ => by kernel_rfl)) Try.func23 (by kernel_rfl) (by kernel_rfl) (by kernel_rfl) (by kernel_rfl) (cS trivial (cS (cS trivial (cC (cD (cS trivial trivial)) (cD trivial))) (cS trivial trivial))) (fun _ y k => by kernel_rfl) (fun y => by kernel_rfl) (fun x h => by kernel_rfl)
def slices_Clone_ids_Table_ids_Row_v_r : Orcs Tb := []
theorem slices_Clone_ids_Table_ids_Row_v_rk : OrcsOk Try.prog Wp tab slices_Clone_ids_Table_ids_Row_v_r := orcs_nil
def slices_Clone_ids_Table_ids_Row_v_p : TCode Tb :=
(.seq (.reg [⟨.mv, [.k (.nilS)], some 2, none⟩] none)
(.seq (.seq (.reg [⟨.mv, [.v 0], some 3, none⟩, ⟨(.bin .eql .sl), [.v 3, .k (.nilS)], some 4, none⟩] none)
(.cond 4 (.drop [0, 2, 3, 4] (.seq (.reg [⟨.mv, [.k (.nilS)], some 2, none⟩] none)
.ret))
(.drop [2, 3, 4] .skip)))
(.seq (.reg [⟨(.bslice 1 0 ((⟨(0 : UInt16), 0, 0⟩ : ids_Row) : ids_Row) []), [], some 5, none⟩, ⟨.mv, [.m 0], some 6, none⟩, ⟨(.appv 1 24), [.m 5, .m 6], some 7, none⟩, ⟨.mv, [.m 7], some 2, none⟩] none)
.ret)))
def slices_Clone_ids_Table_ids_Row_v_w : Orc Tb := mkOrc (Y := ((Option (List ids_Row))) ⊕ (Nat × (List ids_Row))) tab [.g (.f (.a (.sl 1)))] [] (fun x h => slices_Clone_ids_Table_ids_Row_v x.1) (fun _ y k => match y with | .inl y => k (.ow 1 y) [] | .inr y => k (.vw 1 0 y.1) [[.blk 1 y.2]])
theorem slices_Clone_ids_Table_ids_Row_v_k : (slices_Clone_ids_Table_ids_Row_v_w).Ok Try.prog Wp tab 23 := orc_ok (Y := ((Option (List ids_Row))) ⊕ (Nat × (List ids_Row))) (orcs := slices_Clone_ids_Table_ids_Row_v_r) (c := slices_Clone_ids_Table_ids_Row_v_p) (res := [.tmp 2]) (n := 8) (R := (RSp.or (RSp.one (Y := (Option (List ids_Row))) tab (.g (.f (.ow 1))) [] (fun a b => a) (fun y => y) (fun y => ())) (RSp.one (Y := Nat × (List ids_Row)) tab (.g (.f (.vw 1 0))) [[.g (.f (.blk 1))]] (fun a b => (a, b.1.1)) (fun y => y.1) (fun y => ((y.2, ()), ()))))) tabOk slices_Clone_ids_Table_ids_Row_v_rk (RSp.or_ok (RSp.one_ok tabOk (fun _ _ => by kernel_rfl) (fun _ _ => by kernel_rfl)) (RSp.one_ok tabOk (fun _ _ => by kernel_rfl) (fun _ _ => by kernel_rfl))) Try.func23 (by kernel_rfl) (by kernel_rfl) (by kernel_rfl) (by kernel_rfl) (cS trivial (cS (cS trivial (cC (cD (cS trivial trivial)) (cD trivial))) (cS trivial trivial))) (fun _ y k => by rcases y with y | y <;> kernel_rfl) (fun y => by rcases y with y | y <;> kernel_rfl) (fun x h => by kernel_rfl)
def slices_Clone_ids_Table_ids_Row_w : Orc Tb := cloneW tab 1 24
theorem slices_Clone_ids_Table_ids_Row_k : (slices_Clone_ids_Table_ids_Row_w).Ok Try.prog Wp tab 23 := clone_ok (o1 := slices_Clone_ids_Table_ids_Row_o_w) (o2 := slices_Clone_ids_Table_ids_Row_v_w) tabOk slices_Clone_ids_Table_ids_Row_o_k slices_Clone_ids_Table_ids_Row_v_k (.ow 1 none) rfl (by kernel_rfl) (by kernel_rfl) (fun x xs hc => ⟨_, _, rfl, rfl, by
  have e : slices_Clone_ids_Table_ids_Row_v (some (x :: xs)) = some (.inr (xs.length + 1, x :: xs)) := by
    show ((chk (decide ((xs.length + 1) * 24 ≤ room ∧ xs.length + 1 ≤ room))).bind fun _ => (some (.inr (xs.length + 1, x :: xs)) : Option ((Option (List ids_Row)) ⊕ (Nat × (List ids_Row))))) = _
    rw [show chk (decide ((xs.length + 1) * 24 ≤ room ∧ xs.length + 1 ≤ room)) = some () by rw [decide_eq_true hc]; rfl]
    rfl
  show (slices_Clone_ids_Table_ids_Row_v (some (x :: xs))).bind (fun y => match y with | .inl y => (some (TV.ow 1 y, []) : Option (TV Tb × THeap Tb)) | .inr y => some (TV.vw 1 0 y.1, [[TV.blk 1 y.2]])) = _
  rw [e]
  rfl⟩)
def slices_Insert_ids_Table_ids_Row_w : Orc Tb := insW tab 1
theorem slices_Insert_ids_Table_ids_Row_k : (slices_Insert_ids_Table_ids_Row_w).Ok Try.prog Wp tab 22 := insW_ok tabOk 1 rfl
def ids_Open_r : Orcs Tb := [(20, ids_counts_w), (21, ids_find_w), (23, slices_Clone_ids_Table_ids_Row_w), (22, slices_Insert_ids_Table_ids_Row_w)]
theorem ids_Open_rk : OrcsOk Try.prog Wp tab ids_Open_r := (orcs_cons ids_counts_k (orcs_cons ids_find_k (orcs_cons slices_Clone_ids_Table_ids_Row_k (orcs_cons slices_Insert_ids_Table_ids_Row_k orcs_nil))))
def ids_Open_p0 : TCode Tb :=
(.seq (.seq (.reg [⟨.mv, [.v 1], some 27, none⟩, ⟨(.bin .eql .i), [.m 27, .k (.u16 (0 : UInt16))], some 28, none⟩, ⟨.mv, [.m 28], some 29, none⟩, ⟨.mv, [.m 10], some 30, some (29, false)⟩, ⟨(.un .not), [.m 30], some 31, some (29, false)⟩, ⟨.pick, [.m 29, .k (.b true), .m 31], some 32, none⟩, ⟨.mv, [.m 32], some 33, none⟩, ⟨.mv, [.v 2], some 34, some (33, false)⟩, ⟨.mv, [.v 3], some 35, some (33, false)⟩, ⟨(.call (some 20) 0), [.m 34, .m 35], some 36, some (33, false)⟩, ⟨(.un .not), [.m 36], some 37, some (33, false)⟩, ⟨.pick, [.m 33, .k (.b true), .m 37], some 38, none⟩] none)
(.drop [10, 30, 34, 35, 36] (.cond 38 (.drop [1, 2, 3, 38] (.seq (.reg [⟨.mv, [.m 0], some 39, none⟩, ⟨.mv, [.m 39], some 8, none⟩, ⟨.mv, [.k (.n .i64 1)], some 9, none⟩] none)
.ret))
(.drop [38] .skip))))
(.seq (.reg [⟨.mv, [.v 0], some 41, none⟩, ⟨.mv, [.v 1], some 42, none⟩, ⟨(.call (some 21) 1), [.m 41, .m 42], some 43, none⟩, ⟨.mv, [.m 43], some 40, none⟩, ⟨.extm, [.c 40 0], some 44, none⟩, ⟨(.ext 1), [.m 40], some 45, none⟩, ⟨.mv, [.m 44], some 11, none⟩, ⟨.mv, [.m 45], some 12, none⟩] none)
(.seq (.seq (.reg [⟨.mv, [.m 12], some 46, none⟩] none)
(.cond 46 (.drop [1, 2, 3, 11, 46] (.seq (.reg [⟨.mv, [.m 0], some 47, none⟩, ⟨.mv, [.m 47], some 8, none⟩, ⟨.mv, [.k (.n .i64 7)], some 9, none⟩] none)
.ret))
(.drop [46] .skip)))
(.seq (.reg [⟨.mv, [.m 0], some 48, none⟩, ⟨(.call (some 23) 2), [.m 48], some 49, none⟩, ⟨.mv, [.m 11], some 50, none⟩, ⟨.mv, [.m 1], some 51, none⟩, ⟨.mv, [.m 2], some 52, none⟩, ⟨.mv, [.m 3], some 53, none⟩, ⟨(.build [.u16 (0 : UInt16), .n .i64 0, .n .i64 0] [(0, 1), (1, 1), (2, 1)]), [.m 51, .m 52, .m 53], some 54, none⟩, ⟨(.bslice 1 1 ((⟨(0 : UInt16), 0, 0⟩ : ids_Row) : ids_Row) [0]), [.m 54], some 55, none⟩, ⟨(.call (some 22) 3), [.m 49, .m 50, .m 55], some 56, none⟩, ⟨.mv, [.m 56], some 8, none⟩, ⟨.mv, [.k (.n .i64 0)], some 9, none⟩] none)
.ret))))
def ids_Open_s0 : SSh := ⟨[(0, .g (.f (.a (.sl 1)))), (1, .g (.f (.a .u16))), (2, .g (.f (.a (.n .i64)))), (3, .g (.f (.a (.n .i64)))), (10, .g (.f (.a .b)))], []⟩
def ids_Open_o0 : Cut Tb := cutJ tab 0 ids_Open_s0 (fun _ x k => ids_Open_c0 x.1.1 x.1.2.1 x.1.2.2.1 x.1.2.2.2.1 x.1.2.2.2.2.1 (fun y17 => k .ret ⟨[(8, .sl 1 x.1.1), (9, .n .i64 y17)], []⟩) (fun y18 => k .ret ⟨[(8, .ow 1 y18), (9, .n .i64 0)], []⟩) (fun y19 => k .ret ⟨[(8, .sl 1 y19), (9, .n .i64 0)], [[]]⟩))
theorem ids_Open_q0 : (ids_Open_o0).Ok Try.prog Wp tab 0 ids_Open_p0 := cutJ_ok (c := ids_Open_p0) tabOk ids_Open_rk (cS (cS trivial (cD (cC (cD (cS trivial trivial)) (cD trivial)))) (cS trivial (cS (cS trivial (cC (cD (cS trivial trivial)) (cD trivial))) (cS trivial trivial)))) (fun _ _ => by kernel_rfl)
def ids_Open_p : TCode Tb :=
(.seq (.reg [⟨.mv, [.k (.nilS)], some 8, none⟩, ⟨.mv, [.k (.n .i64 0)], some 9, none⟩] none)
(.seq (.reg [⟨.mv, [.v 2], some 13, none⟩, ⟨(.bin .eql .i), [.m 13, .k (.n .i64 1)], some 14, none⟩, ⟨.mv, [.m 14], some 15, none⟩, ⟨.mv, [.v 2], some 16, some (15, false)⟩, ⟨(.bin .eql .i), [.m 16, .k (.n .i64 2)], some 17, some (15, false)⟩, ⟨.pick, [.m 15, .k (.b true), .m 17], some 18, none⟩, ⟨.mv, [.m 18], some 19, none⟩, ⟨.mv, [.v 2], some 20, some (19, false)⟩, ⟨(.bin .eql .i), [.m 20, .k (.n .i64 5)], some 21, some (19, false)⟩, ⟨.pick, [.m 19, .k (.b true), .m 21], some 22, none⟩, ⟨.mv, [.m 22], some 23, none⟩, ⟨.mv, [.v 2], some 24, some (23, false)⟩, ⟨(.bin .eql .i), [.m 24, .k (.n .i64 6)], some 25, some (23, false)⟩, ⟨.pick, [.m 23, .k (.b true), .m 25], some 26, none⟩, ⟨.mv, [.m 26], some 10, none⟩] none)
(.drop [8, 9, 16, 20, 24] (.cut 0 ids_Open_o0 ids_Open_p0))))
def ids_Open_w : Orc Tb := mkOrc (Y := (Option (List ids_Row)) × Int) tab [.g (.f (.a (.sl 1))), .g (.f (.a .u16)), .g (.f (.a (.n .i64))), .g (.f (.a (.n .i64)))] [] (fun x h => ids_Open x.1 x.2.1 x.2.2.1 x.2.2.2.1) (fun _ y k => k (.tup [.sl 1 y.1, .n .i64 y.2]) [])
theorem ids_Open_k : (ids_Open_w).Ok Try.prog Wp tab 7 := orc_ok (Y := (Option (List ids_Row)) × Int) (orcs := ids_Open_r) (c := ids_Open_p) (res := [.tmp 8, .tmp 9]) (n := 57) (R := (RSp.one (Y := (Option (List ids_Row)) × Int) tab (.tup [.f (.a (.sl 1)), .f (.a (.n .i64))]) [] (fun a b => (a.1, a.2.1)) (fun y => (y.1, y.2, ())) (fun y => ()))) tabOk ids_Open_rk (RSp.one_ok tabOk (fun _ _ => by kernel_rfl) (fun _ _ => by kernel_rfl)) Try.func7 (by kernel_rfl) (by kernel_rfl) (by kernel_rfl) (by kernel_rfl) (cS trivial (cS trivial (cD (cT ids_Open_q0)))) (fun _ y k => by kernel_rfl) (fun y => by kernel_rfl) (fun x h => by kernel_rfl)
def ids_needs_r : Orcs Tb := []
theorem ids_needs_rk : OrcsOk Try.prog Wp tab ids_needs_r := orcs_nil
def ids_needs_p0 : TCode Tb :=
(.cond 4 (.drop [3, 4] (.seq (.reg [⟨.mv, [.m 0], some 9, none⟩, ⟨(.bin .add .i), [.k (.n .i64 1), .m 9], some 10, none⟩, ⟨(.bin .sub .i), [.m 10, .k (.n .i64 4)], some 11, none⟩, ⟨.mv, [.m 11], some 2, none⟩] none)
.ret))
(.drop [0, 4] (.seq (.reg [⟨(.bin .eql .i), [.v 3, .k (.n .i64 9)], some 13, none⟩, ⟨.mv, [.m 13], some 12, none⟩] none)
(.cond 12 (.drop [3, 12] (.seq (.reg [⟨.mv, [.k (.n .i64 5)], some 2, none⟩] none)
.ret))
(.drop [12] (.seq (.reg [⟨(.bin .eql .i), [.m 3, .k (.n .i64 11)], some 15, none⟩, ⟨.mv, [.m 15], some 14, none⟩] none)
(.cond 14 (.drop [14] (.seq (.reg [⟨.mv, [.k (.n .i64 6)], some 2, none⟩] none)
.ret))
(.drop [14] .skip))))))))
def ids_needs_s0 : SSh := ⟨[(0, .g (.f (.a (.n .i64)))), (3, .g (.f (.a (.n .i64)))), (4, .g (.f (.a .b)))], []⟩
def ids_needs_o0 : Cut Tb := cutJ tab 0 ids_needs_s0 (fun _ x k => ids_needs_c0 x.1.1 x.1.2.1 x.1.2.2.1 (fun y5 => k .ret ⟨[(2, .n .i64 y5)], []⟩) (k .normal ⟨[], []⟩))
theorem ids_needs_q0 : (ids_needs_o0).Ok Try.prog Wp tab 0 ids_needs_p0 := cutJ_ok (c := ids_needs_p0) tabOk ids_needs_rk (cC (cD (cS trivial trivial)) (cD (cS trivial (cC (cD (cS trivial trivial)) (cD (cS trivial (cC (cD (cS trivial trivial)) (cD trivial)))))))) (fun _ _ => by kernel_rfl)
def ids_needs_p : TCode Tb :=
(.seq (.reg [⟨.mv, [.k (.n .i64 0)], some 2, none⟩] none)
(.seq (.seq (.reg [⟨.mv, [.v 0], some 3, none⟩] none)
(.block 0 (.seq (.seq (.reg [⟨(.bin .eql .i), [.v 3, .k (.n .i64 4)], some 5, none⟩, ⟨.mv, [.m 5], some 4, none⟩] none)
(.cond 4 (.drop [2] .skip)
(.drop [2, 4] (.seq (.reg [⟨(.bin .eql .i), [.v 3, .k (.n .i64 5)], some 6, none⟩, ⟨.mv, [.m 6], some 4, none⟩] none)
(.cond 4 .skip
(.drop [4] (.seq (.reg [⟨(.bin .eql .i), [.v 3, .k (.n .i64 6)], some 7, none⟩, ⟨.mv, [.m 7], some 4, none⟩] none)
(.cond 4 .skip
(.drop [4] (.reg [⟨(.bin .eql .i), [.v 3, .k (.n .i64 7)], some 8, none⟩, ⟨.mv, [.m 8], some 4, none⟩] none))))))))))
(.cut 0 ids_needs_o0 ids_needs_p0))))
(.seq (.reg [⟨.mv, [.k (.n .i64 0)], some 2, none⟩] none)
.ret)))
def ids_needs_w : Orc Tb := mkOrc (Y := Int) tab [.g (.f (.a (.n .i64)))] [] (fun x h => ids_needs x.1) (fun _ y k => k (.n .i64 y) [])
theorem ids_needs_k : (ids_needs_w).Ok Try.prog Wp tab 24 := orc_ok (Y := Int) (orcs := ids_needs_r) (c := ids_needs_p) (res := [.tmp 2]) (n := 16) (R := (RSp.one (Y := Int) tab (.g (.f (.a (.n .i64)))) [] (fun a b => a) (fun y => y) (fun y => ()))) tabOk ids_needs_rk (RSp.one_ok tabOk (fun _ _ => by kernel_rfl) (fun _ _ => by kernel_rfl)) Try.func24 (by kernel_rfl) (by kernel_rfl) (by kernel_rfl) (by kernel_rfl) (cS trivial (cS (cS trivial (cB (cS (cS trivial (cC (cD trivial) (cD (cS trivial (cC trivial (cD (cS trivial (cC trivial (cD trivial))))))))) (cT ids_needs_q0)))) (cS trivial trivial))) (fun _ y k => by kernel_rfl) (fun y => by kernel_rfl) (fun x h => by kernel_rfl)
def slices_Delete_ids_Table_ids_Row_w : Orc Tb := delV tab 1
theorem slices_Delete_ids_Table_ids_Row_k : (slices_Delete_ids_Table_ids_Row_w).Ok Try.prog Wp tab 25 := delV_ok tabOk 1 rfl
def ids_Turn_r : Orcs Tb := [(24, ids_needs_w), (21, ids_find_w), (23, slices_Clone_ids_Table_ids_Row_w), (25, slices_Delete_ids_Table_ids_Row_w)]
theorem ids_Turn_rk : OrcsOk Try.prog Wp tab ids_Turn_r := (orcs_cons ids_needs_k (orcs_cons ids_find_k (orcs_cons slices_Clone_ids_Table_ids_Row_k (orcs_cons slices_Delete_ids_Table_ids_Row_k orcs_nil))))
def ids_Turn_p0 : TCode Tb :=
(.seq (.reg [⟨.mv, [.m 0], some 52, none⟩, ⟨(.call (some 23) 2), [.m 52], some 53, none⟩, ⟨.mv, [.m 53], some 15, none⟩] none)
(.seq (.seq (.reg [⟨.mv, [.v 1], some 54, none⟩, ⟨(.bin .eql .i), [.m 54, .k (.n .i64 6)], some 55, none⟩, ⟨.mv, [.m 55], some 56, none⟩, ⟨.mv, [.m 1], some 57, some (56, false)⟩, ⟨(.bin .eql .i), [.m 57, .k (.n .i64 5)], some 58, some (56, false)⟩, ⟨.mv, [.m 58], some 59, some (56, false)⟩, ⟨.mv, [.m 3], some 60, some (59, true)⟩, ⟨(.un .not), [.m 60], some 61, some (59, true)⟩, ⟨.pick, [.m 59, .m 61, .k (.b false)], some 62, some (56, false)⟩, ⟨.pick, [.m 56, .k (.b true), .m 62], some 63, none⟩] none)
(.drop [1, 3, 57, 58, 59, 60, 61] (.cond 63 (.drop [63] (.seq (.reg [⟨.mv, [.v 15], some 64, none⟩, ⟨.mv, [.m 13], some 65, none⟩, ⟨(.ia 3), [.v 64, .v 65], some 66, none⟩, ⟨(.fa 1), [.m 66], some 67, none⟩, ⟨(.load none), [.m 67], some 68, none⟩, ⟨(.bin .add .i), [.m 68, .k (.n .i64 1)], some 69, none⟩, ⟨(.ia 3), [.v 64, .m 65], some 70, none⟩, ⟨(.fa 1), [.m 70], some 71, none⟩, ⟨(.store 1), [.m 71, .m 69], none, none⟩] none)
(.seq (.reg [⟨.mv, [.m 15], some 72, none⟩, ⟨.mv, [.m 72], some 10, none⟩, ⟨.mv, [.k (.n .i64 0)], some 11, none⟩] none)
.ret)))
(.drop [63] .skip))))
(.seq (.reg [⟨.mv, [.m 15], some 73, none⟩, ⟨.mv, [.v 13], some 74, none⟩, ⟨.mv, [.m 13], some 75, none⟩, ⟨(.bin .add .i), [.m 75, .k (.n .i64 1)], some 76, none⟩, ⟨(.call (some 25) 3), [.m 73, .m 74, .m 76], some 77, none⟩, ⟨.mv, [.m 77], some 10, none⟩, ⟨.mv, [.k (.n .i64 0)], some 11, none⟩] none)
.ret)))
def ids_Turn_s0 : SSh := ⟨[(0, .g (.f (.a (.sl 1)))), (1, .g (.f (.a (.n .i64)))), (3, .g (.f (.a .b))), (13, .g (.f (.a (.n .i64))))], []⟩
def ids_Turn_o0 : Cut Tb := cutJ tab 0 ids_Turn_s0 (fun _ x k => ids_Turn_c0 x.1.1 x.1.2.1 x.1.2.2.1 x.1.2.2.2.1 (fun y28 y29 y30 => k .ret ⟨[(10, .vw 1 0 y28), (11, .n .i64 0), (64, .vw 1 0 y29)], [[.blk 1 y30]]⟩) (fun y31 => k .ret ⟨[(10, .sl 1 y31), (11, .n .i64 0)], [[]]⟩))
theorem ids_Turn_q0 : (ids_Turn_o0).Ok Try.prog Wp tab 0 ids_Turn_p0 := cutJ_ok (c := ids_Turn_p0) tabOk ids_Turn_rk (cS trivial (cS (cS trivial (cD (cC (cD (cS trivial (cS trivial trivial))) (cD trivial)))) (cS trivial trivial))) (fun _ _ => by kernel_rfl)
def ids_Turn_p : TCode Tb :=
(.fend 0 (.seq (.reg [⟨.mv, [.k (.nilS)], some 10, none⟩, ⟨.mv, [.k (.n .i64 0)], some 11, none⟩] none)
(.seq (.reg [⟨.mv, [.v 1], some 16, none⟩, ⟨(.call (some 24) 0), [.m 16], some 17, none⟩, ⟨.mv, [.m 17], some 12, none⟩] none)
(.seq (.seq (.reg [⟨.mv, [.v 12], some 18, none⟩, ⟨(.bin .eql .i), [.m 18, .k (.n .i64 0)], some 19, none⟩] none)
(.cond 19 (.drop [1, 2, 3, 4, 10, 11, 12, 19] (.seq (.reg [⟨.mv, [.m 0], some 20, none⟩, ⟨.mv, [.m 20], some 10, none⟩, ⟨.mv, [.k (.n .i64 1)], some 11, none⟩] none)
.ret))
(.drop [10, 11, 19] .skip)))
(.seq (.reg [⟨.mv, [.v 0], some 22, none⟩, ⟨.mv, [.m 2], some 23, none⟩, ⟨(.call (some 21) 1), [.m 22, .m 23], some 24, none⟩, ⟨.mv, [.m 24], some 21, none⟩, ⟨.extm, [.c 21 0], some 25, none⟩, ⟨(.ext 1), [.m 21], some 26, none⟩, ⟨.mv, [.m 25], some 13, none⟩, ⟨.mv, [.m 26], some 14, none⟩] none)
(.seq (.seq (.reg [⟨.mv, [.m 14], some 27, none⟩, ⟨(.un .not), [.m 27], some 28, none⟩, ⟨.mv, [.m 28], some 29, none⟩, ⟨.mv, [.v 0], some 30, some (29, false)⟩, ⟨.mv, [.v 13], some 31, some (29, false)⟩, ⟨(.ia 3), [.v 30, .m 31], some 32, some (29, false)⟩, ⟨(.fa 1), [.m 32], some 33, some (29, false)⟩, ⟨(.load none), [.m 33], some 34, some (29, false)⟩, ⟨.mv, [.v 12], some 35, some (29, false)⟩, ⟨(.bin .neq .i), [.m 34, .m 35], some 36, some (29, false)⟩, ⟨.pick, [.m 29, .k (.b true), .m 36], some 37, none⟩, ⟨.mv, [.m 37], some 38, none⟩, ⟨.mv, [.m 12], some 39, some (38, false)⟩, ⟨(.bin .geq .i), [.m 39, .k (.n .i64 5)], some 40, some (38, false)⟩, ⟨.mv, [.m 40], some 41, some (38, false)⟩, ⟨.mv, [.v 0], some 42, some (41, true)⟩, ⟨.mv, [.v 13], some 43, some (41, true)⟩, ⟨(.ia 3), [.v 42, .m 43], some 44, some (41, true)⟩, ⟨(.fa 2), [.m 44], some 45, some (41, true)⟩, ⟨(.load none), [.m 45], some 46, some (41, true)⟩, ⟨.mv, [.m 4], some 47, some (41, true)⟩, ⟨(.bin .neq .i), [.m 46, .m 47], some 48, some (41, true)⟩, ⟨.pick, [.m 41, .m 48, .k (.b false)], some 49, some (38, false)⟩, ⟨.pick, [.m 38, .k (.b true), .m 49], some 50, none⟩] none)
(.drop [4, 12, 30, 31, 32, 33, 34, 35, 39, 40, 41, 42, 43, 44, 45, 46, 47, 48] (.cond 50 (.drop [1, 3, 13, 50] (.seq (.reg [⟨.mv, [.m 0], some 51, none⟩, ⟨.mv, [.m 51], some 10, none⟩, ⟨.mv, [.k (.n .i64 8)], some 11, none⟩] none)
.ret))
(.drop [50] .skip))))
(.cut 0 ids_Turn_o0 ids_Turn_p0)))))))
def ids_Turn_w : Orc Tb := mkOrc (Y := (Option (List ids_Row)) × Int) tab [.g (.f (.a (.sl 1))), .g (.f (.a (.n .i64))), .g (.f (.a .u16)), .g (.f (.a .b)), .g (.f (.a (.n .i64)))] [] (fun x h => ids_Turn x.1 x.2.1 x.2.2.1 x.2.2.2.1 x.2.2.2.2.1) (fun _ y k => k (.tup [.sl 1 y.1, .n .i64 y.2]) [])
theorem ids_Turn_k : (ids_Turn_w).Ok Try.prog Wp tab 10 := orc_ok (Y := (Option (List ids_Row)) × Int) (orcs := ids_Turn_r) (c := ids_Turn_p) (res := [.tmp 10, .tmp 11]) (n := 78) (R := (RSp.one (Y := (Option (List ids_Row)) × Int) tab (.tup [.f (.a (.sl 1)), .f (.a (.n .i64))]) [] (fun a b => (a.1, a.2.1)) (fun y => (y.1, y.2, ())) (fun y => ()))) tabOk ids_Turn_rk (RSp.one_ok tabOk (fun _ _ => by kernel_rfl) (fun _ _ => by kernel_rfl)) Try.func10 (by kernel_rfl) (by kernel_rfl) (by kernel_rfl) (by kernel_rfl) (cY (cS trivial (cS trivial (cS (cS trivial (cC (cD (cS trivial trivial)) (cD trivial))) (cS trivial (cS (cS trivial (cD (cC (cD (cS trivial trivial)) (cD trivial)))) (cT ids_Turn_q0))))))) (fun _ y k => by kernel_rfl) (fun y => by kernel_rfl) (fun x h => by kernel_rfl)
def ids_Flying_r : Orcs Tb := []
theorem ids_Flying_rk : OrcsOk Try.prog Wp tab ids_Flying_r := orcs_nil
def ids_Flying_s1 : SSh := ⟨[(3, .g (.f (.a (.n .i64)))), (6, .g (.f (.a (.sl 1)))), (7, .g (.f (.a (.n .i64)))), (8, .g (.f (.a (.n .i64))))], []⟩
def ids_Flying_o1 : Cut Tb := cutJ tab 0 ids_Flying_s1 (fun _ x k => k .normal ⟨[(3, .n .i64 x.1.1), (6, .sl 1 x.1.2.1), (7, .n .i64 x.1.2.2.1), (8, .n .i64 x.1.2.2.2.1)], []⟩)
theorem ids_Flying_q1 : (ids_Flying_o1).Ok Try.prog Wp tab 0 .skip := cutJ_ok (c := .skip) tabOk ids_Flying_rk trivial (fun _ _ => by kernel_rfl)
def ids_Flying_p0 : TCode Tb :=
(.fin 0 ids_Flying_o1 (.seq (.reg [⟨(.bin .lss .i), [.v 8, .v 7], some 9, none⟩] none)
(.seq (.cond 9 (.drop [9] .skip)
(.drop [6, 7, 8, 9] (.exit 0)))
(.seq (.block 1 (.seq (.reg [⟨(.ia 3), [.v 6, .v 8], some 10, none⟩, ⟨(.load (some 3)), [.m 10], some 11, none⟩, ⟨(.alloc [.u16 (0 : UInt16), .n .i64 0, .n .i64 0]), [], some 5, none⟩, ⟨(.store 3), [.v 5, .m 11], none, none⟩] none)
(.seq (.reg [⟨(.fa 1), [.m 5], some 12, none⟩, ⟨(.load none), [.m 12], some 13, none⟩, ⟨(.bin .leq .i), [.m 13, .k (.n .i64 4)], some 14, none⟩] none)
(.cond 14 (.drop [14] (.reg [⟨.mv, [.m 3], some 15, none⟩, ⟨(.bin .add .i), [.m 15, .k (.n .i64 1)], some 16, none⟩, ⟨.mv, [.m 16], some 3, none⟩] none))
(.drop [14] .skip)))))
(.reg [⟨(.bin .add .i), [.m 8, .k (.n .i64 1)], some 17, none⟩, ⟨.mv, [.m 17], some 8, none⟩] none)))))
def ids_Flying_s0 : SSh := ⟨[(3, .g (.f (.a (.n .i64)))), (6, .g (.f (.a (.sl 1)))), (7, .g (.f (.a (.n .i64)))), (8, .g (.f (.a (.n .i64))))], []⟩
def ids_Flying_o0 : Cut Tb := cutL tab 0 ids_Flying_s0 (fun x => (x.1.1, x.1.2.2.2.1)) (fun x => ids_Flying_l0 x.1.2.1 x.1.2.2.1) (fun _ x y k => k (.exit 0) ⟨[(3, .n .i64 y)], []⟩)
theorem ids_Flying_q0 : (ids_Flying_o0).Ok Try.prog Wp tab 0 (.loop ids_Flying_p0) := cutL_ok (c := ids_Flying_p0) (Z := Int × Int) (Y := Int) tabOk ids_Flying_rk (cF ids_Flying_q1 (cS trivial (cS (cC (cD trivial) (cD trivial)) (cS (cB (cS trivial (cS trivial (cC (cD trivial) (cD trivial))))) trivial)))) (fun _ x z b e => ids_Flying_b0 x.1.2.1 x.1.2.2.1 z.1 z.2 (fun x2 x5 => b (x2, x5)) (fun y11 => e y11)) (fun x z => ⟨[(3, .n .i64 z.1), (6, .sl 1 x.1.2.1), (7, .n .i64 x.1.2.2.1), (8, .n .i64 z.2)], []⟩) (fun x y => ((.exit 0), ⟨[(3, .n .i64 y)], []⟩)) (fun t => (prjS tab 0 ids_Flying_s0 t).bind fun x => some (x.1.1, x.1.2.2.2.1)) (fun e t => (if eqE e (.exit 0) then (prjS tab 0 ⟨[(3, .g (.f (.a (.n .i64))))], []⟩ t).bind fun v => some v.1.1 else none)) (fun x => by kernel_rfl) (fun x z => by kernel_rfl) (fun x y k => by kernel_rfl) (fun x y => by exact nofun) (fun x z => by kernel_rfl) (fun x y => by kernel_rfl) (fun x z k => by kernel_rfl)
def ids_Flying_p : TCode Tb :=
(.seq (.reg [⟨.mv, [.k (.n .i64 0)], some 2, none⟩] none)
(.seq (.reg [⟨.mv, [.k (.n .i64 0)], some 3, none⟩] none)
(.seq (.seq (.reg [⟨.mv, [.m 0], some 6, none⟩, ⟨.len, [.v 6], some 7, none⟩, ⟨.mv, [.k (.n .i64 0)], some 8, none⟩] none)
(.block 0 (.drop [2] (.cut 0 ids_Flying_o0 (.loop ids_Flying_p0)))))
(.seq (.reg [⟨.mv, [.m 3], some 18, none⟩, ⟨.mv, [.m 18], some 2, none⟩] none)
.ret))))
def ids_Flying_w : Orc Tb := mkOrc (Y := Int) tab [.g (.f (.a (.sl 1)))] [] (fun x h => ids_Flying x.1) (fun _ y k => k (.n .i64 y) [])
theorem ids_Flying_k : (ids_Flying_w).Ok Try.prog Wp tab 12 := orc_ok (Y := Int) (orcs := ids_Flying_r) (c := ids_Flying_p) (res := [.tmp 2]) (n := 19) (R := (RSp.one (Y := Int) tab (.g (.f (.a (.n .i64)))) [] (fun a b => a) (fun y => y) (fun y => ()))) tabOk ids_Flying_rk (RSp.one_ok tabOk (fun _ _ => by kernel_rfl) (fun _ _ => by kernel_rfl)) Try.func12 (by kernel_rfl) (by kernel_rfl) (by kernel_rfl) (by kernel_rfl) (cS trivial (cS trivial (cS (cS trivial (cB (cD (cT ids_Flying_q0)))) (cS trivial trivial)))) (fun _ y k => by kernel_rfl) (fun y => by kernel_rfl) (fun x h => by kernel_rfl)
def l11_told_r : Orcs Tb := [(7, ids_Open_w), (10, ids_Turn_w), (12, ids_Flying_w)]
theorem l11_told_rk : OrcsOk Try.prog Wp tab l11_told_r := (orcs_cons ids_Open_k (orcs_cons ids_Turn_k (orcs_cons ids_Flying_k orcs_nil)))
def l11_told_p : TCode Tb :=
(.seq (.reg [⟨.mv, [.k (.b false)], some 0, none⟩] none)
(.seq (.reg [⟨(.call (some 7) 0), [.k (.nilS), .k (.u16 (7 : UInt16)), .k (.n .i64 2), .k (.n .i64 0)], some 10, none⟩, ⟨.mv, [.m 10], some 9, none⟩, ⟨.extm, [.c 9 0], some 11, none⟩, ⟨(.ext 1), [.m 9], some 12, none⟩, ⟨.mv, [.m 11], some 1, none⟩, ⟨.mv, [.m 12], some 2, none⟩] none)
(.seq (.reg [⟨.mv, [.m 1], some 14, none⟩, ⟨(.call (some 10) 1), [.m 14, .k (.n .i64 5), .k (.u16 (7 : UInt16)), .k (.b false), .k (.n .i64 0)], some 15, none⟩, ⟨.mv, [.m 15], some 13, none⟩, ⟨.extm, [.c 13 0], some 16, none⟩, ⟨(.ext 1), [.m 13], some 17, none⟩, ⟨.mv, [.m 16], some 1, none⟩, ⟨.mv, [.m 17], some 3, none⟩] none)
(.seq (.reg [⟨.mv, [.m 1], some 19, none⟩, ⟨(.call (some 10) 1), [.m 19, .k (.n .i64 6), .k (.u16 (7 : UInt16)), .k (.b false), .k (.n .i64 0)], some 20, none⟩, ⟨.mv, [.m 20], some 18, none⟩, ⟨.extm, [.c 18 0], some 21, none⟩, ⟨(.ext 1), [.m 18], some 22, none⟩, ⟨.mv, [.m 21], some 1, none⟩, ⟨.mv, [.m 22], some 4, none⟩] none)
(.seq (.reg [⟨.mv, [.v 1], some 24, none⟩, ⟨(.call (some 10) 1), [.m 24, .k (.n .i64 7), .k (.u16 (7 : UInt16)), .k (.b false), .k (.n .i64 0)], some 25, none⟩, ⟨.mv, [.m 25], some 23, none⟩, ⟨.extm, [.c 23 0], some 26, none⟩, ⟨(.ext 1), [.m 23], some 27, none⟩, ⟨.mv, [.m 26], some 5, none⟩, ⟨.mv, [.m 27], some 6, none⟩] none)
(.seq (.reg [⟨.mv, [.v 1], some 29, none⟩, ⟨(.call (some 7) 0), [.m 29, .k (.u16 (7 : UInt16)), .k (.n .i64 1), .k (.n .i64 0)], some 30, none⟩, ⟨.mv, [.m 30], some 28, none⟩, ⟨.extm, [.c 28 0], some 31, none⟩, ⟨(.ext 1), [.m 28], some 32, none⟩, ⟨.mv, [.m 31], some 7, none⟩, ⟨.mv, [.m 32], some 8, none⟩] none)
(.seq (.reg [⟨.mv, [.m 2], some 33, none⟩, ⟨(.bin .eql .i), [.m 33, .k (.n .i64 0)], some 34, none⟩, ⟨.mv, [.m 34], some 35, none⟩, ⟨.mv, [.m 3], some 36, some (35, true)⟩, ⟨(.bin .eql .i), [.m 36, .k (.n .i64 0)], some 37, some (35, true)⟩, ⟨.pick, [.m 35, .m 37, .k (.b false)], some 38, none⟩, ⟨.mv, [.m 38], some 39, none⟩, ⟨.mv, [.m 4], some 40, some (39, true)⟩, ⟨(.bin .eql .i), [.m 40, .k (.n .i64 0)], some 41, some (39, true)⟩, ⟨.pick, [.m 39, .m 41, .k (.b false)], some 42, none⟩, ⟨.mv, [.m 42], some 43, none⟩, ⟨.mv, [.v 1], some 44, some (43, true)⟩, ⟨.len, [.m 44], some 45, some (43, true)⟩, ⟨(.bin .eql .i), [.m 45, .k (.n .i64 1)], some 46, some (43, true)⟩, ⟨.pick, [.m 43, .m 46, .k (.b false)], some 47, none⟩, ⟨.mv, [.m 47], some 48, none⟩, ⟨.mv, [.v 1], some 49, some (48, true)⟩, ⟨(.ia 3), [.v 49, .k (.n .i64 0)], some 50, some (48, true)⟩, ⟨(.fa 1), [.m 50], some 51, some (48, true)⟩, ⟨(.load none), [.m 51], some 52, some (48, true)⟩, ⟨(.bin .eql .i), [.m 52, .k (.n .i64 4)], some 53, some (48, true)⟩, ⟨.pick, [.m 48, .m 53, .k (.b false)], some 54, none⟩, ⟨.mv, [.m 54], some 55, none⟩, ⟨.mv, [.m 6], some 56, some (55, true)⟩, ⟨(.bin .eql .i), [.m 56, .k (.n .i64 0)], some 57, some (55, true)⟩, ⟨.pick, [.m 55, .m 57, .k (.b false)], some 58, none⟩, ⟨.mv, [.m 58], some 59, none⟩, ⟨.mv, [.m 5], some 60, some (59, true)⟩, ⟨.len, [.m 60], some 61, some (59, true)⟩, ⟨(.bin .eql .i), [.m 61, .k (.n .i64 0)], some 62, some (59, true)⟩, ⟨.pick, [.m 59, .m 62, .k (.b false)], some 63, none⟩, ⟨.mv, [.m 63], some 64, none⟩, ⟨.mv, [.m 8], some 65, some (64, true)⟩, ⟨(.bin .eql .i), [.m 65, .k (.n .i64 7)], some 66, some (64, true)⟩, ⟨.pick, [.m 64, .m 66, .k (.b false)], some 67, none⟩, ⟨.mv, [.m 67], some 68, none⟩, ⟨.mv, [.m 1], some 69, some (68, true)⟩, ⟨(.call (some 12) 2), [.m 69], some 70, some (68, true)⟩, ⟨(.bin .eql .i), [.m 70, .k (.n .i64 1)], some 71, some (68, true)⟩, ⟨.pick, [.m 68, .m 71, .k (.b false)], some 72, none⟩, ⟨.mv, [.m 72], some 0, none⟩] none)
(.drop [1, 3, 4, 5, 6, 7, 8, 36, 40, 44, 45, 49, 50, 51, 52, 56, 60, 61, 65, 69, 70] .ret))))))))
def l11_told_w : Orc Tb := mkOrc (Y := Bool) tab [] [] (fun x h => l11_told) (fun _ y k => k (.b y) [])
theorem l11_told_k : (l11_told_w).Ok Try.prog Wp tab 11 := orc_ok (Y := Bool) (orcs := l11_told_r) (c := l11_told_p) (res := [.tmp 0]) (n := 73) (R := (RSp.one (Y := Bool) tab (.g (.f (.a .b))) [] (fun a b => a) (fun y => y) (fun y => ()))) tabOk l11_told_rk (RSp.one_ok tabOk (fun _ _ => by kernel_rfl) (fun _ _ => by kernel_rfl)) Try.func11 (by kernel_rfl) (by kernel_rfl) (by kernel_rfl) (by kernel_rfl) (cS trivial (cS trivial (cS trivial (cS trivial (cS trivial (cS trivial (cS trivial (cD trivial)))))))) (fun _ y k => by kernel_rfl) (fun y => by kernel_rfl) (fun x h => by kernel_rfl)
def ids_Right_r : Orcs Tb := [(26, ids_order_w), (20, ids_counts_w)]
theorem ids_Right_rk : OrcsOk Try.prog Wp tab ids_Right_r := (orcs_cons ids_order_k (orcs_cons ids_counts_k orcs_nil))
def ids_Right_s1 : SSh := ⟨[(0, .g (.f (.a (.sl 1)))), (5, .g (.f (.a (.sl 1)))), (6, .g (.f (.a (.n .i64)))), (7, .g (.f (.a (.n .i64))))], []⟩
def ids_Right_o1 : Cut Tb := cutJ tab 0 ids_Right_s1 (fun _ x k => k .normal ⟨[(0, .sl 1 x.1.1), (5, .sl 1 x.1.2.1), (6, .n .i64 x.1.2.2.1), (7, .n .i64 x.1.2.2.2.1)], []⟩)
theorem ids_Right_q1 : (ids_Right_o1).Ok Try.prog Wp tab 0 .skip := cutJ_ok (c := .skip) tabOk ids_Right_rk trivial (fun _ _ => by kernel_rfl)
def ids_Right_p0 : TCode Tb :=
(.fin 0 ids_Right_o1 (.seq (.reg [⟨(.bin .lss .i), [.v 7, .v 6], some 8, none⟩] none)
(.seq (.cond 8 (.drop [8] .skip)
(.drop [0, 5, 6, 7, 8] (.exit 0)))
(.seq (.block 1 (.seq (.reg [⟨.mv, [.v 7], some 9, none⟩, ⟨(.ia 3), [.v 5, .v 7], some 10, none⟩, ⟨(.load (some 3)), [.m 10], some 11, none⟩, ⟨(.alloc [.u16 (0 : UInt16), .n .i64 0, .n .i64 0]), [], some 4, none⟩, ⟨.mv, [.m 9], some 3, none⟩, ⟨(.store 3), [.v 4, .m 11], none, none⟩] none)
(.seq (.reg [⟨(.fa 0), [.v 4], some 12, none⟩, ⟨(.load none), [.m 12], some 13, none⟩, ⟨(.bin .eql .i), [.m 13, .k (.u16 (0 : UInt16))], some 14, none⟩, ⟨.mv, [.m 14], some 15, none⟩, ⟨.mv, [.v 3], some 16, some (15, false)⟩, ⟨(.bin .gtr .i), [.m 16, .k (.n .i64 0)], some 17, some (15, false)⟩, ⟨.mv, [.m 17], some 18, some (15, false)⟩, ⟨.mv, [.v 0], some 19, some (18, true)⟩, ⟨.mv, [.m 3], some 20, some (18, true)⟩, ⟨(.bin .sub .i), [.m 20, .k (.n .i64 1)], some 21, some (18, true)⟩, ⟨(.ia 3), [.v 19, .m 21], some 22, some (18, true)⟩, ⟨(.load (some 3)), [.m 22], some 23, some (18, true)⟩, ⟨(.load (some 3)), [.v 4], some 24, some (18, true)⟩, ⟨(.call (some 26) 0), [.m 23, .m 24], some 25, some (18, true)⟩, ⟨(.bin .geq .i), [.m 25, .k (.n .i64 0)], some 26, some (18, true)⟩, ⟨.pick, [.m 18, .m 26, .k (.b false)], some 27, some (15, false)⟩, ⟨.pick, [.m 15, .k (.b true), .m 27], some 28, none⟩, ⟨.mv, [.m 28], some 29, none⟩, ⟨(.fa 1), [.v 4], some 30, some (29, false)⟩, ⟨(.load none), [.m 30], some 31, some (29, false)⟩, ⟨(.bin .lss .i), [.m 31, .k (.n .i64 1)], some 32, some (29, false)⟩, ⟨.pick, [.m 29, .k (.b true), .m 32], some 33, none⟩, ⟨.mv, [.m 33], some 34, none⟩, ⟨(.fa 1), [.v 4], some 35, some (34, false)⟩, ⟨(.load none), [.m 35], some 36, some (34, false)⟩, ⟨(.bin .gtr .i), [.m 36, .k (.n .i64 6)], some 37, some (34, false)⟩, ⟨.pick, [.m 34, .k (.b true), .m 37], some 38, none⟩, ⟨.mv, [.m 38], some 39, none⟩, ⟨(.fa 1), [.v 4], some 40, some (39, false)⟩, ⟨(.load none), [.m 40], some 41, some (39, false)⟩, ⟨(.fa 2), [.v 4], some 42, some (39, false)⟩, ⟨(.load none), [.m 42], some 43, some (39, false)⟩, ⟨(.call (some 20) 1), [.m 41, .m 43], some 44, some (39, false)⟩, ⟨(.un .not), [.m 44], some 45, some (39, false)⟩, ⟨.pick, [.m 39, .k (.b true), .m 45], some 46, none⟩] (some [[], [], [], [], [], [], [], [], [], [], [], [], [11], [], [], [], [], [], [], [], [], [], [], [], [], [], [], [], [], [], [], [29], [], [], []]))
(.drop [3, 4, 16, 17, 18, 19, 20, 21, 22, 23, 24, 25, 26, 30, 31, 35, 36, 40, 41, 42, 43, 44] (.cond 46 (.drop [0, 5, 6, 7, 46] (.seq (.reg [⟨.mv, [.k (.b false)], some 2, none⟩] none)
.ret))
(.drop [46] .skip))))))
(.reg [⟨(.bin .add .i), [.m 7, .k (.n .i64 1)], some 47, none⟩, ⟨.mv, [.m 47], some 7, none⟩] none)))))
def ids_Right_s0 : SSh := ⟨[(0, .g (.f (.a (.sl 1)))), (5, .g (.f (.a (.sl 1)))), (6, .g (.f (.a (.n .i64)))), (7, .g (.f (.a (.n .i64))))], []⟩
def ids_Right_o0 : Cut Tb := cutL tab 0 ids_Right_s0 (fun x => x.1.2.2.2.1) (fun x => ids_Right_l0 x.1.1 x.1.2.1 x.1.2.2.1) (fun _ x y k => match y with | .inl y => k .ret ⟨[(2, .b false)], [[.u16 y.Id, .n .i64 y.State, .n .i64 y.N]]⟩ | .inr y => k (.exit 0) ⟨[], []⟩)
theorem ids_Right_q0 : (ids_Right_o0).Ok Try.prog Wp tab 0 (.loop ids_Right_p0) := cutL_ok (c := ids_Right_p0) (Z := Int) (Y := ids_Row ⊕ Unit) tabOk ids_Right_rk (cF ids_Right_q1 (cS trivial (cS (cC (cD trivial) (cD trivial)) (cS (cB (cS trivial (cS trivial (cD (cC (cD (cS trivial trivial)) (cD trivial)))))) trivial)))) (fun _ x z b e => ids_Right_b0 x.1.1 x.1.2.1 x.1.2.2.1 z (fun x5 => b x5) (fun y15 => e (.inl y15)) (e (.inr ()))) (fun x z => ⟨[(0, .sl 1 x.1.1), (5, .sl 1 x.1.2.1), (6, .n .i64 x.1.2.2.1), (7, .n .i64 z)], []⟩) (fun x y => match y with | .inl y => (.ret, ⟨[(2, .b false)], [[.u16 y.Id, .n .i64 y.State, .n .i64 y.N]]⟩) | .inr y => ((.exit 0), ⟨[], []⟩)) (fun t => (prjS tab 0 ids_Right_s0 t).bind fun x => some x.1.2.2.2.1) (fun e t => (if eqE e .ret then orElse ((prjS tab 0 ⟨[(2, .g (.f (.cb false)))], [[.g (.f (.a .u16)), .g (.f (.a (.n .i64))), .g (.f (.a (.n .i64)))]]⟩ t).bind fun v => some (.inl (⟨v.2.1.1, v.2.1.2.1, v.2.1.2.2.1⟩ : ids_Row))) (if eqE e (.exit 0) then (prjS tab 0 ⟨[], []⟩ t).bind fun v => some (.inr ()) else none) else (if eqE e (.exit 0) then (prjS tab 0 ⟨[], []⟩ t).bind fun v => some (.inr ()) else none))) (fun x => by kernel_rfl) (fun x z => by kernel_rfl) (fun x y k => by rcases y with y | y <;> kernel_rfl) (fun x y => by rcases y with y | y <;> exact nofun) (fun x z => by kernel_rfl) (fun x y => by rcases y with y | y <;> kernel_rfl) (fun x z k => by kernel_rfl)
def ids_Right_p : TCode Tb :=
(.seq (.reg [⟨.mv, [.k (.b false)], some 2, none⟩] none)
(.seq (.seq (.reg [⟨.mv, [.v 0], some 5, none⟩, ⟨.len, [.v 5], some 6, none⟩, ⟨.mv, [.k (.n .i64 0)], some 7, none⟩] none)
(.block 0 (.drop [2] (.cut 0 ids_Right_o0 (.loop ids_Right_p0)))))
(.seq (.reg [⟨.mv, [.k (.b true)], some 2, none⟩] none)
.ret)))
def ids_Right_w : Orc Tb := mkOrc (Y := Bool) tab [.g (.f (.a (.sl 1)))] [] (fun x h => ids_Right x.1) (fun _ y k => k (.b y) [])
theorem ids_Right_k : (ids_Right_w).Ok Try.prog Wp tab 13 := orc_ok (Y := Bool) (orcs := ids_Right_r) (c := ids_Right_p) (res := [.tmp 2]) (n := 48) (R := (RSp.one (Y := Bool) tab (.g (.f (.a .b))) [] (fun a b => a) (fun y => y) (fun y => ()))) tabOk ids_Right_rk (RSp.one_ok tabOk (fun _ _ => by kernel_rfl) (fun _ _ => by kernel_rfl)) Try.func13 (by kernel_rfl) (by kernel_rfl) (by kernel_rfl) (by kernel_rfl) (cS trivial (cS (cS trivial (cB (cD (cT ids_Right_q0)))) (cS trivial trivial))) (fun _ y k => by kernel_rfl) (fun y => by kernel_rfl) (fun x h => by kernel_rfl)
def r11_counts_r : Orcs Tb := []
theorem r11_counts_rk : OrcsOk Try.prog Wp tab r11_counts_r := orcs_nil
def r11_counts_p : TCode Tb :=
(.seq (.reg [⟨.mv, [.k (.b false)], some 4, none⟩] none)
(.seq (.reg [⟨.mv, [.v 1], some 5, none⟩, ⟨(.bin .eql .i), [.m 5, .k (.n .i64 0)], some 6, none⟩, ⟨.mv, [.m 6], some 7, none⟩, ⟨.mv, [.m 1], some 8, some (7, false)⟩, ⟨(.bin .gtr .i), [.m 8, .k (.n .i64 0)], some 9, some (7, false)⟩, ⟨.mv, [.m 9], some 10, some (7, false)⟩, ⟨.mv, [.m 0], some 11, some (10, true)⟩, ⟨(.bin .geq .i), [.m 11, .k (.n .i64 5)], some 12, some (10, true)⟩, ⟨.pick, [.m 10, .m 12, .k (.b false)], some 13, some (7, false)⟩, ⟨.pick, [.m 7, .k (.b true), .m 13], some 14, none⟩, ⟨.mv, [.m 14], some 4, none⟩] none)
(.drop [0, 1, 8, 9, 10, 11, 12] .ret)))
def r11_counts_w : Orc Tb := mkOrc (Y := Bool) tab [.g (.f (.a (.n .i64))), .g (.f (.a (.n .i64)))] [] (fun x h => r11_counts x.1 x.2.1) (fun _ y k => k (.b y) [])
theorem r11_counts_k : (r11_counts_w).Ok Try.prog Wp tab 27 := orc_ok (Y := Bool) (orcs := r11_counts_r) (c := r11_counts_p) (res := [.tmp 4]) (n := 15) (R := (RSp.one (Y := Bool) tab (.g (.f (.a .b))) [] (fun a b => a) (fun y => y) (fun y => ()))) tabOk r11_counts_rk (RSp.one_ok tabOk (fun _ _ => by kernel_rfl) (fun _ _ => by kernel_rfl)) Try.func27 (by kernel_rfl) (by kernel_rfl) (by kernel_rfl) (by kernel_rfl) (cS trivial (cS trivial (cD trivial))) (fun _ y k => by kernel_rfl) (fun y => by kernel_rfl) (fun x h => by kernel_rfl)
def l11_From_r : Orcs Tb := []
theorem l11_From_rk : OrcsOk Try.prog Wp tab l11_From_r := orcs_nil
def l11_From_p0 : TCode Tb :=
(.seq (.seq (.reg [⟨.mv, [.v 4], some 5, none⟩, ⟨.mv, [.v 0], some 6, none⟩, ⟨.len, [.m 6], some 7, none⟩, ⟨(.bin .lss .i), [.m 5, .m 7], some 8, none⟩] none)
(.cond 8 (.drop [8] .skip)
(.drop [0, 4, 8] (.exit 0))))
(.seq (.block 1 (.reg [⟨.mv, [.m 3], some 11, none⟩, ⟨.mv, [.v 0], some 12, none⟩, ⟨.mv, [.v 4], some 13, none⟩, ⟨(.ia 3), [.v 12, .m 13], some 14, none⟩, ⟨(.fa 0), [.m 14], some 15, none⟩, ⟨(.load none), [.m 15], some 16, none⟩, ⟨.mv, [.v 0], some 17, none⟩, ⟨.mv, [.v 4], some 18, none⟩, ⟨(.ia 3), [.v 17, .m 18], some 19, none⟩, ⟨(.fa 1), [.m 19], some 20, none⟩, ⟨(.load none), [.m 20], some 21, none⟩, ⟨.mv, [.v 0], some 22, none⟩, ⟨.mv, [.v 4], some 23, none⟩, ⟨(.ia 3), [.v 22, .m 23], some 24, none⟩, ⟨(.fa 2), [.m 24], some 25, none⟩, ⟨(.load none), [.m 25], some 26, none⟩, ⟨(.build [.u16 (0 : UInt16), .n .i64 0, .n .i64 0] [(0, 1), (1, 1), (2, 1)]), [.m 16, .m 21, .m 26], some 27, none⟩, ⟨(.bslice 2 1 ((⟨(0 : UInt16), 0, 0⟩ : r11_Row) : r11_Row) [0]), [.m 27], some 28, none⟩, ⟨(.app 3 24), [.m 11, .m 28], some 29, none⟩, ⟨.mv, [.m 29], some 3, none⟩] (some [[], [], [], [], [], [], [], [], [], [], [5], [], [], [], [], [5, 10], [], [], [], []])))
(.drop [12, 17, 22] (.reg [⟨.mv, [.m 4], some 9, none⟩, ⟨(.bin .add .i), [.m 9, .k (.n .i64 1)], some 10, none⟩, ⟨.mv, [.m 10], some 4, none⟩] none))))
def l11_From_s0 : SSh := ⟨[(0, .g (.f (.a (.sl 1)))), (3, .g (.f (.ow 2))), (4, .g (.f (.a (.n .i64))))], []⟩
def l11_From_o0 : Cut Tb := cutL tab 0 l11_From_s0 (fun x => (x.1.2.1, x.1.2.2.1)) (fun x => l11_From_l0 x.1.1) (fun _ x y k => k (.exit 0) ⟨[(3, .ow 2 y)], []⟩)
theorem l11_From_q0 : (l11_From_o0).Ok Try.prog Wp tab 0 (.loop l11_From_p0) := cutL_ok (c := l11_From_p0) (Z := (Option (List r11_Row)) × Int) (Y := (Option (List r11_Row))) tabOk l11_From_rk (cS (cS trivial (cC (cD trivial) (cD trivial))) (cS (cB trivial) (cD trivial))) (fun _ x z b e => l11_From_b0 x.1.1 z.1 z.2 (fun x3 x4 => b (x3, x4)) (fun y9 => e y9)) (fun x z => ⟨[(0, .sl 1 x.1.1), (3, .ow 2 z.1), (4, .n .i64 z.2)], []⟩) (fun x y => ((.exit 0), ⟨[(3, .ow 2 y)], []⟩)) (fun t => (prjS tab 0 l11_From_s0 t).bind fun x => some (x.1.2.1, x.1.2.2.1)) (fun e t => (if eqE e (.exit 0) then (prjS tab 0 ⟨[(3, .g (.f (.ow 2)))], []⟩ t).bind fun v => some v.1.1 else none)) (fun x => by kernel_rfl) (fun x z => by kernel_rfl) (fun x y k => by kernel_rfl) (fun x y => by exact nofun) (fun x z => by kernel_rfl) (fun x y => by kernel_rfl) (fun x z k => by kernel_rfl)
def l11_From_p : TCode Tb :=
(.seq (.reg [⟨.mv, [.k (.nilS)], some 2, none⟩] none)
(.seq (.reg [⟨.mv, [.k (.nilS)], some 3, none⟩] none)
(.seq (.seq (.reg [⟨.mv, [.k (.n .i64 0)], some 4, none⟩] none)
(.block 0 (.drop [2] (.cut 0 l11_From_o0 (.loop l11_From_p0)))))
(.seq (.reg [⟨.mv, [.m 3], some 30, none⟩, ⟨.mv, [.m 30], some 2, none⟩] none)
.ret))))
def l11_From_w : Orc Tb := mkOrc (Y := (Option (List r11_Row))) tab [.g (.f (.a (.sl 1)))] [] (fun x h => l11_From x.1) (fun _ y k => k (.ow 2 y) [])
theorem l11_From_k : (l11_From_w).Ok Try.prog Wp tab 9 := orc_ok (Y := (Option (List r11_Row))) (orcs := l11_From_r) (c := l11_From_p) (res := [.tmp 2]) (n := 31) (R := (RSp.one (Y := (Option (List r11_Row))) tab (.g (.f (.ow 2))) [] (fun a b => a) (fun y => y) (fun y => ()))) tabOk l11_From_rk (RSp.one_ok tabOk (fun _ _ => by kernel_rfl) (fun _ _ => by kernel_rfl)) Try.func9 (by kernel_rfl) (by kernel_rfl) (by kernel_rfl) (by kernel_rfl) (cS trivial (cS trivial (cS (cS trivial (cB (cD (cT l11_From_q0)))) (cS trivial trivial)))) (fun _ y k => by kernel_rfl) (fun y => by kernel_rfl) (fun x h => by kernel_rfl)
def r11_Of_r : Orcs Tb := []
theorem r11_Of_rk : OrcsOk Try.prog Wp tab r11_Of_r := orcs_nil
def r11_Of_p0 : TCode Tb :=
(.seq (.seq (.reg [⟨.mv, [.v 5], some 6, none⟩, ⟨.mv, [.v 0], some 7, none⟩, ⟨.len, [.m 7], some 8, none⟩, ⟨(.bin .lss .i), [.m 6, .m 8], some 9, none⟩] none)
(.cond 9 (.drop [9] .skip)
(.drop [0, 1, 5, 9] (.exit 0))))
(.seq (.block 1 (.seq (.reg [⟨.mv, [.v 0], some 12, none⟩, ⟨.mv, [.v 5], some 13, none⟩, ⟨(.ia 3), [.v 12, .m 13], some 14, none⟩, ⟨(.fa 0), [.m 14], some 15, none⟩, ⟨(.load none), [.m 15], some 16, none⟩, ⟨.mv, [.v 1], some 17, none⟩, ⟨(.bin .eql .i), [.m 16, .m 17], some 18, none⟩] none)
(.cond 18 (.drop [1, 12, 18] (.seq (.reg [⟨.mv, [.m 0], some 19, none⟩, ⟨.mv, [.m 5], some 20, none⟩, ⟨(.ia 3), [.v 19, .m 20], some 21, none⟩, ⟨(.load (some 3)), [.m 21], some 22, none⟩, ⟨(.store 3), [.v 4, .m 22], none, none⟩] none)
.ret))
(.drop [12, 18] .skip))))
(.reg [⟨.mv, [.m 5], some 10, none⟩, ⟨(.bin .add .i), [.m 10, .k (.n .i64 1)], some 11, none⟩, ⟨.mv, [.m 11], some 5, none⟩] none)))
def r11_Of_s0 : SSh := ⟨[(0, .g (.f (.a (.sl 2)))), (1, .g (.f (.a .u16))), (4, .g (.f (.ref 0 0))), (5, .g (.f (.a (.n .i64))))], [[.g (.f (.a .u16)), .g (.f (.a (.n .i64))), .g (.f (.a (.n .i64)))]]⟩
def r11_Of_o0 : Cut Tb := cutL tab 0 r11_Of_s0 (fun x => x.1.2.2.2.1) (fun x => r11_Of_l0 x.1.1 x.1.2.1) (fun _ x y k => match y with | .inl y => k .ret ⟨[(4, .ref 0 0), (19, .sl 2 x.1.1)], [[.u16 y.Id, .n .i64 y.State, .n .i64 y.N]]⟩ | .inr y => k (.exit 0) ⟨[(4, .ref 0 0)], [[.u16 ((⟨x.2.1.1, x.2.1.2.1, x.2.1.2.2.1⟩ : r11_Row).Id), .n .i64 ((⟨x.2.1.1, x.2.1.2.1, x.2.1.2.2.1⟩ : r11_Row).State), .n .i64 ((⟨x.2.1.1, x.2.1.2.1, x.2.1.2.2.1⟩ : r11_Row).N)]]⟩)
theorem r11_Of_q0 : (r11_Of_o0).Ok Try.prog Wp tab 0 (.loop r11_Of_p0) := cutL_ok (c := r11_Of_p0) (Z := Int) (Y := r11_Row ⊕ Unit) tabOk r11_Of_rk (cS (cS trivial (cC (cD trivial) (cD trivial))) (cS (cB (cS trivial (cC (cD (cS trivial trivial)) (cD trivial)))) trivial)) (fun _ x z b e => r11_Of_b0 x.1.1 x.1.2.1 z (fun x5 => b x5) (fun y9 => e (.inl y9)) (e (.inr ()))) (fun x z => ⟨[(0, .sl 2 x.1.1), (1, .u16 x.1.2.1), (4, .ref 0 0), (5, .n .i64 z)], [[.u16 ((⟨x.2.1.1, x.2.1.2.1, x.2.1.2.2.1⟩ : r11_Row).Id), .n .i64 ((⟨x.2.1.1, x.2.1.2.1, x.2.1.2.2.1⟩ : r11_Row).State), .n .i64 ((⟨x.2.1.1, x.2.1.2.1, x.2.1.2.2.1⟩ : r11_Row).N)]]⟩) (fun x y => match y with | .inl y => (.ret, ⟨[(4, .ref 0 0), (19, .sl 2 x.1.1)], [[.u16 y.Id, .n .i64 y.State, .n .i64 y.N]]⟩) | .inr y => ((.exit 0), ⟨[(4, .ref 0 0)], [[.u16 ((⟨x.2.1.1, x.2.1.2.1, x.2.1.2.2.1⟩ : r11_Row).Id), .n .i64 ((⟨x.2.1.1, x.2.1.2.1, x.2.1.2.2.1⟩ : r11_Row).State), .n .i64 ((⟨x.2.1.1, x.2.1.2.1, x.2.1.2.2.1⟩ : r11_Row).N)]]⟩)) (fun t => (prjS tab 0 r11_Of_s0 t).bind fun x => some x.1.2.2.2.1) (fun e t => (if eqE e .ret then orElse ((prjS tab 0 ⟨[(4, .g (.f (.ref 0 0))), (19, .g (.f (.a (.sl 2))))], [[.g (.f (.a .u16)), .g (.f (.a (.n .i64))), .g (.f (.a (.n .i64)))]]⟩ t).bind fun v => some (.inl (⟨v.2.1.1, v.2.1.2.1, v.2.1.2.2.1⟩ : r11_Row))) (if eqE e (.exit 0) then (prjS tab 0 ⟨[(4, .g (.f (.ref 0 0)))], [[.g (.f (.a .u16)), .g (.f (.a (.n .i64))), .g (.f (.a (.n .i64)))]]⟩ t).bind fun v => some (.inr ()) else none) else (if eqE e (.exit 0) then (prjS tab 0 ⟨[(4, .g (.f (.ref 0 0)))], [[.g (.f (.a .u16)), .g (.f (.a (.n .i64))), .g (.f (.a (.n .i64)))]]⟩ t).bind fun v => some (.inr ()) else none))) (fun x => by kernel_rfl) (fun x z => by kernel_rfl) (fun x y k => by rcases y with y | y <;> kernel_rfl) (fun x y => by rcases y with y | y <;> exact nofun) (fun x z => by kernel_rfl) (fun x y => by rcases y with y | y <;> kernel_rfl) (fun x z k => by kernel_rfl)
def r11_Of_p : TCode Tb :=
(.seq (.reg [⟨(.alloc [.u16 (0 : UInt16), .n .i64 0, .n .i64 0]), [], some 4, none⟩] none)
(.seq (.seq (.reg [⟨.mv, [.k (.n .i64 0)], some 5, none⟩] none)
(.block 0 (.cut 0 r11_Of_o0 (.loop r11_Of_p0))))
(.seq (.reg [⟨(.build [.u16 (0 : UInt16), .n .i64 0, .n .i64 0] []), [], some 23, none⟩, ⟨(.store 3), [.v 4, .m 23], none, none⟩] none)
.ret)))
def r11_Of_w : Orc Tb := mkOrc (Y := r11_Row) tab [.g (.f (.a (.sl 2))), .g (.f (.a .u16))] [] (fun x h => r11_Of x.1 x.2.1) (fun _ y k => k (.agg [.u16 y.Id, .n .i64 y.State, .n .i64 y.N]) [])
theorem r11_Of_k : (r11_Of_w).Ok Try.prog Wp tab 8 := orc_ok (Y := r11_Row) (orcs := r11_Of_r) (c := r11_Of_p) (res := [.cell 4 (some 3)]) (n := 24) (R := (RSp.one (Y := r11_Row) tab (.g (.st 2)) [] (fun a b => (⟨a.Id, a.State, a.N⟩ : r11_Row)) (fun y => (⟨y.Id, y.State, y.N⟩ : r11_Row)) (fun y => ()))) tabOk r11_Of_rk (RSp.one_ok tabOk (fun _ _ => by kernel_rfl) (fun _ _ => by kernel_rfl)) Try.func8 (by kernel_rfl) (by kernel_rfl) (by kernel_rfl) (by kernel_rfl) (cS trivial (cS (cS trivial (cB (cT r11_Of_q0))) (cS trivial trivial))) (fun _ y k => by kernel_rfl) (fun y => by kernel_rfl) (fun x h => by kernel_rfl)
def r11_with_r : Orcs Tb := []
theorem r11_with_rk : OrcsOk Try.prog Wp tab r11_with_r := orcs_nil
def r11_with_p1 : TCode Tb :=
(.cond 29 (.drop [8, 29] (.seq (.reg [⟨.mv, [.m 7], some 30, none⟩, ⟨(.load (some 3)), [.v 5], some 31, none⟩, ⟨(.bslice 2 1 ((⟨(0 : UInt16), 0, 0⟩ : r11_Row) : r11_Row) [0]), [.m 31], some 32, none⟩, ⟨(.app 3 24), [.m 30, .m 32], some 33, none⟩, ⟨.mv, [.m 33], some 7, none⟩] none)
(.reg [⟨.mv, [.k (.b true)], some 8, none⟩] none)))
(.drop [29] .skip))
def r11_with_s1 : SSh := ⟨[(0, .g (.f (.a (.sl 2)))), (1, .g (.f (.a .u16))), (5, .g (.f (.ref 0 0))), (7, .g (.f (.ow 2))), (8, .g (.f (.a .b))), (9, .g (.f (.a (.n .i64)))), (29, .g (.f (.a .b)))], [[.g (.f (.a .u16)), .g (.f (.a (.n .i64))), .g (.f (.a (.n .i64)))]]⟩
def r11_with_o1 : Cut Tb := cutJ tab 0 r11_with_s1 (fun _ x k => r11_with_c1 x.1.2.2.2.1 x.1.2.2.2.2.1 x.1.2.2.2.2.2.2.1 (⟨x.2.1.1, x.2.1.2.1, x.2.1.2.2.1⟩ : r11_Row) (fun y19 y20 => k .normal ⟨[(0, .sl 2 x.1.1), (1, .u16 x.1.2.1), (5, .ref 0 0), (7, .ow 2 y19), (8, .b y20), (9, .n .i64 x.1.2.2.2.2.2.1)], [[.u16 ((⟨x.2.1.1, x.2.1.2.1, x.2.1.2.2.1⟩ : r11_Row).Id), .n .i64 ((⟨x.2.1.1, x.2.1.2.1, x.2.1.2.2.1⟩ : r11_Row).State), .n .i64 ((⟨x.2.1.1, x.2.1.2.1, x.2.1.2.2.1⟩ : r11_Row).N)]]⟩))
theorem r11_with_q1 : (r11_with_o1).Ok Try.prog Wp tab 0 r11_with_p1 := cutJ_ok (c := r11_with_p1) tabOk r11_with_rk (cC (cD (cS trivial trivial)) (cD trivial)) (fun _ _ => by kernel_rfl)
def r11_with_p2 : TCode Tb :=
(.seq (.reg [⟨.mv, [.v 0], some 34, none⟩, ⟨.mv, [.v 9], some 35, none⟩, ⟨(.ia 3), [.v 34, .m 35], some 36, none⟩, ⟨(.fa 0), [.m 36], some 37, none⟩, ⟨(.load none), [.m 37], some 38, none⟩, ⟨.mv, [.v 1], some 39, none⟩, ⟨(.bin .neq .i), [.m 38, .m 39], some 40, none⟩] none)
(.cond 40 (.drop [34, 40] (.reg [⟨.mv, [.m 7], some 41, none⟩, ⟨.mv, [.v 0], some 42, none⟩, ⟨.mv, [.v 9], some 43, none⟩, ⟨(.ia 3), [.v 42, .m 43], some 44, none⟩, ⟨(.load (some 3)), [.m 44], some 45, none⟩, ⟨(.bslice 2 1 ((⟨(0 : UInt16), 0, 0⟩ : r11_Row) : r11_Row) [0]), [.m 45], some 46, none⟩, ⟨(.app 3 24), [.m 41, .m 46], some 47, none⟩, ⟨.mv, [.m 47], some 7, none⟩] none))
(.drop [34, 40] .skip)))
def r11_with_s2 : SSh := ⟨[(0, .g (.f (.a (.sl 2)))), (1, .g (.f (.a .u16))), (5, .g (.f (.ref 0 0))), (7, .g (.f (.ow 2))), (8, .g (.f (.a .b))), (9, .g (.f (.a (.n .i64))))], [[.g (.f (.a .u16)), .g (.f (.a (.n .i64))), .g (.f (.a (.n .i64)))]]⟩
def r11_with_o2 : Cut Tb := cutJ tab 0 r11_with_s2 (fun _ x k => r11_with_c2 x.1.1 x.1.2.1 x.1.2.2.2.1 x.1.2.2.2.2.2.1 (fun y34 => k .normal ⟨[(0, .sl 2 x.1.1), (1, .u16 x.1.2.1), (5, .ref 0 0), (7, .ow 2 y34), (8, .b x.1.2.2.2.2.1), (9, .n .i64 x.1.2.2.2.2.2.1), (42, .sl 2 x.1.1)], [[.u16 ((⟨x.2.1.1, x.2.1.2.1, x.2.1.2.2.1⟩ : r11_Row).Id), .n .i64 ((⟨x.2.1.1, x.2.1.2.1, x.2.1.2.2.1⟩ : r11_Row).State), .n .i64 ((⟨x.2.1.1, x.2.1.2.1, x.2.1.2.2.1⟩ : r11_Row).N)]]⟩) (k .normal ⟨[(0, .sl 2 x.1.1), (1, .u16 x.1.2.1), (5, .ref 0 0), (7, .ow 2 x.1.2.2.2.1), (8, .b x.1.2.2.2.2.1), (9, .n .i64 x.1.2.2.2.2.2.1)], [[.u16 ((⟨x.2.1.1, x.2.1.2.1, x.2.1.2.2.1⟩ : r11_Row).Id), .n .i64 ((⟨x.2.1.1, x.2.1.2.1, x.2.1.2.2.1⟩ : r11_Row).State), .n .i64 ((⟨x.2.1.1, x.2.1.2.1, x.2.1.2.2.1⟩ : r11_Row).N)]]⟩))
theorem r11_with_q2 : (r11_with_o2).Ok Try.prog Wp tab 0 r11_with_p2 := cutJ_ok (c := r11_with_p2) tabOk r11_with_rk (cS trivial (cC (cD trivial) (cD trivial))) (fun _ _ => by kernel_rfl)
def r11_with_p0 : TCode Tb :=
(.seq (.seq (.reg [⟨.mv, [.v 9], some 13, none⟩, ⟨.mv, [.v 0], some 14, none⟩, ⟨.len, [.m 14], some 15, none⟩, ⟨(.bin .lss .i), [.m 13, .m 15], some 16, none⟩] none)
(.cond 16 (.drop [16] .skip)
(.drop [0, 1, 9, 16] (.exit 0))))
(.seq (.block 1 (.seq (.seq (.reg [⟨.mv, [.v 8], some 19, none⟩, ⟨(.un .not), [.m 19], some 20, none⟩, ⟨.mv, [.m 20], some 21, none⟩, ⟨.mv, [.v 0], some 22, some (21, true)⟩, ⟨.mv, [.v 9], some 23, some (21, true)⟩, ⟨(.ia 3), [.v 22, .m 23], some 24, some (21, true)⟩, ⟨(.fa 0), [.m 24], some 25, some (21, true)⟩, ⟨(.load none), [.m 25], some 26, some (21, true)⟩, ⟨.mv, [.v 1], some 27, some (21, true)⟩, ⟨(.bin .geq .i), [.m 26, .m 27], some 28, some (21, true)⟩, ⟨.pick, [.m 21, .m 28, .k (.b false)], some 29, none⟩] none)
(.drop [22, 23, 24, 25, 26, 27] (.cut 0 r11_with_o1 r11_with_p1)))
(.cut 0 r11_with_o2 r11_with_p2)))
(.drop [42] (.reg [⟨.mv, [.m 9], some 17, none⟩, ⟨(.bin .add .i), [.m 17, .k (.n .i64 1)], some 18, none⟩, ⟨.mv, [.m 18], some 9, none⟩] none))))
def r11_with_s0 : SSh := ⟨[(0, .g (.f (.a (.sl 2)))), (1, .g (.f (.a .u16))), (5, .g (.f (.ref 0 0))), (7, .g (.f (.ow 2))), (8, .g (.f (.a .b))), (9, .g (.f (.a (.n .i64))))], [[.g (.f (.a .u16)), .g (.f (.a (.n .i64))), .g (.f (.a (.n .i64)))]]⟩
def r11_with_o0 : Cut Tb := cutL tab 0 r11_with_s0 (fun x => (x.1.2.2.2.1, x.1.2.2.2.2.1, x.1.2.2.2.2.2.1)) (fun x => r11_with_l0 x.1.1 x.1.2.1 (⟨x.2.1.1, x.2.1.2.1, x.2.1.2.2.1⟩ : r11_Row)) (fun _ x y k => k (.exit 0) ⟨[(5, .ref 0 0), (7, .ow 2 y.1), (8, .b y.2)], [[.u16 ((⟨x.2.1.1, x.2.1.2.1, x.2.1.2.2.1⟩ : r11_Row).Id), .n .i64 ((⟨x.2.1.1, x.2.1.2.1, x.2.1.2.2.1⟩ : r11_Row).State), .n .i64 ((⟨x.2.1.1, x.2.1.2.1, x.2.1.2.2.1⟩ : r11_Row).N)]]⟩)
theorem r11_with_q0 : (r11_with_o0).Ok Try.prog Wp tab 0 (.loop r11_with_p0) := cutL_ok (c := r11_with_p0) (Z := (Option (List r11_Row)) × Bool × Int) (Y := (Option (List r11_Row)) × Bool) tabOk r11_with_rk (cS (cS trivial (cC (cD trivial) (cD trivial))) (cS (cB (cS (cS trivial (cD (cT r11_with_q1))) (cT r11_with_q2))) (cD trivial))) (fun _ x z b e => r11_with_b0 x.1.1 x.1.2.1 (⟨x.2.1.1, x.2.1.2.1, x.2.1.2.2.1⟩ : r11_Row) z.1 z.2.1 z.2.2 (fun x6 x7 x8 => b (x6, x7, x8)) (fun y37 y38 => e (y37, y38))) (fun x z => ⟨[(0, .sl 2 x.1.1), (1, .u16 x.1.2.1), (5, .ref 0 0), (7, .ow 2 z.1), (8, .b z.2.1), (9, .n .i64 z.2.2)], [[.u16 ((⟨x.2.1.1, x.2.1.2.1, x.2.1.2.2.1⟩ : r11_Row).Id), .n .i64 ((⟨x.2.1.1, x.2.1.2.1, x.2.1.2.2.1⟩ : r11_Row).State), .n .i64 ((⟨x.2.1.1, x.2.1.2.1, x.2.1.2.2.1⟩ : r11_Row).N)]]⟩) (fun x y => ((.exit 0), ⟨[(5, .ref 0 0), (7, .ow 2 y.1), (8, .b y.2)], [[.u16 ((⟨x.2.1.1, x.2.1.2.1, x.2.1.2.2.1⟩ : r11_Row).Id), .n .i64 ((⟨x.2.1.1, x.2.1.2.1, x.2.1.2.2.1⟩ : r11_Row).State), .n .i64 ((⟨x.2.1.1, x.2.1.2.1, x.2.1.2.2.1⟩ : r11_Row).N)]]⟩)) (fun t => (prjS tab 0 r11_with_s0 t).bind fun x => some (x.1.2.2.2.1, x.1.2.2.2.2.1, x.1.2.2.2.2.2.1)) (fun e t => (if eqE e (.exit 0) then (prjS tab 0 ⟨[(5, .g (.f (.ref 0 0))), (7, .g (.f (.ow 2))), (8, .g (.f (.a .b)))], [[.g (.f (.a .u16)), .g (.f (.a (.n .i64))), .g (.f (.a (.n .i64)))]]⟩ t).bind fun v => some (v.1.2.1, v.1.2.2.1) else none)) (fun x => by kernel_rfl) (fun x z => by kernel_rfl) (fun x y k => by kernel_rfl) (fun x y => by exact nofun) (fun x z => by kernel_rfl) (fun x y => by kernel_rfl) (fun x z k => by kernel_rfl)
def r11_with_p : TCode Tb :=
(.seq (.reg [⟨.box, [.m 2], some 5, none⟩, ⟨.mv, [.k (.nilS)], some 6, none⟩] none)
(.seq (.reg [⟨.mv, [.k (.nilS)], some 7, none⟩] none)
(.seq (.reg [⟨(.fa 0), [.v 5], some 10, none⟩, ⟨(.load none), [.m 10], some 11, none⟩, ⟨(.bin .eql .i), [.m 11, .k (.u16 (0 : UInt16))], some 12, none⟩, ⟨.mv, [.m 12], some 8, none⟩] none)
(.seq (.seq (.reg [⟨.mv, [.k (.n .i64 0)], some 9, none⟩] none)
(.block 0 (.drop [6] (.cut 0 r11_with_o0 (.loop r11_with_p0)))))
(.seq (.seq (.reg [⟨.mv, [.m 8], some 48, none⟩, ⟨(.un .not), [.m 48], some 49, none⟩] none)
(.cond 49 (.drop [49] (.reg [⟨.mv, [.m 7], some 50, none⟩, ⟨(.load (some 3)), [.m 5], some 51, none⟩, ⟨(.bslice 2 1 ((⟨(0 : UInt16), 0, 0⟩ : r11_Row) : r11_Row) [0]), [.m 51], some 52, none⟩, ⟨(.app 3 24), [.m 50, .m 52], some 53, none⟩, ⟨.mv, [.m 53], some 7, none⟩] none))
(.drop [5, 49] .skip)))
(.seq (.reg [⟨.mv, [.m 7], some 54, none⟩, ⟨.mv, [.m 54], some 6, none⟩] none)
.ret))))))
def r11_with_w : Orc Tb := mkOrc (Y := (Option (List r11_Row))) tab [.g (.f (.a (.sl 2))), .g (.f (.a .u16)), .g (.st 2)] [] (fun x h => r11_with x.1 x.2.1 (⟨x.2.2.1.Id, x.2.2.1.State, x.2.2.1.N⟩ : r11_Row)) (fun _ y k => k (.ow 2 y) [])
theorem r11_with_k : (r11_with_w).Ok Try.prog Wp tab 28 := orc_ok (Y := (Option (List r11_Row))) (orcs := r11_with_r) (c := r11_with_p) (res := [.tmp 6]) (n := 55) (R := (RSp.one (Y := (Option (List r11_Row))) tab (.g (.f (.ow 2))) [] (fun a b => a) (fun y => y) (fun y => ()))) tabOk r11_with_rk (RSp.one_ok tabOk (fun _ _ => by kernel_rfl) (fun _ _ => by kernel_rfl)) Try.func28 (by kernel_rfl) (by kernel_rfl) (by kernel_rfl) (by kernel_rfl) (cS trivial (cS trivial (cS trivial (cS (cS trivial (cB (cD (cT r11_with_q0)))) (cS (cS trivial (cC (cD trivial) (cD trivial))) (cS trivial trivial)))))) (fun _ y k => by kernel_rfl) (fun y => by kernel_rfl) (fun x h => by kernel_rfl)
def r11_Open_r : Orcs Tb := [(27, r11_counts_w), (8, r11_Of_w), (28, r11_with_w)]
theorem r11_Open_rk : OrcsOk Try.prog Wp tab r11_Open_r := (orcs_cons r11_counts_k (orcs_cons r11_Of_k (orcs_cons r11_with_k orcs_nil)))
def r11_Open_p0 : TCode Tb :=
(.seq (.seq (.reg [⟨.mv, [.v 0], some 35, none⟩, ⟨.mv, [.v 1], some 36, none⟩, ⟨(.call (some 8) 1), [.m 35, .m 36], some 37, none⟩, ⟨(.fld 0 none), [.m 37], some 38, none⟩, ⟨(.bin .neq .i), [.m 38, .k (.u16 (0 : UInt16))], some 39, none⟩] none)
(.cond 39 (.drop [1, 2, 3, 39] (.seq (.reg [⟨.mv, [.m 0], some 40, none⟩, ⟨.mv, [.m 40], some 8, none⟩, ⟨.mv, [.k (.n .i64 7)], some 9, none⟩] none)
.ret))
(.drop [39] .skip)))
(.seq (.reg [⟨.mv, [.m 0], some 41, none⟩, ⟨.mv, [.v 1], some 42, none⟩, ⟨.mv, [.m 1], some 43, none⟩, ⟨.mv, [.m 2], some 44, none⟩, ⟨.mv, [.m 3], some 45, none⟩, ⟨(.build [.u16 (0 : UInt16), .n .i64 0, .n .i64 0] [(0, 1), (1, 1), (2, 1)]), [.m 43, .m 44, .m 45], some 46, none⟩, ⟨(.call (some 28) 2), [.m 41, .m 42, .m 46], some 47, none⟩, ⟨.mv, [.m 47], some 8, none⟩, ⟨.mv, [.k (.n .i64 0)], some 9, none⟩] none)
.ret))
def r11_Open_s0 : SSh := ⟨[(0, .g (.f (.a (.sl 2)))), (1, .g (.f (.a .u16))), (2, .g (.f (.a (.n .i64)))), (3, .g (.f (.a (.n .i64))))], []⟩
def r11_Open_o0 : Cut Tb := cutJ tab 0 r11_Open_s0 (fun _ x k => r11_Open_c0 x.1.1 x.1.2.1 x.1.2.2.1 x.1.2.2.2.1 (k .ret ⟨[(8, .sl 2 x.1.1), (9, .n .i64 7)], []⟩) (fun y15 => k .ret ⟨[(8, .ow 2 y15), (9, .n .i64 0)], []⟩))
theorem r11_Open_q0 : (r11_Open_o0).Ok Try.prog Wp tab 0 r11_Open_p0 := cutJ_ok (c := r11_Open_p0) tabOk r11_Open_rk (cS (cS trivial (cC (cD (cS trivial trivial)) (cD trivial))) (cS trivial trivial)) (fun _ _ => by kernel_rfl)
def r11_Open_p : TCode Tb :=
(.seq (.reg [⟨.mv, [.k (.nilS)], some 8, none⟩, ⟨.mv, [.k (.n .i64 0)], some 9, none⟩] none)
(.seq (.seq (.reg [⟨.mv, [.v 1], some 10, none⟩, ⟨(.bin .eql .i), [.m 10, .k (.u16 (0 : UInt16))], some 11, none⟩, ⟨.mv, [.m 11], some 12, none⟩, ⟨.mv, [.v 2], some 13, some (12, false)⟩, ⟨(.bin .neq .i), [.m 13, .k (.n .i64 1)], some 14, some (12, false)⟩, ⟨.mv, [.m 14], some 15, some (12, false)⟩, ⟨.mv, [.v 2], some 16, some (15, true)⟩, ⟨(.bin .neq .i), [.m 16, .k (.n .i64 2)], some 17, some (15, true)⟩, ⟨.pick, [.m 15, .m 17, .k (.b false)], some 18, some (12, false)⟩, ⟨.mv, [.m 18], some 19, some (12, false)⟩, ⟨.mv, [.v 2], some 20, some (19, true)⟩, ⟨(.bin .neq .i), [.m 20, .k (.n .i64 5)], some 21, some (19, true)⟩, ⟨.pick, [.m 19, .m 21, .k (.b false)], some 22, some (12, false)⟩, ⟨.mv, [.m 22], some 23, some (12, false)⟩, ⟨.mv, [.v 2], some 24, some (23, true)⟩, ⟨(.bin .neq .i), [.m 24, .k (.n .i64 6)], some 25, some (23, true)⟩, ⟨.pick, [.m 23, .m 25, .k (.b false)], some 26, some (12, false)⟩, ⟨.pick, [.m 12, .k (.b true), .m 26], some 27, none⟩, ⟨.mv, [.m 27], some 28, none⟩, ⟨.mv, [.v 2], some 29, some (28, false)⟩, ⟨.mv, [.v 3], some 30, some (28, false)⟩, ⟨(.call (some 27) 0), [.m 29, .m 30], some 31, some (28, false)⟩, ⟨(.un .not), [.m 31], some 32, some (28, false)⟩, ⟨.pick, [.m 28, .k (.b true), .m 32], some 33, none⟩] none)
(.drop [8, 9, 13, 14, 15, 16, 17, 18, 19, 20, 21, 22, 23, 24, 25, 29, 30, 31] (.cond 33 (.drop [1, 2, 3, 33] (.seq (.reg [⟨.mv, [.m 0], some 34, none⟩, ⟨.mv, [.m 34], some 8, none⟩, ⟨.mv, [.k (.n .i64 1)], some 9, none⟩] none)
.ret))
(.drop [33] .skip))))
(.cut 0 r11_Open_o0 r11_Open_p0)))
def r11_Open_w : Orc Tb := mkOrc (Y := (Option (List r11_Row)) × Int) tab [.g (.f (.a (.sl 2))), .g (.f (.a .u16)), .g (.f (.a (.n .i64))), .g (.f (.a (.n .i64)))] [] (fun x h => r11_Open x.1 x.2.1 x.2.2.1 x.2.2.2.1) (fun _ y k => k (.tup [.sl 2 y.1, .n .i64 y.2]) [])
theorem r11_Open_k : (r11_Open_w).Ok Try.prog Wp tab 16 := orc_ok (Y := (Option (List r11_Row)) × Int) (orcs := r11_Open_r) (c := r11_Open_p) (res := [.tmp 8, .tmp 9]) (n := 48) (R := (RSp.one (Y := (Option (List r11_Row)) × Int) tab (.tup [.f (.a (.sl 2)), .f (.a (.n .i64))]) [] (fun a b => (a.1, a.2.1)) (fun y => (y.1, y.2, ())) (fun y => ()))) tabOk r11_Open_rk (RSp.one_ok tabOk (fun _ _ => by kernel_rfl) (fun _ _ => by kernel_rfl)) Try.func16 (by kernel_rfl) (by kernel_rfl) (by kernel_rfl) (by kernel_rfl) (cS trivial (cS (cS trivial (cD (cC (cD (cS trivial trivial)) (cD trivial)))) (cT r11_Open_q0))) (fun _ y k => by kernel_rfl) (fun y => by kernel_rfl) (fun x h => by kernel_rfl)
def r11_Turn_r : Orcs Tb := [(8, r11_Of_w), (28, r11_with_w)]
theorem r11_Turn_rk : OrcsOk Try.prog Wp tab r11_Turn_r := (orcs_cons r11_Of_k (orcs_cons r11_with_k orcs_nil))
def r11_Turn_p1 : TCode Tb :=
(.seq (.seq (.reg [⟨.mv, [.v 14], some 53, none⟩, ⟨(.bin .eql .i), [.m 53, .k (.n .i64 0)], some 54, none⟩] none)
(.cond 54 (.drop [14, 54] (.seq (.reg [⟨.mv, [.m 0], some 55, none⟩, ⟨.mv, [.m 2], some 56, none⟩, ⟨(.build [.u16 (0 : UInt16), .n .i64 0, .n .i64 0] []), [], some 57, none⟩, ⟨(.call (some 28) 1), [.m 55, .m 56, .m 57], some 58, none⟩, ⟨.mv, [.m 58], some 10, none⟩, ⟨.mv, [.k (.n .i64 0)], some 11, none⟩] none)
.ret))
(.drop [54] .skip)))
(.seq (.reg [⟨.mv, [.m 0], some 59, none⟩, ⟨.mv, [.v 2], some 60, none⟩, ⟨.mv, [.m 2], some 61, none⟩, ⟨.mv, [.m 14], some 62, none⟩, ⟨(.build [.u16 (0 : UInt16), .n .i64 0, .n .i64 0] [(0, 1), (1, 1)]), [.m 61, .m 62], some 63, none⟩, ⟨(.call (some 28) 1), [.m 59, .m 60, .m 63], some 64, none⟩, ⟨.mv, [.m 64], some 10, none⟩, ⟨.mv, [.k (.n .i64 0)], some 11, none⟩] none)
.ret))
def r11_Turn_s1 : SSh := ⟨[(0, .g (.f (.a (.sl 2)))), (2, .g (.f (.a .u16))), (14, .g (.f (.a (.n .i64))))], []⟩
def r11_Turn_o1 : Cut Tb := cutJ tab 0 r11_Turn_s1 (fun _ x k => r11_Turn_c1 x.1.1 x.1.2.1 x.1.2.2.1 (fun y18 => k .ret ⟨[(10, .ow 2 y18), (11, .n .i64 0)], []⟩))
theorem r11_Turn_q1 : (r11_Turn_o1).Ok Try.prog Wp tab 0 r11_Turn_p1 := cutJ_ok (c := r11_Turn_p1) tabOk r11_Turn_rk (cS (cS trivial (cC (cD (cS trivial trivial)) (cD trivial))) (cS trivial trivial)) (fun _ _ => by kernel_rfl)
def r11_Turn_p0 : TCode Tb :=
(.seq (.seq (.reg [⟨(.fa 0), [.v 12], some 33, none⟩, ⟨(.load none), [.m 33], some 34, none⟩, ⟨(.bin .eql .i), [.m 34, .k (.u16 (0 : UInt16))], some 35, none⟩, ⟨.mv, [.m 35], some 36, none⟩, ⟨(.fa 1), [.v 12], some 37, some (36, false)⟩, ⟨(.load none), [.m 37], some 38, some (36, false)⟩, ⟨.mv, [.v 13], some 39, some (36, false)⟩, ⟨(.bin .neq .i), [.m 38, .m 39], some 40, some (36, false)⟩, ⟨.pick, [.m 36, .k (.b true), .m 40], some 41, none⟩, ⟨.mv, [.m 41], some 42, none⟩, ⟨.mv, [.m 13], some 43, some (42, false)⟩, ⟨(.bin .geq .i), [.m 43, .k (.n .i64 5)], some 44, some (42, false)⟩, ⟨.mv, [.m 44], some 45, some (42, false)⟩, ⟨(.fa 2), [.m 12], some 46, some (45, true)⟩, ⟨(.load none), [.m 46], some 47, some (45, true)⟩, ⟨.mv, [.m 4], some 48, some (45, true)⟩, ⟨(.bin .neq .i), [.m 47, .m 48], some 49, some (45, true)⟩, ⟨.pick, [.m 45, .m 49, .k (.b false)], some 50, some (42, false)⟩, ⟨.pick, [.m 42, .k (.b true), .m 50], some 51, none⟩] none)
(.drop [4, 12, 13, 37, 38, 39, 43, 44, 45, 46, 47, 48, 49] (.cond 51 (.drop [2, 14, 51] (.seq (.reg [⟨.mv, [.m 0], some 52, none⟩, ⟨.mv, [.m 52], some 10, none⟩, ⟨.mv, [.k (.n .i64 8)], some 11, none⟩] none)
.ret))
(.drop [51] .skip))))
(.cut 0 r11_Turn_o1 r11_Turn_p1))
def r11_Turn_s0 : SSh := ⟨[(0, .g (.f (.a (.sl 2)))), (2, .g (.f (.a .u16))), (4, .g (.f (.a (.n .i64)))), (12, .g (.f (.ref 0 0))), (13, .g (.f (.a (.n .i64)))), (14, .g (.f (.a (.n .i64))))], [[.g (.f (.a .u16)), .g (.f (.a (.n .i64))), .g (.f (.a (.n .i64)))]]⟩
def r11_Turn_o0 : Cut Tb := cutJ tab 0 r11_Turn_s0 (fun _ x k => r11_Turn_c0 x.1.1 x.1.2.1 x.1.2.2.1 x.1.2.2.2.2.1 x.1.2.2.2.2.2.1 (⟨x.2.1.1, x.2.1.2.1, x.2.1.2.2.1⟩ : r11_Row) (k .ret ⟨[(10, .sl 2 x.1.1), (11, .n .i64 8)], [[.u16 ((⟨x.2.1.1, x.2.1.2.1, x.2.1.2.2.1⟩ : r11_Row).Id), .n .i64 ((⟨x.2.1.1, x.2.1.2.1, x.2.1.2.2.1⟩ : r11_Row).State), .n .i64 ((⟨x.2.1.1, x.2.1.2.1, x.2.1.2.2.1⟩ : r11_Row).N)]]⟩) (fun y21 => k .ret ⟨[(10, .ow 2 y21), (11, .n .i64 0)], []⟩))
theorem r11_Turn_q0 : (r11_Turn_o0).Ok Try.prog Wp tab 0 r11_Turn_p0 := cutJ_ok (c := r11_Turn_p0) tabOk r11_Turn_rk (cS (cS trivial (cD (cC (cD (cS trivial trivial)) (cD trivial)))) (cT r11_Turn_q1)) (fun _ _ => by kernel_rfl)
def r11_Turn_p : TCode Tb :=
(.seq (.reg [⟨.mv, [.k (.nilS)], some 10, none⟩, ⟨.mv, [.k (.n .i64 0)], some 11, none⟩] none)
(.seq (.reg [⟨.mv, [.v 0], some 15, none⟩, ⟨.mv, [.v 2], some 16, none⟩, ⟨(.call (some 8) 0), [.m 15, .m 16], some 17, none⟩, ⟨(.alloc [.u16 (0 : UInt16), .n .i64 0, .n .i64 0]), [], some 12, none⟩, ⟨(.store 3), [.v 12, .m 17], none, none⟩] none)
(.seq (.reg [⟨.mv, [.k (.n .i64 0)], some 13, none⟩, ⟨.mv, [.k (.n .i64 0)], some 14, none⟩] none)
(.seq (.seq (.reg [⟨.mv, [.m 1], some 18, none⟩] none)
(.block 0 (.seq (.reg [⟨(.bin .eql .i), [.v 18, .k (.n .i64 4)], some 21, none⟩, ⟨.mv, [.m 21], some 20, none⟩] none)
(.cond 20 (.drop [3, 10, 11, 13, 18, 20] (.reg [⟨.mv, [.k (.n .i64 1)], some 13, none⟩] none))
(.drop [10, 11, 13, 20] (.seq (.reg [⟨(.bin .eql .i), [.v 18, .k (.n .i64 5)], some 23, none⟩, ⟨.mv, [.m 23], some 22, none⟩] none)
(.cond 22 (.drop [14, 18, 22] (.seq (.reg [⟨.mv, [.k (.n .i64 2)], some 13, none⟩, ⟨.mv, [.k (.n .i64 3)], some 14, none⟩] none)
(.seq (.reg [⟨.mv, [.m 3], some 24, none⟩] none)
(.cond 24 (.drop [14, 24] (.reg [⟨.mv, [.k (.n .i64 0)], some 14, none⟩] none))
(.drop [24] .skip)))))
(.drop [3, 22] (.seq (.reg [⟨(.bin .eql .i), [.v 18, .k (.n .i64 6)], some 26, none⟩, ⟨.mv, [.m 26], some 25, none⟩] none)
(.cond 25 (.drop [14, 18, 25] (.reg [⟨.mv, [.k (.n .i64 3)], some 13, none⟩, ⟨.mv, [.k (.n .i64 4)], some 14, none⟩] none))
(.drop [25] (.seq (.reg [⟨(.bin .eql .i), [.v 18, .k (.n .i64 7)], some 28, none⟩, ⟨.mv, [.m 28], some 27, none⟩] none)
(.cond 27 (.drop [18, 27] (.reg [⟨.mv, [.k (.n .i64 4)], some 13, none⟩] none))
(.drop [27] (.seq (.reg [⟨(.bin .eql .i), [.v 18, .k (.n .i64 9)], some 30, none⟩, ⟨.mv, [.m 30], some 29, none⟩] none)
(.cond 29 (.drop [18, 29] (.reg [⟨.mv, [.k (.n .i64 5)], some 13, none⟩] none))
(.drop [29] (.seq (.reg [⟨(.bin .eql .i), [.m 18, .k (.n .i64 11)], some 32, none⟩, ⟨.mv, [.m 32], some 31, none⟩] none)
(.cond 31 (.drop [31] (.reg [⟨.mv, [.k (.n .i64 6)], some 13, none⟩] none))
(.drop [2, 4, 12, 14, 31] (.seq (.reg [⟨.mv, [.m 0], some 19, none⟩, ⟨.mv, [.m 19], some 10, none⟩, ⟨.mv, [.k (.n .i64 1)], some 11, none⟩] none)
.ret)))))))))))))))))))))
(.cut 0 r11_Turn_o0 r11_Turn_p0)))))
def r11_Turn_w : Orc Tb := mkOrc (Y := (Option (List r11_Row)) × Int) tab [.g (.f (.a (.sl 2))), .g (.f (.a (.n .i64))), .g (.f (.a .u16)), .g (.f (.a .b)), .g (.f (.a (.n .i64)))] [] (fun x h => r11_Turn x.1 x.2.1 x.2.2.1 x.2.2.2.1 x.2.2.2.2.1) (fun _ y k => k (.tup [.sl 2 y.1, .n .i64 y.2]) [])
theorem r11_Turn_k : (r11_Turn_w).Ok Try.prog Wp tab 17 := orc_ok (Y := (Option (List r11_Row)) × Int) (orcs := r11_Turn_r) (c := r11_Turn_p) (res := [.tmp 10, .tmp 11]) (n := 65) (R := (RSp.one (Y := (Option (List r11_Row)) × Int) tab (.tup [.f (.a (.sl 2)), .f (.a (.n .i64))]) [] (fun a b => (a.1, a.2.1)) (fun y => (y.1, y.2, ())) (fun y => ()))) tabOk r11_Turn_rk (RSp.one_ok tabOk (fun _ _ => by kernel_rfl) (fun _ _ => by kernel_rfl)) Try.func17 (by kernel_rfl) (by kernel_rfl) (by kernel_rfl) (by kernel_rfl) (cS trivial (cS trivial (cS trivial (cS (cS trivial (cB (cS trivial (cC (cD trivial) (cD (cS trivial (cC (cD (cS trivial (cS trivial (cC (cD trivial) (cD trivial))))) (cD (cS trivial (cC (cD trivial) (cD (cS trivial (cC (cD trivial) (cD (cS trivial (cC (cD trivial) (cD (cS trivial (cC (cD trivial) (cD (cS trivial trivial))))))))))))))))))))) (cT r11_Turn_q0))))) (fun _ y k => by kernel_rfl) (fun y => by kernel_rfl) (fun x h => by kernel_rfl)
def r11_Same_r : Orcs Tb := []
theorem r11_Same_rk : OrcsOk Try.prog Wp tab r11_Same_r := orcs_nil
def r11_Same_p0 : TCode Tb :=
(.seq (.seq (.reg [⟨.mv, [.v 5], some 11, none⟩, ⟨.mv, [.v 0], some 12, none⟩, ⟨.len, [.m 12], some 13, none⟩, ⟨(.bin .lss .i), [.m 11, .m 13], some 14, none⟩] none)
(.cond 14 (.drop [14] .skip)
(.drop [0, 1, 5, 14] (.exit 0))))
(.seq (.block 1 (.seq (.reg [⟨.mv, [.v 0], some 17, none⟩, ⟨.mv, [.v 5], some 18, none⟩, ⟨(.ia 3), [.v 17, .m 18], some 19, none⟩, ⟨(.load (some 3)), [.m 19], some 20, none⟩, ⟨.mv, [.v 1], some 21, none⟩, ⟨.mv, [.v 5], some 22, none⟩, ⟨(.ia 3), [.v 21, .m 22], some 23, none⟩, ⟨(.load (some 3)), [.m 23], some 24, none⟩, ⟨(.eqs true [.i, .i, .i]), [.m 20, .m 24], some 25, none⟩] (some [[], [], [], [], [], [], [], [3], []]))
(.cond 25 (.drop [0, 1, 5, 17, 21, 25] (.seq (.reg [⟨.mv, [.k (.b false)], some 4, none⟩] none)
.ret))
(.drop [17, 21, 25] .skip))))
(.reg [⟨.mv, [.m 5], some 15, none⟩, ⟨(.bin .add .i), [.m 15, .k (.n .i64 1)], some 16, none⟩, ⟨.mv, [.m 16], some 5, none⟩] none)))
def r11_Same_s0 : SSh := ⟨[(0, .g (.f (.a (.sl 2)))), (1, .g (.f (.a (.sl 2)))), (5, .g (.f (.a (.n .i64))))], []⟩
def r11_Same_o0 : Cut Tb := cutL tab 0 r11_Same_s0 (fun x => x.1.2.2.1) (fun x => r11_Same_l0 x.1.1 x.1.2.1) (fun _ x y k => match y with | .inl y => k .ret ⟨[(4, .b false)], []⟩ | .inr y => k (.exit 0) ⟨[], []⟩)
theorem r11_Same_q0 : (r11_Same_o0).Ok Try.prog Wp tab 0 (.loop r11_Same_p0) := cutL_ok (c := r11_Same_p0) (Z := Int) (Y := Unit ⊕ Unit) tabOk r11_Same_rk (cS (cS trivial (cC (cD trivial) (cD trivial))) (cS (cB (cS trivial (cC (cD (cS trivial trivial)) (cD trivial)))) trivial)) (fun _ x z b e => r11_Same_b0 x.1.1 x.1.2.1 z (fun x5 => b x5) (e (.inl ())) (e (.inr ()))) (fun x z => ⟨[(0, .sl 2 x.1.1), (1, .sl 2 x.1.2.1), (5, .n .i64 z)], []⟩) (fun x y => match y with | .inl y => (.ret, ⟨[(4, .b false)], []⟩) | .inr y => ((.exit 0), ⟨[], []⟩)) (fun t => (prjS tab 0 r11_Same_s0 t).bind fun x => some x.1.2.2.1) (fun e t => (if eqE e .ret then orElse ((prjS tab 0 ⟨[(4, .g (.f (.cb false)))], []⟩ t).bind fun v => some (.inl ())) (if eqE e (.exit 0) then (prjS tab 0 ⟨[], []⟩ t).bind fun v => some (.inr ()) else none) else (if eqE e (.exit 0) then (prjS tab 0 ⟨[], []⟩ t).bind fun v => some (.inr ()) else none))) (fun x => by kernel_rfl) (fun x z => by kernel_rfl) (fun x y k => by rcases y with y | y <;> kernel_rfl) (fun x y => by rcases y with y | y <;> exact nofun) (fun x z => by kernel_rfl) (fun x y => by rcases y with y | y <;> kernel_rfl) (fun x z k => by kernel_rfl)
def r11_Same_p : TCode Tb :=
(.seq (.reg [⟨.mv, [.k (.b false)], some 4, none⟩] none)
(.seq (.seq (.reg [⟨.mv, [.v 0], some 6, none⟩, ⟨.len, [.m 6], some 7, none⟩, ⟨.mv, [.v 1], some 8, none⟩, ⟨.len, [.m 8], some 9, none⟩, ⟨(.bin .neq .i), [.m 7, .m 9], some 10, none⟩] none)
(.cond 10 (.drop [0, 1, 4, 10] (.seq (.reg [⟨.mv, [.k (.b false)], some 4, none⟩] none)
.ret))
(.drop [4, 10] .skip)))
(.seq (.seq (.reg [⟨.mv, [.k (.n .i64 0)], some 5, none⟩] none)
(.block 0 (.cut 0 r11_Same_o0 (.loop r11_Same_p0))))
(.seq (.reg [⟨.mv, [.k (.b true)], some 4, none⟩] none)
.ret))))
def r11_Same_w : Orc Tb := mkOrc (Y := Bool) tab [.g (.f (.a (.sl 2))), .g (.f (.a (.sl 2)))] [] (fun x h => r11_Same x.1 x.2.1) (fun _ y k => k (.b y) [])
theorem r11_Same_k : (r11_Same_w).Ok Try.prog Wp tab 18 := orc_ok (Y := Bool) (orcs := r11_Same_r) (c := r11_Same_p) (res := [.tmp 4]) (n := 26) (R := (RSp.one (Y := Bool) tab (.g (.f (.a .b))) [] (fun a b => a) (fun y => y) (fun y => ()))) tabOk r11_Same_rk (RSp.one_ok tabOk (fun _ _ => by kernel_rfl) (fun _ _ => by kernel_rfl)) Try.func18 (by kernel_rfl) (by kernel_rfl) (by kernel_rfl) (by kernel_rfl) (cS trivial (cS (cS trivial (cC (cD (cS trivial trivial)) (cD trivial))) (cS (cS trivial (cB (cT r11_Same_q0))) (cS trivial trivial)))) (fun _ y k => by kernel_rfl) (fun y => by kernel_rfl) (fun x h => by kernel_rfl)
def r11_Flying_r : Orcs Tb := []
theorem r11_Flying_rk : OrcsOk Try.prog Wp tab r11_Flying_r := orcs_nil
def r11_Flying_p0 : TCode Tb :=
(.seq (.seq (.reg [⟨.mv, [.v 4], some 5, none⟩, ⟨.mv, [.v 0], some 6, none⟩, ⟨.len, [.m 6], some 7, none⟩, ⟨(.bin .lss .i), [.m 5, .m 7], some 8, none⟩] none)
(.cond 8 (.drop [8] .skip)
(.drop [0, 4, 8] (.exit 0))))
(.seq (.block 1 (.seq (.reg [⟨.mv, [.v 0], some 11, none⟩, ⟨.mv, [.v 4], some 12, none⟩, ⟨(.ia 3), [.v 11, .m 12], some 13, none⟩, ⟨(.fa 1), [.m 13], some 14, none⟩, ⟨(.load none), [.m 14], some 15, none⟩, ⟨(.bin .leq .i), [.m 15, .k (.n .i64 4)], some 16, none⟩] none)
(.cond 16 (.drop [11, 16] (.reg [⟨.mv, [.m 3], some 17, none⟩, ⟨(.bin .add .i), [.m 17, .k (.n .i64 1)], some 18, none⟩, ⟨.mv, [.m 18], some 3, none⟩] none))
(.drop [11, 16] .skip))))
(.reg [⟨.mv, [.m 4], some 9, none⟩, ⟨(.bin .add .i), [.m 9, .k (.n .i64 1)], some 10, none⟩, ⟨.mv, [.m 10], some 4, none⟩] none)))
def r11_Flying_s0 : SSh := ⟨[(0, .g (.f (.a (.sl 2)))), (3, .g (.f (.a (.n .i64)))), (4, .g (.f (.a (.n .i64))))], []⟩
def r11_Flying_o0 : Cut Tb := cutL tab 0 r11_Flying_s0 (fun x => (x.1.2.1, x.1.2.2.1)) (fun x => r11_Flying_l0 x.1.1) (fun _ x y k => k (.exit 0) ⟨[(3, .n .i64 y)], []⟩)
theorem r11_Flying_q0 : (r11_Flying_o0).Ok Try.prog Wp tab 0 (.loop r11_Flying_p0) := cutL_ok (c := r11_Flying_p0) (Z := Int × Int) (Y := Int) tabOk r11_Flying_rk (cS (cS trivial (cC (cD trivial) (cD trivial))) (cS (cB (cS trivial (cC (cD trivial) (cD trivial)))) trivial)) (fun _ x z b e => r11_Flying_b0 x.1.1 z.1 z.2 (fun x3 x4 => b (x3, x4)) (fun y6 => e y6)) (fun x z => ⟨[(0, .sl 2 x.1.1), (3, .n .i64 z.1), (4, .n .i64 z.2)], []⟩) (fun x y => ((.exit 0), ⟨[(3, .n .i64 y)], []⟩)) (fun t => (prjS tab 0 r11_Flying_s0 t).bind fun x => some (x.1.2.1, x.1.2.2.1)) (fun e t => (if eqE e (.exit 0) then (prjS tab 0 ⟨[(3, .g (.f (.a (.n .i64))))], []⟩ t).bind fun v => some v.1.1 else none)) (fun x => by kernel_rfl) (fun x z => by kernel_rfl) (fun x y k => by kernel_rfl) (fun x y => by exact nofun) (fun x z => by kernel_rfl) (fun x y => by kernel_rfl) (fun x z k => by kernel_rfl)
def r11_Flying_p : TCode Tb :=
(.seq (.reg [⟨.mv, [.k (.n .i64 0)], some 2, none⟩] none)
(.seq (.reg [⟨.mv, [.k (.n .i64 0)], some 3, none⟩] none)
(.seq (.seq (.reg [⟨.mv, [.k (.n .i64 0)], some 4, none⟩] none)
(.block 0 (.drop [2] (.cut 0 r11_Flying_o0 (.loop r11_Flying_p0)))))
(.seq (.reg [⟨.mv, [.m 3], some 19, none⟩, ⟨.mv, [.m 19], some 2, none⟩] none)
.ret))))
def r11_Flying_w : Orc Tb := mkOrc (Y := Int) tab [.g (.f (.a (.sl 2)))] [] (fun x h => r11_Flying x.1) (fun _ y k => k (.n .i64 y) [])
theorem r11_Flying_k : (r11_Flying_w).Ok Try.prog Wp tab 19 := orc_ok (Y := Int) (orcs := r11_Flying_r) (c := r11_Flying_p) (res := [.tmp 2]) (n := 20) (R := (RSp.one (Y := Int) tab (.g (.f (.a (.n .i64)))) [] (fun a b => a) (fun y => y) (fun y => ()))) tabOk r11_Flying_rk (RSp.one_ok tabOk (fun _ _ => by kernel_rfl) (fun _ _ => by kernel_rfl)) Try.func19 (by kernel_rfl) (by kernel_rfl) (by kernel_rfl) (by kernel_rfl) (cS trivial (cS trivial (cS (cS trivial (cB (cD (cT r11_Flying_q0)))) (cS trivial trivial)))) (fun _ y k => by kernel_rfl) (fun y => by kernel_rfl) (fun x h => by kernel_rfl)
def l11_IdsActs_r : Orcs Tb := [(11, l11_told_w), (9, l11_From_w), (7, ids_Open_w), (16, r11_Open_w), (10, ids_Turn_w), (17, r11_Turn_w), (18, r11_Same_w), (13, ids_Right_w), (12, ids_Flying_w), (19, r11_Flying_w)]
theorem l11_IdsActs_rk : OrcsOk Try.prog Wp tab l11_IdsActs_r := (orcs_cons l11_told_k (orcs_cons l11_From_k (orcs_cons ids_Open_k (orcs_cons r11_Open_k (orcs_cons ids_Turn_k (orcs_cons r11_Turn_k (orcs_cons r11_Same_k (orcs_cons ids_Right_k (orcs_cons ids_Flying_k (orcs_cons r11_Flying_k orcs_nil))))))))))
def l11_IdsActs_p1 : TCode Tb :=
(.seq (.seq (.reg [⟨.mv, [.m 10], some 80, none⟩, ⟨.mv, [.m 11], some 81, none⟩, ⟨(.bin .neq .i), [.m 80, .m 81], some 82, none⟩, ⟨.mv, [.m 82], some 83, none⟩, ⟨.mv, [.v 8], some 84, some (83, false)⟩, ⟨(.call (some 9) 1), [.m 84], some 85, some (83, false)⟩, ⟨.mv, [.v 9], some 86, some (83, false)⟩, ⟨(.call (some 18) 6), [.m 85, .m 86], some 87, some (83, false)⟩, ⟨(.un .not), [.m 87], some 88, some (83, false)⟩, ⟨.pick, [.m 83, .k (.b true), .m 88], some 89, none⟩, ⟨.mv, [.m 89], some 90, none⟩, ⟨.mv, [.m 3], some 91, some (90, false)⟩, ⟨(.call (some 9) 1), [.m 91], some 92, some (90, false)⟩, ⟨.mv, [.m 7], some 93, some (90, false)⟩, ⟨(.call (some 18) 6), [.m 92, .m 93], some 94, some (90, false)⟩, ⟨(.un .not), [.m 94], some 95, some (90, false)⟩, ⟨.pick, [.m 90, .k (.b true), .m 95], some 96, none⟩, ⟨.mv, [.m 96], some 97, none⟩, ⟨.mv, [.v 8], some 98, some (97, false)⟩, ⟨(.call (some 13) 7), [.m 98], some 99, some (97, false)⟩, ⟨(.un .not), [.m 99], some 100, some (97, false)⟩, ⟨.pick, [.m 97, .k (.b true), .m 100], some 101, none⟩, ⟨.mv, [.m 101], some 102, none⟩, ⟨.mv, [.v 8], some 103, some (102, false)⟩, ⟨(.call (some 12) 8), [.m 103], some 104, some (102, false)⟩, ⟨.mv, [.v 9], some 105, some (102, false)⟩, ⟨(.call (some 19) 9), [.m 105], some 106, some (102, false)⟩, ⟨(.bin .neq .i), [.m 104, .m 106], some 107, some (102, false)⟩, ⟨.pick, [.m 102, .k (.b true), .m 107], some 108, none⟩] none)
(.drop [3, 7, 84, 85, 86, 87, 91, 92, 93, 94, 98, 99, 103, 104, 105, 106] (.cond 108 (.drop [0, 5, 8, 9, 108] (.seq (.reg [⟨.mv, [.k (.b false)], some 2, none⟩] none)
.ret))
(.drop [108] .skip))))
(.reg [⟨.mv, [.m 8], some 109, none⟩, ⟨.mv, [.m 9], some 110, none⟩, ⟨.mv, [.m 109], some 3, none⟩, ⟨.mv, [.m 110], some 4, none⟩] none))
def l11_IdsActs_s1 : SSh := ⟨[(0, .g (.f (.a (.sl 7)))), (3, .g (.f (.a (.sl 1)))), (5, .g (.f (.a (.n .i64)))), (7, .g (.f (.ow 2))), (8, .g (.f (.a (.sl 1)))), (9, .g (.f (.a (.sl 2)))), (10, .g (.f (.a (.n .i64)))), (11, .g (.f (.a (.n .i64))))], []⟩
def l11_IdsActs_o1 : Cut Tb := cutJ tab 0 l11_IdsActs_s1 (fun _ x k => l11_IdsActs_c1 x.1.2.1 x.1.2.2.2.1 x.1.2.2.2.2.1 x.1.2.2.2.2.2.1 x.1.2.2.2.2.2.2.1 x.1.2.2.2.2.2.2.2.1 (k .ret ⟨[(2, .b false)], []⟩) (k .normal ⟨[(0, .sl 7 x.1.1), (3, .sl 1 x.1.2.2.2.2.1), (4, .sl 2 x.1.2.2.2.2.2.1), (5, .n .i64 x.1.2.2.1)], []⟩))
theorem l11_IdsActs_q1 : (l11_IdsActs_o1).Ok Try.prog Wp tab 0 l11_IdsActs_p1 := cutJ_ok (c := l11_IdsActs_p1) tabOk l11_IdsActs_rk (cS (cS trivial (cD (cC (cD (cS trivial trivial)) (cD trivial)))) trivial) (fun _ _ => by kernel_rfl)
def l11_IdsActs_p0 : TCode Tb :=
(.seq (.seq (.reg [⟨.mv, [.v 5], some 14, none⟩, ⟨.mv, [.v 0], some 15, none⟩, ⟨.len, [.m 15], some 16, none⟩, ⟨(.bin .lss .i), [.m 14, .m 16], some 17, none⟩, ⟨.mv, [.m 17], some 18, none⟩, ⟨.mv, [.v 5], some 19, some (18, true)⟩, ⟨(.bin .lss .i), [.m 19, .k (.n .i64 100)], some 20, some (18, true)⟩, ⟨.pick, [.m 18, .m 20, .k (.b false)], some 21, none⟩] none)
(.drop [19] (.cond 21 (.drop [21] .skip)
(.drop [0, 3, 4, 5, 21] (.exit 0)))))
(.seq (.block 1 (.seq (.reg [⟨.mv, [.v 0], some 24, none⟩, ⟨.mv, [.v 5], some 25, none⟩, ⟨(.ia 6), [.v 24, .m 25], some 26, none⟩, ⟨(.load (some 6)), [.m 26], some 27, none⟩, ⟨(.alloc [.b false, .n .i64 0, .u16 (0 : UInt16), .n .i64 0, .b false, .n .i64 0]), [], some 6, none⟩, ⟨(.store 6), [.v 6, .m 27], none, none⟩] none)
(.seq (.reg [⟨.mv, [.v 3], some 28, none⟩, ⟨(.call (some 9) 1), [.m 28], some 29, none⟩, ⟨.mv, [.m 29], some 7, none⟩] none)
(.seq (.reg [⟨.mv, [.k (.nilS)], some 8, none⟩] none)
(.seq (.reg [⟨.mv, [.k (.nilS)], some 9, none⟩] none)
(.seq (.reg [⟨.mv, [.k (.n .i64 0)], some 10, none⟩] none)
(.seq (.reg [⟨.mv, [.k (.n .i64 0)], some 11, none⟩] none)
(.seq (.seq (.reg [⟨(.fa 0), [.v 6], some 30, none⟩, ⟨(.load none), [.m 30], some 31, none⟩] none)
(.cond 31 (.drop [8, 9, 10, 11, 24, 31] (.seq (.reg [⟨.mv, [.v 3], some 33, none⟩, ⟨(.fa 2), [.v 6], some 34, none⟩, ⟨(.load none), [.m 34], some 35, none⟩, ⟨(.fa 3), [.v 6], some 36, none⟩, ⟨(.load none), [.m 36], some 37, none⟩, ⟨(.fa 5), [.v 6], some 38, none⟩, ⟨(.load none), [.m 38], some 39, none⟩, ⟨(.call (some 7) 2), [.m 33, .m 35, .m 37, .m 39], some 40, none⟩, ⟨.mv, [.m 40], some 32, none⟩, ⟨.extm, [.c 32 0], some 41, none⟩, ⟨(.ext 1), [.m 32], some 42, none⟩, ⟨.mv, [.m 41], some 8, none⟩, ⟨.mv, [.m 42], some 10, none⟩] none)
(.reg [⟨.mv, [.m 4], some 44, none⟩, ⟨(.fa 2), [.v 6], some 45, none⟩, ⟨(.load none), [.m 45], some 46, none⟩, ⟨(.fa 3), [.v 6], some 47, none⟩, ⟨(.load none), [.m 47], some 48, none⟩, ⟨(.fa 5), [.m 6], some 49, none⟩, ⟨(.load none), [.m 49], some 50, none⟩, ⟨(.call (some 16) 3), [.m 44, .m 46, .m 48, .m 50], some 51, none⟩, ⟨.mv, [.m 51], some 43, none⟩, ⟨.extm, [.c 43 0], some 52, none⟩, ⟨(.ext 1), [.m 43], some 53, none⟩, ⟨.mv, [.m 52], some 9, none⟩, ⟨.mv, [.m 53], some 11, none⟩] none)))
(.drop [8, 9, 10, 11, 24, 31] (.seq (.reg [⟨.mv, [.v 3], some 55, none⟩, ⟨(.fa 1), [.v 6], some 56, none⟩, ⟨(.load none), [.m 56], some 57, none⟩, ⟨(.fa 2), [.v 6], some 58, none⟩, ⟨(.load none), [.m 58], some 59, none⟩, ⟨(.fa 4), [.v 6], some 60, none⟩, ⟨(.load none), [.m 60], some 61, none⟩, ⟨(.fa 5), [.v 6], some 62, none⟩, ⟨(.load none), [.m 62], some 63, none⟩, ⟨(.call (some 10) 4), [.m 55, .m 57, .m 59, .m 61, .m 63], some 64, none⟩, ⟨.mv, [.m 64], some 54, none⟩, ⟨.extm, [.c 54 0], some 65, none⟩, ⟨(.ext 1), [.m 54], some 66, none⟩, ⟨.mv, [.m 65], some 8, none⟩, ⟨.mv, [.m 66], some 10, none⟩] none)
(.reg [⟨.mv, [.m 4], some 68, none⟩, ⟨(.fa 1), [.v 6], some 69, none⟩, ⟨(.load none), [.m 69], some 70, none⟩, ⟨(.fa 2), [.v 6], some 71, none⟩, ⟨(.load none), [.m 71], some 72, none⟩, ⟨(.fa 4), [.v 6], some 73, none⟩, ⟨(.load none), [.m 73], some 74, none⟩, ⟨(.fa 5), [.m 6], some 75, none⟩, ⟨(.load none), [.m 75], some 76, none⟩, ⟨(.call (some 17) 5), [.m 68, .m 70, .m 72, .m 74, .m 76], some 77, none⟩, ⟨.mv, [.m 77], some 67, none⟩, ⟨.extm, [.c 67 0], some 78, none⟩, ⟨(.ext 1), [.m 67], some 79, none⟩, ⟨.mv, [.m 78], some 9, none⟩, ⟨.mv, [.m 79], some 11, none⟩] none)))))
(.cut 0 l11_IdsActs_o1 l11_IdsActs_p1)))))))))
(.reg [⟨.mv, [.m 5], some 22, none⟩, ⟨(.bin .add .i), [.m 22, .k (.n .i64 1)], some 23, none⟩, ⟨.mv, [.m 23], some 5, none⟩] none)))
def l11_IdsActs_s0 : SSh := ⟨[(0, .g (.f (.a (.sl 7)))), (3, .g (.f (.a (.sl 1)))), (4, .g (.f (.a (.sl 2)))), (5, .g (.f (.a (.n .i64))))], []⟩
def l11_IdsActs_o0 : Cut Tb := cutL tab 0 l11_IdsActs_s0 (fun x => (x.1.2.1, x.1.2.2.1, x.1.2.2.2.1)) (fun x => l11_IdsActs_l0 x.1.1) (fun _ x y k => match y with | .inl y => k .ret ⟨[(2, .b false)], []⟩ | .inr y => k (.exit 0) ⟨[], []⟩)
theorem l11_IdsActs_q0 : (l11_IdsActs_o0).Ok Try.prog Wp tab 0 (.loop l11_IdsActs_p0) := cutL_ok (c := l11_IdsActs_p0) (Z := (Option (List ids_Row)) × (Option (List r11_Row)) × Int) (Y := Unit ⊕ Unit) tabOk l11_IdsActs_rk (cS (cS trivial (cD (cC (cD trivial) (cD trivial)))) (cS (cB (cS trivial (cS trivial (cS trivial (cS trivial (cS trivial (cS trivial (cS (cS trivial (cC (cD (cS trivial trivial)) (cD (cS trivial trivial)))) (cT l11_IdsActs_q1))))))))) trivial)) (fun _ x z b e => l11_IdsActs_b0 x.1.1 z.1 z.2.1 z.2.2 (fun x4 x5 x6 => b (x4, x5, x6)) (e (.inl ())) (e (.inr ()))) (fun x z => ⟨[(0, .sl 7 x.1.1), (3, .sl 1 z.1), (4, .sl 2 z.2.1), (5, .n .i64 z.2.2)], []⟩) (fun x y => match y with | .inl y => (.ret, ⟨[(2, .b false)], []⟩) | .inr y => ((.exit 0), ⟨[], []⟩)) (fun t => (prjS tab 0 l11_IdsActs_s0 t).bind fun x => some (x.1.2.1, x.1.2.2.1, x.1.2.2.2.1)) (fun e t => (if eqE e .ret then orElse ((prjS tab 0 ⟨[(2, .g (.f (.cb false)))], []⟩ t).bind fun v => some (.inl ())) (if eqE e (.exit 0) then (prjS tab 0 ⟨[], []⟩ t).bind fun v => some (.inr ()) else none) else (if eqE e (.exit 0) then (prjS tab 0 ⟨[], []⟩ t).bind fun v => some (.inr ()) else none))) (fun x => by kernel_rfl) (fun x z => by kernel_rfl) (fun x y k => by rcases y with y | y <;> kernel_rfl) (fun x y => by rcases y with y | y <;> exact nofun) (fun x z => by kernel_rfl) (fun x y => by rcases y with y | y <;> kernel_rfl) (fun x z k => by kernel_rfl)
def l11_IdsActs_p : TCode Tb :=
(.seq (.reg [⟨.mv, [.k (.b false)], some 2, none⟩] none)
(.seq (.reg [⟨.mv, [.k (.nilS)], some 3, none⟩] none)
(.seq (.reg [⟨.mv, [.k (.nilS)], some 4, none⟩] none)
(.seq (.seq (.reg [⟨(.call (some 11) 0), [], some 12, none⟩, ⟨(.un .not), [.m 12], some 13, none⟩] none)
(.cond 13 (.drop [0, 2, 3, 4, 13] (.seq (.reg [⟨.mv, [.k (.b false)], some 2, none⟩] none)
.ret))
(.drop [2, 13] .skip)))
(.seq (.seq (.reg [⟨.mv, [.k (.n .i64 0)], some 5, none⟩] none)
(.block 0 (.cut 0 l11_IdsActs_o0 (.loop l11_IdsActs_p0))))
(.seq (.reg [⟨.mv, [.k (.b true)], some 2, none⟩] none)
.ret))))))
def l11_IdsActs_w : Orc Tb := mkOrc (Y := Bool) tab [.g (.f (.a (.sl 7)))] [] (fun x h => l11_IdsActs x.1) (fun _ y k => k (.b y) [])
theorem l11_IdsActs_k : (l11_IdsActs_w).Ok Try.prog Wp tab 6 := orc_ok (Y := Bool) (orcs := l11_IdsActs_r) (c := l11_IdsActs_p) (res := [.tmp 2]) (n := 111) (R := (RSp.one (Y := Bool) tab (.g (.f (.a .b))) [] (fun a b => a) (fun y => y) (fun y => ()))) tabOk l11_IdsActs_rk (RSp.one_ok tabOk (fun _ _ => by kernel_rfl) (fun _ _ => by kernel_rfl)) Try.func6 (by kernel_rfl) (by kernel_rfl) (by kernel_rfl) (by kernel_rfl) (cS trivial (cS trivial (cS trivial (cS (cS trivial (cC (cD (cS trivial trivial)) (cD trivial))) (cS (cS trivial (cB (cT l11_IdsActs_q0))) (cS trivial trivial)))))) (fun _ y k => by kernel_rfl) (fun y => by kernel_rfl) (fun x h => by kernel_rfl)
end Go.Rv
