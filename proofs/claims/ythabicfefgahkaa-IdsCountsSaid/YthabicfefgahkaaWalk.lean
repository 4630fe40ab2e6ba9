/- That the program's functions are these plain functions. -/
import Derived.Test.YthabicfefgahkaaPure
import Derived.Test.YthabicfefgahkaaChecked
set_option linter.unusedSimpArgs false
set_option linter.unusedVariables false
set_option maxRecDepth 100000
namespace Go.Rv
open Go.Proofs
variable {Wp : World → Prop}
def ids_counts_r : Orcs Tb := []
theorem ids_counts_rk : OrcsOk Try.prog Wp tab ids_counts_r := orcs_nil
def ids_counts_p : TCode Tb :=
(.seq (.reg [⟨.mv, [.k (.b false)], some 4, none⟩] none)
(.seq (.reg [⟨.mv, [.v 1], some 5, none⟩, ⟨(.bin .eql .i), [.m 5, .k (.n .i64 0)], some 6, none⟩, ⟨.mv, [.m 6], some 7, none⟩, ⟨.mv, [.m 1], some 8, some (7, false)⟩, ⟨(.bin .gtr .i), [.m 8, .k (.n .i64 0)], some 9, some (7, false)⟩, ⟨.mv, [.m 9], some 10, some (7, false)⟩, ⟨.mv, [.m 0], some 11, some (10, true)⟩, ⟨(.bin .geq .i), [.m 11, .k (.n .i64 5)], some 12, some (10, true)⟩, ⟨.pick, [.m 10, .m 12, .k (.b false)], some 13, some (7, false)⟩, ⟨.pick, [.m 7, .k (.b true), .m 13], some 14, none⟩, ⟨.mv, [.m 14], some 4, none⟩] none)
(.drop [0, 1, 8, 9, 10, 11, 12] .ret)))
def ids_counts_w : Orc Tb := mkOrc (Y := Bool) tab [.g (.f (.a (.n .i64))), .g (.f (.a (.n .i64)))] [] (fun x h => ids_counts x.1 x.2.1) (fun _ y k => k (.b y) [])
theorem ids_counts_k : (ids_counts_w).Ok Try.prog Wp tab 20 := orc_ok (Y := Bool) (orcs := ids_counts_r) (c := ids_counts_p) (res := [.tmp 4]) (n := 15) (R := (RSp.one (Y := Bool) tab (.g (.f (.a .b))) [] (fun a b => a) (fun y => y) (fun y => ()))) tabOk ids_counts_rk (RSp.one_ok tabOk (fun _ _ => by kernel_rfl) (fun _ _ => by kernel_rfl)) Try.func20 (by kernel_rfl) (by kernel_rfl) (by kernel_rfl) (by kernel_rfl) (cS trivial (cS trivial (cD trivial))) (fun _ y k => by kernel_rfl) (fun y => by kernel_rfl) (fun x h => by kernel_rfl)
def cmp_isNaN_uint16_r : Orcs Tb := []
theorem cmp_isNaN_uint16_rk : OrcsOk Try.prog Wp tab cmp_isNaN_uint16_r := orcs_nil
def cmp_isNaN_uint16_p : TCode Tb :=
(.seq (.reg [⟨.mv, [.k (.b false)], some 2, none⟩] none)
(.seq (.reg [⟨.mv, [.v 0], some 3, none⟩, ⟨.mv, [.m 0], some 4, none⟩, ⟨(.bin .neq .i), [.m 3, .m 4], some 5, none⟩, ⟨.mv, [.m 5], some 2, none⟩] none)
.ret))
def cmp_isNaN_uint16_w : Orc Tb := mkOrc (Y := Bool) tab [.g (.f (.a .u16))] [] (fun x h => cmp_isNaN_uint16 x.1) (fun _ y k => k (.b y) [])
theorem cmp_isNaN_uint16_k : (cmp_isNaN_uint16_w).Ok Try.prog Wp tab 34 := orc_ok (Y := Bool) (orcs := cmp_isNaN_uint16_r) (c := cmp_isNaN_uint16_p) (res := [.tmp 2]) (n := 6) (R := (RSp.one (Y := Bool) tab (.g (.f (.a .b))) [] (fun a b => a) (fun y => y) (fun y => ()))) tabOk cmp_isNaN_uint16_rk (RSp.one_ok tabOk (fun _ _ => by kernel_rfl) (fun _ _ => by kernel_rfl)) Try.func34 (by kernel_rfl) (by kernel_rfl) (by kernel_rfl) (by kernel_rfl) (cS trivial (cS trivial trivial)) (fun _ y k => by kernel_rfl) (fun y => by kernel_rfl) (fun x h => by kernel_rfl)
def cmp_Compare_uint16_r : Orcs Tb := [(34, cmp_isNaN_uint16_w)]
theorem cmp_Compare_uint16_rk : OrcsOk Try.prog Wp tab cmp_Compare_uint16_r := (orcs_cons cmp_isNaN_uint16_k orcs_nil)
def cmp_Compare_uint16_p : TCode Tb :=
(.seq (.reg [⟨.mv, [.k (.n .i64 0)], some 4, none⟩] none)
(.seq (.reg [⟨.mv, [.v 0], some 7, none⟩, ⟨(.call (some 34) 0), [.m 7], some 8, none⟩, ⟨.mv, [.m 8], some 5, none⟩] none)
(.seq (.reg [⟨.mv, [.v 1], some 9, none⟩, ⟨(.call (some 34) 0), [.m 9], some 10, none⟩, ⟨.mv, [.m 10], some 6, none⟩] none)
(.seq (.seq (.reg [⟨.mv, [.m 5], some 11, none⟩] none)
(.cond 11 (.drop [0, 1, 4, 11] (.seq (.seq (.reg [⟨.mv, [.m 6], some 12, none⟩] none)
(.cond 12 (.drop [12] (.seq (.reg [⟨.mv, [.k (.n .i64 0)], some 4, none⟩] none)
.ret))
(.drop [12] .skip)))
(.seq (.reg [⟨.mv, [.k (.n .i64 (-1))], some 4, none⟩] none)
.ret)))
(.drop [4, 11] .skip)))
(.seq (.seq (.reg [⟨.mv, [.m 6], some 13, none⟩] none)
(.cond 13 (.drop [0, 1, 13] (.seq (.reg [⟨.mv, [.k (.n .i64 1)], some 4, none⟩] none)
.ret))
(.drop [13] .skip)))
(.seq (.seq (.reg [⟨.mv, [.v 0], some 14, none⟩, ⟨.mv, [.v 1], some 15, none⟩, ⟨(.bin .lss .i), [.m 14, .m 15], some 16, none⟩] none)
(.cond 16 (.drop [0, 1, 16] (.seq (.reg [⟨.mv, [.k (.n .i64 (-1))], some 4, none⟩] none)
.ret))
(.drop [16] .skip)))
(.seq (.seq (.reg [⟨.mv, [.m 0], some 17, none⟩, ⟨.mv, [.m 1], some 18, none⟩, ⟨(.bin .gtr .i), [.m 17, .m 18], some 19, none⟩] none)
(.cond 19 (.drop [19] (.seq (.reg [⟨.mv, [.k (.n .i64 1)], some 4, none⟩] none)
.ret))
(.drop [19] .skip)))
(.seq (.reg [⟨.mv, [.k (.n .i64 0)], some 4, none⟩] none)
.ret))))))))
def cmp_Compare_uint16_w : Orc Tb := mkOrc (Y := Int) tab [.g (.f (.a .u16)), .g (.f (.a .u16))] [] (fun x h => cmp_Compare_uint16 x.1 x.2.1) (fun _ y k => k (.n .i64 y) [])
theorem cmp_Compare_uint16_k : (cmp_Compare_uint16_w).Ok Try.prog Wp tab 32 := orc_ok (Y := Int) (orcs := cmp_Compare_uint16_r) (c := cmp_Compare_uint16_p) (res := [.tmp 4]) (n := 20) (R := (RSp.one (Y := Int) tab (.g (.f (.a (.n .i64)))) [] (fun a b => a) (fun y => y) (fun y => ()))) tabOk cmp_Compare_uint16_rk (RSp.one_ok tabOk (fun _ _ => by kernel_rfl) (fun _ _ => by kernel_rfl)) Try.func32 (by kernel_rfl) (by kernel_rfl) (by kernel_rfl) (by kernel_rfl) (cS trivial (cS trivial (cS trivial (cS (cS trivial (cC (cD (cS (cS trivial (cC (cD (cS trivial trivial)) (cD trivial))) (cS trivial trivial))) (cD trivial))) (cS (cS trivial (cC (cD (cS trivial trivial)) (cD trivial))) (cS (cS trivial (cC (cD (cS trivial trivial)) (cD trivial))) (cS (cS trivial (cC (cD (cS trivial trivial)) (cD trivial))) (cS trivial trivial)))))))) (fun _ y k => by kernel_rfl) (fun y => by kernel_rfl) (fun x h => by kernel_rfl)
def ids_order_r : Orcs Tb := [(32, cmp_Compare_uint16_w)]
theorem ids_order_rk : OrcsOk Try.prog Wp tab ids_order_r := (orcs_cons cmp_Compare_uint16_k orcs_nil)
def ids_order_p : TCode Tb :=
(.seq (.reg [⟨.box, [.m 0], some 2, none⟩, ⟨.box, [.m 1], some 3, none⟩, ⟨.mv, [.k (.n .i64 0)], some 4, none⟩] none)
(.seq (.reg [⟨(.fa 0), [.m 2], some 5, none⟩, ⟨(.load none), [.m 5], some 6, none⟩, ⟨(.fa 0), [.m 3], some 7, none⟩, ⟨(.load none), [.m 7], some 8, none⟩, ⟨(.call (some 32) 0), [.m 6, .m 8], some 9, none⟩, ⟨.mv, [.m 9], some 4, none⟩] none)
.ret))
def ids_order_w : Orc Tb := mkOrc (Y := Int) tab [.g (.st 1), .g (.st 1)] [] (fun x h => ids_order (⟨x.1.Id, x.1.State, x.1.N⟩ : ids_Row) (⟨x.2.1.Id, x.2.1.State, x.2.1.N⟩ : ids_Row)) (fun _ y k => k (.n .i64 y) [])
theorem ids_order_k : (ids_order_w).Ok Try.prog Wp tab 26 := orc_ok (Y := Int) (orcs := ids_order_r) (c := ids_order_p) (res := [.tmp 4]) (n := 10) (R := (RSp.one (Y := Int) tab (.g (.f (.a (.n .i64)))) [] (fun a b => a) (fun y => y) (fun y => ()))) tabOk ids_order_rk (RSp.one_ok tabOk (fun _ _ => by kernel_rfl) (fun _ _ => by kernel_rfl)) Try.func26 (by kernel_rfl) (by kernel_rfl) (by kernel_rfl) (by kernel_rfl) (cS trivial (cS trivial trivial)) (fun _ y k => by kernel_rfl) (fun y => by kernel_rfl) (fun x h => by kernel_rfl)
def slices_BinarySearchFunc_ids_Table_ids_Row_ids_Row_r : Orcs Tb := [(26, ids_order_w)]
theorem slices_BinarySearchFunc_ids_Table_ids_Row_ids_Row_rk : OrcsOk Try.prog Wp tab slices_BinarySearchFunc_ids_Table_ids_Row_ids_Row_r := (orcs_cons ids_order_k orcs_nil)
def slices_BinarySearchFunc_ids_Table_ids_Row_ids_Row_p0 : TCode Tb :=
(.seq (.seq (.reg [⟨.mv, [.v 9], some 15, none⟩, ⟨.mv, [.v 10], some 16, none⟩, ⟨(.bin .lss .i), [.m 15, .m 16], some 17, none⟩] none)
(.cond 17 (.drop [17] .skip)
(.drop [10, 17] (.exit 0))))
(.block 1 (.seq (.reg [⟨.mv, [.v 9], some 18, none⟩, ⟨.mv, [.v 10], some 19, none⟩, ⟨(.bin .add .i), [.m 18, .m 19], some 20, none⟩, ⟨(.cint .u64), [.m 20], some 21, none⟩, ⟨(.bin .shr .i), [.m 21, .k (.u64 (1 : UInt64))], some 22, none⟩, ⟨(.cint .i64), [.m 22], some 23, none⟩, ⟨.mv, [.m 23], some 11, none⟩] none)
(.seq (.reg [⟨.mv, [.v 2], some 24, none⟩, ⟨.mv, [.v 0], some 25, none⟩, ⟨.mv, [.v 11], some 26, none⟩, ⟨(.ia 3), [.v 25, .m 26], some 27, none⟩, ⟨(.load (some 3)), [.m 27], some 28, none⟩, ⟨(.load (some 3)), [.v 4], some 29, none⟩, ⟨(.call none 0), [.m 24, .m 28, .m 29], some 30, none⟩, ⟨(.bin .lss .i), [.m 30, .k (.n .i64 0)], some 31, none⟩] (some [[], [], [], [], [], [4], [], []]))
(.cond 31 (.drop [9, 25, 31] (.reg [⟨.mv, [.m 11], some 32, none⟩, ⟨(.bin .add .i), [.m 32, .k (.n .i64 1)], some 33, none⟩, ⟨.mv, [.m 33], some 9, none⟩] none))
(.drop [10, 25, 31] (.reg [⟨.mv, [.m 11], some 34, none⟩, ⟨.mv, [.m 34], some 10, none⟩] none)))))))
def slices_BinarySearchFunc_ids_Table_ids_Row_ids_Row_s0 : SSh := ⟨[(0, .g (.f (.a (.sl 1)))), (2, .g (.clo 26 [] [])), (4, .g (.f (.ref 0 0))), (8, .g (.f (.a (.n .i64)))), (9, .g (.f (.a (.n .i64)))), (10, .g (.f (.a (.n .i64))))], [[.g (.f (.a .u16)), .g (.f (.a (.n .i64))), .g (.f (.a (.n .i64)))]]⟩
def slices_BinarySearchFunc_ids_Table_ids_Row_ids_Row_o0 : Cut Tb := cutL tab 0 slices_BinarySearchFunc_ids_Table_ids_Row_ids_Row_s0 (fun x => (x.1.2.2.2.2.1, x.1.2.2.2.2.2.1)) (fun x => slices_BinarySearchFunc_ids_Table_ids_Row_ids_Row_l0 x.1.1 (⟨x.2.1.1, x.2.1.2.1, x.2.1.2.2.1⟩ : ids_Row)) (fun _ x y k => k (.exit 0) ⟨[(0, .sl 1 x.1.1), (2, .clo 26 [] []), (4, .ref 0 0), (8, .n .i64 x.1.2.2.2.1), (9, .n .i64 y)], [[.u16 ((⟨x.2.1.1, x.2.1.2.1, x.2.1.2.2.1⟩ : ids_Row).Id), .n .i64 ((⟨x.2.1.1, x.2.1.2.1, x.2.1.2.2.1⟩ : ids_Row).State), .n .i64 ((⟨x.2.1.1, x.2.1.2.1, x.2.1.2.2.1⟩ : ids_Row).N)]]⟩)
theorem slices_BinarySearchFunc_ids_Table_ids_Row_ids_Row_q0 : (slices_BinarySearchFunc_ids_Table_ids_Row_ids_Row_o0).Ok Try.prog Wp tab 0 (.loop slices_BinarySearchFunc_ids_Table_ids_Row_ids_Row_p0) := cutL_ok (c := slices_BinarySearchFunc_ids_Table_ids_Row_ids_Row_p0) (Z := Int × Int) (Y := Int) tabOk slices_BinarySearchFunc_ids_Table_ids_Row_ids_Row_rk (cS (cS trivial (cC (cD trivial) (cD trivial))) (cB (cS trivial (cS trivial (cC (cD trivial) (cD trivial)))))) (fun _ x z b e => slices_BinarySearchFunc_ids_Table_ids_Row_ids_Row_b0 x.1.1 (⟨x.2.1.1, x.2.1.2.1, x.2.1.2.2.1⟩ : ids_Row) z.1 z.2 (fun x5 x6 => b (x5, x6)) (fun y10 => e y10)) (fun x z => ⟨[(0, .sl 1 x.1.1), (2, .clo 26 [] []), (4, .ref 0 0), (8, .n .i64 x.1.2.2.2.1), (9, .n .i64 z.1), (10, .n .i64 z.2)], [[.u16 ((⟨x.2.1.1, x.2.1.2.1, x.2.1.2.2.1⟩ : ids_Row).Id), .n .i64 ((⟨x.2.1.1, x.2.1.2.1, x.2.1.2.2.1⟩ : ids_Row).State), .n .i64 ((⟨x.2.1.1, x.2.1.2.1, x.2.1.2.2.1⟩ : ids_Row).N)]]⟩) (fun x y => ((.exit 0), ⟨[(0, .sl 1 x.1.1), (2, .clo 26 [] []), (4, .ref 0 0), (8, .n .i64 x.1.2.2.2.1), (9, .n .i64 y)], [[.u16 ((⟨x.2.1.1, x.2.1.2.1, x.2.1.2.2.1⟩ : ids_Row).Id), .n .i64 ((⟨x.2.1.1, x.2.1.2.1, x.2.1.2.2.1⟩ : ids_Row).State), .n .i64 ((⟨x.2.1.1, x.2.1.2.1, x.2.1.2.2.1⟩ : ids_Row).N)]]⟩)) (fun t => (prjS tab 0 slices_BinarySearchFunc_ids_Table_ids_Row_ids_Row_s0 t).bind fun x => some (x.1.2.2.2.2.1, x.1.2.2.2.2.2.1)) (fun e t => (if eqE e (.exit 0) then (prjS tab 0 ⟨[(0, .g (.f (.a (.sl 1)))), (2, .g (.clo 26 [] [])), (4, .g (.f (.ref 0 0))), (8, .g (.f (.a (.n .i64)))), (9, .g (.f (.a (.n .i64))))], [[.g (.f (.a .u16)), .g (.f (.a (.n .i64))), .g (.f (.a (.n .i64)))]]⟩ t).bind fun v => some v.1.2.2.2.2.1 else none)) (fun x => by kernel_rfl) (fun x z => by kernel_rfl) (fun x y k => by kernel_rfl) (fun x y => by exact nofun) (fun x z => by kernel_rfl) (fun x y => by kernel_rfl) (fun x z k => by kernel_rfl)
def slices_BinarySearchFunc_ids_Table_ids_Row_ids_Row_p : TCode Tb :=
(.seq (.reg [⟨.box, [.m 1], some 4, none⟩, ⟨.mv, [.k (.n .i64 0)], some 6, none⟩, ⟨.mv, [.k (.b false)], some 7, none⟩] none)
(.seq (.reg [⟨.mv, [.v 0], some 12, none⟩, ⟨.len, [.m 12], some 13, none⟩, ⟨.mv, [.m 13], some 8, none⟩] none)
(.seq (.reg [⟨.mv, [.v 8], some 14, none⟩, ⟨.mv, [.k (.n .i64 0)], some 9, none⟩, ⟨.mv, [.m 14], some 10, none⟩] none)
(.seq (.block 0 (.drop [6, 7] (.cut 0 slices_BinarySearchFunc_ids_Table_ids_Row_ids_Row_o0 (.loop slices_BinarySearchFunc_ids_Table_ids_Row_ids_Row_p0))))
(.seq (.reg [⟨.mv, [.v 9], some 35, none⟩, ⟨.mv, [.v 9], some 36, none⟩, ⟨.mv, [.m 8], some 37, none⟩, ⟨(.bin .lss .i), [.m 36, .m 37], some 38, none⟩, ⟨.mv, [.m 38], some 39, none⟩, ⟨.mv, [.m 2], some 40, some (39, true)⟩, ⟨.mv, [.m 0], some 41, some (39, true)⟩, ⟨.mv, [.v 9], some 42, some (39, true)⟩, ⟨(.ia 3), [.v 41, .m 42], some 43, some (39, true)⟩, ⟨(.load (some 3)), [.m 43], some 44, some (39, true)⟩, ⟨(.load (some 3)), [.m 4], some 45, some (39, true)⟩, ⟨(.call none 0), [.m 40, .m 44, .m 45], some 46, some (39, true)⟩, ⟨(.bin .eql .i), [.m 46, .k (.n .i64 0)], some 47, some (39, true)⟩, ⟨.pick, [.m 39, .m 47, .k (.b false)], some 48, none⟩, ⟨.mv, [.m 35], some 6, none⟩, ⟨.mv, [.m 48], some 7, none⟩] (some [[], [], [], [], [], [], [], [], [], [], [9], [], [], [], [], []]))
(.drop [0, 2, 4, 9, 40, 41, 42, 43, 44, 45, 46] .ret))))))
def slices_BinarySearchFunc_ids_Table_ids_Row_ids_Row_w : Orc Tb := mkOrc (Y := Int × Bool) tab [.g (.f (.a (.sl 1))), .g (.st 1), .g (.clo 26 [] [])] [] (fun x h => slices_BinarySearchFunc_ids_Table_ids_Row_ids_Row x.1 (⟨x.2.1.Id, x.2.1.State, x.2.1.N⟩ : ids_Row)) (fun _ y k => k (.tup [.n .i64 y.1, .b y.2]) [])
theorem slices_BinarySearchFunc_ids_Table_ids_Row_ids_Row_k : (slices_BinarySearchFunc_ids_Table_ids_Row_ids_Row_w).Ok Try.prog Wp tab 29 := orc_ok (Y := Int × Bool) (orcs := slices_BinarySearchFunc_ids_Table_ids_Row_ids_Row_r) (c := slices_BinarySearchFunc_ids_Table_ids_Row_ids_Row_p) (res := [.tmp 6, .tmp 7]) (n := 49) (R := (RSp.one (Y := Int × Bool) tab (.tup [.f (.a (.n .i64)), .f (.a .b)]) [] (fun a b => (a.1, a.2.1)) (fun y => (y.1, y.2, ())) (fun y => ()))) tabOk slices_BinarySearchFunc_ids_Table_ids_Row_ids_Row_rk (RSp.one_ok tabOk (fun _ _ => by kernel_rfl) (fun _ _ => by kernel_rfl)) Try.func29 (by kernel_rfl) (by kernel_rfl) (by kernel_rfl) (by kernel_rfl) (cS trivial (cS trivial (cS trivial (cS (cB (cD (cT slices_BinarySearchFunc_ids_Table_ids_Row_ids_Row_q0))) (cS trivial (cD trivial)))))) (fun _ y k => by kernel_rfl) (fun y => by kernel_rfl) (fun x h => by kernel_rfl)
def ids_find_r : Orcs Tb := [(29, slices_BinarySearchFunc_ids_Table_ids_Row_ids_Row_w)]
theorem ids_find_rk : OrcsOk Try.prog Wp tab ids_find_r := (orcs_cons slices_BinarySearchFunc_ids_Table_ids_Row_ids_Row_k orcs_nil)
def ids_find_p : TCode Tb :=
(.seq (.reg [⟨.mv, [.k (.n .i64 0)], some 4, none⟩, ⟨.mv, [.k (.b false)], some 5, none⟩] none)
(.seq (.reg [⟨.mv, [.m 0], some 6, none⟩, ⟨.mv, [.m 1], some 7, none⟩, ⟨(.build [.u16 (0 : UInt16), .n .i64 0, .n .i64 0] [(0, 1)]), [.m 7], some 8, none⟩, ⟨(.call (some 29) 0), [.m 6, .m 8, .k (.clo 26 [] [])], some 9, none⟩, ⟨.extm, [.c 9 0], some 10, none⟩, ⟨(.ext 1), [.m 9], some 11, none⟩, ⟨.mv, [.m 10], some 4, none⟩, ⟨.mv, [.m 11], some 5, none⟩] none)
.ret))
def ids_find_w : Orc Tb := mkOrc (Y := Int × Bool) tab [.g (.f (.a (.sl 1))), .g (.f (.a .u16))] [] (fun x h => ids_find x.1 x.2.1) (fun _ y k => k (.tup [.n .i64 y.1, .b y.2]) [])
theorem ids_find_k : (ids_find_w).Ok Try.prog Wp tab 21 := orc_ok (Y := Int × Bool) (orcs := ids_find_r) (c := ids_find_p) (res := [.tmp 4, .tmp 5]) (n := 12) (R := (RSp.one (Y := Int × Bool) tab (.tup [.f (.a (.n .i64)), .f (.a .b)]) [] (fun a b => (a.1, a.2.1)) (fun y => (y.1, y.2, ())) (fun y => ()))) tabOk ids_find_rk (RSp.one_ok tabOk (fun _ _ => by kernel_rfl) (fun _ _ => by kernel_rfl)) Try.func21 (by kernel_rfl) (by kernel_rfl) (by kernel_rfl) (by kernel_rfl) (cS trivial (cS trivial trivial)) (fun _ y k => by kernel_rfl) (fun y => by kernel_rfl) (fun x h => by kernel_rfl)
def slices_Clone_ids_Table_ids_Row_o_r : Orcs Tb := []
theorem slices_Clone_ids_Table_ids_Row_o_rk : OrcsOk Try.prog Wp tab slices_Clone_ids_Table_ids_Row_o_r := orcs_nil
def slices_Clone_ids_Table_ids_Row_o_p : TCode Tb :=
(.seq (.reg [⟨.mv, [.k (.nilS)], some 2, none⟩] none)
(.seq (.seq (.reg [⟨.mv, [.v 0], some 3, none⟩, ⟨(.bin .eql .sl), [.v 3, .k (.nilS)], some 4, none⟩] none)
(.cond 4 (.drop [0, 2, 3, 4] (.seq (.reg [⟨.mv, [.k (.nilS)], some 2, none⟩] none)
.ret))
(.drop [2, 3, 4] .skip)))
(.seq (.reg [⟨(.bslice 1 0 ((⟨(0 : UInt16), 0, 0⟩ : ids_Row) : ids_Row) []), [], some 5, none⟩, ⟨.mv, [.m 0], some 6, none⟩, ⟨(.app 3 24), [.m 5, .m 6], some 7, none⟩, ⟨.mv, [.m 7], some 2, none⟩] none)
.ret)))
def slices_Clone_ids_Table_ids_Row_o_w : Orc Tb := mkOrc (Y := (Option (List ids_Row))) tab [.g (.f (.a (.sl 1)))] [] (fun x h => slices_Clone_ids_Table_ids_Row_o x.1) (fun _ y k => k (.ow 1 y) [])
theorem slices_Clone_ids_Table_ids_Row_o_k : (slices_Clone_ids_Table_ids_Row_o_w).Ok Try.prog Wp tab 23 := orc_ok (Y := (Option (List ids_Row))) (orcs := slices_Clone_ids_Table_ids_Row_o_r) (c := slices_Clone_ids_Table_ids_Row_o_p) (res := [.tmp 2]) (n := 8) (R := (RSp.one (Y := (Option (List ids_Row))) tab (.g (.f (.ow 1))) [] (fun a b => a) (fun y => y) (fun y => ()))) tabOk slices_Clone_ids_Table_ids_Row_o_rk (RSp.one_ok tabOk (fun _ _ => by kernel_rfl) (fun _ _ => by kernel_rfl)) Try.func23 (by kernel_rfl) (by kernel_rfl) (by kernel_rfl) (by kernel_rfl) (cS trivial (cS (cS trivial (cC (cD (cS trivial trivial)) (cD trivial))) (cS trivial trivial))) (fun _ y k => by kernel_rfl) (fun y => by kernel_rfl) (fun x h => by kernel_rfl)
def slices_Clone_ids_Table_ids_Row_v_r : Orcs Tb := []
theorem slices_Clone_ids_Table_ids_Row_v_rk : OrcsOk Try.prog Wp tab slices_Clone_ids_Table_ids_Row_v_r := orcs_nil
def slices_Clone_ids_Table_ids_Row_v_p : TCode Tb :=
(.seq (.reg [⟨.mv, [.k (.nilS)], some 2, none⟩] none)
(.seq (.seq (.reg [⟨.mv, [.v 0], some 3, none⟩, ⟨(.bin .eql .sl), [.v 3, .k (.nilS)], some 4, none⟩] none)
(.cond 4 (.drop [0, 2, 3, 4] (.seq (.reg [⟨.mv, [.k (.nilS)], some 2, none⟩] none)
.ret))
(.drop [2, 3, 4] .skip)))
(.seq (.reg [⟨(.bslice 1 0 ((⟨(0 : UInt16), 0, 0⟩ : ids_Row) : ids_Row) []), [], some 5, none⟩, ⟨.mv, [.m 0], some 6, none⟩, ⟨(.appv 1 24), [.m 5, .m 6], some 7, none⟩, ⟨.mv, [.m 7], some 2, none⟩] none)
.ret)))
def slices_Clone_ids_Table_ids_Row_v_w : Orc Tb := mkOrc (Y := ((Option (List ids_Row))) ⊕ (Nat × (List ids_Row))) tab [.g (.f (.a (.sl 1)))] [] (fun x h => slices_Clone_ids_Table_ids_Row_v x.1) (fun _ y k => match y with | .inl y => k (.ow 1 y) [] | .inr y => k (.vw 1 0 y.1) [[.blk 1 y.2]])
theorem slices_Clone_ids_Table_ids_Row_v_k : (slices_Clone_ids_Table_ids_Row_v_w).Ok Try.prog Wp tab 23 := orc_ok (Y := ((Option (List ids_Row))) ⊕ (Nat × (List ids_Row))) (orcs := slices_Clone_ids_Table_ids_Row_v_r) (c := slices_Clone_ids_Table_ids_Row_v_p) (res := [.tmp 2]) (n := 8) (R := (RSp.or (RSp.one (Y := (Option (List ids_Row))) tab (.g (.f (.ow 1))) [] (fun a b => a) (fun y => y) (fun y => ())) (RSp.one (Y := Nat × (List ids_Row)) tab (.g (.f (.vw 1 0))) [[.g (.f (.blk 1))]] (fun a b => (a, b.1.1)) (fun y => y.1) (fun y => ((y.2, ()), ()))))) tabOk slices_Clone_ids_Table_ids_Row_v_rk (RSp.or_ok (RSp.one_ok tabOk (fun _ _ => by kernel_rfl) (fun _ _ => by kernel_rfl)) (RSp.one_ok tabOk (fun _ _ => by kernel_rfl) (fun _ _ => by kernel_rfl))) Try.func23 (by kernel_rfl) (by kernel_rfl) (by kernel_rfl) (by kernel_rfl) (cS trivial (cS (cS trivial (cC (cD (cS trivial trivial)) (cD trivial))) (cS trivial trivial))) (fun _ y k => by rcases y with y | y <;> kernel_rfl) (fun y => by rcases y with y | y <;> kernel_rfl) (fun x h => by kernel_rfl)
def slices_Clone_ids_Table_ids_Row_w : Orc Tb := cloneW tab 1 24
theorem slices_Clone_ids_Table_ids_Row_k : (slices_Clone_ids_Table_ids_Row_w).Ok Try.prog Wp tab 23 := clone_ok (o1 := slices_Clone_ids_Table_ids_Row_o_w) (o2 := slices_Clone_ids_Table_ids_Row_v_w) tabOk slices_Clone_ids_Table_ids_Row_o_k slices_Clone_ids_Table_ids_Row_v_k (.ow 1 none) rfl (by kernel_rfl) (by kernel_rfl) (fun x xs hc => ⟨_, _, rfl, rfl, by
  have e : slices_Clone_ids_Table_ids_Row_v (some (x :: xs)) = some (.inr (xs.length + 1, x :: xs)) := by
    show ((chk (decide ((xs.length + 1) * 24 ≤ room ∧ xs.length + 1 ≤ room))).bind fun _ => (some (.inr (xs.length + 1, x :: xs)) : Option ((Option (List ids_Row)) ⊕ (Nat × (List ids_Row))))) = _
    rw [show chk (decide ((xs.length + 1) * 24 ≤ room ∧ xs.length + 1 ≤ room)) = some () by rw [decide_eq_true hc]; rfl]
    rfl
  show (slices_Clone_ids_Table_ids_Row_v (some (x :: xs))).bind (fun y => match y with | .inl y => (some (TV.ow 1 y, []) : Option (TV Tb × THeap Tb)) | .inr y => some (TV.vw 1 0 y.1, [[TV.blk 1 y.2]])) = _
  rw [e]
  rfl⟩)
def slices_Insert_ids_Table_ids_Row_w : Orc Tb := insW tab 1
theorem slices_Insert_ids_Table_ids_Row_k : (slices_Insert_ids_Table_ids_Row_w).Ok Try.prog Wp tab 22 := insW_ok tabOk 1 rfl
def ids_Open_r : Orcs Tb := [(20, ids_counts_w), (21, ids_find_w), (23, slices_Clone_ids_Table_ids_Row_w), (22, slices_Insert_ids_Table_ids_Row_w)]
theorem ids_Open_rk : OrcsOk Try.prog Wp tab ids_Open_r := (orcs_cons ids_counts_k (orcs_cons ids_find_k (orcs_cons slices_Clone_ids_Table_ids_Row_k (orcs_cons slices_Insert_ids_Table_ids_Row_k orcs_nil))))
def ids_Open_p0 : TCode Tb :=
(.seq (.seq (.reg [⟨.mv, [.v 1], some 27, none⟩, ⟨(.bin .eql .i), [.m 27, .k (.u16 (0 : UInt16))], some 28, none⟩, ⟨.mv, [.m 28], some 29, none⟩, ⟨.mv, [.m 10], some 30, some (29, false)⟩, ⟨(.un .not), [.m 30], some 31, some (29, false)⟩, ⟨.pick, [.m 29, .k (.b true), .m 31], some 32, none⟩, ⟨.mv, [.m 32], some 33, none⟩, ⟨.mv, [.v 2], some 34, some (33, false)⟩, ⟨.mv, [.v 3], some 35, some (33, false)⟩, ⟨(.call (some 20) 0), [.m 34, .m 35], some 36, some (33, false)⟩, ⟨(.un .not), [.m 36], some 37, some (33, false)⟩, ⟨.pick, [.m 33, .k (.b true), .m 37], some 38, none⟩] none)
(.drop [10, 30, 34, 35, 36] (.cond 38 (.drop [1, 2, 3, 38] (.seq (.reg [⟨.mv, [.m 0], some 39, none⟩, ⟨.mv, [.m 39], some 8, none⟩, ⟨.mv, [.k (.n .i64 1)], some 9, none⟩] none)
.ret))
(.drop [38] .skip))))
(.seq (.reg [⟨.mv, [.v 0], some 41, none⟩, ⟨.mv, [.v 1], some 42, none⟩, ⟨(.call (some 21) 1), [.m 41, .m 42], some 43, none⟩, ⟨.mv, [.m 43], some 40, none⟩, ⟨.extm, [.c 40 0], some 44, none⟩, ⟨(.ext 1), [.m 40], some 45, none⟩, ⟨.mv, [.m 44], some 11, none⟩, ⟨.mv, [.m 45], some 12, none⟩] none)
(.seq (.seq (.reg [⟨.mv, [.m 12], some 46, none⟩] none)
(.cond 46 (.drop [1, 2, 3, 11, 46] (.seq (.reg [⟨.mv, [.m 0], some 47, none⟩, ⟨.mv, [.m 47], some 8, none⟩, ⟨.mv, [.k (.n .i64 7)], some 9, none⟩] none)
.ret))
(.drop [46] .skip)))
(.seq (.reg [⟨.mv, [.m 0], some 48, none⟩, ⟨(.call (some 23) 2), [.m 48], some 49, none⟩, ⟨.mv, [.m 11], some 50, none⟩, ⟨.mv, [.m 1], some 51, none⟩, ⟨.mv, [.m 2], some 52, none⟩, ⟨.mv, [.m 3], some 53, none⟩, ⟨(.build [.u16 (0 : UInt16), .n .i64 0, .n .i64 0] [(0, 1), (1, 1), (2, 1)]), [.m 51, .m 52, .m 53], some 54, none⟩, ⟨(.bslice 1 1 ((⟨(0 : UInt16), 0, 0⟩ : ids_Row) : ids_Row) [0]), [.m 54], some 55, none⟩, ⟨(.call (some 22) 3), [.m 49, .m 50, .m 55], some 56, none⟩, ⟨.mv, [.m 56], some 8, none⟩, ⟨.mv, [.k (.n .i64 0)], some 9, none⟩] none)
.ret))))
def ids_Open_s0 : SSh := ⟨[(0, .g (.f (.a (.sl 1)))), (1, .g (.f (.a .u16))), (2, .g (.f (.a (.n .i64)))), (3, .g (.f (.a (.n .i64)))), (10, .g (.f (.a .b)))], []⟩
def ids_Open_o0 : Cut Tb := cutJ tab 0 ids_Open_s0 (fun _ x k => ids_Open_c0 x.1.1 x.1.2.1 x.1.2.2.1 x.1.2.2.2.1 x.1.2.2.2.2.1 (fun y17 => k .ret ⟨[(8, .sl 1 x.1.1), (9, .n .i64 y17)], []⟩) (fun y18 => k .ret ⟨[(8, .ow 1 y18), (9, .n .i64 0)], []⟩) (fun y19 => k .ret ⟨[(8, .sl 1 y19), (9, .n .i64 0)], [[]]⟩))
theorem ids_Open_q0 : (ids_Open_o0).Ok Try.prog Wp tab 0 ids_Open_p0 := cutJ_ok (c := ids_Open_p0) tabOk ids_Open_rk (cS (cS trivial (cD (cC (cD (cS trivial trivial)) (cD trivial)))) (cS trivial (cS (cS trivial (cC (cD (cS trivial trivial)) (cD trivial))) (cS trivial trivial)))) (fun _ _ => by kernel_rfl)
def ids_Open_p : TCode Tb :=
(.seq (.reg [⟨.mv, [.k (.nilS)], some 8, none⟩, ⟨.mv, [.k (.n .i64 0)], some 9, none⟩] none)
(.seq (.reg [⟨.mv, [.v 2], some 13, none⟩, ⟨(.bin .eql .i), [.m 13, .k (.n .i64 1)], some 14, none⟩, ⟨.mv, [.m 14], some 15, none⟩, ⟨.mv, [.v 2], some 16, some (15, false)⟩, ⟨(.bin .eql .i), [.m 16, .k (.n .i64 2)], some 17, some (15, false)⟩, ⟨.pick, [.m 15, .k (.b true), .m 17], some 18, none⟩, ⟨.mv, [.m 18], some 19, none⟩, ⟨.mv, [.v 2], some 20, some (19, false)⟩, ⟨(.bin .eql .i), [.m 20, .k (.n .i64 5)], some 21, some (19, false)⟩, ⟨.pick, [.m 19, .k (.b true), .m 21], some 22, none⟩, ⟨.mv, [.m 22], some 23, none⟩, ⟨.mv, [.v 2], some 24, some (23, false)⟩, ⟨(.bin .eql .i), [.m 24, .k (.n .i64 6)], some 25, some (23, false)⟩, ⟨.pick, [.m 23, .k (.b true), .m 25], some 26, none⟩, ⟨.mv, [.m 26], some 10, none⟩] none)
(.drop [8, 9, 16, 20, 24] (.cut 0 ids_Open_o0 ids_Open_p0))))
def ids_Open_w : Orc Tb := mkOrc (Y := (Option (List ids_Row)) × Int) tab [.g (.f (.a (.sl 1))), .g (.f (.a .u16)), .g (.f (.a (.n .i64))), .g (.f (.a (.n .i64)))] [] (fun x h => ids_Open x.1 x.2.1 x.2.2.1 x.2.2.2.1) (fun _ y k => k (.tup [.sl 1 y.1, .n .i64 y.2]) [])
theorem ids_Open_k : (ids_Open_w).Ok Try.prog Wp tab 7 := orc_ok (Y := (Option (List ids_Row)) × Int) (orcs := ids_Open_r) (c := ids_Open_p) (res := [.tmp 8, .tmp 9]) (n := 57) (R := (RSp.one (Y := (Option (List ids_Row)) × Int) tab (.tup [.f (.a (.sl 1)), .f (.a (.n .i64))]) [] (fun a b => (a.1, a.2.1)) (fun y => (y.1, y.2, ())) (fun y => ()))) tabOk ids_Open_rk (RSp.one_ok tabOk (fun _ _ => by kernel_rfl) (fun _ _ => by kernel_rfl)) Try.func7 (by kernel_rfl) (by kernel_rfl) (by kernel_rfl) (by kernel_rfl) (cS trivial (cS trivial (cD (cT ids_Open_q0)))) (fun _ y k => by kernel_rfl) (fun y => by kernel_rfl) (fun x h => by kernel_rfl)
def ids_needs_r : Orcs Tb := []
theorem ids_needs_rk : OrcsOk Try.prog Wp tab ids_needs_r := orcs_nil
def ids_needs_p0 : TCode Tb :=
(.cond 4 (.drop [3, 4] (.seq (.reg [⟨.mv, [.m 0], some 9, none⟩, ⟨(.bin .add .i), [.k (.n .i64 1), .m 9], some 10, none⟩, ⟨(.bin .sub .i), [.m 10, .k (.n .i64 4)], some 11, none⟩, ⟨.mv, [.m 11], some 2, none⟩] none)
.ret))
(.drop [0, 4] (.seq (.reg [⟨(.bin .eql .i), [.v 3, .k (.n .i64 9)], some 13, none⟩, ⟨.mv, [.m 13], some 12, none⟩] none)
(.cond 12 (.drop [3, 12] (.seq (.reg [⟨.mv, [.k (.n .i64 5)], some 2, none⟩] none)
.ret))
(.drop [12] (.seq (.reg [⟨(.bin .eql .i), [.m 3, .k (.n .i64 11)], some 15, none⟩, ⟨.mv, [.m 15], some 14, none⟩] none)
(.cond 14 (.drop [14] (.seq (.reg [⟨.mv, [.k (.n .i64 6)], some 2, none⟩] none)
.ret))
(.drop [14] .skip))))))))
def ids_needs_s0 : SSh := ⟨[(0, .g (.f (.a (.n .i64)))), (3, .g (.f (.a (.n .i64)))), (4, .g (.f (.a .b)))], []⟩
def ids_needs_o0 : Cut Tb := cutJ tab 0 ids_needs_s0 (fun _ x k => ids_needs_c0 x.1.1 x.1.2.1 x.1.2.2.1 (fun y5 => k .ret ⟨[(2, .n .i64 y5)], []⟩) (k .normal ⟨[], []⟩))
theorem ids_needs_q0 : (ids_needs_o0).Ok Try.prog Wp tab 0 ids_needs_p0 := cutJ_ok (c := ids_needs_p0) tabOk ids_needs_rk (cC (cD (cS trivial trivial)) (cD (cS trivial (cC (cD (cS trivial trivial)) (cD (cS trivial (cC (cD (cS trivial trivial)) (cD trivial)))))))) (fun _ _ => by kernel_rfl)
def ids_needs_p : TCode Tb :=
(.seq (.reg [⟨.mv, [.k (.n .i64 0)], some 2, none⟩] none)
(.seq (.seq (.reg [⟨.mv, [.v 0], some 3, none⟩] none)
(.block 0 (.seq (.seq (.reg [⟨(.bin .eql .i), [.v 3, .k (.n .i64 4)], some 5, none⟩, ⟨.mv, [.m 5], some 4, none⟩] none)
(.cond 4 (.drop [2] .skip)
(.drop [2, 4] (.seq (.reg [⟨(.bin .eql .i), [.v 3, .k (.n .i64 5)], some 6, none⟩, ⟨.mv, [.m 6], some 4, none⟩] none)
(.cond 4 .skip
(.drop [4] (.seq (.reg [⟨(.bin .eql .i), [.v 3, .k (.n .i64 6)], some 7, none⟩, ⟨.mv, [.m 7], some 4, none⟩] none)
(.cond 4 .skip
(.drop [4] (.reg [⟨(.bin .eql .i), [.v 3, .k (.n .i64 7)], some 8, none⟩, ⟨.mv, [.m 8], some 4, none⟩] none))))))))))
(.cut 0 ids_needs_o0 ids_needs_p0))))
(.seq (.reg [⟨.mv, [.k (.n .i64 0)], some 2, none⟩] none)
.ret)))
def ids_needs_w : Orc Tb := mkOrc (Y := Int) tab [.g (.f (.a (.n .i64)))] [] (fun x h => ids_needs x.1) (fun _ y k => k (.n .i64 y) [])
theorem ids_needs_k : (ids_needs_w).Ok Try.prog Wp tab 24 := orc_ok (Y := Int) (orcs := ids_needs_r) (c := ids_needs_p) (res := [.tmp 2]) (n := 16) (R := (RSp.one (Y := Int) tab (.g (.f (.a (.n .i64)))) [] (fun a b => a) (fun y => y) (fun y => ()))) tabOk ids_needs_rk (RSp.one_ok tabOk (fun _ _ => by kernel_rfl) (fun _ _ => by kernel_rfl)) Try.func24 (by kernel_rfl) (by kernel_rfl) (by kernel_rfl) (by kernel_rfl) (cS trivial (cS (cS trivial (cB (cS (cS trivial (cC (cD trivial) (cD (cS trivial (cC trivial (cD (cS trivial (cC trivial (cD trivial))))))))) (cT ids_needs_q0)))) (cS trivial trivial))) (fun _ y k => by kernel_rfl) (fun y => by kernel_rfl) (fun x h => by kernel_rfl)
def slices_Delete_ids_Table_ids_Row_w : Orc Tb := delV tab 1
theorem slices_Delete_ids_Table_ids_Row_k : (slices_Delete_ids_Table_ids_Row_w).Ok Try.prog Wp tab 25 := delV_ok tabOk 1 rfl
def ids_Turn_r : Orcs Tb := [(24, ids_needs_w), (21, ids_find_w), (23, slices_Clone_ids_Table_ids_Row_w), (25, slices_Delete_ids_Table_ids_Row_w)]
theorem ids_Turn_rk : OrcsOk Try.prog Wp tab ids_Turn_r := (orcs_cons ids_needs_k (orcs_cons ids_find_k (orcs_cons slices_Clone_ids_Table_ids_Row_k (orcs_cons slices_Delete_ids_Table_ids_Row_k orcs_nil))))
def ids_Turn_p0 : TCode Tb :=
(.seq (.reg [⟨.mv, [.m 0], some 52, none⟩, ⟨(.call (some 23) 2), [.m 52], some 53, none⟩, ⟨.mv, [.m 53], some 15, none⟩] none)
(.seq (.seq (.reg [⟨.mv, [.v 1], some 54, none⟩, ⟨(.bin .eql .i), [.m 54, .k (.n .i64 6)], some 55, none⟩, ⟨.mv, [.m 55], some 56, none⟩, ⟨.mv, [.m 1], some 57, some (56, false)⟩, ⟨(.bin .eql .i), [.m 57, .k (.n .i64 5)], some 58, some (56, false)⟩, ⟨.mv, [.m 58], some 59, some (56, false)⟩, ⟨.mv, [.m 3], some 60, some (59, true)⟩, ⟨(.un .not), [.m 60], some 61, some (59, true)⟩, ⟨.pick, [.m 59, .m 61, .k (.b false)], some 62, some (56, false)⟩, ⟨.pick, [.m 56, .k (.b true), .m 62], some 63, none⟩] none)
(.drop [1, 3, 57, 58, 59, 60, 61] (.cond 63 (.drop [63] (.seq (.reg [⟨.mv, [.v 15], some 64, none⟩, ⟨.mv, [.m 13], some 65, none⟩, ⟨(.ia 3), [.v 64, .v 65], some 66, none⟩, ⟨(.fa 1), [.m 66], some 67, none⟩, ⟨(.load none), [.m 67], some 68, none⟩, ⟨(.bin .add .i), [.m 68, .k (.n .i64 1)], some 69, none⟩, ⟨(.ia 3), [.v 64, .m 65], some 70, none⟩, ⟨(.fa 1), [.m 70], some 71, none⟩, ⟨(.store 1), [.m 71, .m 69], none, none⟩] none)
(.seq (.reg [⟨.mv, [.m 15], some 72, none⟩, ⟨.mv, [.m 72], some 10, none⟩, ⟨.mv, [.k (.n .i64 0)], some 11, none⟩] none)
.ret)))
(.drop [63] .skip))))
(.seq (.reg [⟨.mv, [.m 15], some 73, none⟩, ⟨.mv, [.v 13], some 74, none⟩, ⟨.mv, [.m 13], some 75, none⟩, ⟨(.bin .add .i), [.m 75, .k (.n .i64 1)], some 76, none⟩, ⟨(.call (some 25) 3), [.m 73, .m 74, .m 76], some 77, none⟩, ⟨.mv, [.m 77], some 10, none⟩, ⟨.mv, [.k (.n .i64 0)], some 11, none⟩] none)
.ret)))
def ids_Turn_s0 : SSh := ⟨[(0, .g (.f (.a (.sl 1)))), (1, .g (.f (.a (.n .i64)))), (3, .g (.f (.a .b))), (13, .g (.f (.a (.n .i64))))], []⟩
def ids_Turn_o0 : Cut Tb := cutJ tab 0 ids_Turn_s0 (fun _ x k => ids_Turn_c0 x.1.1 x.1.2.1 x.1.2.2.1 x.1.2.2.2.1 (fun y28 y29 y30 => k .ret ⟨[(10, .vw 1 0 y28), (11, .n .i64 0), (64, .vw 1 0 y29)], [[.blk 1 y30]]⟩) (fun y31 => k .ret ⟨[(10, .sl 1 y31), (11, .n .i64 0)], [[]]⟩))
theorem ids_Turn_q0 : (ids_Turn_o0).Ok Try.prog Wp tab 0 ids_Turn_p0 := cutJ_ok (c := ids_Turn_p0) tabOk ids_Turn_rk (cS trivial (cS (cS trivial (cD (cC (cD (cS trivial (cS trivial trivial))) (cD trivial)))) (cS trivial trivial))) (fun _ _ => by kernel_rfl)
def ids_Turn_p : TCode Tb :=
(.fend 0 (.seq (.reg [⟨.mv, [.k (.nilS)], some 10, none⟩, ⟨.mv, [.k (.n .i64 0)], some 11, none⟩] none)
(.seq (.reg [⟨.mv, [.v 1], some 16, none⟩, ⟨(.call (some 24) 0), [.m 16], some 17, none⟩, ⟨.mv, [.m 17], some 12, none⟩] none)
(.seq (.seq (.reg [⟨.mv, [.v 12], some 18, none⟩, ⟨(.bin .eql .i), [.m 18, .k (.n .i64 0)], some 19, none⟩] none)
(.cond 19 (.drop [1, 2, 3, 4, 10, 11, 12, 19] (.seq (.reg [⟨.mv, [.m 0], some 20, none⟩, ⟨.mv, [.m 20], some 10, none⟩, ⟨.mv, [.k (.n .i64 1)], some 11, none⟩] none)
.ret))
(.drop [10, 11, 19] .skip)))
(.seq (.reg [⟨.mv, [.v 0], some 22, none⟩, ⟨.mv, [.m 2], some 23, none⟩, ⟨(.call (some 21) 1), [.m 22, .m 23], some 24, none⟩, ⟨.mv, [.m 24], some 21, none⟩, ⟨.extm, [.c 21 0], some 25, none⟩, ⟨(.ext 1), [.m 21], some 26, none⟩, ⟨.mv, [.m 25], some 13, none⟩, ⟨.mv, [.m 26], some 14, none⟩] none)
(.seq (.seq (.reg [⟨.mv, [.m 14], some 27, none⟩, ⟨(.un .not), [.m 27], some 28, none⟩, ⟨.mv, [.m 28], some 29, none⟩, ⟨.mv, [.v 0], some 30, some (29, false)⟩, ⟨.mv, [.v 13], some 31, some (29, false)⟩, ⟨(.ia 3), [.v 30, .m 31], some 32, some (29, false)⟩, ⟨(.fa 1), [.m 32], some 33, some (29, false)⟩, ⟨(.load none), [.m 33], some 34, some (29, false)⟩, ⟨.mv, [.v 12], some 35, some (29, false)⟩, ⟨(.bin .neq .i), [.m 34, .m 35], some 36, some (29, false)⟩, ⟨.pick, [.m 29, .k (.b true), .m 36], some 37, none⟩, ⟨.mv, [.m 37], some 38, none⟩, ⟨.mv, [.m 12], some 39, some (38, false)⟩, ⟨(.bin .geq .i), [.m 39, .k (.n .i64 5)], some 40, some (38, false)⟩, ⟨.mv, [.m 40], some 41, some (38, false)⟩, ⟨.mv, [.v 0], some 42, some (41, true)⟩, ⟨.mv, [.v 13], some 43, some (41, true)⟩, ⟨(.ia 3), [.v 42, .m 43], some 44, some (41, true)⟩, ⟨(.fa 2), [.m 44], some 45, some (41, true)⟩, ⟨(.load none), [.m 45], some 46, some (41, true)⟩, ⟨.mv, [.m 4], some 47, some (41, true)⟩, ⟨(.bin .neq .i), [.m 46, .m 47], some 48, some (41, true)⟩, ⟨.pick, [.m 41, .m 48, .k (.b false)], some 49, some (38, false)⟩, ⟨.pick, [.m 38, .k (.b true), .m 49], some 50, none⟩] none)
(.drop [4, 12, 30, 31, 32, 33, 34, 35, 39, 40, 41, 42, 43, 44, 45, 46, 47, 48] (.cond 50 (.drop [1, 3, 13, 50] (.seq (.reg [⟨.mv, [.m 0], some 51, none⟩, ⟨.mv, [.m 51], some 10, none⟩, ⟨.mv, [.k (.n .i64 8)], some 11, none⟩] none)
.ret))
(.drop [50] .skip))))
(.cut 0 ids_Turn_o0 ids_Turn_p0)))))))
def ids_Turn_w : Orc Tb := mkOrc (Y := (Option (List ids_Row)) × Int) tab [.g (.f (.a (.sl 1))), .g (.f (.a (.n .i64))), .g (.f (.a .u16)), .g (.f (.a .b)), .g (.f (.a (.n .i64)))] [] (fun x h => ids_Turn x.1 x.2.1 x.2.2.1 x.2.2.2.1 x.2.2.2.2.1) (fun _ y k => k (.tup [.sl 1 y.1, .n .i64 y.2]) [])
theorem ids_Turn_k : (ids_Turn_w).Ok Try.prog Wp tab 10 := orc_ok (Y := (Option (List ids_Row)) × Int) (orcs := ids_Turn_r) (c := ids_Turn_p) (res := [.tmp 10, .tmp 11]) (n := 78) (R := (RSp.one (Y := (Option (List ids_Row)) × Int) tab (.tup [.f (.a (.sl 1)), .f (.a (.n .i64))]) [] (fun a b => (a.1, a.2.1)) (fun y => (y.1, y.2, ())) (fun y => ()))) tabOk ids_Turn_rk (RSp.one_ok tabOk (fun _ _ => by kernel_rfl) (fun _ _ => by kernel_rfl)) Try.func10 (by kernel_rfl) (by kernel_rfl) (by kernel_rfl) (by kernel_rfl) (cY (cS trivial (cS trivial (cS (cS trivial (cC (cD (cS trivial trivial)) (cD trivial))) (cS trivial (cS (cS trivial (cD (cC (cD (cS trivial trivial)) (cD trivial)))) (cT ids_Turn_q0))))))) (fun _ y k => by kernel_rfl) (fun y => by kernel_rfl) (fun x h => by kernel_rfl)
def ids_Flying_r : Orcs Tb := []
theorem ids_Flying_rk : OrcsOk Try.prog Wp tab ids_Flying_r := orcs_nil
def ids_Flying_s1 : SSh := ⟨[(3, .g (.f (.a (.n .i64)))), (6, .g (.f (.a (.sl 1)))), (7, .g (.f (.a (.n .i64)))), (8, .g (.f (.a (.n .i64))))], []⟩
def ids_Flying_o1 : Cut Tb := cutJ tab 0 ids_Flying_s1 (fun _ x k => k .normal ⟨[(3, .n .i64 x.1.1), (6, .sl 1 x.1.2.1), (7, .n .i64 x.1.2.2.1), (8, .n .i64 x.1.2.2.2.1)], []⟩)
theorem ids_Flying_q1 : (ids_Flying_o1).Ok Try.prog Wp tab 0 .skip := cutJ_ok (c := .skip) tabOk ids_Flying_rk trivial (fun _ _ => by kernel_rfl)
def ids_Flying_p0 : TCode Tb :=
(.fin 0 ids_Flying_o1 (.seq (.reg [⟨(.bin .lss .i), [.v 8, .v 7], some 9, none⟩] none)
(.seq (.cond 9 (.drop [9] .skip)
(.drop [6, 7, 8, 9] (.exit 0)))
(.seq (.block 1 (.seq (.reg [⟨(.ia 3), [.v 6, .v 8], some 10, none⟩, ⟨(.load (some 3)), [.m 10], some 11, none⟩, ⟨(.alloc [.u16 (0 : UInt16), .n .i64 0, .n .i64 0]), [], some 5, none⟩, ⟨(.store 3), [.v 5, .m 11], none, none⟩] none)
(.seq (.reg [⟨(.fa 1), [.m 5], some 12, none⟩, ⟨(.load none), [.m 12], some 13, none⟩, ⟨(.bin .leq .i), [.m 13, .k (.n .i64 4)], some 14, none⟩] none)
(.cond 14 (.drop [14] (.reg [⟨.mv, [.m 3], some 15, none⟩, ⟨(.bin .add .i), [.m 15, .k (.n .i64 1)], some 16, none⟩, ⟨.mv, [.m 16], some 3, none⟩] none))
(.drop [14] .skip)))))
(.reg [⟨(.bin .add .i), [.m 8, .k (.n .i64 1)], some 17, none⟩, ⟨.mv, [.m 17], some 8, none⟩] none)))))
def ids_Flying_s0 : SSh := ⟨[(3, .g (.f (.a (.n .i64)))), (6, .g (.f (.a (.sl 1)))), (7, .g (.f (.a (.n .i64)))), (8, .g (.f (.a (.n .i64))))], []⟩
def ids_Flying_o0 : Cut Tb := cutL tab 0 ids_Flying_s0 (fun x => (x.1.1, x.1.2.2.2.1)) (fun x => ids_Flying_l0 x.1.2.1 x.1.2.2.1) (fun _ x y k => k (.exit 0) ⟨[(3, .n .i64 y)], []⟩)
theorem ids_Flying_q0 : (ids_Flying_o0).Ok Try.prog Wp tab 0 (.loop ids_Flying_p0) := cutL_ok (c := ids_Flying_p0) (Z := Int × Int) (Y := Int) tabOk ids_Flying_rk (cF ids_Flying_q1 (cS trivial (cS (cC (cD trivial) (cD trivial)) (cS (cB (cS trivial (cS trivial (cC (cD trivial) (cD trivial))))) trivial)))) (fun _ x z b e => ids_Flying_b0 x.1.2.1 x.1.2.2.1 z.1 z.2 (fun x2 x5 => b (x2, x5)) (fun y11 => e y11)) (fun x z => ⟨[(3, .n .i64 z.1), (6, .sl 1 x.1.2.1), (7, .n .i64 x.1.2.2.1), (8, .n .i64 z.2)], []⟩) (fun x y => ((.exit 0), ⟨[(3, .n .i64 y)], []⟩)) (fun t => (prjS tab 0 ids_Flying_s0 t).bind fun x => some (x.1.1, x.1.2.2.2.1)) (fun e t => (if eqE e (.exit 0) then (prjS tab 0 ⟨[(3, .g (.f (.a (.n .i64))))], []⟩ t).bind fun v => some v.1.1 else none)) (fun x => by kernel_rfl) (fun x z => by kernel_rfl) (fun x y k => by kernel_rfl) (fun x y => by exact nofun) (fun x z => by kernel_rfl) (fun x y => by kernel_rfl) (fun x z k => by kernel_rfl)
def ids_Flying_p : TCode Tb :=
(.seq (.reg [⟨.mv, [.k (.n .i64 0)], some 2, none⟩] none)
(.seq (.reg [⟨.mv, [.k (.n .i64 0)], some 3, none⟩] none)
(.seq (.seq (.reg [⟨.mv, [.m 0], some 6, none⟩, ⟨.len, [.v 6], some 7, none⟩, ⟨.mv, [.k (.n .i64 0)], some 8, none⟩] none)
(.block 0 (.drop [2] (.cut 0 ids_Flying_o0 (.loop ids_Flying_p0)))))
(.seq (.reg [⟨.mv, [.m 3], some 18, none⟩, ⟨.mv, [.m 18], some 2, none⟩] none)
.ret))))
def ids_Flying_w : Orc Tb := mkOrc (Y := Int) tab [.g (.f (.a (.sl 1)))] [] (fun x h => ids_Flying x.1) (fun _ y k => k (.n .i64 y) [])
theorem ids_Flying_k : (ids_Flying_w).Ok Try.prog Wp tab 12 := orc_ok (Y := Int) (orcs := ids_Flying_r) (c := ids_Flying_p) (res := [.tmp 2]) (n := 19) (R := (RSp.one (Y := Int) tab (.g (.f (.a (.n .i64)))) [] (fun a b => a) (fun y => y) (fun y => ()))) tabOk ids_Flying_rk (RSp.one_ok tabOk (fun _ _ => by kernel_rfl) (fun _ _ => by kernel_rfl)) Try.func12 (by kernel_rfl) (by kernel_rfl) (by kernel_rfl) (by kernel_rfl) (cS trivial (cS trivial (cS (cS trivial (cB (cD (cT ids_Flying_q0)))) (cS trivial trivial)))) (fun _ y k => by kernel_rfl) (fun y => by kernel_rfl) (fun x h => by kernel_rfl)
def l11_told_r : Orcs Tb := [(7, ids_Open_w), (10, ids_Turn_w), (12, ids_Flying_w)]
theorem l11_told_rk : OrcsOk Try.prog Wp tab l11_told_r := (orcs_cons ids_Open_k (orcs_cons ids_Turn_k (orcs_cons ids_Flying_k orcs_nil)))
def l11_told_p : TCode Tb :=
(.seq (.reg [⟨.mv, [.k (.b false)], some 0, none⟩] none)
(.seq (.reg [⟨(.call (some 7) 0), [.k (.nilS), .k (.u16 (7 : UInt16)), .k (.n .i64 2), .k (.n .i64 0)], some 10, none⟩, ⟨.mv, [.m 10], some 9, none⟩, ⟨.extm, [.c 9 0], some 11, none⟩, ⟨(.ext 1), [.m 9], some 12, none⟩, ⟨.mv, [.m 11], some 1, none⟩, ⟨.mv, [.m 12], some 2, none⟩] none)
(.seq (.reg [⟨.mv, [.m 1], some 14, none⟩, ⟨(.call (some 10) 1), [.m 14, .k (.n .i64 5), .k (.u16 (7 : UInt16)), .k (.b false), .k (.n .i64 0)], some 15, none⟩, ⟨.mv, [.m 15], some 13, none⟩, ⟨.extm, [.c 13 0], some 16, none⟩, ⟨(.ext 1), [.m 13], some 17, none⟩, ⟨.mv, [.m 16], some 1, none⟩, ⟨.mv, [.m 17], some 3, none⟩] none)
(.seq (.reg [⟨.mv, [.m 1], some 19, none⟩, ⟨(.call (some 10) 1), [.m 19, .k (.n .i64 6), .k (.u16 (7 : UInt16)), .k (.b false), .k (.n .i64 0)], some 20, none⟩, ⟨.mv, [.m 20], some 18, none⟩, ⟨.extm, [.c 18 0], some 21, none⟩, ⟨(.ext 1), [.m 18], some 22, none⟩, ⟨.mv, [.m 21], some 1, none⟩, ⟨.mv, [.m 22], some 4, none⟩] none)
(.seq (.reg [⟨.mv, [.v 1], some 24, none⟩, ⟨(.call (some 10) 1), [.m 24, .k (.n .i64 7), .k (.u16 (7 : UInt16)), .k (.b false), .k (.n .i64 0)], some 25, none⟩, ⟨.mv, [.m 25], some 23, none⟩, ⟨.extm, [.c 23 0], some 26, none⟩, ⟨(.ext 1), [.m 23], some 27, none⟩, ⟨.mv, [.m 26], some 5, none⟩, ⟨.mv, [.m 27], some 6, none⟩] none)
(.seq (.reg [⟨.mv, [.v 1], some 29, none⟩, ⟨(.call (some 7) 0), [.m 29, .k (.u16 (7 : UInt16)), .k (.n .i64 1), .k (.n .i64 0)], some 30, none⟩, ⟨.mv, [.m 30], some 28, none⟩, ⟨.extm, [.c 28 0], some 31, none⟩, ⟨(.ext 1), [.m 28], some 32, none⟩, ⟨.mv, [.m 31], some 7, none⟩, ⟨.mv, [.m 32], some 8, none⟩] none)
(.seq (.reg [⟨.mv, [.m 2], some 33, none⟩, ⟨(.bin .eql .i), [.m 33, .k (.n .i64 0)], some 34, none⟩, ⟨.mv, [.m 34], some 35, none⟩, ⟨.mv, [.m 3], some 36, some (35, true)⟩, ⟨(.bin .eql .i), [.m 36, .k (.n .i64 0)], some 37, some (35, true)⟩, ⟨.pick, [.m 35, .m 37, .k (.b false)], some 38, none⟩, ⟨.mv, [.m 38], some 39, none⟩, ⟨.mv, [.m 4], some 40, some (39, true)⟩, ⟨(.bin .eql .i), [.m 40, .k (.n .i64 0)], some 41, some (39, true)⟩, ⟨.pick, [.m 39, .m 41, .k (.b false)], some 42, none⟩, ⟨.mv, [.m 42], some 43, none⟩, ⟨.mv, [.v 1], some 44, some (43, true)⟩, ⟨.len, [.m 44], some 45, some (43, true)⟩, ⟨(.bin .eql .i), [.m 45, .k (.n .i64 1)], some 46, some (43, true)⟩, ⟨.pick, [.m 43, .m 46, .k (.b false)], some 47, none⟩, ⟨.mv, [.m 47], some 48, none⟩, ⟨.mv, [.v 1], some 49, some (48, true)⟩, ⟨(.ia 3), [.v 49, .k (.n .i64 0)], some 50, some (48, true)⟩, ⟨(.fa 1), [.m 50], some 51, some (48, true)⟩, ⟨(.load none), [.m 51], some 52, some (48, true)⟩, ⟨(.bin .eql .i), [.m 52, .k (.n .i64 4)], some 53, some (48, true)⟩, ⟨.pick, [.m 48, .m 53, .k (.b false)], some 54, none⟩, ⟨.mv, [.m 54], some 55, none⟩, ⟨.mv, [.m 6], some 56, some (55, true)⟩, ⟨(.bin .eql .i), [.m 56, .k (.n .i64 0)], some 57, some (55, true)⟩, ⟨.pick, [.m 55, .m 57, .k (.b false)], some 58, none⟩, ⟨.mv, [.m 58], some 59, none⟩, ⟨.mv, [.m 5], some 60, some (59, true)⟩, ⟨.len, [.m 60], some 61, some (59, true)⟩, ⟨(.bin .eql .i), [.m 61, .k (.n .i64 0)], some 62, some (59, true)⟩, ⟨.pick, [.m 59, .m 62, .k (.b false)], some 63, none⟩, ⟨.mv, [.m 63], some 64, none⟩, ⟨.mv, [.m 8], some 65, some (64, true)⟩, ⟨(.bin .eql .i), [.m 65, .k (.n .i64 7)], some 66, some (64, true)⟩, ⟨.pick, [.m 64, .m 66, .k (.b false)], some 67, none⟩, ⟨.mv, [.m 67], some 68, none⟩, ⟨.mv, [.m 1], some 69, some (68, true)⟩, ⟨(.call (some 12) 2), [.m 69], some 70, some (68, true)⟩, ⟨(.bin .eql .i), [.m 70, .k (.n .i64 1)], some 71, some (68, true)⟩, ⟨.pick, [.m 68, .m 71, .k (.b false)], some 72, none⟩, ⟨.mv, [.m 72], some 0, none⟩] none)
(.drop [1, 3, 4, 5, 6, 7, 8, 36, 40, 44, 45, 49, 50, 51, 52, 56, 60, 61, 65, 69, 70] .ret))))))))
def l11_told_w : Orc Tb := mkOrc (Y := Bool) tab [] [] (fun x h => l11_told) (fun _ y k => k (.b y) [])
theorem l11_told_k : (l11_told_w).Ok Try.prog Wp tab 11 := orc_ok (Y := Bool) (orcs := l11_told_r) (c := l11_told_p) (res := [.tmp 0]) (n := 73) (R := (RSp.one (Y := Bool) tab (.g (.f (.a .b))) [] (fun a b => a) (fun y => y) (fun y => ()))) tabOk l11_told_rk (RSp.one_ok tabOk (fun _ _ => by kernel_rfl) (fun _ _ => by kernel_rfl)) Try.func11 (by kernel_rfl) (by kernel_rfl) (by kernel_rfl) (by kernel_rfl) (cS trivial (cS trivial (cS trivial (cS trivial (cS trivial (cS trivial (cS trivial (cD trivial)))))))) (fun _ y k => by kernel_rfl) (fun y => by kernel_rfl) (fun x h => by kernel_rfl)
def l11_IdsCounts_r : Orcs Tb := [(7, ids_Open_w), (10, ids_Turn_w), (11, l11_told_w), (12, ids_Flying_w)]
theorem l11_IdsCounts_rk : OrcsOk Try.prog Wp tab l11_IdsCounts_r := (orcs_cons ids_Open_k (orcs_cons ids_Turn_k (orcs_cons l11_told_k (orcs_cons ids_Flying_k orcs_nil))))
def l11_IdsCounts_p0 : TCode Tb :=
(.seq (.reg [⟨.mv, [.v 9], some 36, none⟩, ⟨.mv, [.m 12], some 37, none⟩, ⟨.mv, [.v 10], some 38, none⟩, ⟨(.call (some 7) 0), [.k (.nilS), .m 36, .m 37, .m 38], some 39, none⟩, ⟨.mv, [.m 39], some 35, none⟩, ⟨.extm, [.c 35 0], some 40, none⟩, ⟨(.ext 1), [.m 35], some 41, none⟩, ⟨.mv, [.m 40], some 14, none⟩, ⟨.mv, [.m 41], some 15, none⟩] none)
(.seq (.reg [⟨.mv, [.v 14], some 43, none⟩, ⟨.mv, [.v 13], some 44, none⟩, ⟨.mv, [.v 9], some 45, none⟩, ⟨.mv, [.v 11], some 46, none⟩, ⟨(.call (some 10) 1), [.m 43, .m 44, .m 45, .k (.b false), .m 46], some 47, none⟩, ⟨.mv, [.m 47], some 42, none⟩, ⟨.extm, [.c 42 0], some 48, none⟩, ⟨(.ext 1), [.m 42], some 49, none⟩, ⟨.mv, [.m 48], some 16, none⟩, ⟨.mv, [.m 49], some 17, none⟩] none)
(.seq (.reg [⟨.mv, [.v 14], some 51, none⟩, ⟨.mv, [.m 13], some 52, none⟩, ⟨(.bin .sub .i), [.k (.n .i64 20), .m 52], some 53, none⟩, ⟨.mv, [.m 9], some 54, none⟩, ⟨.mv, [.v 10], some 55, none⟩, ⟨(.call (some 10) 1), [.m 51, .m 53, .m 54, .k (.b false), .m 55], some 56, none⟩, ⟨.mv, [.m 56], some 50, none⟩, ⟨.extm, [.c 50 0], some 57, none⟩, ⟨(.ext 1), [.m 50], some 58, none⟩, ⟨.mv, [.m 57], some 18, none⟩, ⟨.mv, [.m 58], some 19, none⟩] none)
(.seq (.reg [⟨(.call (some 11) 2), [], some 59, none⟩, ⟨.mv, [.m 59], some 60, none⟩, ⟨.mv, [.m 15], some 61, some (60, true)⟩, ⟨(.bin .eql .i), [.m 61, .k (.n .i64 0)], some 62, some (60, true)⟩, ⟨.pick, [.m 60, .m 62, .k (.b false)], some 63, none⟩, ⟨.mv, [.m 63], some 64, none⟩, ⟨.mv, [.m 17], some 65, some (64, true)⟩, ⟨(.bin .eql .i), [.m 65, .k (.n .i64 0)], some 66, some (64, true)⟩, ⟨.mv, [.v 10], some 67, some (64, true)⟩, ⟨.mv, [.v 11], some 68, some (64, true)⟩, ⟨(.bin .eql .i), [.m 67, .m 68], some 69, some (64, true)⟩, ⟨(.bin .eql .b), [.m 66, .m 69], some 70, some (64, true)⟩, ⟨.pick, [.m 64, .m 70, .k (.b false)], some 71, none⟩, ⟨.mv, [.m 71], some 72, none⟩, ⟨.mv, [.m 16], some 73, some (72, true)⟩, ⟨.len, [.m 73], some 74, some (72, true)⟩, ⟨(.bin .eql .i), [.m 74, .k (.n .i64 0)], some 75, some (72, true)⟩, ⟨.mv, [.m 10], some 76, some (72, true)⟩, ⟨.mv, [.m 11], some 77, some (72, true)⟩, ⟨(.bin .eql .i), [.m 76, .m 77], some 78, some (72, true)⟩, ⟨(.bin .eql .b), [.m 75, .m 78], some 79, some (72, true)⟩, ⟨.pick, [.m 72, .m 79, .k (.b false)], some 80, none⟩, ⟨.mv, [.m 80], some 81, none⟩, ⟨.mv, [.m 19], some 82, some (81, true)⟩, ⟨(.bin .eql .i), [.m 82, .k (.n .i64 8)], some 83, some (81, true)⟩, ⟨.pick, [.m 81, .m 83, .k (.b false)], some 84, none⟩, ⟨.mv, [.m 84], some 85, none⟩, ⟨.mv, [.m 14], some 86, some (85, true)⟩, ⟨(.call (some 12) 3), [.m 86], some 87, some (85, true)⟩, ⟨(.bin .eql .i), [.m 87, .k (.n .i64 0)], some 88, some (85, true)⟩, ⟨.pick, [.m 85, .m 88, .k (.b false)], some 89, none⟩, ⟨.mv, [.m 89], some 6, none⟩] none)
(.drop [10, 11, 14, 15, 16, 17, 18, 19, 61, 65, 66, 67, 68, 69, 73, 74, 75, 76, 77, 78, 82, 86, 87] .ret)))))
def l11_IdsCounts_s0 : SSh := ⟨[(9, .g (.f (.a .u16))), (10, .g (.f (.a (.n .i64)))), (11, .g (.f (.a (.n .i64)))), (12, .g (.f (.a (.n .i64)))), (13, .g (.f (.a (.n .i64))))], []⟩
def l11_IdsCounts_o0 : Cut Tb := cutJ tab 0 l11_IdsCounts_s0 (fun _ x k => l11_IdsCounts_c0 x.1.1 x.1.2.1 x.1.2.2.1 x.1.2.2.2.1 x.1.2.2.2.2.1 (fun y17 => k .ret ⟨[(6, .b y17)], []⟩))
theorem l11_IdsCounts_q0 : (l11_IdsCounts_o0).Ok Try.prog Wp tab 0 l11_IdsCounts_p0 := cutJ_ok (c := l11_IdsCounts_p0) tabOk l11_IdsCounts_rk (cS trivial (cS trivial (cS trivial (cS trivial (cD trivial))))) (fun _ _ => by kernel_rfl)
def l11_IdsCounts_p : TCode Tb :=
(.seq (.reg [⟨.box, [.m 1], some 4, none⟩, ⟨.mv, [.k (.b false)], some 6, none⟩] none)
(.seq (.reg [⟨(.iarr 2 1), [.v 4, .k (.n .i64 0)], some 20, none⟩, ⟨(.load none), [.m 20], some 21, none⟩, ⟨(.iarr 2 1), [.v 4, .k (.n .i64 1)], some 22, none⟩, ⟨(.load none), [.m 22], some 23, none⟩, ⟨.mv, [.m 21], some 7, none⟩, ⟨.mv, [.m 23], some 8, none⟩] (some [[], [], [], [1], [], []]))
(.seq (.reg [⟨.mv, [.m 0], some 24, none⟩, ⟨.max, [.m 24, .k (.u16 (1 : UInt16))], some 25, none⟩, ⟨.mv, [.m 25], some 9, none⟩] none)
(.seq (.reg [⟨.mv, [.m 7], some 26, none⟩, ⟨(.cint .u64), [.m 26], some 27, none⟩, ⟨(.bin .rem .i), [.m 27, .k (.u64 (50 : UInt64))], some 28, none⟩, ⟨(.cint .i64), [.m 28], some 29, none⟩, ⟨.mv, [.m 8], some 30, none⟩, ⟨(.cint .u64), [.m 30], some 31, none⟩, ⟨(.bin .rem .i), [.m 31, .k (.u64 (50 : UInt64))], some 32, none⟩, ⟨(.cint .i64), [.m 32], some 33, none⟩, ⟨.mv, [.m 29], some 10, none⟩, ⟨.mv, [.m 33], some 11, none⟩] none)
(.seq (.reg [⟨.mv, [.k (.n .i64 5)], some 12, none⟩, ⟨.mv, [.k (.n .i64 9)], some 13, none⟩] none)
(.seq (.seq (.reg [⟨.mv, [.m 2], some 34, none⟩] none)
(.cond 34 (.drop [4, 6, 12, 13, 34] (.reg [⟨.mv, [.k (.n .i64 6)], some 12, none⟩, ⟨.mv, [.k (.n .i64 11)], some 13, none⟩] none))
(.drop [4, 6, 34] .skip)))
(.cut 0 l11_IdsCounts_o0 l11_IdsCounts_p0)))))))
def l11_IdsCounts_w : Orc Tb := mkOrc (Y := Bool) tab [.g (.f (.a .u16)), .g (.st 3), .g (.f (.a .b))] [] (fun x h => l11_IdsCounts x.1 (⟨x.2.1.x0, x.2.1.x1⟩ : arr2_i64) x.2.2.1) (fun _ y k => k (.b y) [])
theorem l11_IdsCounts_k : (l11_IdsCounts_w).Ok Try.prog Wp tab 4 := orc_ok (Y := Bool) (orcs := l11_IdsCounts_r) (c := l11_IdsCounts_p) (res := [.tmp 6]) (n := 90) (R := (RSp.one (Y := Bool) tab (.g (.f (.a .b))) [] (fun a b => a) (fun y => y) (fun y => ()))) tabOk l11_IdsCounts_rk (RSp.one_ok tabOk (fun _ _ => by kernel_rfl) (fun _ _ => by kernel_rfl)) Try.func4 (by kernel_rfl) (by kernel_rfl) (by kernel_rfl) (by kernel_rfl) (cS trivial (cS trivial (cS trivial (cS trivial (cS trivial (cS (cS trivial (cC (cD trivial) (cD trivial))) (cT l11_IdsCounts_q0))))))) (fun _ y k => by kernel_rfl) (fun y => by kernel_rfl) (fun x h => by kernel_rfl)
end Go.Rv
