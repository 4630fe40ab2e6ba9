/- That the program's functions are these plain functions. -/
import Derived.Test.YtaegbddjeibolaaPure
import Derived.Test.YtaegbddjeibolaaChecked
set_option linter.unusedSimpArgs false
set_option linter.unusedVariables false
set_option maxRecDepth 100000
namespace Go.Rv
open Go.Proofs
variable {Wp : World → Prop}
def slices_Clone_s_byte_byte_r : Orcs Tb := []
theorem slices_Clone_s_byte_byte_rk : OrcsOk Try.prog Wp tab slices_Clone_s_byte_byte_r := orcs_nil
def slices_Clone_s_byte_byte_p : TCode Tb :=
(.seq (.reg [⟨.mv, [.k (.nilS)], some 2, none⟩] none)
(.seq (.seq (.reg [⟨.mv, [.v 0], some 3, none⟩, ⟨(.bin .eql .sl), [.v 3, .k (.nilS)], some 4, none⟩] none)
(.cond 4 (.drop [0, 2, 3, 4] (.seq (.reg [⟨.mv, [.k (.nilS)], some 2, none⟩] none)
.ret))
(.drop [2, 3, 4] .skip)))
(.seq (.reg [⟨(.b8 0 []), [], some 5, none⟩, ⟨.mv, [.m 0], some 6, none⟩, ⟨(.app 1 1), [.m 5, .m 6], some 7, none⟩, ⟨.mv, [.m 7], some 2, none⟩] none)
.ret)))
def slices_Clone_s_byte_byte_w : Orc Tb := mkOrc (Y := (Option (List UInt8))) tab [.g (.f (.a .bs))] [] (fun x h => slices_Clone_s_byte_byte x.1) (fun _ y k => k (.bo y) [])
theorem slices_Clone_s_byte_byte_k : (slices_Clone_s_byte_byte_w).Ok Try.prog Wp tab 48 := orc_ok (Y := (Option (List UInt8))) (orcs := slices_Clone_s_byte_byte_r) (c := slices_Clone_s_byte_byte_p) (res := [.tmp 2]) (n := 8) (R := (RSp.one (Y := (Option (List UInt8))) tab (.g (.f (.bo))) [] (fun a b => a) (fun y => y) (fun y => ()))) tabOk slices_Clone_s_byte_byte_rk (RSp.one_ok tabOk (fun _ _ => by kernel_rfl) (fun _ _ => by kernel_rfl)) Try.func48 (by kernel_rfl) (by kernel_rfl) (by kernel_rfl) (by kernel_rfl) (cS trivial (cS (cS trivial (cC (cD (cS trivial trivial)) (cD trivial))) (cS trivial trivial))) (fun _ y k => by kernel_rfl) (fun y => by kernel_rfl) (fun x h => by kernel_rfl)
def wire_Two_r : Orcs Tb := [(48, slices_Clone_s_byte_byte_w)]
theorem wire_Two_rk : OrcsOk Try.prog Wp tab wire_Two_r := (orcs_cons slices_Clone_s_byte_byte_k orcs_nil)
def wire_Two_p : TCode Tb :=
(.seq (.reg [⟨.mv, [.k (.nilS)], some 4, none⟩] none)
(.seq (.reg [⟨.mv, [.m 0], some 5, none⟩, ⟨(.call (some 48) 0), [.m 5], some 6, none⟩, ⟨.mv, [.v 1], some 7, none⟩, ⟨(.bin .shr .i), [.m 7, .k (.u64 (8 : UInt64))], some 8, none⟩, ⟨(.cint .u8), [.m 8], some 9, none⟩, ⟨.mv, [.m 1], some 10, none⟩, ⟨(.cint .u8), [.m 10], some 11, none⟩, ⟨(.b8 2 [0, 1]), [.m 9, .m 11], some 12, none⟩, ⟨(.app 1 1), [.m 6, .m 12], some 13, none⟩, ⟨.mv, [.m 13], some 4, none⟩] none)
.ret))
def wire_Two_w : Orc Tb := mkOrc (Y := (Option (List UInt8))) tab [.g (.f (.a .bs)), .g (.f (.a .u16))] [] (fun x h => wire_Two x.1 x.2.1) (fun _ y k => k (.bo y) [])
theorem wire_Two_k : (wire_Two_w).Ok Try.prog Wp tab 29 := orc_ok (Y := (Option (List UInt8))) (orcs := wire_Two_r) (c := wire_Two_p) (res := [.tmp 4]) (n := 14) (R := (RSp.one (Y := (Option (List UInt8))) tab (.g (.f (.bo))) [] (fun a b => a) (fun y => y) (fun y => ()))) tabOk wire_Two_rk (RSp.one_ok tabOk (fun _ _ => by kernel_rfl) (fun _ _ => by kernel_rfl)) Try.func29 (by kernel_rfl) (by kernel_rfl) (by kernel_rfl) (by kernel_rfl) (cS trivial (cS trivial trivial)) (fun _ y k => by kernel_rfl) (fun y => by kernel_rfl) (fun x h => by kernel_rfl)
def wire_Bin_r : Orcs Tb := [(48, slices_Clone_s_byte_byte_w), (29, wire_Two_w)]
theorem wire_Bin_rk : OrcsOk Try.prog Wp tab wire_Bin_r := (orcs_cons slices_Clone_s_byte_byte_k (orcs_cons wire_Two_k orcs_nil))
def wire_Bin_p : TCode Tb :=
(.seq (.reg [⟨.mv, [.k (.nilS)], some 4, none⟩] none)
(.seq (.seq (.reg [⟨.mv, [.v 1], some 5, none⟩, ⟨.lens, [.m 5], some 6, none⟩, ⟨(.bin .gtr .i), [.m 6, .k (.n .i64 65535)], some 7, none⟩] none)
(.cond 7 (.drop [1, 4, 7] (.seq (.reg [⟨.mv, [.m 0], some 8, none⟩, ⟨(.call (some 48) 0), [.m 8], some 9, none⟩, ⟨.mv, [.m 9], some 4, none⟩] none)
.ret))
(.drop [4, 7] .skip)))
(.seq (.reg [⟨.mv, [.m 0], some 10, none⟩, ⟨.mv, [.v 1], some 11, none⟩, ⟨.lens, [.m 11], some 12, none⟩, ⟨(.cint .u16), [.m 12], some 13, none⟩, ⟨(.call (some 29) 1), [.m 10, .m 13], some 14, none⟩, ⟨.mv, [.m 1], some 15, none⟩, ⟨.apps, [.m 14, .m 15], some 16, none⟩, ⟨.mv, [.m 16], some 4, none⟩] none)
.ret)))
def wire_Bin_w : Orc Tb := mkOrc (Y := (Option (List UInt8))) tab [.g (.f (.a .bs)), .g (.f (.a .s))] [] (fun x h => wire_Bin x.1 x.2.1) (fun _ y k => k (.bo y) [])
theorem wire_Bin_k : (wire_Bin_w).Ok Try.prog Wp tab 25 := orc_ok (Y := (Option (List UInt8))) (orcs := wire_Bin_r) (c := wire_Bin_p) (res := [.tmp 4]) (n := 17) (R := (RSp.one (Y := (Option (List UInt8))) tab (.g (.f (.bo))) [] (fun a b => a) (fun y => y) (fun y => ()))) tabOk wire_Bin_rk (RSp.one_ok tabOk (fun _ _ => by kernel_rfl) (fun _ _ => by kernel_rfl)) Try.func25 (by kernel_rfl) (by kernel_rfl) (by kernel_rfl) (by kernel_rfl) (cS trivial (cS (cS trivial (cC (cD (cS trivial trivial)) (cD trivial))) (cS trivial trivial))) (fun _ y k => by kernel_rfl) (fun y => by kernel_rfl) (fun x h => by kernel_rfl)
def wire_Var_r : Orcs Tb := [(48, slices_Clone_s_byte_byte_w)]
theorem wire_Var_rk : OrcsOk Try.prog Wp tab wire_Var_r := (orcs_cons slices_Clone_s_byte_byte_k orcs_nil)
def wire_Var_p0 : TCode Tb :=
(.seq (.seq (.reg [⟨.mv, [.v 1], some 11, none⟩, ⟨(.bin .geq .i), [.m 11, .k (.u32 (128 : UInt32))], some 12, none⟩] none)
(.cond 12 (.drop [12] .skip)
(.drop [12] (.exit 0))))
(.seq (.block 1 (.reg [⟨.mv, [.m 5], some 15, none⟩, ⟨.mv, [.v 1], some 16, none⟩, ⟨(.cint .u8), [.m 16], some 17, none⟩, ⟨(.bin .or .i), [.m 17, .k (.u8 (128 : UInt8))], some 18, none⟩, ⟨(.b8 1 [0]), [.m 18], some 19, none⟩, ⟨(.app 1 1), [.m 15, .m 19], some 20, none⟩, ⟨.mv, [.m 20], some 5, none⟩] none))
(.reg [⟨.mv, [.m 1], some 13, none⟩, ⟨(.bin .shr .i), [.m 13, .k (.u64 (7 : UInt64))], some 14, none⟩, ⟨.mv, [.m 14], some 1, none⟩] none)))
def wire_Var_s0 : SSh := ⟨[(1, .g (.f (.a .u32))), (5, .g (.f (.bo)))], []⟩
def wire_Var_o0 : Cut Tb := cutL tab 0 wire_Var_s0 (fun x => (x.1.1, x.1.2.1)) (fun x => wire_Var_l0) (fun _ x y k => k (.exit 0) ⟨[(1, .u32 y.1), (5, .bo y.2)], []⟩)
theorem wire_Var_q0 : (wire_Var_o0).Ok Try.prog Wp tab 0 (.loop wire_Var_p0) := cutL_ok (c := wire_Var_p0) (Z := UInt32 × (Option (List UInt8))) (Y := UInt32 × (Option (List UInt8))) tabOk wire_Var_rk (cS (cS trivial (cC (cD trivial) (cD trivial))) (cS (cB trivial) trivial)) (fun _ x z b e => wire_Var_b0 z.1 z.2 (fun x4 x5 => b (x4, x5)) (fun y7 y8 => e (y7, y8))) (fun x z => ⟨[(1, .u32 z.1), (5, .bo z.2)], []⟩) (fun x y => ((.exit 0), ⟨[(1, .u32 y.1), (5, .bo y.2)], []⟩)) (fun t => (prjS tab 0 wire_Var_s0 t).bind fun x => some (x.1.1, x.1.2.1)) (fun e t => (if eqE e (.exit 0) then (prjS tab 0 ⟨[(1, .g (.f (.a .u32))), (5, .g (.f (.bo)))], []⟩ t).bind fun v => some (v.1.1, v.1.2.1) else none)) (fun x => by kernel_rfl) (fun x z => by kernel_rfl) (fun x y k => by kernel_rfl) (fun x y => by exact nofun) (fun x z => by kernel_rfl) (fun x y => by kernel_rfl) (fun x z k => by kernel_rfl)
def wire_Var_p : TCode Tb :=
(.seq (.reg [⟨.mv, [.k (.nilS)], some 4, none⟩] none)
(.seq (.reg [⟨.mv, [.m 0], some 6, none⟩, ⟨(.call (some 48) 0), [.m 6], some 7, none⟩, ⟨.mv, [.m 7], some 5, none⟩] none)
(.seq (.seq (.reg [⟨.mv, [.v 1], some 8, none⟩, ⟨(.bin .gtr .i), [.m 8, .k (.u32 (268435455 : UInt32))], some 9, none⟩] none)
(.cond 9 (.drop [1, 4, 9] (.seq (.reg [⟨.mv, [.m 5], some 10, none⟩, ⟨.mv, [.m 10], some 4, none⟩] none)
.ret))
(.drop [4, 9] .skip)))
(.seq (.block 0 (.cut 0 wire_Var_o0 (.loop wire_Var_p0)))
(.seq (.reg [⟨.mv, [.m 5], some 21, none⟩, ⟨.mv, [.m 1], some 22, none⟩, ⟨(.cint .u8), [.m 22], some 23, none⟩, ⟨(.b8 1 [0]), [.m 23], some 24, none⟩, ⟨(.app 1 1), [.m 21, .m 24], some 25, none⟩, ⟨.mv, [.m 25], some 4, none⟩] none)
.ret)))))
def wire_Var_w : Orc Tb := mkOrc (Y := (Option (List UInt8))) tab [.g (.f (.a .bs)), .g (.f (.a .u32))] [] (fun x h => wire_Var x.1 x.2.1) (fun _ y k => k (.bo y) [])
theorem wire_Var_k : (wire_Var_w).Ok Try.prog Wp tab 24 := orc_ok (Y := (Option (List UInt8))) (orcs := wire_Var_r) (c := wire_Var_p) (res := [.tmp 4]) (n := 26) (R := (RSp.one (Y := (Option (List UInt8))) tab (.g (.f (.bo))) [] (fun a b => a) (fun y => y) (fun y => ()))) tabOk wire_Var_rk (RSp.one_ok tabOk (fun _ _ => by kernel_rfl) (fun _ _ => by kernel_rfl)) Try.func24 (by kernel_rfl) (by kernel_rfl) (by kernel_rfl) (by kernel_rfl) (cS trivial (cS trivial (cS (cS trivial (cC (cD (cS trivial trivial)) (cD trivial))) (cS (cB (cT wire_Var_q0)) (cS trivial trivial))))) (fun _ y k => by kernel_rfl) (fun y => by kernel_rfl) (fun x h => by kernel_rfl)
def wire_Read_r : Orcs Tb := []
theorem wire_Read_rk : OrcsOk Try.prog Wp tab wire_Read_r := orcs_nil
def wire_Read_p : TCode Tb :=
(.seq (.reg [⟨.mv, [.k (.nilP)], some 2, none⟩] none)
(.seq (.reg [⟨.mv, [.m 0], some 3, none⟩, ⟨.b2s, [.m 3], some 4, none⟩, ⟨(.build [.s [], .n .i64 0] [(0, 1)]), [.m 4], some 5, none⟩, ⟨.box, [.m 5], some 6, none⟩, ⟨.mv, [.m 6], some 2, none⟩] none)
.ret))
def wire_Read_w : Orc Tb := mkOrc (Y := wire_Reader) tab [.g (.f (.a .bs))] [] (fun x h => wire_Read x.1) (fun _ y k => k (.ref 0 0) [[.s y.b, .n .i64 y.err]])
theorem wire_Read_k : (wire_Read_w).Ok Try.prog Wp tab 17 := orc_ok (Y := wire_Reader) (orcs := wire_Read_r) (c := wire_Read_p) (res := [.tmp 2]) (n := 7) (R := (RSp.one (Y := wire_Reader) tab (.g (.f (.ref 0 0))) [[.g (.f (.a .s)), .g (.f (.a (.n .i64)))]] (fun a b => (⟨b.1.1, b.1.2.1⟩ : wire_Reader)) (fun y => ()) (fun y => ((y.b, y.err, ()), ())))) tabOk wire_Read_rk (RSp.one_ok tabOk (fun _ _ => by kernel_rfl) (fun _ _ => by kernel_rfl)) Try.func17 (by kernel_rfl) (by kernel_rfl) (by kernel_rfl) (by kernel_rfl) (cS trivial (cS trivial trivial)) (fun _ y k => by kernel_rfl) (fun y => by kernel_rfl) (fun x h => by kernel_rfl)
def wire_Reader_Err_r : Orcs Tb := []
theorem wire_Reader_Err_rk : OrcsOk Try.prog Wp tab wire_Reader_Err_r := orcs_nil
def wire_Reader_Err_p : TCode Tb :=
(.seq (.reg [⟨.mv, [.k (.n .i64 0)], some 2, none⟩] none)
(.seq (.seq (.reg [⟨.mv, [.v 0], some 3, none⟩, ⟨(.bin .eql .p), [.m 3, .k (.nilP)], some 4, none⟩] none)
(.cond 4 (.drop [0, 2, 4] (.seq (.reg [⟨.mv, [.k (.n .i64 1)], some 2, none⟩] none)
.ret))
(.drop [2, 4] .skip)))
(.seq (.reg [⟨.mv, [.m 0], some 5, none⟩, ⟨.nilck, [.m 5], some 6, none⟩, ⟨(.fa 1), [.m 6], some 7, none⟩, ⟨(.load none), [.m 7], some 8, none⟩, ⟨.mv, [.m 8], some 2, none⟩] none)
.ret)))
def wire_Reader_Err_w : Orc Tb := mkOrc (Y := Int × wire_Reader) tab [.g (.f (.ref 0 0))] [[.g (.f (.a .s)), .g (.f (.a (.n .i64)))]] (fun x h => wire_Reader_Err (⟨h.1.1, h.1.2.1⟩ : wire_Reader)) (fun _ y k => k (.n .i64 y.1) [[.s y.2.b, .n .i64 y.2.err]])
theorem wire_Reader_Err_k : (wire_Reader_Err_w).Ok Try.prog Wp tab 22 := orc_ok (Y := Int × wire_Reader) (orcs := wire_Reader_Err_r) (c := wire_Reader_Err_p) (res := [.tmp 2]) (n := 9) (R := (RSp.one (Y := Int × wire_Reader) tab (.g (.f (.a (.n .i64)))) [[.g (.f (.a .s)), .g (.f (.a (.n .i64)))]] (fun a b => (a, (⟨b.1.1, b.1.2.1⟩ : wire_Reader))) (fun y => y.1) (fun y => ((y.2.b, y.2.err, ()), ())))) tabOk wire_Reader_Err_rk (RSp.one_ok tabOk (fun _ _ => by kernel_rfl) (fun _ _ => by kernel_rfl)) Try.func22 (by kernel_rfl) (by kernel_rfl) (by kernel_rfl) (by kernel_rfl) (cS trivial (cS (cS trivial (cC (cD (cS trivial trivial)) (cD trivial))) (cS trivial trivial))) (fun _ y k => by kernel_rfl) (fun y => by kernel_rfl) (fun x h => by kernel_rfl)
def wire_digits_r : Orcs Tb := []
theorem wire_digits_rk : OrcsOk Try.prog Wp tab wire_digits_r := orcs_nil
def wire_digits_p0 : TCode Tb :=
(.seq (.reg [⟨(.bin .lss .i), [.v 7, .k (.n .i64 4)], some 8, none⟩] none)
(.seq (.cond 8 (.drop [8] .skip)
(.drop [0, 2, 7, 8] (.exit 0)))
(.seq (.block 1 (.seq (.reg [⟨.mv, [.v 7], some 9, none⟩, ⟨.mv, [.m 9], some 5, none⟩] none)
(.seq (.seq (.reg [⟨.mv, [.v 5], some 10, none⟩, ⟨.mv, [.v 0], some 11, none⟩, ⟨.lens, [.m 11], some 12, none⟩, ⟨(.bin .geq .i), [.m 10, .m 12], some 13, none⟩] none)
(.cond 13 (.drop [0, 2, 5, 7, 13] (.seq (.reg [⟨.mv, [.k (.u32 (0 : UInt32))], some 2, none⟩, ⟨.mv, [.k (.n .i64 0)], some 3, none⟩, ⟨.mv, [.k (.n .i64 2)], some 4, none⟩] none)
.ret))
(.drop [13] .skip)))
(.seq (.reg [⟨.mv, [.v 0], some 14, none⟩, ⟨.mv, [.v 5], some 15, none⟩, ⟨.sidx, [.m 14, .m 15], some 16, none⟩, ⟨.mv, [.m 16], some 6, none⟩] none)
(.seq (.reg [⟨.mv, [.m 2], some 17, none⟩, ⟨.mv, [.v 6], some 18, none⟩, ⟨(.bin .andNot .i), [.m 18, .k (.u8 (128 : UInt8))], some 19, none⟩, ⟨(.cint .u32), [.m 19], some 20, none⟩, ⟨.mv, [.v 5], some 21, none⟩, ⟨(.bin .mul .i), [.k (.n .i64 7), .m 21], some 22, none⟩, ⟨(.bin .shl .i), [.m 20, .m 22], some 23, none⟩, ⟨(.bin .or .i), [.m 17, .m 23], some 24, none⟩, ⟨.mv, [.m 24], some 2, none⟩] none)
(.seq (.block 2 (.seq (.reg [⟨.mv, [.v 6], some 26, none⟩, ⟨(.bin .geq .i), [.m 26, .k (.u8 (128 : UInt8))], some 27, none⟩, ⟨.mv, [.m 27], some 25, none⟩] none)
(.cond 25 (.drop [5, 6, 25] (.exit 1))
(.drop [0, 7, 25] (.seq (.reg [⟨.mv, [.m 6], some 29, none⟩, ⟨(.bin .eql .i), [.m 29, .k (.u8 (0 : UInt8))], some 30, none⟩, ⟨.mv, [.m 30], some 31, none⟩, ⟨.mv, [.v 5], some 32, some (31, true)⟩, ⟨(.bin .gtr .i), [.m 32, .k (.n .i64 0)], some 33, some (31, true)⟩, ⟨.pick, [.m 31, .m 33, .k (.b false)], some 34, none⟩, ⟨.mv, [.m 34], some 28, none⟩] none)
(.drop [32] (.cond 28 (.drop [2, 5, 28] (.seq (.reg [⟨.mv, [.k (.u32 (0 : UInt32))], some 2, none⟩, ⟨.mv, [.k (.n .i64 0)], some 3, none⟩, ⟨.mv, [.k (.n .i64 3)], some 4, none⟩] none)
.ret))
(.drop [28] .skip))))))))
(.seq (.reg [⟨.mv, [.m 2], some 35, none⟩, ⟨.mv, [.m 5], some 36, none⟩, ⟨(.bin .add .i), [.m 36, .k (.n .i64 1)], some 37, none⟩, ⟨.mv, [.m 35], some 2, none⟩, ⟨.mv, [.m 37], some 3, none⟩, ⟨.mv, [.k (.n .i64 0)], some 4, none⟩] none)
.ret)))))))
(.reg [⟨(.bin .add .i), [.m 7, .k (.n .i64 1)], some 38, none⟩, ⟨.mv, [.m 38], some 7, none⟩] none))))
def wire_digits_s0 : SSh := ⟨[(0, .g (.f (.a .s))), (2, .g (.f (.a .u32))), (7, .g (.f (.a (.n .i64))))], []⟩
def wire_digits_o0 : Cut Tb := cutL tab 0 wire_digits_s0 (fun x => (x.1.2.1, x.1.2.2.1)) (fun x => wire_digits_l0 x.1.1) (fun _ x y k => match y with | .inl y => k .ret ⟨[(2, .u32 y.1), (3, .n .i64 y.2.1), (4, .n .i64 y.2.2)], []⟩ | .inr y => k (.exit 0) ⟨[], []⟩)
theorem wire_digits_q0 : (wire_digits_o0).Ok Try.prog Wp tab 0 (.loop wire_digits_p0) := cutL_ok (c := wire_digits_p0) (Z := UInt32 × Int) (Y := (UInt32 × Int × Int) ⊕ Unit) tabOk wire_digits_rk (cS trivial (cS (cC (cD trivial) (cD trivial)) (cS (cB (cS trivial (cS (cS trivial (cC (cD (cS trivial trivial)) (cD trivial))) (cS trivial (cS trivial (cS (cB (cS trivial (cC (cD trivial) (cD (cS trivial (cD (cC (cD (cS trivial trivial)) (cD trivial)))))))) (cS trivial trivial))))))) trivial))) (fun _ x z b e => wire_digits_b0 x.1.1 z.1 z.2 (fun x3 x4 => b (x3, x4)) (fun y6 y7 y8 => e (.inl (y6, y7, y8))) (e (.inr ()))) (fun x z => ⟨[(0, .s x.1.1), (2, .u32 z.1), (7, .n .i64 z.2)], []⟩) (fun x y => match y with | .inl y => (.ret, ⟨[(2, .u32 y.1), (3, .n .i64 y.2.1), (4, .n .i64 y.2.2)], []⟩) | .inr y => ((.exit 0), ⟨[], []⟩)) (fun t => (prjS tab 0 wire_digits_s0 t).bind fun x => some (x.1.2.1, x.1.2.2.1)) (fun e t => (if eqE e .ret then orElse ((prjS tab 0 ⟨[(2, .g (.f (.a .u32))), (3, .g (.f (.a (.n .i64)))), (4, .g (.f (.a (.n .i64))))], []⟩ t).bind fun v => some (.inl (v.1.1, v.1.2.1, v.1.2.2.1))) (if eqE e (.exit 0) then (prjS tab 0 ⟨[], []⟩ t).bind fun v => some (.inr ()) else none) else (if eqE e (.exit 0) then (prjS tab 0 ⟨[], []⟩ t).bind fun v => some (.inr ()) else none))) (fun x => by kernel_rfl) (fun x z => by kernel_rfl) (fun x y k => by rcases y with y | y <;> kernel_rfl) (fun x y => by rcases y with y | y <;> exact nofun) (fun x z => by kernel_rfl) (fun x y => by rcases y with y | y <;> kernel_rfl) (fun x z k => by kernel_rfl)
def wire_digits_p : TCode Tb :=
(.seq (.reg [⟨.mv, [.k (.u32 (0 : UInt32))], some 2, none⟩, ⟨.mv, [.k (.n .i64 0)], some 3, none⟩, ⟨.mv, [.k (.n .i64 0)], some 4, none⟩] none)
(.seq (.seq (.reg [⟨.mv, [.k (.n .i64 0)], some 7, none⟩] none)
(.block 0 (.drop [3, 4] (.cut 0 wire_digits_o0 (.loop wire_digits_p0)))))
(.seq (.reg [⟨.mv, [.k (.u32 (0 : UInt32))], some 2, none⟩, ⟨.mv, [.k (.n .i64 0)], some 3, none⟩, ⟨.mv, [.k (.n .i64 3)], some 4, none⟩] none)
.ret)))
def wire_digits_w : Orc Tb := mkOrc (Y := UInt32 × Int × Int) tab [.g (.f (.a .s))] [] (fun x h => wire_digits x.1) (fun _ y k => k (.tup [.u32 y.1, .n .i64 y.2.1, .n .i64 y.2.2]) [])
theorem wire_digits_k : (wire_digits_w).Ok Try.prog Wp tab 47 := orc_ok (Y := UInt32 × Int × Int) (orcs := wire_digits_r) (c := wire_digits_p) (res := [.tmp 2, .tmp 3, .tmp 4]) (n := 39) (R := (RSp.one (Y := UInt32 × Int × Int) tab (.tup [.f (.a .u32), .f (.a (.n .i64)), .f (.a (.n .i64))]) [] (fun a b => (a.1, a.2.1, a.2.2.1)) (fun y => (y.1, y.2.1, y.2.2, ())) (fun y => ()))) tabOk wire_digits_rk (RSp.one_ok tabOk (fun _ _ => by kernel_rfl) (fun _ _ => by kernel_rfl)) Try.func47 (by kernel_rfl) (by kernel_rfl) (by kernel_rfl) (by kernel_rfl) (cS trivial (cS (cS trivial (cB (cD (cT wire_digits_q0)))) (cS trivial trivial))) (fun _ y k => by kernel_rfl) (fun y => by kernel_rfl) (fun x h => by kernel_rfl)
def wire_Reader_Var_r : Orcs Tb := [(22, wire_Reader_Err_w), (47, wire_digits_w)]
theorem wire_Reader_Var_rk : OrcsOk Try.prog Wp tab wire_Reader_Var_r := (orcs_cons wire_Reader_Err_k (orcs_cons wire_digits_k orcs_nil))
def wire_Reader_Var_p : TCode Tb :=
(.seq (.reg [⟨.mv, [.k (.u32 (0 : UInt32))], some 2, none⟩] none)
(.seq (.seq (.reg [⟨.mv, [.v 0], some 6, none⟩, ⟨(.call (some 22) 0), [.m 6], some 7, none⟩, ⟨(.bin .neq .i), [.m 7, .k (.n .i64 0)], some 8, none⟩] none)
(.cond 8 (.drop [0, 2, 8] (.seq (.reg [⟨.mv, [.k (.u32 (0 : UInt32))], some 2, none⟩] none)
.ret))
(.drop [2, 8] .skip)))
(.seq (.reg [⟨.mv, [.v 0], some 10, none⟩, ⟨.nilck, [.m 10], some 11, none⟩, ⟨(.fa 0), [.m 11], some 12, none⟩, ⟨(.load none), [.m 12], some 13, none⟩, ⟨(.call (some 47) 1), [.m 13], some 14, none⟩, ⟨.mv, [.m 14], some 9, none⟩, ⟨.extm, [.c 9 0], some 15, none⟩, ⟨.extm, [.c 9 1], some 16, none⟩, ⟨(.ext 2), [.m 9], some 17, none⟩, ⟨.mv, [.m 15], some 3, none⟩, ⟨.mv, [.m 16], some 4, none⟩, ⟨.mv, [.m 17], some 5, none⟩] none)
(.seq (.reg [⟨.mv, [.v 0], some 18, none⟩, ⟨.mv, [.m 5], some 19, none⟩, ⟨.nilck, [.m 18], some 20, none⟩, ⟨(.fa 1), [.m 20], some 21, none⟩, ⟨(.store 1), [.m 21, .m 19], none, none⟩] none)
(.seq (.reg [⟨.mv, [.v 0], some 22, none⟩, ⟨.mv, [.m 0], some 23, none⟩, ⟨.nilck, [.m 23], some 24, none⟩, ⟨(.fa 0), [.m 24], some 25, none⟩, ⟨(.load none), [.m 25], some 26, none⟩, ⟨.mv, [.m 4], some 27, none⟩, ⟨(.sstr true false), [.m 26, .m 27], some 28, none⟩, ⟨.nilck, [.m 22], some 29, none⟩, ⟨(.fa 0), [.m 29], some 30, none⟩, ⟨(.store 1), [.m 30, .m 28], none, none⟩] none)
(.seq (.reg [⟨.mv, [.m 3], some 31, none⟩, ⟨.mv, [.m 31], some 2, none⟩] none)
.ret))))))
def wire_Reader_Var_w : Orc Tb := mkOrc (Y := UInt32 × wire_Reader) tab [.g (.f (.ref 0 0))] [[.g (.f (.a .s)), .g (.f (.a (.n .i64)))]] (fun x h => wire_Reader_Var (⟨h.1.1, h.1.2.1⟩ : wire_Reader)) (fun _ y k => k (.u32 y.1) [[.s y.2.b, .n .i64 y.2.err]])
theorem wire_Reader_Var_k : (wire_Reader_Var_w).Ok Try.prog Wp tab 18 := orc_ok (Y := UInt32 × wire_Reader) (orcs := wire_Reader_Var_r) (c := wire_Reader_Var_p) (res := [.tmp 2]) (n := 32) (R := (RSp.one (Y := UInt32 × wire_Reader) tab (.g (.f (.a .u32))) [[.g (.f (.a .s)), .g (.f (.a (.n .i64)))]] (fun a b => (a, (⟨b.1.1, b.1.2.1⟩ : wire_Reader))) (fun y => y.1) (fun y => ((y.2.b, y.2.err, ()), ())))) tabOk wire_Reader_Var_rk (RSp.one_ok tabOk (fun _ _ => by kernel_rfl) (fun _ _ => by kernel_rfl)) Try.func18 (by kernel_rfl) (by kernel_rfl) (by kernel_rfl) (by kernel_rfl) (cS trivial (cS (cS trivial (cC (cD (cS trivial trivial)) (cD trivial))) (cS trivial (cS trivial (cS trivial (cS trivial trivial)))))) (fun _ y k => by kernel_rfl) (fun y => by kernel_rfl) (fun x h => by kernel_rfl)
def wire_Reader_take_r : Orcs Tb := [(22, wire_Reader_Err_w)]
theorem wire_Reader_take_rk : OrcsOk Try.prog Wp tab wire_Reader_take_r := (orcs_cons wire_Reader_Err_k orcs_nil)
def wire_Reader_take_p0 : TCode Tb :=
(.cond 20 (.drop [1, 20] (.seq (.reg [⟨.mv, [.m 0], some 21, none⟩, ⟨.nilck, [.m 21], some 22, none⟩, ⟨(.fa 1), [.m 22], some 23, none⟩, ⟨(.store 1), [.m 23, .k (.n .i64 2)], none, none⟩] none)
(.seq (.reg [⟨.mv, [.k (.s [])], some 4, none⟩, ⟨.mv, [.k (.b false)], some 5, none⟩] none)
.ret)))
(.drop [20] .skip))
def wire_Reader_take_s0 : SSh := ⟨[(0, .g (.f (.ref 0 0))), (1, .g (.f (.a (.n .i64)))), (20, .g (.f (.a .b)))], [[.g (.f (.a .s)), .g (.f (.a (.n .i64)))]]⟩
def wire_Reader_take_o0 : Cut Tb := cutJ tab 1 wire_Reader_take_s0 (fun _ x k => wire_Reader_take_c0 x.1.2.2.1 (k .ret ⟨[(4, .s []), (5, .b false)], [[.s ((⟨x.2.1.1, x.2.1.2.1⟩ : wire_Reader).b), .n .i64 2]]⟩) (k .normal ⟨[(0, .ref 0 0), (1, .n .i64 x.1.2.1)], [[.s ((⟨x.2.1.1, x.2.1.2.1⟩ : wire_Reader).b), .n .i64 ((⟨x.2.1.1, x.2.1.2.1⟩ : wire_Reader).err)]]⟩))
theorem wire_Reader_take_q0 : (wire_Reader_take_o0).Ok Try.prog Wp tab 1 wire_Reader_take_p0 := cutJ_ok (c := wire_Reader_take_p0) tabOk wire_Reader_take_rk (cC (cD (cS trivial (cS trivial trivial))) (cD trivial)) (fun _ _ => by kernel_rfl)
def wire_Reader_take_p1 : TCode Tb :=
(.seq (.reg [⟨.mv, [.v 0], some 24, none⟩, ⟨.nilck, [.m 24], some 25, none⟩, ⟨(.fa 0), [.m 25], some 26, none⟩, ⟨(.load none), [.m 26], some 27, none⟩, ⟨.mv, [.v 1], some 28, none⟩, ⟨(.sstr false true), [.m 27, .m 28], some 29, none⟩, ⟨.mv, [.m 29], some 6, none⟩] none)
(.seq (.reg [⟨.mv, [.v 0], some 30, none⟩, ⟨.mv, [.m 0], some 31, none⟩, ⟨.nilck, [.m 31], some 32, none⟩, ⟨(.fa 0), [.m 32], some 33, none⟩, ⟨(.load none), [.m 33], some 34, none⟩, ⟨.mv, [.m 1], some 35, none⟩, ⟨(.sstr true false), [.m 34, .m 35], some 36, none⟩, ⟨.nilck, [.m 30], some 37, none⟩, ⟨(.fa 0), [.m 37], some 38, none⟩, ⟨(.store 1), [.m 38, .m 36], none, none⟩] none)
(.seq (.reg [⟨.mv, [.m 6], some 39, none⟩, ⟨.mv, [.m 39], some 4, none⟩, ⟨.mv, [.k (.b true)], some 5, none⟩] none)
.ret)))
def wire_Reader_take_s1 : SSh := ⟨[(0, .g (.f (.ref 0 0))), (1, .g (.f (.a (.n .i64))))], [[.g (.f (.a .s)), .g (.f (.a (.n .i64)))]]⟩
def wire_Reader_take_o1 : Cut Tb := cutJ tab 1 wire_Reader_take_s1 (fun _ x k => wire_Reader_take_c1 x.1.2.1 (⟨x.2.1.1, x.2.1.2.1⟩ : wire_Reader) (fun y12 y13 => k .ret ⟨[(4, .s y12), (5, .b true)], [[.s y13, .n .i64 ((⟨x.2.1.1, x.2.1.2.1⟩ : wire_Reader).err)]]⟩))
theorem wire_Reader_take_q1 : (wire_Reader_take_o1).Ok Try.prog Wp tab 1 wire_Reader_take_p1 := cutJ_ok (c := wire_Reader_take_p1) tabOk wire_Reader_take_rk (cS trivial (cS trivial (cS trivial trivial))) (fun _ _ => by kernel_rfl)
def wire_Reader_take_p : TCode Tb :=
(.seq (.reg [⟨.mv, [.k (.s [])], some 4, none⟩, ⟨.mv, [.k (.b false)], some 5, none⟩] none)
(.seq (.seq (.reg [⟨.mv, [.v 0], some 7, none⟩, ⟨(.call (some 22) 0), [.m 7], some 8, none⟩, ⟨(.bin .neq .i), [.m 8, .k (.n .i64 0)], some 9, none⟩] none)
(.cond 9 (.drop [0, 1, 4, 5, 9] (.seq (.reg [⟨.mv, [.k (.s [])], some 4, none⟩, ⟨.mv, [.k (.b false)], some 5, none⟩] none)
.ret))
(.drop [4, 5, 9] .skip)))
(.seq (.seq (.reg [⟨.mv, [.v 1], some 10, none⟩, ⟨(.bin .lss .i), [.m 10, .k (.n .i64 0)], some 11, none⟩, ⟨.mv, [.m 11], some 12, none⟩, ⟨.mv, [.v 1], some 13, some (12, false)⟩, ⟨.mv, [.v 0], some 14, some (12, false)⟩, ⟨.nilck, [.m 14], some 15, some (12, false)⟩, ⟨(.fa 0), [.m 15], some 16, some (12, false)⟩, ⟨(.load none), [.m 16], some 17, some (12, false)⟩, ⟨.lens, [.m 17], some 18, some (12, false)⟩, ⟨(.bin .gtr .i), [.m 13, .m 18], some 19, some (12, false)⟩, ⟨.pick, [.m 12, .k (.b true), .m 19], some 20, none⟩] none)
(.drop [13, 14, 15, 16, 17, 18] (.cut 1 wire_Reader_take_o0 wire_Reader_take_p0)))
(.cut 1 wire_Reader_take_o1 wire_Reader_take_p1))))
def wire_Reader_take_w : Orc Tb := mkOrc (Y := (List UInt8) × Bool × wire_Reader) tab [.g (.f (.ref 0 0)), .g (.f (.a (.n .i64)))] [[.g (.f (.a .s)), .g (.f (.a (.n .i64)))]] (fun x h => wire_Reader_take x.2.1 (⟨h.1.1, h.1.2.1⟩ : wire_Reader)) (fun _ y k => k (.tup [.s y.1, .b y.2.1]) [[.s y.2.2.b, .n .i64 y.2.2.err]])
theorem wire_Reader_take_k : (wire_Reader_take_w).Ok Try.prog Wp tab 49 := orc_ok (Y := (List UInt8) × Bool × wire_Reader) (orcs := wire_Reader_take_r) (c := wire_Reader_take_p) (res := [.tmp 4, .tmp 5]) (n := 40) (R := (RSp.one (Y := (List UInt8) × Bool × wire_Reader) tab (.tup [.f (.a .s), .f (.a .b)]) [[.g (.f (.a .s)), .g (.f (.a (.n .i64)))]] (fun a b => (a.1, a.2.1, (⟨b.1.1, b.1.2.1⟩ : wire_Reader))) (fun y => (y.1, y.2.1, ())) (fun y => ((y.2.2.b, y.2.2.err, ()), ())))) tabOk wire_Reader_take_rk (RSp.one_ok tabOk (fun _ _ => by kernel_rfl) (fun _ _ => by kernel_rfl)) Try.func49 (by kernel_rfl) (by kernel_rfl) (by kernel_rfl) (by kernel_rfl) (cS trivial (cS (cS trivial (cC (cD (cS trivial trivial)) (cD trivial))) (cS (cS trivial (cD (cT wire_Reader_take_q0))) (cT wire_Reader_take_q1)))) (fun _ y k => by kernel_rfl) (fun y => by kernel_rfl) (fun x h => by kernel_rfl)
def wire_Reader_Two_r : Orcs Tb := [(49, wire_Reader_take_w)]
theorem wire_Reader_Two_rk : OrcsOk Try.prog Wp tab wire_Reader_Two_r := (orcs_cons wire_Reader_take_k orcs_nil)
def wire_Reader_Two_p : TCode Tb :=
(.seq (.reg [⟨.mv, [.k (.u16 (0 : UInt16))], some 2, none⟩] none)
(.seq (.reg [⟨.mv, [.m 0], some 6, none⟩, ⟨(.call (some 49) 0), [.m 6, .k (.n .i64 2)], some 7, none⟩, ⟨.mv, [.m 7], some 5, none⟩, ⟨.extm, [.c 5 0], some 8, none⟩, ⟨(.ext 1), [.m 5], some 9, none⟩, ⟨.mv, [.m 8], some 3, none⟩, ⟨.mv, [.m 9], some 4, none⟩] none)
(.seq (.seq (.reg [⟨.mv, [.m 4], some 10, none⟩, ⟨(.un .not), [.m 10], some 11, none⟩] none)
(.cond 11 (.drop [2, 3, 11] (.seq (.reg [⟨.mv, [.k (.u16 (0 : UInt16))], some 2, none⟩] none)
.ret))
(.drop [2, 11] .skip)))
(.seq (.reg [⟨.mv, [.v 3], some 12, none⟩, ⟨.sidx, [.m 12, .k (.n .i64 0)], some 13, none⟩, ⟨(.cint .u16), [.m 13], some 14, none⟩, ⟨(.bin .shl .i), [.m 14, .k (.u64 (8 : UInt64))], some 15, none⟩, ⟨.mv, [.v 3], some 16, none⟩, ⟨.sidx, [.m 16, .k (.n .i64 1)], some 17, none⟩, ⟨(.cint .u16), [.m 17], some 18, none⟩, ⟨(.bin .or .i), [.m 15, .m 18], some 19, none⟩, ⟨.mv, [.m 19], some 2, none⟩] (some [[], [], [], [], [], [], [], [], []]))
.ret))))
def wire_Reader_Two_w : Orc Tb := mkOrc (Y := UInt16 × wire_Reader) tab [.g (.f (.ref 0 0))] [[.g (.f (.a .s)), .g (.f (.a (.n .i64)))]] (fun x h => wire_Reader_Two (⟨h.1.1, h.1.2.1⟩ : wire_Reader)) (fun _ y k => k (.u16 y.1) [[.s y.2.b, .n .i64 y.2.err]])
theorem wire_Reader_Two_k : (wire_Reader_Two_w).Ok Try.prog Wp tab 33 := orc_ok (Y := UInt16 × wire_Reader) (orcs := wire_Reader_Two_r) (c := wire_Reader_Two_p) (res := [.tmp 2]) (n := 20) (R := (RSp.one (Y := UInt16 × wire_Reader) tab (.g (.f (.a .u16))) [[.g (.f (.a .s)), .g (.f (.a (.n .i64)))]] (fun a b => (a, (⟨b.1.1, b.1.2.1⟩ : wire_Reader))) (fun y => y.1) (fun y => ((y.2.b, y.2.err, ()), ())))) tabOk wire_Reader_Two_rk (RSp.one_ok tabOk (fun _ _ => by kernel_rfl) (fun _ _ => by kernel_rfl)) Try.func33 (by kernel_rfl) (by kernel_rfl) (by kernel_rfl) (by kernel_rfl) (cS trivial (cS trivial (cS (cS trivial (cC (cD (cS trivial trivial)) (cD trivial))) (cS trivial trivial)))) (fun _ y k => by kernel_rfl) (fun y => by kernel_rfl) (fun x h => by kernel_rfl)
def wire_Reader_Bin_r : Orcs Tb := [(33, wire_Reader_Two_w), (49, wire_Reader_take_w)]
theorem wire_Reader_Bin_rk : OrcsOk Try.prog Wp tab wire_Reader_Bin_r := (orcs_cons wire_Reader_Two_k (orcs_cons wire_Reader_take_k orcs_nil))
def wire_Reader_Bin_p : TCode Tb :=
(.seq (.reg [⟨.mv, [.k (.s [])], some 2, none⟩] none)
(.seq (.reg [⟨.mv, [.v 0], some 6, none⟩, ⟨.mv, [.m 0], some 7, none⟩, ⟨(.call (some 33) 0), [.m 7], some 8, none⟩, ⟨(.cint .i64), [.m 8], some 9, none⟩, ⟨(.call (some 49) 1), [.m 6, .m 9], some 10, none⟩, ⟨.mv, [.m 10], some 5, none⟩, ⟨.extm, [.c 5 0], some 11, none⟩, ⟨(.ext 1), [.m 5], some 12, none⟩, ⟨.mv, [.m 11], some 3, none⟩, ⟨.mv, [.m 12], some 4, none⟩] none)
(.seq (.reg [⟨.mv, [.m 3], some 13, none⟩, ⟨.mv, [.m 13], some 2, none⟩] none)
.ret)))
def wire_Reader_Bin_w : Orc Tb := mkOrc (Y := (List UInt8) × wire_Reader) tab [.g (.f (.ref 0 0))] [[.g (.f (.a .s)), .g (.f (.a (.n .i64)))]] (fun x h => wire_Reader_Bin (⟨h.1.1, h.1.2.1⟩ : wire_Reader)) (fun _ y k => k (.s y.1) [[.s y.2.b, .n .i64 y.2.err]])
theorem wire_Reader_Bin_k : (wire_Reader_Bin_w).Ok Try.prog Wp tab 27 := orc_ok (Y := (List UInt8) × wire_Reader) (orcs := wire_Reader_Bin_r) (c := wire_Reader_Bin_p) (res := [.tmp 2]) (n := 14) (R := (RSp.one (Y := (List UInt8) × wire_Reader) tab (.g (.f (.a .s))) [[.g (.f (.a .s)), .g (.f (.a (.n .i64)))]] (fun a b => (a, (⟨b.1.1, b.1.2.1⟩ : wire_Reader))) (fun y => y.1) (fun y => ((y.2.b, y.2.err, ()), ())))) tabOk wire_Reader_Bin_rk (RSp.one_ok tabOk (fun _ _ => by kernel_rfl) (fun _ _ => by kernel_rfl)) Try.func27 (by kernel_rfl) (by kernel_rfl) (by kernel_rfl) (by kernel_rfl) (cS trivial (cS trivial (cS trivial trivial))) (fun _ y k => by kernel_rfl) (fun y => by kernel_rfl) (fun x h => by kernel_rfl)
def wire_Reader_Left_r : Orcs Tb := [(22, wire_Reader_Err_w)]
theorem wire_Reader_Left_rk : OrcsOk Try.prog Wp tab wire_Reader_Left_r := (orcs_cons wire_Reader_Err_k orcs_nil)
def wire_Reader_Left_p : TCode Tb :=
(.seq (.reg [⟨.mv, [.k (.n .i64 0)], some 2, none⟩] none)
(.seq (.seq (.reg [⟨.mv, [.v 0], some 3, none⟩, ⟨(.call (some 22) 0), [.m 3], some 4, none⟩, ⟨(.bin .neq .i), [.m 4, .k (.n .i64 0)], some 5, none⟩] none)
(.cond 5 (.drop [0, 2, 5] (.seq (.reg [⟨.mv, [.k (.n .i64 0)], some 2, none⟩] none)
.ret))
(.drop [2, 5] .skip)))
(.seq (.reg [⟨.mv, [.m 0], some 6, none⟩, ⟨.nilck, [.m 6], some 7, none⟩, ⟨(.fa 0), [.m 7], some 8, none⟩, ⟨(.load none), [.m 8], some 9, none⟩, ⟨.lens, [.m 9], some 10, none⟩, ⟨.mv, [.m 10], some 2, none⟩] none)
.ret)))
def wire_Reader_Left_w : Orc Tb := mkOrc (Y := Int × wire_Reader) tab [.g (.f (.ref 0 0))] [[.g (.f (.a .s)), .g (.f (.a (.n .i64)))]] (fun x h => wire_Reader_Left (⟨h.1.1, h.1.2.1⟩ : wire_Reader)) (fun _ y k => k (.n .i64 y.1) [[.s y.2.b, .n .i64 y.2.err]])
theorem wire_Reader_Left_k : (wire_Reader_Left_w).Ok Try.prog Wp tab 35 := orc_ok (Y := Int × wire_Reader) (orcs := wire_Reader_Left_r) (c := wire_Reader_Left_p) (res := [.tmp 2]) (n := 11) (R := (RSp.one (Y := Int × wire_Reader) tab (.g (.f (.a (.n .i64)))) [[.g (.f (.a .s)), .g (.f (.a (.n .i64)))]] (fun a b => (a, (⟨b.1.1, b.1.2.1⟩ : wire_Reader))) (fun y => y.1) (fun y => ((y.2.b, y.2.err, ()), ())))) tabOk wire_Reader_Left_rk (RSp.one_ok tabOk (fun _ _ => by kernel_rfl) (fun _ _ => by kernel_rfl)) Try.func35 (by kernel_rfl) (by kernel_rfl) (by kernel_rfl) (by kernel_rfl) (cS trivial (cS (cS trivial (cC (cD (cS trivial trivial)) (cD trivial))) (cS trivial trivial))) (fun _ y k => by kernel_rfl) (fun y => by kernel_rfl) (fun x h => by kernel_rfl)
def wire_VarSize_r : Orcs Tb := [(24, wire_Var_w)]
theorem wire_VarSize_rk : OrcsOk Try.prog Wp tab wire_VarSize_r := (orcs_cons wire_Var_k orcs_nil)
def wire_VarSize_p : TCode Tb :=
(.seq (.reg [⟨.mv, [.k (.n .i64 0)], some 2, none⟩] none)
(.seq (.reg [⟨.mv, [.m 0], some 3, none⟩, ⟨(.call (some 24) 0), [.k (.nilS), .m 3], some 4, none⟩, ⟨.len, [.m 4], some 5, none⟩, ⟨.mv, [.m 5], some 2, none⟩] none)
.ret))
def wire_VarSize_w : Orc Tb := mkOrc (Y := Int) tab [.g (.f (.a .u32))] [] (fun x h => wire_VarSize x.1) (fun _ y k => k (.n .i64 y) [])
theorem wire_VarSize_k : (wire_VarSize_w).Ok Try.prog Wp tab 23 := orc_ok (Y := Int) (orcs := wire_VarSize_r) (c := wire_VarSize_p) (res := [.tmp 2]) (n := 6) (R := (RSp.one (Y := Int) tab (.g (.f (.a (.n .i64)))) [] (fun a b => a) (fun y => y) (fun y => ()))) tabOk wire_VarSize_rk (RSp.one_ok tabOk (fun _ _ => by kernel_rfl) (fun _ _ => by kernel_rfl)) Try.func23 (by kernel_rfl) (by kernel_rfl) (by kernel_rfl) (by kernel_rfl) (cS trivial (cS trivial trivial)) (fun _ y k => by kernel_rfl) (fun y => by kernel_rfl) (fun x h => by kernel_rfl)
def l01_told_r : Orcs Tb := [(24, wire_Var_w), (25, wire_Bin_w), (17, wire_Read_w), (18, wire_Reader_Var_w), (27, wire_Reader_Bin_w), (35, wire_Reader_Left_w), (22, wire_Reader_Err_w), (23, wire_VarSize_w)]
theorem l01_told_rk : OrcsOk Try.prog Wp tab l01_told_r := (orcs_cons wire_Var_k (orcs_cons wire_Bin_k (orcs_cons wire_Read_k (orcs_cons wire_Reader_Var_k (orcs_cons wire_Reader_Bin_k (orcs_cons wire_Reader_Left_k (orcs_cons wire_Reader_Err_k (orcs_cons wire_VarSize_k orcs_nil))))))))
def l01_told_p : TCode Tb :=
(.seq (.reg [⟨.mv, [.k (.b false)], some 0, none⟩] none)
(.seq (.reg [⟨(.call (some 24) 0), [.k (.nilS), .k (.u32 (321 : UInt32))], some 3, none⟩, ⟨(.call (some 25) 1), [.m 3, .k (.s [97, 98])], some 4, none⟩, ⟨.mv, [.m 4], some 1, none⟩] none)
(.seq (.reg [⟨.mv, [.v 1], some 5, none⟩, ⟨(.call (some 17) 2), [.m 5], some 6, none⟩, ⟨.mv, [.m 6], some 2, none⟩] none)
(.seq (.reg [⟨.mv, [.v 2], some 7, none⟩, ⟨(.bin .neq .p), [.m 7, .k (.nilP)], some 8, none⟩, ⟨.mv, [.m 8], some 9, none⟩, ⟨.mv, [.m 1], some 10, some (9, true)⟩, ⟨.b2s, [.m 10], some 11, some (9, true)⟩, ⟨(.bin .eql .s), [.m 11, .k (.s [193, 2, 0, 2, 97, 98])], some 12, some (9, true)⟩, ⟨.pick, [.m 9, .m 12, .k (.b false)], some 13, none⟩, ⟨.mv, [.m 13], some 14, none⟩, ⟨.mv, [.v 2], some 15, some (14, true)⟩, ⟨(.call (some 18) 3), [.m 15], some 16, some (14, true)⟩, ⟨(.bin .eql .i), [.m 16, .k (.u32 (321 : UInt32))], some 17, some (14, true)⟩, ⟨.pick, [.m 14, .m 17, .k (.b false)], some 18, none⟩, ⟨.mv, [.m 18], some 19, none⟩, ⟨.mv, [.v 2], some 20, some (19, true)⟩, ⟨(.call (some 27) 4), [.m 20], some 21, some (19, true)⟩, ⟨(.bin .eql .s), [.m 21, .k (.s [97, 98])], some 22, some (19, true)⟩, ⟨.pick, [.m 19, .m 22, .k (.b false)], some 23, none⟩, ⟨.mv, [.m 23], some 24, none⟩, ⟨.mv, [.v 2], some 25, some (24, true)⟩, ⟨(.call (some 35) 5), [.m 25], some 26, some (24, true)⟩, ⟨(.bin .eql .i), [.m 26, .k (.n .i64 0)], some 27, some (24, true)⟩, ⟨.pick, [.m 24, .m 27, .k (.b false)], some 28, none⟩, ⟨.mv, [.m 28], some 29, none⟩, ⟨.mv, [.m 2], some 30, some (29, true)⟩, ⟨(.call (some 22) 6), [.m 30], some 31, some (29, true)⟩, ⟨(.bin .eql .i), [.m 31, .k (.n .i64 0)], some 32, some (29, true)⟩, ⟨.pick, [.m 29, .m 32, .k (.b false)], some 33, none⟩, ⟨.mv, [.m 33], some 34, none⟩, ⟨(.call (some 23) 7), [.k (.u32 (321 : UInt32))], some 35, some (34, true)⟩, ⟨(.bin .eql .i), [.m 35, .k (.n .i64 2)], some 36, some (34, true)⟩, ⟨.pick, [.m 34, .m 36, .k (.b false)], some 37, none⟩, ⟨.mv, [.m 37], some 0, none⟩] none)
(.drop [1, 2, 10, 11, 15, 16, 20, 21, 25, 26, 30, 31, 35] .ret)))))
def l01_told_w : Orc Tb := mkOrc (Y := Bool) tab [] [] (fun x h => l01_told) (fun _ y k => k (.b y) [])
theorem l01_told_k : (l01_told_w).Ok Try.prog Wp tab 21 := orc_ok (Y := Bool) (orcs := l01_told_r) (c := l01_told_p) (res := [.tmp 0]) (n := 38) (R := (RSp.one (Y := Bool) tab (.g (.f (.a .b))) [] (fun a b => a) (fun y => y) (fun y => ()))) tabOk l01_told_rk (RSp.one_ok tabOk (fun _ _ => by kernel_rfl) (fun _ _ => by kernel_rfl)) Try.func21 (by kernel_rfl) (by kernel_rfl) (by kernel_rfl) (by kernel_rfl) (cS trivial (cS trivial (cS trivial (cS trivial (cD trivial))))) (fun _ y k => by kernel_rfl) (fun y => by kernel_rfl) (fun x h => by kernel_rfl)
def wire_Reader_Byte_r : Orcs Tb := [(49, wire_Reader_take_w)]
theorem wire_Reader_Byte_rk : OrcsOk Try.prog Wp tab wire_Reader_Byte_r := (orcs_cons wire_Reader_take_k orcs_nil)
def wire_Reader_Byte_p : TCode Tb :=
(.seq (.reg [⟨.mv, [.k (.u8 (0 : UInt8))], some 2, none⟩] none)
(.seq (.reg [⟨.mv, [.m 0], some 6, none⟩, ⟨(.call (some 49) 0), [.m 6, .k (.n .i64 1)], some 7, none⟩, ⟨.mv, [.m 7], some 5, none⟩, ⟨.extm, [.c 5 0], some 8, none⟩, ⟨(.ext 1), [.m 5], some 9, none⟩, ⟨.mv, [.m 8], some 3, none⟩, ⟨.mv, [.m 9], some 4, none⟩] none)
(.seq (.seq (.reg [⟨.mv, [.m 4], some 10, none⟩, ⟨(.un .not), [.m 10], some 11, none⟩] none)
(.cond 11 (.drop [2, 3, 11] (.seq (.reg [⟨.mv, [.k (.u8 (0 : UInt8))], some 2, none⟩] none)
.ret))
(.drop [2, 11] .skip)))
(.seq (.reg [⟨.mv, [.m 3], some 12, none⟩, ⟨.sidx, [.m 12, .k (.n .i64 0)], some 13, none⟩, ⟨.mv, [.m 13], some 2, none⟩] none)
.ret))))
def wire_Reader_Byte_w : Orc Tb := mkOrc (Y := UInt8 × wire_Reader) tab [.g (.f (.ref 0 0))] [[.g (.f (.a .s)), .g (.f (.a (.n .i64)))]] (fun x h => wire_Reader_Byte (⟨h.1.1, h.1.2.1⟩ : wire_Reader)) (fun _ y k => k (.u8 y.1) [[.s y.2.b, .n .i64 y.2.err]])
theorem wire_Reader_Byte_k : (wire_Reader_Byte_w).Ok Try.prog Wp tab 26 := orc_ok (Y := UInt8 × wire_Reader) (orcs := wire_Reader_Byte_r) (c := wire_Reader_Byte_p) (res := [.tmp 2]) (n := 14) (R := (RSp.one (Y := UInt8 × wire_Reader) tab (.g (.f (.a .u8))) [[.g (.f (.a .s)), .g (.f (.a (.n .i64)))]] (fun a b => (a, (⟨b.1.1, b.1.2.1⟩ : wire_Reader))) (fun y => y.1) (fun y => ((y.2.b, y.2.err, ()), ())))) tabOk wire_Reader_Byte_rk (RSp.one_ok tabOk (fun _ _ => by kernel_rfl) (fun _ _ => by kernel_rfl)) Try.func26 (by kernel_rfl) (by kernel_rfl) (by kernel_rfl) (by kernel_rfl) (cS trivial (cS trivial (cS (cS trivial (cC (cD (cS trivial trivial)) (cD trivial))) (cS trivial trivial)))) (fun _ y k => by kernel_rfl) (fun y => by kernel_rfl) (fun x h => by kernel_rfl)
def l01_WireGreat_r : Orcs Tb := [(25, wire_Bin_w), (21, l01_told_w), (17, wire_Read_w), (26, wire_Reader_Byte_w), (27, wire_Reader_Bin_w)]
theorem l01_WireGreat_rk : OrcsOk Try.prog Wp tab l01_WireGreat_r := (orcs_cons wire_Bin_k (orcs_cons l01_told_k (orcs_cons wire_Read_k (orcs_cons wire_Reader_Byte_k (orcs_cons wire_Reader_Bin_k orcs_nil)))))
def l01_WireGreat_p0 : TCode Tb :=
(.seq (.seq (.reg [⟨.mv, [.v 7], some 16, none⟩, ⟨.mv, [.v 5], some 17, none⟩, ⟨(.bin .lss .i), [.m 16, .m 17], some 18, none⟩] none)
(.cond 18 (.drop [18] .skip)
(.drop [1, 7, 18] (.exit 0))))
(.seq (.block 1 (.reg [⟨.mv, [.v 6], some 21, none⟩, ⟨.mv, [.v 7], some 22, none⟩, ⟨.mv, [.v 1], some 23, none⟩, ⟨(.ia 1), [.v 21, .m 22], some 24, none⟩, ⟨(.store 1), [.m 24, .m 23], none, none⟩] none))
(.drop [21] (.reg [⟨.mv, [.m 7], some 19, none⟩, ⟨(.bin .add .i), [.m 19, .k (.n .i64 97)], some 20, none⟩, ⟨.mv, [.m 20], some 7, none⟩] none))))
def l01_WireGreat_s0 : SSh := ⟨[(1, .g (.f (.a .u8))), (5, .g (.f (.a (.n .i64)))), (6, .g (.f (.vw 0 0))), (7, .g (.f (.a (.n .i64))))], [[.g (.f (.blk 0))]]⟩
def l01_WireGreat_o0 : Cut Tb := cutL tab 0 l01_WireGreat_s0 (fun x => (x.1.2.2.2.1, x.2.1.1)) (fun x => l01_WireGreat_l0 x.1.1 x.1.2.1 x.1.2.2.1) (fun _ x y k => k (.exit 0) ⟨[(5, .n .i64 x.1.2.1), (6, .vw 0 0 x.1.2.2.1)], [[.blk 0 y]]⟩)
theorem l01_WireGreat_q0 : (l01_WireGreat_o0).Ok Try.prog Wp tab 0 (.loop l01_WireGreat_p0) := cutL_ok (c := l01_WireGreat_p0) (Z := Int × (List UInt8)) (Y := (List UInt8)) tabOk l01_WireGreat_rk (cS (cS trivial (cC (cD trivial) (cD trivial))) (cS (cB trivial) (cD trivial))) (fun _ x z b e => l01_WireGreat_b0 x.1.1 x.1.2.1 x.1.2.2.1 z.1 z.2 (fun x6 x7 => b (x6, x7)) (fun y10 => e y10)) (fun x z => ⟨[(1, .u8 x.1.1), (5, .n .i64 x.1.2.1), (6, .vw 0 0 x.1.2.2.1), (7, .n .i64 z.1)], [[.blk 0 z.2]]⟩) (fun x y => ((.exit 0), ⟨[(5, .n .i64 x.1.2.1), (6, .vw 0 0 x.1.2.2.1)], [[.blk 0 y]]⟩)) (fun t => (prjS tab 0 l01_WireGreat_s0 t).bind fun x => some (x.1.2.2.2.1, x.2.1.1)) (fun e t => (if eqE e (.exit 0) then (prjS tab 0 ⟨[(5, .g (.f (.a (.n .i64)))), (6, .g (.f (.vw 0 0)))], [[.g (.f (.blk 0))]]⟩ t).bind fun v => some v.2.1.1 else none)) (fun x => by kernel_rfl) (fun x z => by kernel_rfl) (fun x y k => by kernel_rfl) (fun x y => by exact nofun) (fun x z => by kernel_rfl) (fun x y => by kernel_rfl) (fun x z k => by kernel_rfl)
def l01_WireGreat_p : TCode Tb :=
(.seq (.reg [⟨.mv, [.k (.b false)], some 4, none⟩] none)
(.seq (.reg [⟨.mv, [.m 0], some 10, none⟩, ⟨(.cint .u64), [.m 10], some 11, none⟩, ⟨(.bin .rem .i), [.m 11, .k (.u64 (70000 : UInt64))], some 12, none⟩, ⟨(.cint .i64), [.m 12], some 13, none⟩, ⟨.mv, [.m 13], some 5, none⟩] none)
(.seq (.reg [⟨.mv, [.v 5], some 14, none⟩, ⟨(.mksl 0 1 (0 : UInt8)), [.v 14, .m 14], some 15, none⟩, ⟨.mv, [.m 15], some 6, none⟩] none)
(.seq (.seq (.reg [⟨.mv, [.k (.n .i64 0)], some 7, none⟩] none)
(.block 0 (.drop [4] (.cut 0 l01_WireGreat_o0 (.loop l01_WireGreat_p0)))))
(.seq (.frz [6] none (.reg [⟨(.b8 1 [0]), [.k (.u8 (7 : UInt8))], some 25, none⟩, ⟨.mv, [.v 6], some 26, none⟩, ⟨.b2s, [.m 26], some 27, none⟩, ⟨(.call (some 25) 0), [.m 25, .m 27], some 28, none⟩, ⟨.mv, [.m 28], some 8, none⟩] none))
(.seq (.seq (.reg [⟨.mv, [.v 5], some 29, none⟩, ⟨(.bin .gtr .i), [.m 29, .k (.n .i64 65535)], some 30, none⟩] none)
(.cond 30 (.drop [5, 6, 30] (.seq (.reg [⟨(.call (some 21) 1), [], some 31, none⟩, ⟨.mv, [.m 31], some 32, none⟩, ⟨.mv, [.m 8], some 33, some (32, true)⟩, ⟨.len, [.m 33], some 34, some (32, true)⟩, ⟨(.bin .eql .i), [.m 34, .k (.n .i64 1)], some 35, some (32, true)⟩, ⟨.pick, [.m 32, .m 35, .k (.b false)], some 36, none⟩, ⟨.mv, [.m 36], some 4, none⟩] none)
(.drop [8, 33, 34] .ret)))
(.drop [30] .skip)))
(.seq (.reg [⟨.mv, [.v 8], some 37, none⟩, ⟨(.call (some 17) 2), [.m 37], some 38, none⟩, ⟨.mv, [.m 38], some 9, none⟩] none)
(.seq (.reg [⟨(.call (some 21) 1), [], some 39, none⟩, ⟨.mv, [.m 39], some 40, none⟩, ⟨.mv, [.m 8], some 41, some (40, true)⟩, ⟨.len, [.m 41], some 42, some (40, true)⟩, ⟨.mv, [.m 5], some 43, some (40, true)⟩, ⟨(.bin .add .i), [.m 43, .k (.n .i64 3)], some 44, some (40, true)⟩, ⟨(.bin .eql .i), [.m 42, .m 44], some 45, some (40, true)⟩, ⟨.pick, [.m 40, .m 45, .k (.b false)], some 46, none⟩, ⟨.mv, [.m 46], some 47, none⟩, ⟨.mv, [.v 9], some 48, some (47, true)⟩, ⟨(.call (some 26) 3), [.m 48], some 49, some (47, true)⟩, ⟨(.bin .eql .i), [.m 49, .k (.u8 (7 : UInt8))], some 50, some (47, true)⟩, ⟨.pick, [.m 47, .m 50, .k (.b false)], some 51, none⟩, ⟨.mv, [.m 51], some 52, none⟩, ⟨.mv, [.m 9], some 53, some (52, true)⟩, ⟨(.call (some 27) 4), [.m 53], some 54, some (52, true)⟩, ⟨.mv, [.m 6], some 55, some (52, true)⟩, ⟨.b2s, [.m 55], some 56, some (52, true)⟩, ⟨(.bin .eql .s), [.m 54, .m 56], some 57, some (52, true)⟩, ⟨.pick, [.m 52, .m 57, .k (.b false)], some 58, none⟩, ⟨.mv, [.m 58], some 4, none⟩] (some [[], [], [], [], [], [], [], [], [], [], [], [], [], [], [], [], [], [], [], [], []]))
(.drop [5, 6, 8, 9, 41, 42, 43, 44, 48, 49, 53, 54, 55, 56] .ret)))))))))
def l01_WireGreat_w : Orc Tb := mkOrc (Y := Bool) tab [.g (.f (.a (.n .i64))), .g (.f (.a .u8))] [] (fun x h => l01_WireGreat x.1 x.2.1) (fun _ y k => k (.b y) [])
theorem l01_WireGreat_k : (l01_WireGreat_w).Ok Try.prog Wp tab 6 := orc_ok (Y := Bool) (orcs := l01_WireGreat_r) (c := l01_WireGreat_p) (res := [.tmp 4]) (n := 59) (R := (RSp.one (Y := Bool) tab (.g (.f (.a .b))) [] (fun a b => a) (fun y => y) (fun y => ()))) tabOk l01_WireGreat_rk (RSp.one_ok tabOk (fun _ _ => by kernel_rfl) (fun _ _ => by kernel_rfl)) Try.func6 (by kernel_rfl) (by kernel_rfl) (by kernel_rfl) (by kernel_rfl) (cS trivial (cS trivial (cS trivial (cS (cS trivial (cB (cD (cT l01_WireGreat_q0)))) (cS (cZ trivial) (cS (cS trivial (cC (cD (cS trivial (cD trivial))) (cD trivial))) (cS trivial (cS trivial (cD trivial))))))))) (fun _ y k => by kernel_rfl) (fun y => by kernel_rfl) (fun x h => by kernel_rfl)
end Go.Rv
