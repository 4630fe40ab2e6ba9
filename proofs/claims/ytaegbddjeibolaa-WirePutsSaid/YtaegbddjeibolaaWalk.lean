/- That the program's functions are these plain functions. -/
import Derived.Test.YtaegbddjeibolaaPure
import Derived.Test.YtaegbddjeibolaaChecked
set_option linter.unusedSimpArgs false
set_option linter.unusedVariables false
set_option maxRecDepth 100000
namespace Go.Rv
open Go.Proofs
variable {Wp : World → Prop}
def wire_Read_r : Orcs Tb := []
theorem wire_Read_rk : OrcsOk Try.prog Wp tab wire_Read_r := orcs_nil
def wire_Read_p : TCode Tb :=
(.seq (.reg [⟨.mv, [.k (.nilP)], some 2, none⟩] none)
(.seq (.reg [⟨.mv, [.m 0], some 3, none⟩, ⟨.b2s, [.m 3], some 4, none⟩, ⟨(.build [.s [], .n .i64 0] [(0, 1)]), [.m 4], some 5, none⟩, ⟨.box, [.m 5], some 6, none⟩, ⟨.mv, [.m 6], some 2, none⟩] none)
.ret))
def wire_Read_w : Orc Tb := mkOrc (Y := wire_Reader) tab [.g (.f (.a .bs))] [] (fun x h => wire_Read x.1) (fun _ y k => k (.ref 0 0) [[.s y.b, .n .i64 y.err]])
theorem wire_Read_k : (wire_Read_w).Ok Try.prog Wp tab 17 := orc_ok (Y := wire_Reader) (orcs := wire_Read_r) (c := wire_Read_p) (res := [.tmp 2]) (n := 7) (R := (RSp.one (Y := wire_Reader) tab (.g (.f (.ref 0 0))) [[.g (.f (.a .s)), .g (.f (.a (.n .i64)))]] (fun a b => (⟨b.1.1, b.1.2.1⟩ : wire_Reader)) (fun y => ()) (fun y => ((y.b, y.err, ()), ())))) tabOk wire_Read_rk (RSp.one_ok tabOk (fun _ _ => by kernel_rfl) (fun _ _ => by kernel_rfl)) Try.func17 (by kernel_rfl) (by kernel_rfl) (by kernel_rfl) (by kernel_rfl) (cS trivial (cS trivial trivial)) (fun _ y k => by kernel_rfl) (fun y => by kernel_rfl) (fun x h => by kernel_rfl)
def wire_Reader_Err_r : Orcs Tb := []
theorem wire_Reader_Err_rk : OrcsOk Try.prog Wp tab wire_Reader_Err_r := orcs_nil
def wire_Reader_Err_p : TCode Tb :=
(.seq (.reg [⟨.mv, [.k (.n .i64 0)], some 2, none⟩] none)
(.seq (.seq (.reg [⟨.mv, [.v 0], some 3, none⟩, ⟨(.bin .eql .p), [.m 3, .k (.nilP)], some 4, none⟩] none)
(.cond 4 (.drop [0, 2, 4] (.seq (.reg [⟨.mv, [.k (.n .i64 1)], some 2, none⟩] none)
.ret))
(.drop [2, 4] .skip)))
(.seq (.reg [⟨.mv, [.m 0], some 5, none⟩, ⟨.nilck, [.m 5], some 6, none⟩, ⟨(.fa 1), [.m 6], some 7, none⟩, ⟨(.load none), [.m 7], some 8, none⟩, ⟨.mv, [.m 8], some 2, none⟩] none)
.ret)))
def wire_Reader_Err_w : Orc Tb := mkOrc (Y := Int × wire_Reader) tab [.g (.f (.ref 0 0))] [[.g (.f (.a .s)), .g (.f (.a (.n .i64)))]] (fun x h => wire_Reader_Err (⟨h.1.1, h.1.2.1⟩ : wire_Reader)) (fun _ y k => k (.n .i64 y.1) [[.s y.2.b, .n .i64 y.2.err]])
theorem wire_Reader_Err_k : (wire_Reader_Err_w).Ok Try.prog Wp tab 22 := orc_ok (Y := Int × wire_Reader) (orcs := wire_Reader_Err_r) (c := wire_Reader_Err_p) (res := [.tmp 2]) (n := 9) (R := (RSp.one (Y := Int × wire_Reader) tab (.g (.f (.a (.n .i64)))) [[.g (.f (.a .s)), .g (.f (.a (.n .i64)))]] (fun a b => (a, (⟨b.1.1, b.1.2.1⟩ : wire_Reader))) (fun y => y.1) (fun y => ((y.2.b, y.2.err, ()), ())))) tabOk wire_Reader_Err_rk (RSp.one_ok tabOk (fun _ _ => by kernel_rfl) (fun _ _ => by kernel_rfl)) Try.func22 (by kernel_rfl) (by kernel_rfl) (by kernel_rfl) (by kernel_rfl) (cS trivial (cS (cS trivial (cC (cD (cS trivial trivial)) (cD trivial))) (cS trivial trivial))) (fun _ y k => by kernel_rfl) (fun y => by kernel_rfl) (fun x h => by kernel_rfl)
def wire_digits_r : Orcs Tb := []
theorem wire_digits_rk : OrcsOk Try.prog Wp tab wire_digits_r := orcs_nil
def wire_digits_p0 : TCode Tb :=
(.seq (.reg [⟨(.bin .lss .i), [.v 7, .k (.n .i64 4)], some 8, none⟩] none)
(.seq (.cond 8 (.drop [8] .skip)
(.drop [0, 2, 7, 8] (.exit 0)))
(.seq (.block 1 (.seq (.reg [⟨.mv, [.v 7], some 9, none⟩, ⟨.mv, [.m 9], some 5, none⟩] none)
(.seq (.seq (.reg [⟨.mv, [.v 5], some 10, none⟩, ⟨.mv, [.v 0], some 11, none⟩, ⟨.lens, [.m 11], some 12, none⟩, ⟨(.bin .geq .i), [.m 10, .m 12], some 13, none⟩] none)
(.cond 13 (.drop [0, 2, 5, 7, 13] (.seq (.reg [⟨.mv, [.k (.u32 (0 : UInt32))], some 2, none⟩, ⟨.mv, [.k (.n .i64 0)], some 3, none⟩, ⟨.mv, [.k (.n .i64 2)], some 4, none⟩] none)
.ret))
(.drop [13] .skip)))
(.seq (.reg [⟨.mv, [.v 0], some 14, none⟩, ⟨.mv, [.v 5], some 15, none⟩, ⟨.sidx, [.m 14, .m 15], some 16, none⟩, ⟨.mv, [.m 16], some 6, none⟩] none)
(.seq (.reg [⟨.mv, [.m 2], some 17, none⟩, ⟨.mv, [.v 6], some 18, none⟩, ⟨(.bin .andNot .i), [.m 18, .k (.u8 (128 : UInt8))], some 19, none⟩, ⟨(.cint .u32), [.m 19], some 20, none⟩, ⟨.mv, [.v 5], some 21, none⟩, ⟨(.bin .mul .i), [.k (.n .i64 7), .m 21], some 22, none⟩, ⟨(.bin .shl .i), [.m 20, .m 22], some 23, none⟩, ⟨(.bin .or .i), [.m 17, .m 23], some 24, none⟩, ⟨.mv, [.m 24], some 2, none⟩] none)
(.seq (.block 2 (.seq (.reg [⟨.mv, [.v 6], some 26, none⟩, ⟨(.bin .geq .i), [.m 26, .k (.u8 (128 : UInt8))], some 27, none⟩, ⟨.mv, [.m 27], some 25, none⟩] none)
(.cond 25 (.drop [5, 6, 25] (.exit 1))
(.drop [0, 7, 25] (.seq (.reg [⟨.mv, [.m 6], some 29, none⟩, ⟨(.bin .eql .i), [.m 29, .k (.u8 (0 : UInt8))], some 30, none⟩, ⟨.mv, [.m 30], some 31, none⟩, ⟨.mv, [.v 5], some 32, some (31, true)⟩, ⟨(.bin .gtr .i), [.m 32, .k (.n .i64 0)], some 33, some (31, true)⟩, ⟨.pick, [.m 31, .m 33, .k (.b false)], some 34, none⟩, ⟨.mv, [.m 34], some 28, none⟩] none)
(.drop [32] (.cond 28 (.drop [2, 5, 28] (.seq (.reg [⟨.mv, [.k (.u32 (0 : UInt32))], some 2, none⟩, ⟨.mv, [.k (.n .i64 0)], some 3, none⟩, ⟨.mv, [.k (.n .i64 3)], some 4, none⟩] none)
.ret))
(.drop [28] .skip))))))))
(.seq (.reg [⟨.mv, [.m 2], some 35, none⟩, ⟨.mv, [.m 5], some 36, none⟩, ⟨(.bin .add .i), [.m 36, .k (.n .i64 1)], some 37, none⟩, ⟨.mv, [.m 35], some 2, none⟩, ⟨.mv, [.m 37], some 3, none⟩, ⟨.mv, [.k (.n .i64 0)], some 4, none⟩] none)
.ret)))))))
(.reg [⟨(.bin .add .i), [.m 7, .k (.n .i64 1)], some 38, none⟩, ⟨.mv, [.m 38], some 7, none⟩] none))))
def wire_digits_s0 : SSh := ⟨[(0, .g (.f (.a .s))), (2, .g (.f (.a .u32))), (7, .g (.f (.a (.n .i64))))], []⟩
def wire_digits_o0 : Cut Tb := cutL tab 0 wire_digits_s0 (fun x => (x.1.2.1, x.1.2.2.1)) (fun x => wire_digits_l0 x.1.1) (fun _ x y k => match y with | .inl y => k .ret ⟨[(2, .u32 y.1), (3, .n .i64 y.2.1), (4, .n .i64 y.2.2)], []⟩ | .inr y => k (.exit 0) ⟨[], []⟩)
theorem wire_digits_q0 : (wire_digits_o0).Ok Try.prog Wp tab 0 (.loop wire_digits_p0) := cutL_ok (c := wire_digits_p0) (Z := UInt32 × Int) (Y := (UInt32 × Int × Int) ⊕ Unit) tabOk wire_digits_rk (cS trivial (cS (cC (cD trivial) (cD trivial)) (cS (cB (cS trivial (cS (cS trivial (cC (cD (cS trivial trivial)) (cD trivial))) (cS trivial (cS trivial (cS (cB (cS trivial (cC (cD trivial) (cD (cS trivial (cD (cC (cD (cS trivial trivial)) (cD trivial)))))))) (cS trivial trivial))))))) trivial))) (fun _ x z b e => wire_digits_b0 x.1.1 z.1 z.2 (fun x3 x4 => b (x3, x4)) (fun y6 y7 y8 => e (.inl (y6, y7, y8))) (e (.inr ()))) (fun x z => ⟨[(0, .s x.1.1), (2, .u32 z.1), (7, .n .i64 z.2)], []⟩) (fun x y => match y with | .inl y => (.ret, ⟨[(2, .u32 y.1), (3, .n .i64 y.2.1), (4, .n .i64 y.2.2)], []⟩) | .inr y => ((.exit 0), ⟨[], []⟩)) (fun t => (prjS tab 0 wire_digits_s0 t).bind fun x => some (x.1.2.1, x.1.2.2.1)) (fun e t => (if eqE e .ret then orElse ((prjS tab 0 ⟨[(2, .g (.f (.a .u32))), (3, .g (.f (.a (.n .i64)))), (4, .g (.f (.a (.n .i64))))], []⟩ t).bind fun v => some (.inl (v.1.1, v.1.2.1, v.1.2.2.1))) (if eqE e (.exit 0) then (prjS tab 0 ⟨[], []⟩ t).bind fun v => some (.inr ()) else none) else (if eqE e (.exit 0) then (prjS tab 0 ⟨[], []⟩ t).bind fun v => some (.inr ()) else none))) (fun x => by kernel_rfl) (fun x z => by kernel_rfl) (fun x y k => by rcases y with y | y <;> kernel_rfl) (fun x y => by rcases y with y | y <;> exact nofun) (fun x z => by kernel_rfl) (fun x y => by rcases y with y | y <;> kernel_rfl) (fun x z k => by kernel_rfl)
def wire_digits_p : TCode Tb :=
(.seq (.reg [⟨.mv, [.k (.u32 (0 : UInt32))], some 2, none⟩, ⟨.mv, [.k (.n .i64 0)], some 3, none⟩, ⟨.mv, [.k (.n .i64 0)], some 4, none⟩] none)
(.seq (.seq (.reg [⟨.mv, [.k (.n .i64 0)], some 7, none⟩] none)
(.block 0 (.drop [3, 4] (.cut 0 wire_digits_o0 (.loop wire_digits_p0)))))
(.seq (.reg [⟨.mv, [.k (.u32 (0 : UInt32))], some 2, none⟩, ⟨.mv, [.k (.n .i64 0)], some 3, none⟩, ⟨.mv, [.k (.n .i64 3)], some 4, none⟩] none)
.ret)))
def wire_digits_w : Orc Tb := mkOrc (Y := UInt32 × Int × Int) tab [.g (.f (.a .s))] [] (fun x h => wire_digits x.1) (fun _ y k => k (.tup [.u32 y.1, .n .i64 y.2.1, .n .i64 y.2.2]) [])
theorem wire_digits_k : (wire_digits_w).Ok Try.prog Wp tab 47 := orc_ok (Y := UInt32 × Int × Int) (orcs := wire_digits_r) (c := wire_digits_p) (res := [.tmp 2, .tmp 3, .tmp 4]) (n := 39) (R := (RSp.one (Y := UInt32 × Int × Int) tab (.tup [.f (.a .u32), .f (.a (.n .i64)), .f (.a (.n .i64))]) [] (fun a b => (a.1, a.2.1, a.2.2.1)) (fun y => (y.1, y.2.1, y.2.2, ())) (fun y => ()))) tabOk wire_digits_rk (RSp.one_ok tabOk (fun _ _ => by kernel_rfl) (fun _ _ => by kernel_rfl)) Try.func47 (by kernel_rfl) (by kernel_rfl) (by kernel_rfl) (by kernel_rfl) (cS trivial (cS (cS trivial (cB (cD (cT wire_digits_q0)))) (cS trivial trivial))) (fun _ y k => by kernel_rfl) (fun y => by kernel_rfl) (fun x h => by kernel_rfl)
def wire_Reader_Var_r : Orcs Tb := [(22, wire_Reader_Err_w), (47, wire_digits_w)]
theorem wire_Reader_Var_rk : OrcsOk Try.prog Wp tab wire_Reader_Var_r := (orcs_cons wire_Reader_Err_k (orcs_cons wire_digits_k orcs_nil))
def wire_Reader_Var_p : TCode Tb :=
(.seq (.reg [⟨.mv, [.k (.u32 (0 : UInt32))], some 2, none⟩] none)
(.seq (.seq (.reg [⟨.mv, [.v 0], some 6, none⟩, ⟨(.call (some 22) 0), [.m 6], some 7, none⟩, ⟨(.bin .neq .i), [.m 7, .k (.n .i64 0)], some 8, none⟩] none)
(.cond 8 (.drop [0, 2, 8] (.seq (.reg [⟨.mv, [.k (.u32 (0 : UInt32))], some 2, none⟩] none)
.ret))
(.drop [2, 8] .skip)))
(.seq (.reg [⟨.mv, [.v 0], some 10, none⟩, ⟨.nilck, [.m 10], some 11, none⟩, ⟨(.fa 0), [.m 11], some 12, none⟩, ⟨(.load none), [.m 12], some 13, none⟩, ⟨(.call (some 47) 1), [.m 13], some 14, none⟩, ⟨.mv, [.m 14], some 9, none⟩, ⟨.extm, [.c 9 0], some 15, none⟩, ⟨.extm, [.c 9 1], some 16, none⟩, ⟨(.ext 2), [.m 9], some 17, none⟩, ⟨.mv, [.m 15], some 3, none⟩, ⟨.mv, [.m 16], some 4, none⟩, ⟨.mv, [.m 17], some 5, none⟩] none)
(.seq (.reg [⟨.mv, [.v 0], some 18, none⟩, ⟨.mv, [.m 5], some 19, none⟩, ⟨.nilck, [.m 18], some 20, none⟩, ⟨(.fa 1), [.m 20], some 21, none⟩, ⟨(.store 1), [.m 21, .m 19], none, none⟩] none)
(.seq (.reg [⟨.mv, [.v 0], some 22, none⟩, ⟨.mv, [.m 0], some 23, none⟩, ⟨.nilck, [.m 23], some 24, none⟩, ⟨(.fa 0), [.m 24], some 25, none⟩, ⟨(.load none), [.m 25], some 26, none⟩, ⟨.mv, [.m 4], some 27, none⟩, ⟨(.sstr true false), [.m 26, .m 27], some 28, none⟩, ⟨.nilck, [.m 22], some 29, none⟩, ⟨(.fa 0), [.m 29], some 30, none⟩, ⟨(.store 1), [.m 30, .m 28], none, none⟩] none)
(.seq (.reg [⟨.mv, [.m 3], some 31, none⟩, ⟨.mv, [.m 31], some 2, none⟩] none)
.ret))))))
def wire_Reader_Var_w : Orc Tb := mkOrc (Y := UInt32 × wire_Reader) tab [.g (.f (.ref 0 0))] [[.g (.f (.a .s)), .g (.f (.a (.n .i64)))]] (fun x h => wire_Reader_Var (⟨h.1.1, h.1.2.1⟩ : wire_Reader)) (fun _ y k => k (.u32 y.1) [[.s y.2.b, .n .i64 y.2.err]])
theorem wire_Reader_Var_k : (wire_Reader_Var_w).Ok Try.prog Wp tab 18 := orc_ok (Y := UInt32 × wire_Reader) (orcs := wire_Reader_Var_r) (c := wire_Reader_Var_p) (res := [.tmp 2]) (n := 32) (R := (RSp.one (Y := UInt32 × wire_Reader) tab (.g (.f (.a .u32))) [[.g (.f (.a .s)), .g (.f (.a (.n .i64)))]] (fun a b => (a, (⟨b.1.1, b.1.2.1⟩ : wire_Reader))) (fun y => y.1) (fun y => ((y.2.b, y.2.err, ()), ())))) tabOk wire_Reader_Var_rk (RSp.one_ok tabOk (fun _ _ => by kernel_rfl) (fun _ _ => by kernel_rfl)) Try.func18 (by kernel_rfl) (by kernel_rfl) (by kernel_rfl) (by kernel_rfl) (cS trivial (cS (cS trivial (cC (cD (cS trivial trivial)) (cD trivial))) (cS trivial (cS trivial (cS trivial (cS trivial trivial)))))) (fun _ y k => by kernel_rfl) (fun y => by kernel_rfl) (fun x h => by kernel_rfl)
def r01_Var_r : Orcs Tb := []
theorem r01_Var_rk : OrcsOk Try.prog Wp tab r01_Var_r := orcs_nil
def r01_Var_p0 : TCode Tb :=
(.seq (.seq (.reg [⟨.mv, [.v 1], some 12, none⟩, ⟨(.bin .geq .i), [.m 12, .k (.u32 (128 : UInt32))], some 13, none⟩] none)
(.cond 13 (.drop [13] .skip)
(.drop [13] (.exit 0))))
(.block 1 (.seq (.reg [⟨.mv, [.m 5], some 14, none⟩, ⟨.mv, [.v 1], some 15, none⟩, ⟨(.bin .rem .i), [.m 15, .k (.u32 (128 : UInt32))], some 16, none⟩, ⟨(.bin .add .i), [.m 16, .k (.u32 (128 : UInt32))], some 17, none⟩, ⟨(.cint .u8), [.m 17], some 18, none⟩, ⟨(.b8 1 [0]), [.m 18], some 19, none⟩, ⟨(.app 1 1), [.m 14, .m 19], some 20, none⟩, ⟨.mv, [.m 20], some 5, none⟩] none)
(.reg [⟨.mv, [.m 1], some 21, none⟩, ⟨(.bin .quo .i), [.m 21, .k (.u32 (128 : UInt32))], some 22, none⟩, ⟨.mv, [.m 22], some 1, none⟩] none))))
def r01_Var_s0 : SSh := ⟨[(1, .g (.f (.a .u32))), (5, .g (.f (.bo)))], []⟩
def r01_Var_o0 : Cut Tb := cutL tab 0 r01_Var_s0 (fun x => (x.1.1, x.1.2.1)) (fun x => r01_Var_l0) (fun _ x y k => k (.exit 0) ⟨[(1, .u32 y.1), (5, .bo y.2)], []⟩)
theorem r01_Var_q0 : (r01_Var_o0).Ok Try.prog Wp tab 0 (.loop r01_Var_p0) := cutL_ok (c := r01_Var_p0) (Z := UInt32 × (Option (List UInt8))) (Y := UInt32 × (Option (List UInt8))) tabOk r01_Var_rk (cS (cS trivial (cC (cD trivial) (cD trivial))) (cB (cS trivial trivial))) (fun _ x z b e => r01_Var_b0 z.1 z.2 (fun x4 x5 => b (x4, x5)) (fun y7 y8 => e (y7, y8))) (fun x z => ⟨[(1, .u32 z.1), (5, .bo z.2)], []⟩) (fun x y => ((.exit 0), ⟨[(1, .u32 y.1), (5, .bo y.2)], []⟩)) (fun t => (prjS tab 0 r01_Var_s0 t).bind fun x => some (x.1.1, x.1.2.1)) (fun e t => (if eqE e (.exit 0) then (prjS tab 0 ⟨[(1, .g (.f (.a .u32))), (5, .g (.f (.bo)))], []⟩ t).bind fun v => some (v.1.1, v.1.2.1) else none)) (fun x => by kernel_rfl) (fun x z => by kernel_rfl) (fun x y k => by kernel_rfl) (fun x y => by exact nofun) (fun x z => by kernel_rfl) (fun x y => by kernel_rfl) (fun x z k => by kernel_rfl)
def r01_Var_p : TCode Tb :=
(.seq (.reg [⟨.mv, [.k (.nilS)], some 4, none⟩] none)
(.seq (.reg [⟨(.b8 0 []), [], some 6, none⟩, ⟨.mv, [.m 0], some 7, none⟩, ⟨(.app 1 1), [.m 6, .m 7], some 8, none⟩, ⟨.mv, [.m 8], some 5, none⟩] none)
(.seq (.seq (.reg [⟨.mv, [.v 1], some 9, none⟩, ⟨(.bin .gtr .i), [.m 9, .k (.u32 (268435455 : UInt32))], some 10, none⟩] none)
(.cond 10 (.drop [1, 4, 10] (.seq (.reg [⟨.mv, [.m 5], some 11, none⟩, ⟨.mv, [.m 11], some 4, none⟩] none)
.ret))
(.drop [4, 10] .skip)))
(.seq (.block 0 (.cut 0 r01_Var_o0 (.loop r01_Var_p0)))
(.seq (.reg [⟨.mv, [.m 5], some 23, none⟩, ⟨.mv, [.m 1], some 24, none⟩, ⟨(.cint .u8), [.m 24], some 25, none⟩, ⟨(.b8 1 [0]), [.m 25], some 26, none⟩, ⟨(.app 1 1), [.m 23, .m 26], some 27, none⟩, ⟨.mv, [.m 27], some 4, none⟩] none)
.ret)))))
def r01_Var_w : Orc Tb := mkOrc (Y := (Option (List UInt8))) tab [.g (.f (.a .bs)), .g (.f (.a .u32))] [] (fun x h => r01_Var x.1 x.2.1) (fun _ y k => k (.bo y) [])
theorem r01_Var_k : (r01_Var_w).Ok Try.prog Wp tab 20 := orc_ok (Y := (Option (List UInt8))) (orcs := r01_Var_r) (c := r01_Var_p) (res := [.tmp 4]) (n := 28) (R := (RSp.one (Y := (Option (List UInt8))) tab (.g (.f (.bo))) [] (fun a b => a) (fun y => y) (fun y => ()))) tabOk r01_Var_rk (RSp.one_ok tabOk (fun _ _ => by kernel_rfl) (fun _ _ => by kernel_rfl)) Try.func20 (by kernel_rfl) (by kernel_rfl) (by kernel_rfl) (by kernel_rfl) (cS trivial (cS trivial (cS (cS trivial (cC (cD (cS trivial trivial)) (cD trivial))) (cS (cB (cT r01_Var_q0)) (cS trivial trivial))))) (fun _ y k => by kernel_rfl) (fun y => by kernel_rfl) (fun x h => by kernel_rfl)
def slices_Clone_s_byte_byte_r : Orcs Tb := []
theorem slices_Clone_s_byte_byte_rk : OrcsOk Try.prog Wp tab slices_Clone_s_byte_byte_r := orcs_nil
def slices_Clone_s_byte_byte_p : TCode Tb :=
(.seq (.reg [⟨.mv, [.k (.nilS)], some 2, none⟩] none)
(.seq (.seq (.reg [⟨.mv, [.v 0], some 3, none⟩, ⟨(.bin .eql .sl), [.v 3, .k (.nilS)], some 4, none⟩] none)
(.cond 4 (.drop [0, 2, 3, 4] (.seq (.reg [⟨.mv, [.k (.nilS)], some 2, none⟩] none)
.ret))
(.drop [2, 3, 4] .skip)))
(.seq (.reg [⟨(.b8 0 []), [], some 5, none⟩, ⟨.mv, [.m 0], some 6, none⟩, ⟨(.app 1 1), [.m 5, .m 6], some 7, none⟩, ⟨.mv, [.m 7], some 2, none⟩] none)
.ret)))
def slices_Clone_s_byte_byte_w : Orc Tb := mkOrc (Y := (Option (List UInt8))) tab [.g (.f (.a .bs))] [] (fun x h => slices_Clone_s_byte_byte x.1) (fun _ y k => k (.bo y) [])
theorem slices_Clone_s_byte_byte_k : (slices_Clone_s_byte_byte_w).Ok Try.prog Wp tab 48 := orc_ok (Y := (Option (List UInt8))) (orcs := slices_Clone_s_byte_byte_r) (c := slices_Clone_s_byte_byte_p) (res := [.tmp 2]) (n := 8) (R := (RSp.one (Y := (Option (List UInt8))) tab (.g (.f (.bo))) [] (fun a b => a) (fun y => y) (fun y => ()))) tabOk slices_Clone_s_byte_byte_rk (RSp.one_ok tabOk (fun _ _ => by kernel_rfl) (fun _ _ => by kernel_rfl)) Try.func48 (by kernel_rfl) (by kernel_rfl) (by kernel_rfl) (by kernel_rfl) (cS trivial (cS (cS trivial (cC (cD (cS trivial trivial)) (cD trivial))) (cS trivial trivial))) (fun _ y k => by kernel_rfl) (fun y => by kernel_rfl) (fun x h => by kernel_rfl)
def wire_Var_r : Orcs Tb := [(48, slices_Clone_s_byte_byte_w)]
theorem wire_Var_rk : OrcsOk Try.prog Wp tab wire_Var_r := (orcs_cons slices_Clone_s_byte_byte_k orcs_nil)
def wire_Var_p0 : TCode Tb :=
(.seq (.seq (.reg [⟨.mv, [.v 1], some 11, none⟩, ⟨(.bin .geq .i), [.m 11, .k (.u32 (128 : UInt32))], some 12, none⟩] none)
(.cond 12 (.drop [12] .skip)
(.drop [12] (.exit 0))))
(.seq (.block 1 (.reg [⟨.mv, [.m 5], some 15, none⟩, ⟨.mv, [.v 1], some 16, none⟩, ⟨(.cint .u8), [.m 16], some 17, none⟩, ⟨(.bin .or .i), [.m 17, .k (.u8 (128 : UInt8))], some 18, none⟩, ⟨(.b8 1 [0]), [.m 18], some 19, none⟩, ⟨(.app 1 1), [.m 15, .m 19], some 20, none⟩, ⟨.mv, [.m 20], some 5, none⟩] none))
(.reg [⟨.mv, [.m 1], some 13, none⟩, ⟨(.bin .shr .i), [.m 13, .k (.u64 (7 : UInt64))], some 14, none⟩, ⟨.mv, [.m 14], some 1, none⟩] none)))
def wire_Var_s0 : SSh := ⟨[(1, .g (.f (.a .u32))), (5, .g (.f (.bo)))], []⟩
def wire_Var_o0 : Cut Tb := cutL tab 0 wire_Var_s0 (fun x => (x.1.1, x.1.2.1)) (fun x => wire_Var_l0) (fun _ x y k => k (.exit 0) ⟨[(1, .u32 y.1), (5, .bo y.2)], []⟩)
theorem wire_Var_q0 : (wire_Var_o0).Ok Try.prog Wp tab 0 (.loop wire_Var_p0) := cutL_ok (c := wire_Var_p0) (Z := UInt32 × (Option (List UInt8))) (Y := UInt32 × (Option (List UInt8))) tabOk wire_Var_rk (cS (cS trivial (cC (cD trivial) (cD trivial))) (cS (cB trivial) trivial)) (fun _ x z b e => wire_Var_b0 z.1 z.2 (fun x4 x5 => b (x4, x5)) (fun y7 y8 => e (y7, y8))) (fun x z => ⟨[(1, .u32 z.1), (5, .bo z.2)], []⟩) (fun x y => ((.exit 0), ⟨[(1, .u32 y.1), (5, .bo y.2)], []⟩)) (fun t => (prjS tab 0 wire_Var_s0 t).bind fun x => some (x.1.1, x.1.2.1)) (fun e t => (if eqE e (.exit 0) then (prjS tab 0 ⟨[(1, .g (.f (.a .u32))), (5, .g (.f (.bo)))], []⟩ t).bind fun v => some (v.1.1, v.1.2.1) else none)) (fun x => by kernel_rfl) (fun x z => by kernel_rfl) (fun x y k => by kernel_rfl) (fun x y => by exact nofun) (fun x z => by kernel_rfl) (fun x y => by kernel_rfl) (fun x z k => by kernel_rfl)
def wire_Var_p : TCode Tb :=
(.seq (.reg [⟨.mv, [.k (.nilS)], some 4, none⟩] none)
(.seq (.reg [⟨.mv, [.m 0], some 6, none⟩, ⟨(.call (some 48) 0), [.m 6], some 7, none⟩, ⟨.mv, [.m 7], some 5, none⟩] none)
(.seq (.seq (.reg [⟨.mv, [.v 1], some 8, none⟩, ⟨(.bin .gtr .i), [.m 8, .k (.u32 (268435455 : UInt32))], some 9, none⟩] none)
(.cond 9 (.drop [1, 4, 9] (.seq (.reg [⟨.mv, [.m 5], some 10, none⟩, ⟨.mv, [.m 10], some 4, none⟩] none)
.ret))
(.drop [4, 9] .skip)))
(.seq (.block 0 (.cut 0 wire_Var_o0 (.loop wire_Var_p0)))
(.seq (.reg [⟨.mv, [.m 5], some 21, none⟩, ⟨.mv, [.m 1], some 22, none⟩, ⟨(.cint .u8), [.m 22], some 23, none⟩, ⟨(.b8 1 [0]), [.m 23], some 24, none⟩, ⟨(.app 1 1), [.m 21, .m 24], some 25, none⟩, ⟨.mv, [.m 25], some 4, none⟩] none)
.ret)))))
def wire_Var_w : Orc Tb := mkOrc (Y := (Option (List UInt8))) tab [.g (.f (.a .bs)), .g (.f (.a .u32))] [] (fun x h => wire_Var x.1 x.2.1) (fun _ y k => k (.bo y) [])
theorem wire_Var_k : (wire_Var_w).Ok Try.prog Wp tab 24 := orc_ok (Y := (Option (List UInt8))) (orcs := wire_Var_r) (c := wire_Var_p) (res := [.tmp 4]) (n := 26) (R := (RSp.one (Y := (Option (List UInt8))) tab (.g (.f (.bo))) [] (fun a b => a) (fun y => y) (fun y => ()))) tabOk wire_Var_rk (RSp.one_ok tabOk (fun _ _ => by kernel_rfl) (fun _ _ => by kernel_rfl)) Try.func24 (by kernel_rfl) (by kernel_rfl) (by kernel_rfl) (by kernel_rfl) (cS trivial (cS trivial (cS (cS trivial (cC (cD (cS trivial trivial)) (cD trivial))) (cS (cB (cT wire_Var_q0)) (cS trivial trivial))))) (fun _ y k => by kernel_rfl) (fun y => by kernel_rfl) (fun x h => by kernel_rfl)
def wire_Two_r : Orcs Tb := [(48, slices_Clone_s_byte_byte_w)]
theorem wire_Two_rk : OrcsOk Try.prog Wp tab wire_Two_r := (orcs_cons slices_Clone_s_byte_byte_k orcs_nil)
def wire_Two_p : TCode Tb :=
(.seq (.reg [⟨.mv, [.k (.nilS)], some 4, none⟩] none)
(.seq (.reg [⟨.mv, [.m 0], some 5, none⟩, ⟨(.call (some 48) 0), [.m 5], some 6, none⟩, ⟨.mv, [.v 1], some 7, none⟩, ⟨(.bin .shr .i), [.m 7, .k (.u64 (8 : UInt64))], some 8, none⟩, ⟨(.cint .u8), [.m 8], some 9, none⟩, ⟨.mv, [.m 1], some 10, none⟩, ⟨(.cint .u8), [.m 10], some 11, none⟩, ⟨(.b8 2 [0, 1]), [.m 9, .m 11], some 12, none⟩, ⟨(.app 1 1), [.m 6, .m 12], some 13, none⟩, ⟨.mv, [.m 13], some 4, none⟩] none)
.ret))
def wire_Two_w : Orc Tb := mkOrc (Y := (Option (List UInt8))) tab [.g (.f (.a .bs)), .g (.f (.a .u16))] [] (fun x h => wire_Two x.1 x.2.1) (fun _ y k => k (.bo y) [])
theorem wire_Two_k : (wire_Two_w).Ok Try.prog Wp tab 29 := orc_ok (Y := (Option (List UInt8))) (orcs := wire_Two_r) (c := wire_Two_p) (res := [.tmp 4]) (n := 14) (R := (RSp.one (Y := (Option (List UInt8))) tab (.g (.f (.bo))) [] (fun a b => a) (fun y => y) (fun y => ()))) tabOk wire_Two_rk (RSp.one_ok tabOk (fun _ _ => by kernel_rfl) (fun _ _ => by kernel_rfl)) Try.func29 (by kernel_rfl) (by kernel_rfl) (by kernel_rfl) (by kernel_rfl) (cS trivial (cS trivial trivial)) (fun _ y k => by kernel_rfl) (fun y => by kernel_rfl) (fun x h => by kernel_rfl)
def wire_Bin_r : Orcs Tb := [(48, slices_Clone_s_byte_byte_w), (29, wire_Two_w)]
theorem wire_Bin_rk : OrcsOk Try.prog Wp tab wire_Bin_r := (orcs_cons slices_Clone_s_byte_byte_k (orcs_cons wire_Two_k orcs_nil))
def wire_Bin_p : TCode Tb :=
(.seq (.reg [⟨.mv, [.k (.nilS)], some 4, none⟩] none)
(.seq (.seq (.reg [⟨.mv, [.v 1], some 5, none⟩, ⟨.lens, [.m 5], some 6, none⟩, ⟨(.bin .gtr .i), [.m 6, .k (.n .i64 65535)], some 7, none⟩] none)
(.cond 7 (.drop [1, 4, 7] (.seq (.reg [⟨.mv, [.m 0], some 8, none⟩, ⟨(.call (some 48) 0), [.m 8], some 9, none⟩, ⟨.mv, [.m 9], some 4, none⟩] none)
.ret))
(.drop [4, 7] .skip)))
(.seq (.reg [⟨.mv, [.m 0], some 10, none⟩, ⟨.mv, [.v 1], some 11, none⟩, ⟨.lens, [.m 11], some 12, none⟩, ⟨(.cint .u16), [.m 12], some 13, none⟩, ⟨(.call (some 29) 1), [.m 10, .m 13], some 14, none⟩, ⟨.mv, [.m 1], some 15, none⟩, ⟨.apps, [.m 14, .m 15], some 16, none⟩, ⟨.mv, [.m 16], some 4, none⟩] none)
.ret)))
def wire_Bin_w : Orc Tb := mkOrc (Y := (Option (List UInt8))) tab [.g (.f (.a .bs)), .g (.f (.a .s))] [] (fun x h => wire_Bin x.1 x.2.1) (fun _ y k => k (.bo y) [])
theorem wire_Bin_k : (wire_Bin_w).Ok Try.prog Wp tab 25 := orc_ok (Y := (Option (List UInt8))) (orcs := wire_Bin_r) (c := wire_Bin_p) (res := [.tmp 4]) (n := 17) (R := (RSp.one (Y := (Option (List UInt8))) tab (.g (.f (.bo))) [] (fun a b => a) (fun y => y) (fun y => ()))) tabOk wire_Bin_rk (RSp.one_ok tabOk (fun _ _ => by kernel_rfl) (fun _ _ => by kernel_rfl)) Try.func25 (by kernel_rfl) (by kernel_rfl) (by kernel_rfl) (by kernel_rfl) (cS trivial (cS (cS trivial (cC (cD (cS trivial trivial)) (cD trivial))) (cS trivial trivial))) (fun _ y k => by kernel_rfl) (fun y => by kernel_rfl) (fun x h => by kernel_rfl)
def wire_Reader_take_r : Orcs Tb := [(22, wire_Reader_Err_w)]
theorem wire_Reader_take_rk : OrcsOk Try.prog Wp tab wire_Reader_take_r := (orcs_cons wire_Reader_Err_k orcs_nil)
def wire_Reader_take_p0 : TCode Tb :=
(.cond 20 (.drop [1, 20] (.seq (.reg [⟨.mv, [.m 0], some 21, none⟩, ⟨.nilck, [.m 21], some 22, none⟩, ⟨(.fa 1), [.m 22], some 23, none⟩, ⟨(.store 1), [.m 23, .k (.n .i64 2)], none, none⟩] none)
(.seq (.reg [⟨.mv, [.k (.s [])], some 4, none⟩, ⟨.mv, [.k (.b false)], some 5, none⟩] none)
.ret)))
(.drop [20] .skip))
def wire_Reader_take_s0 : SSh := ⟨[(0, .g (.f (.ref 0 0))), (1, .g (.f (.a (.n .i64)))), (20, .g (.f (.a .b)))], [[.g (.f (.a .s)), .g (.f (.a (.n .i64)))]]⟩
def wire_Reader_take_o0 : Cut Tb := cutJ tab 1 wire_Reader_take_s0 (fun _ x k => wire_Reader_take_c0 x.1.2.2.1 (k .ret ⟨[(4, .s []), (5, .b false)], [[.s ((⟨x.2.1.1, x.2.1.2.1⟩ : wire_Reader).b), .n .i64 2]]⟩) (k .normal ⟨[(0, .ref 0 0), (1, .n .i64 x.1.2.1)], [[.s ((⟨x.2.1.1, x.2.1.2.1⟩ : wire_Reader).b), .n .i64 ((⟨x.2.1.1, x.2.1.2.1⟩ : wire_Reader).err)]]⟩))
theorem wire_Reader_take_q0 : (wire_Reader_take_o0).Ok Try.prog Wp tab 1 wire_Reader_take_p0 := cutJ_ok (c := wire_Reader_take_p0) tabOk wire_Reader_take_rk (cC (cD (cS trivial (cS trivial trivial))) (cD trivial)) (fun _ _ => by kernel_rfl)
def wire_Reader_take_p1 : TCode Tb :=
(.seq (.reg [⟨.mv, [.v 0], some 24, none⟩, ⟨.nilck, [.m 24], some 25, none⟩, ⟨(.fa 0), [.m 25], some 26, none⟩, ⟨(.load none), [.m 26], some 27, none⟩, ⟨.mv, [.v 1], some 28, none⟩, ⟨(.sstr false true), [.m 27, .m 28], some 29, none⟩, ⟨.mv, [.m 29], some 6, none⟩] none)
(.seq (.reg [⟨.mv, [.v 0], some 30, none⟩, ⟨.mv, [.m 0], some 31, none⟩, ⟨.nilck, [.m 31], some 32, none⟩, ⟨(.fa 0), [.m 32], some 33, none⟩, ⟨(.load none), [.m 33], some 34, none⟩, ⟨.mv, [.m 1], some 35, none⟩, ⟨(.sstr true false), [.m 34, .m 35], some 36, none⟩, ⟨.nilck, [.m 30], some 37, none⟩, ⟨(.fa 0), [.m 37], some 38, none⟩, ⟨(.store 1), [.m 38, .m 36], none, none⟩] none)
(.seq (.reg [⟨.mv, [.m 6], some 39, none⟩, ⟨.mv, [.m 39], some 4, none⟩, ⟨.mv, [.k (.b true)], some 5, none⟩] none)
.ret)))
def wire_Reader_take_s1 : SSh := ⟨[(0, .g (.f (.ref 0 0))), (1, .g (.f (.a (.n .i64))))], [[.g (.f (.a .s)), .g (.f (.a (.n .i64)))]]⟩
def wire_Reader_take_o1 : Cut Tb := cutJ tab 1 wire_Reader_take_s1 (fun _ x k => wire_Reader_take_c1 x.1.2.1 (⟨x.2.1.1, x.2.1.2.1⟩ : wire_Reader) (fun y12 y13 => k .ret ⟨[(4, .s y12), (5, .b true)], [[.s y13, .n .i64 ((⟨x.2.1.1, x.2.1.2.1⟩ : wire_Reader).err)]]⟩))
theorem wire_Reader_take_q1 : (wire_Reader_take_o1).Ok Try.prog Wp tab 1 wire_Reader_take_p1 := cutJ_ok (c := wire_Reader_take_p1) tabOk wire_Reader_take_rk (cS trivial (cS trivial (cS trivial trivial))) (fun _ _ => by kernel_rfl)
def wire_Reader_take_p : TCode Tb :=
(.seq (.reg [⟨.mv, [.k (.s [])], some 4, none⟩, ⟨.mv, [.k (.b false)], some 5, none⟩] none)
(.seq (.seq (.reg [⟨.mv, [.v 0], some 7, none⟩, ⟨(.call (some 22) 0), [.m 7], some 8, none⟩, ⟨(.bin .neq .i), [.m 8, .k (.n .i64 0)], some 9, none⟩] none)
(.cond 9 (.drop [0, 1, 4, 5, 9] (.seq (.reg [⟨.mv, [.k (.s [])], some 4, none⟩, ⟨.mv, [.k (.b false)], some 5, none⟩] none)
.ret))
(.drop [4, 5, 9] .skip)))
(.seq (.seq (.reg [⟨.mv, [.v 1], some 10, none⟩, ⟨(.bin .lss .i), [.m 10, .k (.n .i64 0)], some 11, none⟩, ⟨.mv, [.m 11], some 12, none⟩, ⟨.mv, [.v 1], some 13, some (12, false)⟩, ⟨.mv, [.v 0], some 14, some (12, false)⟩, ⟨.nilck, [.m 14], some 15, some (12, false)⟩, ⟨(.fa 0), [.m 15], some 16, some (12, false)⟩, ⟨(.load none), [.m 16], some 17, some (12, false)⟩, ⟨.lens, [.m 17], some 18, some (12, false)⟩, ⟨(.bin .gtr .i), [.m 13, .m 18], some 19, some (12, false)⟩, ⟨.pick, [.m 12, .k (.b true), .m 19], some 20, none⟩] none)
(.drop [13, 14, 15, 16, 17, 18] (.cut 1 wire_Reader_take_o0 wire_Reader_take_p0)))
(.cut 1 wire_Reader_take_o1 wire_Reader_take_p1))))
def wire_Reader_take_w : Orc Tb := mkOrc (Y := (List UInt8) × Bool × wire_Reader) tab [.g (.f (.ref 0 0)), .g (.f (.a (.n .i64)))] [[.g (.f (.a .s)), .g (.f (.a (.n .i64)))]] (fun x h => wire_Reader_take x.2.1 (⟨h.1.1, h.1.2.1⟩ : wire_Reader)) (fun _ y k => k (.tup [.s y.1, .b y.2.1]) [[.s y.2.2.b, .n .i64 y.2.2.err]])
theorem wire_Reader_take_k : (wire_Reader_take_w).Ok Try.prog Wp tab 49 := orc_ok (Y := (List UInt8) × Bool × wire_Reader) (orcs := wire_Reader_take_r) (c := wire_Reader_take_p) (res := [.tmp 4, .tmp 5]) (n := 40) (R := (RSp.one (Y := (List UInt8) × Bool × wire_Reader) tab (.tup [.f (.a .s), .f (.a .b)]) [[.g (.f (.a .s)), .g (.f (.a (.n .i64)))]] (fun a b => (a.1, a.2.1, (⟨b.1.1, b.1.2.1⟩ : wire_Reader))) (fun y => (y.1, y.2.1, ())) (fun y => ((y.2.2.b, y.2.2.err, ()), ())))) tabOk wire_Reader_take_rk (RSp.one_ok tabOk (fun _ _ => by kernel_rfl) (fun _ _ => by kernel_rfl)) Try.func49 (by kernel_rfl) (by kernel_rfl) (by kernel_rfl) (by kernel_rfl) (cS trivial (cS (cS trivial (cC (cD (cS trivial trivial)) (cD trivial))) (cS (cS trivial (cD (cT wire_Reader_take_q0))) (cT wire_Reader_take_q1)))) (fun _ y k => by kernel_rfl) (fun y => by kernel_rfl) (fun x h => by kernel_rfl)
def wire_Reader_Two_r : Orcs Tb := [(49, wire_Reader_take_w)]
theorem wire_Reader_Two_rk : OrcsOk Try.prog Wp tab wire_Reader_Two_r := (orcs_cons wire_Reader_take_k orcs_nil)
def wire_Reader_Two_p : TCode Tb :=
(.seq (.reg [⟨.mv, [.k (.u16 (0 : UInt16))], some 2, none⟩] none)
(.seq (.reg [⟨.mv, [.m 0], some 6, none⟩, ⟨(.call (some 49) 0), [.m 6, .k (.n .i64 2)], some 7, none⟩, ⟨.mv, [.m 7], some 5, none⟩, ⟨.extm, [.c 5 0], some 8, none⟩, ⟨(.ext 1), [.m 5], some 9, none⟩, ⟨.mv, [.m 8], some 3, none⟩, ⟨.mv, [.m 9], some 4, none⟩] none)
(.seq (.seq (.reg [⟨.mv, [.m 4], some 10, none⟩, ⟨(.un .not), [.m 10], some 11, none⟩] none)
(.cond 11 (.drop [2, 3, 11] (.seq (.reg [⟨.mv, [.k (.u16 (0 : UInt16))], some 2, none⟩] none)
.ret))
(.drop [2, 11] .skip)))
(.seq (.reg [⟨.mv, [.v 3], some 12, none⟩, ⟨.sidx, [.m 12, .k (.n .i64 0)], some 13, none⟩, ⟨(.cint .u16), [.m 13], some 14, none⟩, ⟨(.bin .shl .i), [.m 14, .k (.u64 (8 : UInt64))], some 15, none⟩, ⟨.mv, [.v 3], some 16, none⟩, ⟨.sidx, [.m 16, .k (.n .i64 1)], some 17, none⟩, ⟨(.cint .u16), [.m 17], some 18, none⟩, ⟨(.bin .or .i), [.m 15, .m 18], some 19, none⟩, ⟨.mv, [.m 19], some 2, none⟩] (some [[], [], [], [], [], [], [], [], []]))
.ret))))
def wire_Reader_Two_w : Orc Tb := mkOrc (Y := UInt16 × wire_Reader) tab [.g (.f (.ref 0 0))] [[.g (.f (.a .s)), .g (.f (.a (.n .i64)))]] (fun x h => wire_Reader_Two (⟨h.1.1, h.1.2.1⟩ : wire_Reader)) (fun _ y k => k (.u16 y.1) [[.s y.2.b, .n .i64 y.2.err]])
theorem wire_Reader_Two_k : (wire_Reader_Two_w).Ok Try.prog Wp tab 33 := orc_ok (Y := UInt16 × wire_Reader) (orcs := wire_Reader_Two_r) (c := wire_Reader_Two_p) (res := [.tmp 2]) (n := 20) (R := (RSp.one (Y := UInt16 × wire_Reader) tab (.g (.f (.a .u16))) [[.g (.f (.a .s)), .g (.f (.a (.n .i64)))]] (fun a b => (a, (⟨b.1.1, b.1.2.1⟩ : wire_Reader))) (fun y => y.1) (fun y => ((y.2.b, y.2.err, ()), ())))) tabOk wire_Reader_Two_rk (RSp.one_ok tabOk (fun _ _ => by kernel_rfl) (fun _ _ => by kernel_rfl)) Try.func33 (by kernel_rfl) (by kernel_rfl) (by kernel_rfl) (by kernel_rfl) (cS trivial (cS trivial (cS (cS trivial (cC (cD (cS trivial trivial)) (cD trivial))) (cS trivial trivial)))) (fun _ y k => by kernel_rfl) (fun y => by kernel_rfl) (fun x h => by kernel_rfl)
def wire_Reader_Bin_r : Orcs Tb := [(33, wire_Reader_Two_w), (49, wire_Reader_take_w)]
theorem wire_Reader_Bin_rk : OrcsOk Try.prog Wp tab wire_Reader_Bin_r := (orcs_cons wire_Reader_Two_k (orcs_cons wire_Reader_take_k orcs_nil))
def wire_Reader_Bin_p : TCode Tb :=
(.seq (.reg [⟨.mv, [.k (.s [])], some 2, none⟩] none)
(.seq (.reg [⟨.mv, [.v 0], some 6, none⟩, ⟨.mv, [.m 0], some 7, none⟩, ⟨(.call (some 33) 0), [.m 7], some 8, none⟩, ⟨(.cint .i64), [.m 8], some 9, none⟩, ⟨(.call (some 49) 1), [.m 6, .m 9], some 10, none⟩, ⟨.mv, [.m 10], some 5, none⟩, ⟨.extm, [.c 5 0], some 11, none⟩, ⟨(.ext 1), [.m 5], some 12, none⟩, ⟨.mv, [.m 11], some 3, none⟩, ⟨.mv, [.m 12], some 4, none⟩] none)
(.seq (.reg [⟨.mv, [.m 3], some 13, none⟩, ⟨.mv, [.m 13], some 2, none⟩] none)
.ret)))
def wire_Reader_Bin_w : Orc Tb := mkOrc (Y := (List UInt8) × wire_Reader) tab [.g (.f (.ref 0 0))] [[.g (.f (.a .s)), .g (.f (.a (.n .i64)))]] (fun x h => wire_Reader_Bin (⟨h.1.1, h.1.2.1⟩ : wire_Reader)) (fun _ y k => k (.s y.1) [[.s y.2.b, .n .i64 y.2.err]])
theorem wire_Reader_Bin_k : (wire_Reader_Bin_w).Ok Try.prog Wp tab 27 := orc_ok (Y := (List UInt8) × wire_Reader) (orcs := wire_Reader_Bin_r) (c := wire_Reader_Bin_p) (res := [.tmp 2]) (n := 14) (R := (RSp.one (Y := (List UInt8) × wire_Reader) tab (.g (.f (.a .s))) [[.g (.f (.a .s)), .g (.f (.a (.n .i64)))]] (fun a b => (a, (⟨b.1.1, b.1.2.1⟩ : wire_Reader))) (fun y => y.1) (fun y => ((y.2.b, y.2.err, ()), ())))) tabOk wire_Reader_Bin_rk (RSp.one_ok tabOk (fun _ _ => by kernel_rfl) (fun _ _ => by kernel_rfl)) Try.func27 (by kernel_rfl) (by kernel_rfl) (by kernel_rfl) (by kernel_rfl) (cS trivial (cS trivial (cS trivial trivial))) (fun _ y k => by kernel_rfl) (fun y => by kernel_rfl) (fun x h => by kernel_rfl)
def wire_Reader_Left_r : Orcs Tb := [(22, wire_Reader_Err_w)]
theorem wire_Reader_Left_rk : OrcsOk Try.prog Wp tab wire_Reader_Left_r := (orcs_cons wire_Reader_Err_k orcs_nil)
def wire_Reader_Left_p : TCode Tb :=
(.seq (.reg [⟨.mv, [.k (.n .i64 0)], some 2, none⟩] none)
(.seq (.seq (.reg [⟨.mv, [.v 0], some 3, none⟩, ⟨(.call (some 22) 0), [.m 3], some 4, none⟩, ⟨(.bin .neq .i), [.m 4, .k (.n .i64 0)], some 5, none⟩] none)
(.cond 5 (.drop [0, 2, 5] (.seq (.reg [⟨.mv, [.k (.n .i64 0)], some 2, none⟩] none)
.ret))
(.drop [2, 5] .skip)))
(.seq (.reg [⟨.mv, [.m 0], some 6, none⟩, ⟨.nilck, [.m 6], some 7, none⟩, ⟨(.fa 0), [.m 7], some 8, none⟩, ⟨(.load none), [.m 8], some 9, none⟩, ⟨.lens, [.m 9], some 10, none⟩, ⟨.mv, [.m 10], some 2, none⟩] none)
.ret)))
def wire_Reader_Left_w : Orc Tb := mkOrc (Y := Int × wire_Reader) tab [.g (.f (.ref 0 0))] [[.g (.f (.a .s)), .g (.f (.a (.n .i64)))]] (fun x h => wire_Reader_Left (⟨h.1.1, h.1.2.1⟩ : wire_Reader)) (fun _ y k => k (.n .i64 y.1) [[.s y.2.b, .n .i64 y.2.err]])
theorem wire_Reader_Left_k : (wire_Reader_Left_w).Ok Try.prog Wp tab 35 := orc_ok (Y := Int × wire_Reader) (orcs := wire_Reader_Left_r) (c := wire_Reader_Left_p) (res := [.tmp 2]) (n := 11) (R := (RSp.one (Y := Int × wire_Reader) tab (.g (.f (.a (.n .i64)))) [[.g (.f (.a .s)), .g (.f (.a (.n .i64)))]] (fun a b => (a, (⟨b.1.1, b.1.2.1⟩ : wire_Reader))) (fun y => y.1) (fun y => ((y.2.b, y.2.err, ()), ())))) tabOk wire_Reader_Left_rk (RSp.one_ok tabOk (fun _ _ => by kernel_rfl) (fun _ _ => by kernel_rfl)) Try.func35 (by kernel_rfl) (by kernel_rfl) (by kernel_rfl) (by kernel_rfl) (cS trivial (cS (cS trivial (cC (cD (cS trivial trivial)) (cD trivial))) (cS trivial trivial))) (fun _ y k => by kernel_rfl) (fun y => by kernel_rfl) (fun x h => by kernel_rfl)
def wire_VarSize_r : Orcs Tb := [(24, wire_Var_w)]
theorem wire_VarSize_rk : OrcsOk Try.prog Wp tab wire_VarSize_r := (orcs_cons wire_Var_k orcs_nil)
def wire_VarSize_p : TCode Tb :=
(.seq (.reg [⟨.mv, [.k (.n .i64 0)], some 2, none⟩] none)
(.seq (.reg [⟨.mv, [.m 0], some 3, none⟩, ⟨(.call (some 24) 0), [.k (.nilS), .m 3], some 4, none⟩, ⟨.len, [.m 4], some 5, none⟩, ⟨.mv, [.m 5], some 2, none⟩] none)
.ret))
def wire_VarSize_w : Orc Tb := mkOrc (Y := Int) tab [.g (.f (.a .u32))] [] (fun x h => wire_VarSize x.1) (fun _ y k => k (.n .i64 y) [])
theorem wire_VarSize_k : (wire_VarSize_w).Ok Try.prog Wp tab 23 := orc_ok (Y := Int) (orcs := wire_VarSize_r) (c := wire_VarSize_p) (res := [.tmp 2]) (n := 6) (R := (RSp.one (Y := Int) tab (.g (.f (.a (.n .i64)))) [] (fun a b => a) (fun y => y) (fun y => ()))) tabOk wire_VarSize_rk (RSp.one_ok tabOk (fun _ _ => by kernel_rfl) (fun _ _ => by kernel_rfl)) Try.func23 (by kernel_rfl) (by kernel_rfl) (by kernel_rfl) (by kernel_rfl) (cS trivial (cS trivial trivial)) (fun _ y k => by kernel_rfl) (fun y => by kernel_rfl) (fun x h => by kernel_rfl)
def l01_told_r : Orcs Tb := [(24, wire_Var_w), (25, wire_Bin_w), (17, wire_Read_w), (18, wire_Reader_Var_w), (27, wire_Reader_Bin_w), (35, wire_Reader_Left_w), (22, wire_Reader_Err_w), (23, wire_VarSize_w)]
theorem l01_told_rk : OrcsOk Try.prog Wp tab l01_told_r := (orcs_cons wire_Var_k (orcs_cons wire_Bin_k (orcs_cons wire_Read_k (orcs_cons wire_Reader_Var_k (orcs_cons wire_Reader_Bin_k (orcs_cons wire_Reader_Left_k (orcs_cons wire_Reader_Err_k (orcs_cons wire_VarSize_k orcs_nil))))))))
def l01_told_p : TCode Tb :=
(.seq (.reg [⟨.mv, [.k (.b false)], some 0, none⟩] none)
(.seq (.reg [⟨(.call (some 24) 0), [.k (.nilS), .k (.u32 (321 : UInt32))], some 3, none⟩, ⟨(.call (some 25) 1), [.m 3, .k (.s [97, 98])], some 4, none⟩, ⟨.mv, [.m 4], some 1, none⟩] none)
(.seq (.reg [⟨.mv, [.v 1], some 5, none⟩, ⟨(.call (some 17) 2), [.m 5], some 6, none⟩, ⟨.mv, [.m 6], some 2, none⟩] none)
(.seq (.reg [⟨.mv, [.v 2], some 7, none⟩, ⟨(.bin .neq .p), [.m 7, .k (.nilP)], some 8, none⟩, ⟨.mv, [.m 8], some 9, none⟩, ⟨.mv, [.m 1], some 10, some (9, true)⟩, ⟨.b2s, [.m 10], some 11, some (9, true)⟩, ⟨(.bin .eql .s), [.m 11, .k (.s [193, 2, 0, 2, 97, 98])], some 12, some (9, true)⟩, ⟨.pick, [.m 9, .m 12, .k (.b false)], some 13, none⟩, ⟨.mv, [.m 13], some 14, none⟩, ⟨.mv, [.v 2], some 15, some (14, true)⟩, ⟨(.call (some 18) 3), [.m 15], some 16, some (14, true)⟩, ⟨(.bin .eql .i), [.m 16, .k (.u32 (321 : UInt32))], some 17, some (14, true)⟩, ⟨.pick, [.m 14, .m 17, .k (.b false)], some 18, none⟩, ⟨.mv, [.m 18], some 19, none⟩, ⟨.mv, [.v 2], some 20, some (19, true)⟩, ⟨(.call (some 27) 4), [.m 20], some 21, some (19, true)⟩, ⟨(.bin .eql .s), [.m 21, .k (.s [97, 98])], some 22, some (19, true)⟩, ⟨.pick, [.m 19, .m 22, .k (.b false)], some 23, none⟩, ⟨.mv, [.m 23], some 24, none⟩, ⟨.mv, [.v 2], some 25, some (24, true)⟩, ⟨(.call (some 35) 5), [.m 25], some 26, some (24, true)⟩, ⟨(.bin .eql .i), [.m 26, .k (.n .i64 0)], some 27, some (24, true)⟩, ⟨.pick, [.m 24, .m 27, .k (.b false)], some 28, none⟩, ⟨.mv, [.m 28], some 29, none⟩, ⟨.mv, [.m 2], some 30, some (29, true)⟩, ⟨(.call (some 22) 6), [.m 30], some 31, some (29, true)⟩, ⟨(.bin .eql .i), [.m 31, .k (.n .i64 0)], some 32, some (29, true)⟩, ⟨.pick, [.m 29, .m 32, .k (.b false)], some 33, none⟩, ⟨.mv, [.m 33], some 34, none⟩, ⟨(.call (some 23) 7), [.k (.u32 (321 : UInt32))], some 35, some (34, true)⟩, ⟨(.bin .eql .i), [.m 35, .k (.n .i64 2)], some 36, some (34, true)⟩, ⟨.pick, [.m 34, .m 36, .k (.b false)], some 37, none⟩, ⟨.mv, [.m 37], some 0, none⟩] none)
(.drop [1, 2, 10, 11, 15, 16, 20, 21, 25, 26, 30, 31, 35] .ret)))))
def l01_told_w : Orc Tb := mkOrc (Y := Bool) tab [] [] (fun x h => l01_told) (fun _ y k => k (.b y) [])
theorem l01_told_k : (l01_told_w).Ok Try.prog Wp tab 21 := orc_ok (Y := Bool) (orcs := l01_told_r) (c := l01_told_p) (res := [.tmp 0]) (n := 38) (R := (RSp.one (Y := Bool) tab (.g (.f (.a .b))) [] (fun a b => a) (fun y => y) (fun y => ()))) tabOk l01_told_rk (RSp.one_ok tabOk (fun _ _ => by kernel_rfl) (fun _ _ => by kernel_rfl)) Try.func21 (by kernel_rfl) (by kernel_rfl) (by kernel_rfl) (by kernel_rfl) (cS trivial (cS trivial (cS trivial (cS trivial (cD trivial))))) (fun _ y k => by kernel_rfl) (fun y => by kernel_rfl) (fun x h => by kernel_rfl)
def wire_Reader_Byte_1_r : Orcs Tb := [(49, wire_Reader_take_w)]
theorem wire_Reader_Byte_1_rk : OrcsOk Try.prog Wp tab wire_Reader_Byte_1_r := (orcs_cons wire_Reader_take_k orcs_nil)
def wire_Reader_Byte_1_p : TCode Tb :=
(.seq (.reg [⟨.mv, [.k (.u8 (0 : UInt8))], some 2, none⟩] none)
(.seq (.reg [⟨.mv, [.m 0], some 6, none⟩, ⟨(.call (some 49) 0), [.m 6, .k (.n .i64 1)], some 7, none⟩, ⟨.mv, [.m 7], some 5, none⟩, ⟨.extm, [.c 5 0], some 8, none⟩, ⟨(.ext 1), [.m 5], some 9, none⟩, ⟨.mv, [.m 8], some 3, none⟩, ⟨.mv, [.m 9], some 4, none⟩] none)
(.seq (.seq (.reg [⟨.mv, [.m 4], some 10, none⟩, ⟨(.un .not), [.m 10], some 11, none⟩] none)
(.cond 11 (.drop [2, 3, 11] (.seq (.reg [⟨.mv, [.k (.u8 (0 : UInt8))], some 2, none⟩] none)
.ret))
(.drop [2, 11] .skip)))
(.seq (.reg [⟨.mv, [.m 3], some 12, none⟩, ⟨.sidx, [.m 12, .k (.n .i64 0)], some 13, none⟩, ⟨.mv, [.m 13], some 2, none⟩] none)
.ret))))
def wire_Reader_Byte_1_w : Orc Tb := mkOrc (Y := UInt8 × wire_Reader) tab [.g (.f (.ref 0 0))] [[.g (.f (.a .s)), .g (.f (.a (.n .i64)))]] (fun x h => wire_Reader_Byte_1 (⟨h.1.1, h.1.2.1⟩ : wire_Reader)) (fun _ y k => k (.u8 y.1) [[.s y.2.b, .n .i64 y.2.err]])
theorem wire_Reader_Byte_1_k : (wire_Reader_Byte_1_w).Ok Try.prog Wp tab 26 := orc_ok (Y := UInt8 × wire_Reader) (orcs := wire_Reader_Byte_1_r) (c := wire_Reader_Byte_1_p) (res := [.tmp 2]) (n := 14) (R := (RSp.one (Y := UInt8 × wire_Reader) tab (.g (.f (.a .u8))) [[.g (.f (.a .s)), .g (.f (.a (.n .i64)))]] (fun a b => (a, (⟨b.1.1, b.1.2.1⟩ : wire_Reader))) (fun y => y.1) (fun y => ((y.2.b, y.2.err, ()), ())))) tabOk wire_Reader_Byte_1_rk (RSp.one_ok tabOk (fun _ _ => by kernel_rfl) (fun _ _ => by kernel_rfl)) Try.func26 (by kernel_rfl) (by kernel_rfl) (by kernel_rfl) (by kernel_rfl) (cS trivial (cS trivial (cS (cS trivial (cC (cD (cS trivial trivial)) (cD trivial))) (cS trivial trivial)))) (fun _ y k => by kernel_rfl) (fun y => by kernel_rfl) (fun x h => by kernel_rfl)
def wire_Reader_Four_1_r : Orcs Tb := [(49, wire_Reader_take_w)]
theorem wire_Reader_Four_1_rk : OrcsOk Try.prog Wp tab wire_Reader_Four_1_r := (orcs_cons wire_Reader_take_k orcs_nil)
def wire_Reader_Four_1_p : TCode Tb :=
(.seq (.reg [⟨.mv, [.k (.u32 (0 : UInt32))], some 2, none⟩] none)
(.seq (.reg [⟨.mv, [.m 0], some 6, none⟩, ⟨(.call (some 49) 0), [.m 6, .k (.n .i64 4)], some 7, none⟩, ⟨.mv, [.m 7], some 5, none⟩, ⟨.extm, [.c 5 0], some 8, none⟩, ⟨(.ext 1), [.m 5], some 9, none⟩, ⟨.mv, [.m 8], some 3, none⟩, ⟨.mv, [.m 9], some 4, none⟩] none)
(.seq (.seq (.reg [⟨.mv, [.m 4], some 10, none⟩, ⟨(.un .not), [.m 10], some 11, none⟩] none)
(.cond 11 (.drop [2, 3, 11] (.seq (.reg [⟨.mv, [.k (.u32 (0 : UInt32))], some 2, none⟩] none)
.ret))
(.drop [2, 11] .skip)))
(.seq (.reg [⟨.mv, [.v 3], some 12, none⟩, ⟨.sidx, [.m 12, .k (.n .i64 0)], some 13, none⟩, ⟨(.cint .u32), [.m 13], some 14, none⟩, ⟨(.bin .shl .i), [.m 14, .k (.u64 (24 : UInt64))], some 15, none⟩, ⟨.mv, [.v 3], some 16, none⟩, ⟨.sidx, [.m 16, .k (.n .i64 1)], some 17, none⟩, ⟨(.cint .u32), [.m 17], some 18, none⟩, ⟨(.bin .shl .i), [.m 18, .k (.u64 (16 : UInt64))], some 19, none⟩, ⟨(.bin .or .i), [.m 15, .m 19], some 20, none⟩, ⟨.mv, [.v 3], some 21, none⟩, ⟨.sidx, [.m 21, .k (.n .i64 2)], some 22, none⟩, ⟨(.cint .u32), [.m 22], some 23, none⟩, ⟨(.bin .shl .i), [.m 23, .k (.u64 (8 : UInt64))], some 24, none⟩, ⟨(.bin .or .i), [.m 20, .m 24], some 25, none⟩, ⟨.mv, [.v 3], some 26, none⟩, ⟨.sidx, [.m 26, .k (.n .i64 3)], some 27, none⟩, ⟨(.cint .u32), [.m 27], some 28, none⟩, ⟨(.bin .or .i), [.m 25, .m 28], some 29, none⟩, ⟨.mv, [.m 29], some 2, none⟩] (some [[], [], [], [], [], [], [], [], [], [], [], [], [], [], [], [], [], [], []]))
.ret))))
def wire_Reader_Four_1_w : Orc Tb := mkOrc (Y := UInt32 × wire_Reader) tab [.g (.f (.ref 0 0))] [[.g (.f (.a .s)), .g (.f (.a (.n .i64)))]] (fun x h => wire_Reader_Four_1 (⟨h.1.1, h.1.2.1⟩ : wire_Reader)) (fun _ y k => k (.u32 y.1) [[.s y.2.b, .n .i64 y.2.err]])
theorem wire_Reader_Four_1_k : (wire_Reader_Four_1_w).Ok Try.prog Wp tab 34 := orc_ok (Y := UInt32 × wire_Reader) (orcs := wire_Reader_Four_1_r) (c := wire_Reader_Four_1_p) (res := [.tmp 2]) (n := 30) (R := (RSp.one (Y := UInt32 × wire_Reader) tab (.g (.f (.a .u32))) [[.g (.f (.a .s)), .g (.f (.a (.n .i64)))]] (fun a b => (a, (⟨b.1.1, b.1.2.1⟩ : wire_Reader))) (fun y => y.1) (fun y => ((y.2.b, y.2.err, ()), ())))) tabOk wire_Reader_Four_1_rk (RSp.one_ok tabOk (fun _ _ => by kernel_rfl) (fun _ _ => by kernel_rfl)) Try.func34 (by kernel_rfl) (by kernel_rfl) (by kernel_rfl) (by kernel_rfl) (cS trivial (cS trivial (cS (cS trivial (cC (cD (cS trivial trivial)) (cD trivial))) (cS trivial trivial)))) (fun _ y k => by kernel_rfl) (fun y => by kernel_rfl) (fun x h => by kernel_rfl)
def wire_Byte_r : Orcs Tb := [(48, slices_Clone_s_byte_byte_w)]
theorem wire_Byte_rk : OrcsOk Try.prog Wp tab wire_Byte_r := (orcs_cons slices_Clone_s_byte_byte_k orcs_nil)
def wire_Byte_p : TCode Tb :=
(.seq (.reg [⟨.mv, [.k (.nilS)], some 4, none⟩] none)
(.seq (.reg [⟨.mv, [.m 0], some 5, none⟩, ⟨(.call (some 48) 0), [.m 5], some 6, none⟩, ⟨.mv, [.m 1], some 7, none⟩, ⟨(.b8 1 [0]), [.m 7], some 8, none⟩, ⟨(.app 1 1), [.m 6, .m 8], some 9, none⟩, ⟨.mv, [.m 9], some 4, none⟩] none)
.ret))
def wire_Byte_w : Orc Tb := mkOrc (Y := (Option (List UInt8))) tab [.g (.f (.a .bs)), .g (.f (.a .u8))] [] (fun x h => wire_Byte x.1 x.2.1) (fun _ y k => k (.bo y) [])
theorem wire_Byte_k : (wire_Byte_w).Ok Try.prog Wp tab 30 := orc_ok (Y := (Option (List UInt8))) (orcs := wire_Byte_r) (c := wire_Byte_p) (res := [.tmp 4]) (n := 10) (R := (RSp.one (Y := (Option (List UInt8))) tab (.g (.f (.bo))) [] (fun a b => a) (fun y => y) (fun y => ()))) tabOk wire_Byte_rk (RSp.one_ok tabOk (fun _ _ => by kernel_rfl) (fun _ _ => by kernel_rfl)) Try.func30 (by kernel_rfl) (by kernel_rfl) (by kernel_rfl) (by kernel_rfl) (cS trivial (cS trivial trivial)) (fun _ y k => by kernel_rfl) (fun y => by kernel_rfl) (fun x h => by kernel_rfl)
def wire_Four_r : Orcs Tb := [(29, wire_Two_w)]
theorem wire_Four_rk : OrcsOk Try.prog Wp tab wire_Four_r := (orcs_cons wire_Two_k orcs_nil)
def wire_Four_p : TCode Tb :=
(.seq (.reg [⟨.mv, [.k (.nilS)], some 4, none⟩] none)
(.seq (.reg [⟨.mv, [.m 0], some 5, none⟩, ⟨.mv, [.v 1], some 6, none⟩, ⟨(.bin .shr .i), [.m 6, .k (.u64 (16 : UInt64))], some 7, none⟩, ⟨(.cint .u16), [.m 7], some 8, none⟩, ⟨(.call (some 29) 0), [.m 5, .m 8], some 9, none⟩, ⟨.mv, [.m 1], some 10, none⟩, ⟨(.cint .u16), [.m 10], some 11, none⟩, ⟨(.call (some 29) 0), [.m 9, .m 11], some 12, none⟩, ⟨.mv, [.m 12], some 4, none⟩] none)
.ret))
def wire_Four_w : Orc Tb := mkOrc (Y := (Option (List UInt8))) tab [.g (.f (.a .bs)), .g (.f (.a .u32))] [] (fun x h => wire_Four x.1 x.2.1) (fun _ y k => k (.bo y) [])
theorem wire_Four_k : (wire_Four_w).Ok Try.prog Wp tab 28 := orc_ok (Y := (Option (List UInt8))) (orcs := wire_Four_r) (c := wire_Four_p) (res := [.tmp 4]) (n := 13) (R := (RSp.one (Y := (Option (List UInt8))) tab (.g (.f (.bo))) [] (fun a b => a) (fun y => y) (fun y => ()))) tabOk wire_Four_rk (RSp.one_ok tabOk (fun _ _ => by kernel_rfl) (fun _ _ => by kernel_rfl)) Try.func28 (by kernel_rfl) (by kernel_rfl) (by kernel_rfl) (by kernel_rfl) (cS trivial (cS trivial trivial)) (fun _ y k => by kernel_rfl) (fun y => by kernel_rfl) (fun x h => by kernel_rfl)
def r01_Num_r : Orcs Tb := []
theorem r01_Num_rk : OrcsOk Try.prog Wp tab r01_Num_r := orcs_nil
def r01_Num_p1 : TCode Tb :=
(.seq (.seq (.reg [⟨.mv, [.v 10], some 21, none⟩, ⟨.mv, [.v 8], some 22, none⟩, ⟨(.bin .lss .i), [.m 21, .m 22], some 23, none⟩] none)
(.cond 23 (.drop [23] .skip)
(.drop [10, 23] (.exit 2))))
(.seq (.block 3 (.reg [⟨.mv, [.m 9], some 26, none⟩, ⟨(.bin .quo .i), [.m 26, .k (.u64 (256 : UInt64))], some 27, none⟩, ⟨.mv, [.m 27], some 9, none⟩] none))
(.reg [⟨.mv, [.m 10], some 24, none⟩, ⟨(.bin .add .i), [.m 24, .k (.n .i64 1)], some 25, none⟩, ⟨.mv, [.m 25], some 10, none⟩] none)))
def r01_Num_s1 : SSh := ⟨[(1, .g (.f (.a .u64))), (7, .g (.f (.bo))), (8, .g (.f (.a (.n .i64)))), (9, .g (.f (.a .u64))), (10, .g (.f (.a (.n .i64))))], []⟩
def r01_Num_o1 : Cut Tb := cutL tab 0 r01_Num_s1 (fun x => (x.1.2.2.2.1, x.1.2.2.2.2.1)) (fun x => r01_Num_l1 x.1.2.2.1) (fun _ x y k => k (.exit 2) ⟨[(1, .u64 x.1.1), (7, .bo x.1.2.1), (8, .n .i64 x.1.2.2.1), (9, .u64 y)], []⟩)
theorem r01_Num_q1 : (r01_Num_o1).Ok Try.prog Wp tab 0 (.loop r01_Num_p1) := cutL_ok (c := r01_Num_p1) (Z := UInt64 × Int) (Y := UInt64) tabOk r01_Num_rk (cS (cS trivial (cC (cD trivial) (cD trivial))) (cS (cB trivial) trivial)) (fun _ x z b e => r01_Num_b1 x.1.2.2.1 z.1 z.2 (fun x11 x12 => b (x11, x12)) (fun y13 => e y13)) (fun x z => ⟨[(1, .u64 x.1.1), (7, .bo x.1.2.1), (8, .n .i64 x.1.2.2.1), (9, .u64 z.1), (10, .n .i64 z.2)], []⟩) (fun x y => ((.exit 2), ⟨[(1, .u64 x.1.1), (7, .bo x.1.2.1), (8, .n .i64 x.1.2.2.1), (9, .u64 y)], []⟩)) (fun t => (prjS tab 0 r01_Num_s1 t).bind fun x => some (x.1.2.2.2.1, x.1.2.2.2.2.1)) (fun e t => (if eqE e (.exit 2) then (prjS tab 0 ⟨[(1, .g (.f (.a .u64))), (7, .g (.f (.bo))), (8, .g (.f (.a (.n .i64)))), (9, .g (.f (.a .u64)))], []⟩ t).bind fun v => some v.1.2.2.2.1 else none)) (fun x => by kernel_rfl) (fun x z => by kernel_rfl) (fun x y k => by kernel_rfl) (fun x y => by exact nofun) (fun x z => by kernel_rfl) (fun x y => by kernel_rfl) (fun x z k => by kernel_rfl)
def r01_Num_p0 : TCode Tb :=
(.seq (.seq (.reg [⟨.mv, [.v 8], some 16, none⟩, ⟨(.bin .geq .i), [.m 16, .k (.n .i64 0)], some 17, none⟩] none)
(.cond 17 (.drop [17] .skip)
(.drop [1, 8, 17] (.exit 0))))
(.seq (.block 1 (.seq (.reg [⟨.mv, [.v 1], some 20, none⟩, ⟨.mv, [.m 20], some 9, none⟩] none)
(.seq (.seq (.reg [⟨.mv, [.k (.n .i64 0)], some 10, none⟩] none)
(.block 2 (.cut 0 r01_Num_o1 (.loop r01_Num_p1))))
(.reg [⟨.mv, [.m 7], some 28, none⟩, ⟨.mv, [.m 9], some 29, none⟩, ⟨(.bin .rem .i), [.m 29, .k (.u64 (256 : UInt64))], some 30, none⟩, ⟨(.cint .u8), [.m 30], some 31, none⟩, ⟨(.b8 1 [0]), [.m 31], some 32, none⟩, ⟨(.app 1 1), [.m 28, .m 32], some 33, none⟩, ⟨.mv, [.m 33], some 7, none⟩] none))))
(.reg [⟨.mv, [.m 8], some 18, none⟩, ⟨(.bin .sub .i), [.m 18, .k (.n .i64 1)], some 19, none⟩, ⟨.mv, [.m 19], some 8, none⟩] none)))
def r01_Num_s0 : SSh := ⟨[(1, .g (.f (.a .u64))), (7, .g (.f (.bo))), (8, .g (.f (.a (.n .i64))))], []⟩
def r01_Num_o0 : Cut Tb := cutL tab 0 r01_Num_s0 (fun x => (x.1.2.1, x.1.2.2.1)) (fun x => r01_Num_l0 x.1.1) (fun _ x y k => k (.exit 0) ⟨[(7, .bo y)], []⟩)
theorem r01_Num_q0 : (r01_Num_o0).Ok Try.prog Wp tab 0 (.loop r01_Num_p0) := cutL_ok (c := r01_Num_p0) (Z := (Option (List UInt8)) × Int) (Y := (Option (List UInt8))) tabOk r01_Num_rk (cS (cS trivial (cC (cD trivial) (cD trivial))) (cS (cB (cS trivial (cS (cS trivial (cB (cT r01_Num_q1))) trivial))) trivial)) (fun _ x z b e => r01_Num_b0 x.1.1 z.1 z.2 (fun x6 x7 => b (x6, x7)) (fun y16 => e y16)) (fun x z => ⟨[(1, .u64 x.1.1), (7, .bo z.1), (8, .n .i64 z.2)], []⟩) (fun x y => ((.exit 0), ⟨[(7, .bo y)], []⟩)) (fun t => (prjS tab 0 r01_Num_s0 t).bind fun x => some (x.1.2.1, x.1.2.2.1)) (fun e t => (if eqE e (.exit 0) then (prjS tab 0 ⟨[(7, .g (.f (.bo)))], []⟩ t).bind fun v => some v.1.1 else none)) (fun x => by kernel_rfl) (fun x z => by kernel_rfl) (fun x y k => by kernel_rfl) (fun x y => by exact nofun) (fun x z => by kernel_rfl) (fun x y => by kernel_rfl) (fun x z k => by kernel_rfl)
def r01_Num_p : TCode Tb :=
(.seq (.reg [⟨.mv, [.k (.nilS)], some 6, none⟩] none)
(.seq (.reg [⟨(.b8 0 []), [], some 11, none⟩, ⟨.mv, [.m 0], some 12, none⟩, ⟨(.app 1 1), [.m 11, .m 12], some 13, none⟩, ⟨.mv, [.m 13], some 7, none⟩] none)
(.seq (.seq (.reg [⟨.mv, [.m 2], some 14, none⟩, ⟨(.bin .sub .i), [.m 14, .k (.n .i64 1)], some 15, none⟩, ⟨.mv, [.m 15], some 8, none⟩] none)
(.block 0 (.drop [6] (.cut 0 r01_Num_o0 (.loop r01_Num_p0)))))
(.seq (.reg [⟨.mv, [.m 7], some 34, none⟩, ⟨.mv, [.m 34], some 6, none⟩] none)
.ret))))
def r01_Num_w : Orc Tb := mkOrc (Y := (Option (List UInt8))) tab [.g (.f (.a .bs)), .g (.f (.a .u64)), .g (.f (.a (.n .i64)))] [] (fun x h => r01_Num x.1 x.2.1 x.2.2.1) (fun _ y k => k (.bo y) [])
theorem r01_Num_k : (r01_Num_w).Ok Try.prog Wp tab 31 := orc_ok (Y := (Option (List UInt8))) (orcs := r01_Num_r) (c := r01_Num_p) (res := [.tmp 6]) (n := 35) (R := (RSp.one (Y := (Option (List UInt8))) tab (.g (.f (.bo))) [] (fun a b => a) (fun y => y) (fun y => ()))) tabOk r01_Num_rk (RSp.one_ok tabOk (fun _ _ => by kernel_rfl) (fun _ _ => by kernel_rfl)) Try.func31 (by kernel_rfl) (by kernel_rfl) (by kernel_rfl) (by kernel_rfl) (cS trivial (cS trivial (cS (cS trivial (cB (cD (cT r01_Num_q0)))) (cS trivial trivial)))) (fun _ y k => by kernel_rfl) (fun y => by kernel_rfl) (fun x h => by kernel_rfl)
def r01_Bin_r : Orcs Tb := [(31, r01_Num_w)]
theorem r01_Bin_rk : OrcsOk Try.prog Wp tab r01_Bin_r := (orcs_cons r01_Num_k orcs_nil)
def r01_Bin_p : TCode Tb :=
(.seq (.reg [⟨.mv, [.k (.nilS)], some 4, none⟩] none)
(.seq (.seq (.reg [⟨.mv, [.v 1], some 5, none⟩, ⟨.lens, [.m 5], some 6, none⟩, ⟨(.bin .gtr .i), [.m 6, .k (.n .i64 65535)], some 7, none⟩] none)
(.cond 7 (.drop [1, 4, 7] (.seq (.reg [⟨(.b8 0 []), [], some 8, none⟩, ⟨.mv, [.m 0], some 9, none⟩, ⟨(.app 1 1), [.m 8, .m 9], some 10, none⟩, ⟨.mv, [.m 10], some 4, none⟩] none)
.ret))
(.drop [4, 7] .skip)))
(.seq (.reg [⟨.mv, [.m 0], some 11, none⟩, ⟨.mv, [.v 1], some 12, none⟩, ⟨.lens, [.m 12], some 13, none⟩, ⟨(.cint .u64), [.m 13], some 14, none⟩, ⟨(.call (some 31) 0), [.m 11, .m 14, .k (.n .i64 2)], some 15, none⟩, ⟨.mv, [.m 1], some 16, none⟩, ⟨.apps, [.m 15, .m 16], some 17, none⟩, ⟨.mv, [.m 17], some 4, none⟩] none)
.ret)))
def r01_Bin_w : Orc Tb := mkOrc (Y := (Option (List UInt8))) tab [.g (.f (.a .bs)), .g (.f (.a .s))] [] (fun x h => r01_Bin x.1 x.2.1) (fun _ y k => k (.bo y) [])
theorem r01_Bin_k : (r01_Bin_w).Ok Try.prog Wp tab 32 := orc_ok (Y := (Option (List UInt8))) (orcs := r01_Bin_r) (c := r01_Bin_p) (res := [.tmp 4]) (n := 18) (R := (RSp.one (Y := (Option (List UInt8))) tab (.g (.f (.bo))) [] (fun a b => a) (fun y => y) (fun y => ()))) tabOk r01_Bin_rk (RSp.one_ok tabOk (fun _ _ => by kernel_rfl) (fun _ _ => by kernel_rfl)) Try.func32 (by kernel_rfl) (by kernel_rfl) (by kernel_rfl) (by kernel_rfl) (cS trivial (cS (cS trivial (cC (cD (cS trivial trivial)) (cD trivial))) (cS trivial trivial))) (fun _ y k => by kernel_rfl) (fun y => by kernel_rfl) (fun x h => by kernel_rfl)
def l01_WirePuts_r : Orcs Tb := [(30, wire_Byte_w), (29, wire_Two_w), (28, wire_Four_w), (31, r01_Num_w), (24, wire_Var_w), (20, r01_Var_w), (21, l01_told_w), (25, wire_Bin_w), (32, r01_Bin_w), (17, wire_Read_w), (26, wire_Reader_Byte_1_w), (33, wire_Reader_Two_w), (34, wire_Reader_Four_1_w), (18, wire_Reader_Var_w), (27, wire_Reader_Bin_w), (22, wire_Reader_Err_w), (35, wire_Reader_Left_w)]
theorem l01_WirePuts_rk : OrcsOk Try.prog Wp tab l01_WirePuts_r := (orcs_cons wire_Byte_k (orcs_cons wire_Two_k (orcs_cons wire_Four_k (orcs_cons r01_Num_k (orcs_cons wire_Var_k (orcs_cons r01_Var_k (orcs_cons l01_told_k (orcs_cons wire_Bin_k (orcs_cons r01_Bin_k (orcs_cons wire_Read_k (orcs_cons wire_Reader_Byte_1_k (orcs_cons wire_Reader_Two_k (orcs_cons wire_Reader_Four_1_k (orcs_cons wire_Reader_Var_k (orcs_cons wire_Reader_Bin_k (orcs_cons wire_Reader_Err_k (orcs_cons wire_Reader_Left_k orcs_nil)))))))))))))))))
def l01_WirePuts_p0 : TCode Tb :=
(.seq (.seq (.reg [⟨.mv, [.v 7], some 12, none⟩, ⟨.mv, [.v 0], some 13, none⟩, ⟨.len, [.m 13], some 14, none⟩, ⟨(.bin .lss .i), [.m 12, .m 14], some 15, none⟩, ⟨.mv, [.m 15], some 16, none⟩, ⟨.mv, [.v 7], some 17, some (16, true)⟩, ⟨(.bin .lss .i), [.m 17, .k (.n .i64 20)], some 18, some (16, true)⟩, ⟨.pick, [.m 16, .m 18, .k (.b false)], some 19, none⟩] none)
(.drop [17] (.cond 19 (.drop [19] .skip)
(.drop [7, 19] (.exit 0)))))
(.seq (.block 1 (.seq (.reg [⟨.mv, [.m 5], some 22, none⟩, ⟨.mv, [.v 0], some 23, none⟩, ⟨.mv, [.v 7], some 24, none⟩, ⟨(.ia 1), [.v 23, .m 24], some 25, none⟩, ⟨(.load none), [.m 25], some 26, none⟩, ⟨(.cint .u8), [.m 26], some 27, none⟩, ⟨(.call (some 30) 0), [.m 22, .m 27], some 28, none⟩, ⟨.mv, [.v 0], some 29, none⟩, ⟨.mv, [.v 7], some 30, none⟩, ⟨(.ia 1), [.v 29, .m 30], some 31, none⟩, ⟨(.load none), [.m 31], some 32, none⟩, ⟨(.cint .u16), [.m 32], some 33, none⟩, ⟨(.call (some 29) 1), [.m 28, .m 33], some 34, none⟩, ⟨.mv, [.v 0], some 35, none⟩, ⟨.mv, [.v 7], some 36, none⟩, ⟨(.ia 1), [.v 35, .m 36], some 37, none⟩, ⟨(.load none), [.m 37], some 38, none⟩, ⟨(.call (some 28) 2), [.m 34, .m 38], some 39, none⟩, ⟨.mv, [.m 39], some 5, none⟩] (some [[], [], [], [], [], [], [], [], [], [], [4, 6], [], [], [], [], [], [4, 6, 10, 12], [], []]))
(.seq (.reg [⟨.mv, [.m 6], some 40, none⟩, ⟨.mv, [.v 0], some 41, none⟩, ⟨.mv, [.v 7], some 42, none⟩, ⟨(.ia 1), [.v 41, .m 42], some 43, none⟩, ⟨(.load none), [.m 43], some 44, none⟩, ⟨(.cint .u8), [.m 44], some 45, none⟩, ⟨(.cint .u64), [.m 45], some 46, none⟩, ⟨(.call (some 31) 3), [.m 40, .m 46, .k (.n .i64 1)], some 47, none⟩, ⟨.mv, [.v 0], some 48, none⟩, ⟨.mv, [.v 7], some 49, none⟩, ⟨(.ia 1), [.v 48, .m 49], some 50, none⟩, ⟨(.load none), [.m 50], some 51, none⟩, ⟨(.cint .u16), [.m 51], some 52, none⟩, ⟨(.cint .u64), [.m 52], some 53, none⟩, ⟨(.call (some 31) 3), [.m 47, .m 53, .k (.n .i64 2)], some 54, none⟩, ⟨.mv, [.v 0], some 55, none⟩, ⟨.mv, [.v 7], some 56, none⟩, ⟨(.ia 1), [.v 55, .m 56], some 57, none⟩, ⟨(.load none), [.m 57], some 58, none⟩, ⟨(.cint .u64), [.m 58], some 59, none⟩, ⟨(.call (some 31) 3), [.m 54, .m 59, .k (.n .i64 4)], some 60, none⟩, ⟨.mv, [.m 60], some 6, none⟩] (some [[], [], [], [], [], [], [], [], [], [], [], [4, 7], [], [], [], [], [], [], [4, 7, 11, 14], [], [], []]))
(.reg [⟨.mv, [.m 5], some 61, none⟩, ⟨.mv, [.v 0], some 62, none⟩, ⟨.mv, [.v 7], some 63, none⟩, ⟨(.ia 1), [.v 62, .m 63], some 64, none⟩, ⟨(.load none), [.m 64], some 65, none⟩, ⟨(.call (some 24) 4), [.m 61, .m 65], some 66, none⟩, ⟨.mv, [.m 6], some 67, none⟩, ⟨.mv, [.v 0], some 68, none⟩, ⟨.mv, [.v 7], some 69, none⟩, ⟨(.ia 1), [.v 68, .m 69], some 70, none⟩, ⟨(.load none), [.m 70], some 71, none⟩, ⟨(.call (some 20) 5), [.m 67, .m 71], some 72, none⟩, ⟨.mv, [.m 66], some 5, none⟩, ⟨.mv, [.m 72], some 6, none⟩] (some [[], [], [], [], [], [], [], [], [], [], [4, 5], [], [], []])))))
(.drop [23, 29, 35, 41, 48, 55, 62, 68] (.reg [⟨.mv, [.m 7], some 20, none⟩, ⟨(.bin .add .i), [.m 20, .k (.n .i64 1)], some 21, none⟩, ⟨.mv, [.m 21], some 7, none⟩] none))))
def l01_WirePuts_s0 : SSh := ⟨[(0, .g (.f (.a (.sl 2)))), (1, .g (.f (.a (.sl 3)))), (5, .g (.f (.bo))), (6, .g (.f (.bo))), (7, .g (.f (.a (.n .i64))))], []⟩
def l01_WirePuts_o0 : Cut Tb := cutL tab 0 l01_WirePuts_s0 (fun x => (x.1.2.2.1, x.1.2.2.2.1, x.1.2.2.2.2.1)) (fun x => l01_WirePuts_l0 x.1.1) (fun _ x y k => k (.exit 0) ⟨[(0, .sl 2 x.1.1), (1, .sl 3 x.1.2.1), (5, .bo y.1), (6, .bo y.2)], []⟩)
theorem l01_WirePuts_q0 : (l01_WirePuts_o0).Ok Try.prog Wp tab 0 (.loop l01_WirePuts_p0) := cutL_ok (c := l01_WirePuts_p0) (Z := (Option (List UInt8)) × (Option (List UInt8)) × Int) (Y := (Option (List UInt8)) × (Option (List UInt8))) tabOk l01_WirePuts_rk (cS (cS trivial (cD (cC (cD trivial) (cD trivial)))) (cS (cB (cS trivial (cS trivial trivial))) (cD trivial))) (fun _ x z b e => l01_WirePuts_b0 x.1.1 z.1 z.2.1 z.2.2 (fun x5 x6 x7 => b (x5, x6, x7)) (fun y24 y25 => e (y24, y25))) (fun x z => ⟨[(0, .sl 2 x.1.1), (1, .sl 3 x.1.2.1), (5, .bo z.1), (6, .bo z.2.1), (7, .n .i64 z.2.2)], []⟩) (fun x y => ((.exit 0), ⟨[(0, .sl 2 x.1.1), (1, .sl 3 x.1.2.1), (5, .bo y.1), (6, .bo y.2)], []⟩)) (fun t => (prjS tab 0 l01_WirePuts_s0 t).bind fun x => some (x.1.2.2.1, x.1.2.2.2.1, x.1.2.2.2.2.1)) (fun e t => (if eqE e (.exit 0) then (prjS tab 0 ⟨[(0, .g (.f (.a (.sl 2)))), (1, .g (.f (.a (.sl 3)))), (5, .g (.f (.bo))), (6, .g (.f (.bo)))], []⟩ t).bind fun v => some (v.1.2.2.1, v.1.2.2.2.1) else none)) (fun x => by kernel_rfl) (fun x z => by kernel_rfl) (fun x y k => by kernel_rfl) (fun x y => by exact nofun) (fun x z => by kernel_rfl) (fun x y => by kernel_rfl) (fun x z k => by kernel_rfl)
def l01_WirePuts_p1 : TCode Tb :=
(.seq (.seq (.reg [⟨.mv, [.v 8], some 73, none⟩, ⟨.mv, [.v 1], some 74, none⟩, ⟨.len, [.m 74], some 75, none⟩, ⟨(.bin .lss .i), [.m 73, .m 75], some 76, none⟩, ⟨.mv, [.m 76], some 77, none⟩, ⟨.mv, [.v 8], some 78, some (77, true)⟩, ⟨(.bin .lss .i), [.m 78, .k (.n .i64 10)], some 79, some (77, true)⟩, ⟨.pick, [.m 77, .m 79, .k (.b false)], some 80, none⟩] none)
(.drop [78] (.cond 80 (.drop [80] .skip)
(.drop [8, 80] (.exit 2)))))
(.seq (.block 3 (.seq (.seq (.reg [⟨.mv, [.v 1], some 83, none⟩, ⟨.mv, [.v 8], some 84, none⟩, ⟨(.ia 1), [.v 83, .m 84], some 85, none⟩, ⟨(.load none), [.m 85], some 86, none⟩, ⟨.lens, [.m 86], some 87, none⟩, ⟨(.bin .gtr .i), [.m 87, .k (.n .i64 300)], some 88, none⟩] none)
(.cond 88 (.drop [0, 1, 5, 6, 8, 83, 88] (.seq (.reg [⟨(.call (some 21) 6), [], some 89, none⟩, ⟨.mv, [.m 89], some 4, none⟩] none)
.ret))
(.drop [83, 88] .skip)))
(.reg [⟨.mv, [.m 5], some 90, none⟩, ⟨.mv, [.v 1], some 91, none⟩, ⟨.mv, [.v 8], some 92, none⟩, ⟨(.ia 1), [.v 91, .m 92], some 93, none⟩, ⟨(.load none), [.m 93], some 94, none⟩, ⟨(.call (some 25) 7), [.m 90, .m 94], some 95, none⟩, ⟨.mv, [.m 6], some 96, none⟩, ⟨.mv, [.v 1], some 97, none⟩, ⟨.mv, [.v 8], some 98, none⟩, ⟨(.ia 1), [.v 97, .m 98], some 99, none⟩, ⟨(.load none), [.m 99], some 100, none⟩, ⟨(.call (some 32) 8), [.m 96, .m 100], some 101, none⟩, ⟨.mv, [.m 95], some 5, none⟩, ⟨.mv, [.m 101], some 6, none⟩] (some [[], [], [], [], [], [], [], [], [], [], [4, 5], [], [], []]))))
(.drop [91, 97] (.reg [⟨.mv, [.m 8], some 81, none⟩, ⟨(.bin .add .i), [.m 81, .k (.n .i64 1)], some 82, none⟩, ⟨.mv, [.m 82], some 8, none⟩] none))))
def l01_WirePuts_s1 : SSh := ⟨[(0, .g (.f (.a (.sl 2)))), (1, .g (.f (.a (.sl 3)))), (5, .g (.f (.bo))), (6, .g (.f (.bo))), (8, .g (.f (.a (.n .i64))))], []⟩
def l01_WirePuts_o1 : Cut Tb := cutL tab 0 l01_WirePuts_s1 (fun x => (x.1.2.2.1, x.1.2.2.2.1, x.1.2.2.2.2.1)) (fun x => l01_WirePuts_l1 x.1.2.1) (fun _ x y k => match y with | .inl y => k .ret ⟨[(4, .b y)], []⟩ | .inr y => k (.exit 2) ⟨[(0, .sl 2 x.1.1), (1, .sl 3 x.1.2.1), (5, .bo y.1), (6, .bo y.2)], []⟩)
theorem l01_WirePuts_q1 : (l01_WirePuts_o1).Ok Try.prog Wp tab 0 (.loop l01_WirePuts_p1) := cutL_ok (c := l01_WirePuts_p1) (Z := (Option (List UInt8)) × (Option (List UInt8)) × Int) (Y := Bool ⊕ ((Option (List UInt8)) × (Option (List UInt8)))) tabOk l01_WirePuts_rk (cS (cS trivial (cD (cC (cD trivial) (cD trivial)))) (cS (cB (cS (cS trivial (cC (cD (cS trivial trivial)) (cD trivial))) trivial)) (cD trivial))) (fun _ x z b e => l01_WirePuts_b1 x.1.2.1 z.1 z.2.1 z.2.2 (fun x30 x31 x32 => b (x30, x31, x32)) (fun y39 => e (.inl y39)) (fun y40 y41 => e (.inr (y40, y41)))) (fun x z => ⟨[(0, .sl 2 x.1.1), (1, .sl 3 x.1.2.1), (5, .bo z.1), (6, .bo z.2.1), (8, .n .i64 z.2.2)], []⟩) (fun x y => match y with | .inl y => (.ret, ⟨[(4, .b y)], []⟩) | .inr y => ((.exit 2), ⟨[(0, .sl 2 x.1.1), (1, .sl 3 x.1.2.1), (5, .bo y.1), (6, .bo y.2)], []⟩)) (fun t => (prjS tab 0 l01_WirePuts_s1 t).bind fun x => some (x.1.2.2.1, x.1.2.2.2.1, x.1.2.2.2.2.1)) (fun e t => (if eqE e .ret then orElse ((prjS tab 0 ⟨[(4, .g (.f (.a .b)))], []⟩ t).bind fun v => some (.inl v.1.1)) (if eqE e (.exit 2) then (prjS tab 0 ⟨[(0, .g (.f (.a (.sl 2)))), (1, .g (.f (.a (.sl 3)))), (5, .g (.f (.bo))), (6, .g (.f (.bo)))], []⟩ t).bind fun v => some (.inr (v.1.2.2.1, v.1.2.2.2.1)) else none) else (if eqE e (.exit 2) then (prjS tab 0 ⟨[(0, .g (.f (.a (.sl 2)))), (1, .g (.f (.a (.sl 3)))), (5, .g (.f (.bo))), (6, .g (.f (.bo)))], []⟩ t).bind fun v => some (.inr (v.1.2.2.1, v.1.2.2.2.1)) else none))) (fun x => by kernel_rfl) (fun x z => by kernel_rfl) (fun x y k => by rcases y with y | y <;> kernel_rfl) (fun x y => by rcases y with y | y <;> exact nofun) (fun x z => by kernel_rfl) (fun x y => by rcases y with y | y <;> kernel_rfl) (fun x z k => by kernel_rfl)
def l01_WirePuts_p2 : TCode Tb :=
(.seq (.seq (.reg [⟨.mv, [.v 10], some 113, none⟩, ⟨.mv, [.v 0], some 114, none⟩, ⟨.len, [.m 114], some 115, none⟩, ⟨(.bin .lss .i), [.m 113, .m 115], some 116, none⟩, ⟨.mv, [.m 116], some 117, none⟩, ⟨.mv, [.v 10], some 118, some (117, true)⟩, ⟨(.bin .lss .i), [.m 118, .k (.n .i64 20)], some 119, some (117, true)⟩, ⟨.pick, [.m 117, .m 119, .k (.b false)], some 120, none⟩] none)
(.drop [118] (.cond 120 (.drop [120] .skip)
(.drop [0, 10, 120] (.exit 4)))))
(.seq (.block 5 (.seq (.reg [⟨.mv, [.v 9], some 123, none⟩, ⟨(.call (some 26) 10), [.m 123], some 124, none⟩, ⟨.mv, [.v 0], some 125, none⟩, ⟨.mv, [.v 10], some 126, none⟩, ⟨(.ia 1), [.v 125, .m 126], some 127, none⟩, ⟨(.load none), [.m 127], some 128, none⟩, ⟨(.cint .u8), [.m 128], some 129, none⟩, ⟨(.bin .neq .i), [.m 124, .m 129], some 130, none⟩, ⟨.mv, [.m 130], some 131, none⟩, ⟨.mv, [.v 9], some 132, some (131, false)⟩, ⟨(.call (some 33) 11), [.m 132], some 133, some (131, false)⟩, ⟨.mv, [.v 0], some 134, some (131, false)⟩, ⟨.mv, [.v 10], some 135, some (131, false)⟩, ⟨(.ia 1), [.v 134, .m 135], some 136, some (131, false)⟩, ⟨(.load none), [.m 136], some 137, some (131, false)⟩, ⟨(.cint .u16), [.m 137], some 138, some (131, false)⟩, ⟨(.bin .neq .i), [.m 133, .m 138], some 139, some (131, false)⟩, ⟨.pick, [.m 131, .k (.b true), .m 139], some 140, none⟩, ⟨.mv, [.m 140], some 141, none⟩, ⟨.mv, [.v 9], some 142, some (141, false)⟩, ⟨(.call (some 34) 12), [.m 142], some 143, some (141, false)⟩, ⟨.mv, [.v 0], some 144, some (141, false)⟩, ⟨.mv, [.v 10], some 145, some (141, false)⟩, ⟨(.ia 1), [.v 144, .m 145], some 146, some (141, false)⟩, ⟨(.load none), [.m 146], some 147, some (141, false)⟩, ⟨(.bin .neq .i), [.m 143, .m 147], some 148, some (141, false)⟩, ⟨.pick, [.m 141, .k (.b true), .m 148], some 149, none⟩, ⟨.mv, [.m 149], some 150, none⟩, ⟨.mv, [.v 0], some 151, some (150, false)⟩, ⟨.mv, [.v 10], some 152, some (150, false)⟩, ⟨(.ia 1), [.v 151, .m 152], some 153, some (150, false)⟩, ⟨(.load none), [.m 153], some 154, some (150, false)⟩, ⟨(.bin .leq .i), [.m 154, .k (.u32 (268435455 : UInt32))], some 155, some (150, false)⟩, ⟨.mv, [.m 155], some 156, some (150, false)⟩, ⟨.mv, [.v 9], some 157, some (156, true)⟩, ⟨(.call (some 18) 13), [.m 157], some 158, some (156, true)⟩, ⟨.mv, [.v 0], some 159, some (156, true)⟩, ⟨.mv, [.v 10], some 160, some (156, true)⟩, ⟨(.ia 1), [.v 159, .m 160], some 161, some (156, true)⟩, ⟨(.load none), [.m 161], some 162, some (156, true)⟩, ⟨(.bin .neq .i), [.m 158, .m 162], some 163, some (156, true)⟩, ⟨.pick, [.m 156, .m 163, .k (.b false)], some 164, some (150, false)⟩, ⟨.pick, [.m 150, .k (.b true), .m 164], some 165, none⟩] (some [[], [], [], [], [], [1], [], [], [], [], [], [], [], [], [10], [], [], [], [], [], [], [], [], [], [20], [], [], [], [], [], [], [], [], [], [], [], [], [], [], [35], [], [], []]))
(.drop [125, 132, 133, 134, 135, 136, 137, 138, 142, 143, 144, 145, 146, 147, 151, 152, 153, 154, 155, 156, 157, 158, 159, 160, 161, 162, 163] (.cond 165 (.drop [0, 1, 9, 10, 165] (.seq (.reg [⟨.mv, [.k (.b false)], some 4, none⟩] none)
.ret))
(.drop [165] .skip)))))
(.reg [⟨.mv, [.m 10], some 121, none⟩, ⟨(.bin .add .i), [.m 121, .k (.n .i64 1)], some 122, none⟩, ⟨.mv, [.m 122], some 10, none⟩] none)))
def l01_WirePuts_s2 : SSh := ⟨[(0, .g (.f (.a (.sl 2)))), (1, .g (.f (.a (.sl 3)))), (9, .g (.f (.ref 0 0))), (10, .g (.f (.a (.n .i64))))], [[.g (.f (.a .s)), .g (.f (.a (.n .i64)))]]⟩
def l01_WirePuts_o2 : Cut Tb := cutL tab 0 l01_WirePuts_s2 (fun x => (x.1.2.2.2.1, (⟨x.2.1.1, x.2.1.2.1⟩ : wire_Reader))) (fun x => l01_WirePuts_l2 x.1.1) (fun _ x y k => match y with | .inl y => k .ret ⟨[(4, .b false)], [[.s y.b, .n .i64 y.err]]⟩ | .inr y => k (.exit 4) ⟨[(1, .sl 3 x.1.2.1), (9, .ref 0 0)], [[.s y.b, .n .i64 y.err]]⟩)
theorem l01_WirePuts_q2 : (l01_WirePuts_o2).Ok Try.prog Wp tab 0 (.loop l01_WirePuts_p2) := cutL_ok (c := l01_WirePuts_p2) (Z := Int × wire_Reader) (Y := wire_Reader ⊕ wire_Reader) tabOk l01_WirePuts_rk (cS (cS trivial (cD (cC (cD trivial) (cD trivial)))) (cS (cB (cS trivial (cD (cC (cD (cS trivial trivial)) (cD trivial))))) trivial)) (fun _ x z b e => l01_WirePuts_b2 x.1.1 z.1 z.2 (fun x49 x50 => b (x49, x50)) (fun y64 => e (.inl y64)) (fun y65 => e (.inr y65))) (fun x z => ⟨[(0, .sl 2 x.1.1), (1, .sl 3 x.1.2.1), (9, .ref 0 0), (10, .n .i64 z.1)], [[.s z.2.b, .n .i64 z.2.err]]⟩) (fun x y => match y with | .inl y => (.ret, ⟨[(4, .b false)], [[.s y.b, .n .i64 y.err]]⟩) | .inr y => ((.exit 4), ⟨[(1, .sl 3 x.1.2.1), (9, .ref 0 0)], [[.s y.b, .n .i64 y.err]]⟩)) (fun t => (prjS tab 0 l01_WirePuts_s2 t).bind fun x => some (x.1.2.2.2.1, (⟨x.2.1.1, x.2.1.2.1⟩ : wire_Reader))) (fun e t => (if eqE e .ret then orElse ((prjS tab 0 ⟨[(4, .g (.f (.cb false)))], [[.g (.f (.a .s)), .g (.f (.a (.n .i64)))]]⟩ t).bind fun v => some (.inl (⟨v.2.1.1, v.2.1.2.1⟩ : wire_Reader))) (if eqE e (.exit 4) then (prjS tab 0 ⟨[(1, .g (.f (.a (.sl 3)))), (9, .g (.f (.ref 0 0)))], [[.g (.f (.a .s)), .g (.f (.a (.n .i64)))]]⟩ t).bind fun v => some (.inr (⟨v.2.1.1, v.2.1.2.1⟩ : wire_Reader)) else none) else (if eqE e (.exit 4) then (prjS tab 0 ⟨[(1, .g (.f (.a (.sl 3)))), (9, .g (.f (.ref 0 0)))], [[.g (.f (.a .s)), .g (.f (.a (.n .i64)))]]⟩ t).bind fun v => some (.inr (⟨v.2.1.1, v.2.1.2.1⟩ : wire_Reader)) else none))) (fun x => by kernel_rfl) (fun x z => by kernel_rfl) (fun x y k => by rcases y with y | y <;> kernel_rfl) (fun x y => by rcases y with y | y <;> exact nofun) (fun x z => by kernel_rfl) (fun x y => by rcases y with y | y <;> kernel_rfl) (fun x z k => by kernel_rfl)
def l01_WirePuts_p3 : TCode Tb :=
(.seq (.seq (.reg [⟨.mv, [.v 11], some 166, none⟩, ⟨.mv, [.v 1], some 167, none⟩, ⟨.len, [.m 167], some 168, none⟩, ⟨(.bin .lss .i), [.m 166, .m 168], some 169, none⟩, ⟨.mv, [.m 169], some 170, none⟩, ⟨.mv, [.v 11], some 171, some (170, true)⟩, ⟨(.bin .lss .i), [.m 171, .k (.n .i64 10)], some 172, some (170, true)⟩, ⟨.pick, [.m 170, .m 172, .k (.b false)], some 173, none⟩] none)
(.drop [171] (.cond 173 (.drop [173] .skip)
(.drop [1, 11, 173] (.exit 6)))))
(.seq (.block 7 (.seq (.reg [⟨.mv, [.v 9], some 176, none⟩, ⟨(.call (some 27) 14), [.m 176], some 177, none⟩, ⟨.mv, [.v 1], some 178, none⟩, ⟨.mv, [.v 11], some 179, none⟩, ⟨(.ia 1), [.v 178, .m 179], some 180, none⟩, ⟨(.load none), [.m 180], some 181, none⟩, ⟨(.bin .neq .s), [.m 177, .m 181], some 182, none⟩] (some [[], [], [], [], [], [1], []]))
(.cond 182 (.drop [1, 9, 11, 178, 182] (.seq (.reg [⟨.mv, [.k (.b false)], some 4, none⟩] none)
.ret))
(.drop [178, 182] .skip))))
(.reg [⟨.mv, [.m 11], some 174, none⟩, ⟨(.bin .add .i), [.m 174, .k (.n .i64 1)], some 175, none⟩, ⟨.mv, [.m 175], some 11, none⟩] none)))
def l01_WirePuts_s3 : SSh := ⟨[(1, .g (.f (.a (.sl 3)))), (9, .g (.f (.ref 0 0))), (11, .g (.f (.a (.n .i64))))], [[.g (.f (.a .s)), .g (.f (.a (.n .i64)))]]⟩
def l01_WirePuts_o3 : Cut Tb := cutL tab 0 l01_WirePuts_s3 (fun x => (x.1.2.2.1, (⟨x.2.1.1, x.2.1.2.1⟩ : wire_Reader))) (fun x => l01_WirePuts_l3 x.1.1) (fun _ x y k => match y with | .inl y => k .ret ⟨[(4, .b false)], [[.s y.b, .n .i64 y.err]]⟩ | .inr y => k (.exit 6) ⟨[(9, .ref 0 0)], [[.s y.b, .n .i64 y.err]]⟩)
theorem l01_WirePuts_q3 : (l01_WirePuts_o3).Ok Try.prog Wp tab 0 (.loop l01_WirePuts_p3) := cutL_ok (c := l01_WirePuts_p3) (Z := Int × wire_Reader) (Y := wire_Reader ⊕ wire_Reader) tabOk l01_WirePuts_rk (cS (cS trivial (cD (cC (cD trivial) (cD trivial)))) (cS (cB (cS trivial (cC (cD (cS trivial trivial)) (cD trivial)))) trivial)) (fun _ x z b e => l01_WirePuts_b3 x.1.1 z.1 z.2 (fun x69 x70 => b (x69, x70)) (fun y74 => e (.inl y74)) (fun y75 => e (.inr y75))) (fun x z => ⟨[(1, .sl 3 x.1.1), (9, .ref 0 0), (11, .n .i64 z.1)], [[.s z.2.b, .n .i64 z.2.err]]⟩) (fun x y => match y with | .inl y => (.ret, ⟨[(4, .b false)], [[.s y.b, .n .i64 y.err]]⟩) | .inr y => ((.exit 6), ⟨[(9, .ref 0 0)], [[.s y.b, .n .i64 y.err]]⟩)) (fun t => (prjS tab 0 l01_WirePuts_s3 t).bind fun x => some (x.1.2.2.1, (⟨x.2.1.1, x.2.1.2.1⟩ : wire_Reader))) (fun e t => (if eqE e .ret then orElse ((prjS tab 0 ⟨[(4, .g (.f (.cb false)))], [[.g (.f (.a .s)), .g (.f (.a (.n .i64)))]]⟩ t).bind fun v => some (.inl (⟨v.2.1.1, v.2.1.2.1⟩ : wire_Reader))) (if eqE e (.exit 6) then (prjS tab 0 ⟨[(9, .g (.f (.ref 0 0)))], [[.g (.f (.a .s)), .g (.f (.a (.n .i64)))]]⟩ t).bind fun v => some (.inr (⟨v.2.1.1, v.2.1.2.1⟩ : wire_Reader)) else none) else (if eqE e (.exit 6) then (prjS tab 0 ⟨[(9, .g (.f (.ref 0 0)))], [[.g (.f (.a .s)), .g (.f (.a (.n .i64)))]]⟩ t).bind fun v => some (.inr (⟨v.2.1.1, v.2.1.2.1⟩ : wire_Reader)) else none))) (fun x => by kernel_rfl) (fun x z => by kernel_rfl) (fun x y k => by rcases y with y | y <;> kernel_rfl) (fun x y => by rcases y with y | y <;> exact nofun) (fun x z => by kernel_rfl) (fun x y => by rcases y with y | y <;> kernel_rfl) (fun x z k => by kernel_rfl)
def l01_WirePuts_p : TCode Tb :=
(.seq (.reg [⟨.mv, [.k (.b false)], some 4, none⟩] none)
(.seq (.reg [⟨.mv, [.k (.nilS)], some 5, none⟩, ⟨.mv, [.k (.nilS)], some 6, none⟩] none)
(.seq (.seq (.reg [⟨.mv, [.k (.n .i64 0)], some 7, none⟩] none)
(.block 0 (.drop [4] (.cut 0 l01_WirePuts_o0 (.loop l01_WirePuts_p0)))))
(.seq (.seq (.reg [⟨.mv, [.k (.n .i64 0)], some 8, none⟩] none)
(.block 2 (.cut 0 l01_WirePuts_o1 (.loop l01_WirePuts_p1))))
(.seq (.seq (.reg [⟨(.call (some 21) 6), [], some 102, none⟩, ⟨(.un .not), [.m 102], some 103, none⟩, ⟨.mv, [.m 103], some 104, none⟩, ⟨.mv, [.v 5], some 105, some (104, false)⟩, ⟨.b2s, [.m 105], some 106, some (104, false)⟩, ⟨.mv, [.m 6], some 107, some (104, false)⟩, ⟨.b2s, [.m 107], some 108, some (104, false)⟩, ⟨(.bin .neq .s), [.m 106, .m 108], some 109, some (104, false)⟩, ⟨.pick, [.m 104, .k (.b true), .m 109], some 110, none⟩] none)
(.drop [6, 105, 106, 107, 108] (.cond 110 (.drop [0, 1, 5, 110] (.seq (.reg [⟨.mv, [.k (.b false)], some 4, none⟩] none)
.ret))
(.drop [110] .skip))))
(.seq (.reg [⟨.mv, [.m 5], some 111, none⟩, ⟨(.call (some 17) 9), [.m 111], some 112, none⟩, ⟨.mv, [.m 112], some 9, none⟩] none)
(.seq (.seq (.reg [⟨.mv, [.k (.n .i64 0)], some 10, none⟩] none)
(.block 4 (.cut 0 l01_WirePuts_o2 (.loop l01_WirePuts_p2))))
(.seq (.seq (.reg [⟨.mv, [.k (.n .i64 0)], some 11, none⟩] none)
(.block 6 (.cut 0 l01_WirePuts_o3 (.loop l01_WirePuts_p3))))
(.seq (.reg [⟨.mv, [.v 9], some 183, none⟩, ⟨(.call (some 22) 15), [.m 183], some 184, none⟩, ⟨(.bin .eql .i), [.m 184, .k (.n .i64 0)], some 185, none⟩, ⟨.mv, [.m 185], some 186, none⟩, ⟨.mv, [.m 9], some 187, some (186, true)⟩, ⟨(.call (some 35) 16), [.m 187], some 188, some (186, true)⟩, ⟨(.bin .eql .i), [.m 188, .k (.n .i64 0)], some 189, some (186, true)⟩, ⟨.pick, [.m 186, .m 189, .k (.b false)], some 190, none⟩, ⟨.mv, [.m 190], some 4, none⟩] none)
(.drop [9, 187, 188] .ret))))))))))
def l01_WirePuts_w : Orc Tb := mkOrc (Y := Bool) tab [.g (.f (.a (.sl 2))), .g (.f (.a (.sl 3)))] [] (fun x h => l01_WirePuts x.1 x.2.1) (fun _ y k => k (.b y) [])
theorem l01_WirePuts_k : (l01_WirePuts_w).Ok Try.prog Wp tab 7 := orc_ok (Y := Bool) (orcs := l01_WirePuts_r) (c := l01_WirePuts_p) (res := [.tmp 4]) (n := 191) (R := (RSp.one (Y := Bool) tab (.g (.f (.a .b))) [] (fun a b => a) (fun y => y) (fun y => ()))) tabOk l01_WirePuts_rk (RSp.one_ok tabOk (fun _ _ => by kernel_rfl) (fun _ _ => by kernel_rfl)) Try.func7 (by kernel_rfl) (by kernel_rfl) (by kernel_rfl) (by kernel_rfl) (cS trivial (cS trivial (cS (cS trivial (cB (cD (cT l01_WirePuts_q0)))) (cS (cS trivial (cB (cT l01_WirePuts_q1))) (cS (cS trivial (cD (cC (cD (cS trivial trivial)) (cD trivial)))) (cS trivial (cS (cS trivial (cB (cT l01_WirePuts_q2))) (cS (cS trivial (cB (cT l01_WirePuts_q3))) (cS trivial (cD trivial)))))))))) (fun _ y k => by kernel_rfl) (fun y => by kernel_rfl) (fun x h => by kernel_rfl)
end Go.Rv
