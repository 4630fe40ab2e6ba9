/- That the program's functions are these plain functions. -/
import Derived.Test.YtaegbddjeibolaaPure
import Derived.Test.YtaegbddjeibolaaChecked
set_option linter.unusedSimpArgs false
set_option linter.unusedVariables false
set_option maxRecDepth 100000
namespace Go.Rv
open Go.Proofs
variable {Wp : World → Prop}
def wire_Read_r : Orcs Tb := []
theorem wire_Read_rk : OrcsOk Try.prog Wp tab wire_Read_r := orcs_nil
def wire_Read_p : TCode Tb :=
(.seq (.reg [⟨.mv, [.k (.nilP)], some 2, none⟩] none)
(.seq (.reg [⟨.mv, [.m 0], some 3, none⟩, ⟨.b2s, [.m 3], some 4, none⟩, ⟨(.build [.s [], .n .i64 0] [(0, 1)]), [.m 4], some 5, none⟩, ⟨.box, [.m 5], some 6, none⟩, ⟨.mv, [.m 6], some 2, none⟩] none)
.ret))
def wire_Read_w : Orc Tb := mkOrc (Y := wire_Reader) tab [.g (.f (.a .bs))] [] (fun x h => wire_Read x.1) (fun _ y k => k (.ref 0 0) [[.s y.b, .n .i64 y.err]])
theorem wire_Read_k : (wire_Read_w).Ok Try.prog Wp tab 17 := orc_ok (Y := wire_Reader) (orcs := wire_Read_r) (c := wire_Read_p) (res := [.tmp 2]) (n := 7) (R := (RSp.one (Y := wire_Reader) tab (.g (.f (.ref 0 0))) [[.g (.f (.a .s)), .g (.f (.a (.n .i64)))]] (fun a b => (⟨b.1.1, b.1.2.1⟩ : wire_Reader)) (fun y => ()) (fun y => ((y.b, y.err, ()), ())))) tabOk wire_Read_rk (RSp.one_ok tabOk (fun _ _ => by kernel_rfl) (fun _ _ => by kernel_rfl)) Try.func17 (by kernel_rfl) (by kernel_rfl) (by kernel_rfl) (by kernel_rfl) (cS trivial (cS trivial trivial)) (fun _ y k => by kernel_rfl) (fun y => by kernel_rfl) (fun x h => by kernel_rfl)
def wire_Reader_Err_r : Orcs Tb := []
theorem wire_Reader_Err_rk : OrcsOk Try.prog Wp tab wire_Reader_Err_r := orcs_nil
def wire_Reader_Err_p : TCode Tb :=
(.seq (.reg [⟨.mv, [.k (.n .i64 0)], some 2, none⟩] none)
(.seq (.seq (.reg [⟨.mv, [.v 0], some 3, none⟩, ⟨(.bin .eql .p), [.m 3, .k (.nilP)], some 4, none⟩] none)
(.cond 4 (.drop [0, 2, 4] (.seq (.reg [⟨.mv, [.k (.n .i64 1)], some 2, none⟩] none)
.ret))
(.drop [2, 4] .skip)))
(.seq (.reg [⟨.mv, [.m 0], some 5, none⟩, ⟨.nilck, [.m 5], some 6, none⟩, ⟨(.fa 1), [.m 6], some 7, none⟩, ⟨(.load none), [.m 7], some 8, none⟩, ⟨.mv, [.m 8], some 2, none⟩] none)
.ret)))
def wire_Reader_Err_w : Orc Tb := mkOrc (Y := Int × wire_Reader) tab [.g (.f (.ref 0 0))] [[.g (.f (.a .s)), .g (.f (.a (.n .i64)))]] (fun x h => wire_Reader_Err (⟨h.1.1, h.1.2.1⟩ : wire_Reader)) (fun _ y k => k (.n .i64 y.1) [[.s y.2.b, .n .i64 y.2.err]])
theorem wire_Reader_Err_k : (wire_Reader_Err_w).Ok Try.prog Wp tab 22 := orc_ok (Y := Int × wire_Reader) (orcs := wire_Reader_Err_r) (c := wire_Reader_Err_p) (res := [.tmp 2]) (n := 9) (R := (RSp.one (Y := Int × wire_Reader) tab (.g (.f (.a (.n .i64)))) [[.g (.f (.a .s)), .g (.f (.a (.n .i64)))]] (fun a b => (a, (⟨b.1.1, b.1.2.1⟩ : wire_Reader))) (fun y => y.1) (fun y => ((y.2.b, y.2.err, ()), ())))) tabOk wire_Reader_Err_rk (RSp.one_ok tabOk (fun _ _ => by kernel_rfl) (fun _ _ => by kernel_rfl)) Try.func22 (by kernel_rfl) (by kernel_rfl) (by kernel_rfl) (by kernel_rfl) (cS trivial (cS (cS trivial (cC (cD (cS trivial trivial)) (cD trivial))) (cS trivial trivial))) (fun _ y k => by kernel_rfl) (fun y => by kernel_rfl) (fun x h => by kernel_rfl)
def wire_digits_r : Orcs Tb := []
theorem wire_digits_rk : OrcsOk Try.prog Wp tab wire_digits_r := orcs_nil
def wire_digits_p0 : TCode Tb :=
(.seq (.reg [⟨(.bin .lss .i), [.v 7, .k (.n .i64 4)], some 8, none⟩] none)
(.seq (.cond 8 (.drop [8] .skip)
(.drop [0, 2, 7, 8] (.exit 0)))
(.seq (.block 1 (.seq (.reg [⟨.mv, [.v 7], some 9, none⟩, ⟨.mv, [.m 9], some 5, none⟩] none)
(.seq (.seq (.reg [⟨.mv, [.v 5], some 10, none⟩, ⟨.mv, [.v 0], some 11, none⟩, ⟨.lens, [.m 11], some 12, none⟩, ⟨(.bin .geq .i), [.m 10, .m 12], some 13, none⟩] none)
(.cond 13 (.drop [0, 2, 5, 7, 13] (.seq (.reg [⟨.mv, [.k (.u32 (0 : UInt32))], some 2, none⟩, ⟨.mv, [.k (.n .i64 0)], some 3, none⟩, ⟨.mv, [.k (.n .i64 2)], some 4, none⟩] none)
.ret))
(.drop [13] .skip)))
(.seq (.reg [⟨.mv, [.v 0], some 14, none⟩, ⟨.mv, [.v 5], some 15, none⟩, ⟨.sidx, [.m 14, .m 15], some 16, none⟩, ⟨.mv, [.m 16], some 6, none⟩] none)
(.seq (.reg [⟨.mv, [.m 2], some 17, none⟩, ⟨.mv, [.v 6], some 18, none⟩, ⟨(.bin .andNot .i), [.m 18, .k (.u8 (128 : UInt8))], some 19, none⟩, ⟨(.cint .u32), [.m 19], some 20, none⟩, ⟨.mv, [.v 5], some 21, none⟩, ⟨(.bin .mul .i), [.k (.n .i64 7), .m 21], some 22, none⟩, ⟨(.bin .shl .i), [.m 20, .m 22], some 23, none⟩, ⟨(.bin .or .i), [.m 17, .m 23], some 24, none⟩, ⟨.mv, [.m 24], some 2, none⟩] none)
(.seq (.block 2 (.seq (.reg [⟨.mv, [.v 6], some 26, none⟩, ⟨(.bin .geq .i), [.m 26, .k (.u8 (128 : UInt8))], some 27, none⟩, ⟨.mv, [.m 27], some 25, none⟩] none)
(.cond 25 (.drop [5, 6, 25] (.exit 1))
(.drop [0, 7, 25] (.seq (.reg [⟨.mv, [.m 6], some 29, none⟩, ⟨(.bin .eql .i), [.m 29, .k (.u8 (0 : UInt8))], some 30, none⟩, ⟨.mv, [.m 30], some 31, none⟩, ⟨.mv, [.v 5], some 32, some (31, true)⟩, ⟨(.bin .gtr .i), [.m 32, .k (.n .i64 0)], some 33, some (31, true)⟩, ⟨.pick, [.m 31, .m 33, .k (.b false)], some 34, none⟩, ⟨.mv, [.m 34], some 28, none⟩] none)
(.drop [32] (.cond 28 (.drop [2, 5, 28] (.seq (.reg [⟨.mv, [.k (.u32 (0 : UInt32))], some 2, none⟩, ⟨.mv, [.k (.n .i64 0)], some 3, none⟩, ⟨.mv, [.k (.n .i64 3)], some 4, none⟩] none)
.ret))
(.drop [28] .skip))))))))
(.seq (.reg [⟨.mv, [.m 2], some 35, none⟩, ⟨.mv, [.m 5], some 36, none⟩, ⟨(.bin .add .i), [.m 36, .k (.n .i64 1)], some 37, none⟩, ⟨.mv, [.m 35], some 2, none⟩, ⟨.mv, [.m 37], some 3, none⟩, ⟨.mv, [.k (.n .i64 0)], some 4, none⟩] none)
.ret)))))))
(.reg [⟨(.bin .add .i), [.m 7, .k (.n .i64 1)], some 38, none⟩, ⟨.mv, [.m 38], some 7, none⟩] none))))
def wire_digits_s0 : SSh := ⟨[(0, .g (.f (.a .s))), (2, .g (.f (.a .u32))), (7, .g (.f (.a (.n .i64))))], []⟩
def wire_digits_o0 : Cut Tb := cutL tab 0 wire_digits_s0 (fun x => (x.1.2.1, x.1.2.2.1)) (fun x => wire_digits_l0 x.1.1) (fun _ x y k => match y with | .inl y => k .ret ⟨[(2, .u32 y.1), (3, .n .i64 y.2.1), (4, .n .i64 y.2.2)], []⟩ | .inr y => k (.exit 0) ⟨[], []⟩)
theorem wire_digits_q0 : (wire_digits_o0).Ok Try.prog Wp tab 0 (.loop wire_digits_p0) := cutL_ok (c := wire_digits_p0) (Z := UInt32 × Int) (Y := (UInt32 × Int × Int) ⊕ Unit) tabOk wire_digits_rk (cS trivial (cS (cC (cD trivial) (cD trivial)) (cS (cB (cS trivial (cS (cS trivial (cC (cD (cS trivial trivial)) (cD trivial))) (cS trivial (cS trivial (cS (cB (cS trivial (cC (cD trivial) (cD (cS trivial (cD (cC (cD (cS trivial trivial)) (cD trivial)))))))) (cS trivial trivial))))))) trivial))) (fun _ x z b e => wire_digits_b0 x.1.1 z.1 z.2 (fun x3 x4 => b (x3, x4)) (fun y6 y7 y8 => e (.inl (y6, y7, y8))) (e (.inr ()))) (fun x z => ⟨[(0, .s x.1.1), (2, .u32 z.1), (7, .n .i64 z.2)], []⟩) (fun x y => match y with | .inl y => (.ret, ⟨[(2, .u32 y.1), (3, .n .i64 y.2.1), (4, .n .i64 y.2.2)], []⟩) | .inr y => ((.exit 0), ⟨[], []⟩)) (fun t => (prjS tab 0 wire_digits_s0 t).bind fun x => some (x.1.2.1, x.1.2.2.1)) (fun e t => (if eqE e .ret then orElse ((prjS tab 0 ⟨[(2, .g (.f (.a .u32))), (3, .g (.f (.a (.n .i64)))), (4, .g (.f (.a (.n .i64))))], []⟩ t).bind fun v => some (.inl (v.1.1, v.1.2.1, v.1.2.2.1))) (if eqE e (.exit 0) then (prjS tab 0 ⟨[], []⟩ t).bind fun v => some (.inr ()) else none) else (if eqE e (.exit 0) then (prjS tab 0 ⟨[], []⟩ t).bind fun v => some (.inr ()) else none))) (fun x => by kernel_rfl) (fun x z => by kernel_rfl) (fun x y k => by rcases y with y | y <;> kernel_rfl) (fun x y => by rcases y with y | y <;> exact nofun) (fun x z => by kernel_rfl) (fun x y => by rcases y with y | y <;> kernel_rfl) (fun x z k => by kernel_rfl)
def wire_digits_p : TCode Tb :=
(.seq (.reg [⟨.mv, [.k (.u32 (0 : UInt32))], some 2, none⟩, ⟨.mv, [.k (.n .i64 0)], some 3, none⟩, ⟨.mv, [.k (.n .i64 0)], some 4, none⟩] none)
(.seq (.seq (.reg [⟨.mv, [.k (.n .i64 0)], some 7, none⟩] none)
(.block 0 (.drop [3, 4] (.cut 0 wire_digits_o0 (.loop wire_digits_p0)))))
(.seq (.reg [⟨.mv, [.k (.u32 (0 : UInt32))], some 2, none⟩, ⟨.mv, [.k (.n .i64 0)], some 3, none⟩, ⟨.mv, [.k (.n .i64 3)], some 4, none⟩] none)
.ret)))
def wire_digits_w : Orc Tb := mkOrc (Y := UInt32 × Int × Int) tab [.g (.f (.a .s))] [] (fun x h => wire_digits x.1) (fun _ y k => k (.tup [.u32 y.1, .n .i64 y.2.1, .n .i64 y.2.2]) [])
theorem wire_digits_k : (wire_digits_w).Ok Try.prog Wp tab 47 := orc_ok (Y := UInt32 × Int × Int) (orcs := wire_digits_r) (c := wire_digits_p) (res := [.tmp 2, .tmp 3, .tmp 4]) (n := 39) (R := (RSp.one (Y := UInt32 × Int × Int) tab (.tup [.f (.a .u32), .f (.a (.n .i64)), .f (.a (.n .i64))]) [] (fun a b => (a.1, a.2.1, a.2.2.1)) (fun y => (y.1, y.2.1, y.2.2, ())) (fun y => ()))) tabOk wire_digits_rk (RSp.one_ok tabOk (fun _ _ => by kernel_rfl) (fun _ _ => by kernel_rfl)) Try.func47 (by kernel_rfl) (by kernel_rfl) (by kernel_rfl) (by kernel_rfl) (cS trivial (cS (cS trivial (cB (cD (cT wire_digits_q0)))) (cS trivial trivial))) (fun _ y k => by kernel_rfl) (fun y => by kernel_rfl) (fun x h => by kernel_rfl)
def wire_Reader_Var_r : Orcs Tb := [(22, wire_Reader_Err_w), (47, wire_digits_w)]
theorem wire_Reader_Var_rk : OrcsOk Try.prog Wp tab wire_Reader_Var_r := (orcs_cons wire_Reader_Err_k (orcs_cons wire_digits_k orcs_nil))
def wire_Reader_Var_p : TCode Tb :=
(.seq (.reg [⟨.mv, [.k (.u32 (0 : UInt32))], some 2, none⟩] none)
(.seq (.seq (.reg [⟨.mv, [.v 0], some 6, none⟩, ⟨(.call (some 22) 0), [.m 6], some 7, none⟩, ⟨(.bin .neq .i), [.m 7, .k (.n .i64 0)], some 8, none⟩] none)
(.cond 8 (.drop [0, 2, 8] (.seq (.reg [⟨.mv, [.k (.u32 (0 : UInt32))], some 2, none⟩] none)
.ret))
(.drop [2, 8] .skip)))
(.seq (.reg [⟨.mv, [.v 0], some 10, none⟩, ⟨.nilck, [.m 10], some 11, none⟩, ⟨(.fa 0), [.m 11], some 12, none⟩, ⟨(.load none), [.m 12], some 13, none⟩, ⟨(.call (some 47) 1), [.m 13], some 14, none⟩, ⟨.mv, [.m 14], some 9, none⟩, ⟨.extm, [.c 9 0], some 15, none⟩, ⟨.extm, [.c 9 1], some 16, none⟩, ⟨(.ext 2), [.m 9], some 17, none⟩, ⟨.mv, [.m 15], some 3, none⟩, ⟨.mv, [.m 16], some 4, none⟩, ⟨.mv, [.m 17], some 5, none⟩] none)
(.seq (.reg [⟨.mv, [.v 0], some 18, none⟩, ⟨.mv, [.m 5], some 19, none⟩, ⟨.nilck, [.m 18], some 20, none⟩, ⟨(.fa 1), [.m 20], some 21, none⟩, ⟨(.store 1), [.m 21, .m 19], none, none⟩] none)
(.seq (.reg [⟨.mv, [.v 0], some 22, none⟩, ⟨.mv, [.m 0], some 23, none⟩, ⟨.nilck, [.m 23], some 24, none⟩, ⟨(.fa 0), [.m 24], some 25, none⟩, ⟨(.load none), [.m 25], some 26, none⟩, ⟨.mv, [.m 4], some 27, none⟩, ⟨(.sstr true false), [.m 26, .m 27], some 28, none⟩, ⟨.nilck, [.m 22], some 29, none⟩, ⟨(.fa 0), [.m 29], some 30, none⟩, ⟨(.store 1), [.m 30, .m 28], none, none⟩] none)
(.seq (.reg [⟨.mv, [.m 3], some 31, none⟩, ⟨.mv, [.m 31], some 2, none⟩] none)
.ret))))))
def wire_Reader_Var_w : Orc Tb := mkOrc (Y := UInt32 × wire_Reader) tab [.g (.f (.ref 0 0))] [[.g (.f (.a .s)), .g (.f (.a (.n .i64)))]] (fun x h => wire_Reader_Var (⟨h.1.1, h.1.2.1⟩ : wire_Reader)) (fun _ y k => k (.u32 y.1) [[.s y.2.b, .n .i64 y.2.err]])
theorem wire_Reader_Var_k : (wire_Reader_Var_w).Ok Try.prog Wp tab 18 := orc_ok (Y := UInt32 × wire_Reader) (orcs := wire_Reader_Var_r) (c := wire_Reader_Var_p) (res := [.tmp 2]) (n := 32) (R := (RSp.one (Y := UInt32 × wire_Reader) tab (.g (.f (.a .u32))) [[.g (.f (.a .s)), .g (.f (.a (.n .i64)))]] (fun a b => (a, (⟨b.1.1, b.1.2.1⟩ : wire_Reader))) (fun y => y.1) (fun y => ((y.2.b, y.2.err, ()), ())))) tabOk wire_Reader_Var_rk (RSp.one_ok tabOk (fun _ _ => by kernel_rfl) (fun _ _ => by kernel_rfl)) Try.func18 (by kernel_rfl) (by kernel_rfl) (by kernel_rfl) (by kernel_rfl) (cS trivial (cS (cS trivial (cC (cD (cS trivial trivial)) (cD trivial))) (cS trivial (cS trivial (cS trivial (cS trivial trivial)))))) (fun _ y k => by kernel_rfl) (fun y => by kernel_rfl) (fun x h => by kernel_rfl)
def r01_Reader_Var_r : Orcs Tb := []
theorem r01_Reader_Var_rk : OrcsOk Try.prog Wp tab r01_Reader_Var_r := orcs_nil
def r01_Reader_Var_p1 : TCode Tb :=
(.seq (.reg [⟨.mv, [.m 6], some 68, none⟩, ⟨(.bin .lss .i), [.m 68, .k (.u32 (128 : UInt32))], some 69, none⟩] none)
(.cond 69 (.drop [4, 69] (.seq (.reg [⟨.mv, [.v 0], some 70, none⟩, ⟨.mv, [.m 0], some 71, none⟩, ⟨.nilck, [.m 71], some 72, none⟩, ⟨(.fa 1), [.m 72], some 73, none⟩, ⟨(.load none), [.m 73], some 74, none⟩, ⟨.mv, [.m 5], some 75, none⟩, ⟨(.bin .add .i), [.m 74, .m 75], some 76, none⟩, ⟨(.bin .add .i), [.m 76, .k (.n .i64 1)], some 77, none⟩, ⟨.nilck, [.m 70], some 78, none⟩, ⟨(.fa 1), [.m 78], some 79, none⟩, ⟨(.store 1), [.m 79, .m 77], none, none⟩] none)
(.seq (.reg [⟨.mv, [.m 3], some 80, none⟩, ⟨.mv, [.m 80], some 2, none⟩] none)
.ret)))
(.drop [69] .skip)))
def r01_Reader_Var_s1 : SSh := ⟨[(0, .g (.f (.ref 0 0))), (3, .g (.f (.a .u32))), (4, .g (.f (.a .u32))), (5, .g (.f (.a (.n .i64)))), (6, .g (.f (.a .u32)))], [[.g (.f (.a .s)), .g (.f (.a (.n .i64))), .g (.f (.a (.n .i64)))]]⟩
def r01_Reader_Var_o1 : Cut Tb := cutJ tab 1 r01_Reader_Var_s1 (fun _ x k => r01_Reader_Var_c1 x.1.2.2.2.1 x.1.2.2.2.2.1 (⟨x.2.1.1, x.2.1.2.1, x.2.1.2.2.1⟩ : r01_Reader) (fun y12 => k .ret ⟨[(2, .u32 x.1.2.1)], [[.s ((⟨x.2.1.1, x.2.1.2.1, x.2.1.2.2.1⟩ : r01_Reader).B), .n .i64 y12, .n .i64 ((⟨x.2.1.1, x.2.1.2.1, x.2.1.2.2.1⟩ : r01_Reader).Bad)]]⟩) (k .normal ⟨[(0, .ref 0 0), (3, .u32 x.1.2.1), (4, .u32 x.1.2.2.1), (5, .n .i64 x.1.2.2.2.1)], [[.s ((⟨x.2.1.1, x.2.1.2.1, x.2.1.2.2.1⟩ : r01_Reader).B), .n .i64 ((⟨x.2.1.1, x.2.1.2.1, x.2.1.2.2.1⟩ : r01_Reader).At), .n .i64 ((⟨x.2.1.1, x.2.1.2.1, x.2.1.2.2.1⟩ : r01_Reader).Bad)]]⟩))
theorem r01_Reader_Var_q1 : (r01_Reader_Var_o1).Ok Try.prog Wp tab 1 r01_Reader_Var_p1 := cutJ_ok (c := r01_Reader_Var_p1) tabOk r01_Reader_Var_rk (cS trivial (cC (cD (cS trivial (cS trivial trivial))) (cD trivial))) (fun _ _ => by kernel_rfl)
def r01_Reader_Var_p0 : TCode Tb :=
(.seq (.seq (.reg [⟨.mv, [.v 5], some 12, none⟩, ⟨(.bin .lss .i), [.m 12, .k (.n .i64 4)], some 13, none⟩] none)
(.cond 13 (.drop [13] .skip)
(.drop [0, 3, 4, 5, 13] (.exit 0))))
(.seq (.block 1 (.seq (.seq (.reg [⟨.mv, [.v 0], some 16, none⟩, ⟨.nilck, [.m 16], some 17, none⟩, ⟨(.fa 1), [.m 17], some 18, none⟩, ⟨(.load none), [.m 18], some 19, none⟩, ⟨.mv, [.v 5], some 20, none⟩, ⟨(.bin .add .i), [.m 19, .m 20], some 21, none⟩, ⟨.mv, [.v 0], some 22, none⟩, ⟨.nilck, [.m 22], some 23, none⟩, ⟨(.fa 0), [.m 23], some 24, none⟩, ⟨(.load none), [.m 24], some 25, none⟩, ⟨.lens, [.m 25], some 26, none⟩, ⟨(.bin .geq .i), [.m 21, .m 26], some 27, none⟩] (some [[], [], [], [], [], [], [], [], [], [3], [], []]))
(.cond 27 (.drop [3, 4, 5, 27] (.seq (.reg [⟨.mv, [.m 0], some 28, none⟩, ⟨.nilck, [.m 28], some 29, none⟩, ⟨(.fa 2), [.m 29], some 30, none⟩, ⟨(.store 1), [.m 30, .k (.n .i64 2)], none, none⟩] none)
(.seq (.reg [⟨.mv, [.k (.u32 (0 : UInt32))], some 2, none⟩] none)
.ret)))
(.drop [27] .skip)))
(.seq (.reg [⟨.mv, [.v 0], some 31, none⟩, ⟨.nilck, [.m 31], some 32, none⟩, ⟨(.fa 0), [.m 32], some 33, none⟩, ⟨(.load none), [.m 33], some 34, none⟩, ⟨.mv, [.v 0], some 35, none⟩, ⟨.nilck, [.m 35], some 36, none⟩, ⟨(.fa 1), [.m 36], some 37, none⟩, ⟨(.load none), [.m 37], some 38, none⟩, ⟨.mv, [.v 5], some 39, none⟩, ⟨(.bin .add .i), [.m 38, .m 39], some 40, none⟩, ⟨.sidx, [.m 34, .m 40], some 41, none⟩, ⟨(.cint .u32), [.m 41], some 42, none⟩, ⟨.mv, [.m 42], some 6, none⟩] (some [[], [], [], [], [], [], [], [3], [], [], [], [], []]))
(.seq (.reg [⟨.mv, [.m 3], some 43, none⟩, ⟨.mv, [.v 6], some 44, none⟩, ⟨(.bin .rem .i), [.m 44, .k (.u32 (128 : UInt32))], some 45, none⟩, ⟨.mv, [.v 4], some 46, none⟩, ⟨(.bin .mul .i), [.m 45, .m 46], some 47, none⟩, ⟨(.bin .add .i), [.m 43, .m 47], some 48, none⟩, ⟨.mv, [.m 48], some 3, none⟩] none)
(.seq (.reg [⟨.mv, [.m 4], some 49, none⟩, ⟨(.bin .mul .i), [.m 49, .k (.u32 (128 : UInt32))], some 50, none⟩, ⟨.mv, [.m 50], some 4, none⟩] none)
(.seq (.seq (.reg [⟨.mv, [.v 6], some 51, none⟩, ⟨(.bin .geq .i), [.m 51, .k (.u32 (128 : UInt32))], some 52, none⟩, ⟨.mv, [.m 52], some 53, none⟩, ⟨.mv, [.v 5], some 54, some (53, true)⟩, ⟨(.bin .eql .i), [.m 54, .k (.n .i64 3)], some 55, some (53, true)⟩, ⟨.pick, [.m 53, .m 55, .k (.b false)], some 56, none⟩, ⟨.mv, [.m 56], some 57, none⟩, ⟨.mv, [.v 6], some 58, some (57, false)⟩, ⟨(.bin .eql .i), [.m 58, .k (.u32 (0 : UInt32))], some 59, some (57, false)⟩, ⟨.mv, [.m 59], some 60, some (57, false)⟩, ⟨.mv, [.v 5], some 61, some (60, true)⟩, ⟨(.bin .gtr .i), [.m 61, .k (.n .i64 0)], some 62, some (60, true)⟩, ⟨.pick, [.m 60, .m 62, .k (.b false)], some 63, some (57, false)⟩, ⟨.pick, [.m 57, .k (.b true), .m 63], some 64, none⟩] none)
(.drop [54, 58, 59, 60, 61, 62] (.cond 64 (.drop [3, 4, 5, 6, 64] (.seq (.reg [⟨.mv, [.m 0], some 65, none⟩, ⟨.nilck, [.m 65], some 66, none⟩, ⟨(.fa 2), [.m 66], some 67, none⟩, ⟨(.store 1), [.m 67, .k (.n .i64 3)], none, none⟩] none)
(.seq (.reg [⟨.mv, [.k (.u32 (0 : UInt32))], some 2, none⟩] none)
.ret)))
(.drop [64] .skip))))
(.cut 1 r01_Reader_Var_o1 r01_Reader_Var_p1)))))))
(.reg [⟨.mv, [.m 5], some 14, none⟩, ⟨(.bin .add .i), [.m 14, .k (.n .i64 1)], some 15, none⟩, ⟨.mv, [.m 15], some 5, none⟩] none)))
def r01_Reader_Var_s0 : SSh := ⟨[(0, .g (.f (.ref 0 0))), (3, .g (.f (.a .u32))), (4, .g (.f (.a .u32))), (5, .g (.f (.a (.n .i64))))], [[.g (.f (.a .s)), .g (.f (.a (.n .i64))), .g (.f (.a (.n .i64)))]]⟩
def r01_Reader_Var_o0 : Cut Tb := cutL tab 1 r01_Reader_Var_s0 (fun x => (x.1.2.1, x.1.2.2.1, x.1.2.2.2.1)) (fun x => r01_Reader_Var_l0 (⟨x.2.1.1, x.2.1.2.1, x.2.1.2.2.1⟩ : r01_Reader)) (fun _ x y k => match y with | .inl y => k .ret ⟨[(2, .u32 y.1)], [[.s ((⟨x.2.1.1, x.2.1.2.1, x.2.1.2.2.1⟩ : r01_Reader).B), .n .i64 y.2.1, .n .i64 y.2.2]]⟩ | .inr y => k (.exit 0) ⟨[], [[.s ((⟨x.2.1.1, x.2.1.2.1, x.2.1.2.2.1⟩ : r01_Reader).B), .n .i64 ((⟨x.2.1.1, x.2.1.2.1, x.2.1.2.2.1⟩ : r01_Reader).At), .n .i64 ((⟨x.2.1.1, x.2.1.2.1, x.2.1.2.2.1⟩ : r01_Reader).Bad)]]⟩)
theorem r01_Reader_Var_q0 : (r01_Reader_Var_o0).Ok Try.prog Wp tab 1 (.loop r01_Reader_Var_p0) := cutL_ok (c := r01_Reader_Var_p0) (Z := UInt32 × UInt32 × Int) (Y := (UInt32 × Int × Int) ⊕ Unit) tabOk r01_Reader_Var_rk (cS (cS trivial (cC (cD trivial) (cD trivial))) (cS (cB (cS (cS trivial (cC (cD (cS trivial (cS trivial trivial))) (cD trivial))) (cS trivial (cS trivial (cS trivial (cS (cS trivial (cD (cC (cD (cS trivial (cS trivial trivial))) (cD trivial)))) (cT r01_Reader_Var_q1))))))) trivial)) (fun _ x z b e => r01_Reader_Var_b0 (⟨x.2.1.1, x.2.1.2.1, x.2.1.2.2.1⟩ : r01_Reader) z.1 z.2.1 z.2.2 (fun x2 x3 x4 => b (x2, x3, x4)) (fun y17 y18 y19 => e (.inl (y17, y18, y19))) (e (.inr ()))) (fun x z => ⟨[(0, .ref 0 0), (3, .u32 z.1), (4, .u32 z.2.1), (5, .n .i64 z.2.2)], [[.s ((⟨x.2.1.1, x.2.1.2.1, x.2.1.2.2.1⟩ : r01_Reader).B), .n .i64 ((⟨x.2.1.1, x.2.1.2.1, x.2.1.2.2.1⟩ : r01_Reader).At), .n .i64 ((⟨x.2.1.1, x.2.1.2.1, x.2.1.2.2.1⟩ : r01_Reader).Bad)]]⟩) (fun x y => match y with | .inl y => (.ret, ⟨[(2, .u32 y.1)], [[.s ((⟨x.2.1.1, x.2.1.2.1, x.2.1.2.2.1⟩ : r01_Reader).B), .n .i64 y.2.1, .n .i64 y.2.2]]⟩) | .inr y => ((.exit 0), ⟨[], [[.s ((⟨x.2.1.1, x.2.1.2.1, x.2.1.2.2.1⟩ : r01_Reader).B), .n .i64 ((⟨x.2.1.1, x.2.1.2.1, x.2.1.2.2.1⟩ : r01_Reader).At), .n .i64 ((⟨x.2.1.1, x.2.1.2.1, x.2.1.2.2.1⟩ : r01_Reader).Bad)]]⟩)) (fun t => (prjS tab 1 r01_Reader_Var_s0 t).bind fun x => some (x.1.2.1, x.1.2.2.1, x.1.2.2.2.1)) (fun e t => (if eqE e .ret then orElse ((prjS tab 1 ⟨[(2, .g (.f (.a .u32)))], [[.g (.f (.a .s)), .g (.f (.a (.n .i64))), .g (.f (.a (.n .i64)))]]⟩ t).bind fun v => some (.inl (v.1.1, v.2.1.2.1, v.2.1.2.2.1))) (if eqE e (.exit 0) then (prjS tab 1 ⟨[], [[.g (.f (.a .s)), .g (.f (.a (.n .i64))), .g (.f (.a (.n .i64)))]]⟩ t).bind fun v => some (.inr ()) else none) else (if eqE e (.exit 0) then (prjS tab 1 ⟨[], [[.g (.f (.a .s)), .g (.f (.a (.n .i64))), .g (.f (.a (.n .i64)))]]⟩ t).bind fun v => some (.inr ()) else none))) (fun x => by kernel_rfl) (fun x z => by kernel_rfl) (fun x y k => by rcases y with y | y <;> kernel_rfl) (fun x y => by rcases y with y | y <;> exact nofun) (fun x z => by kernel_rfl) (fun x y => by rcases y with y | y <;> kernel_rfl) (fun x z k => by kernel_rfl)
def r01_Reader_Var_p : TCode Tb :=
(.seq (.reg [⟨.mv, [.k (.u32 (0 : UInt32))], some 2, none⟩] none)
(.seq (.seq (.reg [⟨.mv, [.v 0], some 7, none⟩, ⟨.nilck, [.m 7], some 8, none⟩, ⟨(.fa 2), [.m 8], some 9, none⟩, ⟨(.load none), [.m 9], some 10, none⟩, ⟨(.bin .neq .i), [.m 10, .k (.n .i64 0)], some 11, none⟩] none)
(.cond 11 (.drop [0, 2, 11] (.seq (.reg [⟨.mv, [.k (.u32 (0 : UInt32))], some 2, none⟩] none)
.ret))
(.drop [2, 11] .skip)))
(.seq (.reg [⟨.mv, [.k (.u32 (0 : UInt32))], some 3, none⟩, ⟨.mv, [.k (.u32 (1 : UInt32))], some 4, none⟩] none)
(.seq (.seq (.reg [⟨.mv, [.k (.n .i64 0)], some 5, none⟩] none)
(.block 0 (.cut 1 r01_Reader_Var_o0 (.loop r01_Reader_Var_p0))))
(.seq (.reg [⟨.mv, [.k (.u32 (0 : UInt32))], some 2, none⟩] none)
.ret)))))
def r01_Reader_Var_w : Orc Tb := mkOrc (Y := UInt32 × r01_Reader) tab [.g (.f (.ref 0 0))] [[.g (.f (.a .s)), .g (.f (.a (.n .i64))), .g (.f (.a (.n .i64)))]] (fun x h => r01_Reader_Var (⟨h.1.1, h.1.2.1, h.1.2.2.1⟩ : r01_Reader)) (fun _ y k => k (.u32 y.1) [[.s y.2.B, .n .i64 y.2.At, .n .i64 y.2.Bad]])
theorem r01_Reader_Var_k : (r01_Reader_Var_w).Ok Try.prog Wp tab 19 := orc_ok (Y := UInt32 × r01_Reader) (orcs := r01_Reader_Var_r) (c := r01_Reader_Var_p) (res := [.tmp 2]) (n := 81) (R := (RSp.one (Y := UInt32 × r01_Reader) tab (.g (.f (.a .u32))) [[.g (.f (.a .s)), .g (.f (.a (.n .i64))), .g (.f (.a (.n .i64)))]] (fun a b => (a, (⟨b.1.1, b.1.2.1, b.1.2.2.1⟩ : r01_Reader))) (fun y => y.1) (fun y => ((y.2.B, y.2.At, y.2.Bad, ()), ())))) tabOk r01_Reader_Var_rk (RSp.one_ok tabOk (fun _ _ => by kernel_rfl) (fun _ _ => by kernel_rfl)) Try.func19 (by kernel_rfl) (by kernel_rfl) (by kernel_rfl) (by kernel_rfl) (cS trivial (cS (cS trivial (cC (cD (cS trivial trivial)) (cD trivial))) (cS trivial (cS (cS trivial (cB (cT r01_Reader_Var_q0))) (cS trivial trivial))))) (fun _ y k => by kernel_rfl) (fun y => by kernel_rfl) (fun x h => by kernel_rfl)
def slices_Clone_s_byte_byte_r : Orcs Tb := []
theorem slices_Clone_s_byte_byte_rk : OrcsOk Try.prog Wp tab slices_Clone_s_byte_byte_r := orcs_nil
def slices_Clone_s_byte_byte_p : TCode Tb :=
(.seq (.reg [⟨.mv, [.k (.nilS)], some 2, none⟩] none)
(.seq (.seq (.reg [⟨.mv, [.v 0], some 3, none⟩, ⟨(.bin .eql .sl), [.v 3, .k (.nilS)], some 4, none⟩] none)
(.cond 4 (.drop [0, 2, 3, 4] (.seq (.reg [⟨.mv, [.k (.nilS)], some 2, none⟩] none)
.ret))
(.drop [2, 3, 4] .skip)))
(.seq (.reg [⟨(.b8 0 []), [], some 5, none⟩, ⟨.mv, [.m 0], some 6, none⟩, ⟨(.app 1 1), [.m 5, .m 6], some 7, none⟩, ⟨.mv, [.m 7], some 2, none⟩] none)
.ret)))
def slices_Clone_s_byte_byte_w : Orc Tb := mkOrc (Y := (Option (List UInt8))) tab [.g (.f (.a .bs))] [] (fun x h => slices_Clone_s_byte_byte x.1) (fun _ y k => k (.bo y) [])
theorem slices_Clone_s_byte_byte_k : (slices_Clone_s_byte_byte_w).Ok Try.prog Wp tab 48 := orc_ok (Y := (Option (List UInt8))) (orcs := slices_Clone_s_byte_byte_r) (c := slices_Clone_s_byte_byte_p) (res := [.tmp 2]) (n := 8) (R := (RSp.one (Y := (Option (List UInt8))) tab (.g (.f (.bo))) [] (fun a b => a) (fun y => y) (fun y => ()))) tabOk slices_Clone_s_byte_byte_rk (RSp.one_ok tabOk (fun _ _ => by kernel_rfl) (fun _ _ => by kernel_rfl)) Try.func48 (by kernel_rfl) (by kernel_rfl) (by kernel_rfl) (by kernel_rfl) (cS trivial (cS (cS trivial (cC (cD (cS trivial trivial)) (cD trivial))) (cS trivial trivial))) (fun _ y k => by kernel_rfl) (fun y => by kernel_rfl) (fun x h => by kernel_rfl)
def wire_Var_r : Orcs Tb := [(48, slices_Clone_s_byte_byte_w)]
theorem wire_Var_rk : OrcsOk Try.prog Wp tab wire_Var_r := (orcs_cons slices_Clone_s_byte_byte_k orcs_nil)
def wire_Var_p0 : TCode Tb :=
(.seq (.seq (.reg [⟨.mv, [.v 1], some 11, none⟩, ⟨(.bin .geq .i), [.m 11, .k (.u32 (128 : UInt32))], some 12, none⟩] none)
(.cond 12 (.drop [12] .skip)
(.drop [12] (.exit 0))))
(.seq (.block 1 (.reg [⟨.mv, [.m 5], some 15, none⟩, ⟨.mv, [.v 1], some 16, none⟩, ⟨(.cint .u8), [.m 16], some 17, none⟩, ⟨(.bin .or .i), [.m 17, .k (.u8 (128 : UInt8))], some 18, none⟩, ⟨(.b8 1 [0]), [.m 18], some 19, none⟩, ⟨(.app 1 1), [.m 15, .m 19], some 20, none⟩, ⟨.mv, [.m 20], some 5, none⟩] none))
(.reg [⟨.mv, [.m 1], some 13, none⟩, ⟨(.bin .shr .i), [.m 13, .k (.u64 (7 : UInt64))], some 14, none⟩, ⟨.mv, [.m 14], some 1, none⟩] none)))
def wire_Var_s0 : SSh := ⟨[(1, .g (.f (.a .u32))), (5, .g (.f (.bo)))], []⟩
def wire_Var_o0 : Cut Tb := cutL tab 0 wire_Var_s0 (fun x => (x.1.1, x.1.2.1)) (fun x => wire_Var_l0) (fun _ x y k => k (.exit 0) ⟨[(1, .u32 y.1), (5, .bo y.2)], []⟩)
theorem wire_Var_q0 : (wire_Var_o0).Ok Try.prog Wp tab 0 (.loop wire_Var_p0) := cutL_ok (c := wire_Var_p0) (Z := UInt32 × (Option (List UInt8))) (Y := UInt32 × (Option (List UInt8))) tabOk wire_Var_rk (cS (cS trivial (cC (cD trivial) (cD trivial))) (cS (cB trivial) trivial)) (fun _ x z b e => wire_Var_b0 z.1 z.2 (fun x4 x5 => b (x4, x5)) (fun y7 y8 => e (y7, y8))) (fun x z => ⟨[(1, .u32 z.1), (5, .bo z.2)], []⟩) (fun x y => ((.exit 0), ⟨[(1, .u32 y.1), (5, .bo y.2)], []⟩)) (fun t => (prjS tab 0 wire_Var_s0 t).bind fun x => some (x.1.1, x.1.2.1)) (fun e t => (if eqE e (.exit 0) then (prjS tab 0 ⟨[(1, .g (.f (.a .u32))), (5, .g (.f (.bo)))], []⟩ t).bind fun v => some (v.1.1, v.1.2.1) else none)) (fun x => by kernel_rfl) (fun x z => by kernel_rfl) (fun x y k => by kernel_rfl) (fun x y => by exact nofun) (fun x z => by kernel_rfl) (fun x y => by kernel_rfl) (fun x z k => by kernel_rfl)
def wire_Var_p : TCode Tb :=
(.seq (.reg [⟨.mv, [.k (.nilS)], some 4, none⟩] none)
(.seq (.reg [⟨.mv, [.m 0], some 6, none⟩, ⟨(.call (some 48) 0), [.m 6], some 7, none⟩, ⟨.mv, [.m 7], some 5, none⟩] none)
(.seq (.seq (.reg [⟨.mv, [.v 1], some 8, none⟩, ⟨(.bin .gtr .i), [.m 8, .k (.u32 (268435455 : UInt32))], some 9, none⟩] none)
(.cond 9 (.drop [1, 4, 9] (.seq (.reg [⟨.mv, [.m 5], some 10, none⟩, ⟨.mv, [.m 10], some 4, none⟩] none)
.ret))
(.drop [4, 9] .skip)))
(.seq (.block 0 (.cut 0 wire_Var_o0 (.loop wire_Var_p0)))
(.seq (.reg [⟨.mv, [.m 5], some 21, none⟩, ⟨.mv, [.m 1], some 22, none⟩, ⟨(.cint .u8), [.m 22], some 23, none⟩, ⟨(.b8 1 [0]), [.m 23], some 24, none⟩, ⟨(.app 1 1), [.m 21, .m 24], some 25, none⟩, ⟨.mv, [.m 25], some 4, none⟩] none)
.ret)))))
def wire_Var_w : Orc Tb := mkOrc (Y := (Option (List UInt8))) tab [.g (.f (.a .bs)), .g (.f (.a .u32))] [] (fun x h => wire_Var x.1 x.2.1) (fun _ y k => k (.bo y) [])
theorem wire_Var_k : (wire_Var_w).Ok Try.prog Wp tab 24 := orc_ok (Y := (Option (List UInt8))) (orcs := wire_Var_r) (c := wire_Var_p) (res := [.tmp 4]) (n := 26) (R := (RSp.one (Y := (Option (List UInt8))) tab (.g (.f (.bo))) [] (fun a b => a) (fun y => y) (fun y => ()))) tabOk wire_Var_rk (RSp.one_ok tabOk (fun _ _ => by kernel_rfl) (fun _ _ => by kernel_rfl)) Try.func24 (by kernel_rfl) (by kernel_rfl) (by kernel_rfl) (by kernel_rfl) (cS trivial (cS trivial (cS (cS trivial (cC (cD (cS trivial trivial)) (cD trivial))) (cS (cB (cT wire_Var_q0)) (cS trivial trivial))))) (fun _ y k => by kernel_rfl) (fun y => by kernel_rfl) (fun x h => by kernel_rfl)
def wire_Two_r : Orcs Tb := [(48, slices_Clone_s_byte_byte_w)]
theorem wire_Two_rk : OrcsOk Try.prog Wp tab wire_Two_r := (orcs_cons slices_Clone_s_byte_byte_k orcs_nil)
def wire_Two_p : TCode Tb :=
(.seq (.reg [⟨.mv, [.k (.nilS)], some 4, none⟩] none)
(.seq (.reg [⟨.mv, [.m 0], some 5, none⟩, ⟨(.call (some 48) 0), [.m 5], some 6, none⟩, ⟨.mv, [.v 1], some 7, none⟩, ⟨(.bin .shr .i), [.m 7, .k (.u64 (8 : UInt64))], some 8, none⟩, ⟨(.cint .u8), [.m 8], some 9, none⟩, ⟨.mv, [.m 1], some 10, none⟩, ⟨(.cint .u8), [.m 10], some 11, none⟩, ⟨(.b8 2 [0, 1]), [.m 9, .m 11], some 12, none⟩, ⟨(.app 1 1), [.m 6, .m 12], some 13, none⟩, ⟨.mv, [.m 13], some 4, none⟩] none)
.ret))
def wire_Two_w : Orc Tb := mkOrc (Y := (Option (List UInt8))) tab [.g (.f (.a .bs)), .g (.f (.a .u16))] [] (fun x h => wire_Two x.1 x.2.1) (fun _ y k => k (.bo y) [])
theorem wire_Two_k : (wire_Two_w).Ok Try.prog Wp tab 29 := orc_ok (Y := (Option (List UInt8))) (orcs := wire_Two_r) (c := wire_Two_p) (res := [.tmp 4]) (n := 14) (R := (RSp.one (Y := (Option (List UInt8))) tab (.g (.f (.bo))) [] (fun a b => a) (fun y => y) (fun y => ()))) tabOk wire_Two_rk (RSp.one_ok tabOk (fun _ _ => by kernel_rfl) (fun _ _ => by kernel_rfl)) Try.func29 (by kernel_rfl) (by kernel_rfl) (by kernel_rfl) (by kernel_rfl) (cS trivial (cS trivial trivial)) (fun _ y k => by kernel_rfl) (fun y => by kernel_rfl) (fun x h => by kernel_rfl)
def wire_Bin_r : Orcs Tb := [(48, slices_Clone_s_byte_byte_w), (29, wire_Two_w)]
theorem wire_Bin_rk : OrcsOk Try.prog Wp tab wire_Bin_r := (orcs_cons slices_Clone_s_byte_byte_k (orcs_cons wire_Two_k orcs_nil))
def wire_Bin_p : TCode Tb :=
(.seq (.reg [⟨.mv, [.k (.nilS)], some 4, none⟩] none)
(.seq (.seq (.reg [⟨.mv, [.v 1], some 5, none⟩, ⟨.lens, [.m 5], some 6, none⟩, ⟨(.bin .gtr .i), [.m 6, .k (.n .i64 65535)], some 7, none⟩] none)
(.cond 7 (.drop [1, 4, 7] (.seq (.reg [⟨.mv, [.m 0], some 8, none⟩, ⟨(.call (some 48) 0), [.m 8], some 9, none⟩, ⟨.mv, [.m 9], some 4, none⟩] none)
.ret))
(.drop [4, 7] .skip)))
(.seq (.reg [⟨.mv, [.m 0], some 10, none⟩, ⟨.mv, [.v 1], some 11, none⟩, ⟨.lens, [.m 11], some 12, none⟩, ⟨(.cint .u16), [.m 12], some 13, none⟩, ⟨(.call (some 29) 1), [.m 10, .m 13], some 14, none⟩, ⟨.mv, [.m 1], some 15, none⟩, ⟨.apps, [.m 14, .m 15], some 16, none⟩, ⟨.mv, [.m 16], some 4, none⟩] none)
.ret)))
def wire_Bin_w : Orc Tb := mkOrc (Y := (Option (List UInt8))) tab [.g (.f (.a .bs)), .g (.f (.a .s))] [] (fun x h => wire_Bin x.1 x.2.1) (fun _ y k => k (.bo y) [])
theorem wire_Bin_k : (wire_Bin_w).Ok Try.prog Wp tab 25 := orc_ok (Y := (Option (List UInt8))) (orcs := wire_Bin_r) (c := wire_Bin_p) (res := [.tmp 4]) (n := 17) (R := (RSp.one (Y := (Option (List UInt8))) tab (.g (.f (.bo))) [] (fun a b => a) (fun y => y) (fun y => ()))) tabOk wire_Bin_rk (RSp.one_ok tabOk (fun _ _ => by kernel_rfl) (fun _ _ => by kernel_rfl)) Try.func25 (by kernel_rfl) (by kernel_rfl) (by kernel_rfl) (by kernel_rfl) (cS trivial (cS (cS trivial (cC (cD (cS trivial trivial)) (cD trivial))) (cS trivial trivial))) (fun _ y k => by kernel_rfl) (fun y => by kernel_rfl) (fun x h => by kernel_rfl)
def wire_Reader_take_r : Orcs Tb := [(22, wire_Reader_Err_w)]
theorem wire_Reader_take_rk : OrcsOk Try.prog Wp tab wire_Reader_take_r := (orcs_cons wire_Reader_Err_k orcs_nil)
def wire_Reader_take_p0 : TCode Tb :=
(.cond 20 (.drop [1, 20] (.seq (.reg [⟨.mv, [.m 0], some 21, none⟩, ⟨.nilck, [.m 21], some 22, none⟩, ⟨(.fa 1), [.m 22], some 23, none⟩, ⟨(.store 1), [.m 23, .k (.n .i64 2)], none, none⟩] none)
(.seq (.reg [⟨.mv, [.k (.s [])], some 4, none⟩, ⟨.mv, [.k (.b false)], some 5, none⟩] none)
.ret)))
(.drop [20] .skip))
def wire_Reader_take_s0 : SSh := ⟨[(0, .g (.f (.ref 0 0))), (1, .g (.f (.a (.n .i64)))), (20, .g (.f (.a .b)))], [[.g (.f (.a .s)), .g (.f (.a (.n .i64)))]]⟩
def wire_Reader_take_o0 : Cut Tb := cutJ tab 1 wire_Reader_take_s0 (fun _ x k => wire_Reader_take_c0 x.1.2.2.1 (k .ret ⟨[(4, .s []), (5, .b false)], [[.s ((⟨x.2.1.1, x.2.1.2.1⟩ : wire_Reader).b), .n .i64 2]]⟩) (k .normal ⟨[(0, .ref 0 0), (1, .n .i64 x.1.2.1)], [[.s ((⟨x.2.1.1, x.2.1.2.1⟩ : wire_Reader).b), .n .i64 ((⟨x.2.1.1, x.2.1.2.1⟩ : wire_Reader).err)]]⟩))
theorem wire_Reader_take_q0 : (wire_Reader_take_o0).Ok Try.prog Wp tab 1 wire_Reader_take_p0 := cutJ_ok (c := wire_Reader_take_p0) tabOk wire_Reader_take_rk (cC (cD (cS trivial (cS trivial trivial))) (cD trivial)) (fun _ _ => by kernel_rfl)
def wire_Reader_take_p1 : TCode Tb :=
(.seq (.reg [⟨.mv, [.v 0], some 24, none⟩, ⟨.nilck, [.m 24], some 25, none⟩, ⟨(.fa 0), [.m 25], some 26, none⟩, ⟨(.load none), [.m 26], some 27, none⟩, ⟨.mv, [.v 1], some 28, none⟩, ⟨(.sstr false true), [.m 27, .m 28], some 29, none⟩, ⟨.mv, [.m 29], some 6, none⟩] none)
(.seq (.reg [⟨.mv, [.v 0], some 30, none⟩, ⟨.mv, [.m 0], some 31, none⟩, ⟨.nilck, [.m 31], some 32, none⟩, ⟨(.fa 0), [.m 32], some 33, none⟩, ⟨(.load none), [.m 33], some 34, none⟩, ⟨.mv, [.m 1], some 35, none⟩, ⟨(.sstr true false), [.m 34, .m 35], some 36, none⟩, ⟨.nilck, [.m 30], some 37, none⟩, ⟨(.fa 0), [.m 37], some 38, none⟩, ⟨(.store 1), [.m 38, .m 36], none, none⟩] none)
(.seq (.reg [⟨.mv, [.m 6], some 39, none⟩, ⟨.mv, [.m 39], some 4, none⟩, ⟨.mv, [.k (.b true)], some 5, none⟩] none)
.ret)))
def wire_Reader_take_s1 : SSh := ⟨[(0, .g (.f (.ref 0 0))), (1, .g (.f (.a (.n .i64))))], [[.g (.f (.a .s)), .g (.f (.a (.n .i64)))]]⟩
def wire_Reader_take_o1 : Cut Tb := cutJ tab 1 wire_Reader_take_s1 (fun _ x k => wire_Reader_take_c1 x.1.2.1 (⟨x.2.1.1, x.2.1.2.1⟩ : wire_Reader) (fun y12 y13 => k .ret ⟨[(4, .s y12), (5, .b true)], [[.s y13, .n .i64 ((⟨x.2.1.1, x.2.1.2.1⟩ : wire_Reader).err)]]⟩))
theorem wire_Reader_take_q1 : (wire_Reader_take_o1).Ok Try.prog Wp tab 1 wire_Reader_take_p1 := cutJ_ok (c := wire_Reader_take_p1) tabOk wire_Reader_take_rk (cS trivial (cS trivial (cS trivial trivial))) (fun _ _ => by kernel_rfl)
def wire_Reader_take_p : TCode Tb :=
(.seq (.reg [⟨.mv, [.k (.s [])], some 4, none⟩, ⟨.mv, [.k (.b false)], some 5, none⟩] none)
(.seq (.seq (.reg [⟨.mv, [.v 0], some 7, none⟩, ⟨(.call (some 22) 0), [.m 7], some 8, none⟩, ⟨(.bin .neq .i), [.m 8, .k (.n .i64 0)], some 9, none⟩] none)
(.cond 9 (.drop [0, 1, 4, 5, 9] (.seq (.reg [⟨.mv, [.k (.s [])], some 4, none⟩, ⟨.mv, [.k (.b false)], some 5, none⟩] none)
.ret))
(.drop [4, 5, 9] .skip)))
(.seq (.seq (.reg [⟨.mv, [.v 1], some 10, none⟩, ⟨(.bin .lss .i), [.m 10, .k (.n .i64 0)], some 11, none⟩, ⟨.mv, [.m 11], some 12, none⟩, ⟨.mv, [.v 1], some 13, some (12, false)⟩, ⟨.mv, [.v 0], some 14, some (12, false)⟩, ⟨.nilck, [.m 14], some 15, some (12, false)⟩, ⟨(.fa 0), [.m 15], some 16, some (12, false)⟩, ⟨(.load none), [.m 16], some 17, some (12, false)⟩, ⟨.lens, [.m 17], some 18, some (12, false)⟩, ⟨(.bin .gtr .i), [.m 13, .m 18], some 19, some (12, false)⟩, ⟨.pick, [.m 12, .k (.b true), .m 19], some 20, none⟩] none)
(.drop [13, 14, 15, 16, 17, 18] (.cut 1 wire_Reader_take_o0 wire_Reader_take_p0)))
(.cut 1 wire_Reader_take_o1 wire_Reader_take_p1))))
def wire_Reader_take_w : Orc Tb := mkOrc (Y := (List UInt8) × Bool × wire_Reader) tab [.g (.f (.ref 0 0)), .g (.f (.a (.n .i64)))] [[.g (.f (.a .s)), .g (.f (.a (.n .i64)))]] (fun x h => wire_Reader_take x.2.1 (⟨h.1.1, h.1.2.1⟩ : wire_Reader)) (fun _ y k => k (.tup [.s y.1, .b y.2.1]) [[.s y.2.2.b, .n .i64 y.2.2.err]])
theorem wire_Reader_take_k : (wire_Reader_take_w).Ok Try.prog Wp tab 49 := orc_ok (Y := (List UInt8) × Bool × wire_Reader) (orcs := wire_Reader_take_r) (c := wire_Reader_take_p) (res := [.tmp 4, .tmp 5]) (n := 40) (R := (RSp.one (Y := (List UInt8) × Bool × wire_Reader) tab (.tup [.f (.a .s), .f (.a .b)]) [[.g (.f (.a .s)), .g (.f (.a (.n .i64)))]] (fun a b => (a.1, a.2.1, (⟨b.1.1, b.1.2.1⟩ : wire_Reader))) (fun y => (y.1, y.2.1, ())) (fun y => ((y.2.2.b, y.2.2.err, ()), ())))) tabOk wire_Reader_take_rk (RSp.one_ok tabOk (fun _ _ => by kernel_rfl) (fun _ _ => by kernel_rfl)) Try.func49 (by kernel_rfl) (by kernel_rfl) (by kernel_rfl) (by kernel_rfl) (cS trivial (cS (cS trivial (cC (cD (cS trivial trivial)) (cD trivial))) (cS (cS trivial (cD (cT wire_Reader_take_q0))) (cT wire_Reader_take_q1)))) (fun _ y k => by kernel_rfl) (fun y => by kernel_rfl) (fun x h => by kernel_rfl)
def wire_Reader_Two_r : Orcs Tb := [(49, wire_Reader_take_w)]
theorem wire_Reader_Two_rk : OrcsOk Try.prog Wp tab wire_Reader_Two_r := (orcs_cons wire_Reader_take_k orcs_nil)
def wire_Reader_Two_p : TCode Tb :=
(.seq (.reg [⟨.mv, [.k (.u16 (0 : UInt16))], some 2, none⟩] none)
(.seq (.reg [⟨.mv, [.m 0], some 6, none⟩, ⟨(.call (some 49) 0), [.m 6, .k (.n .i64 2)], some 7, none⟩, ⟨.mv, [.m 7], some 5, none⟩, ⟨.extm, [.c 5 0], some 8, none⟩, ⟨(.ext 1), [.m 5], some 9, none⟩, ⟨.mv, [.m 8], some 3, none⟩, ⟨.mv, [.m 9], some 4, none⟩] none)
(.seq (.seq (.reg [⟨.mv, [.m 4], some 10, none⟩, ⟨(.un .not), [.m 10], some 11, none⟩] none)
(.cond 11 (.drop [2, 3, 11] (.seq (.reg [⟨.mv, [.k (.u16 (0 : UInt16))], some 2, none⟩] none)
.ret))
(.drop [2, 11] .skip)))
(.seq (.reg [⟨.mv, [.v 3], some 12, none⟩, ⟨.sidx, [.m 12, .k (.n .i64 0)], some 13, none⟩, ⟨(.cint .u16), [.m 13], some 14, none⟩, ⟨(.bin .shl .i), [.m 14, .k (.u64 (8 : UInt64))], some 15, none⟩, ⟨.mv, [.v 3], some 16, none⟩, ⟨.sidx, [.m 16, .k (.n .i64 1)], some 17, none⟩, ⟨(.cint .u16), [.m 17], some 18, none⟩, ⟨(.bin .or .i), [.m 15, .m 18], some 19, none⟩, ⟨.mv, [.m 19], some 2, none⟩] (some [[], [], [], [], [], [], [], [], []]))
.ret))))
def wire_Reader_Two_w : Orc Tb := mkOrc (Y := UInt16 × wire_Reader) tab [.g (.f (.ref 0 0))] [[.g (.f (.a .s)), .g (.f (.a (.n .i64)))]] (fun x h => wire_Reader_Two (⟨h.1.1, h.1.2.1⟩ : wire_Reader)) (fun _ y k => k (.u16 y.1) [[.s y.2.b, .n .i64 y.2.err]])
theorem wire_Reader_Two_k : (wire_Reader_Two_w).Ok Try.prog Wp tab 33 := orc_ok (Y := UInt16 × wire_Reader) (orcs := wire_Reader_Two_r) (c := wire_Reader_Two_p) (res := [.tmp 2]) (n := 20) (R := (RSp.one (Y := UInt16 × wire_Reader) tab (.g (.f (.a .u16))) [[.g (.f (.a .s)), .g (.f (.a (.n .i64)))]] (fun a b => (a, (⟨b.1.1, b.1.2.1⟩ : wire_Reader))) (fun y => y.1) (fun y => ((y.2.b, y.2.err, ()), ())))) tabOk wire_Reader_Two_rk (RSp.one_ok tabOk (fun _ _ => by kernel_rfl) (fun _ _ => by kernel_rfl)) Try.func33 (by kernel_rfl) (by kernel_rfl) (by kernel_rfl) (by kernel_rfl) (cS trivial (cS trivial (cS (cS trivial (cC (cD (cS trivial trivial)) (cD trivial))) (cS trivial trivial)))) (fun _ y k => by kernel_rfl) (fun y => by kernel_rfl) (fun x h => by kernel_rfl)
def wire_Reader_Bin_r : Orcs Tb := [(33, wire_Reader_Two_w), (49, wire_Reader_take_w)]
theorem wire_Reader_Bin_rk : OrcsOk Try.prog Wp tab wire_Reader_Bin_r := (orcs_cons wire_Reader_Two_k (orcs_cons wire_Reader_take_k orcs_nil))
def wire_Reader_Bin_p : TCode Tb :=
(.seq (.reg [⟨.mv, [.k (.s [])], some 2, none⟩] none)
(.seq (.reg [⟨.mv, [.v 0], some 6, none⟩, ⟨.mv, [.m 0], some 7, none⟩, ⟨(.call (some 33) 0), [.m 7], some 8, none⟩, ⟨(.cint .i64), [.m 8], some 9, none⟩, ⟨(.call (some 49) 1), [.m 6, .m 9], some 10, none⟩, ⟨.mv, [.m 10], some 5, none⟩, ⟨.extm, [.c 5 0], some 11, none⟩, ⟨(.ext 1), [.m 5], some 12, none⟩, ⟨.mv, [.m 11], some 3, none⟩, ⟨.mv, [.m 12], some 4, none⟩] none)
(.seq (.reg [⟨.mv, [.m 3], some 13, none⟩, ⟨.mv, [.m 13], some 2, none⟩] none)
.ret)))
def wire_Reader_Bin_w : Orc Tb := mkOrc (Y := (List UInt8) × wire_Reader) tab [.g (.f (.ref 0 0))] [[.g (.f (.a .s)), .g (.f (.a (.n .i64)))]] (fun x h => wire_Reader_Bin (⟨h.1.1, h.1.2.1⟩ : wire_Reader)) (fun _ y k => k (.s y.1) [[.s y.2.b, .n .i64 y.2.err]])
theorem wire_Reader_Bin_k : (wire_Reader_Bin_w).Ok Try.prog Wp tab 27 := orc_ok (Y := (List UInt8) × wire_Reader) (orcs := wire_Reader_Bin_r) (c := wire_Reader_Bin_p) (res := [.tmp 2]) (n := 14) (R := (RSp.one (Y := (List UInt8) × wire_Reader) tab (.g (.f (.a .s))) [[.g (.f (.a .s)), .g (.f (.a (.n .i64)))]] (fun a b => (a, (⟨b.1.1, b.1.2.1⟩ : wire_Reader))) (fun y => y.1) (fun y => ((y.2.b, y.2.err, ()), ())))) tabOk wire_Reader_Bin_rk (RSp.one_ok tabOk (fun _ _ => by kernel_rfl) (fun _ _ => by kernel_rfl)) Try.func27 (by kernel_rfl) (by kernel_rfl) (by kernel_rfl) (by kernel_rfl) (cS trivial (cS trivial (cS trivial trivial))) (fun _ y k => by kernel_rfl) (fun y => by kernel_rfl) (fun x h => by kernel_rfl)
def wire_Reader_Left_r : Orcs Tb := [(22, wire_Reader_Err_w)]
theorem wire_Reader_Left_rk : OrcsOk Try.prog Wp tab wire_Reader_Left_r := (orcs_cons wire_Reader_Err_k orcs_nil)
def wire_Reader_Left_p : TCode Tb :=
(.seq (.reg [⟨.mv, [.k (.n .i64 0)], some 2, none⟩] none)
(.seq (.seq (.reg [⟨.mv, [.v 0], some 3, none⟩, ⟨(.call (some 22) 0), [.m 3], some 4, none⟩, ⟨(.bin .neq .i), [.m 4, .k (.n .i64 0)], some 5, none⟩] none)
(.cond 5 (.drop [0, 2, 5] (.seq (.reg [⟨.mv, [.k (.n .i64 0)], some 2, none⟩] none)
.ret))
(.drop [2, 5] .skip)))
(.seq (.reg [⟨.mv, [.m 0], some 6, none⟩, ⟨.nilck, [.m 6], some 7, none⟩, ⟨(.fa 0), [.m 7], some 8, none⟩, ⟨(.load none), [.m 8], some 9, none⟩, ⟨.lens, [.m 9], some 10, none⟩, ⟨.mv, [.m 10], some 2, none⟩] none)
.ret)))
def wire_Reader_Left_w : Orc Tb := mkOrc (Y := Int × wire_Reader) tab [.g (.f (.ref 0 0))] [[.g (.f (.a .s)), .g (.f (.a (.n .i64)))]] (fun x h => wire_Reader_Left (⟨h.1.1, h.1.2.1⟩ : wire_Reader)) (fun _ y k => k (.n .i64 y.1) [[.s y.2.b, .n .i64 y.2.err]])
theorem wire_Reader_Left_k : (wire_Reader_Left_w).Ok Try.prog Wp tab 35 := orc_ok (Y := Int × wire_Reader) (orcs := wire_Reader_Left_r) (c := wire_Reader_Left_p) (res := [.tmp 2]) (n := 11) (R := (RSp.one (Y := Int × wire_Reader) tab (.g (.f (.a (.n .i64)))) [[.g (.f (.a .s)), .g (.f (.a (.n .i64)))]] (fun a b => (a, (⟨b.1.1, b.1.2.1⟩ : wire_Reader))) (fun y => y.1) (fun y => ((y.2.b, y.2.err, ()), ())))) tabOk wire_Reader_Left_rk (RSp.one_ok tabOk (fun _ _ => by kernel_rfl) (fun _ _ => by kernel_rfl)) Try.func35 (by kernel_rfl) (by kernel_rfl) (by kernel_rfl) (by kernel_rfl) (cS trivial (cS (cS trivial (cC (cD (cS trivial trivial)) (cD trivial))) (cS trivial trivial))) (fun _ y k => by kernel_rfl) (fun y => by kernel_rfl) (fun x h => by kernel_rfl)
def wire_VarSize_r : Orcs Tb := [(24, wire_Var_w)]
theorem wire_VarSize_rk : OrcsOk Try.prog Wp tab wire_VarSize_r := (orcs_cons wire_Var_k orcs_nil)
def wire_VarSize_p : TCode Tb :=
(.seq (.reg [⟨.mv, [.k (.n .i64 0)], some 2, none⟩] none)
(.seq (.reg [⟨.mv, [.m 0], some 3, none⟩, ⟨(.call (some 24) 0), [.k (.nilS), .m 3], some 4, none⟩, ⟨.len, [.m 4], some 5, none⟩, ⟨.mv, [.m 5], some 2, none⟩] none)
.ret))
def wire_VarSize_w : Orc Tb := mkOrc (Y := Int) tab [.g (.f (.a .u32))] [] (fun x h => wire_VarSize x.1) (fun _ y k => k (.n .i64 y) [])
theorem wire_VarSize_k : (wire_VarSize_w).Ok Try.prog Wp tab 23 := orc_ok (Y := Int) (orcs := wire_VarSize_r) (c := wire_VarSize_p) (res := [.tmp 2]) (n := 6) (R := (RSp.one (Y := Int) tab (.g (.f (.a (.n .i64)))) [] (fun a b => a) (fun y => y) (fun y => ()))) tabOk wire_VarSize_rk (RSp.one_ok tabOk (fun _ _ => by kernel_rfl) (fun _ _ => by kernel_rfl)) Try.func23 (by kernel_rfl) (by kernel_rfl) (by kernel_rfl) (by kernel_rfl) (cS trivial (cS trivial trivial)) (fun _ y k => by kernel_rfl) (fun y => by kernel_rfl) (fun x h => by kernel_rfl)
def l01_told_r : Orcs Tb := [(24, wire_Var_w), (25, wire_Bin_w), (17, wire_Read_w), (18, wire_Reader_Var_w), (27, wire_Reader_Bin_w), (35, wire_Reader_Left_w), (22, wire_Reader_Err_w), (23, wire_VarSize_w)]
theorem l01_told_rk : OrcsOk Try.prog Wp tab l01_told_r := (orcs_cons wire_Var_k (orcs_cons wire_Bin_k (orcs_cons wire_Read_k (orcs_cons wire_Reader_Var_k (orcs_cons wire_Reader_Bin_k (orcs_cons wire_Reader_Left_k (orcs_cons wire_Reader_Err_k (orcs_cons wire_VarSize_k orcs_nil))))))))
def l01_told_p : TCode Tb :=
(.seq (.reg [⟨.mv, [.k (.b false)], some 0, none⟩] none)
(.seq (.reg [⟨(.call (some 24) 0), [.k (.nilS), .k (.u32 (321 : UInt32))], some 3, none⟩, ⟨(.call (some 25) 1), [.m 3, .k (.s [97, 98])], some 4, none⟩, ⟨.mv, [.m 4], some 1, none⟩] none)
(.seq (.reg [⟨.mv, [.v 1], some 5, none⟩, ⟨(.call (some 17) 2), [.m 5], some 6, none⟩, ⟨.mv, [.m 6], some 2, none⟩] none)
(.seq (.reg [⟨.mv, [.v 2], some 7, none⟩, ⟨(.bin .neq .p), [.m 7, .k (.nilP)], some 8, none⟩, ⟨.mv, [.m 8], some 9, none⟩, ⟨.mv, [.m 1], some 10, some (9, true)⟩, ⟨.b2s, [.m 10], some 11, some (9, true)⟩, ⟨(.bin .eql .s), [.m 11, .k (.s [193, 2, 0, 2, 97, 98])], some 12, some (9, true)⟩, ⟨.pick, [.m 9, .m 12, .k (.b false)], some 13, none⟩, ⟨.mv, [.m 13], some 14, none⟩, ⟨.mv, [.v 2], some 15, some (14, true)⟩, ⟨(.call (some 18) 3), [.m 15], some 16, some (14, true)⟩, ⟨(.bin .eql .i), [.m 16, .k (.u32 (321 : UInt32))], some 17, some (14, true)⟩, ⟨.pick, [.m 14, .m 17, .k (.b false)], some 18, none⟩, ⟨.mv, [.m 18], some 19, none⟩, ⟨.mv, [.v 2], some 20, some (19, true)⟩, ⟨(.call (some 27) 4), [.m 20], some 21, some (19, true)⟩, ⟨(.bin .eql .s), [.m 21, .k (.s [97, 98])], some 22, some (19, true)⟩, ⟨.pick, [.m 19, .m 22, .k (.b false)], some 23, none⟩, ⟨.mv, [.m 23], some 24, none⟩, ⟨.mv, [.v 2], some 25, some (24, true)⟩, ⟨(.call (some 35) 5), [.m 25], some 26, some (24, true)⟩, ⟨(.bin .eql .i), [.m 26, .k (.n .i64 0)], some 27, some (24, true)⟩, ⟨.pick, [.m 24, .m 27, .k (.b false)], some 28, none⟩, ⟨.mv, [.m 28], some 29, none⟩, ⟨.mv, [.m 2], some 30, some (29, true)⟩, ⟨(.call (some 22) 6), [.m 30], some 31, some (29, true)⟩, ⟨(.bin .eql .i), [.m 31, .k (.n .i64 0)], some 32, some (29, true)⟩, ⟨.pick, [.m 29, .m 32, .k (.b false)], some 33, none⟩, ⟨.mv, [.m 33], some 34, none⟩, ⟨(.call (some 23) 7), [.k (.u32 (321 : UInt32))], some 35, some (34, true)⟩, ⟨(.bin .eql .i), [.m 35, .k (.n .i64 2)], some 36, some (34, true)⟩, ⟨.pick, [.m 34, .m 36, .k (.b false)], some 37, none⟩, ⟨.mv, [.m 37], some 0, none⟩] none)
(.drop [1, 2, 10, 11, 15, 16, 20, 21, 25, 26, 30, 31, 35] .ret)))))
def l01_told_w : Orc Tb := mkOrc (Y := Bool) tab [] [] (fun x h => l01_told) (fun _ y k => k (.b y) [])
theorem l01_told_k : (l01_told_w).Ok Try.prog Wp tab 21 := orc_ok (Y := Bool) (orcs := l01_told_r) (c := l01_told_p) (res := [.tmp 0]) (n := 38) (R := (RSp.one (Y := Bool) tab (.g (.f (.a .b))) [] (fun a b => a) (fun y => y) (fun y => ()))) tabOk l01_told_rk (RSp.one_ok tabOk (fun _ _ => by kernel_rfl) (fun _ _ => by kernel_rfl)) Try.func21 (by kernel_rfl) (by kernel_rfl) (by kernel_rfl) (by kernel_rfl) (cS trivial (cS trivial (cS trivial (cS trivial (cD trivial))))) (fun _ y k => by kernel_rfl) (fun y => by kernel_rfl) (fun x h => by kernel_rfl)
def wire_Reader_Byte_1_r : Orcs Tb := [(49, wire_Reader_take_w)]
theorem wire_Reader_Byte_1_rk : OrcsOk Try.prog Wp tab wire_Reader_Byte_1_r := (orcs_cons wire_Reader_take_k orcs_nil)
def wire_Reader_Byte_1_p : TCode Tb :=
(.seq (.reg [⟨.mv, [.k (.u8 (0 : UInt8))], some 2, none⟩] none)
(.seq (.reg [⟨.mv, [.m 0], some 6, none⟩, ⟨(.call (some 49) 0), [.m 6, .k (.n .i64 1)], some 7, none⟩, ⟨.mv, [.m 7], some 5, none⟩, ⟨.extm, [.c 5 0], some 8, none⟩, ⟨(.ext 1), [.m 5], some 9, none⟩, ⟨.mv, [.m 8], some 3, none⟩, ⟨.mv, [.m 9], some 4, none⟩] none)
(.seq (.seq (.reg [⟨.mv, [.m 4], some 10, none⟩, ⟨(.un .not), [.m 10], some 11, none⟩] none)
(.cond 11 (.drop [2, 3, 11] (.seq (.reg [⟨.mv, [.k (.u8 (0 : UInt8))], some 2, none⟩] none)
.ret))
(.drop [2, 11] .skip)))
(.seq (.reg [⟨.mv, [.m 3], some 12, none⟩, ⟨.sidx, [.m 12, .k (.n .i64 0)], some 13, none⟩, ⟨.mv, [.m 13], some 2, none⟩] none)
.ret))))
def wire_Reader_Byte_1_w : Orc Tb := mkOrc (Y := UInt8 × wire_Reader) tab [.g (.f (.ref 0 0))] [[.g (.f (.a .s)), .g (.f (.a (.n .i64)))]] (fun x h => wire_Reader_Byte_1 (⟨h.1.1, h.1.2.1⟩ : wire_Reader)) (fun _ y k => k (.u8 y.1) [[.s y.2.b, .n .i64 y.2.err]])
theorem wire_Reader_Byte_1_k : (wire_Reader_Byte_1_w).Ok Try.prog Wp tab 26 := orc_ok (Y := UInt8 × wire_Reader) (orcs := wire_Reader_Byte_1_r) (c := wire_Reader_Byte_1_p) (res := [.tmp 2]) (n := 14) (R := (RSp.one (Y := UInt8 × wire_Reader) tab (.g (.f (.a .u8))) [[.g (.f (.a .s)), .g (.f (.a (.n .i64)))]] (fun a b => (a, (⟨b.1.1, b.1.2.1⟩ : wire_Reader))) (fun y => y.1) (fun y => ((y.2.b, y.2.err, ()), ())))) tabOk wire_Reader_Byte_1_rk (RSp.one_ok tabOk (fun _ _ => by kernel_rfl) (fun _ _ => by kernel_rfl)) Try.func26 (by kernel_rfl) (by kernel_rfl) (by kernel_rfl) (by kernel_rfl) (cS trivial (cS trivial (cS (cS trivial (cC (cD (cS trivial trivial)) (cD trivial))) (cS trivial trivial)))) (fun _ y k => by kernel_rfl) (fun y => by kernel_rfl) (fun x h => by kernel_rfl)
def r01_Reader_take_r : Orcs Tb := []
theorem r01_Reader_take_rk : OrcsOk Try.prog Wp tab r01_Reader_take_r := orcs_nil
def r01_Reader_take_p0 : TCode Tb :=
(.cond 27 (.drop [1, 27] (.seq (.reg [⟨.mv, [.m 0], some 28, none⟩, ⟨.nilck, [.m 28], some 29, none⟩, ⟨(.fa 2), [.m 29], some 30, none⟩, ⟨(.store 1), [.m 30, .k (.n .i64 2)], none, none⟩] none)
(.seq (.reg [⟨.mv, [.k (.s [])], some 4, none⟩, ⟨.mv, [.k (.b false)], some 5, none⟩] none)
.ret)))
(.drop [27] .skip))
def r01_Reader_take_s0 : SSh := ⟨[(0, .g (.f (.ref 0 0))), (1, .g (.f (.a (.n .i64)))), (27, .g (.f (.a .b)))], [[.g (.f (.a .s)), .g (.f (.a (.n .i64))), .g (.f (.a (.n .i64)))]]⟩
def r01_Reader_take_o0 : Cut Tb := cutJ tab 1 r01_Reader_take_s0 (fun _ x k => r01_Reader_take_c0 x.1.2.2.1 (k .ret ⟨[(4, .s []), (5, .b false)], [[.s ((⟨x.2.1.1, x.2.1.2.1, x.2.1.2.2.1⟩ : r01_Reader).B), .n .i64 ((⟨x.2.1.1, x.2.1.2.1, x.2.1.2.2.1⟩ : r01_Reader).At), .n .i64 2]]⟩) (k .normal ⟨[(0, .ref 0 0), (1, .n .i64 x.1.2.1)], [[.s ((⟨x.2.1.1, x.2.1.2.1, x.2.1.2.2.1⟩ : r01_Reader).B), .n .i64 ((⟨x.2.1.1, x.2.1.2.1, x.2.1.2.2.1⟩ : r01_Reader).At), .n .i64 ((⟨x.2.1.1, x.2.1.2.1, x.2.1.2.2.1⟩ : r01_Reader).Bad)]]⟩))
theorem r01_Reader_take_q0 : (r01_Reader_take_o0).Ok Try.prog Wp tab 1 r01_Reader_take_p0 := cutJ_ok (c := r01_Reader_take_p0) tabOk r01_Reader_take_rk (cC (cD (cS trivial (cS trivial trivial))) (cD trivial)) (fun _ _ => by kernel_rfl)
def r01_Reader_take_p1 : TCode Tb :=
(.seq (.reg [⟨.mv, [.v 0], some 31, none⟩, ⟨.nilck, [.m 31], some 32, none⟩, ⟨(.fa 0), [.m 32], some 33, none⟩, ⟨(.load none), [.m 33], some 34, none⟩, ⟨.mv, [.v 0], some 35, none⟩, ⟨.nilck, [.m 35], some 36, none⟩, ⟨(.fa 1), [.m 36], some 37, none⟩, ⟨(.load none), [.m 37], some 38, none⟩, ⟨.mv, [.v 0], some 39, none⟩, ⟨.nilck, [.m 39], some 40, none⟩, ⟨(.fa 1), [.m 40], some 41, none⟩, ⟨(.load none), [.m 41], some 42, none⟩, ⟨.mv, [.v 1], some 43, none⟩, ⟨(.bin .add .i), [.m 42, .m 43], some 44, none⟩, ⟨(.sstr true true), [.m 34, .m 38, .m 44], some 45, none⟩, ⟨.mv, [.m 45], some 6, none⟩] (some [[], [], [], [], [], [], [], [3], [], [], [], [3, 7], [], [], [], []]))
(.seq (.reg [⟨.mv, [.v 0], some 46, none⟩, ⟨.mv, [.m 0], some 47, none⟩, ⟨.nilck, [.m 47], some 48, none⟩, ⟨(.fa 1), [.m 48], some 49, none⟩, ⟨(.load none), [.m 49], some 50, none⟩, ⟨.mv, [.m 1], some 51, none⟩, ⟨(.bin .add .i), [.m 50, .m 51], some 52, none⟩, ⟨.nilck, [.m 46], some 53, none⟩, ⟨(.fa 1), [.m 53], some 54, none⟩, ⟨(.store 1), [.m 54, .m 52], none, none⟩] none)
(.seq (.reg [⟨.mv, [.m 6], some 55, none⟩, ⟨.mv, [.m 55], some 4, none⟩, ⟨.mv, [.k (.b true)], some 5, none⟩] none)
.ret)))
def r01_Reader_take_s1 : SSh := ⟨[(0, .g (.f (.ref 0 0))), (1, .g (.f (.a (.n .i64))))], [[.g (.f (.a .s)), .g (.f (.a (.n .i64))), .g (.f (.a (.n .i64)))]]⟩
def r01_Reader_take_o1 : Cut Tb := cutJ tab 1 r01_Reader_take_s1 (fun _ x k => r01_Reader_take_c1 x.1.2.1 (⟨x.2.1.1, x.2.1.2.1, x.2.1.2.2.1⟩ : r01_Reader) (fun y9 y10 => k .ret ⟨[(4, .s y9), (5, .b true)], [[.s ((⟨x.2.1.1, x.2.1.2.1, x.2.1.2.2.1⟩ : r01_Reader).B), .n .i64 y10, .n .i64 ((⟨x.2.1.1, x.2.1.2.1, x.2.1.2.2.1⟩ : r01_Reader).Bad)]]⟩))
theorem r01_Reader_take_q1 : (r01_Reader_take_o1).Ok Try.prog Wp tab 1 r01_Reader_take_p1 := cutJ_ok (c := r01_Reader_take_p1) tabOk r01_Reader_take_rk (cS trivial (cS trivial (cS trivial trivial))) (fun _ _ => by kernel_rfl)
def r01_Reader_take_p : TCode Tb :=
(.seq (.reg [⟨.mv, [.k (.s [])], some 4, none⟩, ⟨.mv, [.k (.b false)], some 5, none⟩] none)
(.seq (.seq (.reg [⟨.mv, [.v 0], some 7, none⟩, ⟨.nilck, [.m 7], some 8, none⟩, ⟨(.fa 2), [.m 8], some 9, none⟩, ⟨(.load none), [.m 9], some 10, none⟩, ⟨(.bin .neq .i), [.m 10, .k (.n .i64 0)], some 11, none⟩] none)
(.cond 11 (.drop [0, 1, 4, 5, 11] (.seq (.reg [⟨.mv, [.k (.s [])], some 4, none⟩, ⟨.mv, [.k (.b false)], some 5, none⟩] none)
.ret))
(.drop [4, 5, 11] .skip)))
(.seq (.seq (.reg [⟨.mv, [.v 1], some 12, none⟩, ⟨(.bin .lss .i), [.m 12, .k (.n .i64 0)], some 13, none⟩, ⟨.mv, [.m 13], some 14, none⟩, ⟨.mv, [.v 1], some 15, some (14, false)⟩, ⟨.mv, [.v 0], some 16, some (14, false)⟩, ⟨.nilck, [.m 16], some 17, some (14, false)⟩, ⟨(.fa 0), [.m 17], some 18, some (14, false)⟩, ⟨(.load none), [.m 18], some 19, some (14, false)⟩, ⟨.lens, [.m 19], some 20, some (14, false)⟩, ⟨.mv, [.v 0], some 21, some (14, false)⟩, ⟨.nilck, [.m 21], some 22, some (14, false)⟩, ⟨(.fa 1), [.m 22], some 23, some (14, false)⟩, ⟨(.load none), [.m 23], some 24, some (14, false)⟩, ⟨(.bin .sub .i), [.m 20, .m 24], some 25, some (14, false)⟩, ⟨(.bin .gtr .i), [.m 15, .m 25], some 26, some (14, false)⟩, ⟨.pick, [.m 14, .k (.b true), .m 26], some 27, none⟩] (some [[], [], [], [], [], [], [], [], [], [], [], [], [7], [], [], []]))
(.drop [15, 16, 17, 18, 19, 20, 21, 22, 23, 24, 25] (.cut 1 r01_Reader_take_o0 r01_Reader_take_p0)))
(.cut 1 r01_Reader_take_o1 r01_Reader_take_p1))))
def r01_Reader_take_w : Orc Tb := mkOrc (Y := (List UInt8) × Bool × r01_Reader) tab [.g (.f (.ref 0 0)), .g (.f (.a (.n .i64)))] [[.g (.f (.a .s)), .g (.f (.a (.n .i64))), .g (.f (.a (.n .i64)))]] (fun x h => r01_Reader_take x.2.1 (⟨h.1.1, h.1.2.1, h.1.2.2.1⟩ : r01_Reader)) (fun _ y k => k (.tup [.s y.1, .b y.2.1]) [[.s y.2.2.B, .n .i64 y.2.2.At, .n .i64 y.2.2.Bad]])
theorem r01_Reader_take_k : (r01_Reader_take_w).Ok Try.prog Wp tab 50 := orc_ok (Y := (List UInt8) × Bool × r01_Reader) (orcs := r01_Reader_take_r) (c := r01_Reader_take_p) (res := [.tmp 4, .tmp 5]) (n := 56) (R := (RSp.one (Y := (List UInt8) × Bool × r01_Reader) tab (.tup [.f (.a .s), .f (.a .b)]) [[.g (.f (.a .s)), .g (.f (.a (.n .i64))), .g (.f (.a (.n .i64)))]] (fun a b => (a.1, a.2.1, (⟨b.1.1, b.1.2.1, b.1.2.2.1⟩ : r01_Reader))) (fun y => (y.1, y.2.1, ())) (fun y => ((y.2.2.B, y.2.2.At, y.2.2.Bad, ()), ())))) tabOk r01_Reader_take_rk (RSp.one_ok tabOk (fun _ _ => by kernel_rfl) (fun _ _ => by kernel_rfl)) Try.func50 (by kernel_rfl) (by kernel_rfl) (by kernel_rfl) (by kernel_rfl) (cS trivial (cS (cS trivial (cC (cD (cS trivial trivial)) (cD trivial))) (cS (cS trivial (cD (cT r01_Reader_take_q0))) (cT r01_Reader_take_q1)))) (fun _ y k => by kernel_rfl) (fun y => by kernel_rfl) (fun x h => by kernel_rfl)
def r01_Reader_Num_r : Orcs Tb := [(50, r01_Reader_take_w)]
theorem r01_Reader_Num_rk : OrcsOk Try.prog Wp tab r01_Reader_Num_r := (orcs_cons r01_Reader_take_k orcs_nil)
def r01_Reader_Num_p0 : TCode Tb :=
(.seq (.seq (.reg [⟨.mv, [.v 8], some 17, none⟩, ⟨.mv, [.v 5], some 18, none⟩, ⟨.lens, [.m 18], some 19, none⟩, ⟨(.bin .lss .i), [.m 17, .m 19], some 20, none⟩] none)
(.cond 20 (.drop [20] .skip)
(.drop [5, 8, 20] (.exit 0))))
(.seq (.block 1 (.reg [⟨.mv, [.m 7], some 23, none⟩, ⟨(.bin .mul .i), [.k (.u64 (256 : UInt64)), .m 23], some 24, none⟩, ⟨.mv, [.v 5], some 25, none⟩, ⟨.mv, [.v 8], some 26, none⟩, ⟨.sidx, [.m 25, .m 26], some 27, none⟩, ⟨(.cint .u64), [.m 27], some 28, none⟩, ⟨(.bin .add .i), [.m 24, .m 28], some 29, none⟩, ⟨.mv, [.m 29], some 7, none⟩] none))
(.reg [⟨.mv, [.m 8], some 21, none⟩, ⟨(.bin .add .i), [.m 21, .k (.n .i64 1)], some 22, none⟩, ⟨.mv, [.m 22], some 8, none⟩] none)))
def r01_Reader_Num_s0 : SSh := ⟨[(5, .g (.f (.a .s))), (7, .g (.f (.a .u64))), (8, .g (.f (.a (.n .i64))))], [[.g (.f (.a .s)), .g (.f (.a (.n .i64))), .g (.f (.a (.n .i64)))]]⟩
def r01_Reader_Num_o0 : Cut Tb := cutL tab 1 r01_Reader_Num_s0 (fun x => (x.1.2.1, x.1.2.2.1)) (fun x => r01_Reader_Num_l0 x.1.1) (fun _ x y k => k (.exit 0) ⟨[(7, .u64 y)], [[.s ((⟨x.2.1.1, x.2.1.2.1, x.2.1.2.2.1⟩ : r01_Reader).B), .n .i64 ((⟨x.2.1.1, x.2.1.2.1, x.2.1.2.2.1⟩ : r01_Reader).At), .n .i64 ((⟨x.2.1.1, x.2.1.2.1, x.2.1.2.2.1⟩ : r01_Reader).Bad)]]⟩)
theorem r01_Reader_Num_q0 : (r01_Reader_Num_o0).Ok Try.prog Wp tab 1 (.loop r01_Reader_Num_p0) := cutL_ok (c := r01_Reader_Num_p0) (Z := UInt64 × Int) (Y := UInt64) tabOk r01_Reader_Num_rk (cS (cS trivial (cC (cD trivial) (cD trivial))) (cS (cB trivial) trivial)) (fun _ x z b e => r01_Reader_Num_b0 x.1.1 z.1 z.2 (fun x7 x8 => b (x7, x8)) (fun y11 => e y11)) (fun x z => ⟨[(5, .s x.1.1), (7, .u64 z.1), (8, .n .i64 z.2)], [[.s ((⟨x.2.1.1, x.2.1.2.1, x.2.1.2.2.1⟩ : r01_Reader).B), .n .i64 ((⟨x.2.1.1, x.2.1.2.1, x.2.1.2.2.1⟩ : r01_Reader).At), .n .i64 ((⟨x.2.1.1, x.2.1.2.1, x.2.1.2.2.1⟩ : r01_Reader).Bad)]]⟩) (fun x y => ((.exit 0), ⟨[(7, .u64 y)], [[.s ((⟨x.2.1.1, x.2.1.2.1, x.2.1.2.2.1⟩ : r01_Reader).B), .n .i64 ((⟨x.2.1.1, x.2.1.2.1, x.2.1.2.2.1⟩ : r01_Reader).At), .n .i64 ((⟨x.2.1.1, x.2.1.2.1, x.2.1.2.2.1⟩ : r01_Reader).Bad)]]⟩)) (fun t => (prjS tab 1 r01_Reader_Num_s0 t).bind fun x => some (x.1.2.1, x.1.2.2.1)) (fun e t => (if eqE e (.exit 0) then (prjS tab 1 ⟨[(7, .g (.f (.a .u64)))], [[.g (.f (.a .s)), .g (.f (.a (.n .i64))), .g (.f (.a (.n .i64)))]]⟩ t).bind fun v => some v.1.1 else none)) (fun x => by kernel_rfl) (fun x z => by kernel_rfl) (fun x y k => by kernel_rfl) (fun x y => by exact nofun) (fun x z => by kernel_rfl) (fun x y => by kernel_rfl) (fun x z k => by kernel_rfl)
def r01_Reader_Num_p : TCode Tb :=
(.seq (.reg [⟨.mv, [.k (.u64 (0 : UInt64))], some 4, none⟩] none)
(.seq (.reg [⟨.mv, [.m 0], some 10, none⟩, ⟨.mv, [.m 1], some 11, none⟩, ⟨(.call (some 50) 0), [.m 10, .m 11], some 12, none⟩, ⟨.mv, [.m 12], some 9, none⟩, ⟨.extm, [.c 9 0], some 13, none⟩, ⟨(.ext 1), [.m 9], some 14, none⟩, ⟨.mv, [.m 13], some 5, none⟩, ⟨.mv, [.m 14], some 6, none⟩] none)
(.seq (.seq (.reg [⟨.mv, [.m 6], some 15, none⟩, ⟨(.un .not), [.m 15], some 16, none⟩] none)
(.cond 16 (.drop [4, 5, 16] (.seq (.reg [⟨.mv, [.k (.u64 (0 : UInt64))], some 4, none⟩] none)
.ret))
(.drop [4, 16] .skip)))
(.seq (.reg [⟨.mv, [.k (.u64 (0 : UInt64))], some 7, none⟩] none)
(.seq (.seq (.reg [⟨.mv, [.k (.n .i64 0)], some 8, none⟩] none)
(.block 0 (.cut 1 r01_Reader_Num_o0 (.loop r01_Reader_Num_p0))))
(.seq (.reg [⟨.mv, [.m 7], some 30, none⟩, ⟨.mv, [.m 30], some 4, none⟩] none)
.ret))))))
def r01_Reader_Num_w : Orc Tb := mkOrc (Y := UInt64 × r01_Reader) tab [.g (.f (.ref 0 0)), .g (.f (.a (.n .i64)))] [[.g (.f (.a .s)), .g (.f (.a (.n .i64))), .g (.f (.a (.n .i64)))]] (fun x h => r01_Reader_Num x.2.1 (⟨h.1.1, h.1.2.1, h.1.2.2.1⟩ : r01_Reader)) (fun _ y k => k (.u64 y.1) [[.s y.2.B, .n .i64 y.2.At, .n .i64 y.2.Bad]])
theorem r01_Reader_Num_k : (r01_Reader_Num_w).Ok Try.prog Wp tab 36 := orc_ok (Y := UInt64 × r01_Reader) (orcs := r01_Reader_Num_r) (c := r01_Reader_Num_p) (res := [.tmp 4]) (n := 31) (R := (RSp.one (Y := UInt64 × r01_Reader) tab (.g (.f (.a .u64))) [[.g (.f (.a .s)), .g (.f (.a (.n .i64))), .g (.f (.a (.n .i64)))]] (fun a b => (a, (⟨b.1.1, b.1.2.1, b.1.2.2.1⟩ : r01_Reader))) (fun y => y.1) (fun y => ((y.2.B, y.2.At, y.2.Bad, ()), ())))) tabOk r01_Reader_Num_rk (RSp.one_ok tabOk (fun _ _ => by kernel_rfl) (fun _ _ => by kernel_rfl)) Try.func36 (by kernel_rfl) (by kernel_rfl) (by kernel_rfl) (by kernel_rfl) (cS trivial (cS trivial (cS (cS trivial (cC (cD (cS trivial trivial)) (cD trivial))) (cS trivial (cS (cS trivial (cB (cT r01_Reader_Num_q0))) (cS trivial trivial)))))) (fun _ y k => by kernel_rfl) (fun y => by kernel_rfl) (fun x h => by kernel_rfl)
def wire_Reader_Four_1_r : Orcs Tb := [(49, wire_Reader_take_w)]
theorem wire_Reader_Four_1_rk : OrcsOk Try.prog Wp tab wire_Reader_Four_1_r := (orcs_cons wire_Reader_take_k orcs_nil)
def wire_Reader_Four_1_p : TCode Tb :=
(.seq (.reg [⟨.mv, [.k (.u32 (0 : UInt32))], some 2, none⟩] none)
(.seq (.reg [⟨.mv, [.m 0], some 6, none⟩, ⟨(.call (some 49) 0), [.m 6, .k (.n .i64 4)], some 7, none⟩, ⟨.mv, [.m 7], some 5, none⟩, ⟨.extm, [.c 5 0], some 8, none⟩, ⟨(.ext 1), [.m 5], some 9, none⟩, ⟨.mv, [.m 8], some 3, none⟩, ⟨.mv, [.m 9], some 4, none⟩] none)
(.seq (.seq (.reg [⟨.mv, [.m 4], some 10, none⟩, ⟨(.un .not), [.m 10], some 11, none⟩] none)
(.cond 11 (.drop [2, 3, 11] (.seq (.reg [⟨.mv, [.k (.u32 (0 : UInt32))], some 2, none⟩] none)
.ret))
(.drop [2, 11] .skip)))
(.seq (.reg [⟨.mv, [.v 3], some 12, none⟩, ⟨.sidx, [.m 12, .k (.n .i64 0)], some 13, none⟩, ⟨(.cint .u32), [.m 13], some 14, none⟩, ⟨(.bin .shl .i), [.m 14, .k (.u64 (24 : UInt64))], some 15, none⟩, ⟨.mv, [.v 3], some 16, none⟩, ⟨.sidx, [.m 16, .k (.n .i64 1)], some 17, none⟩, ⟨(.cint .u32), [.m 17], some 18, none⟩, ⟨(.bin .shl .i), [.m 18, .k (.u64 (16 : UInt64))], some 19, none⟩, ⟨(.bin .or .i), [.m 15, .m 19], some 20, none⟩, ⟨.mv, [.v 3], some 21, none⟩, ⟨.sidx, [.m 21, .k (.n .i64 2)], some 22, none⟩, ⟨(.cint .u32), [.m 22], some 23, none⟩, ⟨(.bin .shl .i), [.m 23, .k (.u64 (8 : UInt64))], some 24, none⟩, ⟨(.bin .or .i), [.m 20, .m 24], some 25, none⟩, ⟨.mv, [.v 3], some 26, none⟩, ⟨.sidx, [.m 26, .k (.n .i64 3)], some 27, none⟩, ⟨(.cint .u32), [.m 27], some 28, none⟩, ⟨(.bin .or .i), [.m 25, .m 28], some 29, none⟩, ⟨.mv, [.m 29], some 2, none⟩] (some [[], [], [], [], [], [], [], [], [], [], [], [], [], [], [], [], [], [], []]))
.ret))))
def wire_Reader_Four_1_w : Orc Tb := mkOrc (Y := UInt32 × wire_Reader) tab [.g (.f (.ref 0 0))] [[.g (.f (.a .s)), .g (.f (.a (.n .i64)))]] (fun x h => wire_Reader_Four_1 (⟨h.1.1, h.1.2.1⟩ : wire_Reader)) (fun _ y k => k (.u32 y.1) [[.s y.2.b, .n .i64 y.2.err]])
theorem wire_Reader_Four_1_k : (wire_Reader_Four_1_w).Ok Try.prog Wp tab 34 := orc_ok (Y := UInt32 × wire_Reader) (orcs := wire_Reader_Four_1_r) (c := wire_Reader_Four_1_p) (res := [.tmp 2]) (n := 30) (R := (RSp.one (Y := UInt32 × wire_Reader) tab (.g (.f (.a .u32))) [[.g (.f (.a .s)), .g (.f (.a (.n .i64)))]] (fun a b => (a, (⟨b.1.1, b.1.2.1⟩ : wire_Reader))) (fun y => y.1) (fun y => ((y.2.b, y.2.err, ()), ())))) tabOk wire_Reader_Four_1_rk (RSp.one_ok tabOk (fun _ _ => by kernel_rfl) (fun _ _ => by kernel_rfl)) Try.func34 (by kernel_rfl) (by kernel_rfl) (by kernel_rfl) (by kernel_rfl) (cS trivial (cS trivial (cS (cS trivial (cC (cD (cS trivial trivial)) (cD trivial))) (cS trivial trivial)))) (fun _ y k => by kernel_rfl) (fun y => by kernel_rfl) (fun x h => by kernel_rfl)
def r01_Reader_Bin_r : Orcs Tb := [(36, r01_Reader_Num_w), (50, r01_Reader_take_w)]
theorem r01_Reader_Bin_rk : OrcsOk Try.prog Wp tab r01_Reader_Bin_r := (orcs_cons r01_Reader_Num_k (orcs_cons r01_Reader_take_k orcs_nil))
def r01_Reader_Bin_p : TCode Tb :=
(.seq (.reg [⟨.mv, [.k (.s [])], some 2, none⟩] none)
(.seq (.reg [⟨.mv, [.v 0], some 6, none⟩, ⟨(.call (some 36) 0), [.m 6, .k (.n .i64 2)], some 7, none⟩, ⟨(.cint .i64), [.m 7], some 8, none⟩, ⟨.mv, [.m 8], some 3, none⟩] none)
(.seq (.reg [⟨.mv, [.m 0], some 10, none⟩, ⟨.mv, [.m 3], some 11, none⟩, ⟨(.call (some 50) 1), [.m 10, .m 11], some 12, none⟩, ⟨.mv, [.m 12], some 9, none⟩, ⟨.extm, [.c 9 0], some 13, none⟩, ⟨(.ext 1), [.m 9], some 14, none⟩, ⟨.mv, [.m 13], some 4, none⟩, ⟨.mv, [.m 14], some 5, none⟩] none)
(.seq (.reg [⟨.mv, [.m 4], some 15, none⟩, ⟨.mv, [.m 15], some 2, none⟩] none)
.ret))))
def r01_Reader_Bin_w : Orc Tb := mkOrc (Y := (List UInt8) × r01_Reader) tab [.g (.f (.ref 0 0))] [[.g (.f (.a .s)), .g (.f (.a (.n .i64))), .g (.f (.a (.n .i64)))]] (fun x h => r01_Reader_Bin (⟨h.1.1, h.1.2.1, h.1.2.2.1⟩ : r01_Reader)) (fun _ y k => k (.s y.1) [[.s y.2.B, .n .i64 y.2.At, .n .i64 y.2.Bad]])
theorem r01_Reader_Bin_k : (r01_Reader_Bin_w).Ok Try.prog Wp tab 37 := orc_ok (Y := (List UInt8) × r01_Reader) (orcs := r01_Reader_Bin_r) (c := r01_Reader_Bin_p) (res := [.tmp 2]) (n := 16) (R := (RSp.one (Y := (List UInt8) × r01_Reader) tab (.g (.f (.a .s))) [[.g (.f (.a .s)), .g (.f (.a (.n .i64))), .g (.f (.a (.n .i64)))]] (fun a b => (a, (⟨b.1.1, b.1.2.1, b.1.2.2.1⟩ : r01_Reader))) (fun y => y.1) (fun y => ((y.2.B, y.2.At, y.2.Bad, ()), ())))) tabOk r01_Reader_Bin_rk (RSp.one_ok tabOk (fun _ _ => by kernel_rfl) (fun _ _ => by kernel_rfl)) Try.func37 (by kernel_rfl) (by kernel_rfl) (by kernel_rfl) (by kernel_rfl) (cS trivial (cS trivial (cS trivial (cS trivial trivial)))) (fun _ y k => by kernel_rfl) (fun y => by kernel_rfl) (fun x h => by kernel_rfl)
def wire_Reader_Rest_1_r : Orcs Tb := [(35, wire_Reader_Left_w), (49, wire_Reader_take_w)]
theorem wire_Reader_Rest_1_rk : OrcsOk Try.prog Wp tab wire_Reader_Rest_1_r := (orcs_cons wire_Reader_Left_k (orcs_cons wire_Reader_take_k orcs_nil))
def wire_Reader_Rest_1_p : TCode Tb :=
(.seq (.reg [⟨.mv, [.k (.s [])], some 2, none⟩] none)
(.seq (.reg [⟨.mv, [.v 0], some 6, none⟩, ⟨.mv, [.m 0], some 7, none⟩, ⟨(.call (some 35) 0), [.m 7], some 8, none⟩, ⟨(.call (some 49) 1), [.m 6, .m 8], some 9, none⟩, ⟨.mv, [.m 9], some 5, none⟩, ⟨.extm, [.c 5 0], some 10, none⟩, ⟨(.ext 1), [.m 5], some 11, none⟩, ⟨.mv, [.m 10], some 3, none⟩, ⟨.mv, [.m 11], some 4, none⟩] none)
(.seq (.reg [⟨.mv, [.m 3], some 12, none⟩, ⟨.mv, [.m 12], some 2, none⟩] none)
.ret)))
def wire_Reader_Rest_1_w : Orc Tb := mkOrc (Y := (List UInt8) × wire_Reader) tab [.g (.f (.ref 0 0))] [[.g (.f (.a .s)), .g (.f (.a (.n .i64)))]] (fun x h => wire_Reader_Rest_1 (⟨h.1.1, h.1.2.1⟩ : wire_Reader)) (fun _ y k => k (.s y.1) [[.s y.2.b, .n .i64 y.2.err]])
theorem wire_Reader_Rest_1_k : (wire_Reader_Rest_1_w).Ok Try.prog Wp tab 38 := orc_ok (Y := (List UInt8) × wire_Reader) (orcs := wire_Reader_Rest_1_r) (c := wire_Reader_Rest_1_p) (res := [.tmp 2]) (n := 13) (R := (RSp.one (Y := (List UInt8) × wire_Reader) tab (.g (.f (.a .s))) [[.g (.f (.a .s)), .g (.f (.a (.n .i64)))]] (fun a b => (a, (⟨b.1.1, b.1.2.1⟩ : wire_Reader))) (fun y => y.1) (fun y => ((y.2.b, y.2.err, ()), ())))) tabOk wire_Reader_Rest_1_rk (RSp.one_ok tabOk (fun _ _ => by kernel_rfl) (fun _ _ => by kernel_rfl)) Try.func38 (by kernel_rfl) (by kernel_rfl) (by kernel_rfl) (by kernel_rfl) (cS trivial (cS trivial (cS trivial trivial))) (fun _ y k => by kernel_rfl) (fun y => by kernel_rfl) (fun x h => by kernel_rfl)
def r01_Reader_Left_r : Orcs Tb := []
theorem r01_Reader_Left_rk : OrcsOk Try.prog Wp tab r01_Reader_Left_r := orcs_nil
def r01_Reader_Left_p : TCode Tb :=
(.seq (.reg [⟨.mv, [.k (.n .i64 0)], some 2, none⟩] none)
(.seq (.seq (.reg [⟨.mv, [.v 0], some 3, none⟩, ⟨.nilck, [.m 3], some 4, none⟩, ⟨(.fa 2), [.m 4], some 5, none⟩, ⟨(.load none), [.m 5], some 6, none⟩, ⟨(.bin .neq .i), [.m 6, .k (.n .i64 0)], some 7, none⟩] none)
(.cond 7 (.drop [0, 2, 7] (.seq (.reg [⟨.mv, [.k (.n .i64 0)], some 2, none⟩] none)
.ret))
(.drop [2, 7] .skip)))
(.seq (.reg [⟨.mv, [.v 0], some 8, none⟩, ⟨.nilck, [.m 8], some 9, none⟩, ⟨(.fa 0), [.m 9], some 10, none⟩, ⟨(.load none), [.m 10], some 11, none⟩, ⟨.lens, [.m 11], some 12, none⟩, ⟨.mv, [.v 0], some 13, none⟩, ⟨.nilck, [.m 13], some 14, none⟩, ⟨(.fa 1), [.m 14], some 15, none⟩, ⟨(.load none), [.m 15], some 16, none⟩, ⟨(.bin .sub .i), [.m 12, .m 16], some 17, none⟩, ⟨.mv, [.m 17], some 2, none⟩] (some [[], [], [], [], [], [], [], [], [3], [], []]))
.ret)))
def r01_Reader_Left_w : Orc Tb := mkOrc (Y := Int × r01_Reader) tab [.g (.f (.ref 0 0))] [[.g (.f (.a .s)), .g (.f (.a (.n .i64))), .g (.f (.a (.n .i64)))]] (fun x h => r01_Reader_Left (⟨h.1.1, h.1.2.1, h.1.2.2.1⟩ : r01_Reader)) (fun _ y k => k (.n .i64 y.1) [[.s y.2.B, .n .i64 y.2.At, .n .i64 y.2.Bad]])
theorem r01_Reader_Left_k : (r01_Reader_Left_w).Ok Try.prog Wp tab 42 := orc_ok (Y := Int × r01_Reader) (orcs := r01_Reader_Left_r) (c := r01_Reader_Left_p) (res := [.tmp 2]) (n := 18) (R := (RSp.one (Y := Int × r01_Reader) tab (.g (.f (.a (.n .i64)))) [[.g (.f (.a .s)), .g (.f (.a (.n .i64))), .g (.f (.a (.n .i64)))]] (fun a b => (a, (⟨b.1.1, b.1.2.1, b.1.2.2.1⟩ : r01_Reader))) (fun y => y.1) (fun y => ((y.2.B, y.2.At, y.2.Bad, ()), ())))) tabOk r01_Reader_Left_rk (RSp.one_ok tabOk (fun _ _ => by kernel_rfl) (fun _ _ => by kernel_rfl)) Try.func42 (by kernel_rfl) (by kernel_rfl) (by kernel_rfl) (by kernel_rfl) (cS trivial (cS (cS trivial (cC (cD (cS trivial trivial)) (cD trivial))) (cS trivial trivial))) (fun _ y k => by kernel_rfl) (fun y => by kernel_rfl) (fun x h => by kernel_rfl)
def r01_Reader_Rest_r : Orcs Tb := [(42, r01_Reader_Left_w), (50, r01_Reader_take_w)]
theorem r01_Reader_Rest_rk : OrcsOk Try.prog Wp tab r01_Reader_Rest_r := (orcs_cons r01_Reader_Left_k (orcs_cons r01_Reader_take_k orcs_nil))
def r01_Reader_Rest_p : TCode Tb :=
(.seq (.reg [⟨.mv, [.k (.s [])], some 2, none⟩] none)
(.seq (.reg [⟨.mv, [.v 0], some 6, none⟩, ⟨.mv, [.m 0], some 7, none⟩, ⟨(.call (some 42) 0), [.m 7], some 8, none⟩, ⟨(.call (some 50) 1), [.m 6, .m 8], some 9, none⟩, ⟨.mv, [.m 9], some 5, none⟩, ⟨.extm, [.c 5 0], some 10, none⟩, ⟨(.ext 1), [.m 5], some 11, none⟩, ⟨.mv, [.m 10], some 3, none⟩, ⟨.mv, [.m 11], some 4, none⟩] none)
(.seq (.reg [⟨.mv, [.m 3], some 12, none⟩, ⟨.mv, [.m 12], some 2, none⟩] none)
.ret)))
def r01_Reader_Rest_w : Orc Tb := mkOrc (Y := (List UInt8) × r01_Reader) tab [.g (.f (.ref 0 0))] [[.g (.f (.a .s)), .g (.f (.a (.n .i64))), .g (.f (.a (.n .i64)))]] (fun x h => r01_Reader_Rest (⟨h.1.1, h.1.2.1, h.1.2.2.1⟩ : r01_Reader)) (fun _ y k => k (.s y.1) [[.s y.2.B, .n .i64 y.2.At, .n .i64 y.2.Bad]])
theorem r01_Reader_Rest_k : (r01_Reader_Rest_w).Ok Try.prog Wp tab 39 := orc_ok (Y := (List UInt8) × r01_Reader) (orcs := r01_Reader_Rest_r) (c := r01_Reader_Rest_p) (res := [.tmp 2]) (n := 13) (R := (RSp.one (Y := (List UInt8) × r01_Reader) tab (.g (.f (.a .s))) [[.g (.f (.a .s)), .g (.f (.a (.n .i64))), .g (.f (.a (.n .i64)))]] (fun a b => (a, (⟨b.1.1, b.1.2.1, b.1.2.2.1⟩ : r01_Reader))) (fun y => y.1) (fun y => ((y.2.B, y.2.At, y.2.Bad, ()), ())))) tabOk r01_Reader_Rest_rk (RSp.one_ok tabOk (fun _ _ => by kernel_rfl) (fun _ _ => by kernel_rfl)) Try.func39 (by kernel_rfl) (by kernel_rfl) (by kernel_rfl) (by kernel_rfl) (cS trivial (cS trivial (cS trivial trivial))) (fun _ y k => by kernel_rfl) (fun y => by kernel_rfl) (fun x h => by kernel_rfl)
def wire_Reader_Sub_1_r : Orcs Tb := [(49, wire_Reader_take_w)]
theorem wire_Reader_Sub_1_rk : OrcsOk Try.prog Wp tab wire_Reader_Sub_1_r := (orcs_cons wire_Reader_take_k orcs_nil)
def wire_Reader_Sub_1_p : TCode Tb :=
(.seq (.reg [⟨.mv, [.k (.nilP)], some 4, none⟩] none)
(.seq (.seq (.reg [⟨.mv, [.v 0], some 7, none⟩, ⟨(.bin .eql .p), [.m 7, .k (.nilP)], some 8, none⟩] none)
(.cond 8 (.drop [0, 1, 4, 8] (.seq (.reg [⟨.mv, [.k (.nilP)], some 4, none⟩] none)
.ret))
(.drop [4, 8] .skip)))
(.seq (.reg [⟨.mv, [.v 0], some 10, none⟩, ⟨.mv, [.m 1], some 11, none⟩, ⟨(.call (some 49) 0), [.m 10, .m 11], some 12, none⟩, ⟨.mv, [.m 12], some 9, none⟩, ⟨.extm, [.c 9 0], some 13, none⟩, ⟨(.ext 1), [.m 9], some 14, none⟩, ⟨.mv, [.m 13], some 5, none⟩, ⟨.mv, [.m 14], some 6, none⟩] none)
(.seq (.reg [⟨.mv, [.m 5], some 15, none⟩, ⟨.mv, [.m 0], some 16, none⟩, ⟨.nilck, [.m 16], some 17, none⟩, ⟨(.fa 1), [.m 17], some 18, none⟩, ⟨(.load none), [.m 18], some 19, none⟩, ⟨(.build [.s [], .n .i64 0] [(0, 1), (1, 1)]), [.m 15, .m 19], some 20, none⟩, ⟨.box, [.m 20], some 21, none⟩, ⟨.mv, [.m 21], some 4, none⟩] none)
.ret))))
def wire_Reader_Sub_1_w : Orc Tb := mkOrc (Y := wire_Reader × wire_Reader) tab [.g (.f (.ref 0 0)), .g (.f (.a (.n .i64)))] [[.g (.f (.a .s)), .g (.f (.a (.n .i64)))]] (fun x h => wire_Reader_Sub_1 x.2.1 (⟨h.1.1, h.1.2.1⟩ : wire_Reader)) (fun _ y k => k (.ref 1 0) [[.s y.1.b, .n .i64 y.1.err], [.s y.2.b, .n .i64 y.2.err]])
theorem wire_Reader_Sub_1_k : (wire_Reader_Sub_1_w).Ok Try.prog Wp tab 40 := orc_ok (Y := wire_Reader × wire_Reader) (orcs := wire_Reader_Sub_1_r) (c := wire_Reader_Sub_1_p) (res := [.tmp 4]) (n := 22) (R := (RSp.one (Y := wire_Reader × wire_Reader) tab (.g (.f (.ref 1 0))) [[.g (.f (.a .s)), .g (.f (.a (.n .i64)))], [.g (.f (.a .s)), .g (.f (.a (.n .i64)))]] (fun a b => ((⟨b.1.1, b.1.2.1⟩ : wire_Reader), (⟨b.2.1.1, b.2.1.2.1⟩ : wire_Reader))) (fun y => ()) (fun y => ((y.1.b, y.1.err, ()), (y.2.b, y.2.err, ()), ())))) tabOk wire_Reader_Sub_1_rk (RSp.one_ok tabOk (fun _ _ => by kernel_rfl) (fun _ _ => by kernel_rfl)) Try.func40 (by kernel_rfl) (by kernel_rfl) (by kernel_rfl) (by kernel_rfl) (cS trivial (cS (cS trivial (cC (cD (cS trivial trivial)) (cD trivial))) (cS trivial (cS trivial trivial)))) (fun _ y k => by kernel_rfl) (fun y => by kernel_rfl) (fun x h => by kernel_rfl)
def r01_Reader_Sub_r : Orcs Tb := [(50, r01_Reader_take_w)]
theorem r01_Reader_Sub_rk : OrcsOk Try.prog Wp tab r01_Reader_Sub_r := (orcs_cons r01_Reader_take_k orcs_nil)
def r01_Reader_Sub_p : TCode Tb :=
(.seq (.reg [⟨.mv, [.k (.nilP)], some 4, none⟩] none)
(.seq (.reg [⟨.mv, [.v 0], some 8, none⟩, ⟨.mv, [.m 1], some 9, none⟩, ⟨(.call (some 50) 0), [.m 8, .m 9], some 10, none⟩, ⟨.mv, [.m 10], some 7, none⟩, ⟨.extm, [.c 7 0], some 11, none⟩, ⟨(.ext 1), [.m 7], some 12, none⟩, ⟨.mv, [.m 11], some 5, none⟩, ⟨.mv, [.m 12], some 6, none⟩] none)
(.seq (.seq (.reg [⟨.mv, [.m 6], some 13, none⟩, ⟨(.un .not), [.m 13], some 14, none⟩] none)
(.cond 14 (.drop [4, 5, 14] (.seq (.reg [⟨.mv, [.m 0], some 15, none⟩, ⟨.nilck, [.m 15], some 16, none⟩, ⟨(.fa 2), [.m 16], some 17, none⟩, ⟨(.load none), [.m 17], some 18, none⟩, ⟨(.build [.s [], .n .i64 0, .n .i64 0] [(2, 1)]), [.m 18], some 19, none⟩, ⟨.box, [.m 19], some 20, none⟩, ⟨.mv, [.m 20], some 4, none⟩] none)
.ret))
(.drop [0, 4, 14] .skip)))
(.seq (.reg [⟨.mv, [.m 5], some 21, none⟩, ⟨(.build [.s [], .n .i64 0, .n .i64 0] [(0, 1)]), [.m 21], some 22, none⟩, ⟨.box, [.m 22], some 23, none⟩, ⟨.mv, [.m 23], some 4, none⟩] none)
.ret))))
def r01_Reader_Sub_w : Orc Tb := mkOrc (Y := r01_Reader × r01_Reader) tab [.g (.f (.ref 0 0)), .g (.f (.a (.n .i64)))] [[.g (.f (.a .s)), .g (.f (.a (.n .i64))), .g (.f (.a (.n .i64)))]] (fun x h => r01_Reader_Sub x.2.1 (⟨h.1.1, h.1.2.1, h.1.2.2.1⟩ : r01_Reader)) (fun _ y k => k (.ref 1 0) [[.s y.1.B, .n .i64 y.1.At, .n .i64 y.1.Bad], [.s y.2.B, .n .i64 y.2.At, .n .i64 y.2.Bad]])
theorem r01_Reader_Sub_k : (r01_Reader_Sub_w).Ok Try.prog Wp tab 41 := orc_ok (Y := r01_Reader × r01_Reader) (orcs := r01_Reader_Sub_r) (c := r01_Reader_Sub_p) (res := [.tmp 4]) (n := 24) (R := (RSp.one (Y := r01_Reader × r01_Reader) tab (.g (.f (.ref 1 0))) [[.g (.f (.a .s)), .g (.f (.a (.n .i64))), .g (.f (.a (.n .i64)))], [.g (.f (.a .s)), .g (.f (.a (.n .i64))), .g (.f (.a (.n .i64)))]] (fun a b => ((⟨b.1.1, b.1.2.1, b.1.2.2.1⟩ : r01_Reader), (⟨b.2.1.1, b.2.1.2.1, b.2.1.2.2.1⟩ : r01_Reader))) (fun y => ()) (fun y => ((y.1.B, y.1.At, y.1.Bad, ()), (y.2.B, y.2.At, y.2.Bad, ()), ())))) tabOk r01_Reader_Sub_rk (RSp.one_ok tabOk (fun _ _ => by kernel_rfl) (fun _ _ => by kernel_rfl)) Try.func41 (by kernel_rfl) (by kernel_rfl) (by kernel_rfl) (by kernel_rfl) (cS trivial (cS trivial (cS (cS trivial (cC (cD (cS trivial trivial)) (cD trivial))) (cS trivial trivial)))) (fun _ y k => by kernel_rfl) (fun y => by kernel_rfl) (fun x h => by kernel_rfl)
def l01_WireReads_r : Orcs Tb := [(17, wire_Read_w), (21, l01_told_w), (26, wire_Reader_Byte_1_w), (36, r01_Reader_Num_w), (33, wire_Reader_Two_w), (34, wire_Reader_Four_1_w), (18, wire_Reader_Var_w), (19, r01_Reader_Var_w), (27, wire_Reader_Bin_w), (37, r01_Reader_Bin_w), (38, wire_Reader_Rest_1_w), (39, r01_Reader_Rest_w), (40, wire_Reader_Sub_1_w), (41, r01_Reader_Sub_w), (35, wire_Reader_Left_w), (42, r01_Reader_Left_w), (22, wire_Reader_Err_w)]
theorem l01_WireReads_rk : OrcsOk Try.prog Wp tab l01_WireReads_r := (orcs_cons wire_Read_k (orcs_cons l01_told_k (orcs_cons wire_Reader_Byte_1_k (orcs_cons r01_Reader_Num_k (orcs_cons wire_Reader_Two_k (orcs_cons wire_Reader_Four_1_k (orcs_cons wire_Reader_Var_k (orcs_cons r01_Reader_Var_k (orcs_cons wire_Reader_Bin_k (orcs_cons r01_Reader_Bin_k (orcs_cons wire_Reader_Rest_1_k (orcs_cons r01_Reader_Rest_k (orcs_cons wire_Reader_Sub_1_k (orcs_cons r01_Reader_Sub_k (orcs_cons wire_Reader_Left_k (orcs_cons r01_Reader_Left_k (orcs_cons wire_Reader_Err_k orcs_nil)))))))))))))))))
def l01_WireReads_p1 : TCode Tb :=
(.seq (.reg [⟨.mv, [.m 9], some 144, none⟩, ⟨(.un .not), [.m 144], some 145, none⟩, ⟨.mv, [.m 145], some 146, none⟩, ⟨.mv, [.v 6], some 147, some (146, false)⟩, ⟨(.call (some 22) 16), [.m 147], some 148, some (146, false)⟩, ⟨.mv, [.v 7], some 149, some (146, false)⟩, ⟨.nilck, [.m 149], some 150, some (146, false)⟩, ⟨(.fa 2), [.m 150], some 151, some (146, false)⟩, ⟨(.load none), [.m 151], some 152, some (146, false)⟩, ⟨(.bin .neq .i), [.m 148, .m 152], some 153, some (146, false)⟩, ⟨.pick, [.m 146, .k (.b true), .m 153], some 154, none⟩, ⟨.mv, [.m 154], some 155, none⟩, ⟨.mv, [.v 6], some 156, some (155, false)⟩, ⟨(.call (some 35) 14), [.m 156], some 157, some (155, false)⟩, ⟨.mv, [.v 7], some 158, some (155, false)⟩, ⟨(.call (some 42) 15), [.m 158], some 159, some (155, false)⟩, ⟨(.bin .neq .i), [.m 157, .m 159], some 160, some (155, false)⟩, ⟨.pick, [.m 155, .k (.b true), .m 160], some 161, none⟩] (some [[], [], [], [], [], [], [], [], [4], [], [], [], [], [], [], [], [], []]))
(.drop [147, 148, 149, 150, 151, 152, 156, 157, 158, 159] (.cond 161 (.drop [0, 1, 5, 6, 7, 8, 161] (.seq (.reg [⟨.mv, [.k (.b false)], some 4, none⟩] none)
.ret))
(.drop [161] .skip))))
def l01_WireReads_s1 : SSh := ⟨[(0, .g (.f (.a .bs))), (1, .g (.f (.a (.sl 1)))), (5, .g (.f (.bo))), (6, .g (.f (.ref 0 0))), (7, .g (.f (.ref 1 0))), (8, .g (.f (.a (.n .i64)))), (9, .g (.f (.a .b)))], [[.g (.f (.a .s)), .g (.f (.a (.n .i64)))], [.g (.f (.a .s)), .g (.f (.a (.n .i64))), .g (.f (.a (.n .i64)))]]⟩
def l01_WireReads_o1 : Cut Tb := cutJ tab 0 l01_WireReads_s1 (fun _ x k => l01_WireReads_c1 x.1.2.2.2.2.2.2.1 (⟨x.2.1.1, x.2.1.2.1⟩ : wire_Reader) (⟨x.2.2.1.1, x.2.2.1.2.1, x.2.2.1.2.2.1⟩ : r01_Reader) (fun y71 y72 => k .ret ⟨[(4, .b false)], [[.s y71.b, .n .i64 y71.err], [.s y72.B, .n .i64 y72.At, .n .i64 y72.Bad]]⟩) (fun y73 y74 => k .normal ⟨[(0, .bs x.1.1), (1, .sl 1 x.1.2.1), (5, .bo x.1.2.2.1), (6, .ref 0 0), (7, .ref 1 0), (8, .n .i64 x.1.2.2.2.2.2.1)], [[.s y73.b, .n .i64 y73.err], [.s y74.B, .n .i64 y74.At, .n .i64 y74.Bad]]⟩))
theorem l01_WireReads_q1 : (l01_WireReads_o1).Ok Try.prog Wp tab 0 l01_WireReads_p1 := cutJ_ok (c := l01_WireReads_p1) tabOk l01_WireReads_rk (cS trivial (cD (cC (cD (cS trivial trivial)) (cD trivial)))) (fun _ _ => by kernel_rfl)
def l01_WireReads_p0 : TCode Tb :=
(.seq (.seq (.reg [⟨.mv, [.v 8], some 32, none⟩, ⟨.mv, [.v 1], some 33, none⟩, ⟨.len, [.m 33], some 34, none⟩, ⟨(.bin .lss .i), [.m 32, .m 34], some 35, none⟩, ⟨.mv, [.m 35], some 36, none⟩, ⟨.mv, [.v 8], some 37, some (36, true)⟩, ⟨(.bin .lss .i), [.m 37, .k (.n .i64 40)], some 38, some (36, true)⟩, ⟨.pick, [.m 36, .m 38, .k (.b false)], some 39, none⟩] none)
(.drop [37] (.cond 39 (.drop [39] .skip)
(.drop [1, 6, 7, 8, 39] (.exit 0)))))
(.seq (.block 1 (.seq (.reg [⟨.mv, [.k (.b true)], some 9, none⟩] none)
(.seq (.seq (.reg [⟨.mv, [.v 1], some 42, none⟩, ⟨.mv, [.v 8], some 43, none⟩, ⟨(.ia 2), [.v 42, .m 43], some 44, none⟩, ⟨(.fa 0), [.m 44], some 45, none⟩, ⟨(.load none), [.m 45], some 46, none⟩, ⟨(.cint .u64), [.m 46], some 47, none⟩, ⟨(.bin .rem .i), [.m 47, .k (.u64 (7 : UInt64))], some 48, none⟩, ⟨(.cint .i64), [.m 48], some 49, none⟩] none)
(.block 2 (.seq (.reg [⟨(.bin .eql .i), [.v 49, .k (.n .i64 0)], some 51, none⟩, ⟨.mv, [.m 51], some 50, none⟩] none)
(.cond 50 (.drop [9, 42, 49, 50] (.reg [⟨.mv, [.v 6], some 52, none⟩, ⟨(.call (some 26) 2), [.m 52], some 53, none⟩, ⟨(.cint .u64), [.m 53], some 54, none⟩, ⟨.mv, [.v 7], some 55, none⟩, ⟨(.call (some 36) 3), [.m 55, .k (.n .i64 1)], some 56, none⟩, ⟨(.bin .eql .i), [.m 54, .m 56], some 57, none⟩, ⟨.mv, [.m 57], some 9, none⟩] none))
(.drop [42, 50] (.seq (.reg [⟨(.bin .eql .i), [.v 49, .k (.n .i64 1)], some 59, none⟩, ⟨.mv, [.m 59], some 58, none⟩] none)
(.cond 58 (.drop [9, 49, 58] (.reg [⟨.mv, [.v 6], some 60, none⟩, ⟨(.call (some 33) 4), [.m 60], some 61, none⟩, ⟨(.cint .u64), [.m 61], some 62, none⟩, ⟨.mv, [.v 7], some 63, none⟩, ⟨(.call (some 36) 3), [.m 63, .k (.n .i64 2)], some 64, none⟩, ⟨(.bin .eql .i), [.m 62, .m 64], some 65, none⟩, ⟨.mv, [.m 65], some 9, none⟩] none))
(.drop [58] (.seq (.reg [⟨(.bin .eql .i), [.v 49, .k (.n .i64 2)], some 67, none⟩, ⟨.mv, [.m 67], some 66, none⟩] none)
(.cond 66 (.drop [9, 49, 66] (.reg [⟨.mv, [.v 6], some 68, none⟩, ⟨(.call (some 34) 5), [.m 68], some 69, none⟩, ⟨(.cint .u64), [.m 69], some 70, none⟩, ⟨.mv, [.v 7], some 71, none⟩, ⟨(.call (some 36) 3), [.m 71, .k (.n .i64 4)], some 72, none⟩, ⟨(.bin .eql .i), [.m 70, .m 72], some 73, none⟩, ⟨.mv, [.m 73], some 9, none⟩] none))
(.drop [66] (.seq (.reg [⟨(.bin .eql .i), [.v 49, .k (.n .i64 3)], some 75, none⟩, ⟨.mv, [.m 75], some 74, none⟩] none)
(.cond 74 (.drop [9, 49, 74] (.reg [⟨.mv, [.v 6], some 76, none⟩, ⟨(.call (some 18) 6), [.m 76], some 77, none⟩, ⟨.mv, [.v 7], some 78, none⟩, ⟨(.call (some 19) 7), [.m 78], some 79, none⟩, ⟨(.bin .eql .i), [.m 77, .m 79], some 80, none⟩, ⟨.mv, [.m 80], some 9, none⟩] none))
(.drop [74] (.seq (.reg [⟨(.bin .eql .i), [.v 49, .k (.n .i64 4)], some 82, none⟩, ⟨.mv, [.m 82], some 81, none⟩] none)
(.cond 81 (.drop [9, 49, 81] (.reg [⟨.mv, [.v 6], some 83, none⟩, ⟨(.call (some 27) 8), [.m 83], some 84, none⟩, ⟨.mv, [.v 7], some 85, none⟩, ⟨(.call (some 37) 9), [.m 85], some 86, none⟩, ⟨(.bin .eql .s), [.m 84, .m 86], some 87, none⟩, ⟨.mv, [.m 87], some 9, none⟩] none))
(.drop [81] (.seq (.reg [⟨(.bin .eql .i), [.v 49, .k (.n .i64 5)], some 89, none⟩, ⟨.mv, [.m 89], some 88, none⟩] none)
(.cond 88 (.drop [9, 49, 88] (.reg [⟨.mv, [.v 6], some 90, none⟩, ⟨(.call (some 38) 10), [.m 90], some 91, none⟩, ⟨.mv, [.v 7], some 92, none⟩, ⟨(.call (some 39) 11), [.m 92], some 93, none⟩, ⟨(.bin .eql .s), [.m 91, .m 93], some 94, none⟩, ⟨.mv, [.m 94], some 9, none⟩] none))
(.drop [88] (.seq (.reg [⟨(.bin .eql .i), [.m 49, .k (.n .i64 6)], some 96, none⟩, ⟨.mv, [.m 96], some 95, none⟩] none)
(.cond 95 (.drop [9, 95] (.seq (.reg [⟨.mv, [.v 6], some 97, none⟩, ⟨.mv, [.v 1], some 98, none⟩, ⟨.mv, [.v 8], some 99, none⟩, ⟨(.ia 2), [.v 98, .m 99], some 100, none⟩, ⟨(.fa 1), [.m 100], some 101, none⟩, ⟨(.load none), [.m 101], some 102, none⟩, ⟨(.call (some 40) 12), [.m 97, .m 102], some 103, none⟩, ⟨.mv, [.v 7], some 104, none⟩, ⟨.mv, [.v 1], some 105, none⟩, ⟨.mv, [.v 8], some 106, none⟩, ⟨(.ia 2), [.v 105, .m 106], some 107, none⟩, ⟨(.fa 1), [.m 107], some 108, none⟩, ⟨(.load none), [.m 108], some 109, none⟩, ⟨(.call (some 41) 13), [.m 104, .m 109], some 110, none⟩, ⟨.mv, [.m 103], some 10, none⟩, ⟨.mv, [.m 110], some 11, none⟩] (some [[], [], [], [], [], [], [], [], [], [], [], [], [5, 6], [], [], []]))
(.reg [⟨.mv, [.v 10], some 111, none⟩, ⟨(.bin .neq .p), [.m 111, .k (.nilP)], some 112, none⟩, ⟨.mv, [.m 112], some 113, none⟩, ⟨.mv, [.v 10], some 114, some (113, true)⟩, ⟨(.call (some 35) 14), [.m 114], some 115, some (113, true)⟩, ⟨.mv, [.v 11], some 116, some (113, true)⟩, ⟨(.call (some 42) 15), [.m 116], some 117, some (113, true)⟩, ⟨(.bin .eql .i), [.m 115, .m 117], some 118, some (113, true)⟩, ⟨.pick, [.m 113, .m 118, .k (.b false)], some 119, none⟩, ⟨.mv, [.m 119], some 120, none⟩, ⟨.mv, [.v 10], some 121, some (120, true)⟩, ⟨(.call (some 26) 2), [.m 121], some 122, some (120, true)⟩, ⟨(.cint .u64), [.m 122], some 123, some (120, true)⟩, ⟨.mv, [.v 11], some 124, some (120, true)⟩, ⟨(.call (some 36) 3), [.m 124, .k (.n .i64 1)], some 125, some (120, true)⟩, ⟨(.bin .eql .i), [.m 123, .m 125], some 126, some (120, true)⟩, ⟨.pick, [.m 120, .m 126, .k (.b false)], some 127, none⟩, ⟨.mv, [.m 127], some 128, none⟩, ⟨.mv, [.v 10], some 129, some (128, true)⟩, ⟨(.call (some 27) 8), [.m 129], some 130, some (128, true)⟩, ⟨.mv, [.v 11], some 131, some (128, true)⟩, ⟨(.call (some 37) 9), [.m 131], some 132, some (128, true)⟩, ⟨(.bin .eql .s), [.m 130, .m 132], some 133, some (128, true)⟩, ⟨.pick, [.m 128, .m 133, .k (.b false)], some 134, none⟩, ⟨.mv, [.m 134], some 135, none⟩, ⟨.mv, [.m 10], some 136, some (135, true)⟩, ⟨(.call (some 22) 16), [.m 136], some 137, some (135, true)⟩, ⟨.mv, [.m 11], some 138, some (135, true)⟩, ⟨.nilck, [.m 138], some 139, some (135, true)⟩, ⟨(.fa 2), [.m 139], some 140, some (135, true)⟩, ⟨(.load none), [.m 140], some 141, some (135, true)⟩, ⟨(.bin .eql .i), [.m 137, .m 141], some 142, some (135, true)⟩, ⟨.pick, [.m 135, .m 142, .k (.b false)], some 143, none⟩, ⟨.mv, [.m 143], some 9, none⟩] (some [[], [], [], [], [], [], [], [], [], [], [], [], [], [], [], [], [], [], [], [], [], [], [], [], [], [], [], [], [], [], [26], [], [], []]))))
(.drop [95] .skip)))))))))))))))))))))))
(.drop [10, 11, 98, 105, 114, 115, 116, 117, 121, 122, 123, 124, 125, 129, 130, 131, 132, 136, 137, 138, 139, 140, 141] (.cut 0 l01_WireReads_o1 l01_WireReads_p1)))))
(.reg [⟨.mv, [.m 8], some 40, none⟩, ⟨(.bin .add .i), [.m 40, .k (.n .i64 1)], some 41, none⟩, ⟨.mv, [.m 41], some 8, none⟩] none)))
def l01_WireReads_s0 : SSh := ⟨[(0, .g (.f (.a .bs))), (1, .g (.f (.a (.sl 1)))), (5, .g (.f (.bo))), (6, .g (.f (.ref 0 0))), (7, .g (.f (.ref 1 0))), (8, .g (.f (.a (.n .i64))))], [[.g (.f (.a .s)), .g (.f (.a (.n .i64)))], [.g (.f (.a .s)), .g (.f (.a (.n .i64))), .g (.f (.a (.n .i64)))]]⟩
def l01_WireReads_o0 : Cut Tb := cutL tab 0 l01_WireReads_s0 (fun x => (x.1.2.2.2.2.2.1, (⟨x.2.1.1, x.2.1.2.1⟩ : wire_Reader), (⟨x.2.2.1.1, x.2.2.1.2.1, x.2.2.1.2.2.1⟩ : r01_Reader))) (fun x => l01_WireReads_l0 x.1.2.1) (fun _ x y k => match y with | .inl y => k .ret ⟨[(4, .b false)], [[.s y.1.b, .n .i64 y.1.err], [.s y.2.B, .n .i64 y.2.At, .n .i64 y.2.Bad]]⟩ | .inr y => k (.exit 0) ⟨[(0, .bs x.1.1), (5, .bo x.1.2.2.1)], [[.s y.1.b, .n .i64 y.1.err], [.s y.2.B, .n .i64 y.2.At, .n .i64 y.2.Bad]]⟩)
theorem l01_WireReads_q0 : (l01_WireReads_o0).Ok Try.prog Wp tab 0 (.loop l01_WireReads_p0) := cutL_ok (c := l01_WireReads_p0) (Z := Int × wire_Reader × r01_Reader) (Y := (wire_Reader × r01_Reader) ⊕ (wire_Reader × r01_Reader)) tabOk l01_WireReads_rk (cS (cS trivial (cD (cC (cD trivial) (cD trivial)))) (cS (cB (cS trivial (cS (cS trivial (cB (cS trivial (cC (cD trivial) (cD (cS trivial (cC (cD trivial) (cD (cS trivial (cC (cD trivial) (cD (cS trivial (cC (cD trivial) (cD (cS trivial (cC (cD trivial) (cD (cS trivial (cC (cD trivial) (cD (cS trivial (cC (cD (cS trivial trivial)) (cD trivial))))))))))))))))))))))) (cD (cT l01_WireReads_q1))))) trivial)) (fun _ x z b e => l01_WireReads_b0 x.1.2.1 z.1 z.2.1 z.2.2 (fun x10 x11 x12 => b (x10, x11, x12)) (fun y119 y120 => e (.inl (y119, y120))) (fun y121 y122 => e (.inr (y121, y122)))) (fun x z => ⟨[(0, .bs x.1.1), (1, .sl 1 x.1.2.1), (5, .bo x.1.2.2.1), (6, .ref 0 0), (7, .ref 1 0), (8, .n .i64 z.1)], [[.s z.2.1.b, .n .i64 z.2.1.err], [.s z.2.2.B, .n .i64 z.2.2.At, .n .i64 z.2.2.Bad]]⟩) (fun x y => match y with | .inl y => (.ret, ⟨[(4, .b false)], [[.s y.1.b, .n .i64 y.1.err], [.s y.2.B, .n .i64 y.2.At, .n .i64 y.2.Bad]]⟩) | .inr y => ((.exit 0), ⟨[(0, .bs x.1.1), (5, .bo x.1.2.2.1)], [[.s y.1.b, .n .i64 y.1.err], [.s y.2.B, .n .i64 y.2.At, .n .i64 y.2.Bad]]⟩)) (fun t => (prjS tab 0 l01_WireReads_s0 t).bind fun x => some (x.1.2.2.2.2.2.1, (⟨x.2.1.1, x.2.1.2.1⟩ : wire_Reader), (⟨x.2.2.1.1, x.2.2.1.2.1, x.2.2.1.2.2.1⟩ : r01_Reader))) (fun e t => (if eqE e .ret then orElse ((prjS tab 0 ⟨[(4, .g (.f (.cb false)))], [[.g (.f (.a .s)), .g (.f (.a (.n .i64)))], [.g (.f (.a .s)), .g (.f (.a (.n .i64))), .g (.f (.a (.n .i64)))]]⟩ t).bind fun v => some (.inl ((⟨v.2.1.1, v.2.1.2.1⟩ : wire_Reader), (⟨v.2.2.1.1, v.2.2.1.2.1, v.2.2.1.2.2.1⟩ : r01_Reader)))) (if eqE e (.exit 0) then (prjS tab 0 ⟨[(0, .g (.f (.a .bs))), (5, .g (.f (.bo)))], [[.g (.f (.a .s)), .g (.f (.a (.n .i64)))], [.g (.f (.a .s)), .g (.f (.a (.n .i64))), .g (.f (.a (.n .i64)))]]⟩ t).bind fun v => some (.inr ((⟨v.2.1.1, v.2.1.2.1⟩ : wire_Reader), (⟨v.2.2.1.1, v.2.2.1.2.1, v.2.2.1.2.2.1⟩ : r01_Reader))) else none) else (if eqE e (.exit 0) then (prjS tab 0 ⟨[(0, .g (.f (.a .bs))), (5, .g (.f (.bo)))], [[.g (.f (.a .s)), .g (.f (.a (.n .i64)))], [.g (.f (.a .s)), .g (.f (.a (.n .i64))), .g (.f (.a (.n .i64)))]]⟩ t).bind fun v => some (.inr ((⟨v.2.1.1, v.2.1.2.1⟩ : wire_Reader), (⟨v.2.2.1.1, v.2.2.1.2.1, v.2.2.1.2.2.1⟩ : r01_Reader))) else none))) (fun x => by kernel_rfl) (fun x z => by kernel_rfl) (fun x y k => by rcases y with y | y <;> kernel_rfl) (fun x y => by rcases y with y | y <;> exact nofun) (fun x z => by kernel_rfl) (fun x y => by rcases y with y | y <;> kernel_rfl) (fun x z k => by kernel_rfl)
def l01_WireReads_p : TCode Tb :=
(.seq (.reg [⟨.mv, [.k (.b false)], some 4, none⟩] none)
(.seq (.reg [⟨.mv, [.v 0], some 12, none⟩, ⟨.mv, [.m 0], some 13, none⟩, ⟨.len, [.m 13], some 14, none⟩, ⟨.min, [.m 14, .k (.n .i64 300)], some 15, none⟩, ⟨(.ssl 1 false true), [.v 12, .m 15], some 16, none⟩, ⟨.mv, [.m 16], some 0, none⟩] none)
(.seq (.reg [⟨(.b8 0 []), [], some 17, none⟩, ⟨.mv, [.v 0], some 18, none⟩, ⟨(.app 1 1), [.m 17, .m 18], some 19, none⟩, ⟨.mv, [.m 19], some 5, none⟩] none)
(.seq (.reg [⟨.mv, [.v 5], some 20, none⟩, ⟨(.call (some 17) 0), [.m 20], some 21, none⟩, ⟨.mv, [.m 21], some 6, none⟩] none)
(.seq (.reg [⟨.mv, [.v 0], some 22, none⟩, ⟨.b2s, [.m 22], some 23, none⟩, ⟨(.build [.s [], .n .i64 0, .n .i64 0] [(0, 1)]), [.m 23], some 24, none⟩, ⟨.box, [.m 24], some 25, none⟩, ⟨.mv, [.m 25], some 7, none⟩] none)
(.seq (.seq (.reg [⟨(.call (some 21) 1), [], some 26, none⟩, ⟨(.un .not), [.m 26], some 27, none⟩, ⟨.mv, [.m 27], some 28, none⟩, ⟨.mv, [.v 6], some 29, some (28, false)⟩, ⟨(.bin .eql .p), [.m 29, .k (.nilP)], some 30, some (28, false)⟩, ⟨.pick, [.m 28, .k (.b true), .m 30], some 31, none⟩] none)
(.drop [4, 12, 29] (.cond 31 (.drop [0, 1, 5, 6, 7, 31] (.seq (.reg [⟨.mv, [.k (.b false)], some 4, none⟩] none)
.ret))
(.drop [31] .skip))))
(.seq (.seq (.reg [⟨.mv, [.k (.n .i64 0)], some 8, none⟩] none)
(.block 0 (.cut 0 l01_WireReads_o0 (.loop l01_WireReads_p0))))
(.seq (.reg [⟨.mv, [.m 5], some 162, none⟩, ⟨.b2s, [.m 162], some 163, none⟩, ⟨.mv, [.m 0], some 164, none⟩, ⟨.b2s, [.m 164], some 165, none⟩, ⟨(.bin .eql .s), [.m 163, .m 165], some 166, none⟩, ⟨.mv, [.m 166], some 4, none⟩] none)
.ret))))))))
def l01_WireReads_w : Orc Tb := mkOrc (Y := Bool) tab [.g (.f (.a .bs)), .g (.f (.a (.sl 1)))] [] (fun x h => l01_WireReads x.1 x.2.1) (fun _ y k => k (.b y) [])
theorem l01_WireReads_k : (l01_WireReads_w).Ok Try.prog Wp tab 8 := orc_ok (Y := Bool) (orcs := l01_WireReads_r) (c := l01_WireReads_p) (res := [.tmp 4]) (n := 167) (R := (RSp.one (Y := Bool) tab (.g (.f (.a .b))) [] (fun a b => a) (fun y => y) (fun y => ()))) tabOk l01_WireReads_rk (RSp.one_ok tabOk (fun _ _ => by kernel_rfl) (fun _ _ => by kernel_rfl)) Try.func8 (by kernel_rfl) (by kernel_rfl) (by kernel_rfl) (by kernel_rfl) (cS trivial (cS trivial (cS trivial (cS trivial (cS trivial (cS (cS trivial (cD (cC (cD (cS trivial trivial)) (cD trivial)))) (cS (cS trivial (cB (cT l01_WireReads_q0))) (cS trivial trivial)))))))) (fun _ y k => by kernel_rfl) (fun y => by kernel_rfl) (fun x h => by kernel_rfl)
end Go.Rv
