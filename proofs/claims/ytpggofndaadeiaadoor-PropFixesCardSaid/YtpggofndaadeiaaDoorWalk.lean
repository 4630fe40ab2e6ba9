/- That the program's functions are these plain functions. -/
import Derived.Test.YtpggofndaadeiaaDoorPure
import Derived.Test.YtpggofndaadeiaaDoorChecked
set_option linter.unusedSimpArgs false
set_option linter.unusedVariables false
set_option maxRecDepth 100000
namespace Go.Rv
open Go.Proofs
def Wp : World → Prop := TrydWp
def prop_laterRow_r : Orcs Tb := []
theorem prop_laterRow_rk : OrcsOk Tryd.prog Wp tab prop_laterRow_r := orcs_nil
def prop_laterRow_p1 : TCode Tb :=
(.cond 25 (.drop [2, 7, 25] (.seq (.reg [⟨.mv, [.m 1], some 31, none⟩, ⟨(.ssl 1 true false), [.v 31, .k (.n .i64 1)], some 32, none⟩, ⟨(.build [.n .i64 0, .sl 0 none] [(0, 1), (1, 1)]), [.k (.n .i64 1), .m 32], some 33, none⟩, ⟨(.store 2), [.v 6, .m 33], none, none⟩] none)
.ret))
(.drop [25] (.seq (.reg [⟨(.bin .eql .i), [.v 7, .k (.u8 (38 : UInt8))], some 35, none⟩, ⟨.mv, [.m 35], some 34, none⟩] none)
(.cond 34 (.drop [1, 7, 34] (.seq (.reg [⟨.mv, [.m 2], some 36, none⟩, ⟨(.build [.n .i64 0, .sl 0 none] [(0, 1), (1, 1)]), [.k (.n .i64 7), .m 36], some 37, none⟩, ⟨(.store 2), [.v 6, .m 37], none, none⟩] none)
.ret))
(.drop [2, 34] (.seq (.reg [⟨(.bin .eql .i), [.m 7, .k (.u8 (39 : UInt8))], some 39, none⟩, ⟨.mv, [.m 39], some 38, none⟩] none)
(.cond 38 (.drop [38] (.seq (.reg [⟨.mv, [.m 1], some 40, none⟩, ⟨(.build [.n .i64 0, .sl 0 none] [(0, 1), (1, 1)]), [.k (.n .i64 3), .m 40], some 41, none⟩, ⟨(.store 2), [.v 6, .m 41], none, none⟩] none)
.ret))
(.drop [1, 38] .skip))))))))
def prop_laterRow_s1 : SSh := ⟨[(1, .g (.f (.a (.sl 0)))), (2, .g (.f (.a (.sl 0)))), (6, .g (.f (.ref 0 0))), (7, .g (.f (.a .u8))), (25, .g (.f (.a .b)))], [[.g (.f (.a (.n .i64))), .g (.f (.ow 0))]]⟩
def prop_laterRow_o1 : Cut Tb := cutJ tab 0 prop_laterRow_s1 (fun _ x k => prop_laterRow_c1 x.1.1 x.1.2.1 x.1.2.2.2.1 x.1.2.2.2.2.1 (fun y15 => k .ret ⟨[(6, .ref 0 0), (31, .sl 0 x.1.1)], [[.n .i64 1, .sl 0 y15]]⟩) (fun y16 => k .ret ⟨[(6, .ref 0 0)], [[.n .i64 y16.kind, .sl 0 y16.kinds]]⟩) (k .normal ⟨[(6, .ref 0 0)], [[.n .i64 ((⟨x.2.1.1, x.2.1.2.1⟩ : prop_row).kind), .ow 0 ((⟨x.2.1.1, x.2.1.2.1⟩ : prop_row).kinds)]]⟩))
theorem prop_laterRow_q1 : (prop_laterRow_o1).Ok Tryd.prog Wp tab 0 prop_laterRow_p1 := cutJ_ok (c := prop_laterRow_p1) tabOk prop_laterRow_rk (cC (cD (cS trivial trivial)) (cD (cS trivial (cC (cD (cS trivial trivial)) (cD (cS trivial (cC (cD (cS trivial trivial)) (cD trivial)))))))) (fun _ _ => by kernel_rfl)
def prop_laterRow_p0 : TCode Tb :=
(.cond 16 (.drop [2, 7, 16] (.seq (.reg [⟨.mv, [.m 1], some 19, none⟩, ⟨(.build [.n .i64 0, .sl 0 none] [(0, 1), (1, 1)]), [.k (.n .i64 2), .m 19], some 20, none⟩, ⟨(.store 2), [.v 6, .m 20], none, none⟩] none)
.ret))
(.drop [16] (.seq (.reg [⟨(.bin .eql .i), [.v 7, .k (.u8 (35 : UInt8))], some 22, none⟩, ⟨.mv, [.m 22], some 21, none⟩] none)
(.cond 21 (.drop [1, 2, 7, 21] (.seq (.reg [⟨(.bslice 0 1 (0 : Int) [0]), [.k (.n .i64 3)], some 23, none⟩, ⟨(.build [.n .i64 0, .sl 0 none] [(0, 1), (1, 1)]), [.k (.n .i64 2), .m 23], some 24, none⟩, ⟨(.store 2), [.v 6, .m 24], none, none⟩] none)
.ret))
(.drop [21] (.seq (.seq (.reg [⟨(.bin .eql .i), [.v 7, .k (.u8 (36 : UInt8))], some 26, none⟩, ⟨.mv, [.m 26], some 25, none⟩] none)
(.cond 25 .skip
(.drop [25] (.seq (.reg [⟨(.bin .eql .i), [.v 7, .k (.u8 (37 : UInt8))], some 27, none⟩, ⟨.mv, [.m 27], some 25, none⟩] none)
(.cond 25 .skip
(.drop [25] (.seq (.reg [⟨(.bin .eql .i), [.v 7, .k (.u8 (40 : UInt8))], some 28, none⟩, ⟨.mv, [.m 28], some 25, none⟩] none)
(.cond 25 .skip
(.drop [25] (.seq (.reg [⟨(.bin .eql .i), [.v 7, .k (.u8 (41 : UInt8))], some 29, none⟩, ⟨.mv, [.m 29], some 25, none⟩] none)
(.cond 25 .skip
(.drop [25] (.reg [⟨(.bin .eql .i), [.v 7, .k (.u8 (42 : UInt8))], some 30, none⟩, ⟨.mv, [.m 30], some 25, none⟩] none)))))))))))))
(.cut 0 prop_laterRow_o1 prop_laterRow_p1)))))))
def prop_laterRow_s0 : SSh := ⟨[(1, .g (.f (.a (.sl 0)))), (2, .g (.f (.a (.sl 0)))), (6, .g (.f (.ref 0 0))), (7, .g (.f (.a .u8))), (16, .g (.f (.a .b)))], [[.g (.f (.a (.n .i64))), .g (.f (.ow 0))]]⟩
def prop_laterRow_o0 : Cut Tb := cutJ tab 0 prop_laterRow_s0 (fun _ x k => prop_laterRow_c0 x.1.1 x.1.2.1 x.1.2.2.2.1 x.1.2.2.2.2.1 (fun y27 => k .ret ⟨[(6, .ref 0 0)], [[.n .i64 y27.kind, .sl 0 y27.kinds]]⟩) (fun y28 => k .ret ⟨[(6, .ref 0 0), (31, .sl 0 x.1.1)], [[.n .i64 1, .sl 0 y28]]⟩) (k .normal ⟨[(6, .ref 0 0)], [[.n .i64 ((⟨x.2.1.1, x.2.1.2.1⟩ : prop_row).kind), .ow 0 ((⟨x.2.1.1, x.2.1.2.1⟩ : prop_row).kinds)]]⟩))
theorem prop_laterRow_q0 : (prop_laterRow_o0).Ok Tryd.prog Wp tab 0 prop_laterRow_p0 := cutJ_ok (c := prop_laterRow_p0) tabOk prop_laterRow_rk (cC (cD (cS trivial trivial)) (cD (cS trivial (cC (cD (cS trivial trivial)) (cD (cS (cS trivial (cC trivial (cD (cS trivial (cC trivial (cD (cS trivial (cC trivial (cD (cS trivial (cC trivial (cD trivial)))))))))))) (cT prop_laterRow_q1))))))) (fun _ _ => by kernel_rfl)
def prop_laterRow_p : TCode Tb :=
(.seq (.reg [⟨(.alloc [.n .i64 0, .sl 0 none]), [], some 6, none⟩] none)
(.seq (.seq (.reg [⟨.mv, [.m 0], some 7, none⟩] none)
(.block 0 (.seq (.reg [⟨(.bin .eql .i), [.v 7, .k (.u8 (28 : UInt8))], some 9, none⟩, ⟨.mv, [.m 9], some 8, none⟩] none)
(.cond 8 (.drop [1, 2, 7, 8] (.seq (.reg [⟨(.bslice 0 2 (0 : Int) [0, 1]), [.k (.n .i64 2), .k (.n .i64 14)], some 10, none⟩, ⟨(.build [.n .i64 0, .sl 0 none] [(0, 1), (1, 1)]), [.k (.n .i64 5), .m 10], some 11, none⟩, ⟨(.store 2), [.v 6, .m 11], none, none⟩] none)
.ret))
(.drop [8] (.seq (.reg [⟨(.bin .eql .i), [.v 7, .k (.u8 (31 : UInt8))], some 13, none⟩, ⟨.mv, [.m 13], some 12, none⟩] none)
(.cond 12 (.drop [1, 2, 7, 12] (.seq (.reg [⟨(.bslice 0 9 (0 : Int) [0, 1, 2, 3, 4, 5, 6, 7, 8]), [.k (.n .i64 2), .k (.n .i64 4), .k (.n .i64 5), .k (.n .i64 6), .k (.n .i64 7), .k (.n .i64 9), .k (.n .i64 11), .k (.n .i64 14), .k (.n .i64 15)], some 14, none⟩, ⟨(.build [.n .i64 0, .sl 0 none] [(0, 1), (1, 1)]), [.k (.n .i64 5), .m 14], some 15, none⟩, ⟨(.store 2), [.v 6, .m 15], none, none⟩] none)
.ret))
(.drop [12] (.seq (.seq (.reg [⟨(.bin .eql .i), [.v 7, .k (.u8 (33 : UInt8))], some 17, none⟩, ⟨.mv, [.m 17], some 16, none⟩] none)
(.cond 16 .skip
(.drop [16] (.reg [⟨(.bin .eql .i), [.v 7, .k (.u8 (34 : UInt8))], some 18, none⟩, ⟨.mv, [.m 18], some 16, none⟩] none))))
(.cut 0 prop_laterRow_o0 prop_laterRow_p0))))))))))
(.seq (.reg [⟨(.build [.n .i64 0, .sl 0 none] []), [], some 42, none⟩, ⟨(.store 2), [.v 6, .m 42], none, none⟩] none)
.ret)))
def prop_laterRow_w : Orc Tb := mkOrc (Y := prop_row) tab [.g (.f (.a .u8)), .g (.f (.a (.sl 0))), .g (.f (.a (.sl 0)))] [] (fun x h => prop_laterRow x.1 x.2.1 x.2.2.1) (fun _ y k => k (.agg [.n .i64 y.kind, .sl 0 y.kinds]) [])
theorem prop_laterRow_k : (prop_laterRow_w).Ok Tryd.prog Wp tab 54 := orc_ok (Y := prop_row) (orcs := prop_laterRow_r) (c := prop_laterRow_p) (res := [.cell 6 (some 2)]) (n := 43) (R := (RSp.one (Y := prop_row) tab (.g (.st 1)) [] (fun a b => (⟨a.kind, a.kinds⟩ : prop_row)) (fun y => (⟨y.kind, y.kinds⟩ : prop_row)) (fun y => ()))) tabOk prop_laterRow_rk (RSp.one_ok tabOk (fun _ _ => by kernel_rfl) (fun _ _ => by kernel_rfl)) Tryd.func54 (by kernel_rfl) (by kernel_rfl) (by kernel_rfl) (by kernel_rfl) (cS trivial (cS (cS trivial (cB (cS trivial (cC (cD (cS trivial trivial)) (cD (cS trivial (cC (cD (cS trivial trivial)) (cD (cS (cS trivial (cC trivial (cD trivial))) (cT prop_laterRow_q0)))))))))) (cS trivial trivial))) (fun _ y k => by kernel_rfl) (fun y => by kernel_rfl) (fun x h => by kernel_rfl)
def prop_rowOf_r : Orcs Tb := [(54, prop_laterRow_w)]
theorem prop_rowOf_rk : OrcsOk Tryd.prog Wp tab prop_rowOf_r := (orcs_cons prop_laterRow_k orcs_nil)
def prop_rowOf_p0 : TCode Tb :=
(.seq (.seq (.reg [⟨.mv, [.v 6], some 10, none⟩, ⟨(.bin .leq .i), [.m 10, .k (.n .i64 16)], some 11, none⟩] none)
(.cond 11 (.drop [11] .skip)
(.drop [6, 11] (.exit 0))))
(.seq (.block 1 (.seq (.reg [⟨.mv, [.v 6], some 14, none⟩, ⟨(.bin .neq .i), [.m 14, .k (.n .i64 12)], some 15, none⟩, ⟨.mv, [.m 15], some 16, none⟩, ⟨.mv, [.v 6], some 17, some (16, true)⟩, ⟨(.bin .neq .i), [.m 17, .k (.n .i64 13)], some 18, some (16, true)⟩, ⟨.pick, [.m 16, .m 18, .k (.b false)], some 19, none⟩] none)
(.drop [17] (.cond 19 (.drop [19] (.reg [⟨.mv, [.m 5], some 20, none⟩, ⟨.mv, [.v 6], some 21, none⟩, ⟨(.bslice 0 1 (0 : Int) [0]), [.m 21], some 22, none⟩, ⟨(.app 1 8), [.m 20, .m 22], some 23, none⟩, ⟨.mv, [.m 23], some 5, none⟩] none))
(.drop [19] .skip)))))
(.reg [⟨.mv, [.m 6], some 12, none⟩, ⟨(.bin .add .i), [.m 12, .k (.n .i64 1)], some 13, none⟩, ⟨.mv, [.m 13], some 6, none⟩] none)))
def prop_rowOf_s0 : SSh := ⟨[(0, .g (.f (.a .u8))), (2, .g (.f (.ref 0 0))), (3, .g (.f (.ow 0))), (4, .g (.f (.ow 0))), (5, .g (.f (.ow 0))), (6, .g (.f (.a (.n .i64))))], [[.g (.f (.a (.n .i64))), .g (.f (.ow 0))]]⟩
def prop_rowOf_o0 : Cut Tb := cutL tab 0 prop_rowOf_s0 (fun x => (x.1.2.2.2.2.1, x.1.2.2.2.2.2.1)) (fun x => prop_rowOf_l0) (fun _ x y k => k (.exit 0) ⟨[(0, .u8 x.1.1), (2, .ref 0 0), (3, .ow 0 x.1.2.2.1), (4, .ow 0 x.1.2.2.2.1), (5, .ow 0 y)], [[.n .i64 ((⟨x.2.1.1, x.2.1.2.1⟩ : prop_row).kind), .ow 0 ((⟨x.2.1.1, x.2.1.2.1⟩ : prop_row).kinds)]]⟩)
theorem prop_rowOf_q0 : (prop_rowOf_o0).Ok Tryd.prog Wp tab 0 (.loop prop_rowOf_p0) := cutL_ok (c := prop_rowOf_p0) (Z := (Option (List Int)) × Int) (Y := (Option (List Int))) tabOk prop_rowOf_rk (cS (cS trivial (cC (cD trivial) (cD trivial))) (cS (cB (cS trivial (cD (cC (cD trivial) (cD trivial))))) trivial)) (fun _ x z b e => prop_rowOf_b0 z.1 z.2 (fun x5 x6 => b (x5, x6)) (fun y9 => e y9)) (fun x z => ⟨[(0, .u8 x.1.1), (2, .ref 0 0), (3, .ow 0 x.1.2.2.1), (4, .ow 0 x.1.2.2.2.1), (5, .ow 0 z.1), (6, .n .i64 z.2)], [[.n .i64 ((⟨x.2.1.1, x.2.1.2.1⟩ : prop_row).kind), .ow 0 ((⟨x.2.1.1, x.2.1.2.1⟩ : prop_row).kinds)]]⟩) (fun x y => ((.exit 0), ⟨[(0, .u8 x.1.1), (2, .ref 0 0), (3, .ow 0 x.1.2.2.1), (4, .ow 0 x.1.2.2.2.1), (5, .ow 0 y)], [[.n .i64 ((⟨x.2.1.1, x.2.1.2.1⟩ : prop_row).kind), .ow 0 ((⟨x.2.1.1, x.2.1.2.1⟩ : prop_row).kinds)]]⟩)) (fun t => (prjS tab 0 prop_rowOf_s0 t).bind fun x => some (x.1.2.2.2.2.1, x.1.2.2.2.2.2.1)) (fun e t => (if eqE e (.exit 0) then (prjS tab 0 ⟨[(0, .g (.f (.a .u8))), (2, .g (.f (.ref 0 0))), (3, .g (.f (.ow 0))), (4, .g (.f (.ow 0))), (5, .g (.f (.ow 0)))], [[.g (.f (.a (.n .i64))), .g (.f (.ow 0))]]⟩ t).bind fun v => some v.1.2.2.2.2.1 else none)) (fun x => by kernel_rfl) (fun x z => by kernel_rfl) (fun x y k => by kernel_rfl) (fun x y => by exact nofun) (fun x z => by kernel_rfl) (fun x y => by kernel_rfl) (fun x z k => by kernel_rfl)
def prop_rowOf_p3 : TCode Tb :=
(.cond 75 (.drop [0, 3, 5, 24, 75] (.seq (.reg [⟨.mv, [.m 4], some 78, none⟩, ⟨(.ssl 1 false true), [.v 78, .k (.n .i64 1)], some 79, none⟩, ⟨(.build [.n .i64 0, .sl 0 none] [(0, 1), (1, 1)]), [.k (.n .i64 1), .m 79], some 80, none⟩, ⟨(.store 2), [.v 2, .m 80], none, none⟩] none)
.ret))
(.drop [75] (.seq (.reg [⟨(.bin .eql .i), [.m 24, .k (.u8 (24 : UInt8))], some 82, none⟩, ⟨.mv, [.m 82], some 81, none⟩] none)
(.cond 81 (.drop [0, 4, 5, 81] (.seq (.reg [⟨.mv, [.m 3], some 83, none⟩, ⟨(.ssl 1 true false), [.v 83, .k (.n .i64 1)], some 84, none⟩, ⟨(.build [.n .i64 0, .sl 0 none] [(0, 1), (1, 1)]), [.k (.n .i64 3), .m 84], some 85, none⟩, ⟨(.store 2), [.v 2, .m 85], none, none⟩] none)
.ret))
(.drop [3, 81] .skip)))))
def prop_rowOf_s3 : SSh := ⟨[(0, .g (.f (.a .u8))), (2, .g (.f (.ref 0 0))), (3, .g (.f (.ow 0))), (4, .g (.f (.ow 0))), (5, .g (.f (.ow 0))), (24, .g (.f (.a .u8))), (75, .g (.f (.a .b)))], [[.g (.f (.a (.n .i64))), .g (.f (.ow 0))]]⟩
def prop_rowOf_o3 : Cut Tb := cutJ tab 0 prop_rowOf_s3 (fun _ x k => prop_rowOf_c3 x.1.2.2.1 x.1.2.2.2.1 x.1.2.2.2.2.2.1 x.1.2.2.2.2.2.2.1 (fun y39 => k .ret ⟨[(2, .ref 0 0), (78, .ow 0 x.1.2.2.2.1)], [[.n .i64 1, .sl 0 y39]]⟩) (fun y40 => k .ret ⟨[(2, .ref 0 0), (83, .ow 0 x.1.2.2.1)], [[.n .i64 3, .sl 0 y40]]⟩) (k .normal ⟨[(0, .u8 x.1.1), (2, .ref 0 0), (4, .ow 0 x.1.2.2.2.1), (5, .ow 0 x.1.2.2.2.2.1)], [[.n .i64 ((⟨x.2.1.1, x.2.1.2.1⟩ : prop_row).kind), .ow 0 ((⟨x.2.1.1, x.2.1.2.1⟩ : prop_row).kinds)]]⟩))
theorem prop_rowOf_q3 : (prop_rowOf_o3).Ok Tryd.prog Wp tab 0 prop_rowOf_p3 := cutJ_ok (c := prop_rowOf_p3) tabOk prop_rowOf_rk (cC (cD (cS trivial trivial)) (cD (cS trivial (cC (cD (cS trivial trivial)) (cD trivial))))) (fun _ _ => by kernel_rfl)
def prop_rowOf_p2 : TCode Tb :=
(.cond 52 (.drop [0, 3, 5, 24, 52] (.seq (.reg [⟨.mv, [.m 4], some 55, none⟩, ⟨(.ssl 1 true false), [.v 55, .k (.n .i64 1)], some 56, none⟩, ⟨(.build [.n .i64 0, .sl 0 none] [(0, 1), (1, 1)]), [.k (.n .i64 5), .m 56], some 57, none⟩, ⟨(.store 2), [.v 2, .m 57], none, none⟩] none)
.ret))
(.drop [52] (.seq (.reg [⟨(.bin .eql .i), [.v 24, .k (.u8 (19 : UInt8))], some 59, none⟩, ⟨.mv, [.m 59], some 58, none⟩] none)
(.cond 58 (.drop [0, 3, 5, 24, 58] (.seq (.reg [⟨.mv, [.m 4], some 60, none⟩, ⟨(.ssl 1 true false), [.v 60, .k (.n .i64 1)], some 61, none⟩, ⟨(.build [.n .i64 0, .sl 0 none] [(0, 1), (1, 1)]), [.k (.n .i64 2), .m 61], some 62, none⟩, ⟨(.store 2), [.v 2, .m 62], none, none⟩] none)
.ret))
(.drop [58] (.seq (.reg [⟨(.bin .eql .i), [.v 24, .k (.u8 (21 : UInt8))], some 64, none⟩, ⟨.mv, [.m 64], some 63, none⟩] none)
(.cond 63 (.drop [0, 3, 5, 24, 63] (.seq (.reg [⟨.mv, [.m 4], some 65, none⟩, ⟨(.bslice 0 1 (0 : Int) [0]), [.k (.n .i64 15)], some 66, none⟩, ⟨(.app 1 8), [.m 65, .m 66], some 67, none⟩, ⟨(.build [.n .i64 0, .sl 0 none] [(0, 1), (1, 1)]), [.k (.n .i64 5), .m 67], some 68, none⟩, ⟨(.store 2), [.v 2, .m 68], none, none⟩] none)
.ret))
(.drop [63] (.seq (.reg [⟨(.bin .eql .i), [.v 24, .k (.u8 (22 : UInt8))], some 70, none⟩, ⟨.mv, [.m 70], some 69, none⟩] none)
(.cond 69 (.drop [0, 3, 5, 24, 69] (.seq (.reg [⟨.mv, [.m 4], some 71, none⟩, ⟨(.bslice 0 1 (0 : Int) [0]), [.k (.n .i64 15)], some 72, none⟩, ⟨(.app 1 8), [.m 71, .m 72], some 73, none⟩, ⟨(.build [.n .i64 0, .sl 0 none] [(0, 1), (1, 1)]), [.k (.n .i64 6), .m 73], some 74, none⟩, ⟨(.store 2), [.v 2, .m 74], none, none⟩] none)
.ret))
(.drop [69] (.seq (.seq (.reg [⟨(.bin .eql .i), [.v 24, .k (.u8 (23 : UInt8))], some 76, none⟩, ⟨.mv, [.m 76], some 75, none⟩] none)
(.cond 75 .skip
(.drop [75] (.reg [⟨(.bin .eql .i), [.v 24, .k (.u8 (25 : UInt8))], some 77, none⟩, ⟨.mv, [.m 77], some 75, none⟩] none))))
(.cut 0 prop_rowOf_o3 prop_rowOf_p3)))))))))))))
def prop_rowOf_s2 : SSh := ⟨[(0, .g (.f (.a .u8))), (2, .g (.f (.ref 0 0))), (3, .g (.f (.ow 0))), (4, .g (.f (.ow 0))), (5, .g (.f (.ow 0))), (24, .g (.f (.a .u8))), (52, .g (.f (.a .b)))], [[.g (.f (.a (.n .i64))), .g (.f (.ow 0))]]⟩
def prop_rowOf_o2 : Cut Tb := cutJ tab 0 prop_rowOf_s2 (fun _ x k => prop_rowOf_c2 x.1.2.2.1 x.1.2.2.2.1 x.1.2.2.2.2.2.1 x.1.2.2.2.2.2.2.1 (fun y45 => k .ret ⟨[(2, .ref 0 0), (55, .ow 0 x.1.2.2.2.1)], [[.n .i64 5, .sl 0 y45]]⟩) (fun y46 => k .ret ⟨[(2, .ref 0 0), (60, .ow 0 x.1.2.2.2.1)], [[.n .i64 2, .sl 0 y46]]⟩) (fun y47 => k .ret ⟨[(2, .ref 0 0)], [[.n .i64 y47.kind, .sl 0 y47.kinds]]⟩) (fun y48 => k .ret ⟨[(2, .ref 0 0), (78, .ow 0 x.1.2.2.2.1)], [[.n .i64 1, .sl 0 y48]]⟩) (fun y49 => k .ret ⟨[(2, .ref 0 0), (83, .ow 0 x.1.2.2.1)], [[.n .i64 3, .sl 0 y49]]⟩) (k .normal ⟨[(0, .u8 x.1.1), (2, .ref 0 0), (4, .ow 0 x.1.2.2.2.1), (5, .ow 0 x.1.2.2.2.2.1)], [[.n .i64 ((⟨x.2.1.1, x.2.1.2.1⟩ : prop_row).kind), .ow 0 ((⟨x.2.1.1, x.2.1.2.1⟩ : prop_row).kinds)]]⟩))
theorem prop_rowOf_q2 : (prop_rowOf_o2).Ok Tryd.prog Wp tab 0 prop_rowOf_p2 := cutJ_ok (c := prop_rowOf_p2) tabOk prop_rowOf_rk (cC (cD (cS trivial trivial)) (cD (cS trivial (cC (cD (cS trivial trivial)) (cD (cS trivial (cC (cD (cS trivial trivial)) (cD (cS trivial (cC (cD (cS trivial trivial)) (cD (cS (cS trivial (cC trivial (cD trivial))) (cT prop_rowOf_q3))))))))))))) (fun _ _ => by kernel_rfl)
def prop_rowOf_p1 : TCode Tb :=
(.cond 33 (.drop [0, 4, 5, 24, 33] (.seq (.reg [⟨.mv, [.m 3], some 36, none⟩, ⟨(.build [.n .i64 0, .sl 0 none] [(0, 1), (1, 1)]), [.k (.n .i64 5), .m 36], some 37, none⟩, ⟨(.store 2), [.v 2, .m 37], none, none⟩] none)
.ret))
(.drop [33] (.seq (.reg [⟨(.bin .eql .i), [.v 24, .k (.u8 (9 : UInt8))], some 39, none⟩, ⟨.mv, [.m 39], some 38, none⟩] none)
(.cond 38 (.drop [0, 4, 5, 24, 38] (.seq (.reg [⟨.mv, [.m 3], some 40, none⟩, ⟨(.build [.n .i64 0, .sl 0 none] [(0, 1), (1, 1)]), [.k (.n .i64 6), .m 40], some 41, none⟩, ⟨(.store 2), [.v 2, .m 41], none, none⟩] none)
.ret))
(.drop [38] (.seq (.reg [⟨(.bin .eql .i), [.v 24, .k (.u8 (11 : UInt8))], some 43, none⟩, ⟨.mv, [.m 43], some 42, none⟩] none)
(.cond 42 (.drop [0, 3, 4, 5, 24, 42] (.seq (.reg [⟨(.bslice 0 2 (0 : Int) [0, 1]), [.k (.n .i64 3), .k (.n .i64 8)], some 44, none⟩, ⟨(.build [.n .i64 0, .sl 0 none] [(0, 1), (1, 1)]), [.k (.n .i64 4), .m 44], some 45, none⟩, ⟨(.store 2), [.v 2, .m 45], none, none⟩] none)
.ret))
(.drop [42] (.seq (.reg [⟨(.bin .eql .i), [.v 24, .k (.u8 (17 : UInt8))], some 47, none⟩, ⟨.mv, [.m 47], some 46, none⟩] none)
(.cond 46 (.drop [0, 3, 5, 24, 46] (.seq (.reg [⟨.mv, [.m 4], some 48, none⟩, ⟨(.bslice 0 1 (0 : Int) [0]), [.k (.n .i64 14)], some 49, none⟩, ⟨(.app 1 8), [.m 48, .m 49], some 50, none⟩, ⟨(.build [.n .i64 0, .sl 0 none] [(0, 1), (1, 1)]), [.k (.n .i64 3), .m 50], some 51, none⟩, ⟨(.store 2), [.v 2, .m 51], none, none⟩] none)
.ret))
(.drop [46] (.seq (.seq (.reg [⟨(.bin .eql .i), [.v 24, .k (.u8 (18 : UInt8))], some 53, none⟩, ⟨.mv, [.m 53], some 52, none⟩] none)
(.cond 52 .skip
(.drop [52] (.reg [⟨(.bin .eql .i), [.v 24, .k (.u8 (26 : UInt8))], some 54, none⟩, ⟨.mv, [.m 54], some 52, none⟩] none))))
(.cut 0 prop_rowOf_o2 prop_rowOf_p2)))))))))))))
def prop_rowOf_s1 : SSh := ⟨[(0, .g (.f (.a .u8))), (2, .g (.f (.ref 0 0))), (3, .g (.f (.ow 0))), (4, .g (.f (.ow 0))), (5, .g (.f (.ow 0))), (24, .g (.f (.a .u8))), (33, .g (.f (.a .b)))], [[.g (.f (.a (.n .i64))), .g (.f (.ow 0))]]⟩
def prop_rowOf_o1 : Cut Tb := cutJ tab 0 prop_rowOf_s1 (fun _ x k => prop_rowOf_c1 x.1.2.2.1 x.1.2.2.2.1 x.1.2.2.2.2.2.1 x.1.2.2.2.2.2.2.1 (fun y60 => k .ret ⟨[(2, .ref 0 0)], [[.n .i64 y60.kind, .sl 0 y60.kinds]]⟩) (fun y61 => k .ret ⟨[(2, .ref 0 0), (55, .ow 0 x.1.2.2.2.1)], [[.n .i64 5, .sl 0 y61]]⟩) (fun y62 => k .ret ⟨[(2, .ref 0 0), (60, .ow 0 x.1.2.2.2.1)], [[.n .i64 2, .sl 0 y62]]⟩) (fun y63 => k .ret ⟨[(2, .ref 0 0), (78, .ow 0 x.1.2.2.2.1)], [[.n .i64 1, .sl 0 y63]]⟩) (fun y64 => k .ret ⟨[(2, .ref 0 0), (83, .ow 0 x.1.2.2.1)], [[.n .i64 3, .sl 0 y64]]⟩) (k .normal ⟨[(0, .u8 x.1.1), (2, .ref 0 0), (4, .ow 0 x.1.2.2.2.1), (5, .ow 0 x.1.2.2.2.2.1)], [[.n .i64 ((⟨x.2.1.1, x.2.1.2.1⟩ : prop_row).kind), .ow 0 ((⟨x.2.1.1, x.2.1.2.1⟩ : prop_row).kinds)]]⟩))
theorem prop_rowOf_q1 : (prop_rowOf_o1).Ok Tryd.prog Wp tab 0 prop_rowOf_p1 := cutJ_ok (c := prop_rowOf_p1) tabOk prop_rowOf_rk (cC (cD (cS trivial trivial)) (cD (cS trivial (cC (cD (cS trivial trivial)) (cD (cS trivial (cC (cD (cS trivial trivial)) (cD (cS trivial (cC (cD (cS trivial trivial)) (cD (cS (cS trivial (cC trivial (cD trivial))) (cT prop_rowOf_q2))))))))))))) (fun _ _ => by kernel_rfl)
def prop_rowOf_p4 : TCode Tb :=
(.seq (.reg [⟨.mv, [.m 0], some 86, none⟩, ⟨.mv, [.m 4], some 87, none⟩, ⟨.mv, [.m 5], some 88, none⟩, ⟨(.call (some 54) 0), [.m 86, .m 87, .m 88], some 89, none⟩, ⟨(.store 2), [.v 2, .m 89], none, none⟩] none)
.ret)
def prop_rowOf_s4 : SSh := ⟨[(0, .g (.f (.a .u8))), (2, .g (.f (.ref 0 0))), (4, .g (.f (.ow 0))), (5, .g (.f (.ow 0)))], [[.g (.f (.a (.n .i64))), .g (.f (.ow 0))]]⟩
def prop_rowOf_o4 : Cut Tb := cutJ tab 0 prop_rowOf_s4 (fun _ x k => prop_rowOf_c4 x.1.1 x.1.2.2.1 x.1.2.2.2.1 (fun y80 => k .ret ⟨[(2, .ref 0 0)], [[.n .i64 y80.kind, .sl 0 y80.kinds]]⟩))
theorem prop_rowOf_q4 : (prop_rowOf_o4).Ok Tryd.prog Wp tab 0 prop_rowOf_p4 := cutJ_ok (c := prop_rowOf_p4) tabOk prop_rowOf_rk (cS trivial trivial) (fun _ _ => by kernel_rfl)
def prop_rowOf_p : TCode Tb :=
(.seq (.reg [⟨(.alloc [.n .i64 0, .sl 0 none]), [], some 2, none⟩] none)
(.seq (.reg [⟨(.bslice 0 2 (0 : Int) [0, 1]), [.k (.n .i64 3), .k (.n .i64 16)], some 7, none⟩, ⟨(.bslice 0 2 (0 : Int) [0, 1]), [.k (.n .i64 1), .k (.n .i64 2)], some 8, none⟩, ⟨(.bslice 0 0 (0 : Int) []), [], some 9, none⟩, ⟨.mv, [.m 7], some 3, none⟩, ⟨.mv, [.m 8], some 4, none⟩, ⟨.mv, [.m 9], some 5, none⟩] none)
(.seq (.seq (.reg [⟨.mv, [.k (.n .i64 1)], some 6, none⟩] none)
(.block 0 (.cut 0 prop_rowOf_o0 (.loop prop_rowOf_p0))))
(.seq (.seq (.reg [⟨.mv, [.v 0], some 24, none⟩] none)
(.block 2 (.seq (.reg [⟨(.bin .eql .i), [.v 24, .k (.u8 (1 : UInt8))], some 26, none⟩, ⟨.mv, [.m 26], some 25, none⟩] none)
(.cond 25 (.drop [0, 4, 5, 24, 25] (.seq (.reg [⟨.mv, [.m 3], some 27, none⟩, ⟨(.build [.n .i64 0, .sl 0 none] [(0, 1), (1, 1)]), [.k (.n .i64 1), .m 27], some 28, none⟩, ⟨(.store 2), [.v 2, .m 28], none, none⟩] none)
.ret))
(.drop [25] (.seq (.reg [⟨(.bin .eql .i), [.v 24, .k (.u8 (2 : UInt8))], some 30, none⟩, ⟨.mv, [.m 30], some 29, none⟩] none)
(.cond 29 (.drop [0, 4, 5, 24, 29] (.seq (.reg [⟨.mv, [.m 3], some 31, none⟩, ⟨(.build [.n .i64 0, .sl 0 none] [(0, 1), (1, 1)]), [.k (.n .i64 3), .m 31], some 32, none⟩, ⟨(.store 2), [.v 2, .m 32], none, none⟩] none)
.ret))
(.drop [29] (.seq (.seq (.reg [⟨(.bin .eql .i), [.v 24, .k (.u8 (3 : UInt8))], some 34, none⟩, ⟨.mv, [.m 34], some 33, none⟩] none)
(.cond 33 .skip
(.drop [33] (.reg [⟨(.bin .eql .i), [.v 24, .k (.u8 (8 : UInt8))], some 35, none⟩, ⟨.mv, [.m 35], some 33, none⟩] none))))
(.cut 0 prop_rowOf_o1 prop_rowOf_p1))))))))))
(.cut 0 prop_rowOf_o4 prop_rowOf_p4)))))
def prop_rowOf_w : Orc Tb := mkOrc (Y := prop_row) tab [.g (.f (.a .u8))] [] (fun x h => prop_rowOf x.1) (fun _ y k => k (.agg [.n .i64 y.kind, .sl 0 y.kinds]) [])
theorem prop_rowOf_k : (prop_rowOf_w).Ok Tryd.prog Wp tab 38 := orc_ok (Y := prop_row) (orcs := prop_rowOf_r) (c := prop_rowOf_p) (res := [.cell 2 (some 2)]) (n := 90) (R := (RSp.one (Y := prop_row) tab (.g (.st 1)) [] (fun a b => (⟨a.kind, a.kinds⟩ : prop_row)) (fun y => (⟨y.kind, y.kinds⟩ : prop_row)) (fun y => ()))) tabOk prop_rowOf_rk (RSp.one_ok tabOk (fun _ _ => by kernel_rfl) (fun _ _ => by kernel_rfl)) Tryd.func38 (by kernel_rfl) (by kernel_rfl) (by kernel_rfl) (by kernel_rfl) (cS trivial (cS trivial (cS (cS trivial (cB (cT prop_rowOf_q0))) (cS (cS trivial (cB (cS trivial (cC (cD (cS trivial trivial)) (cD (cS trivial (cC (cD (cS trivial trivial)) (cD (cS (cS trivial (cC trivial (cD trivial))) (cT prop_rowOf_q1)))))))))) (cT prop_rowOf_q4))))) (fun _ y k => by kernel_rfl) (fun y => by kernel_rfl) (fun x h => by kernel_rfl)
def prop_Type_r : Orcs Tb := [(38, prop_rowOf_w)]
theorem prop_Type_rk : OrcsOk Tryd.prog Wp tab prop_Type_r := (orcs_cons prop_rowOf_k orcs_nil)
def prop_Type_p : TCode Tb :=
(.seq (.reg [⟨.mv, [.k (.n .i64 0)], some 2, none⟩] none)
(.seq (.reg [⟨.mv, [.m 0], some 3, none⟩, ⟨(.call (some 38) 0), [.m 3], some 4, none⟩, ⟨(.fld 0 none), [.m 4], some 5, none⟩, ⟨.mv, [.m 5], some 2, none⟩] none)
.ret))
def prop_Type_w : Orc Tb := mkOrc (Y := Int) tab [.g (.f (.a .u8))] [] (fun x h => prop_Type x.1) (fun _ y k => k (.n .i64 y) [])
theorem prop_Type_k : (prop_Type_w).Ok Tryd.prog Wp tab 11 := orc_ok (Y := Int) (orcs := prop_Type_r) (c := prop_Type_p) (res := [.tmp 2]) (n := 6) (R := (RSp.one (Y := Int) tab (.g (.f (.a (.n .i64)))) [] (fun a b => a) (fun y => y) (fun y => ()))) tabOk prop_Type_rk (RSp.one_ok tabOk (fun _ _ => by kernel_rfl) (fun _ _ => by kernel_rfl)) Tryd.func11 (by kernel_rfl) (by kernel_rfl) (by kernel_rfl) (by kernel_rfl) (cS trivial (cS trivial trivial)) (fun _ y k => by kernel_rfl) (fun y => by kernel_rfl) (fun x h => by kernel_rfl)
def slices_Index_s_int_int_r : Orcs Tb := []
theorem slices_Index_s_int_int_rk : OrcsOk Tryd.prog Wp tab slices_Index_s_int_int_r := orcs_nil
def slices_Index_s_int_int_p0 : TCode Tb :=
(.seq (.reg [⟨(.bin .lss .i), [.v 8, .v 7], some 9, none⟩] none)
(.seq (.cond 9 (.drop [9] .skip)
(.drop [0, 1, 7, 8, 9] (.exit 0)))
(.seq (.block 1 (.seq (.reg [⟨.mv, [.v 8], some 10, none⟩, ⟨.mv, [.m 10], some 5, none⟩] none)
(.seq (.reg [⟨.mv, [.v 1], some 11, none⟩, ⟨.mv, [.v 0], some 12, none⟩, ⟨.mv, [.v 5], some 13, none⟩, ⟨(.ia 1), [.v 12, .m 13], some 14, none⟩, ⟨(.load none), [.m 14], some 15, none⟩, ⟨(.bin .eql .i), [.m 11, .m 15], some 16, none⟩] none)
(.cond 16 (.drop [0, 1, 7, 8, 12, 16] (.seq (.reg [⟨.mv, [.m 5], some 17, none⟩, ⟨.mv, [.m 17], some 4, none⟩] none)
.ret))
(.drop [5, 12, 16] .skip)))))
(.reg [⟨(.bin .add .i), [.m 8, .k (.n .i64 1)], some 18, none⟩, ⟨.mv, [.m 18], some 8, none⟩] none))))
def slices_Index_s_int_int_s0 : SSh := ⟨[(0, .g (.f (.a (.sl 0)))), (1, .g (.f (.a (.n .i64)))), (7, .g (.f (.a (.n .i64)))), (8, .g (.f (.a (.n .i64))))], []⟩
def slices_Index_s_int_int_o0 : Cut Tb := cutL tab 0 slices_Index_s_int_int_s0 (fun x => x.1.2.2.2.1) (fun x => slices_Index_s_int_int_l0 x.1.1 x.1.2.1 x.1.2.2.1) (fun _ x y k => match y with | .inl y => k .ret ⟨[(4, .n .i64 y)], []⟩ | .inr y => k (.exit 0) ⟨[], []⟩)
theorem slices_Index_s_int_int_q0 : (slices_Index_s_int_int_o0).Ok Tryd.prog Wp tab 0 (.loop slices_Index_s_int_int_p0) := cutL_ok (c := slices_Index_s_int_int_p0) (Z := Int) (Y := Int ⊕ Unit) tabOk slices_Index_s_int_int_rk (cS trivial (cS (cC (cD trivial) (cD trivial)) (cS (cB (cS trivial (cS trivial (cC (cD (cS trivial trivial)) (cD trivial))))) trivial))) (fun _ x z b e => slices_Index_s_int_int_b0 x.1.1 x.1.2.1 x.1.2.2.1 z (fun x6 => b x6) (fun y8 => e (.inl y8)) (e (.inr ()))) (fun x z => ⟨[(0, .sl 0 x.1.1), (1, .n .i64 x.1.2.1), (7, .n .i64 x.1.2.2.1), (8, .n .i64 z)], []⟩) (fun x y => match y with | .inl y => (.ret, ⟨[(4, .n .i64 y)], []⟩) | .inr y => ((.exit 0), ⟨[], []⟩)) (fun t => (prjS tab 0 slices_Index_s_int_int_s0 t).bind fun x => some x.1.2.2.2.1) (fun e t => (if eqE e .ret then orElse ((prjS tab 0 ⟨[(4, .g (.f (.a (.n .i64))))], []⟩ t).bind fun v => some (.inl v.1.1)) (if eqE e (.exit 0) then (prjS tab 0 ⟨[], []⟩ t).bind fun v => some (.inr ()) else none) else (if eqE e (.exit 0) then (prjS tab 0 ⟨[], []⟩ t).bind fun v => some (.inr ()) else none))) (fun x => by kernel_rfl) (fun x z => by kernel_rfl) (fun x y k => by rcases y with y | y <;> kernel_rfl) (fun x y => by rcases y with y | y <;> exact nofun) (fun x z => by kernel_rfl) (fun x y => by rcases y with y | y <;> kernel_rfl) (fun x z k => by kernel_rfl)
def slices_Index_s_int_int_p : TCode Tb :=
(.seq (.reg [⟨.mv, [.k (.n .i64 0)], some 4, none⟩] none)
(.seq (.seq (.reg [⟨.mv, [.v 0], some 6, none⟩, ⟨.len, [.m 6], some 7, none⟩, ⟨.mv, [.k (.n .i64 0)], some 8, none⟩] none)
(.block 0 (.drop [4] (.cut 0 slices_Index_s_int_int_o0 (.loop slices_Index_s_int_int_p0)))))
(.seq (.reg [⟨.mv, [.k (.n .i64 (-1))], some 4, none⟩] none)
.ret)))
def slices_Index_s_int_int_w : Orc Tb := mkOrc (Y := Int) tab [.g (.f (.a (.sl 0))), .g (.f (.a (.n .i64)))] [] (fun x h => slices_Index_s_int_int x.1 x.2.1) (fun _ y k => k (.n .i64 y) [])
theorem slices_Index_s_int_int_k : (slices_Index_s_int_int_w).Ok Tryd.prog Wp tab 55 := orc_ok (Y := Int) (orcs := slices_Index_s_int_int_r) (c := slices_Index_s_int_int_p) (res := [.tmp 4]) (n := 19) (R := (RSp.one (Y := Int) tab (.g (.f (.a (.n .i64)))) [] (fun a b => a) (fun y => y) (fun y => ()))) tabOk slices_Index_s_int_int_rk (RSp.one_ok tabOk (fun _ _ => by kernel_rfl) (fun _ _ => by kernel_rfl)) Tryd.func55 (by kernel_rfl) (by kernel_rfl) (by kernel_rfl) (by kernel_rfl) (cS trivial (cS (cS trivial (cB (cD (cT slices_Index_s_int_int_q0)))) (cS trivial trivial))) (fun _ y k => by kernel_rfl) (fun y => by kernel_rfl) (fun x h => by kernel_rfl)
def slices_Contains_s_int_int_r : Orcs Tb := [(55, slices_Index_s_int_int_w)]
theorem slices_Contains_s_int_int_rk : OrcsOk Tryd.prog Wp tab slices_Contains_s_int_int_r := (orcs_cons slices_Index_s_int_int_k orcs_nil)
def slices_Contains_s_int_int_p : TCode Tb :=
(.seq (.reg [⟨.mv, [.k (.b false)], some 4, none⟩] none)
(.seq (.reg [⟨.mv, [.m 0], some 5, none⟩, ⟨.mv, [.m 1], some 6, none⟩, ⟨(.call (some 55) 0), [.m 5, .m 6], some 7, none⟩, ⟨(.bin .geq .i), [.m 7, .k (.n .i64 0)], some 8, none⟩, ⟨.mv, [.m 8], some 4, none⟩] none)
.ret))
def slices_Contains_s_int_int_w : Orc Tb := mkOrc (Y := Bool) tab [.g (.f (.a (.sl 0))), .g (.f (.a (.n .i64)))] [] (fun x h => slices_Contains_s_int_int x.1 x.2.1) (fun _ y k => k (.b y) [])
theorem slices_Contains_s_int_int_k : (slices_Contains_s_int_int_w).Ok Tryd.prog Wp tab 39 := orc_ok (Y := Bool) (orcs := slices_Contains_s_int_int_r) (c := slices_Contains_s_int_int_p) (res := [.tmp 4]) (n := 9) (R := (RSp.one (Y := Bool) tab (.g (.f (.a .b))) [] (fun a b => a) (fun y => y) (fun y => ()))) tabOk slices_Contains_s_int_int_rk (RSp.one_ok tabOk (fun _ _ => by kernel_rfl) (fun _ _ => by kernel_rfl)) Tryd.func39 (by kernel_rfl) (by kernel_rfl) (by kernel_rfl) (by kernel_rfl) (cS trivial (cS trivial trivial)) (fun _ y k => by kernel_rfl) (fun y => by kernel_rfl) (fun x h => by kernel_rfl)
def prop_For_r : Orcs Tb := [(38, prop_rowOf_w), (39, slices_Contains_s_int_int_w)]
theorem prop_For_rk : OrcsOk Tryd.prog Wp tab prop_For_r := (orcs_cons prop_rowOf_k (orcs_cons slices_Contains_s_int_int_k orcs_nil))
def prop_For_p : TCode Tb :=
(.seq (.reg [⟨.mv, [.k (.b false)], some 4, none⟩] none)
(.seq (.reg [⟨.mv, [.m 0], some 5, none⟩, ⟨(.call (some 38) 0), [.m 5], some 6, none⟩, ⟨(.fld 1 none), [.m 6], some 7, none⟩, ⟨.mv, [.m 1], some 8, none⟩, ⟨(.call (some 39) 1), [.m 7, .m 8], some 9, none⟩, ⟨.mv, [.m 9], some 4, none⟩] none)
.ret))
def prop_For_w : Orc Tb := mkOrc (Y := Bool) tab [.g (.f (.a .u8)), .g (.f (.a (.n .i64)))] [] (fun x h => prop_For x.1 x.2.1) (fun _ y k => k (.b y) [])
theorem prop_For_k : (prop_For_w).Ok Tryd.prog Wp tab 13 := orc_ok (Y := Bool) (orcs := prop_For_r) (c := prop_For_p) (res := [.tmp 4]) (n := 10) (R := (RSp.one (Y := Bool) tab (.g (.f (.a .b))) [] (fun a b => a) (fun y => y) (fun y => ()))) tabOk prop_For_rk (RSp.one_ok tabOk (fun _ _ => by kernel_rfl) (fun _ _ => by kernel_rfl)) Tryd.func13 (by kernel_rfl) (by kernel_rfl) (by kernel_rfl) (by kernel_rfl) (cS trivial (cS trivial trivial)) (fun _ y k => by kernel_rfl) (fun y => by kernel_rfl) (fun x h => by kernel_rfl)
def utf8_ValidString_w : Orc Tb := mkOrc (Y := Bool) tab [.g (.f (.a .s))] [] (fun x h => utf8_ValidString x.1) (fun _ y k => k (.b y) [])
theorem utf8_ValidString_k : (utf8_ValidString_w).Ok Tryd.prog Wp tab 56 := lw_ValidString tabOk (by kernel_rfl) (fun _ h => h.1) Tryd.utf8_ValidString
def strings_Contains_w : Orc Tb := mkOrc (Y := Bool) tab [.g (.f (.a .s)), .g (.f (.a .s))] [] (fun x h => strings_Contains x.1 x.2.1) (fun _ y k => k (.b y) [])
theorem strings_Contains_k : (strings_Contains_w).Ok Tryd.prog Wp tab 57 := lw_Contains tabOk (by kernel_rfl) Tryd.strings_Contains_one
def text_Right_r : Orcs Tb := [(56, utf8_ValidString_w), (57, strings_Contains_w)]
theorem text_Right_rk : OrcsOk Tryd.prog Wp tab text_Right_r := (orcs_cons utf8_ValidString_k (orcs_cons strings_Contains_k orcs_nil))
def text_Right_p : TCode Tb :=
(.seq (.reg [⟨.mv, [.k (.b false)], some 2, none⟩] none)
(.seq (.reg [⟨.mv, [.v 0], some 3, none⟩, ⟨.lens, [.m 3], some 4, none⟩, ⟨(.bin .leq .i), [.m 4, .k (.n .i64 65535)], some 5, none⟩, ⟨.mv, [.m 5], some 6, none⟩, ⟨.mv, [.v 0], some 7, some (6, true)⟩, ⟨(.call (some 56) 0), [.m 7], some 8, some (6, true)⟩, ⟨.pick, [.m 6, .m 8, .k (.b false)], some 9, none⟩, ⟨.mv, [.m 9], some 10, none⟩, ⟨.mv, [.m 0], some 11, some (10, true)⟩, ⟨(.call (some 57) 1), [.m 11, .k (.s [0])], some 12, some (10, true)⟩, ⟨(.un .not), [.m 12], some 13, some (10, true)⟩, ⟨.pick, [.m 10, .m 13, .k (.b false)], some 14, none⟩, ⟨.mv, [.m 14], some 2, none⟩] none)
(.drop [0, 7, 11, 12] .ret)))
def text_Right_w : Orc Tb := mkOrc (Y := Bool) tab [.g (.f (.a .s))] [] (fun x h => text_Right x.1) (fun _ y k => k (.b y) [])
theorem text_Right_k : (text_Right_w).Ok Tryd.prog Wp tab 41 := orc_ok (Y := Bool) (orcs := text_Right_r) (c := text_Right_p) (res := [.tmp 2]) (n := 15) (R := (RSp.one (Y := Bool) tab (.g (.f (.a .b))) [] (fun a b => a) (fun y => y) (fun y => ()))) tabOk text_Right_rk (RSp.one_ok tabOk (fun _ _ => by kernel_rfl) (fun _ _ => by kernel_rfl)) Tryd.func41 (by kernel_rfl) (by kernel_rfl) (by kernel_rfl) (by kernel_rfl) (cS trivial (cS trivial (cD trivial))) (fun _ y k => by kernel_rfl) (fun y => by kernel_rfl) (fun x h => by kernel_rfl)
def prop_Right_r : Orcs Tb := [(11, prop_Type_w), (41, text_Right_w)]
theorem prop_Right_rk : OrcsOk Tryd.prog Wp tab prop_Right_r := (orcs_cons prop_Type_k (orcs_cons text_Right_k orcs_nil))
def prop_Right_p0 : TCode Tb :=
(.seq (.seq (.reg [⟨(.fa 0), [.v 1], some 16, none⟩, ⟨(.load none), [.m 16], some 17, none⟩, ⟨(.call (some 11) 0), [.m 17], some 18, none⟩] none)
(.block 0 (.seq (.reg [⟨(.bin .eql .i), [.v 18, .k (.n .i64 1)], some 20, none⟩, ⟨.mv, [.m 20], some 19, none⟩] none)
(.cond 19 (.drop [4, 18, 19] (.seq (.reg [⟨(.fa 1), [.m 1], some 21, none⟩, ⟨(.load none), [.m 21], some 22, none⟩, ⟨(.bin .lss .i), [.m 22, .k (.u32 (256 : UInt32))], some 23, none⟩, ⟨.mv, [.m 23], some 24, none⟩, ⟨.mv, [.m 3], some 25, some (24, true)⟩, ⟨.pick, [.m 24, .m 25, .k (.b false)], some 26, none⟩, ⟨.mv, [.m 26], some 2, none⟩] none)
(.drop [3] .ret)))
(.drop [19] (.seq (.reg [⟨(.bin .eql .i), [.v 18, .k (.n .i64 2)], some 28, none⟩, ⟨.mv, [.m 28], some 27, none⟩] none)
(.cond 27 (.drop [4, 18, 27] (.seq (.reg [⟨(.fa 1), [.m 1], some 29, none⟩, ⟨(.load none), [.m 29], some 30, none⟩, ⟨(.bin .lss .i), [.m 30, .k (.u32 (65536 : UInt32))], some 31, none⟩, ⟨.mv, [.m 31], some 32, none⟩, ⟨.mv, [.m 3], some 33, some (32, true)⟩, ⟨.pick, [.m 32, .m 33, .k (.b false)], some 34, none⟩, ⟨.mv, [.m 34], some 2, none⟩] none)
(.drop [3] .ret)))
(.drop [27] (.seq (.reg [⟨(.bin .eql .i), [.v 18, .k (.n .i64 3)], some 36, none⟩, ⟨.mv, [.m 36], some 35, none⟩] none)
(.cond 35 (.drop [1, 4, 18, 35] (.seq (.reg [⟨.mv, [.m 3], some 37, none⟩, ⟨.mv, [.m 37], some 2, none⟩] none)
.ret))
(.drop [35] (.seq (.reg [⟨(.bin .eql .i), [.v 18, .k (.n .i64 4)], some 39, none⟩, ⟨.mv, [.m 39], some 38, none⟩] none)
(.cond 38 (.drop [4, 18, 38] (.seq (.reg [⟨(.fa 1), [.m 1], some 40, none⟩, ⟨(.load none), [.m 40], some 41, none⟩, ⟨(.bin .leq .i), [.m 41, .k (.u32 (268435455 : UInt32))], some 42, none⟩, ⟨.mv, [.m 42], some 43, none⟩, ⟨.mv, [.m 3], some 44, some (43, true)⟩, ⟨.pick, [.m 43, .m 44, .k (.b false)], some 45, none⟩, ⟨.mv, [.m 45], some 2, none⟩] none)
(.drop [3] .ret)))
(.drop [3, 38] (.seq (.reg [⟨(.bin .eql .i), [.v 18, .k (.n .i64 5)], some 47, none⟩, ⟨.mv, [.m 47], some 46, none⟩] none)
(.cond 46 (.drop [18, 46] (.seq (.reg [⟨.mv, [.m 4], some 48, none⟩, ⟨.mv, [.m 48], some 49, none⟩, ⟨(.fa 2), [.v 1], some 50, some (49, true)⟩, ⟨(.load none), [.m 50], some 51, some (49, true)⟩, ⟨(.call (some 41) 1), [.m 51], some 52, some (49, true)⟩, ⟨.pick, [.m 49, .m 52, .k (.b false)], some 53, none⟩, ⟨.mv, [.m 53], some 54, none⟩, ⟨(.fa 3), [.m 1], some 55, some (54, true)⟩, ⟨(.load none), [.m 55], some 56, some (54, true)⟩, ⟨(.bin .eql .s), [.m 56, .k (.s [])], some 57, some (54, true)⟩, ⟨.pick, [.m 54, .m 57, .k (.b false)], some 58, none⟩, ⟨.mv, [.m 58], some 2, none⟩] none)
(.drop [1, 50, 51, 55, 56] .ret)))
(.drop [46] (.seq (.reg [⟨(.bin .eql .i), [.v 18, .k (.n .i64 6)], some 60, none⟩, ⟨.mv, [.m 60], some 59, none⟩] none)
(.cond 59 (.drop [18, 59] (.seq (.reg [⟨.mv, [.m 4], some 61, none⟩, ⟨.mv, [.m 61], some 62, none⟩, ⟨(.fa 2), [.v 1], some 63, some (62, true)⟩, ⟨(.load none), [.m 63], some 64, some (62, true)⟩, ⟨.lens, [.m 64], some 65, some (62, true)⟩, ⟨(.bin .leq .i), [.m 65, .k (.n .i64 65535)], some 66, some (62, true)⟩, ⟨.pick, [.m 62, .m 66, .k (.b false)], some 67, none⟩, ⟨.mv, [.m 67], some 68, none⟩, ⟨(.fa 3), [.m 1], some 69, some (68, true)⟩, ⟨(.load none), [.m 69], some 70, some (68, true)⟩, ⟨(.bin .eql .s), [.m 70, .k (.s [])], some 71, some (68, true)⟩, ⟨.pick, [.m 68, .m 71, .k (.b false)], some 72, none⟩, ⟨.mv, [.m 72], some 2, none⟩] none)
(.drop [1, 63, 64, 65, 69, 70] .ret)))
(.drop [59] (.seq (.reg [⟨(.bin .eql .i), [.m 18, .k (.n .i64 7)], some 74, none⟩, ⟨.mv, [.m 74], some 73, none⟩] none)
(.cond 73 (.drop [73] (.seq (.reg [⟨.mv, [.m 4], some 75, none⟩, ⟨.mv, [.m 75], some 76, none⟩, ⟨(.fa 2), [.v 1], some 77, some (76, true)⟩, ⟨(.load none), [.m 77], some 78, some (76, true)⟩, ⟨(.call (some 41) 1), [.m 78], some 79, some (76, true)⟩, ⟨.pick, [.m 76, .m 79, .k (.b false)], some 80, none⟩, ⟨.mv, [.m 80], some 81, none⟩, ⟨(.fa 3), [.m 1], some 82, some (81, true)⟩, ⟨(.load none), [.m 82], some 83, some (81, true)⟩, ⟨(.call (some 41) 1), [.m 83], some 84, some (81, true)⟩, ⟨.pick, [.m 81, .m 84, .k (.b false)], some 85, none⟩, ⟨.mv, [.m 85], some 2, none⟩] none)
(.drop [1, 77, 78, 82, 83] .ret)))
(.drop [1, 4, 73] .skip)))))))))))))))))))))))
(.seq (.reg [⟨.mv, [.k (.b false)], some 2, none⟩] none)
.ret))
def prop_Right_s0 : SSh := ⟨[(1, .g (.f (.ref 0 0))), (3, .g (.f (.a .b))), (4, .g (.f (.a .b)))], [[.g (.f (.a .u8)), .g (.f (.a .u32)), .g (.f (.a .s)), .g (.f (.a .s))]]⟩
def prop_Right_o0 : Cut Tb := cutJ tab 0 prop_Right_s0 (fun _ x k => prop_Right_c0 x.1.2.1 x.1.2.2.1 (⟨x.2.1.1, x.2.1.2.1, x.2.1.2.2.1, x.2.1.2.2.2.1⟩ : prop_Prop) (fun y9 => k .ret ⟨[(2, .b y9)], [[.u8 ((⟨x.2.1.1, x.2.1.2.1, x.2.1.2.2.1, x.2.1.2.2.2.1⟩ : prop_Prop).Id), .u32 ((⟨x.2.1.1, x.2.1.2.1, x.2.1.2.2.1, x.2.1.2.2.2.1⟩ : prop_Prop).N), .s ((⟨x.2.1.1, x.2.1.2.1, x.2.1.2.2.1, x.2.1.2.2.2.1⟩ : prop_Prop).A), .s ((⟨x.2.1.1, x.2.1.2.1, x.2.1.2.2.1, x.2.1.2.2.2.1⟩ : prop_Prop).B)]]⟩))
theorem prop_Right_q0 : (prop_Right_o0).Ok Tryd.prog Wp tab 0 prop_Right_p0 := cutJ_ok (c := prop_Right_p0) tabOk prop_Right_rk (cS (cS trivial (cB (cS trivial (cC (cD (cS trivial (cD trivial))) (cD (cS trivial (cC (cD (cS trivial (cD trivial))) (cD (cS trivial (cC (cD (cS trivial trivial)) (cD (cS trivial (cC (cD (cS trivial (cD trivial))) (cD (cS trivial (cC (cD (cS trivial (cD trivial))) (cD (cS trivial (cC (cD (cS trivial (cD trivial))) (cD (cS trivial (cC (cD (cS trivial (cD trivial))) (cD trivial))))))))))))))))))))))) (cS trivial trivial)) (fun _ _ => by kernel_rfl)
def prop_Right_p : TCode Tb :=
(.seq (.reg [⟨.box, [.m 0], some 1, none⟩, ⟨.mv, [.k (.b false)], some 2, none⟩] none)
(.seq (.reg [⟨(.fa 2), [.v 1], some 5, none⟩, ⟨(.load none), [.m 5], some 6, none⟩, ⟨(.bin .eql .s), [.m 6, .k (.s [])], some 7, none⟩, ⟨.mv, [.m 7], some 8, none⟩, ⟨(.fa 3), [.v 1], some 9, some (8, true)⟩, ⟨(.load none), [.m 9], some 10, some (8, true)⟩, ⟨(.bin .eql .s), [.m 10, .k (.s [])], some 11, some (8, true)⟩, ⟨.pick, [.m 8, .m 11, .k (.b false)], some 12, none⟩, ⟨(.fa 1), [.v 1], some 13, none⟩, ⟨(.load none), [.m 13], some 14, none⟩, ⟨(.bin .eql .i), [.m 14, .k (.u32 (0 : UInt32))], some 15, none⟩, ⟨.mv, [.m 12], some 3, none⟩, ⟨.mv, [.m 15], some 4, none⟩] (some [[], [], [], [], [], [], [], [], [], [1, 5], [], [], []]))
(.drop [2, 9, 10] (.cut 0 prop_Right_o0 prop_Right_p0))))
def prop_Right_w : Orc Tb := mkOrc (Y := Bool) tab [.g (.st 2)] [] (fun x h => prop_Right (⟨x.1.Id, x.1.N, x.1.A, x.1.B⟩ : prop_Prop)) (fun _ y k => k (.b y) [])
theorem prop_Right_k : (prop_Right_w).Ok Tryd.prog Wp tab 17 := orc_ok (Y := Bool) (orcs := prop_Right_r) (c := prop_Right_p) (res := [.tmp 2]) (n := 86) (R := (RSp.one (Y := Bool) tab (.g (.f (.a .b))) [] (fun a b => a) (fun y => y) (fun y => ()))) tabOk prop_Right_rk (RSp.one_ok tabOk (fun _ _ => by kernel_rfl) (fun _ _ => by kernel_rfl)) Tryd.func17 (by kernel_rfl) (by kernel_rfl) (by kernel_rfl) (by kernel_rfl) (cS trivial (cS trivial (cD (cT prop_Right_q0)))) (fun _ y k => by kernel_rfl) (fun y => by kernel_rfl) (fun x h => by kernel_rfl)
def strings_ContainsAny_w : Orc Tb := mkOrc (Y := Bool) tab [.g (.f (.a .s)), .g (.f (.a .s))] [] (fun x h => strings_ContainsAny x.1 x.2.1) (fun _ y k => k (.b y) [])
theorem strings_ContainsAny_k : (strings_ContainsAny_w).Ok Tryd.prog Wp tab 50 := lw_ContainsAny tabOk (by kernel_rfl) Tryd.strings_ContainsAny
def topic_Wild_r : Orcs Tb := [(50, strings_ContainsAny_w)]
theorem topic_Wild_rk : OrcsOk Tryd.prog Wp tab topic_Wild_r := (orcs_cons strings_ContainsAny_k orcs_nil)
def topic_Wild_p : TCode Tb :=
(.seq (.reg [⟨.mv, [.k (.b false)], some 2, none⟩] none)
(.seq (.reg [⟨.mv, [.m 0], some 3, none⟩, ⟨(.call (some 50) 0), [.m 3, .k (.s [43, 35])], some 4, none⟩, ⟨.mv, [.m 4], some 2, none⟩] none)
.ret))
def topic_Wild_w : Orc Tb := mkOrc (Y := Bool) tab [.g (.f (.a .s))] [] (fun x h => topic_Wild x.1) (fun _ y k => k (.b y) [])
theorem topic_Wild_k : (topic_Wild_w).Ok Tryd.prog Wp tab 31 := orc_ok (Y := Bool) (orcs := topic_Wild_r) (c := topic_Wild_p) (res := [.tmp 2]) (n := 5) (R := (RSp.one (Y := Bool) tab (.g (.f (.a .b))) [] (fun a b => a) (fun y => y) (fun y => ()))) tabOk topic_Wild_rk (RSp.one_ok tabOk (fun _ _ => by kernel_rfl) (fun _ _ => by kernel_rfl)) Tryd.func31 (by kernel_rfl) (by kernel_rfl) (by kernel_rfl) (by kernel_rfl) (cS trivial (cS trivial trivial)) (fun _ y k => by kernel_rfl) (fun y => by kernel_rfl) (fun x h => by kernel_rfl)
def topic_Name_r : Orcs Tb := [(41, text_Right_w), (31, topic_Wild_w)]
theorem topic_Name_rk : OrcsOk Tryd.prog Wp tab topic_Name_r := (orcs_cons text_Right_k (orcs_cons topic_Wild_k orcs_nil))
def topic_Name_p : TCode Tb :=
(.seq (.reg [⟨.mv, [.k (.b false)], some 2, none⟩] none)
(.seq (.reg [⟨.mv, [.v 0], some 3, none⟩, ⟨(.bin .neq .s), [.m 3, .k (.s [])], some 4, none⟩, ⟨.mv, [.m 4], some 5, none⟩, ⟨.mv, [.v 0], some 6, some (5, true)⟩, ⟨(.call (some 41) 0), [.m 6], some 7, some (5, true)⟩, ⟨.pick, [.m 5, .m 7, .k (.b false)], some 8, none⟩, ⟨.mv, [.m 8], some 9, none⟩, ⟨.mv, [.m 0], some 10, some (9, true)⟩, ⟨(.call (some 31) 1), [.m 10], some 11, some (9, true)⟩, ⟨(.un .not), [.m 11], some 12, some (9, true)⟩, ⟨.pick, [.m 9, .m 12, .k (.b false)], some 13, none⟩, ⟨.mv, [.m 13], some 2, none⟩] none)
(.drop [0, 6, 10, 11] .ret)))
def topic_Name_w : Orc Tb := mkOrc (Y := Bool) tab [.g (.f (.a .s))] [] (fun x h => topic_Name x.1) (fun _ y k => k (.b y) [])
theorem topic_Name_k : (topic_Name_w).Ok Tryd.prog Wp tab 27 := orc_ok (Y := Bool) (orcs := topic_Name_r) (c := topic_Name_p) (res := [.tmp 2]) (n := 14) (R := (RSp.one (Y := Bool) tab (.g (.f (.a .b))) [] (fun a b => a) (fun y => y) (fun y => ()))) tabOk topic_Name_rk (RSp.one_ok tabOk (fun _ _ => by kernel_rfl) (fun _ _ => by kernel_rfl)) Tryd.func27 (by kernel_rfl) (by kernel_rfl) (by kernel_rfl) (by kernel_rfl) (cS trivial (cS trivial (cD trivial))) (fun _ y k => by kernel_rfl) (fun y => by kernel_rfl) (fun x h => by kernel_rfl)
def prop_Value_r : Orcs Tb := [(17, prop_Right_w), (11, prop_Type_w), (27, topic_Name_w)]
theorem prop_Value_rk : OrcsOk Tryd.prog Wp tab prop_Value_r := (orcs_cons prop_Right_k (orcs_cons prop_Type_k (orcs_cons topic_Name_k orcs_nil)))
def prop_Value_p0 : TCode Tb :=
(.cond 15 (.drop [15] (.seq (.reg [⟨(.fa 1), [.m 1], some 28, none⟩, ⟨(.load none), [.m 28], some 29, none⟩, ⟨(.bin .neq .i), [.m 29, .k (.u32 (0 : UInt32))], some 30, none⟩, ⟨.mv, [.m 30], some 2, none⟩] none)
.ret))
(.drop [15] (.seq (.reg [⟨(.fa 0), [.v 1], some 32, none⟩, ⟨(.load none), [.m 32], some 33, none⟩, ⟨(.bin .eql .i), [.m 33, .k (.u8 (8 : UInt8))], some 34, none⟩, ⟨.mv, [.m 34], some 31, none⟩] none)
(.cond 31 (.drop [31] (.seq (.reg [⟨(.fa 2), [.m 1], some 35, none⟩, ⟨(.load none), [.m 35], some 36, none⟩, ⟨(.call (some 27) 2), [.m 36], some 37, none⟩, ⟨.mv, [.m 37], some 2, none⟩] none)
.ret))
(.drop [1, 31] .skip)))))
def prop_Value_s0 : SSh := ⟨[(1, .g (.f (.ref 0 0))), (15, .g (.f (.a .b)))], [[.g (.f (.a .u8)), .g (.f (.a .u32)), .g (.f (.a .s)), .g (.f (.a .s))]]⟩
def prop_Value_o0 : Cut Tb := cutJ tab 0 prop_Value_s0 (fun _ x k => prop_Value_c0 x.1.2.1 (⟨x.2.1.1, x.2.1.2.1, x.2.1.2.2.1, x.2.1.2.2.2.1⟩ : prop_Prop) (fun y7 => k .ret ⟨[(2, .b y7)], [[.u8 ((⟨x.2.1.1, x.2.1.2.1, x.2.1.2.2.1, x.2.1.2.2.2.1⟩ : prop_Prop).Id), .u32 ((⟨x.2.1.1, x.2.1.2.1, x.2.1.2.2.1, x.2.1.2.2.2.1⟩ : prop_Prop).N), .s ((⟨x.2.1.1, x.2.1.2.1, x.2.1.2.2.1, x.2.1.2.2.2.1⟩ : prop_Prop).A), .s ((⟨x.2.1.1, x.2.1.2.1, x.2.1.2.2.1, x.2.1.2.2.2.1⟩ : prop_Prop).B)]]⟩) (k .normal ⟨[], [[.u8 ((⟨x.2.1.1, x.2.1.2.1, x.2.1.2.2.1, x.2.1.2.2.2.1⟩ : prop_Prop).Id), .u32 ((⟨x.2.1.1, x.2.1.2.1, x.2.1.2.2.1, x.2.1.2.2.2.1⟩ : prop_Prop).N), .s ((⟨x.2.1.1, x.2.1.2.1, x.2.1.2.2.1, x.2.1.2.2.2.1⟩ : prop_Prop).A), .s ((⟨x.2.1.1, x.2.1.2.1, x.2.1.2.2.1, x.2.1.2.2.2.1⟩ : prop_Prop).B)]]⟩))
theorem prop_Value_q0 : (prop_Value_o0).Ok Tryd.prog Wp tab 0 prop_Value_p0 := cutJ_ok (c := prop_Value_p0) tabOk prop_Value_rk (cC (cD (cS trivial trivial)) (cD (cS trivial (cC (cD (cS trivial trivial)) (cD trivial))))) (fun _ _ => by kernel_rfl)
def prop_Value_p : TCode Tb :=
(.seq (.reg [⟨.box, [.m 0], some 1, none⟩, ⟨.mv, [.k (.b false)], some 2, none⟩] none)
(.seq (.block 0 (.seq (.reg [⟨(.load (some 4)), [.v 1], some 4, none⟩, ⟨(.call (some 17) 0), [.m 4], some 5, none⟩, ⟨(.un .not), [.m 5], some 6, none⟩, ⟨.mv, [.m 6], some 3, none⟩] none)
(.cond 3 (.drop [1, 2, 3] (.seq (.reg [⟨.mv, [.k (.b false)], some 2, none⟩] none)
.ret))
(.drop [2, 3] (.seq (.reg [⟨(.fa 0), [.v 1], some 8, none⟩, ⟨(.load none), [.m 8], some 9, none⟩, ⟨(.call (some 11) 1), [.m 9], some 10, none⟩, ⟨(.bin .eql .i), [.m 10, .k (.n .i64 1)], some 11, none⟩, ⟨.mv, [.m 11], some 7, none⟩] none)
(.cond 7 (.drop [7] (.seq (.reg [⟨(.fa 1), [.m 1], some 12, none⟩, ⟨(.load none), [.m 12], some 13, none⟩, ⟨(.bin .leq .i), [.m 13, .k (.u32 (1 : UInt32))], some 14, none⟩, ⟨.mv, [.m 14], some 2, none⟩] none)
.ret))
(.drop [7] (.seq (.seq (.reg [⟨(.fa 0), [.v 1], some 16, none⟩, ⟨(.load none), [.m 16], some 17, none⟩, ⟨(.bin .eql .i), [.m 17, .k (.u8 (11 : UInt8))], some 18, none⟩, ⟨.mv, [.m 18], some 15, none⟩] none)
(.cond 15 .skip
(.drop [15] (.seq (.reg [⟨(.fa 0), [.v 1], some 19, none⟩, ⟨(.load none), [.m 19], some 20, none⟩, ⟨(.bin .eql .i), [.m 20, .k (.u8 (33 : UInt8))], some 21, none⟩, ⟨.mv, [.m 21], some 15, none⟩] none)
(.cond 15 .skip
(.drop [15] (.seq (.reg [⟨(.fa 0), [.v 1], some 22, none⟩, ⟨(.load none), [.m 22], some 23, none⟩, ⟨(.bin .eql .i), [.m 23, .k (.u8 (35 : UInt8))], some 24, none⟩, ⟨.mv, [.m 24], some 15, none⟩] none)
(.cond 15 .skip
(.drop [15] (.reg [⟨(.fa 0), [.v 1], some 25, none⟩, ⟨(.load none), [.m 25], some 26, none⟩, ⟨(.bin .eql .i), [.m 26, .k (.u8 (39 : UInt8))], some 27, none⟩, ⟨.mv, [.m 27], some 15, none⟩] none))))))))))
(.cut 0 prop_Value_o0 prop_Value_p0)))))))))
(.seq (.reg [⟨.mv, [.k (.b true)], some 2, none⟩] none)
.ret)))
def prop_Value_w : Orc Tb := mkOrc (Y := Bool) tab [.g (.st 2)] [] (fun x h => prop_Value (⟨x.1.Id, x.1.N, x.1.A, x.1.B⟩ : prop_Prop)) (fun _ y k => k (.b y) [])
theorem prop_Value_k : (prop_Value_w).Ok Tryd.prog Wp tab 20 := orc_ok (Y := Bool) (orcs := prop_Value_r) (c := prop_Value_p) (res := [.tmp 2]) (n := 38) (R := (RSp.one (Y := Bool) tab (.g (.f (.a .b))) [] (fun a b => a) (fun y => y) (fun y => ()))) tabOk prop_Value_rk (RSp.one_ok tabOk (fun _ _ => by kernel_rfl) (fun _ _ => by kernel_rfl)) Tryd.func20 (by kernel_rfl) (by kernel_rfl) (by kernel_rfl) (by kernel_rfl) (cS trivial (cS (cB (cS trivial (cC (cD (cS trivial trivial)) (cD (cS trivial (cC (cD (cS trivial trivial)) (cD (cS (cS trivial (cC trivial (cD (cS trivial (cC trivial (cD (cS trivial (cC trivial (cD trivial))))))))) (cT prop_Value_q0))))))))) (cS trivial trivial))) (fun _ y k => by kernel_rfl) (fun y => by kernel_rfl) (fun x h => by kernel_rfl)
def prop_Often_r : Orcs Tb := [(13, prop_For_w)]
theorem prop_Often_rk : OrcsOk Tryd.prog Wp tab prop_Often_r := (orcs_cons prop_For_k orcs_nil)
def prop_Often_p : TCode Tb :=
(.seq (.reg [⟨.mv, [.k (.b false)], some 4, none⟩] none)
(.seq (.reg [⟨.mv, [.v 0], some 5, none⟩, ⟨.mv, [.v 1], some 6, none⟩, ⟨(.call (some 13) 0), [.m 5, .m 6], some 7, none⟩, ⟨.mv, [.m 7], some 8, none⟩, ⟨.mv, [.v 0], some 9, some (8, true)⟩, ⟨(.bin .eql .i), [.m 9, .k (.u8 (38 : UInt8))], some 10, some (8, true)⟩, ⟨.mv, [.m 10], some 11, some (8, true)⟩, ⟨.mv, [.m 0], some 12, some (11, false)⟩, ⟨(.bin .eql .i), [.m 12, .k (.u8 (11 : UInt8))], some 13, some (11, false)⟩, ⟨.mv, [.m 13], some 14, some (11, false)⟩, ⟨.mv, [.m 1], some 15, some (14, true)⟩, ⟨(.bin .eql .i), [.m 15, .k (.n .i64 3)], some 16, some (14, true)⟩, ⟨.pick, [.m 14, .m 16, .k (.b false)], some 17, some (11, false)⟩, ⟨.pick, [.m 11, .k (.b true), .m 17], some 18, some (8, true)⟩, ⟨.pick, [.m 8, .m 18, .k (.b false)], some 19, none⟩, ⟨.mv, [.m 19], some 4, none⟩] none)
(.drop [0, 1, 9, 10, 11, 12, 13, 14, 15, 16, 17] .ret)))
def prop_Often_w : Orc Tb := mkOrc (Y := Bool) tab [.g (.f (.a .u8)), .g (.f (.a (.n .i64)))] [] (fun x h => prop_Often x.1 x.2.1) (fun _ y k => k (.b y) [])
theorem prop_Often_k : (prop_Often_w).Ok Tryd.prog Wp tab 15 := orc_ok (Y := Bool) (orcs := prop_Often_r) (c := prop_Often_p) (res := [.tmp 4]) (n := 20) (R := (RSp.one (Y := Bool) tab (.g (.f (.a .b))) [] (fun a b => a) (fun y => y) (fun y => ()))) tabOk prop_Often_rk (RSp.one_ok tabOk (fun _ _ => by kernel_rfl) (fun _ _ => by kernel_rfl)) Tryd.func15 (by kernel_rfl) (by kernel_rfl) (by kernel_rfl) (by kernel_rfl) (cS trivial (cS trivial (cD trivial))) (fun _ y k => by kernel_rfl) (fun y => by kernel_rfl) (fun x h => by kernel_rfl)
def l05_told_r : Orcs Tb := [(11, prop_Type_w), (13, prop_For_w), (20, prop_Value_w), (15, prop_Often_w)]
theorem l05_told_rk : OrcsOk Tryd.prog Wp tab l05_told_r := (orcs_cons prop_Type_k (orcs_cons prop_For_k (orcs_cons prop_Value_k (orcs_cons prop_Often_k orcs_nil))))
def l05_told_p : TCode Tb :=
(.seq (.reg [⟨.mv, [.k (.b false)], some 0, none⟩] none)
(.seq (.reg [⟨(.call (some 11) 0), [.k (.u8 (38 : UInt8))], some 1, none⟩, ⟨(.bin .eql .i), [.m 1, .k (.n .i64 7)], some 2, none⟩, ⟨.mv, [.m 2], some 3, none⟩, ⟨(.call (some 13) 1), [.k (.u8 (35 : UInt8)), .k (.n .i64 3)], some 4, some (3, true)⟩, ⟨.pick, [.m 3, .m 4, .k (.b false)], some 5, none⟩, ⟨.mv, [.m 5], some 6, none⟩, ⟨(.call (some 13) 1), [.k (.u8 (35 : UInt8)), .k (.n .i64 16)], some 7, some (6, true)⟩, ⟨(.un .not), [.m 7], some 8, some (6, true)⟩, ⟨.pick, [.m 6, .m 8, .k (.b false)], some 9, none⟩, ⟨.mv, [.m 9], some 10, none⟩, ⟨(.build [.u8 (0 : UInt8), .u32 (0 : UInt32), .s [], .s []] [(0, 1)]), [.k (.u8 (33 : UInt8))], some 11, some (10, true)⟩, ⟨(.call (some 20) 2), [.m 11], some 12, some (10, true)⟩, ⟨(.un .not), [.m 12], some 13, some (10, true)⟩, ⟨.pick, [.m 10, .m 13, .k (.b false)], some 14, none⟩, ⟨.mv, [.m 14], some 15, none⟩, ⟨(.build [.u8 (0 : UInt8), .u32 (0 : UInt32), .s [], .s []] [(0, 1), (1, 1)]), [.k (.u8 (33 : UInt8)), .k (.u32 (1 : UInt32))], some 16, some (15, true)⟩, ⟨(.call (some 20) 2), [.m 16], some 17, some (15, true)⟩, ⟨.pick, [.m 15, .m 17, .k (.b false)], some 18, none⟩, ⟨.mv, [.m 18], some 19, none⟩, ⟨(.call (some 15) 3), [.k (.u8 (11 : UInt8)), .k (.n .i64 3)], some 20, some (19, true)⟩, ⟨.pick, [.m 19, .m 20, .k (.b false)], some 21, none⟩, ⟨.mv, [.m 21], some 22, none⟩, ⟨(.call (some 15) 3), [.k (.u8 (11 : UInt8)), .k (.n .i64 8)], some 23, some (22, true)⟩, ⟨(.un .not), [.m 23], some 24, some (22, true)⟩, ⟨.pick, [.m 22, .m 24, .k (.b false)], some 25, none⟩, ⟨.mv, [.m 25], some 0, none⟩] none)
(.drop [7, 11, 12, 16, 23] .ret)))
def l05_told_w : Orc Tb := mkOrc (Y := Bool) tab [] [] (fun x h => l05_told) (fun _ y k => k (.b y) [])
theorem l05_told_k : (l05_told_w).Ok Tryd.prog Wp tab 10 := orc_ok (Y := Bool) (orcs := l05_told_r) (c := l05_told_p) (res := [.tmp 0]) (n := 26) (R := (RSp.one (Y := Bool) tab (.g (.f (.a .b))) [] (fun a b => a) (fun y => y) (fun y => ()))) tabOk l05_told_rk (RSp.one_ok tabOk (fun _ _ => by kernel_rfl) (fun _ _ => by kernel_rfl)) Tryd.func10 (by kernel_rfl) (by kernel_rfl) (by kernel_rfl) (by kernel_rfl) (cS trivial (cS trivial (cD trivial))) (fun _ y k => by kernel_rfl) (fun y => by kernel_rfl) (fun x h => by kernel_rfl)
def r05_Type_r : Orcs Tb := []
theorem r05_Type_rk : OrcsOk Tryd.prog Wp tab r05_Type_r := orcs_nil
def r05_Type_p3 : TCode Tb :=
(.cond 25 (.drop [3, 25] (.seq (.reg [⟨.mv, [.k (.n .i64 5)], some 2, none⟩] none)
.ret))
(.drop [25] (.seq (.seq (.reg [⟨(.bin .eql .i), [.v 3, .k (.u8 (9 : UInt8))], some 34, none⟩, ⟨.mv, [.m 34], some 33, none⟩] none)
(.cond 33 .skip
(.drop [33] (.reg [⟨(.bin .eql .i), [.v 3, .k (.u8 (22 : UInt8))], some 35, none⟩, ⟨.mv, [.m 35], some 33, none⟩] none))))
(.cond 33 (.drop [3, 33] (.seq (.reg [⟨.mv, [.k (.n .i64 6)], some 2, none⟩] none)
.ret))
(.drop [33] (.seq (.reg [⟨(.bin .eql .i), [.m 3, .k (.u8 (38 : UInt8))], some 37, none⟩, ⟨.mv, [.m 37], some 36, none⟩] none)
(.cond 36 (.drop [36] (.seq (.reg [⟨.mv, [.k (.n .i64 7)], some 2, none⟩] none)
.ret))
(.drop [36] .skip))))))))
def r05_Type_s3 : SSh := ⟨[(3, .g (.f (.a .u8))), (25, .g (.f (.a .b)))], []⟩
def r05_Type_o3 : Cut Tb := cutJ tab 0 r05_Type_s3 (fun _ x k => r05_Type_c3 x.1.1 x.1.2.1 (fun y10 => k .ret ⟨[(2, .n .i64 y10)], []⟩) (k .normal ⟨[], []⟩))
theorem r05_Type_q3 : (r05_Type_o3).Ok Tryd.prog Wp tab 0 r05_Type_p3 := cutJ_ok (c := r05_Type_p3) tabOk r05_Type_rk (cC (cD (cS trivial trivial)) (cD (cS (cS trivial (cC trivial (cD trivial))) (cC (cD (cS trivial trivial)) (cD (cS trivial (cC (cD (cS trivial trivial)) (cD trivial)))))))) (fun _ _ => by kernel_rfl)
def r05_Type_p2 : TCode Tb :=
(.cond 18 (.drop [3, 18] (.seq (.reg [⟨.mv, [.k (.n .i64 3)], some 2, none⟩] none)
.ret))
(.drop [18] (.seq (.reg [⟨(.bin .eql .i), [.v 3, .k (.u8 (11 : UInt8))], some 24, none⟩, ⟨.mv, [.m 24], some 23, none⟩] none)
(.cond 23 (.drop [3, 23] (.seq (.reg [⟨.mv, [.k (.n .i64 4)], some 2, none⟩] none)
.ret))
(.drop [23] (.seq (.seq (.reg [⟨(.bin .eql .i), [.v 3, .k (.u8 (3 : UInt8))], some 26, none⟩, ⟨.mv, [.m 26], some 25, none⟩] none)
(.cond 25 .skip
(.drop [25] (.seq (.reg [⟨(.bin .eql .i), [.v 3, .k (.u8 (8 : UInt8))], some 27, none⟩, ⟨.mv, [.m 27], some 25, none⟩] none)
(.cond 25 .skip
(.drop [25] (.seq (.reg [⟨(.bin .eql .i), [.v 3, .k (.u8 (18 : UInt8))], some 28, none⟩, ⟨.mv, [.m 28], some 25, none⟩] none)
(.cond 25 .skip
(.drop [25] (.seq (.reg [⟨(.bin .eql .i), [.v 3, .k (.u8 (21 : UInt8))], some 29, none⟩, ⟨.mv, [.m 29], some 25, none⟩] none)
(.cond 25 .skip
(.drop [25] (.seq (.reg [⟨(.bin .eql .i), [.v 3, .k (.u8 (26 : UInt8))], some 30, none⟩, ⟨.mv, [.m 30], some 25, none⟩] none)
(.cond 25 .skip
(.drop [25] (.seq (.reg [⟨(.bin .eql .i), [.v 3, .k (.u8 (28 : UInt8))], some 31, none⟩, ⟨.mv, [.m 31], some 25, none⟩] none)
(.cond 25 .skip
(.drop [25] (.reg [⟨(.bin .eql .i), [.v 3, .k (.u8 (31 : UInt8))], some 32, none⟩, ⟨.mv, [.m 32], some 25, none⟩] none)))))))))))))))))))
(.cut 0 r05_Type_o3 r05_Type_p3)))))))
def r05_Type_s2 : SSh := ⟨[(3, .g (.f (.a .u8))), (18, .g (.f (.a .b)))], []⟩
def r05_Type_o2 : Cut Tb := cutJ tab 0 r05_Type_s2 (fun _ x k => r05_Type_c2 x.1.1 x.1.2.1 (fun y18 => k .ret ⟨[(2, .n .i64 y18)], []⟩) (k .normal ⟨[], []⟩))
theorem r05_Type_q2 : (r05_Type_o2).Ok Tryd.prog Wp tab 0 r05_Type_p2 := cutJ_ok (c := r05_Type_p2) tabOk r05_Type_rk (cC (cD (cS trivial trivial)) (cD (cS trivial (cC (cD (cS trivial trivial)) (cD (cS (cS trivial (cC trivial (cD (cS trivial (cC trivial (cD (cS trivial (cC trivial (cD (cS trivial (cC trivial (cD (cS trivial (cC trivial (cD (cS trivial (cC trivial (cD trivial)))))))))))))))))) (cT r05_Type_q3))))))) (fun _ _ => by kernel_rfl)
def r05_Type_p1 : TCode Tb :=
(.cond 13 (.drop [3, 13] (.seq (.reg [⟨.mv, [.k (.n .i64 2)], some 2, none⟩] none)
.ret))
(.drop [13] (.seq (.seq (.reg [⟨(.bin .eql .i), [.v 3, .k (.u8 (2 : UInt8))], some 19, none⟩, ⟨.mv, [.m 19], some 18, none⟩] none)
(.cond 18 .skip
(.drop [18] (.seq (.reg [⟨(.bin .eql .i), [.v 3, .k (.u8 (17 : UInt8))], some 20, none⟩, ⟨.mv, [.m 20], some 18, none⟩] none)
(.cond 18 .skip
(.drop [18] (.seq (.reg [⟨(.bin .eql .i), [.v 3, .k (.u8 (24 : UInt8))], some 21, none⟩, ⟨.mv, [.m 21], some 18, none⟩] none)
(.cond 18 .skip
(.drop [18] (.reg [⟨(.bin .eql .i), [.v 3, .k (.u8 (39 : UInt8))], some 22, none⟩, ⟨.mv, [.m 22], some 18, none⟩] none))))))))))
(.cut 0 r05_Type_o2 r05_Type_p2))))
def r05_Type_s1 : SSh := ⟨[(3, .g (.f (.a .u8))), (13, .g (.f (.a .b)))], []⟩
def r05_Type_o1 : Cut Tb := cutJ tab 0 r05_Type_s1 (fun _ x k => r05_Type_c1 x.1.1 x.1.2.1 (fun y23 => k .ret ⟨[(2, .n .i64 y23)], []⟩) (k .normal ⟨[], []⟩))
theorem r05_Type_q1 : (r05_Type_o1).Ok Tryd.prog Wp tab 0 r05_Type_p1 := cutJ_ok (c := r05_Type_p1) tabOk r05_Type_rk (cC (cD (cS trivial trivial)) (cD (cS (cS trivial (cC trivial (cD (cS trivial (cC trivial (cD (cS trivial (cC trivial (cD trivial))))))))) (cT r05_Type_q2)))) (fun _ _ => by kernel_rfl)
def r05_Type_p0 : TCode Tb :=
(.cond 4 (.drop [3, 4] (.seq (.reg [⟨.mv, [.k (.n .i64 1)], some 2, none⟩] none)
.ret))
(.drop [4] (.seq (.seq (.reg [⟨(.bin .eql .i), [.v 3, .k (.u8 (19 : UInt8))], some 14, none⟩, ⟨.mv, [.m 14], some 13, none⟩] none)
(.cond 13 .skip
(.drop [13] (.seq (.reg [⟨(.bin .eql .i), [.v 3, .k (.u8 (33 : UInt8))], some 15, none⟩, ⟨.mv, [.m 15], some 13, none⟩] none)
(.cond 13 .skip
(.drop [13] (.seq (.reg [⟨(.bin .eql .i), [.v 3, .k (.u8 (34 : UInt8))], some 16, none⟩, ⟨.mv, [.m 16], some 13, none⟩] none)
(.cond 13 .skip
(.drop [13] (.reg [⟨(.bin .eql .i), [.v 3, .k (.u8 (35 : UInt8))], some 17, none⟩, ⟨.mv, [.m 17], some 13, none⟩] none))))))))))
(.cut 0 r05_Type_o1 r05_Type_p1))))
def r05_Type_s0 : SSh := ⟨[(3, .g (.f (.a .u8))), (4, .g (.f (.a .b)))], []⟩
def r05_Type_o0 : Cut Tb := cutJ tab 0 r05_Type_s0 (fun _ x k => r05_Type_c0 x.1.1 x.1.2.1 (fun y28 => k .ret ⟨[(2, .n .i64 y28)], []⟩) (k .normal ⟨[], []⟩))
theorem r05_Type_q0 : (r05_Type_o0).Ok Tryd.prog Wp tab 0 r05_Type_p0 := cutJ_ok (c := r05_Type_p0) tabOk r05_Type_rk (cC (cD (cS trivial trivial)) (cD (cS (cS trivial (cC trivial (cD (cS trivial (cC trivial (cD (cS trivial (cC trivial (cD trivial))))))))) (cT r05_Type_q1)))) (fun _ _ => by kernel_rfl)
def r05_Type_p : TCode Tb :=
(.seq (.reg [⟨.mv, [.k (.n .i64 0)], some 2, none⟩] none)
(.seq (.seq (.reg [⟨.mv, [.m 0], some 3, none⟩] none)
(.block 0 (.seq (.seq (.reg [⟨(.bin .eql .i), [.v 3, .k (.u8 (1 : UInt8))], some 5, none⟩, ⟨.mv, [.m 5], some 4, none⟩] none)
(.cond 4 (.drop [2] .skip)
(.drop [2, 4] (.seq (.reg [⟨(.bin .eql .i), [.v 3, .k (.u8 (23 : UInt8))], some 6, none⟩, ⟨.mv, [.m 6], some 4, none⟩] none)
(.cond 4 .skip
(.drop [4] (.seq (.reg [⟨(.bin .eql .i), [.v 3, .k (.u8 (25 : UInt8))], some 7, none⟩, ⟨.mv, [.m 7], some 4, none⟩] none)
(.cond 4 .skip
(.drop [4] (.seq (.reg [⟨(.bin .eql .i), [.v 3, .k (.u8 (36 : UInt8))], some 8, none⟩, ⟨.mv, [.m 8], some 4, none⟩] none)
(.cond 4 .skip
(.drop [4] (.seq (.reg [⟨(.bin .eql .i), [.v 3, .k (.u8 (37 : UInt8))], some 9, none⟩, ⟨.mv, [.m 9], some 4, none⟩] none)
(.cond 4 .skip
(.drop [4] (.seq (.reg [⟨(.bin .eql .i), [.v 3, .k (.u8 (40 : UInt8))], some 10, none⟩, ⟨.mv, [.m 10], some 4, none⟩] none)
(.cond 4 .skip
(.drop [4] (.seq (.reg [⟨(.bin .eql .i), [.v 3, .k (.u8 (41 : UInt8))], some 11, none⟩, ⟨.mv, [.m 11], some 4, none⟩] none)
(.cond 4 .skip
(.drop [4] (.reg [⟨(.bin .eql .i), [.v 3, .k (.u8 (42 : UInt8))], some 12, none⟩, ⟨.mv, [.m 12], some 4, none⟩] none))))))))))))))))))))))
(.cut 0 r05_Type_o0 r05_Type_p0))))
(.seq (.reg [⟨.mv, [.k (.n .i64 0)], some 2, none⟩] none)
.ret)))
def r05_Type_w : Orc Tb := mkOrc (Y := Int) tab [.g (.f (.a .u8))] [] (fun x h => r05_Type x.1) (fun _ y k => k (.n .i64 y) [])
theorem r05_Type_k : (r05_Type_w).Ok Tryd.prog Wp tab 12 := orc_ok (Y := Int) (orcs := r05_Type_r) (c := r05_Type_p) (res := [.tmp 2]) (n := 38) (R := (RSp.one (Y := Int) tab (.g (.f (.a (.n .i64)))) [] (fun a b => a) (fun y => y) (fun y => ()))) tabOk r05_Type_rk (RSp.one_ok tabOk (fun _ _ => by kernel_rfl) (fun _ _ => by kernel_rfl)) Tryd.func12 (by kernel_rfl) (by kernel_rfl) (by kernel_rfl) (by kernel_rfl) (cS trivial (cS (cS trivial (cB (cS (cS trivial (cC (cD trivial) (cD (cS trivial (cC trivial (cD (cS trivial (cC trivial (cD (cS trivial (cC trivial (cD (cS trivial (cC trivial (cD (cS trivial (cC trivial (cD (cS trivial (cC trivial (cD trivial))))))))))))))))))))) (cT r05_Type_q0)))) (cS trivial trivial))) (fun _ y k => by kernel_rfl) (fun y => by kernel_rfl) (fun x h => by kernel_rfl)
def r05_kinds_r : Orcs Tb := []
theorem r05_kinds_rk : OrcsOk Tryd.prog Wp tab r05_kinds_r := orcs_nil
def r05_kinds_p4 : TCode Tb :=
(.cond 44 (.drop [3, 44] (.seq (.reg [⟨(.bslice 0 2 (0 : Int) [0, 1]), [.k (.n .i64 1), .k (.n .i64 2)], some 48, none⟩, ⟨.mv, [.m 48], some 2, none⟩] none)
.ret))
(.drop [44] (.seq (.reg [⟨(.bin .eql .i), [.v 3, .k (.u8 (35 : UInt8))], some 50, none⟩, ⟨.mv, [.m 50], some 49, none⟩] none)
(.cond 49 (.drop [3, 49] (.seq (.reg [⟨(.bslice 0 1 (0 : Int) [0]), [.k (.n .i64 3)], some 51, none⟩, ⟨.mv, [.m 51], some 2, none⟩] none)
.ret))
(.drop [49] (.seq (.reg [⟨(.bin .eql .i), [.m 3, .k (.u8 (38 : UInt8))], some 53, none⟩, ⟨.mv, [.m 53], some 52, none⟩] none)
(.cond 52 (.drop [52] (.seq (.reg [⟨(.bslice 0 14 (0 : Int) [0, 1, 2, 3, 4, 5, 6, 7, 8, 9, 10, 11, 12, 13]), [.k (.n .i64 1), .k (.n .i64 2), .k (.n .i64 3), .k (.n .i64 4), .k (.n .i64 5), .k (.n .i64 6), .k (.n .i64 7), .k (.n .i64 8), .k (.n .i64 9), .k (.n .i64 10), .k (.n .i64 11), .k (.n .i64 14), .k (.n .i64 15), .k (.n .i64 16)], some 54, none⟩, ⟨.mv, [.m 54], some 2, none⟩] none)
.ret))
(.drop [52] .skip))))))))
def r05_kinds_s4 : SSh := ⟨[(3, .g (.f (.a .u8))), (44, .g (.f (.a .b)))], []⟩
def r05_kinds_o4 : Cut Tb := cutJ tab 0 r05_kinds_s4 (fun _ x k => r05_kinds_c4 x.1.1 x.1.2.1 (fun y12 => k .ret ⟨[(2, .ow 0 y12)], []⟩) (k .normal ⟨[], []⟩))
theorem r05_kinds_q4 : (r05_kinds_o4).Ok Tryd.prog Wp tab 0 r05_kinds_p4 := cutJ_ok (c := r05_kinds_p4) tabOk r05_kinds_rk (cC (cD (cS trivial trivial)) (cD (cS trivial (cC (cD (cS trivial trivial)) (cD (cS trivial (cC (cD (cS trivial trivial)) (cD trivial)))))))) (fun _ _ => by kernel_rfl)
def r05_kinds_p3 : TCode Tb :=
(.cond 31 (.drop [3, 31] (.seq (.reg [⟨(.bslice 0 1 (0 : Int) [0]), [.k (.n .i64 1)], some 34, none⟩, ⟨.mv, [.m 34], some 2, none⟩] none)
.ret))
(.drop [31] (.seq (.reg [⟨(.bin .eql .i), [.v 3, .k (.u8 (24 : UInt8))], some 36, none⟩, ⟨.mv, [.m 36], some 35, none⟩] none)
(.cond 35 (.drop [3, 35] (.seq (.reg [⟨(.bslice 0 1 (0 : Int) [0]), [.k (.n .i64 16)], some 37, none⟩, ⟨.mv, [.m 37], some 2, none⟩] none)
.ret))
(.drop [35] (.seq (.reg [⟨(.bin .eql .i), [.v 3, .k (.u8 (28 : UInt8))], some 39, none⟩, ⟨.mv, [.m 39], some 38, none⟩] none)
(.cond 38 (.drop [3, 38] (.seq (.reg [⟨(.bslice 0 2 (0 : Int) [0, 1]), [.k (.n .i64 2), .k (.n .i64 14)], some 40, none⟩, ⟨.mv, [.m 40], some 2, none⟩] none)
.ret))
(.drop [38] (.seq (.reg [⟨(.bin .eql .i), [.v 3, .k (.u8 (31 : UInt8))], some 42, none⟩, ⟨.mv, [.m 42], some 41, none⟩] none)
(.cond 41 (.drop [3, 41] (.seq (.reg [⟨(.bslice 0 9 (0 : Int) [0, 1, 2, 3, 4, 5, 6, 7, 8]), [.k (.n .i64 2), .k (.n .i64 4), .k (.n .i64 5), .k (.n .i64 6), .k (.n .i64 7), .k (.n .i64 9), .k (.n .i64 11), .k (.n .i64 14), .k (.n .i64 15)], some 43, none⟩, ⟨.mv, [.m 43], some 2, none⟩] none)
.ret))
(.drop [41] (.seq (.seq (.reg [⟨(.bin .eql .i), [.v 3, .k (.u8 (33 : UInt8))], some 45, none⟩, ⟨.mv, [.m 45], some 44, none⟩] none)
(.cond 44 .skip
(.drop [44] (.seq (.reg [⟨(.bin .eql .i), [.v 3, .k (.u8 (34 : UInt8))], some 46, none⟩, ⟨.mv, [.m 46], some 44, none⟩] none)
(.cond 44 .skip
(.drop [44] (.reg [⟨(.bin .eql .i), [.v 3, .k (.u8 (39 : UInt8))], some 47, none⟩, ⟨.mv, [.m 47], some 44, none⟩] none)))))))
(.cut 0 r05_kinds_o4 r05_kinds_p4)))))))))))))
def r05_kinds_s3 : SSh := ⟨[(3, .g (.f (.a .u8))), (31, .g (.f (.a .b)))], []⟩
def r05_kinds_o3 : Cut Tb := cutJ tab 0 r05_kinds_s3 (fun _ x k => r05_kinds_c3 x.1.1 x.1.2.1 (fun y16 => k .ret ⟨[(2, .ow 0 y16)], []⟩) (k .normal ⟨[], []⟩))
theorem r05_kinds_q3 : (r05_kinds_o3).Ok Tryd.prog Wp tab 0 r05_kinds_p3 := cutJ_ok (c := r05_kinds_p3) tabOk r05_kinds_rk (cC (cD (cS trivial trivial)) (cD (cS trivial (cC (cD (cS trivial trivial)) (cD (cS trivial (cC (cD (cS trivial trivial)) (cD (cS trivial (cC (cD (cS trivial trivial)) (cD (cS (cS trivial (cC trivial (cD (cS trivial (cC trivial (cD trivial)))))) (cT r05_kinds_q4))))))))))))) (fun _ _ => by kernel_rfl)
def r05_kinds_p2 : TCode Tb :=
(.cond 27 (.drop [3, 27] (.seq (.reg [⟨(.bslice 0 3 (0 : Int) [0, 1, 2]), [.k (.n .i64 1), .k (.n .i64 2), .k (.n .i64 15)], some 30, none⟩, ⟨.mv, [.m 30], some 2, none⟩] none)
.ret))
(.drop [27] (.seq (.seq (.reg [⟨(.bin .eql .i), [.v 3, .k (.u8 (23 : UInt8))], some 32, none⟩, ⟨.mv, [.m 32], some 31, none⟩] none)
(.cond 31 .skip
(.drop [31] (.reg [⟨(.bin .eql .i), [.v 3, .k (.u8 (25 : UInt8))], some 33, none⟩, ⟨.mv, [.m 33], some 31, none⟩] none))))
(.cut 0 r05_kinds_o3 r05_kinds_p3))))
def r05_kinds_s2 : SSh := ⟨[(3, .g (.f (.a .u8))), (27, .g (.f (.a .b)))], []⟩
def r05_kinds_o2 : Cut Tb := cutJ tab 0 r05_kinds_s2 (fun _ x k => r05_kinds_c2 x.1.1 x.1.2.1 (fun y19 => k .ret ⟨[(2, .ow 0 y19)], []⟩) (k .normal ⟨[], []⟩))
theorem r05_kinds_q2 : (r05_kinds_o2).Ok Tryd.prog Wp tab 0 r05_kinds_p2 := cutJ_ok (c := r05_kinds_p2) tabOk r05_kinds_rk (cC (cD (cS trivial trivial)) (cD (cS (cS trivial (cC trivial (cD trivial))) (cT r05_kinds_q3)))) (fun _ _ => by kernel_rfl)
def r05_kinds_p1 : TCode Tb :=
(.cond 17 (.drop [3, 17] (.seq (.reg [⟨(.bslice 0 1 (0 : Int) [0]), [.k (.n .i64 2)], some 26, none⟩, ⟨.mv, [.m 26], some 2, none⟩] none)
.ret))
(.drop [17] (.seq (.seq (.reg [⟨(.bin .eql .i), [.v 3, .k (.u8 (21 : UInt8))], some 28, none⟩, ⟨.mv, [.m 28], some 27, none⟩] none)
(.cond 27 .skip
(.drop [27] (.reg [⟨(.bin .eql .i), [.v 3, .k (.u8 (22 : UInt8))], some 29, none⟩, ⟨.mv, [.m 29], some 27, none⟩] none))))
(.cut 0 r05_kinds_o2 r05_kinds_p2))))
def r05_kinds_s1 : SSh := ⟨[(3, .g (.f (.a .u8))), (17, .g (.f (.a .b)))], []⟩
def r05_kinds_o1 : Cut Tb := cutJ tab 0 r05_kinds_s1 (fun _ x k => r05_kinds_c1 x.1.1 x.1.2.1 (fun y22 => k .ret ⟨[(2, .ow 0 y22)], []⟩) (k .normal ⟨[], []⟩))
theorem r05_kinds_q1 : (r05_kinds_o1).Ok Tryd.prog Wp tab 0 r05_kinds_p1 := cutJ_ok (c := r05_kinds_p1) tabOk r05_kinds_rk (cC (cD (cS trivial trivial)) (cD (cS (cS trivial (cC trivial (cD trivial))) (cT r05_kinds_q2)))) (fun _ _ => by kernel_rfl)
def r05_kinds_p0 : TCode Tb :=
(.cond 4 (.drop [3, 4] (.seq (.reg [⟨(.bslice 0 2 (0 : Int) [0, 1]), [.k (.n .i64 3), .k (.n .i64 16)], some 10, none⟩, ⟨.mv, [.m 10], some 2, none⟩] none)
.ret))
(.drop [4] (.seq (.reg [⟨(.bin .eql .i), [.v 3, .k (.u8 (11 : UInt8))], some 12, none⟩, ⟨.mv, [.m 12], some 11, none⟩] none)
(.cond 11 (.drop [3, 11] (.seq (.reg [⟨(.bslice 0 2 (0 : Int) [0, 1]), [.k (.n .i64 3), .k (.n .i64 8)], some 13, none⟩, ⟨.mv, [.m 13], some 2, none⟩] none)
.ret))
(.drop [11] (.seq (.reg [⟨(.bin .eql .i), [.v 3, .k (.u8 (17 : UInt8))], some 15, none⟩, ⟨.mv, [.m 15], some 14, none⟩] none)
(.cond 14 (.drop [3, 14] (.seq (.reg [⟨(.bslice 0 3 (0 : Int) [0, 1, 2]), [.k (.n .i64 1), .k (.n .i64 2), .k (.n .i64 14)], some 16, none⟩, ⟨.mv, [.m 16], some 2, none⟩] none)
.ret))
(.drop [14] (.seq (.seq (.reg [⟨(.bin .eql .i), [.v 3, .k (.u8 (18 : UInt8))], some 18, none⟩, ⟨.mv, [.m 18], some 17, none⟩] none)
(.cond 17 .skip
(.drop [17] (.seq (.reg [⟨(.bin .eql .i), [.v 3, .k (.u8 (19 : UInt8))], some 19, none⟩, ⟨.mv, [.m 19], some 17, none⟩] none)
(.cond 17 .skip
(.drop [17] (.seq (.reg [⟨(.bin .eql .i), [.v 3, .k (.u8 (26 : UInt8))], some 20, none⟩, ⟨.mv, [.m 20], some 17, none⟩] none)
(.cond 17 .skip
(.drop [17] (.seq (.reg [⟨(.bin .eql .i), [.v 3, .k (.u8 (36 : UInt8))], some 21, none⟩, ⟨.mv, [.m 21], some 17, none⟩] none)
(.cond 17 .skip
(.drop [17] (.seq (.reg [⟨(.bin .eql .i), [.v 3, .k (.u8 (37 : UInt8))], some 22, none⟩, ⟨.mv, [.m 22], some 17, none⟩] none)
(.cond 17 .skip
(.drop [17] (.seq (.reg [⟨(.bin .eql .i), [.v 3, .k (.u8 (40 : UInt8))], some 23, none⟩, ⟨.mv, [.m 23], some 17, none⟩] none)
(.cond 17 .skip
(.drop [17] (.seq (.reg [⟨(.bin .eql .i), [.v 3, .k (.u8 (41 : UInt8))], some 24, none⟩, ⟨.mv, [.m 24], some 17, none⟩] none)
(.cond 17 .skip
(.drop [17] (.reg [⟨(.bin .eql .i), [.v 3, .k (.u8 (42 : UInt8))], some 25, none⟩, ⟨.mv, [.m 25], some 17, none⟩] none))))))))))))))))))))))
(.cut 0 r05_kinds_o1 r05_kinds_p1))))))))))
def r05_kinds_s0 : SSh := ⟨[(3, .g (.f (.a .u8))), (4, .g (.f (.a .b)))], []⟩
def r05_kinds_o0 : Cut Tb := cutJ tab 0 r05_kinds_s0 (fun _ x k => r05_kinds_c0 x.1.1 x.1.2.1 (fun y31 => k .ret ⟨[(2, .ow 0 y31)], []⟩) (k .normal ⟨[], []⟩))
theorem r05_kinds_q0 : (r05_kinds_o0).Ok Tryd.prog Wp tab 0 r05_kinds_p0 := cutJ_ok (c := r05_kinds_p0) tabOk r05_kinds_rk (cC (cD (cS trivial trivial)) (cD (cS trivial (cC (cD (cS trivial trivial)) (cD (cS trivial (cC (cD (cS trivial trivial)) (cD (cS (cS trivial (cC trivial (cD (cS trivial (cC trivial (cD (cS trivial (cC trivial (cD (cS trivial (cC trivial (cD (cS trivial (cC trivial (cD (cS trivial (cC trivial (cD (cS trivial (cC trivial (cD trivial))))))))))))))))))))) (cT r05_kinds_q1)))))))))) (fun _ _ => by kernel_rfl)
def r05_kinds_p : TCode Tb :=
(.seq (.reg [⟨.mv, [.k (.nilS)], some 2, none⟩] none)
(.seq (.seq (.reg [⟨.mv, [.m 0], some 3, none⟩] none)
(.block 0 (.seq (.seq (.reg [⟨(.bin .eql .i), [.v 3, .k (.u8 (1 : UInt8))], some 5, none⟩, ⟨.mv, [.m 5], some 4, none⟩] none)
(.cond 4 (.drop [2] .skip)
(.drop [2, 4] (.seq (.reg [⟨(.bin .eql .i), [.v 3, .k (.u8 (2 : UInt8))], some 6, none⟩, ⟨.mv, [.m 6], some 4, none⟩] none)
(.cond 4 .skip
(.drop [4] (.seq (.reg [⟨(.bin .eql .i), [.v 3, .k (.u8 (3 : UInt8))], some 7, none⟩, ⟨.mv, [.m 7], some 4, none⟩] none)
(.cond 4 .skip
(.drop [4] (.seq (.reg [⟨(.bin .eql .i), [.v 3, .k (.u8 (8 : UInt8))], some 8, none⟩, ⟨.mv, [.m 8], some 4, none⟩] none)
(.cond 4 .skip
(.drop [4] (.reg [⟨(.bin .eql .i), [.v 3, .k (.u8 (9 : UInt8))], some 9, none⟩, ⟨.mv, [.m 9], some 4, none⟩] none)))))))))))))
(.cut 0 r05_kinds_o0 r05_kinds_p0))))
(.seq (.reg [⟨.mv, [.k (.nilS)], some 2, none⟩] none)
.ret)))
def r05_kinds_w : Orc Tb := mkOrc (Y := (Option (List Int))) tab [.g (.f (.a .u8))] [] (fun x h => r05_kinds x.1) (fun _ y k => k (.ow 0 y) [])
theorem r05_kinds_k : (r05_kinds_w).Ok Tryd.prog Wp tab 40 := orc_ok (Y := (Option (List Int))) (orcs := r05_kinds_r) (c := r05_kinds_p) (res := [.tmp 2]) (n := 55) (R := (RSp.one (Y := (Option (List Int))) tab (.g (.f (.ow 0))) [] (fun a b => a) (fun y => y) (fun y => ()))) tabOk r05_kinds_rk (RSp.one_ok tabOk (fun _ _ => by kernel_rfl) (fun _ _ => by kernel_rfl)) Tryd.func40 (by kernel_rfl) (by kernel_rfl) (by kernel_rfl) (by kernel_rfl) (cS trivial (cS (cS trivial (cB (cS (cS trivial (cC (cD trivial) (cD (cS trivial (cC trivial (cD (cS trivial (cC trivial (cD (cS trivial (cC trivial (cD trivial)))))))))))) (cT r05_kinds_q0)))) (cS trivial trivial))) (fun _ y k => by kernel_rfl) (fun y => by kernel_rfl) (fun x h => by kernel_rfl)
def r05_For_r : Orcs Tb := [(40, r05_kinds_w)]
theorem r05_For_rk : OrcsOk Tryd.prog Wp tab r05_For_r := (orcs_cons r05_kinds_k orcs_nil)
def r05_For_p0 : TCode Tb :=
(.seq (.seq (.reg [⟨.mv, [.v 6], some 9, none⟩, ⟨.mv, [.v 5], some 10, none⟩, ⟨.len, [.m 10], some 11, none⟩, ⟨(.bin .lss .i), [.m 9, .m 11], some 12, none⟩] none)
(.cond 12 (.drop [12] .skip)
(.drop [1, 5, 6, 12] (.exit 0))))
(.seq (.block 1 (.seq (.reg [⟨.mv, [.v 5], some 15, none⟩, ⟨.mv, [.v 6], some 16, none⟩, ⟨(.ia 1), [.v 15, .m 16], some 17, none⟩, ⟨(.load none), [.m 17], some 18, none⟩, ⟨.mv, [.v 1], some 19, none⟩, ⟨(.bin .eql .i), [.m 18, .m 19], some 20, none⟩] none)
(.cond 20 (.drop [1, 5, 6, 15, 20] (.seq (.reg [⟨.mv, [.k (.b true)], some 4, none⟩] none)
.ret))
(.drop [15, 20] .skip))))
(.reg [⟨.mv, [.m 6], some 13, none⟩, ⟨(.bin .add .i), [.m 13, .k (.n .i64 1)], some 14, none⟩, ⟨.mv, [.m 14], some 6, none⟩] none)))
def r05_For_s0 : SSh := ⟨[(1, .g (.f (.a (.n .i64)))), (5, .g (.f (.ow 0))), (6, .g (.f (.a (.n .i64))))], []⟩
def r05_For_o0 : Cut Tb := cutL tab 0 r05_For_s0 (fun x => x.1.2.2.1) (fun x => r05_For_l0 x.1.1 x.1.2.1) (fun _ x y k => match y with | .inl y => k .ret ⟨[(4, .b true)], []⟩ | .inr y => k (.exit 0) ⟨[], []⟩)
theorem r05_For_q0 : (r05_For_o0).Ok Tryd.prog Wp tab 0 (.loop r05_For_p0) := cutL_ok (c := r05_For_p0) (Z := Int) (Y := Unit ⊕ Unit) tabOk r05_For_rk (cS (cS trivial (cC (cD trivial) (cD trivial))) (cS (cB (cS trivial (cC (cD (cS trivial trivial)) (cD trivial)))) trivial)) (fun _ x z b e => r05_For_b0 x.1.1 x.1.2.1 z (fun x6 => b x6) (e (.inl ())) (e (.inr ()))) (fun x z => ⟨[(1, .n .i64 x.1.1), (5, .ow 0 x.1.2.1), (6, .n .i64 z)], []⟩) (fun x y => match y with | .inl y => (.ret, ⟨[(4, .b true)], []⟩) | .inr y => ((.exit 0), ⟨[], []⟩)) (fun t => (prjS tab 0 r05_For_s0 t).bind fun x => some x.1.2.2.1) (fun e t => (if eqE e .ret then orElse ((prjS tab 0 ⟨[(4, .g (.f (.cb true)))], []⟩ t).bind fun v => some (.inl ())) (if eqE e (.exit 0) then (prjS tab 0 ⟨[], []⟩ t).bind fun v => some (.inr ()) else none) else (if eqE e (.exit 0) then (prjS tab 0 ⟨[], []⟩ t).bind fun v => some (.inr ()) else none))) (fun x => by kernel_rfl) (fun x z => by kernel_rfl) (fun x y k => by rcases y with y | y <;> kernel_rfl) (fun x y => by rcases y with y | y <;> exact nofun) (fun x z => by kernel_rfl) (fun x y => by rcases y with y | y <;> kernel_rfl) (fun x z k => by kernel_rfl)
def r05_For_p : TCode Tb :=
(.seq (.reg [⟨.mv, [.k (.b false)], some 4, none⟩] none)
(.seq (.reg [⟨.mv, [.m 0], some 7, none⟩, ⟨(.call (some 40) 0), [.m 7], some 8, none⟩, ⟨.mv, [.m 8], some 5, none⟩] none)
(.seq (.seq (.reg [⟨.mv, [.k (.n .i64 0)], some 6, none⟩] none)
(.block 0 (.drop [4] (.cut 0 r05_For_o0 (.loop r05_For_p0)))))
(.seq (.reg [⟨.mv, [.k (.b false)], some 4, none⟩] none)
.ret))))
def r05_For_w : Orc Tb := mkOrc (Y := Bool) tab [.g (.f (.a .u8)), .g (.f (.a (.n .i64)))] [] (fun x h => r05_For x.1 x.2.1) (fun _ y k => k (.b y) [])
theorem r05_For_k : (r05_For_w).Ok Tryd.prog Wp tab 14 := orc_ok (Y := Bool) (orcs := r05_For_r) (c := r05_For_p) (res := [.tmp 4]) (n := 21) (R := (RSp.one (Y := Bool) tab (.g (.f (.a .b))) [] (fun a b => a) (fun y => y) (fun y => ()))) tabOk r05_For_rk (RSp.one_ok tabOk (fun _ _ => by kernel_rfl) (fun _ _ => by kernel_rfl)) Tryd.func14 (by kernel_rfl) (by kernel_rfl) (by kernel_rfl) (by kernel_rfl) (cS trivial (cS trivial (cS (cS trivial (cB (cD (cT r05_For_q0)))) (cS trivial trivial)))) (fun _ y k => by kernel_rfl) (fun y => by kernel_rfl) (fun x h => by kernel_rfl)
def l05_To_r : Orcs Tb := []
theorem l05_To_rk : OrcsOk Tryd.prog Wp tab l05_To_r := orcs_nil
def l05_To_p : TCode Tb :=
(.seq (.reg [⟨.box, [.m 0], some 1, none⟩, ⟨(.alloc [.u8 (0 : UInt8), .u32 (0 : UInt32), .s [], .s []]), [], some 2, none⟩] none)
(.seq (.reg [⟨(.fa 0), [.v 1], some 3, none⟩, ⟨(.load none), [.m 3], some 4, none⟩, ⟨(.fa 1), [.v 1], some 5, none⟩, ⟨(.load none), [.m 5], some 6, none⟩, ⟨(.fa 2), [.v 1], some 7, none⟩, ⟨(.load none), [.m 7], some 8, none⟩, ⟨(.fa 3), [.m 1], some 9, none⟩, ⟨(.load none), [.m 9], some 10, none⟩, ⟨(.build [.u8 (0 : UInt8), .u32 (0 : UInt32), .s [], .s []] [(0, 1), (1, 1), (2, 1), (3, 1)]), [.m 4, .m 6, .m 8, .m 10], some 11, none⟩, ⟨(.store 4), [.v 2, .m 11], none, none⟩] none)
.ret))
def l05_To_w : Orc Tb := mkOrc (Y := prop_Prop) tab [.g (.st 3)] [] (fun x h => l05_To (⟨x.1.Id, x.1.N, x.1.A, x.1.B⟩ : r05_Prop)) (fun _ y k => k (.agg [.u8 y.Id, .u32 y.N, .s y.A, .s y.B]) [])
theorem l05_To_k : (l05_To_w).Ok Tryd.prog Wp tab 18 := orc_ok (Y := prop_Prop) (orcs := l05_To_r) (c := l05_To_p) (res := [.cell 2 (some 4)]) (n := 12) (R := (RSp.one (Y := prop_Prop) tab (.g (.st 2)) [] (fun a b => (⟨a.Id, a.N, a.A, a.B⟩ : prop_Prop)) (fun y => (⟨y.Id, y.N, y.A, y.B⟩ : prop_Prop)) (fun y => ()))) tabOk l05_To_rk (RSp.one_ok tabOk (fun _ _ => by kernel_rfl) (fun _ _ => by kernel_rfl)) Tryd.func18 (by kernel_rfl) (by kernel_rfl) (by kernel_rfl) (by kernel_rfl) (cS trivial (cS trivial trivial)) (fun _ y k => by kernel_rfl) (fun y => by kernel_rfl) (fun x h => by kernel_rfl)
def r05_Ids_r : Orcs Tb := []
theorem r05_Ids_rk : OrcsOk Tryd.prog Wp tab r05_Ids_r := orcs_nil
def r05_Ids_p : TCode Tb :=
(.seq (.reg [⟨.mv, [.k (.nilS)], some 0, none⟩] none)
(.seq (.reg [⟨(.b8 27 [0, 1, 2, 3, 4, 5, 6, 7, 8, 9, 10, 11, 12, 13, 14, 15, 16, 17, 18, 19, 20, 21, 22, 23, 24, 25, 26]), [.k (.u8 (1 : UInt8)), .k (.u8 (2 : UInt8)), .k (.u8 (3 : UInt8)), .k (.u8 (8 : UInt8)), .k (.u8 (9 : UInt8)), .k (.u8 (11 : UInt8)), .k (.u8 (17 : UInt8)), .k (.u8 (18 : UInt8)), .k (.u8 (19 : UInt8)), .k (.u8 (21 : UInt8)), .k (.u8 (22 : UInt8)), .k (.u8 (23 : UInt8)), .k (.u8 (24 : UInt8)), .k (.u8 (25 : UInt8)), .k (.u8 (26 : UInt8)), .k (.u8 (28 : UInt8)), .k (.u8 (31 : UInt8)), .k (.u8 (33 : UInt8)), .k (.u8 (34 : UInt8)), .k (.u8 (35 : UInt8)), .k (.u8 (36 : UInt8)), .k (.u8 (37 : UInt8)), .k (.u8 (38 : UInt8)), .k (.u8 (39 : UInt8)), .k (.u8 (40 : UInt8)), .k (.u8 (41 : UInt8)), .k (.u8 (42 : UInt8))], some 1, none⟩, ⟨.mv, [.m 1], some 0, none⟩] none)
.ret))
def r05_Ids_w : Orc Tb := mkOrc (Y := (Option (List UInt8))) tab [] [] (fun x h => r05_Ids) (fun _ y k => k (.bo y) [])
theorem r05_Ids_k : (r05_Ids_w).Ok Tryd.prog Wp tab 43 := orc_ok (Y := (Option (List UInt8))) (orcs := r05_Ids_r) (c := r05_Ids_p) (res := [.tmp 0]) (n := 2) (R := (RSp.one (Y := (Option (List UInt8))) tab (.g (.f (.bo))) [] (fun a b => a) (fun y => y) (fun y => ()))) tabOk r05_Ids_rk (RSp.one_ok tabOk (fun _ _ => by kernel_rfl) (fun _ _ => by kernel_rfl)) Tryd.func43 (by kernel_rfl) (by kernel_rfl) (by kernel_rfl) (by kernel_rfl) (cS trivial (cS trivial trivial)) (fun _ y k => by kernel_rfl) (fun y => by kernel_rfl) (fun x h => by kernel_rfl)
def r02_Fix_r : Orcs Tb := []
theorem r02_Fix_rk : OrcsOk Tryd.prog Wp tab r02_Fix_r := orcs_nil
def r02_Fix_p0 : TCode Tb :=
(.seq (.seq (.reg [⟨.mv, [.v 5], some 7, none⟩, ⟨.mv, [.v 0], some 8, none⟩, ⟨.lens, [.m 8], some 9, none⟩, ⟨(.bin .lss .i), [.m 7, .m 9], some 10, none⟩, ⟨.mv, [.m 10], some 11, none⟩, ⟨.mv, [.v 5], some 12, some (11, true)⟩, ⟨(.bin .lss .i), [.m 12, .k (.n .i64 8)], some 13, some (11, true)⟩, ⟨.pick, [.m 11, .m 13, .k (.b false)], some 14, none⟩] none)
(.drop [12] (.cond 14 (.drop [14] .skip)
(.drop [0, 3, 5, 14] (.exit 0)))))
(.seq (.block 1 (.reg [⟨.mv, [.m 4], some 17, none⟩, ⟨.mv, [.v 3], some 18, none⟩, ⟨.mv, [.v 0], some 19, none⟩, ⟨.mv, [.v 5], some 20, none⟩, ⟨.sidx, [.m 19, .m 20], some 21, none⟩, ⟨(.cint .i64), [.m 21], some 22, none⟩, ⟨.mv, [.v 3], some 23, none⟩, ⟨.len, [.m 23], some 24, none⟩, ⟨(.bin .rem .i), [.m 22, .m 24], some 25, none⟩, ⟨(.ia 1), [.v 18, .m 25], some 26, none⟩, ⟨(.load none), [.m 26], some 27, none⟩, ⟨(.bin .add .i), [.m 17, .m 27], some 28, none⟩, ⟨.mv, [.m 28], some 4, none⟩] none))
(.drop [18] (.reg [⟨.mv, [.m 5], some 15, none⟩, ⟨(.bin .add .i), [.m 15, .k (.n .i64 1)], some 16, none⟩, ⟨.mv, [.m 16], some 5, none⟩] none))))
def r02_Fix_s0 : SSh := ⟨[(0, .g (.f (.a .s))), (3, .g (.f (.ow 4))), (4, .g (.f (.a .s))), (5, .g (.f (.a (.n .i64))))], []⟩
def r02_Fix_o0 : Cut Tb := cutL tab 0 r02_Fix_s0 (fun x => (x.1.2.2.1, x.1.2.2.2.1)) (fun x => r02_Fix_l0 x.1.1 x.1.2.1) (fun _ x y k => k (.exit 0) ⟨[(4, .s y)], []⟩)
theorem r02_Fix_q0 : (r02_Fix_o0).Ok Tryd.prog Wp tab 0 (.loop r02_Fix_p0) := cutL_ok (c := r02_Fix_p0) (Z := (List UInt8) × Int) (Y := (List UInt8)) tabOk r02_Fix_rk (cS (cS trivial (cD (cC (cD trivial) (cD trivial)))) (cS (cB trivial) (cD trivial))) (fun _ x z b e => r02_Fix_b0 x.1.1 x.1.2.1 z.1 z.2 (fun x4 x5 => b (x4, x5)) (fun y9 => e y9)) (fun x z => ⟨[(0, .s x.1.1), (3, .ow 4 x.1.2.1), (4, .s z.1), (5, .n .i64 z.2)], []⟩) (fun x y => ((.exit 0), ⟨[(4, .s y)], []⟩)) (fun t => (prjS tab 0 r02_Fix_s0 t).bind fun x => some (x.1.2.2.1, x.1.2.2.2.1)) (fun e t => (if eqE e (.exit 0) then (prjS tab 0 ⟨[(4, .g (.f (.a .s)))], []⟩ t).bind fun v => some v.1.1 else none)) (fun x => by kernel_rfl) (fun x z => by kernel_rfl) (fun x y k => by kernel_rfl) (fun x y => by exact nofun) (fun x z => by kernel_rfl) (fun x y => by kernel_rfl) (fun x z k => by kernel_rfl)
def r02_Fix_p : TCode Tb :=
(.seq (.reg [⟨.mv, [.k (.s [])], some 2, none⟩] none)
(.seq (.reg [⟨(.bslice 4 8 ([] : List UInt8) [0, 1, 2, 3, 4, 5, 6, 7]), [.k (.s [97]), .k (.s [98]), .k (.s [97, 98]), .k (.s [195, 164]), .k (.s [226, 130, 172]), .k (.s [240, 159, 153, 130]), .k (.s [49]), .k (.s [99])], some 6, none⟩, ⟨.mv, [.m 6], some 3, none⟩] none)
(.seq (.reg [⟨.mv, [.k (.s [])], some 4, none⟩] none)
(.seq (.seq (.reg [⟨.mv, [.k (.n .i64 0)], some 5, none⟩] none)
(.block 0 (.drop [2] (.cut 0 r02_Fix_o0 (.loop r02_Fix_p0)))))
(.seq (.reg [⟨.mv, [.m 4], some 29, none⟩, ⟨.mv, [.m 29], some 2, none⟩] none)
.ret)))))
def r02_Fix_w : Orc Tb := mkOrc (Y := (List UInt8)) tab [.g (.f (.a .s))] [] (fun x h => r02_Fix x.1) (fun _ y k => k (.s y) [])
theorem r02_Fix_k : (r02_Fix_w).Ok Tryd.prog Wp tab 44 := orc_ok (Y := (List UInt8)) (orcs := r02_Fix_r) (c := r02_Fix_p) (res := [.tmp 2]) (n := 30) (R := (RSp.one (Y := (List UInt8)) tab (.g (.f (.a .s))) [] (fun a b => a) (fun y => y) (fun y => ()))) tabOk r02_Fix_rk (RSp.one_ok tabOk (fun _ _ => by kernel_rfl) (fun _ _ => by kernel_rfl)) Tryd.func44 (by kernel_rfl) (by kernel_rfl) (by kernel_rfl) (by kernel_rfl) (cS trivial (cS trivial (cS trivial (cS (cS trivial (cB (cD (cT r02_Fix_q0)))) (cS trivial trivial))))) (fun _ y k => by kernel_rfl) (fun y => by kernel_rfl) (fun x h => by kernel_rfl)
def r04_Fix_r : Orcs Tb := []
theorem r04_Fix_rk : OrcsOk Tryd.prog Wp tab r04_Fix_r := orcs_nil
def r04_Fix_p0 : TCode Tb :=
(.seq (.seq (.reg [⟨.mv, [.v 5], some 7, none⟩, ⟨.mv, [.v 0], some 8, none⟩, ⟨.lens, [.m 8], some 9, none⟩, ⟨(.bin .lss .i), [.m 7, .m 9], some 10, none⟩, ⟨.mv, [.m 10], some 11, none⟩, ⟨.mv, [.v 5], some 12, some (11, true)⟩, ⟨(.bin .lss .i), [.m 12, .k (.n .i64 8)], some 13, some (11, true)⟩, ⟨.pick, [.m 11, .m 13, .k (.b false)], some 14, none⟩] none)
(.drop [12] (.cond 14 (.drop [14] .skip)
(.drop [0, 3, 5, 14] (.exit 0)))))
(.seq (.block 1 (.reg [⟨.mv, [.m 4], some 17, none⟩, ⟨.mv, [.v 3], some 18, none⟩, ⟨.mv, [.v 0], some 19, none⟩, ⟨.mv, [.v 5], some 20, none⟩, ⟨.sidx, [.m 19, .m 20], some 21, none⟩, ⟨(.cint .i64), [.m 21], some 22, none⟩, ⟨.mv, [.v 3], some 23, none⟩, ⟨.len, [.m 23], some 24, none⟩, ⟨(.bin .rem .i), [.m 22, .m 24], some 25, none⟩, ⟨(.ia 1), [.v 18, .m 25], some 26, none⟩, ⟨(.load none), [.m 26], some 27, none⟩, ⟨(.bin .add .i), [.m 17, .m 27], some 28, none⟩, ⟨.mv, [.m 28], some 4, none⟩] none))
(.drop [18] (.reg [⟨.mv, [.m 5], some 15, none⟩, ⟨(.bin .add .i), [.m 15, .k (.n .i64 1)], some 16, none⟩, ⟨.mv, [.m 16], some 5, none⟩] none))))
def r04_Fix_s0 : SSh := ⟨[(0, .g (.f (.a .s))), (3, .g (.f (.ow 4))), (4, .g (.f (.a .s))), (5, .g (.f (.a (.n .i64))))], []⟩
def r04_Fix_o0 : Cut Tb := cutL tab 0 r04_Fix_s0 (fun x => (x.1.2.2.1, x.1.2.2.2.1)) (fun x => r04_Fix_l0 x.1.1 x.1.2.1) (fun _ x y k => k (.exit 0) ⟨[(4, .s y)], []⟩)
theorem r04_Fix_q0 : (r04_Fix_o0).Ok Tryd.prog Wp tab 0 (.loop r04_Fix_p0) := cutL_ok (c := r04_Fix_p0) (Z := (List UInt8) × Int) (Y := (List UInt8)) tabOk r04_Fix_rk (cS (cS trivial (cD (cC (cD trivial) (cD trivial)))) (cS (cB trivial) (cD trivial))) (fun _ x z b e => r04_Fix_b0 x.1.1 x.1.2.1 z.1 z.2 (fun x4 x5 => b (x4, x5)) (fun y9 => e y9)) (fun x z => ⟨[(0, .s x.1.1), (3, .ow 4 x.1.2.1), (4, .s z.1), (5, .n .i64 z.2)], []⟩) (fun x y => ((.exit 0), ⟨[(4, .s y)], []⟩)) (fun t => (prjS tab 0 r04_Fix_s0 t).bind fun x => some (x.1.2.2.1, x.1.2.2.2.1)) (fun e t => (if eqE e (.exit 0) then (prjS tab 0 ⟨[(4, .g (.f (.a .s)))], []⟩ t).bind fun v => some v.1.1 else none)) (fun x => by kernel_rfl) (fun x z => by kernel_rfl) (fun x y k => by kernel_rfl) (fun x y => by exact nofun) (fun x z => by kernel_rfl) (fun x y => by kernel_rfl) (fun x z k => by kernel_rfl)
def r04_Fix_p : TCode Tb :=
(.seq (.reg [⟨.mv, [.k (.s [])], some 2, none⟩] none)
(.seq (.reg [⟨(.bslice 4 8 ([] : List UInt8) [0, 1, 2, 3, 4, 5, 6, 7]), [.k (.s [97]), .k (.s [98]), .k (.s [47]), .k (.s [99]), .k (.s [100]), .k (.s [47]), .k (.s [195, 164]), .k (.s [101])], some 6, none⟩, ⟨.mv, [.m 6], some 3, none⟩] none)
(.seq (.reg [⟨.mv, [.k (.s [])], some 4, none⟩] none)
(.seq (.seq (.reg [⟨.mv, [.k (.n .i64 0)], some 5, none⟩] none)
(.block 0 (.drop [2] (.cut 0 r04_Fix_o0 (.loop r04_Fix_p0)))))
(.seq (.seq (.reg [⟨.mv, [.v 4], some 29, none⟩, ⟨(.bin .eql .s), [.m 29, .k (.s [])], some 30, none⟩] none)
(.cond 30 (.drop [4, 30] (.seq (.reg [⟨.mv, [.k (.s [97])], some 2, none⟩] none)
.ret))
(.drop [30] .skip)))
(.seq (.reg [⟨.mv, [.m 4], some 31, none⟩, ⟨.mv, [.m 31], some 2, none⟩] none)
.ret))))))
def r04_Fix_w : Orc Tb := mkOrc (Y := (List UInt8)) tab [.g (.f (.a .s))] [] (fun x h => r04_Fix x.1) (fun _ y k => k (.s y) [])
theorem r04_Fix_k : (r04_Fix_w).Ok Tryd.prog Wp tab 35 := orc_ok (Y := (List UInt8)) (orcs := r04_Fix_r) (c := r04_Fix_p) (res := [.tmp 2]) (n := 32) (R := (RSp.one (Y := (List UInt8)) tab (.g (.f (.a .s))) [] (fun a b => a) (fun y => y) (fun y => ()))) tabOk r04_Fix_rk (RSp.one_ok tabOk (fun _ _ => by kernel_rfl) (fun _ _ => by kernel_rfl)) Tryd.func35 (by kernel_rfl) (by kernel_rfl) (by kernel_rfl) (by kernel_rfl) (cS trivial (cS trivial (cS trivial (cS (cS trivial (cB (cD (cT r04_Fix_q0)))) (cS (cS trivial (cC (cD (cS trivial trivial)) (cD trivial))) (cS trivial trivial)))))) (fun _ y k => by kernel_rfl) (fun y => by kernel_rfl) (fun x h => by kernel_rfl)
def r05_Fix_r : Orcs Tb := [(43, r05_Ids_w), (14, r05_For_w), (12, r05_Type_w), (44, r02_Fix_w), (35, r04_Fix_w)]
theorem r05_Fix_rk : OrcsOk Tryd.prog Wp tab r05_Fix_r := (orcs_cons r05_Ids_k (orcs_cons r05_For_k (orcs_cons r05_Type_k (orcs_cons r02_Fix_k (orcs_cons r04_Fix_k orcs_nil)))))
def r05_Fix_p0 : TCode Tb :=
(.seq (.seq (.reg [⟨.mv, [.v 7], some 10, none⟩, ⟨.mv, [.v 6], some 11, none⟩, ⟨.len, [.m 11], some 12, none⟩, ⟨(.bin .lss .i), [.m 10, .m 12], some 13, none⟩] none)
(.cond 13 (.drop [13] .skip)
(.drop [1, 6, 7, 13] (.exit 0))))
(.seq (.block 1 (.seq (.reg [⟨.mv, [.v 6], some 16, none⟩, ⟨.mv, [.v 7], some 17, none⟩, ⟨(.ia 1), [.v 16, .m 17], some 18, none⟩, ⟨(.load none), [.m 18], some 19, none⟩, ⟨.mv, [.v 1], some 20, none⟩, ⟨(.call (some 14) 1), [.m 19, .m 20], some 21, none⟩] none)
(.cond 21 (.drop [16, 21] (.reg [⟨.mv, [.m 5], some 22, none⟩, ⟨.mv, [.v 6], some 23, none⟩, ⟨.mv, [.v 7], some 24, none⟩, ⟨(.ia 1), [.v 23, .m 24], some 25, none⟩, ⟨(.load none), [.m 25], some 26, none⟩, ⟨(.b8 1 [0]), [.m 26], some 27, none⟩, ⟨(.app 1 1), [.m 22, .m 27], some 28, none⟩, ⟨.mv, [.m 28], some 5, none⟩] none))
(.drop [16, 21] .skip))))
(.drop [23] (.reg [⟨.mv, [.m 7], some 14, none⟩, ⟨(.bin .add .i), [.m 14, .k (.n .i64 1)], some 15, none⟩, ⟨.mv, [.m 15], some 7, none⟩] none))))
def r05_Fix_s0 : SSh := ⟨[(1, .g (.f (.a (.n .i64)))), (2, .g (.f (.ref 0 0))), (4, .g (.f (.ref 1 0))), (5, .g (.f (.bo))), (6, .g (.f (.bo))), (7, .g (.f (.a (.n .i64))))], [[.g (.f (.a .u8)), .g (.f (.a .u32)), .g (.f (.a .s)), .g (.f (.a .s))], [.g (.f (.a .u8)), .g (.f (.a .u32)), .g (.f (.a .s)), .g (.f (.a .s))]]⟩
def r05_Fix_o0 : Cut Tb := cutL tab 0 r05_Fix_s0 (fun x => (x.1.2.2.2.1, x.1.2.2.2.2.2.1)) (fun x => r05_Fix_l0 x.1.1 x.1.2.2.2.2.1) (fun _ x y k => k (.exit 0) ⟨[(2, .ref 0 0), (4, .ref 1 0), (5, .bo y)], [[.u8 ((⟨x.2.1.1, x.2.1.2.1, x.2.1.2.2.1, x.2.1.2.2.2.1⟩ : r05_Prop).Id), .u32 ((⟨x.2.1.1, x.2.1.2.1, x.2.1.2.2.1, x.2.1.2.2.2.1⟩ : r05_Prop).N), .s ((⟨x.2.1.1, x.2.1.2.1, x.2.1.2.2.1, x.2.1.2.2.2.1⟩ : r05_Prop).A), .s ((⟨x.2.1.1, x.2.1.2.1, x.2.1.2.2.1, x.2.1.2.2.2.1⟩ : r05_Prop).B)], [.u8 ((⟨x.2.2.1.1, x.2.2.1.2.1, x.2.2.1.2.2.1, x.2.2.1.2.2.2.1⟩ : r05_Prop).Id), .u32 ((⟨x.2.2.1.1, x.2.2.1.2.1, x.2.2.1.2.2.1, x.2.2.1.2.2.2.1⟩ : r05_Prop).N), .s ((⟨x.2.2.1.1, x.2.2.1.2.1, x.2.2.1.2.2.1, x.2.2.1.2.2.2.1⟩ : r05_Prop).A), .s ((⟨x.2.2.1.1, x.2.2.1.2.1, x.2.2.1.2.2.1, x.2.2.1.2.2.2.1⟩ : r05_Prop).B)]]⟩)
theorem r05_Fix_q0 : (r05_Fix_o0).Ok Tryd.prog Wp tab 0 (.loop r05_Fix_p0) := cutL_ok (c := r05_Fix_p0) (Z := (Option (List UInt8)) × Int) (Y := (Option (List UInt8))) tabOk r05_Fix_rk (cS (cS trivial (cC (cD trivial) (cD trivial))) (cS (cB (cS trivial (cC (cD trivial) (cD trivial)))) (cD trivial))) (fun _ x z b e => r05_Fix_b0 x.1.1 x.1.2.2.2.2.1 z.1 z.2 (fun x5 x7 => b (x5, x7)) (fun y14 => e y14)) (fun x z => ⟨[(1, .n .i64 x.1.1), (2, .ref 0 0), (4, .ref 1 0), (5, .bo z.1), (6, .bo x.1.2.2.2.2.1), (7, .n .i64 z.2)], [[.u8 ((⟨x.2.1.1, x.2.1.2.1, x.2.1.2.2.1, x.2.1.2.2.2.1⟩ : r05_Prop).Id), .u32 ((⟨x.2.1.1, x.2.1.2.1, x.2.1.2.2.1, x.2.1.2.2.2.1⟩ : r05_Prop).N), .s ((⟨x.2.1.1, x.2.1.2.1, x.2.1.2.2.1, x.2.1.2.2.2.1⟩ : r05_Prop).A), .s ((⟨x.2.1.1, x.2.1.2.1, x.2.1.2.2.1, x.2.1.2.2.2.1⟩ : r05_Prop).B)], [.u8 ((⟨x.2.2.1.1, x.2.2.1.2.1, x.2.2.1.2.2.1, x.2.2.1.2.2.2.1⟩ : r05_Prop).Id), .u32 ((⟨x.2.2.1.1, x.2.2.1.2.1, x.2.2.1.2.2.1, x.2.2.1.2.2.2.1⟩ : r05_Prop).N), .s ((⟨x.2.2.1.1, x.2.2.1.2.1, x.2.2.1.2.2.1, x.2.2.1.2.2.2.1⟩ : r05_Prop).A), .s ((⟨x.2.2.1.1, x.2.2.1.2.1, x.2.2.1.2.2.1, x.2.2.1.2.2.2.1⟩ : r05_Prop).B)]]⟩) (fun x y => ((.exit 0), ⟨[(2, .ref 0 0), (4, .ref 1 0), (5, .bo y)], [[.u8 ((⟨x.2.1.1, x.2.1.2.1, x.2.1.2.2.1, x.2.1.2.2.2.1⟩ : r05_Prop).Id), .u32 ((⟨x.2.1.1, x.2.1.2.1, x.2.1.2.2.1, x.2.1.2.2.2.1⟩ : r05_Prop).N), .s ((⟨x.2.1.1, x.2.1.2.1, x.2.1.2.2.1, x.2.1.2.2.2.1⟩ : r05_Prop).A), .s ((⟨x.2.1.1, x.2.1.2.1, x.2.1.2.2.1, x.2.1.2.2.2.1⟩ : r05_Prop).B)], [.u8 ((⟨x.2.2.1.1, x.2.2.1.2.1, x.2.2.1.2.2.1, x.2.2.1.2.2.2.1⟩ : r05_Prop).Id), .u32 ((⟨x.2.2.1.1, x.2.2.1.2.1, x.2.2.1.2.2.1, x.2.2.1.2.2.2.1⟩ : r05_Prop).N), .s ((⟨x.2.2.1.1, x.2.2.1.2.1, x.2.2.1.2.2.1, x.2.2.1.2.2.2.1⟩ : r05_Prop).A), .s ((⟨x.2.2.1.1, x.2.2.1.2.1, x.2.2.1.2.2.1, x.2.2.1.2.2.2.1⟩ : r05_Prop).B)]]⟩)) (fun t => (prjS tab 0 r05_Fix_s0 t).bind fun x => some (x.1.2.2.2.1, x.1.2.2.2.2.2.1)) (fun e t => (if eqE e (.exit 0) then (prjS tab 0 ⟨[(2, .g (.f (.ref 0 0))), (4, .g (.f (.ref 1 0))), (5, .g (.f (.bo)))], [[.g (.f (.a .u8)), .g (.f (.a .u32)), .g (.f (.a .s)), .g (.f (.a .s))], [.g (.f (.a .u8)), .g (.f (.a .u32)), .g (.f (.a .s)), .g (.f (.a .s))]]⟩ t).bind fun v => some v.1.2.2.1 else none)) (fun x => by kernel_rfl) (fun x z => by kernel_rfl) (fun x y k => by kernel_rfl) (fun x y => by exact nofun) (fun x z => by kernel_rfl) (fun x y => by kernel_rfl) (fun x z k => by kernel_rfl)
def r05_Fix_p : TCode Tb :=
(.seq (.reg [⟨.box, [.m 0], some 2, none⟩, ⟨(.alloc [.u8 (0 : UInt8), .u32 (0 : UInt32), .s [], .s []]), [], some 4, none⟩] none)
(.seq (.reg [⟨.mv, [.k (.nilS)], some 5, none⟩] none)
(.seq (.reg [⟨(.call (some 43) 0), [], some 9, none⟩, ⟨.mv, [.m 9], some 6, none⟩] none)
(.seq (.seq (.reg [⟨.mv, [.k (.n .i64 0)], some 7, none⟩] none)
(.block 0 (.cut 0 r05_Fix_o0 (.loop r05_Fix_p0))))
(.seq (.seq (.reg [⟨.mv, [.v 5], some 29, none⟩, ⟨.len, [.m 29], some 30, none⟩, ⟨(.bin .eql .i), [.m 30, .k (.n .i64 0)], some 31, none⟩] none)
(.cond 31 (.drop [2, 5, 31] (.seq (.reg [⟨(.build [.u8 (0 : UInt8), .u32 (0 : UInt32), .s [], .s []] []), [], some 32, none⟩, ⟨(.store 4), [.v 4, .m 32], none, none⟩] none)
.ret))
(.drop [31] .skip)))
(.seq (.reg [⟨.mv, [.v 5], some 33, none⟩, ⟨(.fa 0), [.v 2], some 34, none⟩, ⟨(.load none), [.m 34], some 35, none⟩, ⟨(.cint .i64), [.m 35], some 36, none⟩, ⟨.mv, [.m 5], some 37, none⟩, ⟨.len, [.m 37], some 38, none⟩, ⟨(.bin .rem .i), [.m 36, .m 38], some 39, none⟩, ⟨(.ia 1), [.v 33, .m 39], some 40, none⟩, ⟨(.load none), [.m 40], some 41, none⟩, ⟨(.build [.u8 (0 : UInt8), .u32 (0 : UInt32), .s [], .s []] [(0, 1)]), [.m 41], some 42, none⟩, ⟨(.alloc [.u8 (0 : UInt8), .u32 (0 : UInt32), .s [], .s []]), [], some 8, none⟩, ⟨(.store 4), [.v 8, .m 42], none, none⟩] none)
(.seq (.seq (.reg [⟨(.fa 0), [.v 8], some 43, none⟩, ⟨(.load none), [.m 43], some 44, none⟩, ⟨(.call (some 12) 2), [.m 44], some 45, none⟩] none)
(.block 2 (.seq (.reg [⟨(.bin .eql .i), [.v 45, .k (.n .i64 1)], some 47, none⟩, ⟨.mv, [.m 47], some 46, none⟩] none)
(.cond 46 (.drop [33, 45, 46] (.reg [⟨(.fa 1), [.m 2], some 48, none⟩, ⟨(.load none), [.m 48], some 49, none⟩, ⟨(.bin .rem .i), [.m 49, .k (.u32 (2 : UInt32))], some 50, none⟩, ⟨(.fa 1), [.v 8], some 51, none⟩, ⟨(.store 1), [.m 51, .m 50], none, none⟩] none))
(.drop [33, 46] (.seq (.reg [⟨(.bin .eql .i), [.v 45, .k (.n .i64 2)], some 53, none⟩, ⟨.mv, [.m 53], some 52, none⟩] none)
(.cond 52 (.drop [45, 52] (.reg [⟨(.fa 1), [.m 2], some 54, none⟩, ⟨(.load none), [.m 54], some 55, none⟩, ⟨(.bin .rem .i), [.m 55, .k (.u32 (65535 : UInt32))], some 56, none⟩, ⟨(.bin .add .i), [.k (.u32 (1 : UInt32)), .m 56], some 57, none⟩, ⟨(.fa 1), [.v 8], some 58, none⟩, ⟨(.store 1), [.m 58, .m 57], none, none⟩] none))
(.drop [52] (.seq (.reg [⟨(.bin .eql .i), [.v 45, .k (.n .i64 3)], some 60, none⟩, ⟨.mv, [.m 60], some 59, none⟩] none)
(.cond 59 (.drop [45, 59] (.seq (.reg [⟨(.fa 1), [.m 2], some 61, none⟩, ⟨(.load none), [.m 61], some 62, none⟩, ⟨(.fa 1), [.v 8], some 63, none⟩, ⟨(.store 1), [.m 63, .m 62], none, none⟩] none)
(.seq (.reg [⟨(.fa 0), [.v 8], some 64, none⟩, ⟨(.load none), [.m 64], some 65, none⟩, ⟨(.bin .eql .i), [.m 65, .k (.u8 (39 : UInt8))], some 66, none⟩, ⟨.mv, [.m 66], some 67, none⟩, ⟨(.fa 1), [.v 8], some 68, some (67, true)⟩, ⟨(.load none), [.m 68], some 69, some (67, true)⟩, ⟨(.bin .eql .i), [.m 69, .k (.u32 (0 : UInt32))], some 70, some (67, true)⟩, ⟨.pick, [.m 67, .m 70, .k (.b false)], some 71, none⟩] none)
(.drop [68, 69] (.cond 71 (.drop [71] (.reg [⟨(.fa 1), [.v 8], some 72, none⟩, ⟨(.store 1), [.m 72, .k (.u32 (7 : UInt32))], none, none⟩] none))
(.drop [71] .skip))))))
(.drop [59] (.seq (.reg [⟨(.bin .eql .i), [.v 45, .k (.n .i64 4)], some 74, none⟩, ⟨.mv, [.m 74], some 73, none⟩] none)
(.cond 73 (.drop [45, 73] (.reg [⟨(.fa 1), [.m 2], some 75, none⟩, ⟨(.load none), [.m 75], some 76, none⟩, ⟨(.bin .rem .i), [.m 76, .k (.u32 (268435455 : UInt32))], some 77, none⟩, ⟨(.bin .add .i), [.k (.u32 (1 : UInt32)), .m 77], some 78, none⟩, ⟨(.fa 1), [.v 8], some 79, none⟩, ⟨(.store 1), [.m 79, .m 78], none, none⟩] none))
(.drop [73] (.seq (.reg [⟨(.bin .eql .i), [.v 45, .k (.n .i64 5)], some 81, none⟩, ⟨.mv, [.m 81], some 80, none⟩] none)
(.cond 80 (.drop [45, 80] (.seq (.reg [⟨(.fa 2), [.v 2], some 82, none⟩, ⟨(.load none), [.m 82], some 83, none⟩, ⟨(.call (some 44) 3), [.m 83], some 84, none⟩, ⟨(.fa 2), [.v 8], some 85, none⟩, ⟨(.store 1), [.m 85, .m 84], none, none⟩] none)
(.seq (.reg [⟨(.fa 0), [.v 8], some 86, none⟩, ⟨(.load none), [.m 86], some 87, none⟩, ⟨(.bin .eql .i), [.m 87, .k (.u8 (8 : UInt8))], some 88, none⟩] none)
(.cond 88 (.drop [88] (.reg [⟨(.fa 2), [.m 2], some 89, none⟩, ⟨(.load none), [.m 89], some 90, none⟩, ⟨(.call (some 35) 4), [.m 90], some 91, none⟩, ⟨(.fa 2), [.v 8], some 92, none⟩, ⟨(.store 1), [.m 92, .m 91], none, none⟩] none))
(.drop [2, 88] .skip)))))
(.drop [80] (.seq (.reg [⟨(.bin .eql .i), [.v 45, .k (.n .i64 6)], some 94, none⟩, ⟨.mv, [.m 94], some 93, none⟩] none)
(.cond 93 (.drop [45, 93] (.reg [⟨(.fa 2), [.v 2], some 95, none⟩, ⟨(.load none), [.m 95], some 96, none⟩, ⟨(.fa 2), [.m 2], some 97, none⟩, ⟨(.load none), [.m 97], some 98, none⟩, ⟨.lens, [.m 98], some 99, none⟩, ⟨.min, [.m 99, .k (.n .i64 9)], some 100, none⟩, ⟨(.sstr false true), [.m 96, .m 100], some 101, none⟩, ⟨(.fa 2), [.v 8], some 102, none⟩, ⟨(.store 1), [.m 102, .m 101], none, none⟩] none))
(.drop [93] (.seq (.reg [⟨(.bin .eql .i), [.m 45, .k (.n .i64 7)], some 104, none⟩, ⟨.mv, [.m 104], some 103, none⟩] none)
(.cond 103 (.drop [103] (.reg [⟨(.fa 2), [.v 2], some 105, none⟩, ⟨(.load none), [.m 105], some 106, none⟩, ⟨(.call (some 44) 3), [.m 106], some 107, none⟩, ⟨(.fa 3), [.v 2], some 108, none⟩, ⟨(.load none), [.m 108], some 109, none⟩, ⟨(.call (some 44) 3), [.m 109], some 110, none⟩, ⟨(.fa 2), [.v 8], some 111, none⟩, ⟨(.store 1), [.m 111, .m 107], none, none⟩, ⟨(.fa 3), [.v 8], some 112, none⟩, ⟨(.store 1), [.m 112, .m 110], none, none⟩] (some [[], [], [], [], [1, 2], [], [], [], [], []])))
(.drop [2, 103] .skip)))))))))))))))))))))))
(.drop [2] (.seq (.reg [⟨(.load (some 4)), [.m 8], some 113, none⟩, ⟨(.store 4), [.v 4, .m 113], none, none⟩] none)
.ret)))))))))
def r05_Fix_w : Orc Tb := mkOrc (Y := r05_Prop) tab [.g (.st 3), .g (.f (.a (.n .i64)))] [] (fun x h => r05_Fix (⟨x.1.Id, x.1.N, x.1.A, x.1.B⟩ : r05_Prop) x.2.1) (fun _ y k => k (.agg [.u8 y.Id, .u32 y.N, .s y.A, .s y.B]) [])
theorem r05_Fix_k : (r05_Fix_w).Ok Tryd.prog Wp tab 22 := orc_ok (Y := r05_Prop) (orcs := r05_Fix_r) (c := r05_Fix_p) (res := [.cell 4 (some 4)]) (n := 114) (R := (RSp.one (Y := r05_Prop) tab (.g (.st 3)) [] (fun a b => (⟨a.Id, a.N, a.A, a.B⟩ : r05_Prop)) (fun y => (⟨y.Id, y.N, y.A, y.B⟩ : r05_Prop)) (fun y => ()))) tabOk r05_Fix_rk (RSp.one_ok tabOk (fun _ _ => by kernel_rfl) (fun _ _ => by kernel_rfl)) Tryd.func22 (by kernel_rfl) (by kernel_rfl) (by kernel_rfl) (by kernel_rfl) (cS trivial (cS trivial (cS trivial (cS (cS trivial (cB (cT r05_Fix_q0))) (cS (cS trivial (cC (cD (cS trivial trivial)) (cD trivial))) (cS trivial (cS (cS trivial (cB (cS trivial (cC (cD trivial) (cD (cS trivial (cC (cD trivial) (cD (cS trivial (cC (cD (cS trivial (cS trivial (cD (cC (cD trivial) (cD trivial)))))) (cD (cS trivial (cC (cD trivial) (cD (cS trivial (cC (cD (cS trivial (cS trivial (cC (cD trivial) (cD trivial))))) (cD (cS trivial (cC (cD trivial) (cD (cS trivial (cC (cD trivial) (cD trivial))))))))))))))))))))))) (cD (cS trivial trivial))))))))) (fun _ y k => by kernel_rfl) (fun y => by kernel_rfl) (fun x h => by kernel_rfl)
def l05_From_r : Orcs Tb := []
theorem l05_From_rk : OrcsOk Tryd.prog Wp tab l05_From_r := orcs_nil
def l05_From_p : TCode Tb :=
(.seq (.reg [⟨.box, [.m 0], some 1, none⟩, ⟨(.alloc [.u8 (0 : UInt8), .u32 (0 : UInt32), .s [], .s []]), [], some 2, none⟩] none)
(.seq (.reg [⟨(.fa 0), [.v 1], some 3, none⟩, ⟨(.load none), [.m 3], some 4, none⟩, ⟨(.fa 1), [.v 1], some 5, none⟩, ⟨(.load none), [.m 5], some 6, none⟩, ⟨(.fa 2), [.v 1], some 7, none⟩, ⟨(.load none), [.m 7], some 8, none⟩, ⟨(.fa 3), [.m 1], some 9, none⟩, ⟨(.load none), [.m 9], some 10, none⟩, ⟨(.build [.u8 (0 : UInt8), .u32 (0 : UInt32), .s [], .s []] [(0, 1), (1, 1), (2, 1), (3, 1)]), [.m 4, .m 6, .m 8, .m 10], some 11, none⟩, ⟨(.store 4), [.v 2, .m 11], none, none⟩] none)
.ret))
def l05_From_w : Orc Tb := mkOrc (Y := r05_Prop) tab [.g (.st 2)] [] (fun x h => l05_From (⟨x.1.Id, x.1.N, x.1.A, x.1.B⟩ : prop_Prop)) (fun _ y k => k (.agg [.u8 y.Id, .u32 y.N, .s y.A, .s y.B]) [])
theorem l05_From_k : (l05_From_w).Ok Tryd.prog Wp tab 23 := orc_ok (Y := r05_Prop) (orcs := l05_From_r) (c := l05_From_p) (res := [.cell 2 (some 4)]) (n := 12) (R := (RSp.one (Y := r05_Prop) tab (.g (.st 3)) [] (fun a b => (⟨a.Id, a.N, a.A, a.B⟩ : r05_Prop)) (fun y => (⟨y.Id, y.N, y.A, y.B⟩ : r05_Prop)) (fun y => ()))) tabOk l05_From_rk (RSp.one_ok tabOk (fun _ _ => by kernel_rfl) (fun _ _ => by kernel_rfl)) Tryd.func23 (by kernel_rfl) (by kernel_rfl) (by kernel_rfl) (by kernel_rfl) (cS trivial (cS trivial trivial)) (fun _ y k => by kernel_rfl) (fun y => by kernel_rfl) (fun x h => by kernel_rfl)
def l05_PropFixes_r : Orcs Tb := [(22, r05_Fix_w), (18, l05_To_w), (10, l05_told_w), (20, prop_Value_w), (13, prop_For_w), (23, l05_From_w)]
theorem l05_PropFixes_rk : OrcsOk Tryd.prog Wp tab l05_PropFixes_r := (orcs_cons r05_Fix_k (orcs_cons l05_To_k (orcs_cons l05_told_k (orcs_cons prop_Value_k (orcs_cons prop_For_k (orcs_cons l05_From_k orcs_nil))))))
def l05_PropFixes_p : TCode Tb :=
(.seq (.reg [⟨.box, [.m 0], some 2, none⟩, ⟨.mv, [.k (.b false)], some 4, none⟩] none)
(.seq (.reg [⟨.mv, [.m 1], some 7, none⟩, ⟨(.cint .u64), [.m 7], some 8, none⟩, ⟨(.bin .rem .i), [.m 8, .k (.u64 (16 : UInt64))], some 9, none⟩, ⟨(.cint .i64), [.m 9], some 10, none⟩, ⟨(.bin .add .i), [.k (.n .i64 1), .m 10], some 11, none⟩, ⟨.mv, [.m 11], some 5, none⟩] none)
(.seq (.reg [⟨(.load (some 4)), [.v 2], some 12, none⟩, ⟨.mv, [.v 5], some 13, none⟩, ⟨(.call (some 22) 0), [.m 12, .m 13], some 14, none⟩, ⟨(.call (some 18) 1), [.m 14], some 15, none⟩, ⟨(.alloc [.u8 (0 : UInt8), .u32 (0 : UInt32), .s [], .s []]), [], some 6, none⟩, ⟨(.store 4), [.v 6, .m 15], none, none⟩] none)
(.seq (.reg [⟨(.call (some 10) 2), [], some 16, none⟩, ⟨.mv, [.m 16], some 17, none⟩, ⟨(.fa 0), [.v 6], some 18, some (17, true)⟩, ⟨(.load none), [.m 18], some 19, some (17, true)⟩, ⟨(.bin .eql .i), [.m 19, .k (.u8 (0 : UInt8))], some 20, some (17, true)⟩, ⟨.mv, [.v 5], some 21, some (17, true)⟩, ⟨(.bin .eql .i), [.m 21, .k (.n .i64 12)], some 22, some (17, true)⟩, ⟨.mv, [.m 22], some 23, some (17, true)⟩, ⟨.mv, [.v 5], some 24, some (23, false)⟩, ⟨(.bin .eql .i), [.m 24, .k (.n .i64 13)], some 25, some (23, false)⟩, ⟨.pick, [.m 23, .k (.b true), .m 25], some 26, some (17, true)⟩, ⟨(.bin .eql .b), [.m 20, .m 26], some 27, some (17, true)⟩, ⟨.pick, [.m 17, .m 27, .k (.b false)], some 28, none⟩, ⟨.mv, [.m 28], some 29, none⟩, ⟨(.fa 0), [.v 6], some 30, some (29, true)⟩, ⟨(.load none), [.m 30], some 31, some (29, true)⟩, ⟨(.bin .eql .i), [.m 31, .k (.u8 (0 : UInt8))], some 32, some (29, true)⟩, ⟨.mv, [.m 32], some 33, some (29, true)⟩, ⟨(.load (some 4)), [.v 6], some 34, some (33, false)⟩, ⟨(.call (some 20) 3), [.m 34], some 35, some (33, false)⟩, ⟨.mv, [.m 35], some 36, some (33, false)⟩, ⟨(.fa 0), [.v 6], some 37, some (36, true)⟩, ⟨(.load none), [.m 37], some 38, some (36, true)⟩, ⟨.mv, [.v 5], some 39, some (36, true)⟩, ⟨(.call (some 13) 4), [.m 38, .m 39], some 40, some (36, true)⟩, ⟨.pick, [.m 36, .m 40, .k (.b false)], some 41, some (33, false)⟩, ⟨.mv, [.m 41], some 42, some (33, false)⟩, ⟨(.load (some 4)), [.m 6], some 43, some (42, true)⟩, ⟨(.call (some 23) 5), [.m 43], some 44, some (42, true)⟩, ⟨(.load (some 4)), [.m 2], some 45, some (42, true)⟩, ⟨.mv, [.m 5], some 46, some (42, true)⟩, ⟨(.call (some 22) 0), [.m 45, .m 46], some 47, some (42, true)⟩, ⟨(.eqs false [.i, .i, .s, .s]), [.m 44, .m 47], some 48, some (42, true)⟩, ⟨.pick, [.m 42, .m 48, .k (.b false)], some 49, some (33, false)⟩, ⟨.pick, [.m 33, .k (.b true), .m 49], some 50, some (29, true)⟩, ⟨.pick, [.m 29, .m 50, .k (.b false)], some 51, none⟩, ⟨.mv, [.m 51], some 4, none⟩] (some [[], [], [], [], [], [], [], [], [], [], [], [], [], [], [], [], [], [], [], [], [], [], [], [], [], [], [], [], [], [27, 28], [], [], [], [], [], [], []]))
(.drop [2, 5, 6, 18, 19, 20, 21, 22, 23, 24, 25, 26, 30, 31, 32, 33, 34, 35, 36, 37, 38, 39, 40, 41, 42, 43, 44, 45, 46, 47, 48, 49] .ret)))))
def l05_PropFixes_w : Orc Tb := mkOrc (Y := Bool) tab [.g (.st 3), .g (.f (.a (.n .i64)))] [] (fun x h => l05_PropFixes (⟨x.1.Id, x.1.N, x.1.A, x.1.B⟩ : r05_Prop) x.2.1) (fun _ y k => k (.b y) [])
theorem l05_PropFixes_k : (l05_PropFixes_w).Ok Tryd.prog Wp tab 5 := orc_ok (Y := Bool) (orcs := l05_PropFixes_r) (c := l05_PropFixes_p) (res := [.tmp 4]) (n := 52) (R := (RSp.one (Y := Bool) tab (.g (.f (.a .b))) [] (fun a b => a) (fun y => y) (fun y => ()))) tabOk l05_PropFixes_rk (RSp.one_ok tabOk (fun _ _ => by kernel_rfl) (fun _ _ => by kernel_rfl)) Tryd.func5 (by kernel_rfl) (by kernel_rfl) (by kernel_rfl) (by kernel_rfl) (cS trivial (cS trivial (cS trivial (cS trivial (cD trivial))))) (fun _ y k => by kernel_rfl) (fun y => by kernel_rfl) (fun x h => by kernel_rfl)
end Go.Rv
