/- That the program's functions are these plain functions. -/
import Derived.Test.YtpggofndaadeiaaDoorPure
import Derived.Test.YtpggofndaadeiaaDoorChecked
set_option linter.unusedSimpArgs false
set_option linter.unusedVariables false
set_option maxRecDepth 100000
namespace Go.Rv
open Go.Proofs
def Wp : World → Prop := TrydWp
def prop_laterRow_r : Orcs Tb := []
theorem prop_laterRow_rk : OrcsOk Tryd.prog Wp tab prop_laterRow_r := orcs_nil
def prop_laterRow_p1 : TCode Tb :=
(.cond 25 (.drop [2, 7, 25] (.seq (.reg [⟨.mv, [.m 1], some 31, none⟩, ⟨(.ssl 1 true false), [.v 31, .k (.n .i64 1)], some 32, none⟩, ⟨(.build [.n .i64 0, .sl 0 none] [(0, 1), (1, 1)]), [.k (.n .i64 1), .m 32], some 33, none⟩, ⟨(.store 2), [.v 6, .m 33], none, none⟩] none)
.ret))
(.drop [25] (.seq (.reg [⟨(.bin .eql .i), [.v 7, .k (.u8 (38 : UInt8))], some 35, none⟩, ⟨.mv, [.m 35], some 34, none⟩] none)
(.cond 34 (.drop [1, 7, 34] (.seq (.reg [⟨.mv, [.m 2], some 36, none⟩, ⟨(.build [.n .i64 0, .sl 0 none] [(0, 1), (1, 1)]), [.k (.n .i64 7), .m 36], some 37, none⟩, ⟨(.store 2), [.v 6, .m 37], none, none⟩] none)
.ret))
(.drop [2, 34] (.seq (.reg [⟨(.bin .eql .i), [.m 7, .k (.u8 (39 : UInt8))], some 39, none⟩, ⟨.mv, [.m 39], some 38, none⟩] none)
(.cond 38 (.drop [38] (.seq (.reg [⟨.mv, [.m 1], some 40, none⟩, ⟨(.build [.n .i64 0, .sl 0 none] [(0, 1), (1, 1)]), [.k (.n .i64 3), .m 40], some 41, none⟩, ⟨(.store 2), [.v 6, .m 41], none, none⟩] none)
.ret))
(.drop [1, 38] .skip))))))))
def prop_laterRow_s1 : SSh := ⟨[(1, .g (.f (.a (.sl 0)))), (2, .g (.f (.a (.sl 0)))), (6, .g (.f (.ref 0 0))), (7, .g (.f (.a .u8))), (25, .g (.f (.a .b)))], [[.g (.f (.a (.n .i64))), .g (.f (.ow 0))]]⟩
def prop_laterRow_o1 : Cut Tb := cutJ tab 0 prop_laterRow_s1 (fun _ x k => prop_laterRow_c1 x.1.1 x.1.2.1 x.1.2.2.2.1 x.1.2.2.2.2.1 (fun y15 => k .ret ⟨[(6, .ref 0 0), (31, .sl 0 x.1.1)], [[.n .i64 1, .sl 0 y15]]⟩) (fun y16 => k .ret ⟨[(6, .ref 0 0)], [[.n .i64 y16.kind, .sl 0 y16.kinds]]⟩) (k .normal ⟨[(6, .ref 0 0)], [[.n .i64 ((⟨x.2.1.1, x.2.1.2.1⟩ : prop_row).kind), .ow 0 ((⟨x.2.1.1, x.2.1.2.1⟩ : prop_row).kinds)]]⟩))
theorem prop_laterRow_q1 : (prop_laterRow_o1).Ok Tryd.prog Wp tab 0 prop_laterRow_p1 := cutJ_ok (c := prop_laterRow_p1) tabOk prop_laterRow_rk (cC (cD (cS trivial trivial)) (cD (cS trivial (cC (cD (cS trivial trivial)) (cD (cS trivial (cC (cD (cS trivial trivial)) (cD trivial)))))))) (fun _ _ => by kernel_rfl)
def prop_laterRow_p0 : TCode Tb :=
(.cond 16 (.drop [2, 7, 16] (.seq (.reg [⟨.mv, [.m 1], some 19, none⟩, ⟨(.build [.n .i64 0, .sl 0 none] [(0, 1), (1, 1)]), [.k (.n .i64 2), .m 19], some 20, none⟩, ⟨(.store 2), [.v 6, .m 20], none, none⟩] none)
.ret))
(.drop [16] (.seq (.reg [⟨(.bin .eql .i), [.v 7, .k (.u8 (35 : UInt8))], some 22, none⟩, ⟨.mv, [.m 22], some 21, none⟩] none)
(.cond 21 (.drop [1, 2, 7, 21] (.seq (.reg [⟨(.bslice 0 1 (0 : Int) [0]), [.k (.n .i64 3)], some 23, none⟩, ⟨(.build [.n .i64 0, .sl 0 none] [(0, 1), (1, 1)]), [.k (.n .i64 2), .m 23], some 24, none⟩, ⟨(.store 2), [.v 6, .m 24], none, none⟩] none)
.ret))
(.drop [21] (.seq (.seq (.reg [⟨(.bin .eql .i), [.v 7, .k (.u8 (36 : UInt8))], some 26, none⟩, ⟨.mv, [.m 26], some 25, none⟩] none)
(.cond 25 .skip
(.drop [25] (.seq (.reg [⟨(.bin .eql .i), [.v 7, .k (.u8 (37 : UInt8))], some 27, none⟩, ⟨.mv, [.m 27], some 25, none⟩] none)
(.cond 25 .skip
(.drop [25] (.seq (.reg [⟨(.bin .eql .i), [.v 7, .k (.u8 (40 : UInt8))], some 28, none⟩, ⟨.mv, [.m 28], some 25, none⟩] none)
(.cond 25 .skip
(.drop [25] (.seq (.reg [⟨(.bin .eql .i), [.v 7, .k (.u8 (41 : UInt8))], some 29, none⟩, ⟨.mv, [.m 29], some 25, none⟩] none)
(.cond 25 .skip
(.drop [25] (.reg [⟨(.bin .eql .i), [.v 7, .k (.u8 (42 : UInt8))], some 30, none⟩, ⟨.mv, [.m 30], some 25, none⟩] none)))))))))))))
(.cut 0 prop_laterRow_o1 prop_laterRow_p1)))))))
def prop_laterRow_s0 : SSh := ⟨[(1, .g (.f (.a (.sl 0)))), (2, .g (.f (.a (.sl 0)))), (6, .g (.f (.ref 0 0))), (7, .g (.f (.a .u8))), (16, .g (.f (.a .b)))], [[.g (.f (.a (.n .i64))), .g (.f (.ow 0))]]⟩
def prop_laterRow_o0 : Cut Tb := cutJ tab 0 prop_laterRow_s0 (fun _ x k => prop_laterRow_c0 x.1.1 x.1.2.1 x.1.2.2.2.1 x.1.2.2.2.2.1 (fun y27 => k .ret ⟨[(6, .ref 0 0)], [[.n .i64 y27.kind, .sl 0 y27.kinds]]⟩) (fun y28 => k .ret ⟨[(6, .ref 0 0), (31, .sl 0 x.1.1)], [[.n .i64 1, .sl 0 y28]]⟩) (k .normal ⟨[(6, .ref 0 0)], [[.n .i64 ((⟨x.2.1.1, x.2.1.2.1⟩ : prop_row).kind), .ow 0 ((⟨x.2.1.1, x.2.1.2.1⟩ : prop_row).kinds)]]⟩))
theorem prop_laterRow_q0 : (prop_laterRow_o0).Ok Tryd.prog Wp tab 0 prop_laterRow_p0 := cutJ_ok (c := prop_laterRow_p0) tabOk prop_laterRow_rk (cC (cD (cS trivial trivial)) (cD (cS trivial (cC (cD (cS trivial trivial)) (cD (cS (cS trivial (cC trivial (cD (cS trivial (cC trivial (cD (cS trivial (cC trivial (cD (cS trivial (cC trivial (cD trivial)))))))))))) (cT prop_laterRow_q1))))))) (fun _ _ => by kernel_rfl)
def prop_laterRow_p : TCode Tb :=
(.seq (.reg [⟨(.alloc [.n .i64 0, .sl 0 none]), [], some 6, none⟩] none)
(.seq (.seq (.reg [⟨.mv, [.m 0], some 7, none⟩] none)
(.block 0 (.seq (.reg [⟨(.bin .eql .i), [.v 7, .k (.u8 (28 : UInt8))], some 9, none⟩, ⟨.mv, [.m 9], some 8, none⟩] none)
(.cond 8 (.drop [1, 2, 7, 8] (.seq (.reg [⟨(.bslice 0 2 (0 : Int) [0, 1]), [.k (.n .i64 2), .k (.n .i64 14)], some 10, none⟩, ⟨(.build [.n .i64 0, .sl 0 none] [(0, 1), (1, 1)]), [.k (.n .i64 5), .m 10], some 11, none⟩, ⟨(.store 2), [.v 6, .m 11], none, none⟩] none)
.ret))
(.drop [8] (.seq (.reg [⟨(.bin .eql .i), [.v 7, .k (.u8 (31 : UInt8))], some 13, none⟩, ⟨.mv, [.m 13], some 12, none⟩] none)
(.cond 12 (.drop [1, 2, 7, 12] (.seq (.reg [⟨(.bslice 0 9 (0 : Int) [0, 1, 2, 3, 4, 5, 6, 7, 8]), [.k (.n .i64 2), .k (.n .i64 4), .k (.n .i64 5), .k (.n .i64 6), .k (.n .i64 7), .k (.n .i64 9), .k (.n .i64 11), .k (.n .i64 14), .k (.n .i64 15)], some 14, none⟩, ⟨(.build [.n .i64 0, .sl 0 none] [(0, 1), (1, 1)]), [.k (.n .i64 5), .m 14], some 15, none⟩, ⟨(.store 2), [.v 6, .m 15], none, none⟩] none)
.ret))
(.drop [12] (.seq (.seq (.reg [⟨(.bin .eql .i), [.v 7, .k (.u8 (33 : UInt8))], some 17, none⟩, ⟨.mv, [.m 17], some 16, none⟩] none)
(.cond 16 .skip
(.drop [16] (.reg [⟨(.bin .eql .i), [.v 7, .k (.u8 (34 : UInt8))], some 18, none⟩, ⟨.mv, [.m 18], some 16, none⟩] none))))
(.cut 0 prop_laterRow_o0 prop_laterRow_p0))))))))))
(.seq (.reg [⟨(.build [.n .i64 0, .sl 0 none] []), [], some 42, none⟩, ⟨(.store 2), [.v 6, .m 42], none, none⟩] none)
.ret)))
def prop_laterRow_w : Orc Tb := mkOrc (Y := prop_row) tab [.g (.f (.a .u8)), .g (.f (.a (.sl 0))), .g (.f (.a (.sl 0)))] [] (fun x h => prop_laterRow x.1 x.2.1 x.2.2.1) (fun _ y k => k (.agg [.n .i64 y.kind, .sl 0 y.kinds]) [])
theorem prop_laterRow_k : (prop_laterRow_w).Ok Tryd.prog Wp tab 54 := orc_ok (Y := prop_row) (orcs := prop_laterRow_r) (c := prop_laterRow_p) (res := [.cell 6 (some 2)]) (n := 43) (R := (RSp.one (Y := prop_row) tab (.g (.st 1)) [] (fun a b => (⟨a.kind, a.kinds⟩ : prop_row)) (fun y => (⟨y.kind, y.kinds⟩ : prop_row)) (fun y => ()))) tabOk prop_laterRow_rk (RSp.one_ok tabOk (fun _ _ => by kernel_rfl) (fun _ _ => by kernel_rfl)) Tryd.func54 (by kernel_rfl) (by kernel_rfl) (by kernel_rfl) (by kernel_rfl) (cS trivial (cS (cS trivial (cB (cS trivial (cC (cD (cS trivial trivial)) (cD (cS trivial (cC (cD (cS trivial trivial)) (cD (cS (cS trivial (cC trivial (cD trivial))) (cT prop_laterRow_q0)))))))))) (cS trivial trivial))) (fun _ y k => by kernel_rfl) (fun y => by kernel_rfl) (fun x h => by kernel_rfl)
def prop_rowOf_r : Orcs Tb := [(54, prop_laterRow_w)]
theorem prop_rowOf_rk : OrcsOk Tryd.prog Wp tab prop_rowOf_r := (orcs_cons prop_laterRow_k orcs_nil)
def prop_rowOf_p0 : TCode Tb :=
(.seq (.seq (.reg [⟨.mv, [.v 6], some 10, none⟩, ⟨(.bin .leq .i), [.m 10, .k (.n .i64 16)], some 11, none⟩] none)
(.cond 11 (.drop [11] .skip)
(.drop [6, 11] (.exit 0))))
(.seq (.block 1 (.seq (.reg [⟨.mv, [.v 6], some 14, none⟩, ⟨(.bin .neq .i), [.m 14, .k (.n .i64 12)], some 15, none⟩, ⟨.mv, [.m 15], some 16, none⟩, ⟨.mv, [.v 6], some 17, some (16, true)⟩, ⟨(.bin .neq .i), [.m 17, .k (.n .i64 13)], some 18, some (16, true)⟩, ⟨.pick, [.m 16, .m 18, .k (.b false)], some 19, none⟩] none)
(.drop [17] (.cond 19 (.drop [19] (.reg [⟨.mv, [.m 5], some 20, none⟩, ⟨.mv, [.v 6], some 21, none⟩, ⟨(.bslice 0 1 (0 : Int) [0]), [.m 21], some 22, none⟩, ⟨(.app 1 8), [.m 20, .m 22], some 23, none⟩, ⟨.mv, [.m 23], some 5, none⟩] none))
(.drop [19] .skip)))))
(.reg [⟨.mv, [.m 6], some 12, none⟩, ⟨(.bin .add .i), [.m 12, .k (.n .i64 1)], some 13, none⟩, ⟨.mv, [.m 13], some 6, none⟩] none)))
def prop_rowOf_s0 : SSh := ⟨[(0, .g (.f (.a .u8))), (2, .g (.f (.ref 0 0))), (3, .g (.f (.ow 0))), (4, .g (.f (.ow 0))), (5, .g (.f (.ow 0))), (6, .g (.f (.a (.n .i64))))], [[.g (.f (.a (.n .i64))), .g (.f (.ow 0))]]⟩
def prop_rowOf_o0 : Cut Tb := cutL tab 0 prop_rowOf_s0 (fun x => (x.1.2.2.2.2.1, x.1.2.2.2.2.2.1)) (fun x => prop_rowOf_l0) (fun _ x y k => k (.exit 0) ⟨[(0, .u8 x.1.1), (2, .ref 0 0), (3, .ow 0 x.1.2.2.1), (4, .ow 0 x.1.2.2.2.1), (5, .ow 0 y)], [[.n .i64 ((⟨x.2.1.1, x.2.1.2.1⟩ : prop_row).kind), .ow 0 ((⟨x.2.1.1, x.2.1.2.1⟩ : prop_row).kinds)]]⟩)
theorem prop_rowOf_q0 : (prop_rowOf_o0).Ok Tryd.prog Wp tab 0 (.loop prop_rowOf_p0) := cutL_ok (c := prop_rowOf_p0) (Z := (Option (List Int)) × Int) (Y := (Option (List Int))) tabOk prop_rowOf_rk (cS (cS trivial (cC (cD trivial) (cD trivial))) (cS (cB (cS trivial (cD (cC (cD trivial) (cD trivial))))) trivial)) (fun _ x z b e => prop_rowOf_b0 z.1 z.2 (fun x5 x6 => b (x5, x6)) (fun y9 => e y9)) (fun x z => ⟨[(0, .u8 x.1.1), (2, .ref 0 0), (3, .ow 0 x.1.2.2.1), (4, .ow 0 x.1.2.2.2.1), (5, .ow 0 z.1), (6, .n .i64 z.2)], [[.n .i64 ((⟨x.2.1.1, x.2.1.2.1⟩ : prop_row).kind), .ow 0 ((⟨x.2.1.1, x.2.1.2.1⟩ : prop_row).kinds)]]⟩) (fun x y => ((.exit 0), ⟨[(0, .u8 x.1.1), (2, .ref 0 0), (3, .ow 0 x.1.2.2.1), (4, .ow 0 x.1.2.2.2.1), (5, .ow 0 y)], [[.n .i64 ((⟨x.2.1.1, x.2.1.2.1⟩ : prop_row).kind), .ow 0 ((⟨x.2.1.1, x.2.1.2.1⟩ : prop_row).kinds)]]⟩)) (fun t => (prjS tab 0 prop_rowOf_s0 t).bind fun x => some (x.1.2.2.2.2.1, x.1.2.2.2.2.2.1)) (fun e t => (if eqE e (.exit 0) then (prjS tab 0 ⟨[(0, .g (.f (.a .u8))), (2, .g (.f (.ref 0 0))), (3, .g (.f (.ow 0))), (4, .g (.f (.ow 0))), (5, .g (.f (.ow 0)))], [[.g (.f (.a (.n .i64))), .g (.f (.ow 0))]]⟩ t).bind fun v => some v.1.2.2.2.2.1 else none)) (fun x => by kernel_rfl) (fun x z => by kernel_rfl) (fun x y k => by kernel_rfl) (fun x y => by exact nofun) (fun x z => by kernel_rfl) (fun x y => by kernel_rfl) (fun x z k => by kernel_rfl)
def prop_rowOf_p3 : TCode Tb :=
(.cond 75 (.drop [0, 3, 5, 24, 75] (.seq (.reg [⟨.mv, [.m 4], some 78, none⟩, ⟨(.ssl 1 false true), [.v 78, .k (.n .i64 1)], some 79, none⟩, ⟨(.build [.n .i64 0, .sl 0 none] [(0, 1), (1, 1)]), [.k (.n .i64 1), .m 79], some 80, none⟩, ⟨(.store 2), [.v 2, .m 80], none, none⟩] none)
.ret))
(.drop [75] (.seq (.reg [⟨(.bin .eql .i), [.m 24, .k (.u8 (24 : UInt8))], some 82, none⟩, ⟨.mv, [.m 82], some 81, none⟩] none)
(.cond 81 (.drop [0, 4, 5, 81] (.seq (.reg [⟨.mv, [.m 3], some 83, none⟩, ⟨(.ssl 1 true false), [.v 83, .k (.n .i64 1)], some 84, none⟩, ⟨(.build [.n .i64 0, .sl 0 none] [(0, 1), (1, 1)]), [.k (.n .i64 3), .m 84], some 85, none⟩, ⟨(.store 2), [.v 2, .m 85], none, none⟩] none)
.ret))
(.drop [3, 81] .skip)))))
def prop_rowOf_s3 : SSh := ⟨[(0, .g (.f (.a .u8))), (2, .g (.f (.ref 0 0))), (3, .g (.f (.ow 0))), (4, .g (.f (.ow 0))), (5, .g (.f (.ow 0))), (24, .g (.f (.a .u8))), (75, .g (.f (.a .b)))], [[.g (.f (.a (.n .i64))), .g (.f (.ow 0))]]⟩
def prop_rowOf_o3 : Cut Tb := cutJ tab 0 prop_rowOf_s3 (fun _ x k => prop_rowOf_c3 x.1.2.2.1 x.1.2.2.2.1 x.1.2.2.2.2.2.1 x.1.2.2.2.2.2.2.1 (fun y39 => k .ret ⟨[(2, .ref 0 0), (78, .ow 0 x.1.2.2.2.1)], [[.n .i64 1, .sl 0 y39]]⟩) (fun y40 => k .ret ⟨[(2, .ref 0 0), (83, .ow 0 x.1.2.2.1)], [[.n .i64 3, .sl 0 y40]]⟩) (k .normal ⟨[(0, .u8 x.1.1), (2, .ref 0 0), (4, .ow 0 x.1.2.2.2.1), (5, .ow 0 x.1.2.2.2.2.1)], [[.n .i64 ((⟨x.2.1.1, x.2.1.2.1⟩ : prop_row).kind), .ow 0 ((⟨x.2.1.1, x.2.1.2.1⟩ : prop_row).kinds)]]⟩))
theorem prop_rowOf_q3 : (prop_rowOf_o3).Ok Tryd.prog Wp tab 0 prop_rowOf_p3 := cutJ_ok (c := prop_rowOf_p3) tabOk prop_rowOf_rk (cC (cD (cS trivial trivial)) (cD (cS trivial (cC (cD (cS trivial trivial)) (cD trivial))))) (fun _ _ => by kernel_rfl)
def prop_rowOf_p2 : TCode Tb :=
(.cond 52 (.drop [0, 3, 5, 24, 52] (.seq (.reg [⟨.mv, [.m 4], some 55, none⟩, ⟨(.ssl 1 true false), [.v 55, .k (.n .i64 1)], some 56, none⟩, ⟨(.build [.n .i64 0, .sl 0 none] [(0, 1), (1, 1)]), [.k (.n .i64 5), .m 56], some 57, none⟩, ⟨(.store 2), [.v 2, .m 57], none, none⟩] none)
.ret))
(.drop [52] (.seq (.reg [⟨(.bin .eql .i), [.v 24, .k (.u8 (19 : UInt8))], some 59, none⟩, ⟨.mv, [.m 59], some 58, none⟩] none)
(.cond 58 (.drop [0, 3, 5, 24, 58] (.seq (.reg [⟨.mv, [.m 4], some 60, none⟩, ⟨(.ssl 1 true false), [.v 60, .k (.n .i64 1)], some 61, none⟩, ⟨(.build [.n .i64 0, .sl 0 none] [(0, 1), (1, 1)]), [.k (.n .i64 2), .m 61], some 62, none⟩, ⟨(.store 2), [.v 2, .m 62], none, none⟩] none)
.ret))
(.drop [58] (.seq (.reg [⟨(.bin .eql .i), [.v 24, .k (.u8 (21 : UInt8))], some 64, none⟩, ⟨.mv, [.m 64], some 63, none⟩] none)
(.cond 63 (.drop [0, 3, 5, 24, 63] (.seq (.reg [⟨.mv, [.m 4], some 65, none⟩, ⟨(.bslice 0 1 (0 : Int) [0]), [.k (.n .i64 15)], some 66, none⟩, ⟨(.app 1 8), [.m 65, .m 66], some 67, none⟩, ⟨(.build [.n .i64 0, .sl 0 none] [(0, 1), (1, 1)]), [.k (.n .i64 5), .m 67], some 68, none⟩, ⟨(.store 2), [.v 2, .m 68], none, none⟩] none)
.ret))
(.drop [63] (.seq (.reg [⟨(.bin .eql .i), [.v 24, .k (.u8 (22 : UInt8))], some 70, none⟩, ⟨.mv, [.m 70], some 69, none⟩] none)
(.cond 69 (.drop [0, 3, 5, 24, 69] (.seq (.reg [⟨.mv, [.m 4], some 71, none⟩, ⟨(.bslice 0 1 (0 : Int) [0]), [.k (.n .i64 15)], some 72, none⟩, ⟨(.app 1 8), [.m 71, .m 72], some 73, none⟩, ⟨(.build [.n .i64 0, .sl 0 none] [(0, 1), (1, 1)]), [.k (.n .i64 6), .m 73], some 74, none⟩, ⟨(.store 2), [.v 2, .m 74], none, none⟩] none)
.ret))
(.drop [69] (.seq (.seq (.reg [⟨(.bin .eql .i), [.v 24, .k (.u8 (23 : UInt8))], some 76, none⟩, ⟨.mv, [.m 76], some 75, none⟩] none)
(.cond 75 .skip
(.drop [75] (.reg [⟨(.bin .eql .i), [.v 24, .k (.u8 (25 : UInt8))], some 77, none⟩, ⟨.mv, [.m 77], some 75, none⟩] none))))
(.cut 0 prop_rowOf_o3 prop_rowOf_p3)))))))))))))
def prop_rowOf_s2 : SSh := ⟨[(0, .g (.f (.a .u8))), (2, .g (.f (.ref 0 0))), (3, .g (.f (.ow 0))), (4, .g (.f (.ow 0))), (5, .g (.f (.ow 0))), (24, .g (.f (.a .u8))), (52, .g (.f (.a .b)))], [[.g (.f (.a (.n .i64))), .g (.f (.ow 0))]]⟩
def prop_rowOf_o2 : Cut Tb := cutJ tab 0 prop_rowOf_s2 (fun _ x k => prop_rowOf_c2 x.1.2.2.1 x.1.2.2.2.1 x.1.2.2.2.2.2.1 x.1.2.2.2.2.2.2.1 (fun y45 => k .ret ⟨[(2, .ref 0 0), (55, .ow 0 x.1.2.2.2.1)], [[.n .i64 5, .sl 0 y45]]⟩) (fun y46 => k .ret ⟨[(2, .ref 0 0), (60, .ow 0 x.1.2.2.2.1)], [[.n .i64 2, .sl 0 y46]]⟩) (fun y47 => k .ret ⟨[(2, .ref 0 0)], [[.n .i64 y47.kind, .sl 0 y47.kinds]]⟩) (fun y48 => k .ret ⟨[(2, .ref 0 0), (78, .ow 0 x.1.2.2.2.1)], [[.n .i64 1, .sl 0 y48]]⟩) (fun y49 => k .ret ⟨[(2, .ref 0 0), (83, .ow 0 x.1.2.2.1)], [[.n .i64 3, .sl 0 y49]]⟩) (k .normal ⟨[(0, .u8 x.1.1), (2, .ref 0 0), (4, .ow 0 x.1.2.2.2.1), (5, .ow 0 x.1.2.2.2.2.1)], [[.n .i64 ((⟨x.2.1.1, x.2.1.2.1⟩ : prop_row).kind), .ow 0 ((⟨x.2.1.1, x.2.1.2.1⟩ : prop_row).kinds)]]⟩))
theorem prop_rowOf_q2 : (prop_rowOf_o2).Ok Tryd.prog Wp tab 0 prop_rowOf_p2 := cutJ_ok (c := prop_rowOf_p2) tabOk prop_rowOf_rk (cC (cD (cS trivial trivial)) (cD (cS trivial (cC (cD (cS trivial trivial)) (cD (cS trivial (cC (cD (cS trivial trivial)) (cD (cS trivial (cC (cD (cS trivial trivial)) (cD (cS (cS trivial (cC trivial (cD trivial))) (cT prop_rowOf_q3))))))))))))) (fun _ _ => by kernel_rfl)
def prop_rowOf_p1 : TCode Tb :=
(.cond 33 (.drop [0, 4, 5, 24, 33] (.seq (.reg [⟨.mv, [.m 3], some 36, none⟩, ⟨(.build [.n .i64 0, .sl 0 none] [(0, 1), (1, 1)]), [.k (.n .i64 5), .m 36], some 37, none⟩, ⟨(.store 2), [.v 2, .m 37], none, none⟩] none)
.ret))
(.drop [33] (.seq (.reg [⟨(.bin .eql .i), [.v 24, .k (.u8 (9 : UInt8))], some 39, none⟩, ⟨.mv, [.m 39], some 38, none⟩] none)
(.cond 38 (.drop [0, 4, 5, 24, 38] (.seq (.reg [⟨.mv, [.m 3], some 40, none⟩, ⟨(.build [.n .i64 0, .sl 0 none] [(0, 1), (1, 1)]), [.k (.n .i64 6), .m 40], some 41, none⟩, ⟨(.store 2), [.v 2, .m 41], none, none⟩] none)
.ret))
(.drop [38] (.seq (.reg [⟨(.bin .eql .i), [.v 24, .k (.u8 (11 : UInt8))], some 43, none⟩, ⟨.mv, [.m 43], some 42, none⟩] none)
(.cond 42 (.drop [0, 3, 4, 5, 24, 42] (.seq (.reg [⟨(.bslice 0 2 (0 : Int) [0, 1]), [.k (.n .i64 3), .k (.n .i64 8)], some 44, none⟩, ⟨(.build [.n .i64 0, .sl 0 none] [(0, 1), (1, 1)]), [.k (.n .i64 4), .m 44], some 45, none⟩, ⟨(.store 2), [.v 2, .m 45], none, none⟩] none)
.ret))
(.drop [42] (.seq (.reg [⟨(.bin .eql .i), [.v 24, .k (.u8 (17 : UInt8))], some 47, none⟩, ⟨.mv, [.m 47], some 46, none⟩] none)
(.cond 46 (.drop [0, 3, 5, 24, 46] (.seq (.reg [⟨.mv, [.m 4], some 48, none⟩, ⟨(.bslice 0 1 (0 : Int) [0]), [.k (.n .i64 14)], some 49, none⟩, ⟨(.app 1 8), [.m 48, .m 49], some 50, none⟩, ⟨(.build [.n .i64 0, .sl 0 none] [(0, 1), (1, 1)]), [.k (.n .i64 3), .m 50], some 51, none⟩, ⟨(.store 2), [.v 2, .m 51], none, none⟩] none)
.ret))
(.drop [46] (.seq (.seq (.reg [⟨(.bin .eql .i), [.v 24, .k (.u8 (18 : UInt8))], some 53, none⟩, ⟨.mv, [.m 53], some 52, none⟩] none)
(.cond 52 .skip
(.drop [52] (.reg [⟨(.bin .eql .i), [.v 24, .k (.u8 (26 : UInt8))], some 54, none⟩, ⟨.mv, [.m 54], some 52, none⟩] none))))
(.cut 0 prop_rowOf_o2 prop_rowOf_p2)))))))))))))
def prop_rowOf_s1 : SSh := ⟨[(0, .g (.f (.a .u8))), (2, .g (.f (.ref 0 0))), (3, .g (.f (.ow 0))), (4, .g (.f (.ow 0))), (5, .g (.f (.ow 0))), (24, .g (.f (.a .u8))), (33, .g (.f (.a .b)))], [[.g (.f (.a (.n .i64))), .g (.f (.ow 0))]]⟩
def prop_rowOf_o1 : Cut Tb := cutJ tab 0 prop_rowOf_s1 (fun _ x k => prop_rowOf_c1 x.1.2.2.1 x.1.2.2.2.1 x.1.2.2.2.2.2.1 x.1.2.2.2.2.2.2.1 (fun y60 => k .ret ⟨[(2, .ref 0 0)], [[.n .i64 y60.kind, .sl 0 y60.kinds]]⟩) (fun y61 => k .ret ⟨[(2, .ref 0 0), (55, .ow 0 x.1.2.2.2.1)], [[.n .i64 5, .sl 0 y61]]⟩) (fun y62 => k .ret ⟨[(2, .ref 0 0), (60, .ow 0 x.1.2.2.2.1)], [[.n .i64 2, .sl 0 y62]]⟩) (fun y63 => k .ret ⟨[(2, .ref 0 0), (78, .ow 0 x.1.2.2.2.1)], [[.n .i64 1, .sl 0 y63]]⟩) (fun y64 => k .ret ⟨[(2, .ref 0 0), (83, .ow 0 x.1.2.2.1)], [[.n .i64 3, .sl 0 y64]]⟩) (k .normal ⟨[(0, .u8 x.1.1), (2, .ref 0 0), (4, .ow 0 x.1.2.2.2.1), (5, .ow 0 x.1.2.2.2.2.1)], [[.n .i64 ((⟨x.2.1.1, x.2.1.2.1⟩ : prop_row).kind), .ow 0 ((⟨x.2.1.1, x.2.1.2.1⟩ : prop_row).kinds)]]⟩))
theorem prop_rowOf_q1 : (prop_rowOf_o1).Ok Tryd.prog Wp tab 0 prop_rowOf_p1 := cutJ_ok (c := prop_rowOf_p1) tabOk prop_rowOf_rk (cC (cD (cS trivial trivial)) (cD (cS trivial (cC (cD (cS trivial trivial)) (cD (cS trivial (cC (cD (cS trivial trivial)) (cD (cS trivial (cC (cD (cS trivial trivial)) (cD (cS (cS trivial (cC trivial (cD trivial))) (cT prop_rowOf_q2))))))))))))) (fun _ _ => by kernel_rfl)
def prop_rowOf_p4 : TCode Tb :=
(.seq (.reg [⟨.mv, [.m 0], some 86, none⟩, ⟨.mv, [.m 4], some 87, none⟩, ⟨.mv, [.m 5], some 88, none⟩, ⟨(.call (some 54) 0), [.m 86, .m 87, .m 88], some 89, none⟩, ⟨(.store 2), [.v 2, .m 89], none, none⟩] none)
.ret)
def prop_rowOf_s4 : SSh := ⟨[(0, .g (.f (.a .u8))), (2, .g (.f (.ref 0 0))), (4, .g (.f (.ow 0))), (5, .g (.f (.ow 0)))], [[.g (.f (.a (.n .i64))), .g (.f (.ow 0))]]⟩
def prop_rowOf_o4 : Cut Tb := cutJ tab 0 prop_rowOf_s4 (fun _ x k => prop_rowOf_c4 x.1.1 x.1.2.2.1 x.1.2.2.2.1 (fun y80 => k .ret ⟨[(2, .ref 0 0)], [[.n .i64 y80.kind, .sl 0 y80.kinds]]⟩))
theorem prop_rowOf_q4 : (prop_rowOf_o4).Ok Tryd.prog Wp tab 0 prop_rowOf_p4 := cutJ_ok (c := prop_rowOf_p4) tabOk prop_rowOf_rk (cS trivial trivial) (fun _ _ => by kernel_rfl)
def prop_rowOf_p : TCode Tb :=
(.seq (.reg [⟨(.alloc [.n .i64 0, .sl 0 none]), [], some 2, none⟩] none)
(.seq (.reg [⟨(.bslice 0 2 (0 : Int) [0, 1]), [.k (.n .i64 3), .k (.n .i64 16)], some 7, none⟩, ⟨(.bslice 0 2 (0 : Int) [0, 1]), [.k (.n .i64 1), .k (.n .i64 2)], some 8, none⟩, ⟨(.bslice 0 0 (0 : Int) []), [], some 9, none⟩, ⟨.mv, [.m 7], some 3, none⟩, ⟨.mv, [.m 8], some 4, none⟩, ⟨.mv, [.m 9], some 5, none⟩] none)
(.seq (.seq (.reg [⟨.mv, [.k (.n .i64 1)], some 6, none⟩] none)
(.block 0 (.cut 0 prop_rowOf_o0 (.loop prop_rowOf_p0))))
(.seq (.seq (.reg [⟨.mv, [.v 0], some 24, none⟩] none)
(.block 2 (.seq (.reg [⟨(.bin .eql .i), [.v 24, .k (.u8 (1 : UInt8))], some 26, none⟩, ⟨.mv, [.m 26], some 25, none⟩] none)
(.cond 25 (.drop [0, 4, 5, 24, 25] (.seq (.reg [⟨.mv, [.m 3], some 27, none⟩, ⟨(.build [.n .i64 0, .sl 0 none] [(0, 1), (1, 1)]), [.k (.n .i64 1), .m 27], some 28, none⟩, ⟨(.store 2), [.v 2, .m 28], none, none⟩] none)
.ret))
(.drop [25] (.seq (.reg [⟨(.bin .eql .i), [.v 24, .k (.u8 (2 : UInt8))], some 30, none⟩, ⟨.mv, [.m 30], some 29, none⟩] none)
(.cond 29 (.drop [0, 4, 5, 24, 29] (.seq (.reg [⟨.mv, [.m 3], some 31, none⟩, ⟨(.build [.n .i64 0, .sl 0 none] [(0, 1), (1, 1)]), [.k (.n .i64 3), .m 31], some 32, none⟩, ⟨(.store 2), [.v 2, .m 32], none, none⟩] none)
.ret))
(.drop [29] (.seq (.seq (.reg [⟨(.bin .eql .i), [.v 24, .k (.u8 (3 : UInt8))], some 34, none⟩, ⟨.mv, [.m 34], some 33, none⟩] none)
(.cond 33 .skip
(.drop [33] (.reg [⟨(.bin .eql .i), [.v 24, .k (.u8 (8 : UInt8))], some 35, none⟩, ⟨.mv, [.m 35], some 33, none⟩] none))))
(.cut 0 prop_rowOf_o1 prop_rowOf_p1))))))))))
(.cut 0 prop_rowOf_o4 prop_rowOf_p4)))))
def prop_rowOf_w : Orc Tb := mkOrc (Y := prop_row) tab [.g (.f (.a .u8))] [] (fun x h => prop_rowOf x.1) (fun _ y k => k (.agg [.n .i64 y.kind, .sl 0 y.kinds]) [])
theorem prop_rowOf_k : (prop_rowOf_w).Ok Tryd.prog Wp tab 38 := orc_ok (Y := prop_row) (orcs := prop_rowOf_r) (c := prop_rowOf_p) (res := [.cell 2 (some 2)]) (n := 90) (R := (RSp.one (Y := prop_row) tab (.g (.st 1)) [] (fun a b => (⟨a.kind, a.kinds⟩ : prop_row)) (fun y => (⟨y.kind, y.kinds⟩ : prop_row)) (fun y => ()))) tabOk prop_rowOf_rk (RSp.one_ok tabOk (fun _ _ => by kernel_rfl) (fun _ _ => by kernel_rfl)) Tryd.func38 (by kernel_rfl) (by kernel_rfl) (by kernel_rfl) (by kernel_rfl) (cS trivial (cS trivial (cS (cS trivial (cB (cT prop_rowOf_q0))) (cS (cS trivial (cB (cS trivial (cC (cD (cS trivial trivial)) (cD (cS trivial (cC (cD (cS trivial trivial)) (cD (cS (cS trivial (cC trivial (cD trivial))) (cT prop_rowOf_q1)))))))))) (cT prop_rowOf_q4))))) (fun _ y k => by kernel_rfl) (fun y => by kernel_rfl) (fun x h => by kernel_rfl)
def prop_Type_r : Orcs Tb := [(38, prop_rowOf_w)]
theorem prop_Type_rk : OrcsOk Tryd.prog Wp tab prop_Type_r := (orcs_cons prop_rowOf_k orcs_nil)
def prop_Type_p : TCode Tb :=
(.seq (.reg [⟨.mv, [.k (.n .i64 0)], some 2, none⟩] none)
(.seq (.reg [⟨.mv, [.m 0], some 3, none⟩, ⟨(.call (some 38) 0), [.m 3], some 4, none⟩, ⟨(.fld 0 none), [.m 4], some 5, none⟩, ⟨.mv, [.m 5], some 2, none⟩] none)
.ret))
def prop_Type_w : Orc Tb := mkOrc (Y := Int) tab [.g (.f (.a .u8))] [] (fun x h => prop_Type x.1) (fun _ y k => k (.n .i64 y) [])
theorem prop_Type_k : (prop_Type_w).Ok Tryd.prog Wp tab 11 := orc_ok (Y := Int) (orcs := prop_Type_r) (c := prop_Type_p) (res := [.tmp 2]) (n := 6) (R := (RSp.one (Y := Int) tab (.g (.f (.a (.n .i64)))) [] (fun a b => a) (fun y => y) (fun y => ()))) tabOk prop_Type_rk (RSp.one_ok tabOk (fun _ _ => by kernel_rfl) (fun _ _ => by kernel_rfl)) Tryd.func11 (by kernel_rfl) (by kernel_rfl) (by kernel_rfl) (by kernel_rfl) (cS trivial (cS trivial trivial)) (fun _ y k => by kernel_rfl) (fun y => by kernel_rfl) (fun x h => by kernel_rfl)
def slices_Index_s_int_int_r : Orcs Tb := []
theorem slices_Index_s_int_int_rk : OrcsOk Tryd.prog Wp tab slices_Index_s_int_int_r := orcs_nil
def slices_Index_s_int_int_p0 : TCode Tb :=
(.seq (.reg [⟨(.bin .lss .i), [.v 8, .v 7], some 9, none⟩] none)
(.seq (.cond 9 (.drop [9] .skip)
(.drop [0, 1, 7, 8, 9] (.exit 0)))
(.seq (.block 1 (.seq (.reg [⟨.mv, [.v 8], some 10, none⟩, ⟨.mv, [.m 10], some 5, none⟩] none)
(.seq (.reg [⟨.mv, [.v 1], some 11, none⟩, ⟨.mv, [.v 0], some 12, none⟩, ⟨.mv, [.v 5], some 13, none⟩, ⟨(.ia 1), [.v 12, .m 13], some 14, none⟩, ⟨(.load none), [.m 14], some 15, none⟩, ⟨(.bin .eql .i), [.m 11, .m 15], some 16, none⟩] none)
(.cond 16 (.drop [0, 1, 7, 8, 12, 16] (.seq (.reg [⟨.mv, [.m 5], some 17, none⟩, ⟨.mv, [.m 17], some 4, none⟩] none)
.ret))
(.drop [5, 12, 16] .skip)))))
(.reg [⟨(.bin .add .i), [.m 8, .k (.n .i64 1)], some 18, none⟩, ⟨.mv, [.m 18], some 8, none⟩] none))))
def slices_Index_s_int_int_s0 : SSh := ⟨[(0, .g (.f (.a (.sl 0)))), (1, .g (.f (.a (.n .i64)))), (7, .g (.f (.a (.n .i64)))), (8, .g (.f (.a (.n .i64))))], []⟩
def slices_Index_s_int_int_o0 : Cut Tb := cutL tab 0 slices_Index_s_int_int_s0 (fun x => x.1.2.2.2.1) (fun x => slices_Index_s_int_int_l0 x.1.1 x.1.2.1 x.1.2.2.1) (fun _ x y k => match y with | .inl y => k .ret ⟨[(4, .n .i64 y)], []⟩ | .inr y => k (.exit 0) ⟨[], []⟩)
theorem slices_Index_s_int_int_q0 : (slices_Index_s_int_int_o0).Ok Tryd.prog Wp tab 0 (.loop slices_Index_s_int_int_p0) := cutL_ok (c := slices_Index_s_int_int_p0) (Z := Int) (Y := Int ⊕ Unit) tabOk slices_Index_s_int_int_rk (cS trivial (cS (cC (cD trivial) (cD trivial)) (cS (cB (cS trivial (cS trivial (cC (cD (cS trivial trivial)) (cD trivial))))) trivial))) (fun _ x z b e => slices_Index_s_int_int_b0 x.1.1 x.1.2.1 x.1.2.2.1 z (fun x6 => b x6) (fun y8 => e (.inl y8)) (e (.inr ()))) (fun x z => ⟨[(0, .sl 0 x.1.1), (1, .n .i64 x.1.2.1), (7, .n .i64 x.1.2.2.1), (8, .n .i64 z)], []⟩) (fun x y => match y with | .inl y => (.ret, ⟨[(4, .n .i64 y)], []⟩) | .inr y => ((.exit 0), ⟨[], []⟩)) (fun t => (prjS tab 0 slices_Index_s_int_int_s0 t).bind fun x => some x.1.2.2.2.1) (fun e t => (if eqE e .ret then orElse ((prjS tab 0 ⟨[(4, .g (.f (.a (.n .i64))))], []⟩ t).bind fun v => some (.inl v.1.1)) (if eqE e (.exit 0) then (prjS tab 0 ⟨[], []⟩ t).bind fun v => some (.inr ()) else none) else (if eqE e (.exit 0) then (prjS tab 0 ⟨[], []⟩ t).bind fun v => some (.inr ()) else none))) (fun x => by kernel_rfl) (fun x z => by kernel_rfl) (fun x y k => by rcases y with y | y <;> kernel_rfl) (fun x y => by rcases y with y | y <;> exact nofun) (fun x z => by kernel_rfl) (fun x y => by rcases y with y | y <;> kernel_rfl) (fun x z k => by kernel_rfl)
def slices_Index_s_int_int_p : TCode Tb :=
(.seq (.reg [⟨.mv, [.k (.n .i64 0)], some 4, none⟩] none)
(.seq (.seq (.reg [⟨.mv, [.v 0], some 6, none⟩, ⟨.len, [.m 6], some 7, none⟩, ⟨.mv, [.k (.n .i64 0)], some 8, none⟩] none)
(.block 0 (.drop [4] (.cut 0 slices_Index_s_int_int_o0 (.loop slices_Index_s_int_int_p0)))))
(.seq (.reg [⟨.mv, [.k (.n .i64 (-1))], some 4, none⟩] none)
.ret)))
def slices_Index_s_int_int_w : Orc Tb := mkOrc (Y := Int) tab [.g (.f (.a (.sl 0))), .g (.f (.a (.n .i64)))] [] (fun x h => slices_Index_s_int_int x.1 x.2.1) (fun _ y k => k (.n .i64 y) [])
theorem slices_Index_s_int_int_k : (slices_Index_s_int_int_w).Ok Tryd.prog Wp tab 55 := orc_ok (Y := Int) (orcs := slices_Index_s_int_int_r) (c := slices_Index_s_int_int_p) (res := [.tmp 4]) (n := 19) (R := (RSp.one (Y := Int) tab (.g (.f (.a (.n .i64)))) [] (fun a b => a) (fun y => y) (fun y => ()))) tabOk slices_Index_s_int_int_rk (RSp.one_ok tabOk (fun _ _ => by kernel_rfl) (fun _ _ => by kernel_rfl)) Tryd.func55 (by kernel_rfl) (by kernel_rfl) (by kernel_rfl) (by kernel_rfl) (cS trivial (cS (cS trivial (cB (cD (cT slices_Index_s_int_int_q0)))) (cS trivial trivial))) (fun _ y k => by kernel_rfl) (fun y => by kernel_rfl) (fun x h => by kernel_rfl)
def slices_Contains_s_int_int_r : Orcs Tb := [(55, slices_Index_s_int_int_w)]
theorem slices_Contains_s_int_int_rk : OrcsOk Tryd.prog Wp tab slices_Contains_s_int_int_r := (orcs_cons slices_Index_s_int_int_k orcs_nil)
def slices_Contains_s_int_int_p : TCode Tb :=
(.seq (.reg [⟨.mv, [.k (.b false)], some 4, none⟩] none)
(.seq (.reg [⟨.mv, [.m 0], some 5, none⟩, ⟨.mv, [.m 1], some 6, none⟩, ⟨(.call (some 55) 0), [.m 5, .m 6], some 7, none⟩, ⟨(.bin .geq .i), [.m 7, .k (.n .i64 0)], some 8, none⟩, ⟨.mv, [.m 8], some 4, none⟩] none)
.ret))
def slices_Contains_s_int_int_w : Orc Tb := mkOrc (Y := Bool) tab [.g (.f (.a (.sl 0))), .g (.f (.a (.n .i64)))] [] (fun x h => slices_Contains_s_int_int x.1 x.2.1) (fun _ y k => k (.b y) [])
theorem slices_Contains_s_int_int_k : (slices_Contains_s_int_int_w).Ok Tryd.prog Wp tab 39 := orc_ok (Y := Bool) (orcs := slices_Contains_s_int_int_r) (c := slices_Contains_s_int_int_p) (res := [.tmp 4]) (n := 9) (R := (RSp.one (Y := Bool) tab (.g (.f (.a .b))) [] (fun a b => a) (fun y => y) (fun y => ()))) tabOk slices_Contains_s_int_int_rk (RSp.one_ok tabOk (fun _ _ => by kernel_rfl) (fun _ _ => by kernel_rfl)) Tryd.func39 (by kernel_rfl) (by kernel_rfl) (by kernel_rfl) (by kernel_rfl) (cS trivial (cS trivial trivial)) (fun _ y k => by kernel_rfl) (fun y => by kernel_rfl) (fun x h => by kernel_rfl)
def prop_For_r : Orcs Tb := [(38, prop_rowOf_w), (39, slices_Contains_s_int_int_w)]
theorem prop_For_rk : OrcsOk Tryd.prog Wp tab prop_For_r := (orcs_cons prop_rowOf_k (orcs_cons slices_Contains_s_int_int_k orcs_nil))
def prop_For_p : TCode Tb :=
(.seq (.reg [⟨.mv, [.k (.b false)], some 4, none⟩] none)
(.seq (.reg [⟨.mv, [.m 0], some 5, none⟩, ⟨(.call (some 38) 0), [.m 5], some 6, none⟩, ⟨(.fld 1 none), [.m 6], some 7, none⟩, ⟨.mv, [.m 1], some 8, none⟩, ⟨(.call (some 39) 1), [.m 7, .m 8], some 9, none⟩, ⟨.mv, [.m 9], some 4, none⟩] none)
.ret))
def prop_For_w : Orc Tb := mkOrc (Y := Bool) tab [.g (.f (.a .u8)), .g (.f (.a (.n .i64)))] [] (fun x h => prop_For x.1 x.2.1) (fun _ y k => k (.b y) [])
theorem prop_For_k : (prop_For_w).Ok Tryd.prog Wp tab 13 := orc_ok (Y := Bool) (orcs := prop_For_r) (c := prop_For_p) (res := [.tmp 4]) (n := 10) (R := (RSp.one (Y := Bool) tab (.g (.f (.a .b))) [] (fun a b => a) (fun y => y) (fun y => ()))) tabOk prop_For_rk (RSp.one_ok tabOk (fun _ _ => by kernel_rfl) (fun _ _ => by kernel_rfl)) Tryd.func13 (by kernel_rfl) (by kernel_rfl) (by kernel_rfl) (by kernel_rfl) (cS trivial (cS trivial trivial)) (fun _ y k => by kernel_rfl) (fun y => by kernel_rfl) (fun x h => by kernel_rfl)
def utf8_ValidString_w : Orc Tb := mkOrc (Y := Bool) tab [.g (.f (.a .s))] [] (fun x h => utf8_ValidString x.1) (fun _ y k => k (.b y) [])
theorem utf8_ValidString_k : (utf8_ValidString_w).Ok Tryd.prog Wp tab 56 := lw_ValidString tabOk (by kernel_rfl) (fun _ h => h.1) Tryd.utf8_ValidString
def strings_Contains_w : Orc Tb := mkOrc (Y := Bool) tab [.g (.f (.a .s)), .g (.f (.a .s))] [] (fun x h => strings_Contains x.1 x.2.1) (fun _ y k => k (.b y) [])
theorem strings_Contains_k : (strings_Contains_w).Ok Tryd.prog Wp tab 57 := lw_Contains tabOk (by kernel_rfl) Tryd.strings_Contains_one
def text_Right_r : Orcs Tb := [(56, utf8_ValidString_w), (57, strings_Contains_w)]
theorem text_Right_rk : OrcsOk Tryd.prog Wp tab text_Right_r := (orcs_cons utf8_ValidString_k (orcs_cons strings_Contains_k orcs_nil))
def text_Right_p : TCode Tb :=
(.seq (.reg [⟨.mv, [.k (.b false)], some 2, none⟩] none)
(.seq (.reg [⟨.mv, [.v 0], some 3, none⟩, ⟨.lens, [.m 3], some 4, none⟩, ⟨(.bin .leq .i), [.m 4, .k (.n .i64 65535)], some 5, none⟩, ⟨.mv, [.m 5], some 6, none⟩, ⟨.mv, [.v 0], some 7, some (6, true)⟩, ⟨(.call (some 56) 0), [.m 7], some 8, some (6, true)⟩, ⟨.pick, [.m 6, .m 8, .k (.b false)], some 9, none⟩, ⟨.mv, [.m 9], some 10, none⟩, ⟨.mv, [.m 0], some 11, some (10, true)⟩, ⟨(.call (some 57) 1), [.m 11, .k (.s [0])], some 12, some (10, true)⟩, ⟨(.un .not), [.m 12], some 13, some (10, true)⟩, ⟨.pick, [.m 10, .m 13, .k (.b false)], some 14, none⟩, ⟨.mv, [.m 14], some 2, none⟩] none)
(.drop [0, 7, 11, 12] .ret)))
def text_Right_w : Orc Tb := mkOrc (Y := Bool) tab [.g (.f (.a .s))] [] (fun x h => text_Right x.1) (fun _ y k => k (.b y) [])
theorem text_Right_k : (text_Right_w).Ok Tryd.prog Wp tab 41 := orc_ok (Y := Bool) (orcs := text_Right_r) (c := text_Right_p) (res := [.tmp 2]) (n := 15) (R := (RSp.one (Y := Bool) tab (.g (.f (.a .b))) [] (fun a b => a) (fun y => y) (fun y => ()))) tabOk text_Right_rk (RSp.one_ok tabOk (fun _ _ => by kernel_rfl) (fun _ _ => by kernel_rfl)) Tryd.func41 (by kernel_rfl) (by kernel_rfl) (by kernel_rfl) (by kernel_rfl) (cS trivial (cS trivial (cD trivial))) (fun _ y k => by kernel_rfl) (fun y => by kernel_rfl) (fun x h => by kernel_rfl)
def prop_Right_r : Orcs Tb := [(11, prop_Type_w), (41, text_Right_w)]
theorem prop_Right_rk : OrcsOk Tryd.prog Wp tab prop_Right_r := (orcs_cons prop_Type_k (orcs_cons text_Right_k orcs_nil))
def prop_Right_p0 : TCode Tb :=
(.seq (.seq (.reg [⟨(.fa 0), [.v 1], some 16, none⟩, ⟨(.load none), [.m 16], some 17, none⟩, ⟨(.call (some 11) 0), [.m 17], some 18, none⟩] none)
(.block 0 (.seq (.reg [⟨(.bin .eql .i), [.v 18, .k (.n .i64 1)], some 20, none⟩, ⟨.mv, [.m 20], some 19, none⟩] none)
(.cond 19 (.drop [4, 18, 19] (.seq (.reg [⟨(.fa 1), [.m 1], some 21, none⟩, ⟨(.load none), [.m 21], some 22, none⟩, ⟨(.bin .lss .i), [.m 22, .k (.u32 (256 : UInt32))], some 23, none⟩, ⟨.mv, [.m 23], some 24, none⟩, ⟨.mv, [.m 3], some 25, some (24, true)⟩, ⟨.pick, [.m 24, .m 25, .k (.b false)], some 26, none⟩, ⟨.mv, [.m 26], some 2, none⟩] none)
(.drop [3] .ret)))
(.drop [19] (.seq (.reg [⟨(.bin .eql .i), [.v 18, .k (.n .i64 2)], some 28, none⟩, ⟨.mv, [.m 28], some 27, none⟩] none)
(.cond 27 (.drop [4, 18, 27] (.seq (.reg [⟨(.fa 1), [.m 1], some 29, none⟩, ⟨(.load none), [.m 29], some 30, none⟩, ⟨(.bin .lss .i), [.m 30, .k (.u32 (65536 : UInt32))], some 31, none⟩, ⟨.mv, [.m 31], some 32, none⟩, ⟨.mv, [.m 3], some 33, some (32, true)⟩, ⟨.pick, [.m 32, .m 33, .k (.b false)], some 34, none⟩, ⟨.mv, [.m 34], some 2, none⟩] none)
(.drop [3] .ret)))
(.drop [27] (.seq (.reg [⟨(.bin .eql .i), [.v 18, .k (.n .i64 3)], some 36, none⟩, ⟨.mv, [.m 36], some 35, none⟩] none)
(.cond 35 (.drop [1, 4, 18, 35] (.seq (.reg [⟨.mv, [.m 3], some 37, none⟩, ⟨.mv, [.m 37], some 2, none⟩] none)
.ret))
(.drop [35] (.seq (.reg [⟨(.bin .eql .i), [.v 18, .k (.n .i64 4)], some 39, none⟩, ⟨.mv, [.m 39], some 38, none⟩] none)
(.cond 38 (.drop [4, 18, 38] (.seq (.reg [⟨(.fa 1), [.m 1], some 40, none⟩, ⟨(.load none), [.m 40], some 41, none⟩, ⟨(.bin .leq .i), [.m 41, .k (.u32 (268435455 : UInt32))], some 42, none⟩, ⟨.mv, [.m 42], some 43, none⟩, ⟨.mv, [.m 3], some 44, some (43, true)⟩, ⟨.pick, [.m 43, .m 44, .k (.b false)], some 45, none⟩, ⟨.mv, [.m 45], some 2, none⟩] none)
(.drop [3] .ret)))
(.drop [3, 38] (.seq (.reg [⟨(.bin .eql .i), [.v 18, .k (.n .i64 5)], some 47, none⟩, ⟨.mv, [.m 47], some 46, none⟩] none)
(.cond 46 (.drop [18, 46] (.seq (.reg [⟨.mv, [.m 4], some 48, none⟩, ⟨.mv, [.m 48], some 49, none⟩, ⟨(.fa 2), [.v 1], some 50, some (49, true)⟩, ⟨(.load none), [.m 50], some 51, some (49, true)⟩, ⟨(.call (some 41) 1), [.m 51], some 52, some (49, true)⟩, ⟨.pick, [.m 49, .m 52, .k (.b false)], some 53, none⟩, ⟨.mv, [.m 53], some 54, none⟩, ⟨(.fa 3), [.m 1], some 55, some (54, true)⟩, ⟨(.load none), [.m 55], some 56, some (54, true)⟩, ⟨(.bin .eql .s), [.m 56, .k (.s [])], some 57, some (54, true)⟩, ⟨.pick, [.m 54, .m 57, .k (.b false)], some 58, none⟩, ⟨.mv, [.m 58], some 2, none⟩] none)
(.drop [1, 50, 51, 55, 56] .ret)))
(.drop [46] (.seq (.reg [⟨(.bin .eql .i), [.v 18, .k (.n .i64 6)], some 60, none⟩, ⟨.mv, [.m 60], some 59, none⟩] none)
(.cond 59 (.drop [18, 59] (.seq (.reg [⟨.mv, [.m 4], some 61, none⟩, ⟨.mv, [.m 61], some 62, none⟩, ⟨(.fa 2), [.v 1], some 63, some (62, true)⟩, ⟨(.load none), [.m 63], some 64, some (62, true)⟩, ⟨.lens, [.m 64], some 65, some (62, true)⟩, ⟨(.bin .leq .i), [.m 65, .k (.n .i64 65535)], some 66, some (62, true)⟩, ⟨.pick, [.m 62, .m 66, .k (.b false)], some 67, none⟩, ⟨.mv, [.m 67], some 68, none⟩, ⟨(.fa 3), [.m 1], some 69, some (68, true)⟩, ⟨(.load none), [.m 69], some 70, some (68, true)⟩, ⟨(.bin .eql .s), [.m 70, .k (.s [])], some 71, some (68, true)⟩, ⟨.pick, [.m 68, .m 71, .k (.b false)], some 72, none⟩, ⟨.mv, [.m 72], some 2, none⟩] none)
(.drop [1, 63, 64, 65, 69, 70] .ret)))
(.drop [59] (.seq (.reg [⟨(.bin .eql .i), [.m 18, .k (.n .i64 7)], some 74, none⟩, ⟨.mv, [.m 74], some 73, none⟩] none)
(.cond 73 (.drop [73] (.seq (.reg [⟨.mv, [.m 4], some 75, none⟩, ⟨.mv, [.m 75], some 76, none⟩, ⟨(.fa 2), [.v 1], some 77, some (76, true)⟩, ⟨(.load none), [.m 77], some 78, some (76, true)⟩, ⟨(.call (some 41) 1), [.m 78], some 79, some (76, true)⟩, ⟨.pick, [.m 76, .m 79, .k (.b false)], some 80, none⟩, ⟨.mv, [.m 80], some 81, none⟩, ⟨(.fa 3), [.m 1], some 82, some (81, true)⟩, ⟨(.load none), [.m 82], some 83, some (81, true)⟩, ⟨(.call (some 41) 1), [.m 83], some 84, some (81, true)⟩, ⟨.pick, [.m 81, .m 84, .k (.b false)], some 85, none⟩, ⟨.mv, [.m 85], some 2, none⟩] none)
(.drop [1, 77, 78, 82, 83] .ret)))
(.drop [1, 4, 73] .skip)))))))))))))))))))))))
(.seq (.reg [⟨.mv, [.k (.b false)], some 2, none⟩] none)
.ret))
def prop_Right_s0 : SSh := ⟨[(1, .g (.f (.ref 0 0))), (3, .g (.f (.a .b))), (4, .g (.f (.a .b)))], [[.g (.f (.a .u8)), .g (.f (.a .u32)), .g (.f (.a .s)), .g (.f (.a .s))]]⟩
def prop_Right_o0 : Cut Tb := cutJ tab 0 prop_Right_s0 (fun _ x k => prop_Right_c0 x.1.2.1 x.1.2.2.1 (⟨x.2.1.1, x.2.1.2.1, x.2.1.2.2.1, x.2.1.2.2.2.1⟩ : prop_Prop) (fun y9 => k .ret ⟨[(2, .b y9)], [[.u8 ((⟨x.2.1.1, x.2.1.2.1, x.2.1.2.2.1, x.2.1.2.2.2.1⟩ : prop_Prop).Id), .u32 ((⟨x.2.1.1, x.2.1.2.1, x.2.1.2.2.1, x.2.1.2.2.2.1⟩ : prop_Prop).N), .s ((⟨x.2.1.1, x.2.1.2.1, x.2.1.2.2.1, x.2.1.2.2.2.1⟩ : prop_Prop).A), .s ((⟨x.2.1.1, x.2.1.2.1, x.2.1.2.2.1, x.2.1.2.2.2.1⟩ : prop_Prop).B)]]⟩))
theorem prop_Right_q0 : (prop_Right_o0).Ok Tryd.prog Wp tab 0 prop_Right_p0 := cutJ_ok (c := prop_Right_p0) tabOk prop_Right_rk (cS (cS trivial (cB (cS trivial (cC (cD (cS trivial (cD trivial))) (cD (cS trivial (cC (cD (cS trivial (cD trivial))) (cD (cS trivial (cC (cD (cS trivial trivial)) (cD (cS trivial (cC (cD (cS trivial (cD trivial))) (cD (cS trivial (cC (cD (cS trivial (cD trivial))) (cD (cS trivial (cC (cD (cS trivial (cD trivial))) (cD (cS trivial (cC (cD (cS trivial (cD trivial))) (cD trivial))))))))))))))))))))))) (cS trivial trivial)) (fun _ _ => by kernel_rfl)
def prop_Right_p : TCode Tb :=
(.seq (.reg [⟨.box, [.m 0], some 1, none⟩, ⟨.mv, [.k (.b false)], some 2, none⟩] none)
(.seq (.reg [⟨(.fa 2), [.v 1], some 5, none⟩, ⟨(.load none), [.m 5], some 6, none⟩, ⟨(.bin .eql .s), [.m 6, .k (.s [])], some 7, none⟩, ⟨.mv, [.m 7], some 8, none⟩, ⟨(.fa 3), [.v 1], some 9, some (8, true)⟩, ⟨(.load none), [.m 9], some 10, some (8, true)⟩, ⟨(.bin .eql .s), [.m 10, .k (.s [])], some 11, some (8, true)⟩, ⟨.pick, [.m 8, .m 11, .k (.b false)], some 12, none⟩, ⟨(.fa 1), [.v 1], some 13, none⟩, ⟨(.load none), [.m 13], some 14, none⟩, ⟨(.bin .eql .i), [.m 14, .k (.u32 (0 : UInt32))], some 15, none⟩, ⟨.mv, [.m 12], some 3, none⟩, ⟨.mv, [.m 15], some 4, none⟩] (some [[], [], [], [], [], [], [], [], [], [1, 5], [], [], []]))
(.drop [2, 9, 10] (.cut 0 prop_Right_o0 prop_Right_p0))))
def prop_Right_w : Orc Tb := mkOrc (Y := Bool) tab [.g (.st 2)] [] (fun x h => prop_Right (⟨x.1.Id, x.1.N, x.1.A, x.1.B⟩ : prop_Prop)) (fun _ y k => k (.b y) [])
theorem prop_Right_k : (prop_Right_w).Ok Tryd.prog Wp tab 17 := orc_ok (Y := Bool) (orcs := prop_Right_r) (c := prop_Right_p) (res := [.tmp 2]) (n := 86) (R := (RSp.one (Y := Bool) tab (.g (.f (.a .b))) [] (fun a b => a) (fun y => y) (fun y => ()))) tabOk prop_Right_rk (RSp.one_ok tabOk (fun _ _ => by kernel_rfl) (fun _ _ => by kernel_rfl)) Tryd.func17 (by kernel_rfl) (by kernel_rfl) (by kernel_rfl) (by kernel_rfl) (cS trivial (cS trivial (cD (cT prop_Right_q0)))) (fun _ y k => by kernel_rfl) (fun y => by kernel_rfl) (fun x h => by kernel_rfl)
def strings_ContainsAny_w : Orc Tb := mkOrc (Y := Bool) tab [.g (.f (.a .s)), .g (.f (.a .s))] [] (fun x h => strings_ContainsAny x.1 x.2.1) (fun _ y k => k (.b y) [])
theorem strings_ContainsAny_k : (strings_ContainsAny_w).Ok Tryd.prog Wp tab 50 := lw_ContainsAny tabOk (by kernel_rfl) Tryd.strings_ContainsAny
def topic_Wild_r : Orcs Tb := [(50, strings_ContainsAny_w)]
theorem topic_Wild_rk : OrcsOk Tryd.prog Wp tab topic_Wild_r := (orcs_cons strings_ContainsAny_k orcs_nil)
def topic_Wild_p : TCode Tb :=
(.seq (.reg [⟨.mv, [.k (.b false)], some 2, none⟩] none)
(.seq (.reg [⟨.mv, [.m 0], some 3, none⟩, ⟨(.call (some 50) 0), [.m 3, .k (.s [43, 35])], some 4, none⟩, ⟨.mv, [.m 4], some 2, none⟩] none)
.ret))
def topic_Wild_w : Orc Tb := mkOrc (Y := Bool) tab [.g (.f (.a .s))] [] (fun x h => topic_Wild x.1) (fun _ y k => k (.b y) [])
theorem topic_Wild_k : (topic_Wild_w).Ok Tryd.prog Wp tab 31 := orc_ok (Y := Bool) (orcs := topic_Wild_r) (c := topic_Wild_p) (res := [.tmp 2]) (n := 5) (R := (RSp.one (Y := Bool) tab (.g (.f (.a .b))) [] (fun a b => a) (fun y => y) (fun y => ()))) tabOk topic_Wild_rk (RSp.one_ok tabOk (fun _ _ => by kernel_rfl) (fun _ _ => by kernel_rfl)) Tryd.func31 (by kernel_rfl) (by kernel_rfl) (by kernel_rfl) (by kernel_rfl) (cS trivial (cS trivial trivial)) (fun _ y k => by kernel_rfl) (fun y => by kernel_rfl) (fun x h => by kernel_rfl)
def topic_Name_r : Orcs Tb := [(41, text_Right_w), (31, topic_Wild_w)]
theorem topic_Name_rk : OrcsOk Tryd.prog Wp tab topic_Name_r := (orcs_cons text_Right_k (orcs_cons topic_Wild_k orcs_nil))
def topic_Name_p : TCode Tb :=
(.seq (.reg [⟨.mv, [.k (.b false)], some 2, none⟩] none)
(.seq (.reg [⟨.mv, [.v 0], some 3, none⟩, ⟨(.bin .neq .s), [.m 3, .k (.s [])], some 4, none⟩, ⟨.mv, [.m 4], some 5, none⟩, ⟨.mv, [.v 0], some 6, some (5, true)⟩, ⟨(.call (some 41) 0), [.m 6], some 7, some (5, true)⟩, ⟨.pick, [.m 5, .m 7, .k (.b false)], some 8, none⟩, ⟨.mv, [.m 8], some 9, none⟩, ⟨.mv, [.m 0], some 10, some (9, true)⟩, ⟨(.call (some 31) 1), [.m 10], some 11, some (9, true)⟩, ⟨(.un .not), [.m 11], some 12, some (9, true)⟩, ⟨.pick, [.m 9, .m 12, .k (.b false)], some 13, none⟩, ⟨.mv, [.m 13], some 2, none⟩] none)
(.drop [0, 6, 10, 11] .ret)))
def topic_Name_w : Orc Tb := mkOrc (Y := Bool) tab [.g (.f (.a .s))] [] (fun x h => topic_Name x.1) (fun _ y k => k (.b y) [])
theorem topic_Name_k : (topic_Name_w).Ok Tryd.prog Wp tab 27 := orc_ok (Y := Bool) (orcs := topic_Name_r) (c := topic_Name_p) (res := [.tmp 2]) (n := 14) (R := (RSp.one (Y := Bool) tab (.g (.f (.a .b))) [] (fun a b => a) (fun y => y) (fun y => ()))) tabOk topic_Name_rk (RSp.one_ok tabOk (fun _ _ => by kernel_rfl) (fun _ _ => by kernel_rfl)) Tryd.func27 (by kernel_rfl) (by kernel_rfl) (by kernel_rfl) (by kernel_rfl) (cS trivial (cS trivial (cD trivial))) (fun _ y k => by kernel_rfl) (fun y => by kernel_rfl) (fun x h => by kernel_rfl)
def prop_Value_r : Orcs Tb := [(17, prop_Right_w), (11, prop_Type_w), (27, topic_Name_w)]
theorem prop_Value_rk : OrcsOk Tryd.prog Wp tab prop_Value_r := (orcs_cons prop_Right_k (orcs_cons prop_Type_k (orcs_cons topic_Name_k orcs_nil)))
def prop_Value_p0 : TCode Tb :=
(.cond 15 (.drop [15] (.seq (.reg [⟨(.fa 1), [.m 1], some 28, none⟩, ⟨(.load none), [.m 28], some 29, none⟩, ⟨(.bin .neq .i), [.m 29, .k (.u32 (0 : UInt32))], some 30, none⟩, ⟨.mv, [.m 30], some 2, none⟩] none)
.ret))
(.drop [15] (.seq (.reg [⟨(.fa 0), [.v 1], some 32, none⟩, ⟨(.load none), [.m 32], some 33, none⟩, ⟨(.bin .eql .i), [.m 33, .k (.u8 (8 : UInt8))], some 34, none⟩, ⟨.mv, [.m 34], some 31, none⟩] none)
(.cond 31 (.drop [31] (.seq (.reg [⟨(.fa 2), [.m 1], some 35, none⟩, ⟨(.load none), [.m 35], some 36, none⟩, ⟨(.call (some 27) 2), [.m 36], some 37, none⟩, ⟨.mv, [.m 37], some 2, none⟩] none)
.ret))
(.drop [1, 31] .skip)))))
def prop_Value_s0 : SSh := ⟨[(1, .g (.f (.ref 0 0))), (15, .g (.f (.a .b)))], [[.g (.f (.a .u8)), .g (.f (.a .u32)), .g (.f (.a .s)), .g (.f (.a .s))]]⟩
def prop_Value_o0 : Cut Tb := cutJ tab 0 prop_Value_s0 (fun _ x k => prop_Value_c0 x.1.2.1 (⟨x.2.1.1, x.2.1.2.1, x.2.1.2.2.1, x.2.1.2.2.2.1⟩ : prop_Prop) (fun y7 => k .ret ⟨[(2, .b y7)], [[.u8 ((⟨x.2.1.1, x.2.1.2.1, x.2.1.2.2.1, x.2.1.2.2.2.1⟩ : prop_Prop).Id), .u32 ((⟨x.2.1.1, x.2.1.2.1, x.2.1.2.2.1, x.2.1.2.2.2.1⟩ : prop_Prop).N), .s ((⟨x.2.1.1, x.2.1.2.1, x.2.1.2.2.1, x.2.1.2.2.2.1⟩ : prop_Prop).A), .s ((⟨x.2.1.1, x.2.1.2.1, x.2.1.2.2.1, x.2.1.2.2.2.1⟩ : prop_Prop).B)]]⟩) (k .normal ⟨[], [[.u8 ((⟨x.2.1.1, x.2.1.2.1, x.2.1.2.2.1, x.2.1.2.2.2.1⟩ : prop_Prop).Id), .u32 ((⟨x.2.1.1, x.2.1.2.1, x.2.1.2.2.1, x.2.1.2.2.2.1⟩ : prop_Prop).N), .s ((⟨x.2.1.1, x.2.1.2.1, x.2.1.2.2.1, x.2.1.2.2.2.1⟩ : prop_Prop).A), .s ((⟨x.2.1.1, x.2.1.2.1, x.2.1.2.2.1, x.2.1.2.2.2.1⟩ : prop_Prop).B)]]⟩))
theorem prop_Value_q0 : (prop_Value_o0).Ok Tryd.prog Wp tab 0 prop_Value_p0 := cutJ_ok (c := prop_Value_p0) tabOk prop_Value_rk (cC (cD (cS trivial trivial)) (cD (cS trivial (cC (cD (cS trivial trivial)) (cD trivial))))) (fun _ _ => by kernel_rfl)
def prop_Value_p : TCode Tb :=
(.seq (.reg [⟨.box, [.m 0], some 1, none⟩, ⟨.mv, [.k (.b false)], some 2, none⟩] none)
(.seq (.block 0 (.seq (.reg [⟨(.load (some 4)), [.v 1], some 4, none⟩, ⟨(.call (some 17) 0), [.m 4], some 5, none⟩, ⟨(.un .not), [.m 5], some 6, none⟩, ⟨.mv, [.m 6], some 3, none⟩] none)
(.cond 3 (.drop [1, 2, 3] (.seq (.reg [⟨.mv, [.k (.b false)], some 2, none⟩] none)
.ret))
(.drop [2, 3] (.seq (.reg [⟨(.fa 0), [.v 1], some 8, none⟩, ⟨(.load none), [.m 8], some 9, none⟩, ⟨(.call (some 11) 1), [.m 9], some 10, none⟩, ⟨(.bin .eql .i), [.m 10, .k (.n .i64 1)], some 11, none⟩, ⟨.mv, [.m 11], some 7, none⟩] none)
(.cond 7 (.drop [7] (.seq (.reg [⟨(.fa 1), [.m 1], some 12, none⟩, ⟨(.load none), [.m 12], some 13, none⟩, ⟨(.bin .leq .i), [.m 13, .k (.u32 (1 : UInt32))], some 14, none⟩, ⟨.mv, [.m 14], some 2, none⟩] none)
.ret))
(.drop [7] (.seq (.seq (.reg [⟨(.fa 0), [.v 1], some 16, none⟩, ⟨(.load none), [.m 16], some 17, none⟩, ⟨(.bin .eql .i), [.m 17, .k (.u8 (11 : UInt8))], some 18, none⟩, ⟨.mv, [.m 18], some 15, none⟩] none)
(.cond 15 .skip
(.drop [15] (.seq (.reg [⟨(.fa 0), [.v 1], some 19, none⟩, ⟨(.load none), [.m 19], some 20, none⟩, ⟨(.bin .eql .i), [.m 20, .k (.u8 (33 : UInt8))], some 21, none⟩, ⟨.mv, [.m 21], some 15, none⟩] none)
(.cond 15 .skip
(.drop [15] (.seq (.reg [⟨(.fa 0), [.v 1], some 22, none⟩, ⟨(.load none), [.m 22], some 23, none⟩, ⟨(.bin .eql .i), [.m 23, .k (.u8 (35 : UInt8))], some 24, none⟩, ⟨.mv, [.m 24], some 15, none⟩] none)
(.cond 15 .skip
(.drop [15] (.reg [⟨(.fa 0), [.v 1], some 25, none⟩, ⟨(.load none), [.m 25], some 26, none⟩, ⟨(.bin .eql .i), [.m 26, .k (.u8 (39 : UInt8))], some 27, none⟩, ⟨.mv, [.m 27], some 15, none⟩] none))))))))))
(.cut 0 prop_Value_o0 prop_Value_p0)))))))))
(.seq (.reg [⟨.mv, [.k (.b true)], some 2, none⟩] none)
.ret)))
def prop_Value_w : Orc Tb := mkOrc (Y := Bool) tab [.g (.st 2)] [] (fun x h => prop_Value (⟨x.1.Id, x.1.N, x.1.A, x.1.B⟩ : prop_Prop)) (fun _ y k => k (.b y) [])
theorem prop_Value_k : (prop_Value_w).Ok Tryd.prog Wp tab 20 := orc_ok (Y := Bool) (orcs := prop_Value_r) (c := prop_Value_p) (res := [.tmp 2]) (n := 38) (R := (RSp.one (Y := Bool) tab (.g (.f (.a .b))) [] (fun a b => a) (fun y => y) (fun y => ()))) tabOk prop_Value_rk (RSp.one_ok tabOk (fun _ _ => by kernel_rfl) (fun _ _ => by kernel_rfl)) Tryd.func20 (by kernel_rfl) (by kernel_rfl) (by kernel_rfl) (by kernel_rfl) (cS trivial (cS (cB (cS trivial (cC (cD (cS trivial trivial)) (cD (cS trivial (cC (cD (cS trivial trivial)) (cD (cS (cS trivial (cC trivial (cD (cS trivial (cC trivial (cD (cS trivial (cC trivial (cD trivial))))))))) (cT prop_Value_q0))))))))) (cS trivial trivial))) (fun _ y k => by kernel_rfl) (fun y => by kernel_rfl) (fun x h => by kernel_rfl)
def prop_Often_r : Orcs Tb := [(13, prop_For_w)]
theorem prop_Often_rk : OrcsOk Tryd.prog Wp tab prop_Often_r := (orcs_cons prop_For_k orcs_nil)
def prop_Often_p : TCode Tb :=
(.seq (.reg [⟨.mv, [.k (.b false)], some 4, none⟩] none)
(.seq (.reg [⟨.mv, [.v 0], some 5, none⟩, ⟨.mv, [.v 1], some 6, none⟩, ⟨(.call (some 13) 0), [.m 5, .m 6], some 7, none⟩, ⟨.mv, [.m 7], some 8, none⟩, ⟨.mv, [.v 0], some 9, some (8, true)⟩, ⟨(.bin .eql .i), [.m 9, .k (.u8 (38 : UInt8))], some 10, some (8, true)⟩, ⟨.mv, [.m 10], some 11, some (8, true)⟩, ⟨.mv, [.m 0], some 12, some (11, false)⟩, ⟨(.bin .eql .i), [.m 12, .k (.u8 (11 : UInt8))], some 13, some (11, false)⟩, ⟨.mv, [.m 13], some 14, some (11, false)⟩, ⟨.mv, [.m 1], some 15, some (14, true)⟩, ⟨(.bin .eql .i), [.m 15, .k (.n .i64 3)], some 16, some (14, true)⟩, ⟨.pick, [.m 14, .m 16, .k (.b false)], some 17, some (11, false)⟩, ⟨.pick, [.m 11, .k (.b true), .m 17], some 18, some (8, true)⟩, ⟨.pick, [.m 8, .m 18, .k (.b false)], some 19, none⟩, ⟨.mv, [.m 19], some 4, none⟩] none)
(.drop [0, 1, 9, 10, 11, 12, 13, 14, 15, 16, 17] .ret)))
def prop_Often_w : Orc Tb := mkOrc (Y := Bool) tab [.g (.f (.a .u8)), .g (.f (.a (.n .i64)))] [] (fun x h => prop_Often x.1 x.2.1) (fun _ y k => k (.b y) [])
theorem prop_Often_k : (prop_Often_w).Ok Tryd.prog Wp tab 15 := orc_ok (Y := Bool) (orcs := prop_Often_r) (c := prop_Often_p) (res := [.tmp 4]) (n := 20) (R := (RSp.one (Y := Bool) tab (.g (.f (.a .b))) [] (fun a b => a) (fun y => y) (fun y => ()))) tabOk prop_Often_rk (RSp.one_ok tabOk (fun _ _ => by kernel_rfl) (fun _ _ => by kernel_rfl)) Tryd.func15 (by kernel_rfl) (by kernel_rfl) (by kernel_rfl) (by kernel_rfl) (cS trivial (cS trivial (cD trivial))) (fun _ y k => by kernel_rfl) (fun y => by kernel_rfl) (fun x h => by kernel_rfl)
def l05_told_r : Orcs Tb := [(11, prop_Type_w), (13, prop_For_w), (20, prop_Value_w), (15, prop_Often_w)]
theorem l05_told_rk : OrcsOk Tryd.prog Wp tab l05_told_r := (orcs_cons prop_Type_k (orcs_cons prop_For_k (orcs_cons prop_Value_k (orcs_cons prop_Often_k orcs_nil))))
def l05_told_p : TCode Tb :=
(.seq (.reg [⟨.mv, [.k (.b false)], some 0, none⟩] none)
(.seq (.reg [⟨(.call (some 11) 0), [.k (.u8 (38 : UInt8))], some 1, none⟩, ⟨(.bin .eql .i), [.m 1, .k (.n .i64 7)], some 2, none⟩, ⟨.mv, [.m 2], some 3, none⟩, ⟨(.call (some 13) 1), [.k (.u8 (35 : UInt8)), .k (.n .i64 3)], some 4, some (3, true)⟩, ⟨.pick, [.m 3, .m 4, .k (.b false)], some 5, none⟩, ⟨.mv, [.m 5], some 6, none⟩, ⟨(.call (some 13) 1), [.k (.u8 (35 : UInt8)), .k (.n .i64 16)], some 7, some (6, true)⟩, ⟨(.un .not), [.m 7], some 8, some (6, true)⟩, ⟨.pick, [.m 6, .m 8, .k (.b false)], some 9, none⟩, ⟨.mv, [.m 9], some 10, none⟩, ⟨(.build [.u8 (0 : UInt8), .u32 (0 : UInt32), .s [], .s []] [(0, 1)]), [.k (.u8 (33 : UInt8))], some 11, some (10, true)⟩, ⟨(.call (some 20) 2), [.m 11], some 12, some (10, true)⟩, ⟨(.un .not), [.m 12], some 13, some (10, true)⟩, ⟨.pick, [.m 10, .m 13, .k (.b false)], some 14, none⟩, ⟨.mv, [.m 14], some 15, none⟩, ⟨(.build [.u8 (0 : UInt8), .u32 (0 : UInt32), .s [], .s []] [(0, 1), (1, 1)]), [.k (.u8 (33 : UInt8)), .k (.u32 (1 : UInt32))], some 16, some (15, true)⟩, ⟨(.call (some 20) 2), [.m 16], some 17, some (15, true)⟩, ⟨.pick, [.m 15, .m 17, .k (.b false)], some 18, none⟩, ⟨.mv, [.m 18], some 19, none⟩, ⟨(.call (some 15) 3), [.k (.u8 (11 : UInt8)), .k (.n .i64 3)], some 20, some (19, true)⟩, ⟨.pick, [.m 19, .m 20, .k (.b false)], some 21, none⟩, ⟨.mv, [.m 21], some 22, none⟩, ⟨(.call (some 15) 3), [.k (.u8 (11 : UInt8)), .k (.n .i64 8)], some 23, some (22, true)⟩, ⟨(.un .not), [.m 23], some 24, some (22, true)⟩, ⟨.pick, [.m 22, .m 24, .k (.b false)], some 25, none⟩, ⟨.mv, [.m 25], some 0, none⟩] none)
(.drop [7, 11, 12, 16, 23] .ret)))
def l05_told_w : Orc Tb := mkOrc (Y := Bool) tab [] [] (fun x h => l05_told) (fun _ y k => k (.b y) [])
theorem l05_told_k : (l05_told_w).Ok Tryd.prog Wp tab 10 := orc_ok (Y := Bool) (orcs := l05_told_r) (c := l05_told_p) (res := [.tmp 0]) (n := 26) (R := (RSp.one (Y := Bool) tab (.g (.f (.a .b))) [] (fun a b => a) (fun y => y) (fun y => ()))) tabOk l05_told_rk (RSp.one_ok tabOk (fun _ _ => by kernel_rfl) (fun _ _ => by kernel_rfl)) Tryd.func10 (by kernel_rfl) (by kernel_rfl) (by kernel_rfl) (by kernel_rfl) (cS trivial (cS trivial (cD trivial))) (fun _ y k => by kernel_rfl) (fun y => by kernel_rfl) (fun x h => by kernel_rfl)
def r05_Type_r : Orcs Tb := []
theorem r05_Type_rk : OrcsOk Tryd.prog Wp tab r05_Type_r := orcs_nil
def r05_Type_p3 : TCode Tb :=
(.cond 25 (.drop [3, 25] (.seq (.reg [⟨.mv, [.k (.n .i64 5)], some 2, none⟩] none)
.ret))
(.drop [25] (.seq (.seq (.reg [⟨(.bin .eql .i), [.v 3, .k (.u8 (9 : UInt8))], some 34, none⟩, ⟨.mv, [.m 34], some 33, none⟩] none)
(.cond 33 .skip
(.drop [33] (.reg [⟨(.bin .eql .i), [.v 3, .k (.u8 (22 : UInt8))], some 35, none⟩, ⟨.mv, [.m 35], some 33, none⟩] none))))
(.cond 33 (.drop [3, 33] (.seq (.reg [⟨.mv, [.k (.n .i64 6)], some 2, none⟩] none)
.ret))
(.drop [33] (.seq (.reg [⟨(.bin .eql .i), [.m 3, .k (.u8 (38 : UInt8))], some 37, none⟩, ⟨.mv, [.m 37], some 36, none⟩] none)
(.cond 36 (.drop [36] (.seq (.reg [⟨.mv, [.k (.n .i64 7)], some 2, none⟩] none)
.ret))
(.drop [36] .skip))))))))
def r05_Type_s3 : SSh := ⟨[(3, .g (.f (.a .u8))), (25, .g (.f (.a .b)))], []⟩
def r05_Type_o3 : Cut Tb := cutJ tab 0 r05_Type_s3 (fun _ x k => r05_Type_c3 x.1.1 x.1.2.1 (fun y10 => k .ret ⟨[(2, .n .i64 y10)], []⟩) (k .normal ⟨[], []⟩))
theorem r05_Type_q3 : (r05_Type_o3).Ok Tryd.prog Wp tab 0 r05_Type_p3 := cutJ_ok (c := r05_Type_p3) tabOk r05_Type_rk (cC (cD (cS trivial trivial)) (cD (cS (cS trivial (cC trivial (cD trivial))) (cC (cD (cS trivial trivial)) (cD (cS trivial (cC (cD (cS trivial trivial)) (cD trivial)))))))) (fun _ _ => by kernel_rfl)
def r05_Type_p2 : TCode Tb :=
(.cond 18 (.drop [3, 18] (.seq (.reg [⟨.mv, [.k (.n .i64 3)], some 2, none⟩] none)
.ret))
(.drop [18] (.seq (.reg [⟨(.bin .eql .i), [.v 3, .k (.u8 (11 : UInt8))], some 24, none⟩, ⟨.mv, [.m 24], some 23, none⟩] none)
(.cond 23 (.drop [3, 23] (.seq (.reg [⟨.mv, [.k (.n .i64 4)], some 2, none⟩] none)
.ret))
(.drop [23] (.seq (.seq (.reg [⟨(.bin .eql .i), [.v 3, .k (.u8 (3 : UInt8))], some 26, none⟩, ⟨.mv, [.m 26], some 25, none⟩] none)
(.cond 25 .skip
(.drop [25] (.seq (.reg [⟨(.bin .eql .i), [.v 3, .k (.u8 (8 : UInt8))], some 27, none⟩, ⟨.mv, [.m 27], some 25, none⟩] none)
(.cond 25 .skip
(.drop [25] (.seq (.reg [⟨(.bin .eql .i), [.v 3, .k (.u8 (18 : UInt8))], some 28, none⟩, ⟨.mv, [.m 28], some 25, none⟩] none)
(.cond 25 .skip
(.drop [25] (.seq (.reg [⟨(.bin .eql .i), [.v 3, .k (.u8 (21 : UInt8))], some 29, none⟩, ⟨.mv, [.m 29], some 25, none⟩] none)
(.cond 25 .skip
(.drop [25] (.seq (.reg [⟨(.bin .eql .i), [.v 3, .k (.u8 (26 : UInt8))], some 30, none⟩, ⟨.mv, [.m 30], some 25, none⟩] none)
(.cond 25 .skip
(.drop [25] (.seq (.reg [⟨(.bin .eql .i), [.v 3, .k (.u8 (28 : UInt8))], some 31, none⟩, ⟨.mv, [.m 31], some 25, none⟩] none)
(.cond 25 .skip
(.drop [25] (.reg [⟨(.bin .eql .i), [.v 3, .k (.u8 (31 : UInt8))], some 32, none⟩, ⟨.mv, [.m 32], some 25, none⟩] none)))))))))))))))))))
(.cut 0 r05_Type_o3 r05_Type_p3)))))))
def r05_Type_s2 : SSh := ⟨[(3, .g (.f (.a .u8))), (18, .g (.f (.a .b)))], []⟩
def r05_Type_o2 : Cut Tb := cutJ tab 0 r05_Type_s2 (fun _ x k => r05_Type_c2 x.1.1 x.1.2.1 (fun y18 => k .ret ⟨[(2, .n .i64 y18)], []⟩) (k .normal ⟨[], []⟩))
theorem r05_Type_q2 : (r05_Type_o2).Ok Tryd.prog Wp tab 0 r05_Type_p2 := cutJ_ok (c := r05_Type_p2) tabOk r05_Type_rk (cC (cD (cS trivial trivial)) (cD (cS trivial (cC (cD (cS trivial trivial)) (cD (cS (cS trivial (cC trivial (cD (cS trivial (cC trivial (cD (cS trivial (cC trivial (cD (cS trivial (cC trivial (cD (cS trivial (cC trivial (cD (cS trivial (cC trivial (cD trivial)))))))))))))))))) (cT r05_Type_q3))))))) (fun _ _ => by kernel_rfl)
def r05_Type_p1 : TCode Tb :=
(.cond 13 (.drop [3, 13] (.seq (.reg [⟨.mv, [.k (.n .i64 2)], some 2, none⟩] none)
.ret))
(.drop [13] (.seq (.seq (.reg [⟨(.bin .eql .i), [.v 3, .k (.u8 (2 : UInt8))], some 19, none⟩, ⟨.mv, [.m 19], some 18, none⟩] none)
(.cond 18 .skip
(.drop [18] (.seq (.reg [⟨(.bin .eql .i), [.v 3, .k (.u8 (17 : UInt8))], some 20, none⟩, ⟨.mv, [.m 20], some 18, none⟩] none)
(.cond 18 .skip
(.drop [18] (.seq (.reg [⟨(.bin .eql .i), [.v 3, .k (.u8 (24 : UInt8))], some 21, none⟩, ⟨.mv, [.m 21], some 18, none⟩] none)
(.cond 18 .skip
(.drop [18] (.reg [⟨(.bin .eql .i), [.v 3, .k (.u8 (39 : UInt8))], some 22, none⟩, ⟨.mv, [.m 22], some 18, none⟩] none))))))))))
(.cut 0 r05_Type_o2 r05_Type_p2))))
def r05_Type_s1 : SSh := ⟨[(3, .g (.f (.a .u8))), (13, .g (.f (.a .b)))], []⟩
def r05_Type_o1 : Cut Tb := cutJ tab 0 r05_Type_s1 (fun _ x k => r05_Type_c1 x.1.1 x.1.2.1 (fun y23 => k .ret ⟨[(2, .n .i64 y23)], []⟩) (k .normal ⟨[], []⟩))
theorem r05_Type_q1 : (r05_Type_o1).Ok Tryd.prog Wp tab 0 r05_Type_p1 := cutJ_ok (c := r05_Type_p1) tabOk r05_Type_rk (cC (cD (cS trivial trivial)) (cD (cS (cS trivial (cC trivial (cD (cS trivial (cC trivial (cD (cS trivial (cC trivial (cD trivial))))))))) (cT r05_Type_q2)))) (fun _ _ => by kernel_rfl)
def r05_Type_p0 : TCode Tb :=
(.cond 4 (.drop [3, 4] (.seq (.reg [⟨.mv, [.k (.n .i64 1)], some 2, none⟩] none)
.ret))
(.drop [4] (.seq (.seq (.reg [⟨(.bin .eql .i), [.v 3, .k (.u8 (19 : UInt8))], some 14, none⟩, ⟨.mv, [.m 14], some 13, none⟩] none)
(.cond 13 .skip
(.drop [13] (.seq (.reg [⟨(.bin .eql .i), [.v 3, .k (.u8 (33 : UInt8))], some 15, none⟩, ⟨.mv, [.m 15], some 13, none⟩] none)
(.cond 13 .skip
(.drop [13] (.seq (.reg [⟨(.bin .eql .i), [.v 3, .k (.u8 (34 : UInt8))], some 16, none⟩, ⟨.mv, [.m 16], some 13, none⟩] none)
(.cond 13 .skip
(.drop [13] (.reg [⟨(.bin .eql .i), [.v 3, .k (.u8 (35 : UInt8))], some 17, none⟩, ⟨.mv, [.m 17], some 13, none⟩] none))))))))))
(.cut 0 r05_Type_o1 r05_Type_p1))))
def r05_Type_s0 : SSh := ⟨[(3, .g (.f (.a .u8))), (4, .g (.f (.a .b)))], []⟩
def r05_Type_o0 : Cut Tb := cutJ tab 0 r05_Type_s0 (fun _ x k => r05_Type_c0 x.1.1 x.1.2.1 (fun y28 => k .ret ⟨[(2, .n .i64 y28)], []⟩) (k .normal ⟨[], []⟩))
theorem r05_Type_q0 : (r05_Type_o0).Ok Tryd.prog Wp tab 0 r05_Type_p0 := cutJ_ok (c := r05_Type_p0) tabOk r05_Type_rk (cC (cD (cS trivial trivial)) (cD (cS (cS trivial (cC trivial (cD (cS trivial (cC trivial (cD (cS trivial (cC trivial (cD trivial))))))))) (cT r05_Type_q1)))) (fun _ _ => by kernel_rfl)
def r05_Type_p : TCode Tb :=
(.seq (.reg [⟨.mv, [.k (.n .i64 0)], some 2, none⟩] none)
(.seq (.seq (.reg [⟨.mv, [.m 0], some 3, none⟩] none)
(.block 0 (.seq (.seq (.reg [⟨(.bin .eql .i), [.v 3, .k (.u8 (1 : UInt8))], some 5, none⟩, ⟨.mv, [.m 5], some 4, none⟩] none)
(.cond 4 (.drop [2] .skip)
(.drop [2, 4] (.seq (.reg [⟨(.bin .eql .i), [.v 3, .k (.u8 (23 : UInt8))], some 6, none⟩, ⟨.mv, [.m 6], some 4, none⟩] none)
(.cond 4 .skip
(.drop [4] (.seq (.reg [⟨(.bin .eql .i), [.v 3, .k (.u8 (25 : UInt8))], some 7, none⟩, ⟨.mv, [.m 7], some 4, none⟩] none)
(.cond 4 .skip
(.drop [4] (.seq (.reg [⟨(.bin .eql .i), [.v 3, .k (.u8 (36 : UInt8))], some 8, none⟩, ⟨.mv, [.m 8], some 4, none⟩] none)
(.cond 4 .skip
(.drop [4] (.seq (.reg [⟨(.bin .eql .i), [.v 3, .k (.u8 (37 : UInt8))], some 9, none⟩, ⟨.mv, [.m 9], some 4, none⟩] none)
(.cond 4 .skip
(.drop [4] (.seq (.reg [⟨(.bin .eql .i), [.v 3, .k (.u8 (40 : UInt8))], some 10, none⟩, ⟨.mv, [.m 10], some 4, none⟩] none)
(.cond 4 .skip
(.drop [4] (.seq (.reg [⟨(.bin .eql .i), [.v 3, .k (.u8 (41 : UInt8))], some 11, none⟩, ⟨.mv, [.m 11], some 4, none⟩] none)
(.cond 4 .skip
(.drop [4] (.reg [⟨(.bin .eql .i), [.v 3, .k (.u8 (42 : UInt8))], some 12, none⟩, ⟨.mv, [.m 12], some 4, none⟩] none))))))))))))))))))))))
(.cut 0 r05_Type_o0 r05_Type_p0))))
(.seq (.reg [⟨.mv, [.k (.n .i64 0)], some 2, none⟩] none)
.ret)))
def r05_Type_w : Orc Tb := mkOrc (Y := Int) tab [.g (.f (.a .u8))] [] (fun x h => r05_Type x.1) (fun _ y k => k (.n .i64 y) [])
theorem r05_Type_k : (r05_Type_w).Ok Tryd.prog Wp tab 12 := orc_ok (Y := Int) (orcs := r05_Type_r) (c := r05_Type_p) (res := [.tmp 2]) (n := 38) (R := (RSp.one (Y := Int) tab (.g (.f (.a (.n .i64)))) [] (fun a b => a) (fun y => y) (fun y => ()))) tabOk r05_Type_rk (RSp.one_ok tabOk (fun _ _ => by kernel_rfl) (fun _ _ => by kernel_rfl)) Tryd.func12 (by kernel_rfl) (by kernel_rfl) (by kernel_rfl) (by kernel_rfl) (cS trivial (cS (cS trivial (cB (cS (cS trivial (cC (cD trivial) (cD (cS trivial (cC trivial (cD (cS trivial (cC trivial (cD (cS trivial (cC trivial (cD (cS trivial (cC trivial (cD (cS trivial (cC trivial (cD (cS trivial (cC trivial (cD trivial))))))))))))))))))))) (cT r05_Type_q0)))) (cS trivial trivial))) (fun _ y k => by kernel_rfl) (fun y => by kernel_rfl) (fun x h => by kernel_rfl)
def l05_To_r : Orcs Tb := []
theorem l05_To_rk : OrcsOk Tryd.prog Wp tab l05_To_r := orcs_nil
def l05_To_p : TCode Tb :=
(.seq (.reg [⟨.box, [.m 0], some 1, none⟩, ⟨(.alloc [.u8 (0 : UInt8), .u32 (0 : UInt32), .s [], .s []]), [], some 2, none⟩] none)
(.seq (.reg [⟨(.fa 0), [.v 1], some 3, none⟩, ⟨(.load none), [.m 3], some 4, none⟩, ⟨(.fa 1), [.v 1], some 5, none⟩, ⟨(.load none), [.m 5], some 6, none⟩, ⟨(.fa 2), [.v 1], some 7, none⟩, ⟨(.load none), [.m 7], some 8, none⟩, ⟨(.fa 3), [.m 1], some 9, none⟩, ⟨(.load none), [.m 9], some 10, none⟩, ⟨(.build [.u8 (0 : UInt8), .u32 (0 : UInt32), .s [], .s []] [(0, 1), (1, 1), (2, 1), (3, 1)]), [.m 4, .m 6, .m 8, .m 10], some 11, none⟩, ⟨(.store 4), [.v 2, .m 11], none, none⟩] none)
.ret))
def l05_To_w : Orc Tb := mkOrc (Y := prop_Prop) tab [.g (.st 3)] [] (fun x h => l05_To (⟨x.1.Id, x.1.N, x.1.A, x.1.B⟩ : r05_Prop)) (fun _ y k => k (.agg [.u8 y.Id, .u32 y.N, .s y.A, .s y.B]) [])
theorem l05_To_k : (l05_To_w).Ok Tryd.prog Wp tab 18 := orc_ok (Y := prop_Prop) (orcs := l05_To_r) (c := l05_To_p) (res := [.cell 2 (some 4)]) (n := 12) (R := (RSp.one (Y := prop_Prop) tab (.g (.st 2)) [] (fun a b => (⟨a.Id, a.N, a.A, a.B⟩ : prop_Prop)) (fun y => (⟨y.Id, y.N, y.A, y.B⟩ : prop_Prop)) (fun y => ()))) tabOk l05_To_rk (RSp.one_ok tabOk (fun _ _ => by kernel_rfl) (fun _ _ => by kernel_rfl)) Tryd.func18 (by kernel_rfl) (by kernel_rfl) (by kernel_rfl) (by kernel_rfl) (cS trivial (cS trivial trivial)) (fun _ y k => by kernel_rfl) (fun y => by kernel_rfl) (fun x h => by kernel_rfl)
def r02_sign_r : Orcs Tb := []
theorem r02_sign_rk : OrcsOk Tryd.prog Wp tab r02_sign_r := orcs_nil
def r02_sign_p1 : TCode Tb :=
(.seq (.seq (.reg [⟨.mv, [.v 10], some 41, none⟩, ⟨.mv, [.v 7], some 42, none⟩, ⟨(.bin .lss .i), [.m 41, .m 42], some 43, none⟩] none)
(.cond 43 (.drop [43] .skip)
(.drop [0, 1, 10, 43] (.exit 0))))
(.seq (.block 1 (.seq (.reg [⟨.mv, [.v 0], some 46, none⟩, ⟨.mv, [.v 1], some 47, none⟩, ⟨.mv, [.v 10], some 48, none⟩, ⟨(.bin .add .i), [.m 47, .m 48], some 49, none⟩, ⟨.sidx, [.m 46, .m 49], some 50, none⟩, ⟨(.cint .i64), [.m 50], some 51, none⟩, ⟨.mv, [.m 51], some 11, none⟩] none)
(.seq (.seq (.reg [⟨.mv, [.v 11], some 52, none⟩, ⟨(.bin .lss .i), [.m 52, .k (.n .i64 128)], some 53, none⟩, ⟨.mv, [.m 53], some 54, none⟩, ⟨.mv, [.v 11], some 55, some (54, false)⟩, ⟨(.bin .geq .i), [.m 55, .k (.n .i64 192)], some 56, some (54, false)⟩, ⟨.pick, [.m 54, .k (.b true), .m 56], some 57, none⟩] none)
(.drop [55] (.cond 57 (.drop [0, 1, 7, 8, 9, 10, 11, 57] (.seq (.reg [⟨.mv, [.k (.n .i64 0)], some 4, none⟩, ⟨.mv, [.k (.n .i64 0)], some 5, none⟩] none)
.ret))
(.drop [57] .skip))))
(.reg [⟨.mv, [.m 8], some 58, none⟩, ⟨(.bin .mul .i), [.k (.n .i64 64), .m 58], some 59, none⟩, ⟨.mv, [.m 11], some 60, none⟩, ⟨(.bin .add .i), [.m 59, .m 60], some 61, none⟩, ⟨(.bin .sub .i), [.m 61, .k (.n .i64 128)], some 62, none⟩, ⟨.mv, [.m 62], some 8, none⟩] none))))
(.reg [⟨.mv, [.m 10], some 44, none⟩, ⟨(.bin .add .i), [.m 44, .k (.n .i64 1)], some 45, none⟩, ⟨.mv, [.m 45], some 10, none⟩] none)))
def r02_sign_s1 : SSh := ⟨[(0, .g (.f (.a .s))), (1, .g (.f (.a (.n .i64)))), (7, .g (.f (.a (.n .i64)))), (8, .g (.f (.a (.n .i64)))), (9, .g (.f (.a (.n .i64)))), (10, .g (.f (.a (.n .i64))))], []⟩
def r02_sign_o1 : Cut Tb := cutL tab 0 r02_sign_s1 (fun x => (x.1.2.2.2.1, x.1.2.2.2.2.2.1)) (fun x => r02_sign_l1 x.1.1 x.1.2.1 x.1.2.2.1) (fun _ x y k => match y with | .inl y => k .ret ⟨[(4, .n .i64 0), (5, .n .i64 0)], []⟩ | .inr y => k (.exit 0) ⟨[(7, .n .i64 x.1.2.2.1), (8, .n .i64 y), (9, .n .i64 x.1.2.2.2.2.1)], []⟩)
theorem r02_sign_q1 : (r02_sign_o1).Ok Tryd.prog Wp tab 0 (.loop r02_sign_p1) := cutL_ok (c := r02_sign_p1) (Z := Int × Int) (Y := Unit ⊕ Int) tabOk r02_sign_rk (cS (cS trivial (cC (cD trivial) (cD trivial))) (cS (cB (cS trivial (cS (cS trivial (cD (cC (cD (cS trivial trivial)) (cD trivial)))) trivial))) trivial)) (fun _ x z b e => r02_sign_b1 x.1.1 x.1.2.1 x.1.2.2.1 z.1 z.2 (fun x13 x15 => b (x13, x15)) (e (.inl ())) (fun y17 => e (.inr y17))) (fun x z => ⟨[(0, .s x.1.1), (1, .n .i64 x.1.2.1), (7, .n .i64 x.1.2.2.1), (8, .n .i64 z.1), (9, .n .i64 x.1.2.2.2.2.1), (10, .n .i64 z.2)], []⟩) (fun x y => match y with | .inl y => (.ret, ⟨[(4, .n .i64 0), (5, .n .i64 0)], []⟩) | .inr y => ((.exit 0), ⟨[(7, .n .i64 x.1.2.2.1), (8, .n .i64 y), (9, .n .i64 x.1.2.2.2.2.1)], []⟩)) (fun t => (prjS tab 0 r02_sign_s1 t).bind fun x => some (x.1.2.2.2.1, x.1.2.2.2.2.2.1)) (fun e t => (if eqE e .ret then orElse ((prjS tab 0 ⟨[(4, .g (.f (.ci .i64 0))), (5, .g (.f (.ci .i64 0)))], []⟩ t).bind fun v => some (.inl ())) (if eqE e (.exit 0) then (prjS tab 0 ⟨[(7, .g (.f (.a (.n .i64)))), (8, .g (.f (.a (.n .i64)))), (9, .g (.f (.a (.n .i64))))], []⟩ t).bind fun v => some (.inr v.1.2.1) else none) else (if eqE e (.exit 0) then (prjS tab 0 ⟨[(7, .g (.f (.a (.n .i64)))), (8, .g (.f (.a (.n .i64)))), (9, .g (.f (.a (.n .i64))))], []⟩ t).bind fun v => some (.inr v.1.2.1) else none))) (fun x => by kernel_rfl) (fun x z => by kernel_rfl) (fun x y k => by rcases y with y | y <;> kernel_rfl) (fun x y => by rcases y with y | y <;> exact nofun) (fun x z => by kernel_rfl) (fun x y => by rcases y with y | y <;> kernel_rfl) (fun x z k => by kernel_rfl)
def r02_sign_p0 : TCode Tb :=
(.seq (.seq (.reg [⟨.mv, [.m 6], some 31, none⟩, ⟨(.bin .geq .i), [.m 31, .k (.n .i64 248)], some 32, none⟩, ⟨.mv, [.m 32], some 33, none⟩, ⟨.mv, [.v 1], some 34, some (33, false)⟩, ⟨.mv, [.v 7], some 35, some (33, false)⟩, ⟨(.bin .add .i), [.m 34, .m 35], some 36, some (33, false)⟩, ⟨.mv, [.v 0], some 37, some (33, false)⟩, ⟨.lens, [.m 37], some 38, some (33, false)⟩, ⟨(.bin .gtr .i), [.m 36, .m 38], some 39, some (33, false)⟩, ⟨.pick, [.m 33, .k (.b true), .m 39], some 40, none⟩] none)
(.drop [34, 35, 36, 37, 38] (.cond 40 (.drop [0, 1, 7, 8, 9, 40] (.seq (.reg [⟨.mv, [.k (.n .i64 0)], some 4, none⟩, ⟨.mv, [.k (.n .i64 0)], some 5, none⟩] none)
.ret))
(.drop [40] .skip))))
(.seq (.seq (.reg [⟨.mv, [.k (.n .i64 1)], some 10, none⟩] none)
(.block 0 (.cut 0 r02_sign_o1 (.loop r02_sign_p1))))
(.seq (.seq (.reg [⟨.mv, [.v 8], some 63, none⟩, ⟨.mv, [.m 9], some 64, none⟩, ⟨(.bin .lss .i), [.m 63, .m 64], some 65, none⟩, ⟨.mv, [.m 65], some 66, none⟩, ⟨.mv, [.v 8], some 67, some (66, false)⟩, ⟨(.bin .gtr .i), [.m 67, .k (.n .i64 1114111)], some 68, some (66, false)⟩, ⟨.pick, [.m 66, .k (.b true), .m 68], some 69, none⟩, ⟨.mv, [.m 69], some 70, none⟩, ⟨.mv, [.v 8], some 71, some (70, false)⟩, ⟨(.bin .geq .i), [.m 71, .k (.n .i64 55296)], some 72, some (70, false)⟩, ⟨.mv, [.m 72], some 73, some (70, false)⟩, ⟨.mv, [.v 8], some 74, some (73, true)⟩, ⟨(.bin .leq .i), [.m 74, .k (.n .i64 57343)], some 75, some (73, true)⟩, ⟨.pick, [.m 73, .m 75, .k (.b false)], some 76, some (70, false)⟩, ⟨.pick, [.m 70, .k (.b true), .m 76], some 77, none⟩] none)
(.drop [67, 71, 72, 73, 74, 75] (.cond 77 (.drop [7, 8, 77] (.seq (.reg [⟨.mv, [.k (.n .i64 0)], some 4, none⟩, ⟨.mv, [.k (.n .i64 0)], some 5, none⟩] none)
.ret))
(.drop [77] .skip))))
(.seq (.reg [⟨.mv, [.m 8], some 78, none⟩, ⟨.mv, [.m 7], some 79, none⟩, ⟨.mv, [.m 78], some 4, none⟩, ⟨.mv, [.m 79], some 5, none⟩] none)
.ret))))
def r02_sign_s0 : SSh := ⟨[(0, .g (.f (.a .s))), (1, .g (.f (.a (.n .i64)))), (6, .g (.f (.a (.n .i64)))), (7, .g (.f (.a (.n .i64)))), (8, .g (.f (.a (.n .i64)))), (9, .g (.f (.a (.n .i64))))], []⟩
def r02_sign_o0 : Cut Tb := cutJ tab 0 r02_sign_s0 (fun _ x k => r02_sign_c0 x.1.1 x.1.2.1 x.1.2.2.1 x.1.2.2.2.1 x.1.2.2.2.2.1 x.1.2.2.2.2.2.1 (fun y19 y20 => k .ret ⟨[(4, .n .i64 y19), (5, .n .i64 y20)], []⟩))
theorem r02_sign_q0 : (r02_sign_o0).Ok Tryd.prog Wp tab 0 r02_sign_p0 := cutJ_ok (c := r02_sign_p0) tabOk r02_sign_rk (cS (cS trivial (cD (cC (cD (cS trivial trivial)) (cD trivial)))) (cS (cS trivial (cB (cT r02_sign_q1))) (cS (cS trivial (cD (cC (cD (cS trivial trivial)) (cD trivial)))) (cS trivial trivial)))) (fun _ _ => by kernel_rfl)
def r02_sign_p : TCode Tb :=
(.seq (.reg [⟨.mv, [.k (.n .i64 0)], some 4, none⟩, ⟨.mv, [.k (.n .i64 0)], some 5, none⟩] none)
(.seq (.reg [⟨.mv, [.v 0], some 12, none⟩, ⟨.mv, [.v 1], some 13, none⟩, ⟨.sidx, [.m 12, .m 13], some 14, none⟩, ⟨(.cint .i64), [.m 14], some 15, none⟩, ⟨.mv, [.m 15], some 6, none⟩] none)
(.seq (.reg [⟨.mv, [.v 6], some 16, none⟩, ⟨.mv, [.k (.n .i64 1)], some 7, none⟩, ⟨.mv, [.m 16], some 8, none⟩, ⟨.mv, [.k (.n .i64 1)], some 9, none⟩] none)
(.seq (.seq (.reg [⟨.mv, [.v 6], some 17, none⟩, ⟨(.bin .geq .i), [.m 17, .k (.n .i64 240)], some 18, none⟩] none)
(.cond 18 (.drop [4, 5, 7, 8, 9, 18] (.reg [⟨.mv, [.v 6], some 19, none⟩, ⟨(.bin .sub .i), [.m 19, .k (.n .i64 240)], some 20, none⟩, ⟨.mv, [.k (.n .i64 4)], some 7, none⟩, ⟨.mv, [.m 20], some 8, none⟩, ⟨.mv, [.k (.n .i64 65536)], some 9, none⟩] none))
(.drop [4, 5, 18] (.seq (.reg [⟨.mv, [.v 6], some 21, none⟩, ⟨(.bin .geq .i), [.m 21, .k (.n .i64 224)], some 22, none⟩] none)
(.cond 22 (.drop [7, 8, 9, 22] (.reg [⟨.mv, [.v 6], some 23, none⟩, ⟨(.bin .sub .i), [.m 23, .k (.n .i64 224)], some 24, none⟩, ⟨.mv, [.k (.n .i64 3)], some 7, none⟩, ⟨.mv, [.m 24], some 8, none⟩, ⟨.mv, [.k (.n .i64 2048)], some 9, none⟩] none))
(.drop [22] (.seq (.reg [⟨.mv, [.v 6], some 25, none⟩, ⟨(.bin .geq .i), [.m 25, .k (.n .i64 192)], some 26, none⟩] none)
(.cond 26 (.drop [7, 8, 9, 26] (.reg [⟨.mv, [.v 6], some 27, none⟩, ⟨(.bin .sub .i), [.m 27, .k (.n .i64 192)], some 28, none⟩, ⟨.mv, [.k (.n .i64 2)], some 7, none⟩, ⟨.mv, [.m 28], some 8, none⟩, ⟨.mv, [.k (.n .i64 128)], some 9, none⟩] none))
(.drop [26] (.seq (.reg [⟨.mv, [.v 6], some 29, none⟩, ⟨(.bin .geq .i), [.m 29, .k (.n .i64 128)], some 30, none⟩] none)
(.cond 30 (.drop [0, 1, 6, 7, 8, 9, 30] (.seq (.reg [⟨.mv, [.k (.n .i64 0)], some 4, none⟩, ⟨.mv, [.k (.n .i64 0)], some 5, none⟩] none)
.ret))
(.drop [30] .skip))))))))))))
(.cut 0 r02_sign_o0 r02_sign_p0)))))
def r02_sign_w : Orc Tb := mkOrc (Y := Int × Int) tab [.g (.f (.a .s)), .g (.f (.a (.n .i64)))] [] (fun x h => r02_sign x.1 x.2.1) (fun _ y k => k (.tup [.n .i64 y.1, .n .i64 y.2]) [])
theorem r02_sign_k : (r02_sign_w).Ok Tryd.prog Wp tab 66 := orc_ok (Y := Int × Int) (orcs := r02_sign_r) (c := r02_sign_p) (res := [.tmp 4, .tmp 5]) (n := 80) (R := (RSp.one (Y := Int × Int) tab (.tup [.f (.a (.n .i64)), .f (.a (.n .i64))]) [] (fun a b => (a.1, a.2.1)) (fun y => (y.1, y.2, ())) (fun y => ()))) tabOk r02_sign_rk (RSp.one_ok tabOk (fun _ _ => by kernel_rfl) (fun _ _ => by kernel_rfl)) Tryd.func66 (by kernel_rfl) (by kernel_rfl) (by kernel_rfl) (by kernel_rfl) (cS trivial (cS trivial (cS trivial (cS (cS trivial (cC (cD trivial) (cD (cS trivial (cC (cD trivial) (cD (cS trivial (cC (cD trivial) (cD (cS trivial (cC (cD (cS trivial trivial)) (cD trivial)))))))))))) (cT r02_sign_q0))))) (fun _ y k => by kernel_rfl) (fun y => by kernel_rfl) (fun x h => by kernel_rfl)
def r02_Runes_r : Orcs Tb := [(66, r02_sign_w)]
theorem r02_Runes_rk : OrcsOk Tryd.prog Wp tab r02_Runes_r := (orcs_cons r02_sign_k orcs_nil)
def r02_Runes_p0 : TCode Tb :=
(.seq (.seq (.reg [⟨.mv, [.v 4], some 10, none⟩, ⟨.mv, [.v 0], some 11, none⟩, ⟨.lens, [.m 11], some 12, none⟩, ⟨(.bin .lss .i), [.m 10, .m 12], some 13, none⟩] none)
(.cond 13 (.drop [13] .skip)
(.drop [0, 4, 13] (.exit 0))))
(.block 1 (.seq (.reg [⟨.mv, [.v 0], some 15, none⟩, ⟨.mv, [.v 4], some 16, none⟩, ⟨(.call (some 66) 0), [.m 15, .m 16], some 17, none⟩, ⟨.mv, [.m 17], some 14, none⟩, ⟨.extm, [.c 14 0], some 18, none⟩, ⟨(.ext 1), [.m 14], some 19, none⟩, ⟨.mv, [.m 18], some 5, none⟩, ⟨.mv, [.m 19], some 6, none⟩] none)
(.seq (.seq (.reg [⟨.mv, [.v 6], some 20, none⟩, ⟨(.bin .eql .i), [.m 20, .k (.n .i64 0)], some 21, none⟩] none)
(.cond 21 (.drop [0, 3, 4, 5, 6, 21] (.seq (.reg [⟨.mv, [.k (.n .i64 (-1))], some 2, none⟩] none)
.ret))
(.drop [5, 21] .skip)))
(.seq (.reg [⟨.mv, [.m 4], some 22, none⟩, ⟨.mv, [.m 6], some 23, none⟩, ⟨(.bin .add .i), [.m 22, .m 23], some 24, none⟩, ⟨.mv, [.m 24], some 4, none⟩] none)
(.reg [⟨.mv, [.m 3], some 25, none⟩, ⟨(.bin .add .i), [.m 25, .k (.n .i64 1)], some 26, none⟩, ⟨.mv, [.m 26], some 3, none⟩] none))))))
def r02_Runes_s0 : SSh := ⟨[(0, .g (.f (.a .s))), (3, .g (.f (.a (.n .i64)))), (4, .g (.f (.a (.n .i64))))], []⟩
def r02_Runes_o0 : Cut Tb := cutL tab 0 r02_Runes_s0 (fun x => (x.1.2.1, x.1.2.2.1)) (fun x => r02_Runes_l0 x.1.1) (fun _ x y k => match y with | .inl y => k .ret ⟨[(2, .n .i64 (-1))], []⟩ | .inr y => k (.exit 0) ⟨[(3, .n .i64 y)], []⟩)
theorem r02_Runes_q0 : (r02_Runes_o0).Ok Tryd.prog Wp tab 0 (.loop r02_Runes_p0) := cutL_ok (c := r02_Runes_p0) (Z := Int × Int) (Y := Unit ⊕ Int) tabOk r02_Runes_rk (cS (cS trivial (cC (cD trivial) (cD trivial))) (cB (cS trivial (cS (cS trivial (cC (cD (cS trivial trivial)) (cD trivial))) (cS trivial trivial))))) (fun _ x z b e => r02_Runes_b0 x.1.1 z.1 z.2 (fun x3 x4 => b (x3, x4)) (e (.inl ())) (fun y7 => e (.inr y7))) (fun x z => ⟨[(0, .s x.1.1), (3, .n .i64 z.1), (4, .n .i64 z.2)], []⟩) (fun x y => match y with | .inl y => (.ret, ⟨[(2, .n .i64 (-1))], []⟩) | .inr y => ((.exit 0), ⟨[(3, .n .i64 y)], []⟩)) (fun t => (prjS tab 0 r02_Runes_s0 t).bind fun x => some (x.1.2.1, x.1.2.2.1)) (fun e t => (if eqE e .ret then orElse ((prjS tab 0 ⟨[(2, .g (.f (.ci .i64 (-1))))], []⟩ t).bind fun v => some (.inl ())) (if eqE e (.exit 0) then (prjS tab 0 ⟨[(3, .g (.f (.a (.n .i64))))], []⟩ t).bind fun v => some (.inr v.1.1) else none) else (if eqE e (.exit 0) then (prjS tab 0 ⟨[(3, .g (.f (.a (.n .i64))))], []⟩ t).bind fun v => some (.inr v.1.1) else none))) (fun x => by kernel_rfl) (fun x z => by kernel_rfl) (fun x y k => by rcases y with y | y <;> kernel_rfl) (fun x y => by rcases y with y | y <;> exact nofun) (fun x z => by kernel_rfl) (fun x y => by rcases y with y | y <;> kernel_rfl) (fun x z k => by kernel_rfl)
def r02_Runes_p : TCode Tb :=
(.seq (.reg [⟨.mv, [.k (.n .i64 0)], some 2, none⟩] none)
(.seq (.seq (.reg [⟨.mv, [.v 0], some 7, none⟩, ⟨.lens, [.m 7], some 8, none⟩, ⟨(.bin .gtr .i), [.m 8, .k (.n .i64 65535)], some 9, none⟩] none)
(.cond 9 (.drop [0, 2, 9] (.seq (.reg [⟨.mv, [.k (.n .i64 (-1))], some 2, none⟩] none)
.ret))
(.drop [2, 9] .skip)))
(.seq (.reg [⟨.mv, [.k (.n .i64 0)], some 3, none⟩] none)
(.seq (.seq (.reg [⟨.mv, [.k (.n .i64 0)], some 4, none⟩] none)
(.block 0 (.cut 0 r02_Runes_o0 (.loop r02_Runes_p0))))
(.seq (.reg [⟨.mv, [.m 3], some 27, none⟩, ⟨.mv, [.m 27], some 2, none⟩] none)
.ret)))))
def r02_Runes_w : Orc Tb := mkOrc (Y := Int) tab [.g (.f (.a .s))] [] (fun x h => r02_Runes x.1) (fun _ y k => k (.n .i64 y) [])
theorem r02_Runes_k : (r02_Runes_w).Ok Tryd.prog Wp tab 58 := orc_ok (Y := Int) (orcs := r02_Runes_r) (c := r02_Runes_p) (res := [.tmp 2]) (n := 28) (R := (RSp.one (Y := Int) tab (.g (.f (.a (.n .i64)))) [] (fun a b => a) (fun y => y) (fun y => ()))) tabOk r02_Runes_rk (RSp.one_ok tabOk (fun _ _ => by kernel_rfl) (fun _ _ => by kernel_rfl)) Tryd.func58 (by kernel_rfl) (by kernel_rfl) (by kernel_rfl) (by kernel_rfl) (cS trivial (cS (cS trivial (cC (cD (cS trivial trivial)) (cD trivial))) (cS trivial (cS (cS trivial (cB (cT r02_Runes_q0))) (cS trivial trivial))))) (fun _ y k => by kernel_rfl) (fun y => by kernel_rfl) (fun x h => by kernel_rfl)
def r02_Right_r : Orcs Tb := [(58, r02_Runes_w)]
theorem r02_Right_rk : OrcsOk Tryd.prog Wp tab r02_Right_r := (orcs_cons r02_Runes_k orcs_nil)
def r02_Right_p : TCode Tb :=
(.seq (.reg [⟨.mv, [.k (.b false)], some 2, none⟩] none)
(.seq (.reg [⟨.mv, [.m 0], some 3, none⟩, ⟨(.call (some 58) 0), [.m 3], some 4, none⟩, ⟨(.bin .geq .i), [.m 4, .k (.n .i64 0)], some 5, none⟩, ⟨.mv, [.m 5], some 2, none⟩] none)
.ret))
def r02_Right_w : Orc Tb := mkOrc (Y := Bool) tab [.g (.f (.a .s))] [] (fun x h => r02_Right x.1) (fun _ y k => k (.b y) [])
theorem r02_Right_k : (r02_Right_w).Ok Tryd.prog Wp tab 42 := orc_ok (Y := Bool) (orcs := r02_Right_r) (c := r02_Right_p) (res := [.tmp 2]) (n := 6) (R := (RSp.one (Y := Bool) tab (.g (.f (.a .b))) [] (fun a b => a) (fun y => y) (fun y => ()))) tabOk r02_Right_rk (RSp.one_ok tabOk (fun _ _ => by kernel_rfl) (fun _ _ => by kernel_rfl)) Tryd.func42 (by kernel_rfl) (by kernel_rfl) (by kernel_rfl) (by kernel_rfl) (cS trivial (cS trivial trivial)) (fun _ y k => by kernel_rfl) (fun y => by kernel_rfl) (fun x h => by kernel_rfl)
def r05_Right_r : Orcs Tb := [(12, r05_Type_w), (42, r02_Right_w)]
theorem r05_Right_rk : OrcsOk Tryd.prog Wp tab r05_Right_r := (orcs_cons r05_Type_k (orcs_cons r02_Right_k orcs_nil))
def r05_Right_p0 : TCode Tb :=
(.seq (.seq (.reg [⟨(.fa 0), [.v 1], some 12, none⟩, ⟨(.load none), [.m 12], some 13, none⟩, ⟨(.call (some 12) 0), [.m 13], some 14, none⟩] none)
(.block 0 (.seq (.reg [⟨(.bin .eql .i), [.v 14, .k (.n .i64 1)], some 16, none⟩, ⟨.mv, [.m 16], some 15, none⟩] none)
(.cond 15 (.drop [14, 15] (.seq (.reg [⟨(.fa 1), [.m 1], some 17, none⟩, ⟨(.load none), [.m 17], some 18, none⟩, ⟨(.bin .lss .i), [.m 18, .k (.u32 (256 : UInt32))], some 19, none⟩, ⟨.mv, [.m 19], some 20, none⟩, ⟨.mv, [.m 3], some 21, some (20, true)⟩, ⟨.pick, [.m 20, .m 21, .k (.b false)], some 22, none⟩, ⟨.mv, [.m 22], some 2, none⟩] none)
(.drop [3] .ret)))
(.drop [15] (.seq (.reg [⟨(.bin .eql .i), [.v 14, .k (.n .i64 2)], some 24, none⟩, ⟨.mv, [.m 24], some 23, none⟩] none)
(.cond 23 (.drop [14, 23] (.seq (.reg [⟨(.fa 1), [.m 1], some 25, none⟩, ⟨(.load none), [.m 25], some 26, none⟩, ⟨(.bin .lss .i), [.m 26, .k (.u32 (65536 : UInt32))], some 27, none⟩, ⟨.mv, [.m 27], some 28, none⟩, ⟨.mv, [.m 3], some 29, some (28, true)⟩, ⟨.pick, [.m 28, .m 29, .k (.b false)], some 30, none⟩, ⟨.mv, [.m 30], some 2, none⟩] none)
(.drop [3] .ret)))
(.drop [23] (.seq (.reg [⟨(.bin .eql .i), [.v 14, .k (.n .i64 3)], some 32, none⟩, ⟨.mv, [.m 32], some 31, none⟩] none)
(.cond 31 (.drop [1, 14, 31] (.seq (.reg [⟨.mv, [.m 3], some 33, none⟩, ⟨.mv, [.m 33], some 2, none⟩] none)
.ret))
(.drop [31] (.seq (.reg [⟨(.bin .eql .i), [.v 14, .k (.n .i64 4)], some 35, none⟩, ⟨.mv, [.m 35], some 34, none⟩] none)
(.cond 34 (.drop [14, 34] (.seq (.reg [⟨(.fa 1), [.m 1], some 36, none⟩, ⟨(.load none), [.m 36], some 37, none⟩, ⟨(.bin .lss .i), [.m 37, .k (.u32 (268435456 : UInt32))], some 38, none⟩, ⟨.mv, [.m 38], some 39, none⟩, ⟨.mv, [.m 3], some 40, some (39, true)⟩, ⟨.pick, [.m 39, .m 40, .k (.b false)], some 41, none⟩, ⟨.mv, [.m 41], some 2, none⟩] none)
(.drop [3] .ret)))
(.drop [3, 34] (.seq (.reg [⟨(.bin .eql .i), [.v 14, .k (.n .i64 5)], some 43, none⟩, ⟨.mv, [.m 43], some 42, none⟩] none)
(.cond 42 (.drop [14, 42] (.seq (.reg [⟨(.fa 1), [.v 1], some 44, none⟩, ⟨(.load none), [.m 44], some 45, none⟩, ⟨(.bin .eql .i), [.m 45, .k (.u32 (0 : UInt32))], some 46, none⟩, ⟨.mv, [.m 46], some 47, none⟩, ⟨(.fa 2), [.v 1], some 48, some (47, true)⟩, ⟨(.load none), [.m 48], some 49, some (47, true)⟩, ⟨(.call (some 42) 1), [.m 49], some 50, some (47, true)⟩, ⟨.pick, [.m 47, .m 50, .k (.b false)], some 51, none⟩, ⟨.mv, [.m 51], some 52, none⟩, ⟨(.fa 3), [.m 1], some 53, some (52, true)⟩, ⟨(.load none), [.m 53], some 54, some (52, true)⟩, ⟨(.bin .eql .s), [.m 54, .k (.s [])], some 55, some (52, true)⟩, ⟨.pick, [.m 52, .m 55, .k (.b false)], some 56, none⟩, ⟨.mv, [.m 56], some 2, none⟩] none)
(.drop [1, 48, 49, 53, 54] .ret)))
(.drop [42] (.seq (.reg [⟨(.bin .eql .i), [.v 14, .k (.n .i64 6)], some 58, none⟩, ⟨.mv, [.m 58], some 57, none⟩] none)
(.cond 57 (.drop [14, 57] (.seq (.reg [⟨(.fa 1), [.v 1], some 59, none⟩, ⟨(.load none), [.m 59], some 60, none⟩, ⟨(.bin .eql .i), [.m 60, .k (.u32 (0 : UInt32))], some 61, none⟩, ⟨.mv, [.m 61], some 62, none⟩, ⟨(.fa 2), [.v 1], some 63, some (62, true)⟩, ⟨(.load none), [.m 63], some 64, some (62, true)⟩, ⟨.lens, [.m 64], some 65, some (62, true)⟩, ⟨(.bin .leq .i), [.m 65, .k (.n .i64 65535)], some 66, some (62, true)⟩, ⟨.pick, [.m 62, .m 66, .k (.b false)], some 67, none⟩, ⟨.mv, [.m 67], some 68, none⟩, ⟨(.fa 3), [.m 1], some 69, some (68, true)⟩, ⟨(.load none), [.m 69], some 70, some (68, true)⟩, ⟨(.bin .eql .s), [.m 70, .k (.s [])], some 71, some (68, true)⟩, ⟨.pick, [.m 68, .m 71, .k (.b false)], some 72, none⟩, ⟨.mv, [.m 72], some 2, none⟩] none)
(.drop [1, 63, 64, 65, 69, 70] .ret)))
(.drop [57] (.seq (.reg [⟨(.bin .eql .i), [.m 14, .k (.n .i64 7)], some 74, none⟩, ⟨.mv, [.m 74], some 73, none⟩] none)
(.cond 73 (.drop [73] (.seq (.reg [⟨(.fa 1), [.v 1], some 75, none⟩, ⟨(.load none), [.m 75], some 76, none⟩, ⟨(.bin .eql .i), [.m 76, .k (.u32 (0 : UInt32))], some 77, none⟩, ⟨.mv, [.m 77], some 78, none⟩, ⟨(.fa 2), [.v 1], some 79, some (78, true)⟩, ⟨(.load none), [.m 79], some 80, some (78, true)⟩, ⟨(.call (some 42) 1), [.m 80], some 81, some (78, true)⟩, ⟨.pick, [.m 78, .m 81, .k (.b false)], some 82, none⟩, ⟨.mv, [.m 82], some 83, none⟩, ⟨(.fa 3), [.m 1], some 84, some (83, true)⟩, ⟨(.load none), [.m 84], some 85, some (83, true)⟩, ⟨(.call (some 42) 1), [.m 85], some 86, some (83, true)⟩, ⟨.pick, [.m 83, .m 86, .k (.b false)], some 87, none⟩, ⟨.mv, [.m 87], some 2, none⟩] none)
(.drop [1, 79, 80, 84, 85] .ret)))
(.drop [1, 73] .skip)))))))))))))))))))))))
(.seq (.reg [⟨.mv, [.k (.b false)], some 2, none⟩] none)
.ret))
def r05_Right_s0 : SSh := ⟨[(1, .g (.f (.ref 0 0))), (3, .g (.f (.a .b)))], [[.g (.f (.a .u8)), .g (.f (.a .u32)), .g (.f (.a .s)), .g (.f (.a .s))]]⟩
def r05_Right_o0 : Cut Tb := cutJ tab 0 r05_Right_s0 (fun _ x k => r05_Right_c0 x.1.2.1 (⟨x.2.1.1, x.2.1.2.1, x.2.1.2.2.1, x.2.1.2.2.2.1⟩ : r05_Prop) (fun y8 => k .ret ⟨[(2, .b y8)], [[.u8 ((⟨x.2.1.1, x.2.1.2.1, x.2.1.2.2.1, x.2.1.2.2.2.1⟩ : r05_Prop).Id), .u32 ((⟨x.2.1.1, x.2.1.2.1, x.2.1.2.2.1, x.2.1.2.2.2.1⟩ : r05_Prop).N), .s ((⟨x.2.1.1, x.2.1.2.1, x.2.1.2.2.1, x.2.1.2.2.2.1⟩ : r05_Prop).A), .s ((⟨x.2.1.1, x.2.1.2.1, x.2.1.2.2.1, x.2.1.2.2.2.1⟩ : r05_Prop).B)]]⟩))
theorem r05_Right_q0 : (r05_Right_o0).Ok Tryd.prog Wp tab 0 r05_Right_p0 := cutJ_ok (c := r05_Right_p0) tabOk r05_Right_rk (cS (cS trivial (cB (cS trivial (cC (cD (cS trivial (cD trivial))) (cD (cS trivial (cC (cD (cS trivial (cD trivial))) (cD (cS trivial (cC (cD (cS trivial trivial)) (cD (cS trivial (cC (cD (cS trivial (cD trivial))) (cD (cS trivial (cC (cD (cS trivial (cD trivial))) (cD (cS trivial (cC (cD (cS trivial (cD trivial))) (cD (cS trivial (cC (cD (cS trivial (cD trivial))) (cD trivial))))))))))))))))))))))) (cS trivial trivial)) (fun _ _ => by kernel_rfl)
def r05_Right_p : TCode Tb :=
(.seq (.reg [⟨.box, [.m 0], some 1, none⟩, ⟨.mv, [.k (.b false)], some 2, none⟩] none)
(.seq (.reg [⟨(.fa 2), [.v 1], some 4, none⟩, ⟨(.load none), [.m 4], some 5, none⟩, ⟨(.bin .eql .s), [.m 5, .k (.s [])], some 6, none⟩, ⟨.mv, [.m 6], some 7, none⟩, ⟨(.fa 3), [.v 1], some 8, some (7, true)⟩, ⟨(.load none), [.m 8], some 9, some (7, true)⟩, ⟨(.bin .eql .s), [.m 9, .k (.s [])], some 10, some (7, true)⟩, ⟨.pick, [.m 7, .m 10, .k (.b false)], some 11, none⟩, ⟨.mv, [.m 11], some 3, none⟩] none)
(.drop [2, 8, 9] (.cut 0 r05_Right_o0 r05_Right_p0))))
def r05_Right_w : Orc Tb := mkOrc (Y := Bool) tab [.g (.st 3)] [] (fun x h => r05_Right (⟨x.1.Id, x.1.N, x.1.A, x.1.B⟩ : r05_Prop)) (fun _ y k => k (.b y) [])
theorem r05_Right_k : (r05_Right_w).Ok Tryd.prog Wp tab 19 := orc_ok (Y := Bool) (orcs := r05_Right_r) (c := r05_Right_p) (res := [.tmp 2]) (n := 88) (R := (RSp.one (Y := Bool) tab (.g (.f (.a .b))) [] (fun a b => a) (fun y => y) (fun y => ()))) tabOk r05_Right_rk (RSp.one_ok tabOk (fun _ _ => by kernel_rfl) (fun _ _ => by kernel_rfl)) Tryd.func19 (by kernel_rfl) (by kernel_rfl) (by kernel_rfl) (by kernel_rfl) (cS trivial (cS trivial (cD (cT r05_Right_q0)))) (fun _ y k => by kernel_rfl) (fun y => by kernel_rfl) (fun x h => by kernel_rfl)
def r04_has_r : Orcs Tb := []
theorem r04_has_rk : OrcsOk Tryd.prog Wp tab r04_has_r := orcs_nil
def r04_has_p0 : TCode Tb :=
(.seq (.seq (.reg [⟨.mv, [.v 5], some 6, none⟩, ⟨.mv, [.v 0], some 7, none⟩, ⟨.lens, [.m 7], some 8, none⟩, ⟨(.bin .lss .i), [.m 6, .m 8], some 9, none⟩] none)
(.cond 9 (.drop [9] .skip)
(.drop [0, 1, 5, 9] (.exit 0))))
(.seq (.block 1 (.seq (.reg [⟨.mv, [.v 0], some 12, none⟩, ⟨.mv, [.v 5], some 13, none⟩, ⟨.sidx, [.m 12, .m 13], some 14, none⟩, ⟨.mv, [.v 1], some 15, none⟩, ⟨(.bin .eql .i), [.m 14, .m 15], some 16, none⟩] none)
(.cond 16 (.drop [0, 1, 5, 16] (.seq (.reg [⟨.mv, [.k (.b true)], some 4, none⟩] none)
.ret))
(.drop [16] .skip))))
(.reg [⟨.mv, [.m 5], some 10, none⟩, ⟨(.bin .add .i), [.m 10, .k (.n .i64 1)], some 11, none⟩, ⟨.mv, [.m 11], some 5, none⟩] none)))
def r04_has_s0 : SSh := ⟨[(0, .g (.f (.a .s))), (1, .g (.f (.a .u8))), (5, .g (.f (.a (.n .i64))))], []⟩
def r04_has_o0 : Cut Tb := cutL tab 0 r04_has_s0 (fun x => x.1.2.2.1) (fun x => r04_has_l0 x.1.1 x.1.2.1) (fun _ x y k => match y with | .inl y => k .ret ⟨[(4, .b true)], []⟩ | .inr y => k (.exit 0) ⟨[], []⟩)
theorem r04_has_q0 : (r04_has_o0).Ok Tryd.prog Wp tab 0 (.loop r04_has_p0) := cutL_ok (c := r04_has_p0) (Z := Int) (Y := Unit ⊕ Unit) tabOk r04_has_rk (cS (cS trivial (cC (cD trivial) (cD trivial))) (cS (cB (cS trivial (cC (cD (cS trivial trivial)) (cD trivial)))) trivial)) (fun _ x z b e => r04_has_b0 x.1.1 x.1.2.1 z (fun x5 => b x5) (e (.inl ())) (e (.inr ()))) (fun x z => ⟨[(0, .s x.1.1), (1, .u8 x.1.2.1), (5, .n .i64 z)], []⟩) (fun x y => match y with | .inl y => (.ret, ⟨[(4, .b true)], []⟩) | .inr y => ((.exit 0), ⟨[], []⟩)) (fun t => (prjS tab 0 r04_has_s0 t).bind fun x => some x.1.2.2.1) (fun e t => (if eqE e .ret then orElse ((prjS tab 0 ⟨[(4, .g (.f (.cb true)))], []⟩ t).bind fun v => some (.inl ())) (if eqE e (.exit 0) then (prjS tab 0 ⟨[], []⟩ t).bind fun v => some (.inr ()) else none) else (if eqE e (.exit 0) then (prjS tab 0 ⟨[], []⟩ t).bind fun v => some (.inr ()) else none))) (fun x => by kernel_rfl) (fun x z => by kernel_rfl) (fun x y k => by rcases y with y | y <;> kernel_rfl) (fun x y => by rcases y with y | y <;> exact nofun) (fun x z => by kernel_rfl) (fun x y => by rcases y with y | y <;> kernel_rfl) (fun x z k => by kernel_rfl)
def r04_has_p : TCode Tb :=
(.seq (.reg [⟨.mv, [.k (.b false)], some 4, none⟩] none)
(.seq (.seq (.reg [⟨.mv, [.k (.n .i64 0)], some 5, none⟩] none)
(.block 0 (.drop [4] (.cut 0 r04_has_o0 (.loop r04_has_p0)))))
(.seq (.reg [⟨.mv, [.k (.b false)], some 4, none⟩] none)
.ret)))
def r04_has_w : Orc Tb := mkOrc (Y := Bool) tab [.g (.f (.a .s)), .g (.f (.a .u8))] [] (fun x h => r04_has x.1 x.2.1) (fun _ y k => k (.b y) [])
theorem r04_has_k : (r04_has_w).Ok Tryd.prog Wp tab 51 := orc_ok (Y := Bool) (orcs := r04_has_r) (c := r04_has_p) (res := [.tmp 4]) (n := 17) (R := (RSp.one (Y := Bool) tab (.g (.f (.a .b))) [] (fun a b => a) (fun y => y) (fun y => ()))) tabOk r04_has_rk (RSp.one_ok tabOk (fun _ _ => by kernel_rfl) (fun _ _ => by kernel_rfl)) Tryd.func51 (by kernel_rfl) (by kernel_rfl) (by kernel_rfl) (by kernel_rfl) (cS trivial (cS (cS trivial (cB (cD (cT r04_has_q0)))) (cS trivial trivial))) (fun _ y k => by kernel_rfl) (fun y => by kernel_rfl) (fun x h => by kernel_rfl)
def r04_Wild_r : Orcs Tb := [(51, r04_has_w)]
theorem r04_Wild_rk : OrcsOk Tryd.prog Wp tab r04_Wild_r := (orcs_cons r04_has_k orcs_nil)
def r04_Wild_p : TCode Tb :=
(.seq (.reg [⟨.mv, [.k (.b false)], some 2, none⟩] none)
(.seq (.reg [⟨.mv, [.v 0], some 3, none⟩, ⟨(.call (some 51) 0), [.m 3, .k (.u8 (43 : UInt8))], some 4, none⟩, ⟨.mv, [.m 4], some 5, none⟩, ⟨.mv, [.m 0], some 6, some (5, false)⟩, ⟨(.call (some 51) 0), [.m 6, .k (.u8 (35 : UInt8))], some 7, some (5, false)⟩, ⟨.pick, [.m 5, .k (.b true), .m 7], some 8, none⟩, ⟨.mv, [.m 8], some 2, none⟩] none)
(.drop [0, 6] .ret)))
def r04_Wild_w : Orc Tb := mkOrc (Y := Bool) tab [.g (.f (.a .s))] [] (fun x h => r04_Wild x.1) (fun _ y k => k (.b y) [])
theorem r04_Wild_k : (r04_Wild_w).Ok Tryd.prog Wp tab 32 := orc_ok (Y := Bool) (orcs := r04_Wild_r) (c := r04_Wild_p) (res := [.tmp 2]) (n := 9) (R := (RSp.one (Y := Bool) tab (.g (.f (.a .b))) [] (fun a b => a) (fun y => y) (fun y => ()))) tabOk r04_Wild_rk (RSp.one_ok tabOk (fun _ _ => by kernel_rfl) (fun _ _ => by kernel_rfl)) Tryd.func32 (by kernel_rfl) (by kernel_rfl) (by kernel_rfl) (by kernel_rfl) (cS trivial (cS trivial (cD trivial))) (fun _ y k => by kernel_rfl) (fun y => by kernel_rfl) (fun x h => by kernel_rfl)
def r04_Name_r : Orcs Tb := [(42, r02_Right_w), (32, r04_Wild_w)]
theorem r04_Name_rk : OrcsOk Tryd.prog Wp tab r04_Name_r := (orcs_cons r02_Right_k (orcs_cons r04_Wild_k orcs_nil))
def r04_Name_p : TCode Tb :=
(.seq (.reg [⟨.mv, [.k (.b false)], some 2, none⟩] none)
(.seq (.reg [⟨.mv, [.v 0], some 3, none⟩, ⟨(.call (some 42) 0), [.m 3], some 4, none⟩, ⟨.mv, [.m 4], some 5, none⟩, ⟨.mv, [.v 0], some 6, some (5, true)⟩, ⟨.lens, [.m 6], some 7, some (5, true)⟩, ⟨(.bin .gtr .i), [.m 7, .k (.n .i64 0)], some 8, some (5, true)⟩, ⟨.pick, [.m 5, .m 8, .k (.b false)], some 9, none⟩, ⟨.mv, [.m 9], some 10, none⟩, ⟨.mv, [.m 0], some 11, some (10, true)⟩, ⟨(.call (some 32) 1), [.m 11], some 12, some (10, true)⟩, ⟨(.un .not), [.m 12], some 13, some (10, true)⟩, ⟨.pick, [.m 10, .m 13, .k (.b false)], some 14, none⟩, ⟨.mv, [.m 14], some 2, none⟩] none)
(.drop [0, 6, 7, 11, 12] .ret)))
def r04_Name_w : Orc Tb := mkOrc (Y := Bool) tab [.g (.f (.a .s))] [] (fun x h => r04_Name x.1) (fun _ y k => k (.b y) [])
theorem r04_Name_k : (r04_Name_w).Ok Tryd.prog Wp tab 28 := orc_ok (Y := Bool) (orcs := r04_Name_r) (c := r04_Name_p) (res := [.tmp 2]) (n := 15) (R := (RSp.one (Y := Bool) tab (.g (.f (.a .b))) [] (fun a b => a) (fun y => y) (fun y => ()))) tabOk r04_Name_rk (RSp.one_ok tabOk (fun _ _ => by kernel_rfl) (fun _ _ => by kernel_rfl)) Tryd.func28 (by kernel_rfl) (by kernel_rfl) (by kernel_rfl) (by kernel_rfl) (cS trivial (cS trivial (cD trivial))) (fun _ y k => by kernel_rfl) (fun y => by kernel_rfl) (fun x h => by kernel_rfl)
def r05_Value_r : Orcs Tb := [(19, r05_Right_w), (28, r04_Name_w)]
theorem r05_Value_rk : OrcsOk Tryd.prog Wp tab r05_Value_r := (orcs_cons r05_Right_k (orcs_cons r04_Name_k orcs_nil))
def r05_Value_p1 : TCode Tb :=
(.cond 20 (.drop [7, 20] (.seq (.reg [⟨(.fa 1), [.m 1], some 25, none⟩, ⟨(.load none), [.m 25], some 26, none⟩, ⟨(.bin .neq .i), [.m 26, .k (.u32 (0 : UInt32))], some 27, none⟩, ⟨.mv, [.m 27], some 2, none⟩] none)
.ret))
(.drop [20] (.seq (.reg [⟨(.bin .eql .i), [.m 7, .k (.u8 (8 : UInt8))], some 29, none⟩, ⟨.mv, [.m 29], some 28, none⟩] none)
(.cond 28 (.drop [28] (.seq (.reg [⟨(.fa 2), [.m 1], some 30, none⟩, ⟨(.load none), [.m 30], some 31, none⟩, ⟨(.call (some 28) 1), [.m 31], some 32, none⟩, ⟨.mv, [.m 32], some 2, none⟩] none)
.ret))
(.drop [1, 28] .skip)))))
def r05_Value_s1 : SSh := ⟨[(1, .g (.f (.ref 0 0))), (7, .g (.f (.a .u8))), (20, .g (.f (.a .b)))], [[.g (.f (.a .u8)), .g (.f (.a .u32)), .g (.f (.a .s)), .g (.f (.a .s))]]⟩
def r05_Value_o1 : Cut Tb := cutJ tab 0 r05_Value_s1 (fun _ x k => r05_Value_c1 x.1.2.1 x.1.2.2.1 (⟨x.2.1.1, x.2.1.2.1, x.2.1.2.2.1, x.2.1.2.2.2.1⟩ : r05_Prop) (fun y10 => k .ret ⟨[(2, .b y10)], [[.u8 ((⟨x.2.1.1, x.2.1.2.1, x.2.1.2.2.1, x.2.1.2.2.2.1⟩ : r05_Prop).Id), .u32 ((⟨x.2.1.1, x.2.1.2.1, x.2.1.2.2.1, x.2.1.2.2.2.1⟩ : r05_Prop).N), .s ((⟨x.2.1.1, x.2.1.2.1, x.2.1.2.2.1, x.2.1.2.2.2.1⟩ : r05_Prop).A), .s ((⟨x.2.1.1, x.2.1.2.1, x.2.1.2.2.1, x.2.1.2.2.2.1⟩ : r05_Prop).B)]]⟩) (k .normal ⟨[], [[.u8 ((⟨x.2.1.1, x.2.1.2.1, x.2.1.2.2.1, x.2.1.2.2.2.1⟩ : r05_Prop).Id), .u32 ((⟨x.2.1.1, x.2.1.2.1, x.2.1.2.2.1, x.2.1.2.2.2.1⟩ : r05_Prop).N), .s ((⟨x.2.1.1, x.2.1.2.1, x.2.1.2.2.1, x.2.1.2.2.2.1⟩ : r05_Prop).A), .s ((⟨x.2.1.1, x.2.1.2.1, x.2.1.2.2.1, x.2.1.2.2.2.1⟩ : r05_Prop).B)]]⟩))
theorem r05_Value_q1 : (r05_Value_o1).Ok Tryd.prog Wp tab 0 r05_Value_p1 := cutJ_ok (c := r05_Value_p1) tabOk r05_Value_rk (cC (cD (cS trivial trivial)) (cD (cS trivial (cC (cD (cS trivial trivial)) (cD trivial))))) (fun _ _ => by kernel_rfl)
def r05_Value_p0 : TCode Tb :=
(.cond 8 (.drop [7, 8] (.seq (.reg [⟨(.fa 1), [.m 1], some 17, none⟩, ⟨(.load none), [.m 17], some 18, none⟩, ⟨(.bin .lss .i), [.m 18, .k (.u32 (2 : UInt32))], some 19, none⟩, ⟨.mv, [.m 19], some 2, none⟩] none)
.ret))
(.drop [8] (.seq (.seq (.reg [⟨(.bin .eql .i), [.v 7, .k (.u8 (11 : UInt8))], some 21, none⟩, ⟨.mv, [.m 21], some 20, none⟩] none)
(.cond 20 .skip
(.drop [20] (.seq (.reg [⟨(.bin .eql .i), [.v 7, .k (.u8 (33 : UInt8))], some 22, none⟩, ⟨.mv, [.m 22], some 20, none⟩] none)
(.cond 20 .skip
(.drop [20] (.seq (.reg [⟨(.bin .eql .i), [.v 7, .k (.u8 (35 : UInt8))], some 23, none⟩, ⟨.mv, [.m 23], some 20, none⟩] none)
(.cond 20 .skip
(.drop [20] (.reg [⟨(.bin .eql .i), [.v 7, .k (.u8 (39 : UInt8))], some 24, none⟩, ⟨.mv, [.m 24], some 20, none⟩] none))))))))))
(.cut 0 r05_Value_o1 r05_Value_p1))))
def r05_Value_s0 : SSh := ⟨[(1, .g (.f (.ref 0 0))), (7, .g (.f (.a .u8))), (8, .g (.f (.a .b)))], [[.g (.f (.a .u8)), .g (.f (.a .u32)), .g (.f (.a .s)), .g (.f (.a .s))]]⟩
def r05_Value_o0 : Cut Tb := cutJ tab 0 r05_Value_s0 (fun _ x k => r05_Value_c0 x.1.2.1 x.1.2.2.1 (⟨x.2.1.1, x.2.1.2.1, x.2.1.2.2.1, x.2.1.2.2.2.1⟩ : r05_Prop) (fun y15 => k .ret ⟨[(2, .b y15)], [[.u8 ((⟨x.2.1.1, x.2.1.2.1, x.2.1.2.2.1, x.2.1.2.2.2.1⟩ : r05_Prop).Id), .u32 ((⟨x.2.1.1, x.2.1.2.1, x.2.1.2.2.1, x.2.1.2.2.2.1⟩ : r05_Prop).N), .s ((⟨x.2.1.1, x.2.1.2.1, x.2.1.2.2.1, x.2.1.2.2.2.1⟩ : r05_Prop).A), .s ((⟨x.2.1.1, x.2.1.2.1, x.2.1.2.2.1, x.2.1.2.2.2.1⟩ : r05_Prop).B)]]⟩) (k .normal ⟨[], [[.u8 ((⟨x.2.1.1, x.2.1.2.1, x.2.1.2.2.1, x.2.1.2.2.2.1⟩ : r05_Prop).Id), .u32 ((⟨x.2.1.1, x.2.1.2.1, x.2.1.2.2.1, x.2.1.2.2.2.1⟩ : r05_Prop).N), .s ((⟨x.2.1.1, x.2.1.2.1, x.2.1.2.2.1, x.2.1.2.2.2.1⟩ : r05_Prop).A), .s ((⟨x.2.1.1, x.2.1.2.1, x.2.1.2.2.1, x.2.1.2.2.2.1⟩ : r05_Prop).B)]]⟩))
theorem r05_Value_q0 : (r05_Value_o0).Ok Tryd.prog Wp tab 0 r05_Value_p0 := cutJ_ok (c := r05_Value_p0) tabOk r05_Value_rk (cC (cD (cS trivial trivial)) (cD (cS (cS trivial (cC trivial (cD (cS trivial (cC trivial (cD (cS trivial (cC trivial (cD trivial))))))))) (cT r05_Value_q1)))) (fun _ _ => by kernel_rfl)
def r05_Value_p : TCode Tb :=
(.seq (.reg [⟨.box, [.m 0], some 1, none⟩, ⟨.mv, [.k (.b false)], some 2, none⟩] none)
(.seq (.seq (.reg [⟨(.load (some 4)), [.v 1], some 3, none⟩, ⟨(.call (some 19) 0), [.m 3], some 4, none⟩, ⟨(.un .not), [.m 4], some 5, none⟩] none)
(.cond 5 (.drop [1, 2, 5] (.seq (.reg [⟨.mv, [.k (.b false)], some 2, none⟩] none)
.ret))
(.drop [2, 5] .skip)))
(.seq (.seq (.reg [⟨(.fa 0), [.v 1], some 6, none⟩, ⟨(.load none), [.m 6], some 7, none⟩] none)
(.block 0 (.seq (.seq (.reg [⟨(.bin .eql .i), [.v 7, .k (.u8 (1 : UInt8))], some 9, none⟩, ⟨.mv, [.m 9], some 8, none⟩] none)
(.cond 8 .skip
(.drop [8] (.seq (.reg [⟨(.bin .eql .i), [.v 7, .k (.u8 (23 : UInt8))], some 10, none⟩, ⟨.mv, [.m 10], some 8, none⟩] none)
(.cond 8 .skip
(.drop [8] (.seq (.reg [⟨(.bin .eql .i), [.v 7, .k (.u8 (25 : UInt8))], some 11, none⟩, ⟨.mv, [.m 11], some 8, none⟩] none)
(.cond 8 .skip
(.drop [8] (.seq (.reg [⟨(.bin .eql .i), [.v 7, .k (.u8 (36 : UInt8))], some 12, none⟩, ⟨.mv, [.m 12], some 8, none⟩] none)
(.cond 8 .skip
(.drop [8] (.seq (.reg [⟨(.bin .eql .i), [.v 7, .k (.u8 (37 : UInt8))], some 13, none⟩, ⟨.mv, [.m 13], some 8, none⟩] none)
(.cond 8 .skip
(.drop [8] (.seq (.reg [⟨(.bin .eql .i), [.v 7, .k (.u8 (40 : UInt8))], some 14, none⟩, ⟨.mv, [.m 14], some 8, none⟩] none)
(.cond 8 .skip
(.drop [8] (.seq (.reg [⟨(.bin .eql .i), [.v 7, .k (.u8 (41 : UInt8))], some 15, none⟩, ⟨.mv, [.m 15], some 8, none⟩] none)
(.cond 8 .skip
(.drop [8] (.reg [⟨(.bin .eql .i), [.v 7, .k (.u8 (42 : UInt8))], some 16, none⟩, ⟨.mv, [.m 16], some 8, none⟩] none))))))))))))))))))))))
(.cut 0 r05_Value_o0 r05_Value_p0))))
(.seq (.reg [⟨.mv, [.k (.b true)], some 2, none⟩] none)
.ret))))
def r05_Value_w : Orc Tb := mkOrc (Y := Bool) tab [.g (.st 3)] [] (fun x h => r05_Value (⟨x.1.Id, x.1.N, x.1.A, x.1.B⟩ : r05_Prop)) (fun _ y k => k (.b y) [])
theorem r05_Value_k : (r05_Value_w).Ok Tryd.prog Wp tab 21 := orc_ok (Y := Bool) (orcs := r05_Value_r) (c := r05_Value_p) (res := [.tmp 2]) (n := 33) (R := (RSp.one (Y := Bool) tab (.g (.f (.a .b))) [] (fun a b => a) (fun y => y) (fun y => ()))) tabOk r05_Value_rk (RSp.one_ok tabOk (fun _ _ => by kernel_rfl) (fun _ _ => by kernel_rfl)) Tryd.func21 (by kernel_rfl) (by kernel_rfl) (by kernel_rfl) (by kernel_rfl) (cS trivial (cS (cS trivial (cC (cD (cS trivial trivial)) (cD trivial))) (cS (cS trivial (cB (cS (cS trivial (cC trivial (cD (cS trivial (cC trivial (cD (cS trivial (cC trivial (cD (cS trivial (cC trivial (cD (cS trivial (cC trivial (cD (cS trivial (cC trivial (cD (cS trivial (cC trivial (cD trivial))))))))))))))))))))) (cT r05_Value_q0)))) (cS trivial trivial)))) (fun _ y k => by kernel_rfl) (fun y => by kernel_rfl) (fun x h => by kernel_rfl)
def l05_PropValues_r : Orcs Tb := [(10, l05_told_w), (18, l05_To_w), (17, prop_Right_w), (19, r05_Right_w), (20, prop_Value_w), (21, r05_Value_w)]
theorem l05_PropValues_rk : OrcsOk Tryd.prog Wp tab l05_PropValues_r := (orcs_cons l05_told_k (orcs_cons l05_To_k (orcs_cons prop_Right_k (orcs_cons r05_Right_k (orcs_cons prop_Value_k (orcs_cons r05_Value_k orcs_nil))))))
def l05_PropValues_p0 : TCode Tb :=
(.cond 12 (.drop [1, 12] (.seq (.reg [⟨(.call (some 10) 0), [], some 13, none⟩, ⟨.mv, [.m 13], some 2, none⟩] none)
.ret))
(.drop [12] .skip))
def l05_PropValues_s0 : SSh := ⟨[(1, .g (.f (.ref 0 0))), (12, .g (.f (.a .b)))], [[.g (.f (.a .u8)), .g (.f (.a .u32)), .g (.f (.a .s)), .g (.f (.a .s))]]⟩
def l05_PropValues_o0 : Cut Tb := cutJ tab 0 l05_PropValues_s0 (fun _ x k => l05_PropValues_c0 x.1.2.1 (fun y5 => k .ret ⟨[(2, .b y5)], [[.u8 ((⟨x.2.1.1, x.2.1.2.1, x.2.1.2.2.1, x.2.1.2.2.2.1⟩ : r05_Prop).Id), .u32 ((⟨x.2.1.1, x.2.1.2.1, x.2.1.2.2.1, x.2.1.2.2.2.1⟩ : r05_Prop).N), .s ((⟨x.2.1.1, x.2.1.2.1, x.2.1.2.2.1, x.2.1.2.2.2.1⟩ : r05_Prop).A), .s ((⟨x.2.1.1, x.2.1.2.1, x.2.1.2.2.1, x.2.1.2.2.2.1⟩ : r05_Prop).B)]]⟩) (k .normal ⟨[(1, .ref 0 0)], [[.u8 ((⟨x.2.1.1, x.2.1.2.1, x.2.1.2.2.1, x.2.1.2.2.2.1⟩ : r05_Prop).Id), .u32 ((⟨x.2.1.1, x.2.1.2.1, x.2.1.2.2.1, x.2.1.2.2.2.1⟩ : r05_Prop).N), .s ((⟨x.2.1.1, x.2.1.2.1, x.2.1.2.2.1, x.2.1.2.2.2.1⟩ : r05_Prop).A), .s ((⟨x.2.1.1, x.2.1.2.1, x.2.1.2.2.1, x.2.1.2.2.2.1⟩ : r05_Prop).B)]]⟩))
theorem l05_PropValues_q0 : (l05_PropValues_o0).Ok Tryd.prog Wp tab 0 l05_PropValues_p0 := cutJ_ok (c := l05_PropValues_p0) tabOk l05_PropValues_rk (cC (cD (cS trivial trivial)) (cD trivial)) (fun _ _ => by kernel_rfl)
def l05_PropValues_p1 : TCode Tb :=
(.seq (.reg [⟨(.call (some 10) 0), [], some 14, none⟩, ⟨.mv, [.m 14], some 15, none⟩, ⟨(.load (some 4)), [.v 1], some 16, some (15, true)⟩, ⟨(.call (some 18) 1), [.m 16], some 17, some (15, true)⟩, ⟨(.call (some 17) 2), [.m 17], some 18, some (15, true)⟩, ⟨(.load (some 4)), [.v 1], some 19, some (15, true)⟩, ⟨(.call (some 19) 3), [.m 19], some 20, some (15, true)⟩, ⟨(.bin .eql .b), [.m 18, .m 20], some 21, some (15, true)⟩, ⟨.pick, [.m 15, .m 21, .k (.b false)], some 22, none⟩, ⟨.mv, [.m 22], some 23, none⟩, ⟨(.load (some 4)), [.v 1], some 24, some (23, true)⟩, ⟨(.call (some 18) 1), [.m 24], some 25, some (23, true)⟩, ⟨(.call (some 20) 4), [.m 25], some 26, some (23, true)⟩, ⟨(.load (some 4)), [.v 1], some 27, some (23, true)⟩, ⟨(.call (some 21) 5), [.m 27], some 28, some (23, true)⟩, ⟨(.bin .eql .b), [.m 26, .m 28], some 29, some (23, true)⟩, ⟨.pick, [.m 23, .m 29, .k (.b false)], some 30, none⟩, ⟨.mv, [.m 30], some 2, none⟩] (some [[], [], [], [], [], [2, 3, 4], [], [], [], [], [], [], [], [10, 11, 12], [], [], [], []]))
(.drop [1, 16, 17, 18, 19, 20, 24, 25, 26, 27, 28] .ret))
def l05_PropValues_s1 : SSh := ⟨[(1, .g (.f (.ref 0 0)))], [[.g (.f (.a .u8)), .g (.f (.a .u32)), .g (.f (.a .s)), .g (.f (.a .s))]]⟩
def l05_PropValues_o1 : Cut Tb := cutJ tab 0 l05_PropValues_s1 (fun _ x k => l05_PropValues_c1 (⟨x.2.1.1, x.2.1.2.1, x.2.1.2.2.1, x.2.1.2.2.2.1⟩ : r05_Prop) (fun y16 => k .ret ⟨[(2, .b y16)], [[.u8 ((⟨x.2.1.1, x.2.1.2.1, x.2.1.2.2.1, x.2.1.2.2.2.1⟩ : r05_Prop).Id), .u32 ((⟨x.2.1.1, x.2.1.2.1, x.2.1.2.2.1, x.2.1.2.2.2.1⟩ : r05_Prop).N), .s ((⟨x.2.1.1, x.2.1.2.1, x.2.1.2.2.1, x.2.1.2.2.2.1⟩ : r05_Prop).A), .s ((⟨x.2.1.1, x.2.1.2.1, x.2.1.2.2.1, x.2.1.2.2.2.1⟩ : r05_Prop).B)]]⟩))
theorem l05_PropValues_q1 : (l05_PropValues_o1).Ok Tryd.prog Wp tab 0 l05_PropValues_p1 := cutJ_ok (c := l05_PropValues_p1) tabOk l05_PropValues_rk (cS trivial (cD trivial)) (fun _ _ => by kernel_rfl)
def l05_PropValues_p : TCode Tb :=
(.seq (.reg [⟨.box, [.m 0], some 1, none⟩, ⟨.mv, [.k (.b false)], some 2, none⟩] none)
(.seq (.seq (.reg [⟨(.fa 2), [.v 1], some 3, none⟩, ⟨(.load none), [.m 3], some 4, none⟩, ⟨.lens, [.m 4], some 5, none⟩, ⟨(.bin .gtr .i), [.m 5, .k (.n .i64 300)], some 6, none⟩, ⟨.mv, [.m 6], some 7, none⟩, ⟨(.fa 3), [.v 1], some 8, some (7, false)⟩, ⟨(.load none), [.m 8], some 9, some (7, false)⟩, ⟨.lens, [.m 9], some 10, some (7, false)⟩, ⟨(.bin .gtr .i), [.m 10, .k (.n .i64 300)], some 11, some (7, false)⟩, ⟨.pick, [.m 7, .k (.b true), .m 11], some 12, none⟩] none)
(.drop [2, 8, 9, 10] (.cut 0 l05_PropValues_o0 l05_PropValues_p0)))
(.cut 0 l05_PropValues_o1 l05_PropValues_p1)))
def l05_PropValues_w : Orc Tb := mkOrc (Y := Bool) tab [.g (.st 3)] [] (fun x h => l05_PropValues (⟨x.1.Id, x.1.N, x.1.A, x.1.B⟩ : r05_Prop)) (fun _ y k => k (.b y) [])
theorem l05_PropValues_k : (l05_PropValues_w).Ok Tryd.prog Wp tab 4 := orc_ok (Y := Bool) (orcs := l05_PropValues_r) (c := l05_PropValues_p) (res := [.tmp 2]) (n := 31) (R := (RSp.one (Y := Bool) tab (.g (.f (.a .b))) [] (fun a b => a) (fun y => y) (fun y => ()))) tabOk l05_PropValues_rk (RSp.one_ok tabOk (fun _ _ => by kernel_rfl) (fun _ _ => by kernel_rfl)) Tryd.func4 (by kernel_rfl) (by kernel_rfl) (by kernel_rfl) (by kernel_rfl) (cS trivial (cS (cS trivial (cD (cT l05_PropValues_q0))) (cT l05_PropValues_q1))) (fun _ y k => by kernel_rfl) (fun y => by kernel_rfl) (fun x h => by kernel_rfl)
end Go.Rv
