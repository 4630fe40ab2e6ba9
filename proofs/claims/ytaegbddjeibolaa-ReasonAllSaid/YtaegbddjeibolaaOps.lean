/- The functions of the program as texts of that language, each checked against the translation. -/
import Derived.Test.YtaegbddjeibolaaRvC
import Derived.Test.YtaegbddjeibolaaProg
set_option linter.unusedSimpArgs false
set_option linter.unusedVariables false
namespace Go.Rv
open Go.Proofs
/- gosem.cut.init -/
abbrev r2_0 : List SOp := [
  ⟨(.call (some 1)), [], some 0, none⟩]
abbrev b2 : SCode :=
  (.reg r2_0 none)
abbrev s2 : SFn := ⟨b2, [], 1⟩
theorem ok2 : fnOk Try.prog Try.f2 s2 = true := by kernel_rfl
/- pouch/pouchlaw03.ReasonKnown -/
abbrev r3_0 : List SOp := [
  ⟨.mv, [.k (.b false)], some 6, none⟩]
abbrev r3_1 : List SOp := [
  ⟨(.call (some 10)), [], some 7, none⟩,
  ⟨.mv, [.m 7], some 8, none⟩,
  ⟨.mv, [.v 0], some 9, (some (8, true))⟩,
  ⟨.mv, [.v 1], some 10, (some (8, true))⟩,
  ⟨.mv, [.v 2], some 11, (some (8, true))⟩,
  ⟨(.call (some 11)), [.m 9, .m 10, .m 11], some 12, (some (8, true))⟩,
  ⟨.mv, [.v 0], some 13, (some (8, true))⟩,
  ⟨.mv, [.v 1], some 14, (some (8, true))⟩,
  ⟨.mv, [.v 2], some 15, (some (8, true))⟩,
  ⟨(.call (some 12)), [.m 13, .m 14, .m 15], some 16, (some (8, true))⟩,
  ⟨(.bin .eql .b), [.m 12, .m 16], some 17, (some (8, true))⟩,
  ⟨.pick, [.m 8, .m 17, .k (.b false)], some 18, none⟩,
  ⟨.mv, [.m 18], some 19, none⟩,
  ⟨.mv, [.v 0], some 20, (some (19, true))⟩,
  ⟨.mv, [.v 1], some 21, (some (19, true))⟩,
  ⟨.mv, [.v 2], some 22, (some (19, true))⟩,
  ⟨(.call (some 13)), [.m 20, .m 21, .m 22], some 23, (some (19, true))⟩,
  ⟨.mv, [.m 0], some 24, (some (19, true))⟩,
  ⟨.mv, [.m 1], some 25, (some (19, true))⟩,
  ⟨.mv, [.m 2], some 26, (some (19, true))⟩,
  ⟨(.call (some 14)), [.m 24, .m 25, .m 26], some 27, (some (19, true))⟩,
  ⟨(.bin .eql .b), [.m 23, .m 27], some 28, (some (19, true))⟩,
  ⟨.pick, [.m 19, .m 28, .k (.b false)], some 29, none⟩,
  ⟨.mv, [.m 29], some 6, none⟩]
abbrev b3 : SCode :=
  (.seq
  (.reg r3_0 none)
  (.seq
  (.reg r3_1 none)
  .ret))
abbrev s3 : SFn := ⟨b3, [.tmp 6], 30⟩
theorem ok3 : fnOk Try.prog Try.f3 s3 = true := by kernel_rfl
/- pouch/pouchlaw03.ReasonAll -/
abbrev r4_0 : List SOp := [
  ⟨.mv, [.k (.b false)], some 4, none⟩]
abbrev r4_1 : List SOp := [
  ⟨.mv, [.v 0], some 8, none⟩,
  ⟨.mv, [.v 1], some 9, none⟩,
  ⟨(.call (some 15)), [.m 8, .m 9], some 10, none⟩,
  ⟨.mv, [.v 0], some 11, none⟩,
  ⟨.mv, [.v 1], some 12, none⟩,
  ⟨(.call (some 16)), [.m 11, .m 12], some 13, none⟩,
  ⟨.mv, [.m 10], some 5, none⟩,
  ⟨.mv, [.m 13], some 6, none⟩]
abbrev r4_2 : List SOp := [
  ⟨.mv, [.k (.i .i64 0)], some 7, none⟩]
abbrev r4_3 : List SOp := [
  ⟨.mv, [.v 7], some 14, none⟩,
  ⟨.mv, [.v 5], some 15, none⟩,
  ⟨.len, [.m 15], some 16, none⟩,
  ⟨(.bin .lss .i), [.m 14, .m 16], some 17, none⟩]
abbrev r4_4 : List SOp := [
  ⟨.mv, [.v 7], some 20, none⟩,
  ⟨(.bin .gtr .i), [.m 20, .k (.i .i64 0)], some 21, none⟩,
  ⟨.mv, [.m 21], some 22, none⟩,
  ⟨.mv, [.v 5], some 23, (some (22, true))⟩,
  ⟨.mv, [.v 7], some 24, (some (22, true))⟩,
  ⟨(.bin .sub .i), [.m 24, .k (.i .i64 1)], some 25, (some (22, true))⟩,
  ⟨(.ia 1), [.m 23, .m 25], some 26, (some (22, true))⟩,
  ⟨(.load none), [.m 26], some 27, (some (22, true))⟩,
  ⟨.mv, [.v 5], some 28, (some (22, true))⟩,
  ⟨.mv, [.v 7], some 29, (some (22, true))⟩,
  ⟨(.ia 1), [.m 28, .m 29], some 30, (some (22, true))⟩,
  ⟨(.load none), [.m 30], some 31, (some (22, true))⟩,
  ⟨(.bin .geq .i), [.m 27, .m 31], some 32, (some (22, true))⟩,
  ⟨.pick, [.m 22, .m 32, .k (.b false)], some 33, none⟩,
  ⟨.mv, [.m 33], some 34, none⟩,
  ⟨.mv, [.v 0], some 35, (some (34, false))⟩,
  ⟨.mv, [.v 1], some 36, (some (34, false))⟩,
  ⟨.mv, [.v 5], some 37, (some (34, false))⟩,
  ⟨.mv, [.v 7], some 38, (some (34, false))⟩,
  ⟨(.ia 1), [.m 37, .m 38], some 39, (some (34, false))⟩,
  ⟨(.load none), [.m 39], some 40, (some (34, false))⟩,
  ⟨(.call (some 11)), [.m 35, .m 36, .m 40], some 41, (some (34, false))⟩,
  ⟨(.un .not), [.m 41], some 42, (some (34, false))⟩,
  ⟨.pick, [.m 34, .k (.b true), .m 42], some 43, none⟩]
abbrev r4_5 : List SOp := [
  ⟨.mv, [.k (.b false)], some 4, none⟩]
abbrev r4_6 : List SOp := [
  ⟨.mv, [.m 7], some 18, none⟩,
  ⟨(.bin .add .i), [.m 18, .k (.i .i64 1)], some 19, none⟩,
  ⟨.mv, [.m 19], some 7, none⟩]
abbrev l4_7 : SCode :=
      (.seq
      (.seq
      (.reg r4_3 none)
      (.cond 17
        (.drop [17]
        .skip)
        (.drop [0, 1, 7, 17]
        (.exit 0))))
      (.seq
      (.block 1
        (.seq
        (.reg r4_4 (some [[], [], [], [], [], [], [], [], [], [], [], [7], [], [], [], [], [], [], [], [], [], [], [], []]))
        (.cond 43
          (.drop [0, 1, 5, 6, 7, 23, 24, 25, 26, 27, 28, 29, 30, 31, 35, 36, 37, 38, 39, 40, 41, 43]
          (.seq
          (.reg r4_5 none)
          .ret))
          (.drop [23, 24, 25, 26, 27, 28, 29, 30, 31, 35, 36, 37, 38, 39, 40, 41, 43]
          .skip))))
      (.reg r4_6 none)))
abbrev r4_8 : List SOp := [
  ⟨(.call (some 10)), [], some 44, none⟩,
  ⟨.mv, [.m 44], some 45, none⟩,
  ⟨.mv, [.m 5], some 46, (some (45, true))⟩,
  ⟨.b2s, [.m 46], some 47, (some (45, true))⟩,
  ⟨.mv, [.m 6], some 48, (some (45, true))⟩,
  ⟨.b2s, [.m 48], some 49, (some (45, true))⟩,
  ⟨(.bin .eql .s), [.m 47, .m 49], some 50, (some (45, true))⟩,
  ⟨.pick, [.m 45, .m 50, .k (.b false)], some 51, none⟩,
  ⟨.mv, [.m 51], some 4, none⟩]
abbrev b4 : SCode :=
  (.seq
  (.reg r4_0 none)
  (.seq
  (.reg r4_1 none)
  (.seq
  (.seq
  (.reg r4_2 none)
  (.block 0
    (.drop [4]
    (.loop l4_7))))
  (.seq
  (.reg r4_8 none)
  .ret))))
abbrev s4 : SFn := ⟨b4, [.tmp 4], 52⟩
theorem ok4 : fnOk Try.prog Try.f4 s4 = true := by kernel_rfl
/- pouch/pouchlaw01.WireVars -/
abbrev r5_0 : List SOp := [
  ⟨.mv, [.k (.b false)], some 4, none⟩]
abbrev r5_1 : List SOp := [
  ⟨.mv, [.v 0], some 11, none⟩,
  ⟨.mv, [.m 0], some 12, none⟩,
  ⟨.len, [.m 12], some 13, none⟩,
  ⟨.min, [.m 13, .k (.i .i64 12)], some 14, none⟩,
  ⟨(.ssl 1 false true), [.m 11, .m 14], some 15, none⟩,
  ⟨.mv, [.m 15], some 0, none⟩]
abbrev r5_2 : List SOp := [
  ⟨.mv, [.v 0], some 16, none⟩,
  ⟨(.call (some 17)), [.m 16], some 17, none⟩,
  ⟨.mv, [.m 17], some 5, none⟩]
abbrev r5_3 : List SOp := [
  ⟨.mv, [.v 0], some 18, none⟩,
  ⟨.b2s, [.m 18], some 19, none⟩,
  ⟨(.build [(.s ⟨#[]⟩), (.i .i64 0), (.i .i64 0)] [(0, 1)]), [.m 19], some 20, none⟩,
  ⟨.box, [.m 20], some 21, none⟩,
  ⟨.mv, [.m 21], some 6, none⟩]
abbrev r5_4 : List SOp := [
  ⟨.mv, [.v 5], some 22, none⟩,
  ⟨(.call (some 18)), [.m 22], some 23, none⟩,
  ⟨.mv, [.v 6], some 24, none⟩,
  ⟨(.call (some 19)), [.m 24], some 25, none⟩,
  ⟨.mv, [.m 23], some 7, none⟩,
  ⟨.mv, [.m 25], some 8, none⟩]
abbrev r5_5 : List SOp := [
  ⟨.mv, [.k (.i .i64 0)], some 9, none⟩]
abbrev r5_6 : List SOp := [
  ⟨.mv, [.v 1], some 26, none⟩,
  ⟨(.bin .leq .i), [.m 26, .k (.i .u32 268435455)], some 27, none⟩]
abbrev r5_7 : List SOp := [
  ⟨.mv, [.v 1], some 28, none⟩,
  ⟨(.call (some 20)), [.k .nilS, .m 28], some 29, none⟩,
  ⟨.len, [.m 29], some 30, none⟩,
  ⟨.mv, [.m 30], some 9, none⟩]
abbrev r5_8 : List SOp := [
  ⟨(.call (some 21)), [], some 31, none⟩,
  ⟨(.un .not), [.m 31], some 32, none⟩,
  ⟨.mv, [.m 32], some 33, none⟩,
  ⟨.mv, [.v 7], some 34, (some (33, false))⟩,
  ⟨.mv, [.m 8], some 35, (some (33, false))⟩,
  ⟨(.bin .neq .i), [.m 34, .m 35], some 36, (some (33, false))⟩,
  ⟨.pick, [.m 33, .k (.b true), .m 36], some 37, none⟩,
  ⟨.mv, [.m 37], some 38, none⟩,
  ⟨.mv, [.m 5], some 39, (some (38, false))⟩,
  ⟨(.call (some 22)), [.m 39], some 40, (some (38, false))⟩,
  ⟨.mv, [.v 6], some 41, (some (38, false))⟩,
  ⟨.nilck, [.m 41], some 42, (some (38, false))⟩,
  ⟨(.fa 2), [.m 42], some 43, (some (38, false))⟩,
  ⟨(.load none), [.m 43], some 44, (some (38, false))⟩,
  ⟨(.bin .neq .i), [.m 40, .m 44], some 45, (some (38, false))⟩,
  ⟨.pick, [.m 38, .k (.b true), .m 45], some 46, none⟩,
  ⟨.mv, [.m 46], some 47, none⟩,
  ⟨.mv, [.v 1], some 48, (some (47, false))⟩,
  ⟨(.call (some 23)), [.m 48], some 49, (some (47, false))⟩,
  ⟨.mv, [.v 9], some 50, (some (47, false))⟩,
  ⟨(.bin .neq .i), [.m 49, .m 50], some 51, (some (47, false))⟩,
  ⟨.pick, [.m 47, .k (.b true), .m 51], some 52, none⟩,
  ⟨.mv, [.m 52], some 53, none⟩,
  ⟨.mv, [.m 1], some 54, (some (53, false))⟩,
  ⟨(.call (some 24)), [.k .nilS, .m 54], some 55, (some (53, false))⟩,
  ⟨.len, [.m 55], some 56, (some (53, false))⟩,
  ⟨.mv, [.m 9], some 57, (some (53, false))⟩,
  ⟨(.bin .neq .i), [.m 56, .m 57], some 58, (some (53, false))⟩,
  ⟨.pick, [.m 53, .k (.b true), .m 58], some 59, none⟩]
abbrev r5_9 : List SOp := [
  ⟨.mv, [.k (.b false)], some 4, none⟩]
abbrev r5_10 : List SOp := [
  ⟨.mv, [.m 7], some 60, none⟩,
  ⟨(.call (some 24)), [.k .nilS, .m 60], some 61, none⟩,
  ⟨.mv, [.m 61], some 10, none⟩]
abbrev r5_11 : List SOp := [
  ⟨.mv, [.v 6], some 62, none⟩,
  ⟨.nilck, [.m 62], some 63, none⟩,
  ⟨(.fa 2), [.m 63], some 64, none⟩,
  ⟨(.load none), [.m 64], some 65, none⟩,
  ⟨(.bin .neq .i), [.m 65, .k (.i .i64 0)], some 66, none⟩,
  ⟨.mv, [.m 66], some 67, none⟩,
  ⟨.mv, [.v 10], some 68, (some (67, false))⟩,
  ⟨.len, [.m 68], some 69, (some (67, false))⟩,
  ⟨.mv, [.m 6], some 70, (some (67, false))⟩,
  ⟨.nilck, [.m 70], some 71, (some (67, false))⟩,
  ⟨(.fa 1), [.m 71], some 72, (some (67, false))⟩,
  ⟨(.load none), [.m 72], some 73, (some (67, false))⟩,
  ⟨(.bin .eql .i), [.m 69, .m 73], some 74, (some (67, false))⟩,
  ⟨.mv, [.m 74], some 75, (some (67, false))⟩,
  ⟨.mv, [.v 10], some 76, (some (75, true))⟩,
  ⟨.b2s, [.m 76], some 77, (some (75, true))⟩,
  ⟨.mv, [.m 0], some 78, (some (75, true))⟩,
  ⟨.mv, [.v 10], some 79, (some (75, true))⟩,
  ⟨.len, [.m 79], some 80, (some (75, true))⟩,
  ⟨(.ssl 1 false true), [.m 78, .m 80], some 81, (some (75, true))⟩,
  ⟨.b2s, [.m 81], some 82, (some (75, true))⟩,
  ⟨(.bin .eql .s), [.m 77, .m 82], some 83, (some (75, true))⟩,
  ⟨.pick, [.m 75, .m 83, .k (.b false)], some 84, (some (67, false))⟩,
  ⟨.pick, [.m 67, .k (.b true), .m 84], some 85, none⟩,
  ⟨.mv, [.m 85], some 4, none⟩]
abbrev b5 : SCode :=
  (.seq
  (.reg r5_0 none)
  (.seq
  (.reg r5_1 none)
  (.seq
  (.reg r5_2 none)
  (.seq
  (.reg r5_3 none)
  (.seq
  (.reg r5_4 none)
  (.seq
  (.reg r5_5 none)
  (.seq
  (.seq
  (.reg r5_6 none)
  (.cond 27
    (.drop [4, 9, 27]
    (.reg r5_7 none))
    (.drop [4, 27]
    .skip)))
  (.seq
  (.seq
  (.reg r5_8 (some [[], [], [], [], [], [], [], [], [], [], [], [], [], [9], [], [], [], [], [], [], [], [], [], [], [], [], [], [], []]))
  (.cond 59
    (.drop [0, 1, 5, 6, 7, 8, 9, 34, 35, 39, 40, 41, 42, 43, 44, 48, 49, 50, 54, 55, 56, 57, 59]
    (.seq
    (.reg r5_9 none)
    .ret))
    (.drop [1, 5, 8, 9, 34, 35, 39, 40, 41, 42, 43, 44, 48, 49, 50, 54, 55, 56, 57, 59]
    .skip)))
  (.seq
  (.reg r5_10 none)
  (.seq
  (.reg r5_11 (some [[], [], [], [], [], [], [], [], [], [], [], [], [], [], [], [], [], [], [], [], [], [], [], [], []]))
  .ret))))))))))
abbrev s5 : SFn := ⟨b5, [.tmp 4], 86⟩
theorem ok5 : fnOk Try.prog Try.f5 s5 = true := by kernel_rfl
/- pouch/pouchlaw01.WireGreat -/
abbrev r6_0 : List SOp := [
  ⟨.mv, [.k (.b false)], some 4, none⟩]
abbrev r6_1 : List SOp := [
  ⟨.mv, [.m 0], some 10, none⟩,
  ⟨(.cint .u64), [.m 10], some 11, none⟩,
  ⟨(.bin .rem .i), [.m 11, .k (.i .u64 70000)], some 12, none⟩,
  ⟨(.cint .i64), [.m 12], some 13, none⟩,
  ⟨.mv, [.m 13], some 5, none⟩]
abbrev r6_2 : List SOp := [
  ⟨.mv, [.v 5], some 14, none⟩,
  ⟨(.mksl 1 1 [(.i .u8 0)]), [.v 14, .m 14], some 15, none⟩,
  ⟨.mv, [.m 15], some 6, none⟩]
abbrev r6_3 : List SOp := [
  ⟨.mv, [.k (.i .i64 0)], some 7, none⟩]
abbrev r6_4 : List SOp := [
  ⟨.mv, [.v 7], some 16, none⟩,
  ⟨.mv, [.v 5], some 17, none⟩,
  ⟨(.bin .lss .i), [.m 16, .m 17], some 18, none⟩]
abbrev r6_5 : List SOp := [
  ⟨.mv, [.v 6], some 21, none⟩,
  ⟨.mv, [.v 7], some 22, none⟩,
  ⟨.mv, [.v 1], some 23, none⟩,
  ⟨(.ia 1), [.m 21, .m 22], some 24, none⟩,
  ⟨(.store 1), [.m 24, .m 23], none, none⟩]
abbrev r6_6 : List SOp := [
  ⟨.mv, [.m 7], some 19, none⟩,
  ⟨(.bin .add .i), [.m 19, .k (.i .i64 97)], some 20, none⟩,
  ⟨.mv, [.m 20], some 7, none⟩]
abbrev l6_7 : SCode :=
      (.seq
      (.seq
      (.reg r6_4 none)
      (.cond 18
        (.drop [18]
        .skip)
        (.drop [1, 7, 18]
        (.exit 0))))
      (.seq
      (.block 1
        (.reg r6_5 none))
      (.reg r6_6 none)))
abbrev r6_8 : List SOp := [
  ⟨(.bslice 1 1 [.lit (.int .u8 0)] [0]), [.k (.i .u8 7)], some 25, none⟩,
  ⟨.mv, [.v 6], some 26, none⟩,
  ⟨.b2s, [.m 26], some 27, none⟩,
  ⟨(.call (some 25)), [.m 25, .m 27], some 28, none⟩,
  ⟨.mv, [.m 28], some 8, none⟩]
abbrev r6_9 : List SOp := [
  ⟨.mv, [.v 5], some 29, none⟩,
  ⟨(.bin .gtr .i), [.m 29, .k (.i .i64 65535)], some 30, none⟩]
abbrev r6_10 : List SOp := [
  ⟨(.call (some 21)), [], some 31, none⟩,
  ⟨.mv, [.m 31], some 32, none⟩,
  ⟨.mv, [.m 8], some 33, (some (32, true))⟩,
  ⟨.len, [.m 33], some 34, (some (32, true))⟩,
  ⟨(.bin .eql .i), [.m 34, .k (.i .i64 1)], some 35, (some (32, true))⟩,
  ⟨.pick, [.m 32, .m 35, .k (.b false)], some 36, none⟩,
  ⟨.mv, [.m 36], some 4, none⟩]
abbrev r6_11 : List SOp := [
  ⟨.mv, [.v 8], some 37, none⟩,
  ⟨(.call (some 17)), [.m 37], some 38, none⟩,
  ⟨.mv, [.m 38], some 9, none⟩]
abbrev r6_12 : List SOp := [
  ⟨(.call (some 21)), [], some 39, none⟩,
  ⟨.mv, [.m 39], some 40, none⟩,
  ⟨.mv, [.m 8], some 41, (some (40, true))⟩,
  ⟨.len, [.m 41], some 42, (some (40, true))⟩,
  ⟨.mv, [.m 5], some 43, (some (40, true))⟩,
  ⟨(.bin .add .i), [.m 43, .k (.i .i64 3)], some 44, (some (40, true))⟩,
  ⟨(.bin .eql .i), [.m 42, .m 44], some 45, (some (40, true))⟩,
  ⟨.pick, [.m 40, .m 45, .k (.b false)], some 46, none⟩,
  ⟨.mv, [.m 46], some 47, none⟩,
  ⟨.mv, [.v 9], some 48, (some (47, true))⟩,
  ⟨(.call (some 26)), [.m 48], some 49, (some (47, true))⟩,
  ⟨(.bin .eql .i), [.m 49, .k (.i .u8 7)], some 50, (some (47, true))⟩,
  ⟨.pick, [.m 47, .m 50, .k (.b false)], some 51, none⟩,
  ⟨.mv, [.m 51], some 52, none⟩,
  ⟨.mv, [.m 9], some 53, (some (52, true))⟩,
  ⟨(.call (some 27)), [.m 53], some 54, (some (52, true))⟩,
  ⟨.mv, [.m 6], some 55, (some (52, true))⟩,
  ⟨.b2s, [.m 55], some 56, (some (52, true))⟩,
  ⟨(.bin .eql .s), [.m 54, .m 56], some 57, (some (52, true))⟩,
  ⟨.pick, [.m 52, .m 57, .k (.b false)], some 58, none⟩,
  ⟨.mv, [.m 58], some 4, none⟩]
abbrev b6 : SCode :=
  (.seq
  (.reg r6_0 none)
  (.seq
  (.reg r6_1 none)
  (.seq
  (.reg r6_2 none)
  (.seq
  (.seq
  (.reg r6_3 none)
  (.block 0
    (.drop [4]
    (.loop l6_7))))
  (.seq
  (.reg r6_8 none)
  (.seq
  (.seq
  (.reg r6_9 none)
  (.cond 30
    (.drop [5, 6, 30]
    (.seq
    (.reg r6_10 none)
    .ret))
    (.drop [30]
    .skip)))
  (.seq
  (.reg r6_11 none)
  (.seq
  (.reg r6_12 (some [[], [], [], [], [], [], [], [], [], [], [], [], [], [], [], [], [], [], [], [], []]))
  .ret))))))))
abbrev s6 : SFn := ⟨b6, [.tmp 4], 59⟩
theorem ok6 : fnOk Try.prog Try.f6 s6 = true := by kernel_rfl
/- pouch/pouchlaw01.WirePuts -/
abbrev r7_0 : List SOp := [
  ⟨.mv, [.k (.b false)], some 4, none⟩]
abbrev r7_1 : List SOp := [
  ⟨.mv, [.k .nilS], some 5, none⟩,
  ⟨.mv, [.k .nilS], some 6, none⟩]
abbrev r7_2 : List SOp := [
  ⟨.mv, [.k (.i .i64 0)], some 7, none⟩]
abbrev r7_3 : List SOp := [
  ⟨.mv, [.v 7], some 12, none⟩,
  ⟨.mv, [.v 0], some 13, none⟩,
  ⟨.len, [.m 13], some 14, none⟩,
  ⟨(.bin .lss .i), [.m 12, .m 14], some 15, none⟩,
  ⟨.mv, [.m 15], some 16, none⟩,
  ⟨.mv, [.v 7], some 17, (some (16, true))⟩,
  ⟨(.bin .lss .i), [.m 17, .k (.i .i64 20)], some 18, (some (16, true))⟩,
  ⟨.pick, [.m 16, .m 18, .k (.b false)], some 19, none⟩]
abbrev r7_4 : List SOp := [
  ⟨.mv, [.m 5], some 22, none⟩,
  ⟨.mv, [.v 0], some 23, none⟩,
  ⟨.mv, [.v 7], some 24, none⟩,
  ⟨(.ia 1), [.m 23, .m 24], some 25, none⟩,
  ⟨(.load none), [.m 25], some 26, none⟩,
  ⟨(.cint .u8), [.m 26], some 27, none⟩,
  ⟨(.call (some 30)), [.m 22, .m 27], some 28, none⟩,
  ⟨.mv, [.v 0], some 29, none⟩,
  ⟨.mv, [.v 7], some 30, none⟩,
  ⟨(.ia 1), [.m 29, .m 30], some 31, none⟩,
  ⟨(.load none), [.m 31], some 32, none⟩,
  ⟨(.cint .u16), [.m 32], some 33, none⟩,
  ⟨(.call (some 29)), [.m 28, .m 33], some 34, none⟩,
  ⟨.mv, [.v 0], some 35, none⟩,
  ⟨.mv, [.v 7], some 36, none⟩,
  ⟨(.ia 1), [.m 35, .m 36], some 37, none⟩,
  ⟨(.load none), [.m 37], some 38, none⟩,
  ⟨(.call (some 28)), [.m 34, .m 38], some 39, none⟩,
  ⟨.mv, [.m 39], some 5, none⟩]
abbrev r7_5 : List SOp := [
  ⟨.mv, [.m 6], some 40, none⟩,
  ⟨.mv, [.v 0], some 41, none⟩,
  ⟨.mv, [.v 7], some 42, none⟩,
  ⟨(.ia 1), [.m 41, .m 42], some 43, none⟩,
  ⟨(.load none), [.m 43], some 44, none⟩,
  ⟨(.cint .u8), [.m 44], some 45, none⟩,
  ⟨(.cint .u64), [.m 45], some 46, none⟩,
  ⟨(.call (some 31)), [.m 40, .m 46, .k (.i .i64 1)], some 47, none⟩,
  ⟨.mv, [.v 0], some 48, none⟩,
  ⟨.mv, [.v 7], some 49, none⟩,
  ⟨(.ia 1), [.m 48, .m 49], some 50, none⟩,
  ⟨(.load none), [.m 50], some 51, none⟩,
  ⟨(.cint .u16), [.m 51], some 52, none⟩,
  ⟨(.cint .u64), [.m 52], some 53, none⟩,
  ⟨(.call (some 31)), [.m 47, .m 53, .k (.i .i64 2)], some 54, none⟩,
  ⟨.mv, [.v 0], some 55, none⟩,
  ⟨.mv, [.v 7], some 56, none⟩,
  ⟨(.ia 1), [.m 55, .m 56], some 57, none⟩,
  ⟨(.load none), [.m 57], some 58, none⟩,
  ⟨(.cint .u64), [.m 58], some 59, none⟩,
  ⟨(.call (some 31)), [.m 54, .m 59, .k (.i .i64 4)], some 60, none⟩,
  ⟨.mv, [.m 60], some 6, none⟩]
abbrev r7_6 : List SOp := [
  ⟨.mv, [.m 5], some 61, none⟩,
  ⟨.mv, [.v 0], some 62, none⟩,
  ⟨.mv, [.v 7], some 63, none⟩,
  ⟨(.ia 1), [.m 62, .m 63], some 64, none⟩,
  ⟨(.load none), [.m 64], some 65, none⟩,
  ⟨(.call (some 24)), [.m 61, .m 65], some 66, none⟩,
  ⟨.mv, [.m 6], some 67, none⟩,
  ⟨.mv, [.v 0], some 68, none⟩,
  ⟨.mv, [.v 7], some 69, none⟩,
  ⟨(.ia 1), [.m 68, .m 69], some 70, none⟩,
  ⟨(.load none), [.m 70], some 71, none⟩,
  ⟨(.call (some 20)), [.m 67, .m 71], some 72, none⟩,
  ⟨.mv, [.m 66], some 5, none⟩,
  ⟨.mv, [.m 72], some 6, none⟩]
abbrev r7_7 : List SOp := [
  ⟨.mv, [.m 7], some 20, none⟩,
  ⟨(.bin .add .i), [.m 20, .k (.i .i64 1)], some 21, none⟩,
  ⟨.mv, [.m 21], some 7, none⟩]
abbrev l7_8 : SCode :=
      (.seq
      (.seq
      (.reg r7_3 none)
      (.cond 19
        (.drop [17, 19]
        .skip)
        (.drop [7, 17, 19]
        (.exit 0))))
      (.seq
      (.block 1
        (.seq
        (.reg r7_4 (some [[], [], [], [], [], [], [], [], [], [], [4, 6], [], [], [], [], [], [4, 6, 10, 12], [], []]))
        (.seq
        (.reg r7_5 (some [[], [], [], [], [], [], [], [], [], [], [], [4, 7], [], [], [], [], [], [], [4, 7, 11, 14], [], [], []]))
        (.reg r7_6 (some [[], [], [], [], [], [], [], [], [], [], [4, 5], [], [], []])))))
      (.reg r7_7 none)))
abbrev r7_9 : List SOp := [
  ⟨.mv, [.k (.i .i64 0)], some 8, none⟩]
abbrev r7_10 : List SOp := [
  ⟨.mv, [.v 8], some 73, none⟩,
  ⟨.mv, [.v 1], some 74, none⟩,
  ⟨.len, [.m 74], some 75, none⟩,
  ⟨(.bin .lss .i), [.m 73, .m 75], some 76, none⟩,
  ⟨.mv, [.m 76], some 77, none⟩,
  ⟨.mv, [.v 8], some 78, (some (77, true))⟩,
  ⟨(.bin .lss .i), [.m 78, .k (.i .i64 10)], some 79, (some (77, true))⟩,
  ⟨.pick, [.m 77, .m 79, .k (.b false)], some 80, none⟩]
abbrev r7_11 : List SOp := [
  ⟨.mv, [.v 1], some 83, none⟩,
  ⟨.mv, [.v 8], some 84, none⟩,
  ⟨(.ia 1), [.m 83, .m 84], some 85, none⟩,
  ⟨(.load none), [.m 85], some 86, none⟩,
  ⟨.lens, [.m 86], some 87, none⟩,
  ⟨(.bin .gtr .i), [.m 87, .k (.i .i64 300)], some 88, none⟩]
abbrev r7_12 : List SOp := [
  ⟨(.call (some 21)), [], some 89, none⟩,
  ⟨.mv, [.m 89], some 4, none⟩]
abbrev r7_13 : List SOp := [
  ⟨.mv, [.m 5], some 90, none⟩,
  ⟨.mv, [.v 1], some 91, none⟩,
  ⟨.mv, [.v 8], some 92, none⟩,
  ⟨(.ia 1), [.m 91, .m 92], some 93, none⟩,
  ⟨(.load none), [.m 93], some 94, none⟩,
  ⟨(.call (some 25)), [.m 90, .m 94], some 95, none⟩,
  ⟨.mv, [.m 6], some 96, none⟩,
  ⟨.mv, [.v 1], some 97, none⟩,
  ⟨.mv, [.v 8], some 98, none⟩,
  ⟨(.ia 1), [.m 97, .m 98], some 99, none⟩,
  ⟨(.load none), [.m 99], some 100, none⟩,
  ⟨(.call (some 32)), [.m 96, .m 100], some 101, none⟩,
  ⟨.mv, [.m 95], some 5, none⟩,
  ⟨.mv, [.m 101], some 6, none⟩]
abbrev r7_14 : List SOp := [
  ⟨.mv, [.m 8], some 81, none⟩,
  ⟨(.bin .add .i), [.m 81, .k (.i .i64 1)], some 82, none⟩,
  ⟨.mv, [.m 82], some 8, none⟩]
abbrev l7_15 : SCode :=
      (.seq
      (.seq
      (.reg r7_10 none)
      (.cond 80
        (.drop [78, 80]
        .skip)
        (.drop [8, 78, 80]
        (.exit 2))))
      (.seq
      (.block 3
        (.seq
        (.seq
        (.reg r7_11 none)
        (.cond 88
          (.drop [0, 1, 5, 6, 8, 88]
          (.seq
          (.reg r7_12 none)
          .ret))
          (.drop [88]
          .skip)))
        (.reg r7_13 (some [[], [], [], [], [], [], [], [], [], [], [4, 5], [], [], []]))))
      (.reg r7_14 none)))
abbrev r7_16 : List SOp := [
  ⟨(.call (some 21)), [], some 102, none⟩,
  ⟨(.un .not), [.m 102], some 103, none⟩,
  ⟨.mv, [.m 103], some 104, none⟩,
  ⟨.mv, [.v 5], some 105, (some (104, false))⟩,
  ⟨.b2s, [.m 105], some 106, (some (104, false))⟩,
  ⟨.mv, [.m 6], some 107, (some (104, false))⟩,
  ⟨.b2s, [.m 107], some 108, (some (104, false))⟩,
  ⟨(.bin .neq .s), [.m 106, .m 108], some 109, (some (104, false))⟩,
  ⟨.pick, [.m 104, .k (.b true), .m 109], some 110, none⟩]
abbrev r7_17 : List SOp := [
  ⟨.mv, [.k (.b false)], some 4, none⟩]
abbrev r7_18 : List SOp := [
  ⟨.mv, [.m 5], some 111, none⟩,
  ⟨(.call (some 17)), [.m 111], some 112, none⟩,
  ⟨.mv, [.m 112], some 9, none⟩]
abbrev r7_19 : List SOp := [
  ⟨.mv, [.k (.i .i64 0)], some 10, none⟩]
abbrev r7_20 : List SOp := [
  ⟨.mv, [.v 10], some 113, none⟩,
  ⟨.mv, [.v 0], some 114, none⟩,
  ⟨.len, [.m 114], some 115, none⟩,
  ⟨(.bin .lss .i), [.m 113, .m 115], some 116, none⟩,
  ⟨.mv, [.m 116], some 117, none⟩,
  ⟨.mv, [.v 10], some 118, (some (117, true))⟩,
  ⟨(.bin .lss .i), [.m 118, .k (.i .i64 20)], some 119, (some (117, true))⟩,
  ⟨.pick, [.m 117, .m 119, .k (.b false)], some 120, none⟩]
abbrev r7_21 : List SOp := [
  ⟨.mv, [.v 9], some 123, none⟩,
  ⟨(.call (some 26)), [.m 123], some 124, none⟩,
  ⟨.mv, [.v 0], some 125, none⟩,
  ⟨.mv, [.v 10], some 126, none⟩,
  ⟨(.ia 1), [.m 125, .m 126], some 127, none⟩,
  ⟨(.load none), [.m 127], some 128, none⟩,
  ⟨(.cint .u8), [.m 128], some 129, none⟩,
  ⟨(.bin .neq .i), [.m 124, .m 129], some 130, none⟩,
  ⟨.mv, [.m 130], some 131, none⟩,
  ⟨.mv, [.v 9], some 132, (some (131, false))⟩,
  ⟨(.call (some 33)), [.m 132], some 133, (some (131, false))⟩,
  ⟨.mv, [.v 0], some 134, (some (131, false))⟩,
  ⟨.mv, [.v 10], some 135, (some (131, false))⟩,
  ⟨(.ia 1), [.m 134, .m 135], some 136, (some (131, false))⟩,
  ⟨(.load none), [.m 136], some 137, (some (131, false))⟩,
  ⟨(.cint .u16), [.m 137], some 138, (some (131, false))⟩,
  ⟨(.bin .neq .i), [.m 133, .m 138], some 139, (some (131, false))⟩,
  ⟨.pick, [.m 131, .k (.b true), .m 139], some 140, none⟩,
  ⟨.mv, [.m 140], some 141, none⟩,
  ⟨.mv, [.v 9], some 142, (some (141, false))⟩,
  ⟨(.call (some 34)), [.m 142], some 143, (some (141, false))⟩,
  ⟨.mv, [.v 0], some 144, (some (141, false))⟩,
  ⟨.mv, [.v 10], some 145, (some (141, false))⟩,
  ⟨(.ia 1), [.m 144, .m 145], some 146, (some (141, false))⟩,
  ⟨(.load none), [.m 146], some 147, (some (141, false))⟩,
  ⟨(.bin .neq .i), [.m 143, .m 147], some 148, (some (141, false))⟩,
  ⟨.pick, [.m 141, .k (.b true), .m 148], some 149, none⟩,
  ⟨.mv, [.m 149], some 150, none⟩,
  ⟨.mv, [.v 0], some 151, (some (150, false))⟩,
  ⟨.mv, [.v 10], some 152, (some (150, false))⟩,
  ⟨(.ia 1), [.m 151, .m 152], some 153, (some (150, false))⟩,
  ⟨(.load none), [.m 153], some 154, (some (150, false))⟩,
  ⟨(.bin .leq .i), [.m 154, .k (.i .u32 268435455)], some 155, (some (150, false))⟩,
  ⟨.mv, [.m 155], some 156, (some (150, false))⟩,
  ⟨.mv, [.v 9], some 157, (some (156, true))⟩,
  ⟨(.call (some 18)), [.m 157], some 158, (some (156, true))⟩,
  ⟨.mv, [.v 0], some 159, (some (156, true))⟩,
  ⟨.mv, [.v 10], some 160, (some (156, true))⟩,
  ⟨(.ia 1), [.m 159, .m 160], some 161, (some (156, true))⟩,
  ⟨(.load none), [.m 161], some 162, (some (156, true))⟩,
  ⟨(.bin .neq .i), [.m 158, .m 162], some 163, (some (156, true))⟩,
  ⟨.pick, [.m 156, .m 163, .k (.b false)], some 164, (some (150, false))⟩,
  ⟨.pick, [.m 150, .k (.b true), .m 164], some 165, none⟩]
abbrev r7_22 : List SOp := [
  ⟨.mv, [.k (.b false)], some 4, none⟩]
abbrev r7_23 : List SOp := [
  ⟨.mv, [.m 10], some 121, none⟩,
  ⟨(.bin .add .i), [.m 121, .k (.i .i64 1)], some 122, none⟩,
  ⟨.mv, [.m 122], some 10, none⟩]
abbrev l7_24 : SCode :=
      (.seq
      (.seq
      (.reg r7_20 none)
      (.cond 120
        (.drop [118, 120]
        .skip)
        (.drop [0, 10, 118, 120]
        (.exit 4))))
      (.seq
      (.block 5
        (.seq
        (.reg r7_21 (some [[], [], [], [], [], [1], [], [], [], [], [], [], [], [], [10], [], [], [], [], [], [], [], [], [], [20], [], [], [], [], [], [], [], [], [], [], [], [], [], [], [35], [], [], []]))
        (.cond 165
          (.drop [0, 1, 9, 10, 132, 133, 134, 135, 136, 137, 138, 142, 143, 144, 145, 146, 147, 151, 152, 153, 154, 155, 156, 157, 158, 159, 160, 161, 162, 163, 165]
          (.seq
          (.reg r7_22 none)
          .ret))
          (.drop [132, 133, 134, 135, 136, 137, 138, 142, 143, 144, 145, 146, 147, 151, 152, 153, 154, 155, 156, 157, 158, 159, 160, 161, 162, 163, 165]
          .skip))))
      (.reg r7_23 none)))
abbrev r7_25 : List SOp := [
  ⟨.mv, [.k (.i .i64 0)], some 11, none⟩]
abbrev r7_26 : List SOp := [
  ⟨.mv, [.v 11], some 166, none⟩,
  ⟨.mv, [.v 1], some 167, none⟩,
  ⟨.len, [.m 167], some 168, none⟩,
  ⟨(.bin .lss .i), [.m 166, .m 168], some 169, none⟩,
  ⟨.mv, [.m 169], some 170, none⟩,
  ⟨.mv, [.v 11], some 171, (some (170, true))⟩,
  ⟨(.bin .lss .i), [.m 171, .k (.i .i64 10)], some 172, (some (170, true))⟩,
  ⟨.pick, [.m 170, .m 172, .k (.b false)], some 173, none⟩]
abbrev r7_27 : List SOp := [
  ⟨.mv, [.v 9], some 176, none⟩,
  ⟨(.call (some 27)), [.m 176], some 177, none⟩,
  ⟨.mv, [.v 1], some 178, none⟩,
  ⟨.mv, [.v 11], some 179, none⟩,
  ⟨(.ia 1), [.m 178, .m 179], some 180, none⟩,
  ⟨(.load none), [.m 180], some 181, none⟩,
  ⟨(.bin .neq .s), [.m 177, .m 181], some 182, none⟩]
abbrev r7_28 : List SOp := [
  ⟨.mv, [.k (.b false)], some 4, none⟩]
abbrev r7_29 : List SOp := [
  ⟨.mv, [.m 11], some 174, none⟩,
  ⟨(.bin .add .i), [.m 174, .k (.i .i64 1)], some 175, none⟩,
  ⟨.mv, [.m 175], some 11, none⟩]
abbrev l7_30 : SCode :=
      (.seq
      (.seq
      (.reg r7_26 none)
      (.cond 173
        (.drop [171, 173]
        .skip)
        (.drop [1, 11, 171, 173]
        (.exit 6))))
      (.seq
      (.block 7
        (.seq
        (.reg r7_27 (some [[], [], [], [], [], [1], []]))
        (.cond 182
          (.drop [1, 9, 11, 182]
          (.seq
          (.reg r7_28 none)
          .ret))
          (.drop [182]
          .skip))))
      (.reg r7_29 none)))
abbrev r7_31 : List SOp := [
  ⟨.mv, [.v 9], some 183, none⟩,
  ⟨(.call (some 22)), [.m 183], some 184, none⟩,
  ⟨(.bin .eql .i), [.m 184, .k (.i .i64 0)], some 185, none⟩,
  ⟨.mv, [.m 185], some 186, none⟩,
  ⟨.mv, [.m 9], some 187, (some (186, true))⟩,
  ⟨(.call (some 35)), [.m 187], some 188, (some (186, true))⟩,
  ⟨(.bin .eql .i), [.m 188, .k (.i .i64 0)], some 189, (some (186, true))⟩,
  ⟨.pick, [.m 186, .m 189, .k (.b false)], some 190, none⟩,
  ⟨.mv, [.m 190], some 4, none⟩]
abbrev b7 : SCode :=
  (.seq
  (.reg r7_0 none)
  (.seq
  (.reg r7_1 none)
  (.seq
  (.seq
  (.reg r7_2 none)
  (.block 0
    (.drop [4]
    (.loop l7_8))))
  (.seq
  (.seq
  (.reg r7_9 none)
  (.block 2
    (.loop l7_15)))
  (.seq
  (.seq
  (.reg r7_16 none)
  (.cond 110
    (.drop [0, 1, 5, 6, 105, 106, 107, 108, 110]
    (.seq
    (.reg r7_17 none)
    .ret))
    (.drop [6, 105, 106, 107, 108, 110]
    .skip)))
  (.seq
  (.reg r7_18 none)
  (.seq
  (.seq
  (.reg r7_19 none)
  (.block 4
    (.loop l7_24)))
  (.seq
  (.seq
  (.reg r7_25 none)
  (.block 6
    (.loop l7_30)))
  (.seq
  (.reg r7_31 none)
  .ret)))))))))
abbrev s7 : SFn := ⟨b7, [.tmp 4], 191⟩
theorem ok7 : fnOk Try.prog Try.f7 s7 = true := by kernel_rfl
/- pouch/pouchlaw01.WireReads -/
abbrev r8_0 : List SOp := [
  ⟨.mv, [.k (.b false)], some 4, none⟩]
abbrev r8_1 : List SOp := [
  ⟨.mv, [.v 0], some 12, none⟩,
  ⟨.mv, [.m 0], some 13, none⟩,
  ⟨.len, [.m 13], some 14, none⟩,
  ⟨.min, [.m 14, .k (.i .i64 300)], some 15, none⟩,
  ⟨(.ssl 1 false true), [.m 12, .m 15], some 16, none⟩,
  ⟨.mv, [.m 16], some 0, none⟩]
abbrev r8_2 : List SOp := [
  ⟨(.bslice 1 0 [.lit (.int .u8 0)] []), [], some 17, none⟩,
  ⟨.mv, [.v 0], some 18, none⟩,
  ⟨(.app 1 1), [.m 17, .m 18], some 19, none⟩,
  ⟨.mv, [.m 19], some 5, none⟩]
abbrev r8_3 : List SOp := [
  ⟨.mv, [.v 5], some 20, none⟩,
  ⟨(.call (some 17)), [.m 20], some 21, none⟩,
  ⟨.mv, [.m 21], some 6, none⟩]
abbrev r8_4 : List SOp := [
  ⟨.mv, [.v 0], some 22, none⟩,
  ⟨.b2s, [.m 22], some 23, none⟩,
  ⟨(.build [(.s ⟨#[]⟩), (.i .i64 0), (.i .i64 0)] [(0, 1)]), [.m 23], some 24, none⟩,
  ⟨.box, [.m 24], some 25, none⟩,
  ⟨.mv, [.m 25], some 7, none⟩]
abbrev r8_5 : List SOp := [
  ⟨(.call (some 21)), [], some 26, none⟩,
  ⟨(.un .not), [.m 26], some 27, none⟩,
  ⟨.mv, [.m 27], some 28, none⟩,
  ⟨.mv, [.v 6], some 29, (some (28, false))⟩,
  ⟨(.bin .eql .p), [.m 29, .k .nilP], some 30, (some (28, false))⟩,
  ⟨.pick, [.m 28, .k (.b true), .m 30], some 31, none⟩]
abbrev r8_6 : List SOp := [
  ⟨.mv, [.k (.b false)], some 4, none⟩]
abbrev r8_7 : List SOp := [
  ⟨.mv, [.k (.i .i64 0)], some 8, none⟩]
abbrev r8_8 : List SOp := [
  ⟨.mv, [.v 8], some 32, none⟩,
  ⟨.mv, [.v 1], some 33, none⟩,
  ⟨.len, [.m 33], some 34, none⟩,
  ⟨(.bin .lss .i), [.m 32, .m 34], some 35, none⟩,
  ⟨.mv, [.m 35], some 36, none⟩,
  ⟨.mv, [.v 8], some 37, (some (36, true))⟩,
  ⟨(.bin .lss .i), [.m 37, .k (.i .i64 40)], some 38, (some (36, true))⟩,
  ⟨.pick, [.m 36, .m 38, .k (.b false)], some 39, none⟩]
abbrev r8_9 : List SOp := [
  ⟨.mv, [.k (.b true)], some 9, none⟩]
abbrev r8_10 : List SOp := [
  ⟨.mv, [.v 1], some 42, none⟩,
  ⟨.mv, [.v 8], some 43, none⟩,
  ⟨(.ia 2), [.m 42, .m 43], some 44, none⟩,
  ⟨(.fa 0), [.m 44], some 45, none⟩,
  ⟨(.load none), [.m 45], some 46, none⟩,
  ⟨(.cint .u64), [.m 46], some 47, none⟩,
  ⟨(.bin .rem .i), [.m 47, .k (.i .u64 7)], some 48, none⟩,
  ⟨(.cint .i64), [.m 48], some 49, none⟩]
abbrev r8_11 : List SOp := [
  ⟨(.bin .eql .i), [.v 49, .k (.i .i64 0)], some 51, none⟩,
  ⟨.mv, [.m 51], some 50, none⟩]
abbrev r8_12 : List SOp := [
  ⟨.mv, [.v 6], some 52, none⟩,
  ⟨(.call (some 26)), [.m 52], some 53, none⟩,
  ⟨(.cint .u64), [.m 53], some 54, none⟩,
  ⟨.mv, [.v 7], some 55, none⟩,
  ⟨(.call (some 36)), [.m 55, .k (.i .i64 1)], some 56, none⟩,
  ⟨(.bin .eql .i), [.m 54, .m 56], some 57, none⟩,
  ⟨.mv, [.m 57], some 9, none⟩]
abbrev r8_13 : List SOp := [
  ⟨(.bin .eql .i), [.v 49, .k (.i .i64 1)], some 59, none⟩,
  ⟨.mv, [.m 59], some 58, none⟩]
abbrev r8_14 : List SOp := [
  ⟨.mv, [.v 6], some 60, none⟩,
  ⟨(.call (some 33)), [.m 60], some 61, none⟩,
  ⟨(.cint .u64), [.m 61], some 62, none⟩,
  ⟨.mv, [.v 7], some 63, none⟩,
  ⟨(.call (some 36)), [.m 63, .k (.i .i64 2)], some 64, none⟩,
  ⟨(.bin .eql .i), [.m 62, .m 64], some 65, none⟩,
  ⟨.mv, [.m 65], some 9, none⟩]
abbrev r8_15 : List SOp := [
  ⟨(.bin .eql .i), [.v 49, .k (.i .i64 2)], some 67, none⟩,
  ⟨.mv, [.m 67], some 66, none⟩]
abbrev r8_16 : List SOp := [
  ⟨.mv, [.v 6], some 68, none⟩,
  ⟨(.call (some 34)), [.m 68], some 69, none⟩,
  ⟨(.cint .u64), [.m 69], some 70, none⟩,
  ⟨.mv, [.v 7], some 71, none⟩,
  ⟨(.call (some 36)), [.m 71, .k (.i .i64 4)], some 72, none⟩,
  ⟨(.bin .eql .i), [.m 70, .m 72], some 73, none⟩,
  ⟨.mv, [.m 73], some 9, none⟩]
abbrev r8_17 : List SOp := [
  ⟨(.bin .eql .i), [.v 49, .k (.i .i64 3)], some 75, none⟩,
  ⟨.mv, [.m 75], some 74, none⟩]
abbrev r8_18 : List SOp := [
  ⟨.mv, [.v 6], some 76, none⟩,
  ⟨(.call (some 18)), [.m 76], some 77, none⟩,
  ⟨.mv, [.v 7], some 78, none⟩,
  ⟨(.call (some 19)), [.m 78], some 79, none⟩,
  ⟨(.bin .eql .i), [.m 77, .m 79], some 80, none⟩,
  ⟨.mv, [.m 80], some 9, none⟩]
abbrev r8_19 : List SOp := [
  ⟨(.bin .eql .i), [.v 49, .k (.i .i64 4)], some 82, none⟩,
  ⟨.mv, [.m 82], some 81, none⟩]
abbrev r8_20 : List SOp := [
  ⟨.mv, [.v 6], some 83, none⟩,
  ⟨(.call (some 27)), [.m 83], some 84, none⟩,
  ⟨.mv, [.v 7], some 85, none⟩,
  ⟨(.call (some 37)), [.m 85], some 86, none⟩,
  ⟨(.bin .eql .s), [.m 84, .m 86], some 87, none⟩,
  ⟨.mv, [.m 87], some 9, none⟩]
abbrev r8_21 : List SOp := [
  ⟨(.bin .eql .i), [.v 49, .k (.i .i64 5)], some 89, none⟩,
  ⟨.mv, [.m 89], some 88, none⟩]
abbrev r8_22 : List SOp := [
  ⟨.mv, [.v 6], some 90, none⟩,
  ⟨(.call (some 38)), [.m 90], some 91, none⟩,
  ⟨.mv, [.v 7], some 92, none⟩,
  ⟨(.call (some 39)), [.m 92], some 93, none⟩,
  ⟨(.bin .eql .s), [.m 91, .m 93], some 94, none⟩,
  ⟨.mv, [.m 94], some 9, none⟩]
abbrev r8_23 : List SOp := [
  ⟨(.bin .eql .i), [.m 49, .k (.i .i64 6)], some 96, none⟩,
  ⟨.mv, [.m 96], some 95, none⟩]
abbrev r8_24 : List SOp := [
  ⟨.mv, [.v 6], some 97, none⟩,
  ⟨.mv, [.v 1], some 98, none⟩,
  ⟨.mv, [.v 8], some 99, none⟩,
  ⟨(.ia 2), [.m 98, .m 99], some 100, none⟩,
  ⟨(.fa 1), [.m 100], some 101, none⟩,
  ⟨(.load none), [.m 101], some 102, none⟩,
  ⟨(.call (some 40)), [.m 97, .m 102], some 103, none⟩,
  ⟨.mv, [.v 7], some 104, none⟩,
  ⟨.mv, [.v 1], some 105, none⟩,
  ⟨.mv, [.v 8], some 106, none⟩,
  ⟨(.ia 2), [.m 105, .m 106], some 107, none⟩,
  ⟨(.fa 1), [.m 107], some 108, none⟩,
  ⟨(.load none), [.m 108], some 109, none⟩,
  ⟨(.call (some 41)), [.m 104, .m 109], some 110, none⟩,
  ⟨.mv, [.m 103], some 10, none⟩,
  ⟨.mv, [.m 110], some 11, none⟩]
abbrev r8_25 : List SOp := [
  ⟨.mv, [.v 10], some 111, none⟩,
  ⟨(.bin .neq .p), [.m 111, .k .nilP], some 112, none⟩,
  ⟨.mv, [.m 112], some 113, none⟩,
  ⟨.mv, [.v 10], some 114, (some (113, true))⟩,
  ⟨(.call (some 35)), [.m 114], some 115, (some (113, true))⟩,
  ⟨.mv, [.v 11], some 116, (some (113, true))⟩,
  ⟨(.call (some 42)), [.m 116], some 117, (some (113, true))⟩,
  ⟨(.bin .eql .i), [.m 115, .m 117], some 118, (some (113, true))⟩,
  ⟨.pick, [.m 113, .m 118, .k (.b false)], some 119, none⟩,
  ⟨.mv, [.m 119], some 120, none⟩,
  ⟨.mv, [.v 10], some 121, (some (120, true))⟩,
  ⟨(.call (some 26)), [.m 121], some 122, (some (120, true))⟩,
  ⟨(.cint .u64), [.m 122], some 123, (some (120, true))⟩,
  ⟨.mv, [.v 11], some 124, (some (120, true))⟩,
  ⟨(.call (some 36)), [.m 124, .k (.i .i64 1)], some 125, (some (120, true))⟩,
  ⟨(.bin .eql .i), [.m 123, .m 125], some 126, (some (120, true))⟩,
  ⟨.pick, [.m 120, .m 126, .k (.b false)], some 127, none⟩,
  ⟨.mv, [.m 127], some 128, none⟩,
  ⟨.mv, [.v 10], some 129, (some (128, true))⟩,
  ⟨(.call (some 27)), [.m 129], some 130, (some (128, true))⟩,
  ⟨.mv, [.v 11], some 131, (some (128, true))⟩,
  ⟨(.call (some 37)), [.m 131], some 132, (some (128, true))⟩,
  ⟨(.bin .eql .s), [.m 130, .m 132], some 133, (some (128, true))⟩,
  ⟨.pick, [.m 128, .m 133, .k (.b false)], some 134, none⟩,
  ⟨.mv, [.m 134], some 135, none⟩,
  ⟨.mv, [.m 10], some 136, (some (135, true))⟩,
  ⟨(.call (some 22)), [.m 136], some 137, (some (135, true))⟩,
  ⟨.mv, [.m 11], some 138, (some (135, true))⟩,
  ⟨.nilck, [.m 138], some 139, (some (135, true))⟩,
  ⟨(.fa 2), [.m 139], some 140, (some (135, true))⟩,
  ⟨(.load none), [.m 140], some 141, (some (135, true))⟩,
  ⟨(.bin .eql .i), [.m 137, .m 141], some 142, (some (135, true))⟩,
  ⟨.pick, [.m 135, .m 142, .k (.b false)], some 143, none⟩,
  ⟨.mv, [.m 143], some 9, none⟩]
abbrev r8_26 : List SOp := [
  ⟨.mv, [.m 9], some 144, none⟩,
  ⟨(.un .not), [.m 144], some 145, none⟩,
  ⟨.mv, [.m 145], some 146, none⟩,
  ⟨.mv, [.v 6], some 147, (some (146, false))⟩,
  ⟨(.call (some 22)), [.m 147], some 148, (some (146, false))⟩,
  ⟨.mv, [.v 7], some 149, (some (146, false))⟩,
  ⟨.nilck, [.m 149], some 150, (some (146, false))⟩,
  ⟨(.fa 2), [.m 150], some 151, (some (146, false))⟩,
  ⟨(.load none), [.m 151], some 152, (some (146, false))⟩,
  ⟨(.bin .neq .i), [.m 148, .m 152], some 153, (some (146, false))⟩,
  ⟨.pick, [.m 146, .k (.b true), .m 153], some 154, none⟩,
  ⟨.mv, [.m 154], some 155, none⟩,
  ⟨.mv, [.v 6], some 156, (some (155, false))⟩,
  ⟨(.call (some 35)), [.m 156], some 157, (some (155, false))⟩,
  ⟨.mv, [.v 7], some 158, (some (155, false))⟩,
  ⟨(.call (some 42)), [.m 158], some 159, (some (155, false))⟩,
  ⟨(.bin .neq .i), [.m 157, .m 159], some 160, (some (155, false))⟩,
  ⟨.pick, [.m 155, .k (.b true), .m 160], some 161, none⟩]
abbrev r8_27 : List SOp := [
  ⟨.mv, [.k (.b false)], some 4, none⟩]
abbrev r8_28 : List SOp := [
  ⟨.mv, [.m 8], some 40, none⟩,
  ⟨(.bin .add .i), [.m 40, .k (.i .i64 1)], some 41, none⟩,
  ⟨.mv, [.m 41], some 8, none⟩]
abbrev l8_29 : SCode :=
      (.seq
      (.seq
      (.reg r8_8 none)
      (.cond 39
        (.drop [37, 39]
        .skip)
        (.drop [1, 6, 7, 8, 37, 39]
        (.exit 0))))
      (.seq
      (.block 1
        (.seq
        (.reg r8_9 none)
        (.seq
        (.seq
        (.reg r8_10 none)
        (.block 2
          (.seq
          (.reg r8_11 none)
          (.cond 50
            (.drop [9, 49, 50]
            (.reg r8_12 none))
            (.drop [50]
            (.seq
            (.reg r8_13 none)
            (.cond 58
              (.drop [9, 49, 58]
              (.reg r8_14 none))
              (.drop [58]
              (.seq
              (.reg r8_15 none)
              (.cond 66
                (.drop [9, 49, 66]
                (.reg r8_16 none))
                (.drop [66]
                (.seq
                (.reg r8_17 none)
                (.cond 74
                  (.drop [9, 49, 74]
                  (.reg r8_18 none))
                  (.drop [74]
                  (.seq
                  (.reg r8_19 none)
                  (.cond 81
                    (.drop [9, 49, 81]
                    (.reg r8_20 none))
                    (.drop [81]
                    (.seq
                    (.reg r8_21 none)
                    (.cond 88
                      (.drop [9, 49, 88]
                      (.reg r8_22 none))
                      (.drop [88]
                      (.seq
                      (.reg r8_23 none)
                      (.cond 95
                        (.drop [9, 95]
                        (.seq
                        (.reg r8_24 (some [[], [], [], [], [], [], [], [], [], [], [], [], [5, 6], [], [], []]))
                        (.reg r8_25 (some [[], [], [], [], [], [], [], [], [], [], [], [], [], [], [], [], [], [], [], [], [], [], [], [], [], [], [], [], [], [], [26], [], [], []]))))
                        (.drop [95]
                        .skip)))))))))))))))))))))))
        (.seq
        (.reg r8_26 (some [[], [], [], [], [], [], [], [], [4], [], [], [], [], [], [], [], [], []]))
        (.cond 161
          (.drop [0, 1, 5, 6, 7, 8, 10, 11, 114, 115, 116, 117, 121, 122, 123, 124, 125, 129, 130, 131, 132, 136, 137, 138, 139, 140, 141, 147, 148, 149, 150, 151, 152, 156, 157, 158, 159, 161]
          (.seq
          (.reg r8_27 none)
          .ret))
          (.drop [10, 11, 114, 115, 116, 117, 121, 122, 123, 124, 125, 129, 130, 131, 132, 136, 137, 138, 139, 140, 141, 147, 148, 149, 150, 151, 152, 156, 157, 158, 159, 161]
          .skip))))))
      (.reg r8_28 none)))
abbrev r8_30 : List SOp := [
  ⟨.mv, [.m 5], some 162, none⟩,
  ⟨.b2s, [.m 162], some 163, none⟩,
  ⟨.mv, [.m 0], some 164, none⟩,
  ⟨.b2s, [.m 164], some 165, none⟩,
  ⟨(.bin .eql .s), [.m 163, .m 165], some 166, none⟩,
  ⟨.mv, [.m 166], some 4, none⟩]
abbrev b8 : SCode :=
  (.seq
  (.reg r8_0 none)
  (.seq
  (.reg r8_1 none)
  (.seq
  (.reg r8_2 none)
  (.seq
  (.reg r8_3 none)
  (.seq
  (.reg r8_4 none)
  (.seq
  (.seq
  (.reg r8_5 none)
  (.cond 31
    (.drop [0, 1, 4, 5, 6, 7, 29, 31]
    (.seq
    (.reg r8_6 none)
    .ret))
    (.drop [4, 29, 31]
    .skip)))
  (.seq
  (.seq
  (.reg r8_7 none)
  (.block 0
    (.loop l8_29)))
  (.seq
  (.reg r8_30 none)
  .ret))))))))
abbrev s8 : SFn := ⟨b8, [.tmp 4], 167⟩
theorem ok8 : fnOk Try.prog Try.f8 s8 = true := by kernel_rfl
/- pouch/pouchlaw01.WireNil -/
abbrev r9_0 : List SOp := [
  ⟨.mv, [.k (.b false)], some 2, none⟩]
abbrev r9_1 : List SOp := [
  ⟨.mv, [.k .nilP], some 3, none⟩]
abbrev r9_2 : List SOp := [
  ⟨(.call (some 21)), [], some 4, none⟩,
  ⟨.mv, [.m 4], some 5, none⟩,
  ⟨.mv, [.v 3], some 6, (some (5, true))⟩,
  ⟨(.call (some 26)), [.m 6], some 7, (some (5, true))⟩,
  ⟨(.bin .eql .i), [.m 7, .k (.i .u8 0)], some 8, (some (5, true))⟩,
  ⟨.pick, [.m 5, .m 8, .k (.b false)], some 9, none⟩,
  ⟨.mv, [.m 9], some 10, none⟩,
  ⟨.mv, [.v 3], some 11, (some (10, true))⟩,
  ⟨(.call (some 33)), [.m 11], some 12, (some (10, true))⟩,
  ⟨(.bin .eql .i), [.m 12, .k (.i .u16 0)], some 13, (some (10, true))⟩,
  ⟨.pick, [.m 10, .m 13, .k (.b false)], some 14, none⟩,
  ⟨.mv, [.m 14], some 15, none⟩,
  ⟨.mv, [.v 3], some 16, (some (15, true))⟩,
  ⟨(.call (some 34)), [.m 16], some 17, (some (15, true))⟩,
  ⟨(.bin .eql .i), [.m 17, .k (.i .u32 0)], some 18, (some (15, true))⟩,
  ⟨.pick, [.m 15, .m 18, .k (.b false)], some 19, none⟩,
  ⟨.mv, [.m 19], some 20, none⟩,
  ⟨.mv, [.v 3], some 21, (some (20, true))⟩,
  ⟨(.call (some 18)), [.m 21], some 22, (some (20, true))⟩,
  ⟨(.bin .eql .i), [.m 22, .k (.i .u32 0)], some 23, (some (20, true))⟩,
  ⟨.pick, [.m 20, .m 23, .k (.b false)], some 24, none⟩,
  ⟨.mv, [.m 24], some 25, none⟩,
  ⟨.mv, [.v 3], some 26, (some (25, true))⟩,
  ⟨(.call (some 27)), [.m 26], some 27, (some (25, true))⟩,
  ⟨(.bin .eql .s), [.m 27, .k (.s ⟨#[]⟩)], some 28, (some (25, true))⟩,
  ⟨.pick, [.m 25, .m 28, .k (.b false)], some 29, none⟩,
  ⟨.mv, [.m 29], some 30, none⟩,
  ⟨.mv, [.v 3], some 31, (some (30, true))⟩,
  ⟨(.call (some 38)), [.m 31], some 32, (some (30, true))⟩,
  ⟨(.bin .eql .s), [.m 32, .k (.s ⟨#[]⟩)], some 33, (some (30, true))⟩,
  ⟨.pick, [.m 30, .m 33, .k (.b false)], some 34, none⟩,
  ⟨.mv, [.m 34], some 35, none⟩,
  ⟨.mv, [.v 3], some 36, (some (35, true))⟩,
  ⟨(.call (some 35)), [.m 36], some 37, (some (35, true))⟩,
  ⟨(.bin .eql .i), [.m 37, .k (.i .i64 0)], some 38, (some (35, true))⟩,
  ⟨.pick, [.m 35, .m 38, .k (.b false)], some 39, none⟩,
  ⟨.mv, [.m 39], some 40, none⟩,
  ⟨.mv, [.v 3], some 41, (some (40, true))⟩,
  ⟨.mv, [.m 0], some 42, (some (40, true))⟩,
  ⟨(.call (some 40)), [.m 41, .m 42], some 43, (some (40, true))⟩,
  ⟨(.bin .eql .p), [.m 43, .k .nilP], some 44, (some (40, true))⟩,
  ⟨.pick, [.m 40, .m 44, .k (.b false)], some 45, none⟩,
  ⟨.mv, [.m 45], some 46, none⟩,
  ⟨.mv, [.m 3], some 47, (some (46, true))⟩,
  ⟨(.call (some 22)), [.m 47], some 48, (some (46, true))⟩,
  ⟨(.bin .eql .i), [.m 48, .k (.i .i64 1)], some 49, (some (46, true))⟩,
  ⟨.pick, [.m 46, .m 49, .k (.b false)], some 50, none⟩,
  ⟨.mv, [.m 50], some 2, none⟩]
abbrev b9 : SCode :=
  (.seq
  (.reg r9_0 none)
  (.seq
  (.reg r9_1 none)
  (.seq
  (.reg r9_2 none)
  .ret)))
abbrev s9 : SFn := ⟨b9, [.tmp 2], 51⟩
theorem ok9 : fnOk Try.prog Try.f9 s9 = true := by kernel_rfl
/- pouch/pouchlaw03.told -/
abbrev r10_0 : List SOp := [
  ⟨.mv, [.k (.b false)], some 0, none⟩]
abbrev r10_1 : List SOp := [
  ⟨(.call (some 11)), [.k (.i .i64 5), .k (.i .i64 4), .k (.i .u8 16)], some 1, none⟩,
  ⟨.mv, [.m 1], some 2, none⟩,
  ⟨(.call (some 11)), [.k (.i .i64 4), .k (.i .i64 4), .k (.i .u8 16)], some 3, (some (2, true))⟩,
  ⟨(.un .not), [.m 3], some 4, (some (2, true))⟩,
  ⟨.pick, [.m 2, .m 4, .k (.b false)], some 5, none⟩,
  ⟨.mv, [.m 5], some 6, none⟩,
  ⟨(.call (some 13)), [.k (.i .i64 4), .k (.i .i64 2), .k (.i .u8 5)], some 7, (some (6, true))⟩,
  ⟨.pick, [.m 6, .m 7, .k (.b false)], some 8, none⟩,
  ⟨.mv, [.m 8], some 9, none⟩,
  ⟨(.call (some 13)), [.k (.i .i64 5), .k (.i .i64 4), .k (.i .u8 16)], some 10, (some (9, true))⟩,
  ⟨(.un .not), [.m 10], some 11, (some (9, true))⟩,
  ⟨.pick, [.m 9, .m 11, .k (.b false)], some 12, none⟩,
  ⟨.mv, [.m 12], some 13, none⟩,
  ⟨(.call (some 13)), [.k (.i .i64 5), .k (.i .i64 4), .k (.i .u8 151)], some 14, (some (13, true))⟩,
  ⟨.pick, [.m 13, .m 14, .k (.b false)], some 15, none⟩,
  ⟨.mv, [.m 15], some 16, none⟩,
  ⟨(.call (some 15)), [.k (.i .i64 5), .k (.i .i64 15)], some 17, (some (16, true))⟩,
  ⟨.len, [.m 17], some 18, (some (16, true))⟩,
  ⟨(.bin .eql .i), [.m 18, .k (.i .i64 3)], some 19, (some (16, true))⟩,
  ⟨.pick, [.m 16, .m 19, .k (.b false)], some 20, none⟩,
  ⟨.mv, [.m 20], some 0, none⟩]
abbrev b10 : SCode :=
  (.seq
  (.reg r10_0 none)
  (.seq
  (.reg r10_1 none)
  .ret))
abbrev s10 : SFn := ⟨b10, [.tmp 0], 21⟩
theorem ok10 : fnOk Try.prog Try.f10 s10 = true := by kernel_rfl
/- pouch/reason.Known -/
abbrev r11_0 : List SOp := [
  ⟨.mv, [.k (.b false)], some 6, none⟩]
abbrev r11_1 : List SOp := [
  ⟨.mv, [.m 0], some 7, none⟩,
  ⟨.mv, [.m 1], some 8, none⟩,
  ⟨(.call (some 15)), [.m 7, .m 8], some 9, none⟩,
  ⟨.mv, [.m 2], some 10, none⟩,
  ⟨(.call (some 43)), [.m 9, .m 10], some 11, none⟩,
  ⟨.mv, [.m 11], some 6, none⟩]
abbrev b11 : SCode :=
  (.seq
  (.reg r11_0 none)
  (.seq
  (.reg r11_1 none)
  .ret))
abbrev s11 : SFn := ⟨b11, [.tmp 6], 12⟩
theorem ok11 : fnOk Try.prog Try.f11 s11 = true := by kernel_rfl
/- pouch/pouchref03.Known -/
abbrev r12_0 : List SOp := [
  ⟨.mv, [.k (.b false)], some 6, none⟩]
abbrev r12_1 : List SOp := [
  ⟨.mv, [.m 0], some 9, none⟩,
  ⟨.mv, [.m 1], some 10, none⟩,
  ⟨(.call (some 44)), [.m 9, .m 10], some 11, none⟩,
  ⟨.mv, [.m 11], some 7, none⟩]
abbrev r12_2 : List SOp := [
  ⟨.mv, [.k (.i .i64 0)], some 8, none⟩]
abbrev r12_3 : List SOp := [
  ⟨.mv, [.v 8], some 12, none⟩,
  ⟨(.bin .add .i), [.m 12, .k (.i .i64 1)], some 13, none⟩,
  ⟨.mv, [.v 7], some 14, none⟩,
  ⟨.len, [.m 14], some 15, none⟩,
  ⟨(.bin .lss .i), [.m 13, .m 15], some 16, none⟩]
abbrev r12_4 : List SOp := [
  ⟨.mv, [.v 2], some 19, none⟩,
  ⟨(.cint .i64), [.m 19], some 20, none⟩,
  ⟨.mv, [.v 7], some 21, none⟩,
  ⟨.mv, [.v 8], some 22, none⟩,
  ⟨(.ia 1), [.m 21, .m 22], some 23, none⟩,
  ⟨(.load none), [.m 23], some 24, none⟩,
  ⟨(.bin .geq .i), [.m 20, .m 24], some 25, none⟩,
  ⟨.mv, [.m 25], some 26, none⟩,
  ⟨.mv, [.v 2], some 27, (some (26, true))⟩,
  ⟨(.cint .i64), [.m 27], some 28, (some (26, true))⟩,
  ⟨.mv, [.v 7], some 29, (some (26, true))⟩,
  ⟨.mv, [.v 8], some 30, (some (26, true))⟩,
  ⟨(.bin .add .i), [.m 30, .k (.i .i64 1)], some 31, (some (26, true))⟩,
  ⟨(.ia 1), [.m 29, .m 31], some 32, (some (26, true))⟩,
  ⟨(.load none), [.m 32], some 33, (some (26, true))⟩,
  ⟨(.bin .leq .i), [.m 28, .m 33], some 34, (some (26, true))⟩,
  ⟨.pick, [.m 26, .m 34, .k (.b false)], some 35, none⟩]
abbrev r12_5 : List SOp := [
  ⟨.mv, [.k (.b true)], some 6, none⟩]
abbrev r12_6 : List SOp := [
  ⟨.mv, [.m 8], some 17, none⟩,
  ⟨(.bin .add .i), [.m 17, .k (.i .i64 2)], some 18, none⟩,
  ⟨.mv, [.m 18], some 8, none⟩]
abbrev l12_7 : SCode :=
      (.seq
      (.seq
      (.reg r12_3 none)
      (.cond 16
        (.drop [16]
        .skip)
        (.drop [2, 7, 8, 16]
        (.exit 0))))
      (.seq
      (.block 1
        (.seq
        (.reg r12_4 none)
        (.cond 35
          (.drop [2, 7, 8, 27, 28, 29, 30, 31, 32, 33, 35]
          (.seq
          (.reg r12_5 none)
          .ret))
          (.drop [27, 28, 29, 30, 31, 32, 33, 35]
          .skip))))
      (.reg r12_6 none)))
abbrev r12_8 : List SOp := [
  ⟨.mv, [.k (.b false)], some 6, none⟩]
abbrev b12 : SCode :=
  (.seq
  (.reg r12_0 none)
  (.seq
  (.reg r12_1 none)
  (.seq
  (.seq
  (.reg r12_2 none)
  (.block 0
    (.drop [6]
    (.loop l12_7))))
  (.seq
  (.reg r12_8 none)
  .ret))))
abbrev s12 : SFn := ⟨b12, [.tmp 6], 36⟩
theorem ok12 : fnOk Try.prog Try.f12 s12 = true := by kernel_rfl
/- pouch/reason.Failed -/
abbrev r13_0 : List SOp := [
  ⟨.mv, [.k (.b false)], some 6, none⟩]
abbrev r13_1 : List SOp := [
  ⟨.mv, [.v 0], some 8, none⟩,
  ⟨(.bin .eql .i), [.m 8, .k (.i .i64 4)], some 9, none⟩,
  ⟨.mv, [.m 9], some 10, none⟩,
  ⟨.mv, [.v 1], some 11, (some (10, true))⟩,
  ⟨(.bin .eql .i), [.m 11, .k (.i .i64 2)], some 12, (some (10, true))⟩,
  ⟨.pick, [.m 10, .m 12, .k (.b false)], some 13, none⟩,
  ⟨.mv, [.m 13], some 14, none⟩,
  ⟨.mv, [.v 2], some 15, (some (14, true))⟩,
  ⟨(.bin .neq .i), [.m 15, .k (.i .u8 0)], some 16, (some (14, true))⟩,
  ⟨.pick, [.m 14, .m 16, .k (.b false)], some 17, none⟩,
  ⟨.mv, [.m 17], some 7, none⟩]
abbrev r13_2 : List SOp := [
  ⟨.mv, [.m 0], some 18, none⟩,
  ⟨.mv, [.m 1], some 19, none⟩,
  ⟨.mv, [.v 2], some 20, none⟩,
  ⟨(.call (some 11)), [.m 18, .m 19, .m 20], some 21, none⟩,
  ⟨.mv, [.m 21], some 22, none⟩,
  ⟨.mv, [.m 2], some 23, (some (22, true))⟩,
  ⟨(.bin .geq .i), [.m 23, .k (.i .u8 128)], some 24, (some (22, true))⟩,
  ⟨.mv, [.m 24], some 25, (some (22, true))⟩,
  ⟨.mv, [.m 7], some 26, (some (25, false))⟩,
  ⟨.pick, [.m 25, .k (.b true), .m 26], some 27, (some (22, true))⟩,
  ⟨.pick, [.m 22, .m 27, .k (.b false)], some 28, none⟩,
  ⟨.mv, [.m 28], some 6, none⟩]
abbrev b13 : SCode :=
  (.seq
  (.reg r13_0 none)
  (.seq
  (.reg r13_1 none)
  (.seq
  (.reg r13_2 none)
  .ret)))
abbrev s13 : SFn := ⟨b13, [.tmp 6], 29⟩
theorem ok13 : fnOk Try.prog Try.f13 s13 = true := by kernel_rfl
/- pouch/pouchref03.Failed -/
abbrev r14_0 : List SOp := [
  ⟨.mv, [.k (.b false)], some 6, none⟩]
abbrev r14_1 : List SOp := [
  ⟨.mv, [.v 0], some 7, none⟩,
  ⟨.mv, [.v 1], some 8, none⟩,
  ⟨.mv, [.v 2], some 9, none⟩,
  ⟨(.call (some 12)), [.m 7, .m 8, .m 9], some 10, none⟩,
  ⟨.mv, [.m 10], some 11, none⟩,
  ⟨.mv, [.v 2], some 12, (some (11, true))⟩,
  ⟨(.bin .geq .i), [.m 12, .k (.i .u8 128)], some 13, (some (11, true))⟩,
  ⟨.mv, [.m 13], some 14, (some (11, true))⟩,
  ⟨.mv, [.m 0], some 15, (some (14, false))⟩,
  ⟨(.bin .eql .i), [.m 15, .k (.i .i64 4)], some 16, (some (14, false))⟩,
  ⟨.mv, [.m 16], some 17, (some (14, false))⟩,
  ⟨.mv, [.m 1], some 18, (some (17, true))⟩,
  ⟨(.bin .eql .i), [.m 18, .k (.i .i64 2)], some 19, (some (17, true))⟩,
  ⟨.pick, [.m 17, .m 19, .k (.b false)], some 20, (some (14, false))⟩,
  ⟨.mv, [.m 20], some 21, (some (14, false))⟩,
  ⟨.mv, [.m 2], some 22, (some (21, true))⟩,
  ⟨(.bin .neq .i), [.m 22, .k (.i .u8 0)], some 23, (some (21, true))⟩,
  ⟨.pick, [.m 21, .m 23, .k (.b false)], some 24, (some (14, false))⟩,
  ⟨.pick, [.m 14, .k (.b true), .m 24], some 25, (some (11, true))⟩,
  ⟨.pick, [.m 11, .m 25, .k (.b false)], some 26, none⟩,
  ⟨.mv, [.m 26], some 6, none⟩]
abbrev b14 : SCode :=
  (.seq
  (.reg r14_0 none)
  (.seq
  (.reg r14_1 none)
  .ret))
abbrev s14 : SFn := ⟨b14, [.tmp 6], 27⟩
theorem ok14 : fnOk Try.prog Try.f14 s14 = true := by kernel_rfl
/- pouch/reason.All -/
abbrev r15_0 : List SOp := [
  ⟨.mv, [.k .nilS], some 4, none⟩]
abbrev r15_1 : List SOp := [
  ⟨.mv, [.m 0], some 5, none⟩]
abbrev r15_2 : List SOp := [
  ⟨(.bin .eql .i), [.v 5, .k (.i .i64 4)], some 7, none⟩,
  ⟨.mv, [.m 7], some 6, none⟩]
abbrev r15_3 : List SOp := [
  ⟨.mv, [.m 1], some 8, none⟩,
  ⟨(.call (some 45)), [.m 8], some 9, none⟩,
  ⟨.mv, [.m 9], some 4, none⟩]
abbrev r15_4 : List SOp := [
  ⟨(.bin .eql .i), [.m 5, .k (.i .i64 5)], some 11, none⟩,
  ⟨.mv, [.m 11], some 10, none⟩]
abbrev r15_5 : List SOp := [
  ⟨.mv, [.m 1], some 12, none⟩,
  ⟨(.call (some 46)), [.m 12], some 13, none⟩,
  ⟨.mv, [.m 13], some 4, none⟩]
abbrev r15_6 : List SOp := [
  ⟨.mv, [.k .nilS], some 4, none⟩]
abbrev b15 : SCode :=
  (.seq
  (.reg r15_0 none)
  (.seq
  (.seq
  (.reg r15_1 none)
  (.block 0
    (.seq
    (.reg r15_2 none)
    (.cond 6
      (.drop [4, 5, 6]
      (.seq
      (.reg r15_3 none)
      .ret))
      (.drop [4, 6]
      (.seq
      (.reg r15_4 none)
      (.cond 10
        (.drop [10]
        (.seq
        (.reg r15_5 none)
        .ret))
        (.drop [1, 10]
        .skip))))))))
  (.seq
  (.reg r15_6 none)
  .ret)))
abbrev s15 : SFn := ⟨b15, [.tmp 4], 14⟩
theorem ok15 : fnOk Try.prog Try.f15 s15 = true := by kernel_rfl
/- pouch/pouchref03.All -/
abbrev r16_0 : List SOp := [
  ⟨.mv, [.k .nilS], some 4, none⟩]
abbrev r16_1 : List SOp := [
  ⟨.mv, [.k .nilS], some 5, none⟩]
abbrev r16_2 : List SOp := [
  ⟨.mv, [.k (.i .i64 0)], some 6, none⟩]
abbrev r16_3 : List SOp := [
  ⟨.mv, [.v 6], some 7, none⟩,
  ⟨(.bin .lss .i), [.m 7, .k (.i .i64 256)], some 8, none⟩]
abbrev r16_4 : List SOp := [
  ⟨.mv, [.v 0], some 11, none⟩,
  ⟨.mv, [.v 1], some 12, none⟩,
  ⟨.mv, [.v 6], some 13, none⟩,
  ⟨(.cint .u8), [.m 13], some 14, none⟩,
  ⟨(.call (some 12)), [.m 11, .m 12, .m 14], some 15, none⟩]
abbrev r16_5 : List SOp := [
  ⟨.mv, [.m 5], some 16, none⟩,
  ⟨.mv, [.v 6], some 17, none⟩,
  ⟨(.cint .u8), [.m 17], some 18, none⟩,
  ⟨(.bslice 1 1 [.lit (.int .u8 0)] [0]), [.m 18], some 19, none⟩,
  ⟨(.app 1 1), [.m 16, .m 19], some 20, none⟩,
  ⟨.mv, [.m 20], some 5, none⟩]
abbrev r16_6 : List SOp := [
  ⟨.mv, [.m 6], some 9, none⟩,
  ⟨(.bin .add .i), [.m 9, .k (.i .i64 1)], some 10, none⟩,
  ⟨.mv, [.m 10], some 6, none⟩]
abbrev l16_7 : SCode :=
      (.seq
      (.seq
      (.reg r16_3 none)
      (.cond 8
        (.drop [8]
        .skip)
        (.drop [0, 1, 6, 8]
        (.exit 0))))
      (.seq
      (.block 1
        (.seq
        (.reg r16_4 none)
        (.cond 15
          (.drop [15]
          (.reg r16_5 none))
          (.drop [15]
          .skip))))
      (.reg r16_6 none)))
abbrev r16_8 : List SOp := [
  ⟨.mv, [.m 5], some 21, none⟩,
  ⟨.mv, [.m 21], some 4, none⟩]
abbrev b16 : SCode :=
  (.seq
  (.reg r16_0 none)
  (.seq
  (.reg r16_1 none)
  (.seq
  (.seq
  (.reg r16_2 none)
  (.block 0
    (.drop [4]
    (.loop l16_7))))
  (.seq
  (.reg r16_8 none)
  .ret))))
abbrev s16 : SFn := ⟨b16, [.tmp 4], 22⟩
theorem ok16 : fnOk Try.prog Try.f16 s16 = true := by kernel_rfl
/- pouch/wire.Read -/
abbrev r17_0 : List SOp := [
  ⟨.mv, [.k .nilP], some 2, none⟩]
abbrev r17_1 : List SOp := [
  ⟨.mv, [.m 0], some 3, none⟩,
  ⟨.b2s, [.m 3], some 4, none⟩,
  ⟨(.build [(.s ⟨#[]⟩), (.i .i64 0)] [(0, 1)]), [.m 4], some 5, none⟩,
  ⟨.box, [.m 5], some 6, none⟩,
  ⟨.mv, [.m 6], some 2, none⟩]
abbrev b17 : SCode :=
  (.seq
  (.reg r17_0 none)
  (.seq
  (.reg r17_1 none)
  .ret))
abbrev s17 : SFn := ⟨b17, [.tmp 2], 7⟩
theorem ok17 : fnOk Try.prog Try.f17 s17 = true := by kernel_rfl
/- (*pouch/wire.Reader).Var -/
abbrev r18_0 : List SOp := [
  ⟨.mv, [.k (.i .u32 0)], some 2, none⟩]
abbrev r18_1 : List SOp := [
  ⟨.mv, [.v 0], some 6, none⟩,
  ⟨(.call (some 22)), [.m 6], some 7, none⟩,
  ⟨(.bin .neq .i), [.m 7, .k (.i .i64 0)], some 8, none⟩]
abbrev r18_2 : List SOp := [
  ⟨.mv, [.k (.i .u32 0)], some 2, none⟩]
abbrev r18_3 : List SOp := [
  ⟨.mv, [.v 0], some 10, none⟩,
  ⟨.nilck, [.m 10], some 11, none⟩,
  ⟨(.fa 0), [.m 11], some 12, none⟩,
  ⟨(.load none), [.m 12], some 13, none⟩,
  ⟨(.call (some 47)), [.m 13], some 14, none⟩,
  ⟨.mv, [.m 14], some 9, none⟩,
  ⟨.extm, [.c 9 0], some 15, none⟩,
  ⟨.extm, [.c 9 1], some 16, none⟩,
  ⟨(.ext 2), [.m 9], some 17, none⟩,
  ⟨.mv, [.m 15], some 3, none⟩,
  ⟨.mv, [.m 16], some 4, none⟩,
  ⟨.mv, [.m 17], some 5, none⟩]
abbrev r18_4 : List SOp := [
  ⟨.mv, [.v 0], some 18, none⟩,
  ⟨.mv, [.m 5], some 19, none⟩,
  ⟨.nilck, [.m 18], some 20, none⟩,
  ⟨(.fa 1), [.m 20], some 21, none⟩,
  ⟨(.store 1), [.m 21, .m 19], none, none⟩]
abbrev r18_5 : List SOp := [
  ⟨.mv, [.v 0], some 22, none⟩,
  ⟨.mv, [.m 0], some 23, none⟩,
  ⟨.nilck, [.m 23], some 24, none⟩,
  ⟨(.fa 0), [.m 24], some 25, none⟩,
  ⟨(.load none), [.m 25], some 26, none⟩,
  ⟨.mv, [.m 4], some 27, none⟩,
  ⟨(.sstr true false), [.m 26, .m 27], some 28, none⟩,
  ⟨.nilck, [.m 22], some 29, none⟩,
  ⟨(.fa 0), [.m 29], some 30, none⟩,
  ⟨(.store 1), [.m 30, .m 28], none, none⟩]
abbrev r18_6 : List SOp := [
  ⟨.mv, [.m 3], some 31, none⟩,
  ⟨.mv, [.m 31], some 2, none⟩]
abbrev b18 : SCode :=
  (.seq
  (.reg r18_0 none)
  (.seq
  (.seq
  (.reg r18_1 none)
  (.cond 8
    (.drop [0, 2, 8]
    (.seq
    (.reg r18_2 none)
    .ret))
    (.drop [2, 8]
    .skip)))
  (.seq
  (.reg r18_3 none)
  (.seq
  (.reg r18_4 none)
  (.seq
  (.reg r18_5 none)
  (.seq
  (.reg r18_6 none)
  .ret))))))
abbrev s18 : SFn := ⟨b18, [.tmp 2], 32⟩
theorem ok18 : fnOk Try.prog Try.f18 s18 = true := by kernel_rfl
/- (*pouch/pouchref01.Reader).Var -/
abbrev r19_0 : List SOp := [
  ⟨.mv, [.k (.i .u32 0)], some 2, none⟩]
abbrev r19_1 : List SOp := [
  ⟨.mv, [.v 0], some 7, none⟩,
  ⟨.nilck, [.m 7], some 8, none⟩,
  ⟨(.fa 2), [.m 8], some 9, none⟩,
  ⟨(.load none), [.m 9], some 10, none⟩,
  ⟨(.bin .neq .i), [.m 10, .k (.i .i64 0)], some 11, none⟩]
abbrev r19_2 : List SOp := [
  ⟨.mv, [.k (.i .u32 0)], some 2, none⟩]
abbrev r19_3 : List SOp := [
  ⟨.mv, [.k (.i .u32 0)], some 3, none⟩,
  ⟨.mv, [.k (.i .u32 1)], some 4, none⟩]
abbrev r19_4 : List SOp := [
  ⟨.mv, [.k (.i .i64 0)], some 5, none⟩]
abbrev r19_5 : List SOp := [
  ⟨.mv, [.v 5], some 12, none⟩,
  ⟨(.bin .lss .i), [.m 12, .k (.i .i64 4)], some 13, none⟩]
abbrev r19_6 : List SOp := [
  ⟨.mv, [.v 0], some 16, none⟩,
  ⟨.nilck, [.m 16], some 17, none⟩,
  ⟨(.fa 1), [.m 17], some 18, none⟩,
  ⟨(.load none), [.m 18], some 19, none⟩,
  ⟨.mv, [.v 5], some 20, none⟩,
  ⟨(.bin .add .i), [.m 19, .m 20], some 21, none⟩,
  ⟨.mv, [.v 0], some 22, none⟩,
  ⟨.nilck, [.m 22], some 23, none⟩,
  ⟨(.fa 0), [.m 23], some 24, none⟩,
  ⟨(.load none), [.m 24], some 25, none⟩,
  ⟨.lens, [.m 25], some 26, none⟩,
  ⟨(.bin .geq .i), [.m 21, .m 26], some 27, none⟩]
abbrev r19_7 : List SOp := [
  ⟨.mv, [.m 0], some 28, none⟩,
  ⟨.nilck, [.m 28], some 29, none⟩,
  ⟨(.fa 2), [.m 29], some 30, none⟩,
  ⟨(.store 1), [.m 30, .k (.i .i64 2)], none, none⟩]
abbrev r19_8 : List SOp := [
  ⟨.mv, [.k (.i .u32 0)], some 2, none⟩]
abbrev r19_9 : List SOp := [
  ⟨.mv, [.v 0], some 31, none⟩,
  ⟨.nilck, [.m 31], some 32, none⟩,
  ⟨(.fa 0), [.m 32], some 33, none⟩,
  ⟨(.load none), [.m 33], some 34, none⟩,
  ⟨.mv, [.v 0], some 35, none⟩,
  ⟨.nilck, [.m 35], some 36, none⟩,
  ⟨(.fa 1), [.m 36], some 37, none⟩,
  ⟨(.load none), [.m 37], some 38, none⟩,
  ⟨.mv, [.v 5], some 39, none⟩,
  ⟨(.bin .add .i), [.m 38, .m 39], some 40, none⟩,
  ⟨.sidx, [.m 34, .m 40], some 41, none⟩,
  ⟨(.cint .u32), [.m 41], some 42, none⟩,
  ⟨.mv, [.m 42], some 6, none⟩]
abbrev r19_10 : List SOp := [
  ⟨.mv, [.m 3], some 43, none⟩,
  ⟨.mv, [.v 6], some 44, none⟩,
  ⟨(.bin .rem .i), [.m 44, .k (.i .u32 128)], some 45, none⟩,
  ⟨.mv, [.v 4], some 46, none⟩,
  ⟨(.bin .mul .i), [.m 45, .m 46], some 47, none⟩,
  ⟨(.bin .add .i), [.m 43, .m 47], some 48, none⟩,
  ⟨.mv, [.m 48], some 3, none⟩]
abbrev r19_11 : List SOp := [
  ⟨.mv, [.m 4], some 49, none⟩,
  ⟨(.bin .mul .i), [.m 49, .k (.i .u32 128)], some 50, none⟩,
  ⟨.mv, [.m 50], some 4, none⟩]
abbrev r19_12 : List SOp := [
  ⟨.mv, [.v 6], some 51, none⟩,
  ⟨(.bin .geq .i), [.m 51, .k (.i .u32 128)], some 52, none⟩,
  ⟨.mv, [.m 52], some 53, none⟩,
  ⟨.mv, [.v 5], some 54, (some (53, true))⟩,
  ⟨(.bin .eql .i), [.m 54, .k (.i .i64 3)], some 55, (some (53, true))⟩,
  ⟨.pick, [.m 53, .m 55, .k (.b false)], some 56, none⟩,
  ⟨.mv, [.m 56], some 57, none⟩,
  ⟨.mv, [.v 6], some 58, (some (57, false))⟩,
  ⟨(.bin .eql .i), [.m 58, .k (.i .u32 0)], some 59, (some (57, false))⟩,
  ⟨.mv, [.m 59], some 60, (some (57, false))⟩,
  ⟨.mv, [.v 5], some 61, (some (60, true))⟩,
  ⟨(.bin .gtr .i), [.m 61, .k (.i .i64 0)], some 62, (some (60, true))⟩,
  ⟨.pick, [.m 60, .m 62, .k (.b false)], some 63, (some (57, false))⟩,
  ⟨.pick, [.m 57, .k (.b true), .m 63], some 64, none⟩]
abbrev r19_13 : List SOp := [
  ⟨.mv, [.m 0], some 65, none⟩,
  ⟨.nilck, [.m 65], some 66, none⟩,
  ⟨(.fa 2), [.m 66], some 67, none⟩,
  ⟨(.store 1), [.m 67, .k (.i .i64 3)], none, none⟩]
abbrev r19_14 : List SOp := [
  ⟨.mv, [.k (.i .u32 0)], some 2, none⟩]
abbrev r19_15 : List SOp := [
  ⟨.mv, [.m 6], some 68, none⟩,
  ⟨(.bin .lss .i), [.m 68, .k (.i .u32 128)], some 69, none⟩]
abbrev r19_16 : List SOp := [
  ⟨.mv, [.v 0], some 70, none⟩,
  ⟨.mv, [.m 0], some 71, none⟩,
  ⟨.nilck, [.m 71], some 72, none⟩,
  ⟨(.fa 1), [.m 72], some 73, none⟩,
  ⟨(.load none), [.m 73], some 74, none⟩,
  ⟨.mv, [.m 5], some 75, none⟩,
  ⟨(.bin .add .i), [.m 74, .m 75], some 76, none⟩,
  ⟨(.bin .add .i), [.m 76, .k (.i .i64 1)], some 77, none⟩,
  ⟨.nilck, [.m 70], some 78, none⟩,
  ⟨(.fa 1), [.m 78], some 79, none⟩,
  ⟨(.store 1), [.m 79, .m 77], none, none⟩]
abbrev r19_17 : List SOp := [
  ⟨.mv, [.m 3], some 80, none⟩,
  ⟨.mv, [.m 80], some 2, none⟩]
abbrev r19_18 : List SOp := [
  ⟨.mv, [.m 5], some 14, none⟩,
  ⟨(.bin .add .i), [.m 14, .k (.i .i64 1)], some 15, none⟩,
  ⟨.mv, [.m 15], some 5, none⟩]
abbrev l19_19 : SCode :=
      (.seq
      (.seq
      (.reg r19_5 none)
      (.cond 13
        (.drop [13]
        .skip)
        (.drop [0, 3, 4, 5, 13]
        (.exit 0))))
      (.seq
      (.block 1
        (.seq
        (.seq
        (.reg r19_6 (some [[], [], [], [], [], [], [], [], [], [3], [], []]))
        (.cond 27
          (.drop [3, 4, 5, 27]
          (.seq
          (.reg r19_7 none)
          (.seq
          (.reg r19_8 none)
          .ret)))
          (.drop [27]
          .skip)))
        (.seq
        (.reg r19_9 (some [[], [], [], [], [], [], [], [3], [], [], [], [], []]))
        (.seq
        (.reg r19_10 none)
        (.seq
        (.reg r19_11 none)
        (.seq
        (.seq
        (.reg r19_12 none)
        (.cond 64
          (.drop [3, 4, 5, 6, 54, 58, 59, 60, 61, 62, 64]
          (.seq
          (.reg r19_13 none)
          (.seq
          (.reg r19_14 none)
          .ret)))
          (.drop [54, 58, 59, 60, 61, 62, 64]
          .skip)))
        (.seq
        (.reg r19_15 none)
        (.cond 69
          (.drop [4, 69]
          (.seq
          (.reg r19_16 none)
          (.seq
          (.reg r19_17 none)
          .ret)))
          (.drop [69]
          .skip)))))))))
      (.reg r19_18 none)))
abbrev r19_20 : List SOp := [
  ⟨.mv, [.k (.i .u32 0)], some 2, none⟩]
abbrev b19 : SCode :=
  (.seq
  (.reg r19_0 none)
  (.seq
  (.seq
  (.reg r19_1 none)
  (.cond 11
    (.drop [0, 2, 11]
    (.seq
    (.reg r19_2 none)
    .ret))
    (.drop [2, 11]
    .skip)))
  (.seq
  (.reg r19_3 none)
  (.seq
  (.seq
  (.reg r19_4 none)
  (.block 0
    (.loop l19_19)))
  (.seq
  (.reg r19_20 none)
  .ret)))))
abbrev s19 : SFn := ⟨b19, [.tmp 2], 81⟩
theorem ok19 : fnOk Try.prog Try.f19 s19 = true := by kernel_rfl
/- pouch/pouchref01.Var -/
abbrev r20_0 : List SOp := [
  ⟨.mv, [.k .nilS], some 4, none⟩]
abbrev r20_1 : List SOp := [
  ⟨(.bslice 1 0 [.lit (.int .u8 0)] []), [], some 6, none⟩,
  ⟨.mv, [.m 0], some 7, none⟩,
  ⟨(.app 1 1), [.m 6, .m 7], some 8, none⟩,
  ⟨.mv, [.m 8], some 5, none⟩]
abbrev r20_2 : List SOp := [
  ⟨.mv, [.v 1], some 9, none⟩,
  ⟨(.bin .gtr .i), [.m 9, .k (.i .u32 268435455)], some 10, none⟩]
abbrev r20_3 : List SOp := [
  ⟨.mv, [.m 5], some 11, none⟩,
  ⟨.mv, [.m 11], some 4, none⟩]
abbrev r20_4 : List SOp := [
  ⟨.mv, [.v 1], some 12, none⟩,
  ⟨(.bin .geq .i), [.m 12, .k (.i .u32 128)], some 13, none⟩]
abbrev r20_5 : List SOp := [
  ⟨.mv, [.m 5], some 14, none⟩,
  ⟨.mv, [.v 1], some 15, none⟩,
  ⟨(.bin .rem .i), [.m 15, .k (.i .u32 128)], some 16, none⟩,
  ⟨(.bin .add .i), [.m 16, .k (.i .u32 128)], some 17, none⟩,
  ⟨(.cint .u8), [.m 17], some 18, none⟩,
  ⟨(.bslice 1 1 [.lit (.int .u8 0)] [0]), [.m 18], some 19, none⟩,
  ⟨(.app 1 1), [.m 14, .m 19], some 20, none⟩,
  ⟨.mv, [.m 20], some 5, none⟩]
abbrev r20_6 : List SOp := [
  ⟨.mv, [.m 1], some 21, none⟩,
  ⟨(.bin .quo .i), [.m 21, .k (.i .u32 128)], some 22, none⟩,
  ⟨.mv, [.m 22], some 1, none⟩]
abbrev l20_7 : SCode :=
      (.seq
      (.seq
      (.reg r20_4 none)
      (.cond 13
        (.drop [13]
        .skip)
        (.drop [13]
        (.exit 0))))
      (.block 1
        (.seq
        (.reg r20_5 none)
        (.reg r20_6 none))))
abbrev r20_8 : List SOp := [
  ⟨.mv, [.m 5], some 23, none⟩,
  ⟨.mv, [.m 1], some 24, none⟩,
  ⟨(.cint .u8), [.m 24], some 25, none⟩,
  ⟨(.bslice 1 1 [.lit (.int .u8 0)] [0]), [.m 25], some 26, none⟩,
  ⟨(.app 1 1), [.m 23, .m 26], some 27, none⟩,
  ⟨.mv, [.m 27], some 4, none⟩]
abbrev b20 : SCode :=
  (.seq
  (.reg r20_0 none)
  (.seq
  (.reg r20_1 none)
  (.seq
  (.seq
  (.reg r20_2 none)
  (.cond 10
    (.drop [1, 4, 10]
    (.seq
    (.reg r20_3 none)
    .ret))
    (.drop [4, 10]
    .skip)))
  (.seq
  (.block 0
    (.loop l20_7))
  (.seq
  (.reg r20_8 none)
  .ret)))))
abbrev s20 : SFn := ⟨b20, [.tmp 4], 28⟩
theorem ok20 : fnOk Try.prog Try.f20 s20 = true := by kernel_rfl
/- pouch/pouchlaw01.told -/
abbrev r21_0 : List SOp := [
  ⟨.mv, [.k (.b false)], some 0, none⟩]
abbrev r21_1 : List SOp := [
  ⟨(.call (some 24)), [.k .nilS, .k (.i .u32 321)], some 3, none⟩,
  ⟨(.call (some 25)), [.m 3, .k (.s ⟨#[97, 98]⟩)], some 4, none⟩,
  ⟨.mv, [.m 4], some 1, none⟩]
abbrev r21_2 : List SOp := [
  ⟨.mv, [.v 1], some 5, none⟩,
  ⟨(.call (some 17)), [.m 5], some 6, none⟩,
  ⟨.mv, [.m 6], some 2, none⟩]
abbrev r21_3 : List SOp := [
  ⟨.mv, [.v 2], some 7, none⟩,
  ⟨(.bin .neq .p), [.m 7, .k .nilP], some 8, none⟩,
  ⟨.mv, [.m 8], some 9, none⟩,
  ⟨.mv, [.m 1], some 10, (some (9, true))⟩,
  ⟨.b2s, [.m 10], some 11, (some (9, true))⟩,
  ⟨(.bin .eql .s), [.m 11, .k (.s ⟨#[193, 2, 0, 2, 97, 98]⟩)], some 12, (some (9, true))⟩,
  ⟨.pick, [.m 9, .m 12, .k (.b false)], some 13, none⟩,
  ⟨.mv, [.m 13], some 14, none⟩,
  ⟨.mv, [.v 2], some 15, (some (14, true))⟩,
  ⟨(.call (some 18)), [.m 15], some 16, (some (14, true))⟩,
  ⟨(.bin .eql .i), [.m 16, .k (.i .u32 321)], some 17, (some (14, true))⟩,
  ⟨.pick, [.m 14, .m 17, .k (.b false)], some 18, none⟩,
  ⟨.mv, [.m 18], some 19, none⟩,
  ⟨.mv, [.v 2], some 20, (some (19, true))⟩,
  ⟨(.call (some 27)), [.m 20], some 21, (some (19, true))⟩,
  ⟨(.bin .eql .s), [.m 21, .k (.s ⟨#[97, 98]⟩)], some 22, (some (19, true))⟩,
  ⟨.pick, [.m 19, .m 22, .k (.b false)], some 23, none⟩,
  ⟨.mv, [.m 23], some 24, none⟩,
  ⟨.mv, [.v 2], some 25, (some (24, true))⟩,
  ⟨(.call (some 35)), [.m 25], some 26, (some (24, true))⟩,
  ⟨(.bin .eql .i), [.m 26, .k (.i .i64 0)], some 27, (some (24, true))⟩,
  ⟨.pick, [.m 24, .m 27, .k (.b false)], some 28, none⟩,
  ⟨.mv, [.m 28], some 29, none⟩,
  ⟨.mv, [.m 2], some 30, (some (29, true))⟩,
  ⟨(.call (some 22)), [.m 30], some 31, (some (29, true))⟩,
  ⟨(.bin .eql .i), [.m 31, .k (.i .i64 0)], some 32, (some (29, true))⟩,
  ⟨.pick, [.m 29, .m 32, .k (.b false)], some 33, none⟩,
  ⟨.mv, [.m 33], some 34, none⟩,
  ⟨(.call (some 23)), [.k (.i .u32 321)], some 35, (some (34, true))⟩,
  ⟨(.bin .eql .i), [.m 35, .k (.i .i64 2)], some 36, (some (34, true))⟩,
  ⟨.pick, [.m 34, .m 36, .k (.b false)], some 37, none⟩,
  ⟨.mv, [.m 37], some 0, none⟩]
abbrev b21 : SCode :=
  (.seq
  (.reg r21_0 none)
  (.seq
  (.reg r21_1 none)
  (.seq
  (.reg r21_2 none)
  (.seq
  (.reg r21_3 none)
  .ret))))
abbrev s21 : SFn := ⟨b21, [.tmp 0], 38⟩
theorem ok21 : fnOk Try.prog Try.f21 s21 = true := by kernel_rfl
/- (*pouch/wire.Reader).Err -/
abbrev r22_0 : List SOp := [
  ⟨.mv, [.k (.i .i64 0)], some 2, none⟩]
abbrev r22_1 : List SOp := [
  ⟨.mv, [.v 0], some 3, none⟩,
  ⟨(.bin .eql .p), [.m 3, .k .nilP], some 4, none⟩]
abbrev r22_2 : List SOp := [
  ⟨.mv, [.k (.i .i64 1)], some 2, none⟩]
abbrev r22_3 : List SOp := [
  ⟨.mv, [.m 0], some 5, none⟩,
  ⟨.nilck, [.m 5], some 6, none⟩,
  ⟨(.fa 1), [.m 6], some 7, none⟩,
  ⟨(.load none), [.m 7], some 8, none⟩,
  ⟨.mv, [.m 8], some 2, none⟩]
abbrev b22 : SCode :=
  (.seq
  (.reg r22_0 none)
  (.seq
  (.seq
  (.reg r22_1 none)
  (.cond 4
    (.drop [0, 2, 4]
    (.seq
    (.reg r22_2 none)
    .ret))
    (.drop [2, 4]
    .skip)))
  (.seq
  (.reg r22_3 none)
  .ret)))
abbrev s22 : SFn := ⟨b22, [.tmp 2], 9⟩
theorem ok22 : fnOk Try.prog Try.f22 s22 = true := by kernel_rfl
/- pouch/wire.VarSize -/
abbrev r23_0 : List SOp := [
  ⟨.mv, [.k (.i .i64 0)], some 2, none⟩]
abbrev r23_1 : List SOp := [
  ⟨.mv, [.m 0], some 3, none⟩,
  ⟨(.call (some 24)), [.k .nilS, .m 3], some 4, none⟩,
  ⟨.len, [.m 4], some 5, none⟩,
  ⟨.mv, [.m 5], some 2, none⟩]
abbrev b23 : SCode :=
  (.seq
  (.reg r23_0 none)
  (.seq
  (.reg r23_1 none)
  .ret))
abbrev s23 : SFn := ⟨b23, [.tmp 2], 6⟩
theorem ok23 : fnOk Try.prog Try.f23 s23 = true := by kernel_rfl
/- pouch/wire.Var -/
abbrev r24_0 : List SOp := [
  ⟨.mv, [.k .nilS], some 4, none⟩]
abbrev r24_1 : List SOp := [
  ⟨.mv, [.m 0], some 6, none⟩,
  ⟨(.call (some 48)), [.m 6], some 7, none⟩,
  ⟨.mv, [.m 7], some 5, none⟩]
abbrev r24_2 : List SOp := [
  ⟨.mv, [.v 1], some 8, none⟩,
  ⟨(.bin .gtr .i), [.m 8, .k (.i .u32 268435455)], some 9, none⟩]
abbrev r24_3 : List SOp := [
  ⟨.mv, [.m 5], some 10, none⟩,
  ⟨.mv, [.m 10], some 4, none⟩]
abbrev r24_4 : List SOp := [
  ⟨.mv, [.v 1], some 11, none⟩,
  ⟨(.bin .geq .i), [.m 11, .k (.i .u32 128)], some 12, none⟩]
abbrev r24_5 : List SOp := [
  ⟨.mv, [.m 5], some 15, none⟩,
  ⟨.mv, [.v 1], some 16, none⟩,
  ⟨(.cint .u8), [.m 16], some 17, none⟩,
  ⟨(.bin .or .i), [.m 17, .k (.i .u8 128)], some 18, none⟩,
  ⟨(.bslice 1 1 [.lit (.int .u8 0)] [0]), [.m 18], some 19, none⟩,
  ⟨(.app 1 1), [.m 15, .m 19], some 20, none⟩,
  ⟨.mv, [.m 20], some 5, none⟩]
abbrev r24_6 : List SOp := [
  ⟨.mv, [.m 1], some 13, none⟩,
  ⟨(.bin .shr .i), [.m 13, .k (.i .u64 7)], some 14, none⟩,
  ⟨.mv, [.m 14], some 1, none⟩]
abbrev l24_7 : SCode :=
      (.seq
      (.seq
      (.reg r24_4 none)
      (.cond 12
        (.drop [12]
        .skip)
        (.drop [12]
        (.exit 0))))
      (.seq
      (.block 1
        (.reg r24_5 none))
      (.reg r24_6 none)))
abbrev r24_8 : List SOp := [
  ⟨.mv, [.m 5], some 21, none⟩,
  ⟨.mv, [.m 1], some 22, none⟩,
  ⟨(.cint .u8), [.m 22], some 23, none⟩,
  ⟨(.bslice 1 1 [.lit (.int .u8 0)] [0]), [.m 23], some 24, none⟩,
  ⟨(.app 1 1), [.m 21, .m 24], some 25, none⟩,
  ⟨.mv, [.m 25], some 4, none⟩]
abbrev b24 : SCode :=
  (.seq
  (.reg r24_0 none)
  (.seq
  (.reg r24_1 none)
  (.seq
  (.seq
  (.reg r24_2 none)
  (.cond 9
    (.drop [1, 4, 9]
    (.seq
    (.reg r24_3 none)
    .ret))
    (.drop [4, 9]
    .skip)))
  (.seq
  (.block 0
    (.loop l24_7))
  (.seq
  (.reg r24_8 none)
  .ret)))))
abbrev s24 : SFn := ⟨b24, [.tmp 4], 26⟩
theorem ok24 : fnOk Try.prog Try.f24 s24 = true := by kernel_rfl
/- pouch/wire.Bin -/
abbrev r25_0 : List SOp := [
  ⟨.mv, [.k .nilS], some 4, none⟩]
abbrev r25_1 : List SOp := [
  ⟨.mv, [.v 1], some 5, none⟩,
  ⟨.lens, [.m 5], some 6, none⟩,
  ⟨(.bin .gtr .i), [.m 6, .k (.i .i64 65535)], some 7, none⟩]
abbrev r25_2 : List SOp := [
  ⟨.mv, [.m 0], some 8, none⟩,
  ⟨(.call (some 48)), [.m 8], some 9, none⟩,
  ⟨.mv, [.m 9], some 4, none⟩]
abbrev r25_3 : List SOp := [
  ⟨.mv, [.m 0], some 10, none⟩,
  ⟨.mv, [.v 1], some 11, none⟩,
  ⟨.lens, [.m 11], some 12, none⟩,
  ⟨(.cint .u16), [.m 12], some 13, none⟩,
  ⟨(.call (some 29)), [.m 10, .m 13], some 14, none⟩,
  ⟨.mv, [.m 1], some 15, none⟩,
  ⟨.apps, [.m 14, .m 15], some 16, none⟩,
  ⟨.mv, [.m 16], some 4, none⟩]
abbrev b25 : SCode :=
  (.seq
  (.reg r25_0 none)
  (.seq
  (.seq
  (.reg r25_1 none)
  (.cond 7
    (.drop [1, 4, 7]
    (.seq
    (.reg r25_2 none)
    .ret))
    (.drop [4, 7]
    .skip)))
  (.seq
  (.reg r25_3 none)
  .ret)))
abbrev s25 : SFn := ⟨b25, [.tmp 4], 17⟩
theorem ok25 : fnOk Try.prog Try.f25 s25 = true := by kernel_rfl
/- (*pouch/wire.Reader).Byte -/
abbrev r26_0 : List SOp := [
  ⟨.mv, [.k (.i .u8 0)], some 2, none⟩]
abbrev r26_1 : List SOp := [
  ⟨.mv, [.m 0], some 6, none⟩,
  ⟨(.call (some 49)), [.m 6, .k (.i .i64 1)], some 7, none⟩,
  ⟨.mv, [.m 7], some 5, none⟩,
  ⟨.extm, [.c 5 0], some 8, none⟩,
  ⟨(.ext 1), [.m 5], some 9, none⟩,
  ⟨.mv, [.m 8], some 3, none⟩,
  ⟨.mv, [.m 9], some 4, none⟩]
abbrev r26_2 : List SOp := [
  ⟨.mv, [.m 4], some 10, none⟩,
  ⟨(.un .not), [.m 10], some 11, none⟩]
abbrev r26_3 : List SOp := [
  ⟨.mv, [.k (.i .u8 0)], some 2, none⟩]
abbrev r26_4 : List SOp := [
  ⟨.mv, [.m 3], some 12, none⟩,
  ⟨.sidx, [.m 12, .k (.i .i64 0)], some 13, none⟩,
  ⟨.mv, [.m 13], some 2, none⟩]
abbrev b26 : SCode :=
  (.seq
  (.reg r26_0 none)
  (.seq
  (.reg r26_1 none)
  (.seq
  (.seq
  (.reg r26_2 none)
  (.cond 11
    (.drop [2, 3, 11]
    (.seq
    (.reg r26_3 none)
    .ret))
    (.drop [2, 11]
    .skip)))
  (.seq
  (.reg r26_4 none)
  .ret))))
abbrev s26 : SFn := ⟨b26, [.tmp 2], 14⟩
theorem ok26 : fnOk Try.prog Try.f26 s26 = true := by kernel_rfl
/- (*pouch/wire.Reader).Bin -/
abbrev r27_0 : List SOp := [
  ⟨.mv, [.k (.s ⟨#[]⟩)], some 2, none⟩]
abbrev r27_1 : List SOp := [
  ⟨.mv, [.v 0], some 6, none⟩,
  ⟨.mv, [.m 0], some 7, none⟩,
  ⟨(.call (some 33)), [.m 7], some 8, none⟩,
  ⟨(.cint .i64), [.m 8], some 9, none⟩,
  ⟨(.call (some 49)), [.m 6, .m 9], some 10, none⟩,
  ⟨.mv, [.m 10], some 5, none⟩,
  ⟨.extm, [.c 5 0], some 11, none⟩,
  ⟨(.ext 1), [.m 5], some 12, none⟩,
  ⟨.mv, [.m 11], some 3, none⟩,
  ⟨.mv, [.m 12], some 4, none⟩]
abbrev r27_2 : List SOp := [
  ⟨.mv, [.m 3], some 13, none⟩,
  ⟨.mv, [.m 13], some 2, none⟩]
abbrev b27 : SCode :=
  (.seq
  (.reg r27_0 none)
  (.seq
  (.reg r27_1 none)
  (.seq
  (.reg r27_2 none)
  .ret)))
abbrev s27 : SFn := ⟨b27, [.tmp 2], 14⟩
theorem ok27 : fnOk Try.prog Try.f27 s27 = true := by kernel_rfl
/- pouch/wire.Four -/
abbrev r28_0 : List SOp := [
  ⟨.mv, [.k .nilS], some 4, none⟩]
abbrev r28_1 : List SOp := [
  ⟨.mv, [.m 0], some 5, none⟩,
  ⟨.mv, [.v 1], some 6, none⟩,
  ⟨(.bin .shr .i), [.m 6, .k (.i .u64 16)], some 7, none⟩,
  ⟨(.cint .u16), [.m 7], some 8, none⟩,
  ⟨(.call (some 29)), [.m 5, .m 8], some 9, none⟩,
  ⟨.mv, [.m 1], some 10, none⟩,
  ⟨(.cint .u16), [.m 10], some 11, none⟩,
  ⟨(.call (some 29)), [.m 9, .m 11], some 12, none⟩,
  ⟨.mv, [.m 12], some 4, none⟩]
abbrev b28 : SCode :=
  (.seq
  (.reg r28_0 none)
  (.seq
  (.reg r28_1 none)
  .ret))
abbrev s28 : SFn := ⟨b28, [.tmp 4], 13⟩
theorem ok28 : fnOk Try.prog Try.f28 s28 = true := by kernel_rfl
/- pouch/wire.Two -/
abbrev r29_0 : List SOp := [
  ⟨.mv, [.k .nilS], some 4, none⟩]
abbrev r29_1 : List SOp := [
  ⟨.mv, [.m 0], some 5, none⟩,
  ⟨(.call (some 48)), [.m 5], some 6, none⟩,
  ⟨.mv, [.v 1], some 7, none⟩,
  ⟨(.bin .shr .i), [.m 7, .k (.i .u64 8)], some 8, none⟩,
  ⟨(.cint .u8), [.m 8], some 9, none⟩,
  ⟨.mv, [.m 1], some 10, none⟩,
  ⟨(.cint .u8), [.m 10], some 11, none⟩,
  ⟨(.bslice 1 2 [.lit (.int .u8 0)] [0, 1]), [.m 9, .m 11], some 12, none⟩,
  ⟨(.app 1 1), [.m 6, .m 12], some 13, none⟩,
  ⟨.mv, [.m 13], some 4, none⟩]
abbrev b29 : SCode :=
  (.seq
  (.reg r29_0 none)
  (.seq
  (.reg r29_1 none)
  .ret))
abbrev s29 : SFn := ⟨b29, [.tmp 4], 14⟩
theorem ok29 : fnOk Try.prog Try.f29 s29 = true := by kernel_rfl
/- pouch/wire.Byte -/
abbrev r30_0 : List SOp := [
  ⟨.mv, [.k .nilS], some 4, none⟩]
abbrev r30_1 : List SOp := [
  ⟨.mv, [.m 0], some 5, none⟩,
  ⟨(.call (some 48)), [.m 5], some 6, none⟩,
  ⟨.mv, [.m 1], some 7, none⟩,
  ⟨(.bslice 1 1 [.lit (.int .u8 0)] [0]), [.m 7], some 8, none⟩,
  ⟨(.app 1 1), [.m 6, .m 8], some 9, none⟩,
  ⟨.mv, [.m 9], some 4, none⟩]
abbrev b30 : SCode :=
  (.seq
  (.reg r30_0 none)
  (.seq
  (.reg r30_1 none)
  .ret))
abbrev s30 : SFn := ⟨b30, [.tmp 4], 10⟩
theorem ok30 : fnOk Try.prog Try.f30 s30 = true := by kernel_rfl
/- pouch/pouchref01.Num -/
abbrev r31_0 : List SOp := [
  ⟨.mv, [.k .nilS], some 6, none⟩]
abbrev r31_1 : List SOp := [
  ⟨(.bslice 1 0 [.lit (.int .u8 0)] []), [], some 11, none⟩,
  ⟨.mv, [.m 0], some 12, none⟩,
  ⟨(.app 1 1), [.m 11, .m 12], some 13, none⟩,
  ⟨.mv, [.m 13], some 7, none⟩]
abbrev r31_2 : List SOp := [
  ⟨.mv, [.m 2], some 14, none⟩,
  ⟨(.bin .sub .i), [.m 14, .k (.i .i64 1)], some 15, none⟩,
  ⟨.mv, [.m 15], some 8, none⟩]
abbrev r31_3 : List SOp := [
  ⟨.mv, [.v 8], some 16, none⟩,
  ⟨(.bin .geq .i), [.m 16, .k (.i .i64 0)], some 17, none⟩]
abbrev r31_4 : List SOp := [
  ⟨.mv, [.v 1], some 20, none⟩,
  ⟨.mv, [.m 20], some 9, none⟩]
abbrev r31_5 : List SOp := [
  ⟨.mv, [.k (.i .i64 0)], some 10, none⟩]
abbrev r31_6 : List SOp := [
  ⟨.mv, [.v 10], some 21, none⟩,
  ⟨.mv, [.v 8], some 22, none⟩,
  ⟨(.bin .lss .i), [.m 21, .m 22], some 23, none⟩]
abbrev r31_7 : List SOp := [
  ⟨.mv, [.m 9], some 26, none⟩,
  ⟨(.bin .quo .i), [.m 26, .k (.i .u64 256)], some 27, none⟩,
  ⟨.mv, [.m 27], some 9, none⟩]
abbrev r31_8 : List SOp := [
  ⟨.mv, [.m 10], some 24, none⟩,
  ⟨(.bin .add .i), [.m 24, .k (.i .i64 1)], some 25, none⟩,
  ⟨.mv, [.m 25], some 10, none⟩]
abbrev l31_9 : SCode :=
            (.seq
            (.seq
            (.reg r31_6 none)
            (.cond 23
              (.drop [23]
              .skip)
              (.drop [10, 23]
              (.exit 2))))
            (.seq
            (.block 3
              (.reg r31_7 none))
            (.reg r31_8 none)))
abbrev r31_10 : List SOp := [
  ⟨.mv, [.m 7], some 28, none⟩,
  ⟨.mv, [.m 9], some 29, none⟩,
  ⟨(.bin .rem .i), [.m 29, .k (.i .u64 256)], some 30, none⟩,
  ⟨(.cint .u8), [.m 30], some 31, none⟩,
  ⟨(.bslice 1 1 [.lit (.int .u8 0)] [0]), [.m 31], some 32, none⟩,
  ⟨(.app 1 1), [.m 28, .m 32], some 33, none⟩,
  ⟨.mv, [.m 33], some 7, none⟩]
abbrev r31_11 : List SOp := [
  ⟨.mv, [.m 8], some 18, none⟩,
  ⟨(.bin .sub .i), [.m 18, .k (.i .i64 1)], some 19, none⟩,
  ⟨.mv, [.m 19], some 8, none⟩]
abbrev l31_12 : SCode :=
      (.seq
      (.seq
      (.reg r31_3 none)
      (.cond 17
        (.drop [17]
        .skip)
        (.drop [1, 8, 17]
        (.exit 0))))
      (.seq
      (.block 1
        (.seq
        (.reg r31_4 none)
        (.seq
        (.seq
        (.reg r31_5 none)
        (.block 2
          (.loop l31_9)))
        (.reg r31_10 none))))
      (.reg r31_11 none)))
abbrev r31_13 : List SOp := [
  ⟨.mv, [.m 7], some 34, none⟩,
  ⟨.mv, [.m 34], some 6, none⟩]
abbrev b31 : SCode :=
  (.seq
  (.reg r31_0 none)
  (.seq
  (.reg r31_1 none)
  (.seq
  (.seq
  (.reg r31_2 none)
  (.block 0
    (.drop [6]
    (.loop l31_12))))
  (.seq
  (.reg r31_13 none)
  .ret))))
abbrev s31 : SFn := ⟨b31, [.tmp 6], 35⟩
theorem ok31 : fnOk Try.prog Try.f31 s31 = true := by kernel_rfl
/- pouch/pouchref01.Bin -/
abbrev r32_0 : List SOp := [
  ⟨.mv, [.k .nilS], some 4, none⟩]
abbrev r32_1 : List SOp := [
  ⟨.mv, [.v 1], some 5, none⟩,
  ⟨.lens, [.m 5], some 6, none⟩,
  ⟨(.bin .gtr .i), [.m 6, .k (.i .i64 65535)], some 7, none⟩]
abbrev r32_2 : List SOp := [
  ⟨(.bslice 1 0 [.lit (.int .u8 0)] []), [], some 8, none⟩,
  ⟨.mv, [.m 0], some 9, none⟩,
  ⟨(.app 1 1), [.m 8, .m 9], some 10, none⟩,
  ⟨.mv, [.m 10], some 4, none⟩]
abbrev r32_3 : List SOp := [
  ⟨.mv, [.m 0], some 11, none⟩,
  ⟨.mv, [.v 1], some 12, none⟩,
  ⟨.lens, [.m 12], some 13, none⟩,
  ⟨(.cint .u64), [.m 13], some 14, none⟩,
  ⟨(.call (some 31)), [.m 11, .m 14, .k (.i .i64 2)], some 15, none⟩,
  ⟨.mv, [.m 1], some 16, none⟩,
  ⟨.apps, [.m 15, .m 16], some 17, none⟩,
  ⟨.mv, [.m 17], some 4, none⟩]
abbrev b32 : SCode :=
  (.seq
  (.reg r32_0 none)
  (.seq
  (.seq
  (.reg r32_1 none)
  (.cond 7
    (.drop [1, 4, 7]
    (.seq
    (.reg r32_2 none)
    .ret))
    (.drop [4, 7]
    .skip)))
  (.seq
  (.reg r32_3 none)
  .ret)))
abbrev s32 : SFn := ⟨b32, [.tmp 4], 18⟩
theorem ok32 : fnOk Try.prog Try.f32 s32 = true := by kernel_rfl
/- (*pouch/wire.Reader).Two -/
abbrev r33_0 : List SOp := [
  ⟨.mv, [.k (.i .u16 0)], some 2, none⟩]
abbrev r33_1 : List SOp := [
  ⟨.mv, [.m 0], some 6, none⟩,
  ⟨(.call (some 49)), [.m 6, .k (.i .i64 2)], some 7, none⟩,
  ⟨.mv, [.m 7], some 5, none⟩,
  ⟨.extm, [.c 5 0], some 8, none⟩,
  ⟨(.ext 1), [.m 5], some 9, none⟩,
  ⟨.mv, [.m 8], some 3, none⟩,
  ⟨.mv, [.m 9], some 4, none⟩]
abbrev r33_2 : List SOp := [
  ⟨.mv, [.m 4], some 10, none⟩,
  ⟨(.un .not), [.m 10], some 11, none⟩]
abbrev r33_3 : List SOp := [
  ⟨.mv, [.k (.i .u16 0)], some 2, none⟩]
abbrev r33_4 : List SOp := [
  ⟨.mv, [.v 3], some 12, none⟩,
  ⟨.sidx, [.m 12, .k (.i .i64 0)], some 13, none⟩,
  ⟨(.cint .u16), [.m 13], some 14, none⟩,
  ⟨(.bin .shl .i), [.m 14, .k (.i .u64 8)], some 15, none⟩,
  ⟨.mv, [.v 3], some 16, none⟩,
  ⟨.sidx, [.m 16, .k (.i .i64 1)], some 17, none⟩,
  ⟨(.cint .u16), [.m 17], some 18, none⟩,
  ⟨(.bin .or .i), [.m 15, .m 18], some 19, none⟩,
  ⟨.mv, [.m 19], some 2, none⟩]
abbrev b33 : SCode :=
  (.seq
  (.reg r33_0 none)
  (.seq
  (.reg r33_1 none)
  (.seq
  (.seq
  (.reg r33_2 none)
  (.cond 11
    (.drop [2, 3, 11]
    (.seq
    (.reg r33_3 none)
    .ret))
    (.drop [2, 11]
    .skip)))
  (.seq
  (.reg r33_4 (some [[], [], [], [], [], [], [], [], []]))
  .ret))))
abbrev s33 : SFn := ⟨b33, [.tmp 2], 20⟩
theorem ok33 : fnOk Try.prog Try.f33 s33 = true := by kernel_rfl
/- (*pouch/wire.Reader).Four -/
abbrev r34_0 : List SOp := [
  ⟨.mv, [.k (.i .u32 0)], some 2, none⟩]
abbrev r34_1 : List SOp := [
  ⟨.mv, [.m 0], some 6, none⟩,
  ⟨(.call (some 49)), [.m 6, .k (.i .i64 4)], some 7, none⟩,
  ⟨.mv, [.m 7], some 5, none⟩,
  ⟨.extm, [.c 5 0], some 8, none⟩,
  ⟨(.ext 1), [.m 5], some 9, none⟩,
  ⟨.mv, [.m 8], some 3, none⟩,
  ⟨.mv, [.m 9], some 4, none⟩]
abbrev r34_2 : List SOp := [
  ⟨.mv, [.m 4], some 10, none⟩,
  ⟨(.un .not), [.m 10], some 11, none⟩]
abbrev r34_3 : List SOp := [
  ⟨.mv, [.k (.i .u32 0)], some 2, none⟩]
abbrev r34_4 : List SOp := [
  ⟨.mv, [.v 3], some 12, none⟩,
  ⟨.sidx, [.m 12, .k (.i .i64 0)], some 13, none⟩,
  ⟨(.cint .u32), [.m 13], some 14, none⟩,
  ⟨(.bin .shl .i), [.m 14, .k (.i .u64 24)], some 15, none⟩,
  ⟨.mv, [.v 3], some 16, none⟩,
  ⟨.sidx, [.m 16, .k (.i .i64 1)], some 17, none⟩,
  ⟨(.cint .u32), [.m 17], some 18, none⟩,
  ⟨(.bin .shl .i), [.m 18, .k (.i .u64 16)], some 19, none⟩,
  ⟨(.bin .or .i), [.m 15, .m 19], some 20, none⟩,
  ⟨.mv, [.v 3], some 21, none⟩,
  ⟨.sidx, [.m 21, .k (.i .i64 2)], some 22, none⟩,
  ⟨(.cint .u32), [.m 22], some 23, none⟩,
  ⟨(.bin .shl .i), [.m 23, .k (.i .u64 8)], some 24, none⟩,
  ⟨(.bin .or .i), [.m 20, .m 24], some 25, none⟩,
  ⟨.mv, [.v 3], some 26, none⟩,
  ⟨.sidx, [.m 26, .k (.i .i64 3)], some 27, none⟩,
  ⟨(.cint .u32), [.m 27], some 28, none⟩,
  ⟨(.bin .or .i), [.m 25, .m 28], some 29, none⟩,
  ⟨.mv, [.m 29], some 2, none⟩]
abbrev b34 : SCode :=
  (.seq
  (.reg r34_0 none)
  (.seq
  (.reg r34_1 none)
  (.seq
  (.seq
  (.reg r34_2 none)
  (.cond 11
    (.drop [2, 3, 11]
    (.seq
    (.reg r34_3 none)
    .ret))
    (.drop [2, 11]
    .skip)))
  (.seq
  (.reg r34_4 (some [[], [], [], [], [], [], [], [], [], [], [], [], [], [], [], [], [], [], []]))
  .ret))))
abbrev s34 : SFn := ⟨b34, [.tmp 2], 30⟩
theorem ok34 : fnOk Try.prog Try.f34 s34 = true := by kernel_rfl
/- (*pouch/wire.Reader).Left -/
abbrev r35_0 : List SOp := [
  ⟨.mv, [.k (.i .i64 0)], some 2, none⟩]
abbrev r35_1 : List SOp := [
  ⟨.mv, [.v 0], some 3, none⟩,
  ⟨(.call (some 22)), [.m 3], some 4, none⟩,
  ⟨(.bin .neq .i), [.m 4, .k (.i .i64 0)], some 5, none⟩]
abbrev r35_2 : List SOp := [
  ⟨.mv, [.k (.i .i64 0)], some 2, none⟩]
abbrev r35_3 : List SOp := [
  ⟨.mv, [.m 0], some 6, none⟩,
  ⟨.nilck, [.m 6], some 7, none⟩,
  ⟨(.fa 0), [.m 7], some 8, none⟩,
  ⟨(.load none), [.m 8], some 9, none⟩,
  ⟨.lens, [.m 9], some 10, none⟩,
  ⟨.mv, [.m 10], some 2, none⟩]
abbrev b35 : SCode :=
  (.seq
  (.reg r35_0 none)
  (.seq
  (.seq
  (.reg r35_1 none)
  (.cond 5
    (.drop [0, 2, 5]
    (.seq
    (.reg r35_2 none)
    .ret))
    (.drop [2, 5]
    .skip)))
  (.seq
  (.reg r35_3 none)
  .ret)))
abbrev s35 : SFn := ⟨b35, [.tmp 2], 11⟩
theorem ok35 : fnOk Try.prog Try.f35 s35 = true := by kernel_rfl
/- (*pouch/pouchref01.Reader).Num -/
abbrev r36_0 : List SOp := [
  ⟨.mv, [.k (.i .u64 0)], some 4, none⟩]
abbrev r36_1 : List SOp := [
  ⟨.mv, [.m 0], some 10, none⟩,
  ⟨.mv, [.m 1], some 11, none⟩,
  ⟨(.call (some 50)), [.m 10, .m 11], some 12, none⟩,
  ⟨.mv, [.m 12], some 9, none⟩,
  ⟨.extm, [.c 9 0], some 13, none⟩,
  ⟨(.ext 1), [.m 9], some 14, none⟩,
  ⟨.mv, [.m 13], some 5, none⟩,
  ⟨.mv, [.m 14], some 6, none⟩]
abbrev r36_2 : List SOp := [
  ⟨.mv, [.m 6], some 15, none⟩,
  ⟨(.un .not), [.m 15], some 16, none⟩]
abbrev r36_3 : List SOp := [
  ⟨.mv, [.k (.i .u64 0)], some 4, none⟩]
abbrev r36_4 : List SOp := [
  ⟨.mv, [.k (.i .u64 0)], some 7, none⟩]
abbrev r36_5 : List SOp := [
  ⟨.mv, [.k (.i .i64 0)], some 8, none⟩]
abbrev r36_6 : List SOp := [
  ⟨.mv, [.v 8], some 17, none⟩,
  ⟨.mv, [.v 5], some 18, none⟩,
  ⟨.lens, [.m 18], some 19, none⟩,
  ⟨(.bin .lss .i), [.m 17, .m 19], some 20, none⟩]
abbrev r36_7 : List SOp := [
  ⟨.mv, [.m 7], some 23, none⟩,
  ⟨(.bin .mul .i), [.k (.i .u64 256), .m 23], some 24, none⟩,
  ⟨.mv, [.v 5], some 25, none⟩,
  ⟨.mv, [.v 8], some 26, none⟩,
  ⟨.sidx, [.m 25, .m 26], some 27, none⟩,
  ⟨(.cint .u64), [.m 27], some 28, none⟩,
  ⟨(.bin .add .i), [.m 24, .m 28], some 29, none⟩,
  ⟨.mv, [.m 29], some 7, none⟩]
abbrev r36_8 : List SOp := [
  ⟨.mv, [.m 8], some 21, none⟩,
  ⟨(.bin .add .i), [.m 21, .k (.i .i64 1)], some 22, none⟩,
  ⟨.mv, [.m 22], some 8, none⟩]
abbrev l36_9 : SCode :=
      (.seq
      (.seq
      (.reg r36_6 none)
      (.cond 20
        (.drop [20]
        .skip)
        (.drop [5, 8, 20]
        (.exit 0))))
      (.seq
      (.block 1
        (.reg r36_7 none))
      (.reg r36_8 none)))
abbrev r36_10 : List SOp := [
  ⟨.mv, [.m 7], some 30, none⟩,
  ⟨.mv, [.m 30], some 4, none⟩]
abbrev b36 : SCode :=
  (.seq
  (.reg r36_0 none)
  (.seq
  (.reg r36_1 none)
  (.seq
  (.seq
  (.reg r36_2 none)
  (.cond 16
    (.drop [4, 5, 16]
    (.seq
    (.reg r36_3 none)
    .ret))
    (.drop [4, 16]
    .skip)))
  (.seq
  (.reg r36_4 none)
  (.seq
  (.seq
  (.reg r36_5 none)
  (.block 0
    (.loop l36_9)))
  (.seq
  (.reg r36_10 none)
  .ret))))))
abbrev s36 : SFn := ⟨b36, [.tmp 4], 31⟩
theorem ok36 : fnOk Try.prog Try.f36 s36 = true := by kernel_rfl
/- (*pouch/pouchref01.Reader).Bin -/
abbrev r37_0 : List SOp := [
  ⟨.mv, [.k (.s ⟨#[]⟩)], some 2, none⟩]
abbrev r37_1 : List SOp := [
  ⟨.mv, [.v 0], some 6, none⟩,
  ⟨(.call (some 36)), [.m 6, .k (.i .i64 2)], some 7, none⟩,
  ⟨(.cint .i64), [.m 7], some 8, none⟩,
  ⟨.mv, [.m 8], some 3, none⟩]
abbrev r37_2 : List SOp := [
  ⟨.mv, [.m 0], some 10, none⟩,
  ⟨.mv, [.m 3], some 11, none⟩,
  ⟨(.call (some 50)), [.m 10, .m 11], some 12, none⟩,
  ⟨.mv, [.m 12], some 9, none⟩,
  ⟨.extm, [.c 9 0], some 13, none⟩,
  ⟨(.ext 1), [.m 9], some 14, none⟩,
  ⟨.mv, [.m 13], some 4, none⟩,
  ⟨.mv, [.m 14], some 5, none⟩]
abbrev r37_3 : List SOp := [
  ⟨.mv, [.m 4], some 15, none⟩,
  ⟨.mv, [.m 15], some 2, none⟩]
abbrev b37 : SCode :=
  (.seq
  (.reg r37_0 none)
  (.seq
  (.reg r37_1 none)
  (.seq
  (.reg r37_2 none)
  (.seq
  (.reg r37_3 none)
  .ret))))
abbrev s37 : SFn := ⟨b37, [.tmp 2], 16⟩
theorem ok37 : fnOk Try.prog Try.f37 s37 = true := by kernel_rfl
/- (*pouch/wire.Reader).Rest -/
abbrev r38_0 : List SOp := [
  ⟨.mv, [.k (.s ⟨#[]⟩)], some 2, none⟩]
abbrev r38_1 : List SOp := [
  ⟨.mv, [.v 0], some 6, none⟩,
  ⟨.mv, [.m 0], some 7, none⟩,
  ⟨(.call (some 35)), [.m 7], some 8, none⟩,
  ⟨(.call (some 49)), [.m 6, .m 8], some 9, none⟩,
  ⟨.mv, [.m 9], some 5, none⟩,
  ⟨.extm, [.c 5 0], some 10, none⟩,
  ⟨(.ext 1), [.m 5], some 11, none⟩,
  ⟨.mv, [.m 10], some 3, none⟩,
  ⟨.mv, [.m 11], some 4, none⟩]
abbrev r38_2 : List SOp := [
  ⟨.mv, [.m 3], some 12, none⟩,
  ⟨.mv, [.m 12], some 2, none⟩]
abbrev b38 : SCode :=
  (.seq
  (.reg r38_0 none)
  (.seq
  (.reg r38_1 none)
  (.seq
  (.reg r38_2 none)
  .ret)))
abbrev s38 : SFn := ⟨b38, [.tmp 2], 13⟩
theorem ok38 : fnOk Try.prog Try.f38 s38 = true := by kernel_rfl
/- (*pouch/pouchref01.Reader).Rest -/
abbrev r39_0 : List SOp := [
  ⟨.mv, [.k (.s ⟨#[]⟩)], some 2, none⟩]
abbrev r39_1 : List SOp := [
  ⟨.mv, [.v 0], some 6, none⟩,
  ⟨.mv, [.m 0], some 7, none⟩,
  ⟨(.call (some 42)), [.m 7], some 8, none⟩,
  ⟨(.call (some 50)), [.m 6, .m 8], some 9, none⟩,
  ⟨.mv, [.m 9], some 5, none⟩,
  ⟨.extm, [.c 5 0], some 10, none⟩,
  ⟨(.ext 1), [.m 5], some 11, none⟩,
  ⟨.mv, [.m 10], some 3, none⟩,
  ⟨.mv, [.m 11], some 4, none⟩]
abbrev r39_2 : List SOp := [
  ⟨.mv, [.m 3], some 12, none⟩,
  ⟨.mv, [.m 12], some 2, none⟩]
abbrev b39 : SCode :=
  (.seq
  (.reg r39_0 none)
  (.seq
  (.reg r39_1 none)
  (.seq
  (.reg r39_2 none)
  .ret)))
abbrev s39 : SFn := ⟨b39, [.tmp 2], 13⟩
theorem ok39 : fnOk Try.prog Try.f39 s39 = true := by kernel_rfl
/- (*pouch/wire.Reader).Sub -/
abbrev r40_0 : List SOp := [
  ⟨.mv, [.k .nilP], some 4, none⟩]
abbrev r40_1 : List SOp := [
  ⟨.mv, [.v 0], some 7, none⟩,
  ⟨(.bin .eql .p), [.m 7, .k .nilP], some 8, none⟩]
abbrev r40_2 : List SOp := [
  ⟨.mv, [.k .nilP], some 4, none⟩]
abbrev r40_3 : List SOp := [
  ⟨.mv, [.v 0], some 10, none⟩,
  ⟨.mv, [.m 1], some 11, none⟩,
  ⟨(.call (some 49)), [.m 10, .m 11], some 12, none⟩,
  ⟨.mv, [.m 12], some 9, none⟩,
  ⟨.extm, [.c 9 0], some 13, none⟩,
  ⟨(.ext 1), [.m 9], some 14, none⟩,
  ⟨.mv, [.m 13], some 5, none⟩,
  ⟨.mv, [.m 14], some 6, none⟩]
abbrev r40_4 : List SOp := [
  ⟨.mv, [.m 5], some 15, none⟩,
  ⟨.mv, [.m 0], some 16, none⟩,
  ⟨.nilck, [.m 16], some 17, none⟩,
  ⟨(.fa 1), [.m 17], some 18, none⟩,
  ⟨(.load none), [.m 18], some 19, none⟩,
  ⟨(.build [(.s ⟨#[]⟩), (.i .i64 0)] [(0, 1), (1, 1)]), [.m 15, .m 19], some 20, none⟩,
  ⟨.box, [.m 20], some 21, none⟩,
  ⟨.mv, [.m 21], some 4, none⟩]
abbrev b40 : SCode :=
  (.seq
  (.reg r40_0 none)
  (.seq
  (.seq
  (.reg r40_1 none)
  (.cond 8
    (.drop [0, 1, 4, 8]
    (.seq
    (.reg r40_2 none)
    .ret))
    (.drop [4, 8]
    .skip)))
  (.seq
  (.reg r40_3 none)
  (.seq
  (.reg r40_4 none)
  .ret))))
abbrev s40 : SFn := ⟨b40, [.tmp 4], 22⟩
theorem ok40 : fnOk Try.prog Try.f40 s40 = true := by kernel_rfl
/- (*pouch/pouchref01.Reader).Sub -/
abbrev r41_0 : List SOp := [
  ⟨.mv, [.k .nilP], some 4, none⟩]
abbrev r41_1 : List SOp := [
  ⟨.mv, [.v 0], some 8, none⟩,
  ⟨.mv, [.m 1], some 9, none⟩,
  ⟨(.call (some 50)), [.m 8, .m 9], some 10, none⟩,
  ⟨.mv, [.m 10], some 7, none⟩,
  ⟨.extm, [.c 7 0], some 11, none⟩,
  ⟨(.ext 1), [.m 7], some 12, none⟩,
  ⟨.mv, [.m 11], some 5, none⟩,
  ⟨.mv, [.m 12], some 6, none⟩]
abbrev r41_2 : List SOp := [
  ⟨.mv, [.m 6], some 13, none⟩,
  ⟨(.un .not), [.m 13], some 14, none⟩]
abbrev r41_3 : List SOp := [
  ⟨.mv, [.m 0], some 15, none⟩,
  ⟨.nilck, [.m 15], some 16, none⟩,
  ⟨(.fa 2), [.m 16], some 17, none⟩,
  ⟨(.load none), [.m 17], some 18, none⟩,
  ⟨(.build [(.s ⟨#[]⟩), (.i .i64 0), (.i .i64 0)] [(2, 1)]), [.m 18], some 19, none⟩,
  ⟨.box, [.m 19], some 20, none⟩,
  ⟨.mv, [.m 20], some 4, none⟩]
abbrev r41_4 : List SOp := [
  ⟨.mv, [.m 5], some 21, none⟩,
  ⟨(.build [(.s ⟨#[]⟩), (.i .i64 0), (.i .i64 0)] [(0, 1)]), [.m 21], some 22, none⟩,
  ⟨.box, [.m 22], some 23, none⟩,
  ⟨.mv, [.m 23], some 4, none⟩]
abbrev b41 : SCode :=
  (.seq
  (.reg r41_0 none)
  (.seq
  (.reg r41_1 none)
  (.seq
  (.seq
  (.reg r41_2 none)
  (.cond 14
    (.drop [4, 5, 14]
    (.seq
    (.reg r41_3 none)
    .ret))
    (.drop [0, 4, 14]
    .skip)))
  (.seq
  (.reg r41_4 none)
  .ret))))
abbrev s41 : SFn := ⟨b41, [.tmp 4], 24⟩
theorem ok41 : fnOk Try.prog Try.f41 s41 = true := by kernel_rfl
/- (*pouch/pouchref01.Reader).Left -/
abbrev r42_0 : List SOp := [
  ⟨.mv, [.k (.i .i64 0)], some 2, none⟩]
abbrev r42_1 : List SOp := [
  ⟨.mv, [.v 0], some 3, none⟩,
  ⟨.nilck, [.m 3], some 4, none⟩,
  ⟨(.fa 2), [.m 4], some 5, none⟩,
  ⟨(.load none), [.m 5], some 6, none⟩,
  ⟨(.bin .neq .i), [.m 6, .k (.i .i64 0)], some 7, none⟩]
abbrev r42_2 : List SOp := [
  ⟨.mv, [.k (.i .i64 0)], some 2, none⟩]
abbrev r42_3 : List SOp := [
  ⟨.mv, [.v 0], some 8, none⟩,
  ⟨.nilck, [.m 8], some 9, none⟩,
  ⟨(.fa 0), [.m 9], some 10, none⟩,
  ⟨(.load none), [.m 10], some 11, none⟩,
  ⟨.lens, [.m 11], some 12, none⟩,
  ⟨.mv, [.v 0], some 13, none⟩,
  ⟨.nilck, [.m 13], some 14, none⟩,
  ⟨(.fa 1), [.m 14], some 15, none⟩,
  ⟨(.load none), [.m 15], some 16, none⟩,
  ⟨(.bin .sub .i), [.m 12, .m 16], some 17, none⟩,
  ⟨.mv, [.m 17], some 2, none⟩]
abbrev b42 : SCode :=
  (.seq
  (.reg r42_0 none)
  (.seq
  (.seq
  (.reg r42_1 none)
  (.cond 7
    (.drop [0, 2, 7]
    (.seq
    (.reg r42_2 none)
    .ret))
    (.drop [2, 7]
    .skip)))
  (.seq
  (.reg r42_3 (some [[], [], [], [], [], [], [], [], [3], [], []]))
  .ret)))
abbrev s42 : SFn := ⟨b42, [.tmp 2], 18⟩
theorem ok42 : fnOk Try.prog Try.f42 s42 = true := by kernel_rfl
/- slices.Contains[[]uint8,uint8] -/
abbrev r43_0 : List SOp := [
  ⟨.mv, [.k (.b false)], some 4, none⟩]
abbrev r43_1 : List SOp := [
  ⟨.mv, [.m 0], some 5, none⟩,
  ⟨.mv, [.m 1], some 6, none⟩,
  ⟨(.call (some 51)), [.m 5, .m 6], some 7, none⟩,
  ⟨(.bin .geq .i), [.m 7, .k (.i .i64 0)], some 8, none⟩,
  ⟨.mv, [.m 8], some 4, none⟩]
abbrev b43 : SCode :=
  (.seq
  (.reg r43_0 none)
  (.seq
  (.reg r43_1 none)
  .ret))
abbrev s43 : SFn := ⟨b43, [.tmp 4], 9⟩
theorem ok43 : fnOk Try.prog Try.f43 s43 = true := by kernel_rfl
/- pouch/pouchref03.spans -/
abbrev r44_0 : List SOp := [
  ⟨.mv, [.k .nilS], some 4, none⟩]
abbrev r44_1 : List SOp := [
  ⟨.mv, [.v 0], some 5, none⟩,
  ⟨(.bin .eql .i), [.m 5, .k (.i .i64 4)], some 6, none⟩]
abbrev r44_2 : List SOp := [
  ⟨.mv, [.m 1], some 7, none⟩]
abbrev r44_3 : List SOp := [
  ⟨(.bin .eql .i), [.v 7, .k (.i .i64 2)], some 9, none⟩,
  ⟨.mv, [.m 9], some 8, none⟩]
abbrev r44_4 : List SOp := [
  ⟨(.bslice 1 2 [.lit (.int .i64 0)] [0, 1]), [.k (.i .i64 0), .k (.i .i64 5)], some 10, none⟩,
  ⟨.mv, [.m 10], some 4, none⟩]
abbrev r44_5 : List SOp := [
  ⟨(.bin .eql .i), [.v 7, .k (.i .i64 4)], some 12, none⟩,
  ⟨.mv, [.m 12], some 11, none⟩]
abbrev r44_6 : List SOp := [
  ⟨(.bin .eql .i), [.v 7, .k (.i .i64 5)], some 13, none⟩,
  ⟨.mv, [.m 13], some 11, none⟩]
abbrev r44_7 : List SOp := [
  ⟨(.bin .eql .i), [.v 7, .k (.i .i64 6)], some 14, none⟩,
  ⟨.mv, [.m 14], some 11, none⟩]
abbrev r44_8 : List SOp := [
  ⟨(.bin .eql .i), [.v 7, .k (.i .i64 7)], some 15, none⟩,
  ⟨.mv, [.m 15], some 11, none⟩]
abbrev r44_9 : List SOp := [
  ⟨(.bin .eql .i), [.v 7, .k (.i .i64 14)], some 16, none⟩,
  ⟨.mv, [.m 16], some 11, none⟩]
abbrev r44_10 : List SOp := [
  ⟨(.bslice 1 2 [.lit (.int .i64 0)] [0, 1]), [.k (.i .i64 0), .k (.i .i64 0)], some 17, none⟩,
  ⟨.mv, [.m 17], some 4, none⟩]
abbrev r44_11 : List SOp := [
  ⟨(.bin .eql .i), [.m 7, .k (.i .i64 9)], some 19, none⟩,
  ⟨.mv, [.m 19], some 18, none⟩]
abbrev r44_12 : List SOp := [
  ⟨(.bslice 1 4 [.lit (.int .i64 0)] [0, 1, 2, 3]), [.k (.i .i64 0), .k (.i .i64 2), .k (.i .i64 128), .k (.i .i64 128)], some 20, none⟩,
  ⟨.mv, [.m 20], some 4, none⟩]
abbrev r44_13 : List SOp := [
  ⟨.mv, [.k .nilS], some 4, none⟩]
abbrev r44_14 : List SOp := [
  ⟨.mv, [.m 0], some 21, none⟩,
  ⟨(.bin .neq .i), [.m 21, .k (.i .i64 5)], some 22, none⟩]
abbrev r44_15 : List SOp := [
  ⟨.mv, [.k .nilS], some 4, none⟩]
abbrev r44_16 : List SOp := [
  ⟨.mv, [.m 1], some 23, none⟩]
abbrev r44_17 : List SOp := [
  ⟨(.bin .eql .i), [.v 23, .k (.i .i64 2)], some 25, none⟩,
  ⟨.mv, [.m 25], some 24, none⟩]
abbrev r44_18 : List SOp := [
  ⟨(.bslice 1 16 [.lit (.int .i64 0)] [0, 1, 2, 3, 4, 5, 6, 7, 8, 9, 10, 11, 12, 13, 14, 15]), [.k (.i .i64 0), .k (.i .i64 0), .k (.i .i64 128), .k (.i .i64 138), .k (.i .i64 140), .k (.i .i64 140), .k (.i .i64 144), .k (.i .i64 144), .k (.i .i64 149), .k (.i .i64 149), .k (.i .i64 151), .k (.i .i64 151), .k (.i .i64 153), .k (.i .i64 157), .k (.i .i64 159), .k (.i .i64 159)], some 26, none⟩,
  ⟨.mv, [.m 26], some 4, none⟩]
abbrev r44_19 : List SOp := [
  ⟨(.bin .eql .i), [.v 23, .k (.i .i64 4)], some 28, none⟩,
  ⟨.mv, [.m 28], some 27, none⟩]
abbrev r44_20 : List SOp := [
  ⟨(.bin .eql .i), [.v 23, .k (.i .i64 5)], some 29, none⟩,
  ⟨.mv, [.m 29], some 27, none⟩]
abbrev r44_21 : List SOp := [
  ⟨(.bslice 1 16 [.lit (.int .i64 0)] [0, 1, 2, 3, 4, 5, 6, 7, 8, 9, 10, 11, 12, 13, 14, 15]), [.k (.i .i64 0), .k (.i .i64 0), .k (.i .i64 16), .k (.i .i64 16), .k (.i .i64 128), .k (.i .i64 128), .k (.i .i64 131), .k (.i .i64 131), .k (.i .i64 135), .k (.i .i64 135), .k (.i .i64 144), .k (.i .i64 145), .k (.i .i64 151), .k (.i .i64 151), .k (.i .i64 153), .k (.i .i64 153)], some 30, none⟩,
  ⟨.mv, [.m 30], some 4, none⟩]
abbrev r44_22 : List SOp := [
  ⟨(.bin .eql .i), [.v 23, .k (.i .i64 6)], some 32, none⟩,
  ⟨.mv, [.m 32], some 31, none⟩]
abbrev r44_23 : List SOp := [
  ⟨(.bin .eql .i), [.v 23, .k (.i .i64 7)], some 33, none⟩,
  ⟨.mv, [.m 33], some 31, none⟩]
abbrev r44_24 : List SOp := [
  ⟨(.bslice 1 4 [.lit (.int .i64 0)] [0, 1, 2, 3]), [.k (.i .i64 0), .k (.i .i64 0), .k (.i .i64 146), .k (.i .i64 146)], some 34, none⟩,
  ⟨.mv, [.m 34], some 4, none⟩]
abbrev r44_25 : List SOp := [
  ⟨(.bin .eql .i), [.v 23, .k (.i .i64 9)], some 36, none⟩,
  ⟨.mv, [.m 36], some 35, none⟩]
abbrev r44_26 : List SOp := [
  ⟨(.bslice 1 18 [.lit (.int .i64 0)] [0, 1, 2, 3, 4, 5, 6, 7, 8, 9, 10, 11, 12, 13, 14, 15, 16, 17]), [.k (.i .i64 0), .k (.i .i64 2), .k (.i .i64 128), .k (.i .i64 128), .k (.i .i64 131), .k (.i .i64 131), .k (.i .i64 135), .k (.i .i64 135), .k (.i .i64 143), .k (.i .i64 143), .k (.i .i64 145), .k (.i .i64 145), .k (.i .i64 151), .k (.i .i64 151), .k (.i .i64 158), .k (.i .i64 158), .k (.i .i64 161), .k (.i .i64 162)], some 37, none⟩,
  ⟨.mv, [.m 37], some 4, none⟩]
abbrev r44_27 : List SOp := [
  ⟨(.bin .eql .i), [.v 23, .k (.i .i64 11)], some 39, none⟩,
  ⟨.mv, [.m 39], some 38, none⟩]
abbrev r44_28 : List SOp := [
  ⟨(.bslice 1 14 [.lit (.int .i64 0)] [0, 1, 2, 3, 4, 5, 6, 7, 8, 9, 10, 11, 12, 13]), [.k (.i .i64 0), .k (.i .i64 0), .k (.i .i64 17), .k (.i .i64 17), .k (.i .i64 128), .k (.i .i64 128), .k (.i .i64 131), .k (.i .i64 131), .k (.i .i64 135), .k (.i .i64 135), .k (.i .i64 143), .k (.i .i64 143), .k (.i .i64 145), .k (.i .i64 145)], some 40, none⟩,
  ⟨.mv, [.m 40], some 4, none⟩]
abbrev r44_29 : List SOp := [
  ⟨(.bin .eql .i), [.v 23, .k (.i .i64 14)], some 42, none⟩,
  ⟨.mv, [.m 42], some 41, none⟩]
abbrev r44_30 : List SOp := [
  ⟨(.bslice 1 16 [.lit (.int .i64 0)] [0, 1, 2, 3, 4, 5, 6, 7, 8, 9, 10, 11, 12, 13, 14, 15]), [.k (.i .i64 0), .k (.i .i64 0), .k (.i .i64 4), .k (.i .i64 4), .k (.i .i64 128), .k (.i .i64 131), .k (.i .i64 135), .k (.i .i64 135), .k (.i .i64 137), .k (.i .i64 137), .k (.i .i64 139), .k (.i .i64 139), .k (.i .i64 141), .k (.i .i64 144), .k (.i .i64 147), .k (.i .i64 162)], some 43, none⟩,
  ⟨.mv, [.m 43], some 4, none⟩]
abbrev r44_31 : List SOp := [
  ⟨(.bin .eql .i), [.m 23, .k (.i .i64 15)], some 45, none⟩,
  ⟨.mv, [.m 45], some 44, none⟩]
abbrev r44_32 : List SOp := [
  ⟨(.bslice 1 4 [.lit (.int .i64 0)] [0, 1, 2, 3]), [.k (.i .i64 0), .k (.i .i64 0), .k (.i .i64 24), .k (.i .i64 25)], some 46, none⟩,
  ⟨.mv, [.m 46], some 4, none⟩]
abbrev r44_33 : List SOp := [
  ⟨.mv, [.k .nilS], some 4, none⟩]
abbrev b44 : SCode :=
  (.seq
  (.reg r44_0 none)
  (.seq
  (.seq
  (.reg r44_1 none)
  (.cond 6
    (.drop [0, 4, 6]
    (.seq
    (.seq
    (.reg r44_2 none)
    (.block 0
      (.seq
      (.reg r44_3 none)
      (.cond 8
        (.drop [7, 8]
        (.seq
        (.reg r44_4 none)
        .ret))
        (.drop [8]
        (.seq
        (.seq
        (.reg r44_5 none)
        (.cond 11
          .skip
          (.drop [11]
          (.seq
          (.reg r44_6 none)
          (.cond 11
            .skip
            (.drop [11]
            (.seq
            (.reg r44_7 none)
            (.cond 11
              .skip
              (.drop [11]
              (.seq
              (.reg r44_8 none)
              (.cond 11
                .skip
                (.drop [11]
                (.reg r44_9 none)))))))))))))
        (.cond 11
          (.drop [7, 11]
          (.seq
          (.reg r44_10 none)
          .ret))
          (.drop [11]
          (.seq
          (.reg r44_11 none)
          (.cond 18
            (.drop [18]
            (.seq
            (.reg r44_12 none)
            .ret))
            (.drop [18]
            .skip)))))))))))
    (.seq
    (.reg r44_13 none)
    .ret)))
    (.drop [4, 6]
    .skip)))
  (.seq
  (.seq
  (.reg r44_14 none)
  (.cond 22
    (.drop [1, 22]
    (.seq
    (.reg r44_15 none)
    .ret))
    (.drop [22]
    .skip)))
  (.seq
  (.seq
  (.reg r44_16 none)
  (.block 1
    (.seq
    (.reg r44_17 none)
    (.cond 24
      (.drop [23, 24]
      (.seq
      (.reg r44_18 none)
      .ret))
      (.drop [24]
      (.seq
      (.seq
      (.reg r44_19 none)
      (.cond 27
        .skip
        (.drop [27]
        (.reg r44_20 none))))
      (.cond 27
        (.drop [23, 27]
        (.seq
        (.reg r44_21 none)
        .ret))
        (.drop [27]
        (.seq
        (.seq
        (.reg r44_22 none)
        (.cond 31
          .skip
          (.drop [31]
          (.reg r44_23 none))))
        (.cond 31
          (.drop [23, 31]
          (.seq
          (.reg r44_24 none)
          .ret))
          (.drop [31]
          (.seq
          (.reg r44_25 none)
          (.cond 35
            (.drop [23, 35]
            (.seq
            (.reg r44_26 none)
            .ret))
            (.drop [35]
            (.seq
            (.reg r44_27 none)
            (.cond 38
              (.drop [23, 38]
              (.seq
              (.reg r44_28 none)
              .ret))
              (.drop [38]
              (.seq
              (.reg r44_29 none)
              (.cond 41
                (.drop [23, 41]
                (.seq
                (.reg r44_30 none)
                .ret))
                (.drop [41]
                (.seq
                (.reg r44_31 none)
                (.cond 44
                  (.drop [44]
                  (.seq
                  (.reg r44_32 none)
                  .ret))
                  (.drop [44]
                  .skip)))))))))))))))))))))))
  (.seq
  (.reg r44_33 none)
  .ret)))))
abbrev s44 : SFn := ⟨b44, [.tmp 4], 47⟩
theorem ok44 : fnOk Try.prog Try.f44 s44 = true := by kernel_rfl
/- pouch/reason.fourth -/
abbrev r45_0 : List SOp := [
  ⟨.mv, [.k .nilS], some 2, none⟩]
abbrev r45_1 : List SOp := [
  ⟨.mv, [.m 0], some 3, none⟩]
abbrev r45_2 : List SOp := [
  ⟨(.bin .eql .i), [.v 3, .k (.i .i64 2)], some 5, none⟩,
  ⟨.mv, [.m 5], some 4, none⟩]
abbrev r45_3 : List SOp := [
  ⟨(.bslice 1 6 [.lit (.int .u8 0)] [0, 1, 2, 3, 4, 5]), [.k (.i .u8 0), .k (.i .u8 1), .k (.i .u8 2), .k (.i .u8 3), .k (.i .u8 4), .k (.i .u8 5)], some 6, none⟩,
  ⟨.mv, [.m 6], some 2, none⟩]
abbrev r45_4 : List SOp := [
  ⟨(.bin .eql .i), [.v 3, .k (.i .i64 4)], some 8, none⟩,
  ⟨.mv, [.m 8], some 7, none⟩]
abbrev r45_5 : List SOp := [
  ⟨(.bin .eql .i), [.v 3, .k (.i .i64 5)], some 9, none⟩,
  ⟨.mv, [.m 9], some 7, none⟩]
abbrev r45_6 : List SOp := [
  ⟨(.bin .eql .i), [.v 3, .k (.i .i64 6)], some 10, none⟩,
  ⟨.mv, [.m 10], some 7, none⟩]
abbrev r45_7 : List SOp := [
  ⟨(.bin .eql .i), [.v 3, .k (.i .i64 7)], some 11, none⟩,
  ⟨.mv, [.m 11], some 7, none⟩]
abbrev r45_8 : List SOp := [
  ⟨(.bin .eql .i), [.v 3, .k (.i .i64 14)], some 12, none⟩,
  ⟨.mv, [.m 12], some 7, none⟩]
abbrev r45_9 : List SOp := [
  ⟨(.bslice 1 1 [.lit (.int .u8 0)] [0]), [.k (.i .u8 0)], some 13, none⟩,
  ⟨.mv, [.m 13], some 2, none⟩]
abbrev r45_10 : List SOp := [
  ⟨(.bin .eql .i), [.m 3, .k (.i .i64 9)], some 15, none⟩,
  ⟨.mv, [.m 15], some 14, none⟩]
abbrev r45_11 : List SOp := [
  ⟨(.bslice 1 4 [.lit (.int .u8 0)] [0, 1, 2, 3]), [.k (.i .u8 0), .k (.i .u8 1), .k (.i .u8 2), .k (.i .u8 128)], some 16, none⟩,
  ⟨.mv, [.m 16], some 2, none⟩]
abbrev r45_12 : List SOp := [
  ⟨.mv, [.k .nilS], some 2, none⟩]
abbrev b45 : SCode :=
  (.seq
  (.reg r45_0 none)
  (.seq
  (.seq
  (.reg r45_1 none)
  (.block 0
    (.seq
    (.reg r45_2 none)
    (.cond 4
      (.drop [2, 3, 4]
      (.seq
      (.reg r45_3 none)
      .ret))
      (.drop [2, 4]
      (.seq
      (.seq
      (.reg r45_4 none)
      (.cond 7
        .skip
        (.drop [7]
        (.seq
        (.reg r45_5 none)
        (.cond 7
          .skip
          (.drop [7]
          (.seq
          (.reg r45_6 none)
          (.cond 7
            .skip
            (.drop [7]
            (.seq
            (.reg r45_7 none)
            (.cond 7
              .skip
              (.drop [7]
              (.reg r45_8 none)))))))))))))
      (.cond 7
        (.drop [3, 7]
        (.seq
        (.reg r45_9 none)
        .ret))
        (.drop [7]
        (.seq
        (.reg r45_10 none)
        (.cond 14
          (.drop [14]
          (.seq
          (.reg r45_11 none)
          .ret))
          (.drop [14]
          .skip)))))))))))
  (.seq
  (.reg r45_12 none)
  .ret)))
abbrev s45 : SFn := ⟨b45, [.tmp 2], 17⟩
theorem ok45 : fnOk Try.prog Try.f45 s45 = true := by kernel_rfl
/- pouch/reason.fifth -/
abbrev r46_0 : List SOp := [
  ⟨.mv, [.k .nilS], some 2, none⟩]
abbrev r46_1 : List SOp := [
  ⟨.mv, [.m 0], some 3, none⟩]
abbrev r46_2 : List SOp := [
  ⟨(.bin .eql .i), [.v 3, .k (.i .i64 2)], some 5, none⟩,
  ⟨.mv, [.m 5], some 4, none⟩]
abbrev r46_3 : List SOp := [
  ⟨(.bslice 1 22 [.lit (.int .u8 0)] [0, 1, 2, 3, 4, 5, 6, 7, 8, 9, 10, 11, 12, 13, 14, 15, 16, 17, 18, 19, 20, 21]), [.k (.i .u8 0), .k (.i .u8 128), .k (.i .u8 129), .k (.i .u8 130), .k (.i .u8 131), .k (.i .u8 132), .k (.i .u8 133), .k (.i .u8 134), .k (.i .u8 135), .k (.i .u8 136), .k (.i .u8 137), .k (.i .u8 138), .k (.i .u8 140), .k (.i .u8 144), .k (.i .u8 149), .k (.i .u8 151), .k (.i .u8 153), .k (.i .u8 154), .k (.i .u8 155), .k (.i .u8 156), .k (.i .u8 157), .k (.i .u8 159)], some 6, none⟩,
  ⟨.mv, [.m 6], some 2, none⟩]
abbrev r46_4 : List SOp := [
  ⟨(.bin .eql .i), [.v 3, .k (.i .i64 4)], some 8, none⟩,
  ⟨.mv, [.m 8], some 7, none⟩]
abbrev r46_5 : List SOp := [
  ⟨(.bin .eql .i), [.v 3, .k (.i .i64 5)], some 9, none⟩,
  ⟨.mv, [.m 9], some 7, none⟩]
abbrev r46_6 : List SOp := [
  ⟨(.bslice 1 9 [.lit (.int .u8 0)] [0, 1, 2, 3, 4, 5, 6, 7, 8]), [.k (.i .u8 0), .k (.i .u8 16), .k (.i .u8 128), .k (.i .u8 131), .k (.i .u8 135), .k (.i .u8 144), .k (.i .u8 145), .k (.i .u8 151), .k (.i .u8 153)], some 10, none⟩,
  ⟨.mv, [.m 10], some 2, none⟩]
abbrev r46_7 : List SOp := [
  ⟨(.bin .eql .i), [.v 3, .k (.i .i64 6)], some 12, none⟩,
  ⟨.mv, [.m 12], some 11, none⟩]
abbrev r46_8 : List SOp := [
  ⟨(.bin .eql .i), [.v 3, .k (.i .i64 7)], some 13, none⟩,
  ⟨.mv, [.m 13], some 11, none⟩]
abbrev r46_9 : List SOp := [
  ⟨(.bslice 1 2 [.lit (.int .u8 0)] [0, 1]), [.k (.i .u8 0), .k (.i .u8 146)], some 14, none⟩,
  ⟨.mv, [.m 14], some 2, none⟩]
abbrev r46_10 : List SOp := [
  ⟨(.bin .eql .i), [.v 3, .k (.i .i64 9)], some 16, none⟩,
  ⟨.mv, [.m 16], some 15, none⟩]
abbrev r46_11 : List SOp := [
  ⟨(.bslice 1 12 [.lit (.int .u8 0)] [0, 1, 2, 3, 4, 5, 6, 7, 8, 9, 10, 11]), [.k (.i .u8 0), .k (.i .u8 1), .k (.i .u8 2), .k (.i .u8 128), .k (.i .u8 131), .k (.i .u8 135), .k (.i .u8 143), .k (.i .u8 145), .k (.i .u8 151), .k (.i .u8 158), .k (.i .u8 161), .k (.i .u8 162)], some 17, none⟩,
  ⟨.mv, [.m 17], some 2, none⟩]
abbrev r46_12 : List SOp := [
  ⟨(.bin .eql .i), [.v 3, .k (.i .i64 11)], some 19, none⟩,
  ⟨.mv, [.m 19], some 18, none⟩]
abbrev r46_13 : List SOp := [
  ⟨(.bslice 1 7 [.lit (.int .u8 0)] [0, 1, 2, 3, 4, 5, 6]), [.k (.i .u8 0), .k (.i .u8 17), .k (.i .u8 128), .k (.i .u8 131), .k (.i .u8 135), .k (.i .u8 143), .k (.i .u8 145)], some 20, none⟩,
  ⟨.mv, [.m 20], some 2, none⟩]
abbrev r46_14 : List SOp := [
  ⟨(.bin .eql .i), [.v 3, .k (.i .i64 14)], some 22, none⟩,
  ⟨.mv, [.m 22], some 21, none⟩]
abbrev r46_15 : List SOp := [
  ⟨(.bslice 1 29 [.lit (.int .u8 0)] [0, 1, 2, 3, 4, 5, 6, 7, 8, 9, 10, 11, 12, 13, 14, 15, 16, 17, 18, 19, 20, 21, 22, 23, 24, 25, 26, 27, 28]), [.k (.i .u8 0), .k (.i .u8 4), .k (.i .u8 128), .k (.i .u8 129), .k (.i .u8 130), .k (.i .u8 131), .k (.i .u8 135), .k (.i .u8 137), .k (.i .u8 139), .k (.i .u8 141), .k (.i .u8 142), .k (.i .u8 143), .k (.i .u8 144), .k (.i .u8 147), .k (.i .u8 148), .k (.i .u8 149), .k (.i .u8 150), .k (.i .u8 151), .k (.i .u8 152), .k (.i .u8 153), .k (.i .u8 154), .k (.i .u8 155), .k (.i .u8 156), .k (.i .u8 157), .k (.i .u8 158), .k (.i .u8 159), .k (.i .u8 160), .k (.i .u8 161), .k (.i .u8 162)], some 23, none⟩,
  ⟨.mv, [.m 23], some 2, none⟩]
abbrev r46_16 : List SOp := [
  ⟨(.bin .eql .i), [.m 3, .k (.i .i64 15)], some 25, none⟩,
  ⟨.mv, [.m 25], some 24, none⟩]
abbrev r46_17 : List SOp := [
  ⟨(.bslice 1 3 [.lit (.int .u8 0)] [0, 1, 2]), [.k (.i .u8 0), .k (.i .u8 24), .k (.i .u8 25)], some 26, none⟩,
  ⟨.mv, [.m 26], some 2, none⟩]
abbrev r46_18 : List SOp := [
  ⟨.mv, [.k .nilS], some 2, none⟩]
abbrev b46 : SCode :=
  (.seq
  (.reg r46_0 none)
  (.seq
  (.seq
  (.reg r46_1 none)
  (.block 0
    (.seq
    (.reg r46_2 none)
    (.cond 4
      (.drop [2, 3, 4]
      (.seq
      (.reg r46_3 none)
      .ret))
      (.drop [2, 4]
      (.seq
      (.seq
      (.reg r46_4 none)
      (.cond 7
        .skip
        (.drop [7]
        (.reg r46_5 none))))
      (.cond 7
        (.drop [3, 7]
        (.seq
        (.reg r46_6 none)
        .ret))
        (.drop [7]
        (.seq
        (.seq
        (.reg r46_7 none)
        (.cond 11
          .skip
          (.drop [11]
          (.reg r46_8 none))))
        (.cond 11
          (.drop [3, 11]
          (.seq
          (.reg r46_9 none)
          .ret))
          (.drop [11]
          (.seq
          (.reg r46_10 none)
          (.cond 15
            (.drop [3, 15]
            (.seq
            (.reg r46_11 none)
            .ret))
            (.drop [15]
            (.seq
            (.reg r46_12 none)
            (.cond 18
              (.drop [3, 18]
              (.seq
              (.reg r46_13 none)
              .ret))
              (.drop [18]
              (.seq
              (.reg r46_14 none)
              (.cond 21
                (.drop [3, 21]
                (.seq
                (.reg r46_15 none)
                .ret))
                (.drop [21]
                (.seq
                (.reg r46_16 none)
                (.cond 24
                  (.drop [24]
                  (.seq
                  (.reg r46_17 none)
                  .ret))
                  (.drop [24]
                  .skip)))))))))))))))))))))))
  (.seq
  (.reg r46_18 none)
  .ret)))
abbrev s46 : SFn := ⟨b46, [.tmp 2], 27⟩
theorem ok46 : fnOk Try.prog Try.f46 s46 = true := by kernel_rfl
/- pouch/wire.digits -/
abbrev r47_0 : List SOp := [
  ⟨.mv, [.k (.i .u32 0)], some 2, none⟩,
  ⟨.mv, [.k (.i .i64 0)], some 3, none⟩,
  ⟨.mv, [.k (.i .i64 0)], some 4, none⟩]
abbrev r47_1 : List SOp := [
  ⟨.mv, [.k (.i .i64 0)], some 7, none⟩]
abbrev r47_2 : List SOp := [
  ⟨(.bin .lss .i), [.v 7, .k (.i .i64 4)], some 8, none⟩]
abbrev r47_3 : List SOp := [
  ⟨.mv, [.v 7], some 9, none⟩,
  ⟨.mv, [.m 9], some 5, none⟩]
abbrev r47_4 : List SOp := [
  ⟨.mv, [.v 5], some 10, none⟩,
  ⟨.mv, [.v 0], some 11, none⟩,
  ⟨.lens, [.m 11], some 12, none⟩,
  ⟨(.bin .geq .i), [.m 10, .m 12], some 13, none⟩]
abbrev r47_5 : List SOp := [
  ⟨.mv, [.k (.i .u32 0)], some 2, none⟩,
  ⟨.mv, [.k (.i .i64 0)], some 3, none⟩,
  ⟨.mv, [.k (.i .i64 2)], some 4, none⟩]
abbrev r47_6 : List SOp := [
  ⟨.mv, [.v 0], some 14, none⟩,
  ⟨.mv, [.v 5], some 15, none⟩,
  ⟨.sidx, [.m 14, .m 15], some 16, none⟩,
  ⟨.mv, [.m 16], some 6, none⟩]
abbrev r47_7 : List SOp := [
  ⟨.mv, [.m 2], some 17, none⟩,
  ⟨.mv, [.v 6], some 18, none⟩,
  ⟨(.bin .andNot .i), [.m 18, .k (.i .u8 128)], some 19, none⟩,
  ⟨(.cint .u32), [.m 19], some 20, none⟩,
  ⟨.mv, [.v 5], some 21, none⟩,
  ⟨(.bin .mul .i), [.k (.i .i64 7), .m 21], some 22, none⟩,
  ⟨(.bin .shl .i), [.m 20, .m 22], some 23, none⟩,
  ⟨(.bin .or .i), [.m 17, .m 23], some 24, none⟩,
  ⟨.mv, [.m 24], some 2, none⟩]
abbrev r47_8 : List SOp := [
  ⟨.mv, [.v 6], some 26, none⟩,
  ⟨(.bin .geq .i), [.m 26, .k (.i .u8 128)], some 27, none⟩,
  ⟨.mv, [.m 27], some 25, none⟩]
abbrev r47_9 : List SOp := [
  ⟨.mv, [.m 6], some 29, none⟩,
  ⟨(.bin .eql .i), [.m 29, .k (.i .u8 0)], some 30, none⟩,
  ⟨.mv, [.m 30], some 31, none⟩,
  ⟨.mv, [.v 5], some 32, (some (31, true))⟩,
  ⟨(.bin .gtr .i), [.m 32, .k (.i .i64 0)], some 33, (some (31, true))⟩,
  ⟨.pick, [.m 31, .m 33, .k (.b false)], some 34, none⟩,
  ⟨.mv, [.m 34], some 28, none⟩]
abbrev r47_10 : List SOp := [
  ⟨.mv, [.k (.i .u32 0)], some 2, none⟩,
  ⟨.mv, [.k (.i .i64 0)], some 3, none⟩,
  ⟨.mv, [.k (.i .i64 3)], some 4, none⟩]
abbrev r47_11 : List SOp := [
  ⟨.mv, [.m 2], some 35, none⟩,
  ⟨.mv, [.m 5], some 36, none⟩,
  ⟨(.bin .add .i), [.m 36, .k (.i .i64 1)], some 37, none⟩,
  ⟨.mv, [.m 35], some 2, none⟩,
  ⟨.mv, [.m 37], some 3, none⟩,
  ⟨.mv, [.k (.i .i64 0)], some 4, none⟩]
abbrev r47_12 : List SOp := [
  ⟨(.bin .add .i), [.m 7, .k (.i .i64 1)], some 38, none⟩,
  ⟨.mv, [.m 38], some 7, none⟩]
abbrev l47_13 : SCode :=
      (.seq
      (.reg r47_2 none)
      (.seq
      (.cond 8
        (.drop [8]
        .skip)
        (.drop [0, 2, 7, 8]
        (.exit 0)))
      (.seq
      (.block 1
        (.seq
        (.reg r47_3 none)
        (.seq
        (.seq
        (.reg r47_4 none)
        (.cond 13
          (.drop [0, 2, 5, 7, 13]
          (.seq
          (.reg r47_5 none)
          .ret))
          (.drop [13]
          .skip)))
        (.seq
        (.reg r47_6 none)
        (.seq
        (.reg r47_7 none)
        (.seq
        (.block 2
          (.seq
          (.reg r47_8 none)
          (.cond 25
            (.drop [5, 6, 25]
            (.exit 1))
            (.drop [0, 7, 25]
            (.seq
            (.reg r47_9 none)
            (.cond 28
              (.drop [2, 5, 28, 32]
              (.seq
              (.reg r47_10 none)
              .ret))
              (.drop [28, 32]
              .skip)))))))
        (.seq
        (.reg r47_11 none)
        .ret)))))))
      (.reg r47_12 none))))
abbrev r47_14 : List SOp := [
  ⟨.mv, [.k (.i .u32 0)], some 2, none⟩,
  ⟨.mv, [.k (.i .i64 0)], some 3, none⟩,
  ⟨.mv, [.k (.i .i64 3)], some 4, none⟩]
abbrev b47 : SCode :=
  (.seq
  (.reg r47_0 none)
  (.seq
  (.seq
  (.reg r47_1 none)
  (.block 0
    (.drop [3, 4]
    (.loop l47_13))))
  (.seq
  (.reg r47_14 none)
  .ret)))
abbrev s47 : SFn := ⟨b47, [.tmp 2, .tmp 3, .tmp 4], 39⟩
theorem ok47 : fnOk Try.prog Try.f47 s47 = true := by kernel_rfl
/- slices.Clone[[]byte,byte] -/
abbrev r48_0 : List SOp := [
  ⟨.mv, [.k .nilS], some 2, none⟩]
abbrev r48_1 : List SOp := [
  ⟨.mv, [.v 0], some 3, none⟩,
  ⟨(.bin .eql .sl), [.m 3, .k .nilS], some 4, none⟩]
abbrev r48_2 : List SOp := [
  ⟨.mv, [.k .nilS], some 2, none⟩]
abbrev r48_3 : List SOp := [
  ⟨(.bslice 1 0 [.lit (.int .u8 0)] []), [], some 5, none⟩,
  ⟨.mv, [.m 0], some 6, none⟩,
  ⟨(.app 1 1), [.m 5, .m 6], some 7, none⟩,
  ⟨.mv, [.m 7], some 2, none⟩]
abbrev b48 : SCode :=
  (.seq
  (.reg r48_0 none)
  (.seq
  (.seq
  (.reg r48_1 none)
  (.cond 4
    (.drop [0, 2, 4]
    (.seq
    (.reg r48_2 none)
    .ret))
    (.drop [2, 4]
    .skip)))
  (.seq
  (.reg r48_3 none)
  .ret)))
abbrev s48 : SFn := ⟨b48, [.tmp 2], 8⟩
theorem ok48 : fnOk Try.prog Try.f48 s48 = true := by kernel_rfl
/- (*pouch/wire.Reader).take -/
abbrev r49_0 : List SOp := [
  ⟨.mv, [.k (.s ⟨#[]⟩)], some 4, none⟩,
  ⟨.mv, [.k (.b false)], some 5, none⟩]
abbrev r49_1 : List SOp := [
  ⟨.mv, [.v 0], some 7, none⟩,
  ⟨(.call (some 22)), [.m 7], some 8, none⟩,
  ⟨(.bin .neq .i), [.m 8, .k (.i .i64 0)], some 9, none⟩]
abbrev r49_2 : List SOp := [
  ⟨.mv, [.k (.s ⟨#[]⟩)], some 4, none⟩,
  ⟨.mv, [.k (.b false)], some 5, none⟩]
abbrev r49_3 : List SOp := [
  ⟨.mv, [.v 1], some 10, none⟩,
  ⟨(.bin .lss .i), [.m 10, .k (.i .i64 0)], some 11, none⟩,
  ⟨.mv, [.m 11], some 12, none⟩,
  ⟨.mv, [.v 1], some 13, (some (12, false))⟩,
  ⟨.mv, [.v 0], some 14, (some (12, false))⟩,
  ⟨.nilck, [.m 14], some 15, (some (12, false))⟩,
  ⟨(.fa 0), [.m 15], some 16, (some (12, false))⟩,
  ⟨(.load none), [.m 16], some 17, (some (12, false))⟩,
  ⟨.lens, [.m 17], some 18, (some (12, false))⟩,
  ⟨(.bin .gtr .i), [.m 13, .m 18], some 19, (some (12, false))⟩,
  ⟨.pick, [.m 12, .k (.b true), .m 19], some 20, none⟩]
abbrev r49_4 : List SOp := [
  ⟨.mv, [.m 0], some 21, none⟩,
  ⟨.nilck, [.m 21], some 22, none⟩,
  ⟨(.fa 1), [.m 22], some 23, none⟩,
  ⟨(.store 1), [.m 23, .k (.i .i64 2)], none, none⟩]
abbrev r49_5 : List SOp := [
  ⟨.mv, [.k (.s ⟨#[]⟩)], some 4, none⟩,
  ⟨.mv, [.k (.b false)], some 5, none⟩]
abbrev r49_6 : List SOp := [
  ⟨.mv, [.v 0], some 24, none⟩,
  ⟨.nilck, [.m 24], some 25, none⟩,
  ⟨(.fa 0), [.m 25], some 26, none⟩,
  ⟨(.load none), [.m 26], some 27, none⟩,
  ⟨.mv, [.v 1], some 28, none⟩,
  ⟨(.sstr false true), [.m 27, .m 28], some 29, none⟩,
  ⟨.mv, [.m 29], some 6, none⟩]
abbrev r49_7 : List SOp := [
  ⟨.mv, [.v 0], some 30, none⟩,
  ⟨.mv, [.m 0], some 31, none⟩,
  ⟨.nilck, [.m 31], some 32, none⟩,
  ⟨(.fa 0), [.m 32], some 33, none⟩,
  ⟨(.load none), [.m 33], some 34, none⟩,
  ⟨.mv, [.m 1], some 35, none⟩,
  ⟨(.sstr true false), [.m 34, .m 35], some 36, none⟩,
  ⟨.nilck, [.m 30], some 37, none⟩,
  ⟨(.fa 0), [.m 37], some 38, none⟩,
  ⟨(.store 1), [.m 38, .m 36], none, none⟩]
abbrev r49_8 : List SOp := [
  ⟨.mv, [.m 6], some 39, none⟩,
  ⟨.mv, [.m 39], some 4, none⟩,
  ⟨.mv, [.k (.b true)], some 5, none⟩]
abbrev b49 : SCode :=
  (.seq
  (.reg r49_0 none)
  (.seq
  (.seq
  (.reg r49_1 none)
  (.cond 9
    (.drop [0, 1, 4, 5, 9]
    (.seq
    (.reg r49_2 none)
    .ret))
    (.drop [4, 5, 9]
    .skip)))
  (.seq
  (.seq
  (.reg r49_3 none)
  (.cond 20
    (.drop [1, 13, 14, 15, 16, 17, 18, 20]
    (.seq
    (.reg r49_4 none)
    (.seq
    (.reg r49_5 none)
    .ret)))
    (.drop [13, 14, 15, 16, 17, 18, 20]
    .skip)))
  (.seq
  (.reg r49_6 none)
  (.seq
  (.reg r49_7 none)
  (.seq
  (.reg r49_8 none)
  .ret))))))
abbrev s49 : SFn := ⟨b49, [.tmp 4, .tmp 5], 40⟩
theorem ok49 : fnOk Try.prog Try.f49 s49 = true := by kernel_rfl
/- (*pouch/pouchref01.Reader).take -/
abbrev r50_0 : List SOp := [
  ⟨.mv, [.k (.s ⟨#[]⟩)], some 4, none⟩,
  ⟨.mv, [.k (.b false)], some 5, none⟩]
abbrev r50_1 : List SOp := [
  ⟨.mv, [.v 0], some 7, none⟩,
  ⟨.nilck, [.m 7], some 8, none⟩,
  ⟨(.fa 2), [.m 8], some 9, none⟩,
  ⟨(.load none), [.m 9], some 10, none⟩,
  ⟨(.bin .neq .i), [.m 10, .k (.i .i64 0)], some 11, none⟩]
abbrev r50_2 : List SOp := [
  ⟨.mv, [.k (.s ⟨#[]⟩)], some 4, none⟩,
  ⟨.mv, [.k (.b false)], some 5, none⟩]
abbrev r50_3 : List SOp := [
  ⟨.mv, [.v 1], some 12, none⟩,
  ⟨(.bin .lss .i), [.m 12, .k (.i .i64 0)], some 13, none⟩,
  ⟨.mv, [.m 13], some 14, none⟩,
  ⟨.mv, [.v 1], some 15, (some (14, false))⟩,
  ⟨.mv, [.v 0], some 16, (some (14, false))⟩,
  ⟨.nilck, [.m 16], some 17, (some (14, false))⟩,
  ⟨(.fa 0), [.m 17], some 18, (some (14, false))⟩,
  ⟨(.load none), [.m 18], some 19, (some (14, false))⟩,
  ⟨.lens, [.m 19], some 20, (some (14, false))⟩,
  ⟨.mv, [.v 0], some 21, (some (14, false))⟩,
  ⟨.nilck, [.m 21], some 22, (some (14, false))⟩,
  ⟨(.fa 1), [.m 22], some 23, (some (14, false))⟩,
  ⟨(.load none), [.m 23], some 24, (some (14, false))⟩,
  ⟨(.bin .sub .i), [.m 20, .m 24], some 25, (some (14, false))⟩,
  ⟨(.bin .gtr .i), [.m 15, .m 25], some 26, (some (14, false))⟩,
  ⟨.pick, [.m 14, .k (.b true), .m 26], some 27, none⟩]
abbrev r50_4 : List SOp := [
  ⟨.mv, [.m 0], some 28, none⟩,
  ⟨.nilck, [.m 28], some 29, none⟩,
  ⟨(.fa 2), [.m 29], some 30, none⟩,
  ⟨(.store 1), [.m 30, .k (.i .i64 2)], none, none⟩]
abbrev r50_5 : List SOp := [
  ⟨.mv, [.k (.s ⟨#[]⟩)], some 4, none⟩,
  ⟨.mv, [.k (.b false)], some 5, none⟩]
abbrev r50_6 : List SOp := [
  ⟨.mv, [.v 0], some 31, none⟩,
  ⟨.nilck, [.m 31], some 32, none⟩,
  ⟨(.fa 0), [.m 32], some 33, none⟩,
  ⟨(.load none), [.m 33], some 34, none⟩,
  ⟨.mv, [.v 0], some 35, none⟩,
  ⟨.nilck, [.m 35], some 36, none⟩,
  ⟨(.fa 1), [.m 36], some 37, none⟩,
  ⟨(.load none), [.m 37], some 38, none⟩,
  ⟨.mv, [.v 0], some 39, none⟩,
  ⟨.nilck, [.m 39], some 40, none⟩,
  ⟨(.fa 1), [.m 40], some 41, none⟩,
  ⟨(.load none), [.m 41], some 42, none⟩,
  ⟨.mv, [.v 1], some 43, none⟩,
  ⟨(.bin .add .i), [.m 42, .m 43], some 44, none⟩,
  ⟨(.sstr true true), [.m 34, .m 38, .m 44], some 45, none⟩,
  ⟨.mv, [.m 45], some 6, none⟩]
abbrev r50_7 : List SOp := [
  ⟨.mv, [.v 0], some 46, none⟩,
  ⟨.mv, [.m 0], some 47, none⟩,
  ⟨.nilck, [.m 47], some 48, none⟩,
  ⟨(.fa 1), [.m 48], some 49, none⟩,
  ⟨(.load none), [.m 49], some 50, none⟩,
  ⟨.mv, [.m 1], some 51, none⟩,
  ⟨(.bin .add .i), [.m 50, .m 51], some 52, none⟩,
  ⟨.nilck, [.m 46], some 53, none⟩,
  ⟨(.fa 1), [.m 53], some 54, none⟩,
  ⟨(.store 1), [.m 54, .m 52], none, none⟩]
abbrev r50_8 : List SOp := [
  ⟨.mv, [.m 6], some 55, none⟩,
  ⟨.mv, [.m 55], some 4, none⟩,
  ⟨.mv, [.k (.b true)], some 5, none⟩]
abbrev b50 : SCode :=
  (.seq
  (.reg r50_0 none)
  (.seq
  (.seq
  (.reg r50_1 none)
  (.cond 11
    (.drop [0, 1, 4, 5, 11]
    (.seq
    (.reg r50_2 none)
    .ret))
    (.drop [4, 5, 11]
    .skip)))
  (.seq
  (.seq
  (.reg r50_3 (some [[], [], [], [], [], [], [], [], [], [], [], [], [7], [], [], []]))
  (.cond 27
    (.drop [1, 15, 16, 17, 18, 19, 20, 21, 22, 23, 24, 25, 27]
    (.seq
    (.reg r50_4 none)
    (.seq
    (.reg r50_5 none)
    .ret)))
    (.drop [15, 16, 17, 18, 19, 20, 21, 22, 23, 24, 25, 27]
    .skip)))
  (.seq
  (.reg r50_6 (some [[], [], [], [], [], [], [], [3], [], [], [], [3, 7], [], [], [], []]))
  (.seq
  (.reg r50_7 none)
  (.seq
  (.reg r50_8 none)
  .ret))))))
abbrev s50 : SFn := ⟨b50, [.tmp 4, .tmp 5], 56⟩
theorem ok50 : fnOk Try.prog Try.f50 s50 = true := by kernel_rfl
/- slices.Index[[]uint8,uint8] -/
abbrev r51_0 : List SOp := [
  ⟨.mv, [.k (.i .i64 0)], some 4, none⟩]
abbrev r51_1 : List SOp := [
  ⟨.mv, [.v 0], some 6, none⟩,
  ⟨.len, [.m 6], some 7, none⟩,
  ⟨.mv, [.k (.i .i64 0)], some 8, none⟩]
abbrev r51_2 : List SOp := [
  ⟨(.bin .lss .i), [.v 8, .v 7], some 9, none⟩]
abbrev r51_3 : List SOp := [
  ⟨.mv, [.v 8], some 10, none⟩,
  ⟨.mv, [.m 10], some 5, none⟩]
abbrev r51_4 : List SOp := [
  ⟨.mv, [.v 1], some 11, none⟩,
  ⟨.mv, [.v 0], some 12, none⟩,
  ⟨.mv, [.v 5], some 13, none⟩,
  ⟨(.ia 1), [.m 12, .m 13], some 14, none⟩,
  ⟨(.load none), [.m 14], some 15, none⟩,
  ⟨(.bin .eql .i), [.m 11, .m 15], some 16, none⟩]
abbrev r51_5 : List SOp := [
  ⟨.mv, [.m 5], some 17, none⟩,
  ⟨.mv, [.m 17], some 4, none⟩]
abbrev r51_6 : List SOp := [
  ⟨(.bin .add .i), [.m 8, .k (.i .i64 1)], some 18, none⟩,
  ⟨.mv, [.m 18], some 8, none⟩]
abbrev l51_7 : SCode :=
      (.seq
      (.reg r51_2 none)
      (.seq
      (.cond 9
        (.drop [9]
        .skip)
        (.drop [0, 1, 7, 8, 9]
        (.exit 0)))
      (.seq
      (.block 1
        (.seq
        (.reg r51_3 none)
        (.seq
        (.reg r51_4 none)
        (.cond 16
          (.drop [0, 1, 7, 8, 16]
          (.seq
          (.reg r51_5 none)
          .ret))
          (.drop [5, 16]
          .skip)))))
      (.reg r51_6 none))))
abbrev r51_8 : List SOp := [
  ⟨.mv, [.k (.i .i64 (-1))], some 4, none⟩]
abbrev b51 : SCode :=
  (.seq
  (.reg r51_0 none)
  (.seq
  (.seq
  (.reg r51_1 none)
  (.block 0
    (.drop [4]
    (.loop l51_7))))
  (.seq
  (.reg r51_8 none)
  .ret)))
abbrev s51 : SFn := ⟨b51, [.tmp 4], 19⟩
theorem ok51 : fnOk Try.prog Try.f51 s51 = true := by kernel_rfl
end Go.Rv
