/- That the program's functions are these plain functions. -/
import Derived.Test.YtpggofndaadeiaaDoorPure
import Derived.Test.YtpggofndaadeiaaDoorChecked
set_option linter.unusedSimpArgs false
set_option linter.unusedVariables false
set_option maxRecDepth 100000
namespace Go.Rv
open Go.Proofs
def Wp : World → Prop := TrydWp
def utf8_ValidString_w : Orc Tb := mkOrc (Y := Bool) tab [.g (.f (.a .s))] [] (fun x h => utf8_ValidString x.1) (fun _ y k => k (.b y) [])
theorem utf8_ValidString_k : (utf8_ValidString_w).Ok Tryd.prog Wp tab 56 := lw_ValidString tabOk (by kernel_rfl) (fun _ h => h.1) Tryd.utf8_ValidString
def strings_Contains_w : Orc Tb := mkOrc (Y := Bool) tab [.g (.f (.a .s)), .g (.f (.a .s))] [] (fun x h => strings_Contains x.1 x.2.1) (fun _ y k => k (.b y) [])
theorem strings_Contains_k : (strings_Contains_w).Ok Tryd.prog Wp tab 57 := lw_Contains tabOk (by kernel_rfl) Tryd.strings_Contains_one
def text_Right_r : Orcs Tb := [(56, utf8_ValidString_w), (57, strings_Contains_w)]
theorem text_Right_rk : OrcsOk Tryd.prog Wp tab text_Right_r := (orcs_cons utf8_ValidString_k (orcs_cons strings_Contains_k orcs_nil))
def text_Right_p : TCode Tb :=
(.seq (.reg [⟨.mv, [.k (.b false)], some 2, none⟩] none)
(.seq (.reg [⟨.mv, [.v 0], some 3, none⟩, ⟨.lens, [.m 3], some 4, none⟩, ⟨(.bin .leq .i), [.m 4, .k (.n .i64 65535)], some 5, none⟩, ⟨.mv, [.m 5], some 6, none⟩, ⟨.mv, [.v 0], some 7, some (6, true)⟩, ⟨(.call (some 56) 0), [.m 7], some 8, some (6, true)⟩, ⟨.pick, [.m 6, .m 8, .k (.b false)], some 9, none⟩, ⟨.mv, [.m 9], some 10, none⟩, ⟨.mv, [.m 0], some 11, some (10, true)⟩, ⟨(.call (some 57) 1), [.m 11, .k (.s [0])], some 12, some (10, true)⟩, ⟨(.un .not), [.m 12], some 13, some (10, true)⟩, ⟨.pick, [.m 10, .m 13, .k (.b false)], some 14, none⟩, ⟨.mv, [.m 14], some 2, none⟩] none)
(.drop [0, 7, 11, 12] .ret)))
def text_Right_w : Orc Tb := mkOrc (Y := Bool) tab [.g (.f (.a .s))] [] (fun x h => text_Right x.1) (fun _ y k => k (.b y) [])
theorem text_Right_k : (text_Right_w).Ok Tryd.prog Wp tab 41 := orc_ok (Y := Bool) (orcs := text_Right_r) (c := text_Right_p) (res := [.tmp 2]) (n := 15) (R := (RSp.one (Y := Bool) tab (.g (.f (.a .b))) [] (fun a b => a) (fun y => y) (fun y => ()))) tabOk text_Right_rk (RSp.one_ok tabOk (fun _ _ => by kernel_rfl) (fun _ _ => by kernel_rfl)) Tryd.func41 (by kernel_rfl) (by kernel_rfl) (by kernel_rfl) (by kernel_rfl) (cS trivial (cS trivial (cD trivial))) (fun _ y k => by kernel_rfl) (fun y => by kernel_rfl) (fun x h => by kernel_rfl)
def strings_ContainsAny_w : Orc Tb := mkOrc (Y := Bool) tab [.g (.f (.a .s)), .g (.f (.a .s))] [] (fun x h => strings_ContainsAny x.1 x.2.1) (fun _ y k => k (.b y) [])
theorem strings_ContainsAny_k : (strings_ContainsAny_w).Ok Tryd.prog Wp tab 50 := lw_ContainsAny tabOk (by kernel_rfl) Tryd.strings_ContainsAny
def topic_Wild_r : Orcs Tb := [(50, strings_ContainsAny_w)]
theorem topic_Wild_rk : OrcsOk Tryd.prog Wp tab topic_Wild_r := (orcs_cons strings_ContainsAny_k orcs_nil)
def topic_Wild_p : TCode Tb :=
(.seq (.reg [⟨.mv, [.k (.b false)], some 2, none⟩] none)
(.seq (.reg [⟨.mv, [.m 0], some 3, none⟩, ⟨(.call (some 50) 0), [.m 3, .k (.s [43, 35])], some 4, none⟩, ⟨.mv, [.m 4], some 2, none⟩] none)
.ret))
def topic_Wild_w : Orc Tb := mkOrc (Y := Bool) tab [.g (.f (.a .s))] [] (fun x h => topic_Wild x.1) (fun _ y k => k (.b y) [])
theorem topic_Wild_k : (topic_Wild_w).Ok Tryd.prog Wp tab 31 := orc_ok (Y := Bool) (orcs := topic_Wild_r) (c := topic_Wild_p) (res := [.tmp 2]) (n := 5) (R := (RSp.one (Y := Bool) tab (.g (.f (.a .b))) [] (fun a b => a) (fun y => y) (fun y => ()))) tabOk topic_Wild_rk (RSp.one_ok tabOk (fun _ _ => by kernel_rfl) (fun _ _ => by kernel_rfl)) Tryd.func31 (by kernel_rfl) (by kernel_rfl) (by kernel_rfl) (by kernel_rfl) (cS trivial (cS trivial trivial)) (fun _ y k => by kernel_rfl) (fun y => by kernel_rfl) (fun x h => by kernel_rfl)
def topic_Name_r : Orcs Tb := [(41, text_Right_w), (31, topic_Wild_w)]
theorem topic_Name_rk : OrcsOk Tryd.prog Wp tab topic_Name_r := (orcs_cons text_Right_k (orcs_cons topic_Wild_k orcs_nil))
def topic_Name_p : TCode Tb :=
(.seq (.reg [⟨.mv, [.k (.b false)], some 2, none⟩] none)
(.seq (.reg [⟨.mv, [.v 0], some 3, none⟩, ⟨(.bin .neq .s), [.m 3, .k (.s [])], some 4, none⟩, ⟨.mv, [.m 4], some 5, none⟩, ⟨.mv, [.v 0], some 6, some (5, true)⟩, ⟨(.call (some 41) 0), [.m 6], some 7, some (5, true)⟩, ⟨.pick, [.m 5, .m 7, .k (.b false)], some 8, none⟩, ⟨.mv, [.m 8], some 9, none⟩, ⟨.mv, [.m 0], some 10, some (9, true)⟩, ⟨(.call (some 31) 1), [.m 10], some 11, some (9, true)⟩, ⟨(.un .not), [.m 11], some 12, some (9, true)⟩, ⟨.pick, [.m 9, .m 12, .k (.b false)], some 13, none⟩, ⟨.mv, [.m 13], some 2, none⟩] none)
(.drop [0, 6, 10, 11] .ret)))
def topic_Name_w : Orc Tb := mkOrc (Y := Bool) tab [.g (.f (.a .s))] [] (fun x h => topic_Name x.1) (fun _ y k => k (.b y) [])
theorem topic_Name_k : (topic_Name_w).Ok Tryd.prog Wp tab 27 := orc_ok (Y := Bool) (orcs := topic_Name_r) (c := topic_Name_p) (res := [.tmp 2]) (n := 14) (R := (RSp.one (Y := Bool) tab (.g (.f (.a .b))) [] (fun a b => a) (fun y => y) (fun y => ()))) tabOk topic_Name_rk (RSp.one_ok tabOk (fun _ _ => by kernel_rfl) (fun _ _ => by kernel_rfl)) Tryd.func27 (by kernel_rfl) (by kernel_rfl) (by kernel_rfl) (by kernel_rfl) (cS trivial (cS trivial (cD trivial))) (fun _ y k => by kernel_rfl) (fun y => by kernel_rfl) (fun x h => by kernel_rfl)
def r04_Fix_r : Orcs Tb := []
theorem r04_Fix_rk : OrcsOk Tryd.prog Wp tab r04_Fix_r := orcs_nil
def r04_Fix_p0 : TCode Tb :=
(.seq (.seq (.reg [⟨.mv, [.v 5], some 7, none⟩, ⟨.mv, [.v 0], some 8, none⟩, ⟨.lens, [.m 8], some 9, none⟩, ⟨(.bin .lss .i), [.m 7, .m 9], some 10, none⟩, ⟨.mv, [.m 10], some 11, none⟩, ⟨.mv, [.v 5], some 12, some (11, true)⟩, ⟨(.bin .lss .i), [.m 12, .k (.n .i64 8)], some 13, some (11, true)⟩, ⟨.pick, [.m 11, .m 13, .k (.b false)], some 14, none⟩] none)
(.drop [12] (.cond 14 (.drop [14] .skip)
(.drop [0, 3, 5, 14] (.exit 0)))))
(.seq (.block 1 (.reg [⟨.mv, [.m 4], some 17, none⟩, ⟨.mv, [.v 3], some 18, none⟩, ⟨.mv, [.v 0], some 19, none⟩, ⟨.mv, [.v 5], some 20, none⟩, ⟨.sidx, [.m 19, .m 20], some 21, none⟩, ⟨(.cint .i64), [.m 21], some 22, none⟩, ⟨.mv, [.v 3], some 23, none⟩, ⟨.len, [.m 23], some 24, none⟩, ⟨(.bin .rem .i), [.m 22, .m 24], some 25, none⟩, ⟨(.ia 1), [.v 18, .m 25], some 26, none⟩, ⟨(.load none), [.m 26], some 27, none⟩, ⟨(.bin .add .i), [.m 17, .m 27], some 28, none⟩, ⟨.mv, [.m 28], some 4, none⟩] none))
(.drop [18] (.reg [⟨.mv, [.m 5], some 15, none⟩, ⟨(.bin .add .i), [.m 15, .k (.n .i64 1)], some 16, none⟩, ⟨.mv, [.m 16], some 5, none⟩] none))))
def r04_Fix_s0 : SSh := ⟨[(0, .g (.f (.a .s))), (3, .g (.f (.ow 4))), (4, .g (.f (.a .s))), (5, .g (.f (.a (.n .i64))))], []⟩
def r04_Fix_o0 : Cut Tb := cutL tab 0 r04_Fix_s0 (fun x => (x.1.2.2.1, x.1.2.2.2.1)) (fun x => r04_Fix_l0 x.1.1 x.1.2.1) (fun _ x y k => k (.exit 0) ⟨[(4, .s y)], []⟩)
theorem r04_Fix_q0 : (r04_Fix_o0).Ok Tryd.prog Wp tab 0 (.loop r04_Fix_p0) := cutL_ok (c := r04_Fix_p0) (Z := (List UInt8) × Int) (Y := (List UInt8)) tabOk r04_Fix_rk (cS (cS trivial (cD (cC (cD trivial) (cD trivial)))) (cS (cB trivial) (cD trivial))) (fun _ x z b e => r04_Fix_b0 x.1.1 x.1.2.1 z.1 z.2 (fun x4 x5 => b (x4, x5)) (fun y9 => e y9)) (fun x z => ⟨[(0, .s x.1.1), (3, .ow 4 x.1.2.1), (4, .s z.1), (5, .n .i64 z.2)], []⟩) (fun x y => ((.exit 0), ⟨[(4, .s y)], []⟩)) (fun t => (prjS tab 0 r04_Fix_s0 t).bind fun x => some (x.1.2.2.1, x.1.2.2.2.1)) (fun e t => (if eqE e (.exit 0) then (prjS tab 0 ⟨[(4, .g (.f (.a .s)))], []⟩ t).bind fun v => some v.1.1 else none)) (fun x => by kernel_rfl) (fun x z => by kernel_rfl) (fun x y k => by kernel_rfl) (fun x y => by exact nofun) (fun x z => by kernel_rfl) (fun x y => by kernel_rfl) (fun x z k => by kernel_rfl)
def r04_Fix_p : TCode Tb :=
(.seq (.reg [⟨.mv, [.k (.s [])], some 2, none⟩] none)
(.seq (.reg [⟨(.bslice 4 8 ([] : List UInt8) [0, 1, 2, 3, 4, 5, 6, 7]), [.k (.s [97]), .k (.s [98]), .k (.s [47]), .k (.s [99]), .k (.s [100]), .k (.s [47]), .k (.s [195, 164]), .k (.s [101])], some 6, none⟩, ⟨.mv, [.m 6], some 3, none⟩] none)
(.seq (.reg [⟨.mv, [.k (.s [])], some 4, none⟩] none)
(.seq (.seq (.reg [⟨.mv, [.k (.n .i64 0)], some 5, none⟩] none)
(.block 0 (.drop [2] (.cut 0 r04_Fix_o0 (.loop r04_Fix_p0)))))
(.seq (.seq (.reg [⟨.mv, [.v 4], some 29, none⟩, ⟨(.bin .eql .s), [.m 29, .k (.s [])], some 30, none⟩] none)
(.cond 30 (.drop [4, 30] (.seq (.reg [⟨.mv, [.k (.s [97])], some 2, none⟩] none)
.ret))
(.drop [30] .skip)))
(.seq (.reg [⟨.mv, [.m 4], some 31, none⟩, ⟨.mv, [.m 31], some 2, none⟩] none)
.ret))))))
def r04_Fix_w : Orc Tb := mkOrc (Y := (List UInt8)) tab [.g (.f (.a .s))] [] (fun x h => r04_Fix x.1) (fun _ y k => k (.s y) [])
theorem r04_Fix_k : (r04_Fix_w).Ok Tryd.prog Wp tab 35 := orc_ok (Y := (List UInt8)) (orcs := r04_Fix_r) (c := r04_Fix_p) (res := [.tmp 2]) (n := 32) (R := (RSp.one (Y := (List UInt8)) tab (.g (.f (.a .s))) [] (fun a b => a) (fun y => y) (fun y => ()))) tabOk r04_Fix_rk (RSp.one_ok tabOk (fun _ _ => by kernel_rfl) (fun _ _ => by kernel_rfl)) Tryd.func35 (by kernel_rfl) (by kernel_rfl) (by kernel_rfl) (by kernel_rfl) (cS trivial (cS trivial (cS trivial (cS (cS trivial (cB (cD (cT r04_Fix_q0)))) (cS (cS trivial (cC (cD (cS trivial trivial)) (cD trivial))) (cS trivial trivial)))))) (fun _ y k => by kernel_rfl) (fun y => by kernel_rfl) (fun x h => by kernel_rfl)
def internal_stringslite_HasPrefix_r : Orcs Tb := []
theorem internal_stringslite_HasPrefix_rk : OrcsOk Tryd.prog Wp tab internal_stringslite_HasPrefix_r := orcs_nil
def internal_stringslite_HasPrefix_p : TCode Tb :=
(.seq (.reg [⟨.mv, [.k (.b false)], some 4, none⟩] none)
(.seq (.reg [⟨.mv, [.v 0], some 5, none⟩, ⟨.lens, [.m 5], some 6, none⟩, ⟨.mv, [.v 1], some 7, none⟩, ⟨.lens, [.m 7], some 8, none⟩, ⟨(.bin .geq .i), [.m 6, .m 8], some 9, none⟩, ⟨.mv, [.m 9], some 10, none⟩, ⟨.mv, [.m 0], some 11, some (10, true)⟩, ⟨.mv, [.v 1], some 12, some (10, true)⟩, ⟨.lens, [.m 12], some 13, some (10, true)⟩, ⟨(.sstr false true), [.m 11, .m 13], some 14, some (10, true)⟩, ⟨.mv, [.m 1], some 15, some (10, true)⟩, ⟨(.bin .eql .s), [.m 14, .m 15], some 16, some (10, true)⟩, ⟨.pick, [.m 10, .m 16, .k (.b false)], some 17, none⟩, ⟨.mv, [.m 17], some 4, none⟩] none)
(.drop [0, 1, 11, 12, 13, 14, 15] .ret)))
def internal_stringslite_HasPrefix_w : Orc Tb := mkOrc (Y := Bool) tab [.g (.f (.a .s)), .g (.f (.a .s))] [] (fun x h => internal_stringslite_HasPrefix x.1 x.2.1) (fun _ y k => k (.b y) [])
theorem internal_stringslite_HasPrefix_k : (internal_stringslite_HasPrefix_w).Ok Tryd.prog Wp tab 62 := orc_ok (Y := Bool) (orcs := internal_stringslite_HasPrefix_r) (c := internal_stringslite_HasPrefix_p) (res := [.tmp 4]) (n := 18) (R := (RSp.one (Y := Bool) tab (.g (.f (.a .b))) [] (fun a b => a) (fun y => y) (fun y => ()))) tabOk internal_stringslite_HasPrefix_rk (RSp.one_ok tabOk (fun _ _ => by kernel_rfl) (fun _ _ => by kernel_rfl)) Tryd.func62 (by kernel_rfl) (by kernel_rfl) (by kernel_rfl) (by kernel_rfl) (cS trivial (cS trivial (cD trivial))) (fun _ y k => by kernel_rfl) (fun y => by kernel_rfl) (fun x h => by kernel_rfl)
def internal_stringslite_CutPrefix_r : Orcs Tb := [(62, internal_stringslite_HasPrefix_w)]
theorem internal_stringslite_CutPrefix_rk : OrcsOk Tryd.prog Wp tab internal_stringslite_CutPrefix_r := (orcs_cons internal_stringslite_HasPrefix_k orcs_nil)
def internal_stringslite_CutPrefix_p : TCode Tb :=
(.seq (.reg [⟨.mv, [.k (.s [])], some 4, none⟩, ⟨.mv, [.k (.b false)], some 5, none⟩] none)
(.seq (.seq (.reg [⟨.mv, [.v 0], some 6, none⟩, ⟨.mv, [.v 1], some 7, none⟩, ⟨(.call (some 62) 0), [.m 6, .m 7], some 8, none⟩, ⟨(.un .not), [.m 8], some 9, none⟩] none)
(.cond 9 (.drop [1, 4, 5, 9] (.seq (.reg [⟨.mv, [.m 0], some 10, none⟩, ⟨.mv, [.m 10], some 4, none⟩, ⟨.mv, [.k (.b false)], some 5, none⟩] none)
.ret))
(.drop [4, 5, 9] .skip)))
(.seq (.reg [⟨.mv, [.m 0], some 11, none⟩, ⟨.mv, [.m 1], some 12, none⟩, ⟨.lens, [.m 12], some 13, none⟩, ⟨(.sstr true false), [.m 11, .m 13], some 14, none⟩, ⟨.mv, [.m 14], some 4, none⟩, ⟨.mv, [.k (.b true)], some 5, none⟩] none)
.ret)))
def internal_stringslite_CutPrefix_w : Orc Tb := mkOrc (Y := (List UInt8) × Bool) tab [.g (.f (.a .s)), .g (.f (.a .s))] [] (fun x h => internal_stringslite_CutPrefix x.1 x.2.1) (fun _ y k => k (.tup [.s y.1, .b y.2]) [])
theorem internal_stringslite_CutPrefix_k : (internal_stringslite_CutPrefix_w).Ok Tryd.prog Wp tab 59 := orc_ok (Y := (List UInt8) × Bool) (orcs := internal_stringslite_CutPrefix_r) (c := internal_stringslite_CutPrefix_p) (res := [.tmp 4, .tmp 5]) (n := 15) (R := (RSp.one (Y := (List UInt8) × Bool) tab (.tup [.f (.a .s), .f (.a .b)]) [] (fun a b => (a.1, a.2.1)) (fun y => (y.1, y.2, ())) (fun y => ()))) tabOk internal_stringslite_CutPrefix_rk (RSp.one_ok tabOk (fun _ _ => by kernel_rfl) (fun _ _ => by kernel_rfl)) Tryd.func59 (by kernel_rfl) (by kernel_rfl) (by kernel_rfl) (by kernel_rfl) (cS trivial (cS (cS trivial (cC (cD (cS trivial trivial)) (cD trivial))) (cS trivial trivial))) (fun _ y k => by kernel_rfl) (fun y => by kernel_rfl) (fun x h => by kernel_rfl)
def strings_CutPrefix_r : Orcs Tb := [(59, internal_stringslite_CutPrefix_w)]
theorem strings_CutPrefix_rk : OrcsOk Tryd.prog Wp tab strings_CutPrefix_r := (orcs_cons internal_stringslite_CutPrefix_k orcs_nil)
def strings_CutPrefix_p : TCode Tb :=
(.seq (.reg [⟨.mv, [.k (.s [])], some 4, none⟩, ⟨.mv, [.k (.b false)], some 5, none⟩] none)
(.seq (.reg [⟨.mv, [.m 0], some 6, none⟩, ⟨.mv, [.m 1], some 7, none⟩, ⟨(.call (some 59) 0), [.m 6, .m 7], some 8, none⟩, ⟨.extm, [.c 8 0], some 9, none⟩, ⟨(.ext 1), [.m 8], some 10, none⟩, ⟨.mv, [.m 9], some 4, none⟩, ⟨.mv, [.m 10], some 5, none⟩] none)
.ret))
def strings_CutPrefix_w : Orc Tb := mkOrc (Y := (List UInt8) × Bool) tab [.g (.f (.a .s)), .g (.f (.a .s))] [] (fun x h => strings_CutPrefix x.1 x.2.1) (fun _ y k => k (.tup [.s y.1, .b y.2]) [])
theorem strings_CutPrefix_k : (strings_CutPrefix_w).Ok Tryd.prog Wp tab 45 := orc_ok (Y := (List UInt8) × Bool) (orcs := strings_CutPrefix_r) (c := strings_CutPrefix_p) (res := [.tmp 4, .tmp 5]) (n := 11) (R := (RSp.one (Y := (List UInt8) × Bool) tab (.tup [.f (.a .s), .f (.a .b)]) [] (fun a b => (a.1, a.2.1)) (fun y => (y.1, y.2, ())) (fun y => ()))) tabOk strings_CutPrefix_rk (RSp.one_ok tabOk (fun _ _ => by kernel_rfl) (fun _ _ => by kernel_rfl)) Tryd.func45 (by kernel_rfl) (by kernel_rfl) (by kernel_rfl) (by kernel_rfl) (cS trivial (cS trivial trivial)) (fun _ y k => by kernel_rfl) (fun y => by kernel_rfl) (fun x h => by kernel_rfl)
def strings_Split_w : Orc Tb := mkOrc (Y := Option (List (List UInt8))) tab [.g (.f (.a .s)), .g (.f (.a .s))] [] (fun x h => strings_Split x.1 x.2.1) (fun _ y k => k (.sl 4 y) [])
theorem strings_Split_k : (strings_Split_w).Ok Tryd.prog Wp tab 53 := lw_Split tabOk (by kernel_rfl) 4 rfl (fun _ => rfl) rfl (fun _ h => h.2) Tryd.strings_Split
def topic_plain_r : Orcs Tb := [(53, strings_Split_w), (31, topic_Wild_w)]
theorem topic_plain_rk : OrcsOk Tryd.prog Wp tab topic_plain_r := (orcs_cons strings_Split_k (orcs_cons topic_Wild_k orcs_nil))
def topic_plain_p1 : TCode Tb :=
(.cond 17 (.drop [5, 17] .skip)
(.drop [17] (.seq (.reg [⟨.mv, [.m 5], some 30, none⟩, ⟨(.call (some 31) 1), [.m 30], some 31, none⟩, ⟨.mv, [.m 31], some 29, none⟩] none)
(.cond 29 (.drop [3, 10, 11, 12, 29] (.seq (.reg [⟨.mv, [.k (.b false)], some 2, none⟩] none)
.ret))
(.drop [29] .skip)))))
def topic_plain_s1 : SSh := ⟨[(3, .g (.f (.a (.sl 4)))), (5, .g (.f (.a .s))), (10, .g (.f (.a (.sl 4)))), (11, .g (.f (.a (.n .i64)))), (12, .g (.f (.a (.n .i64)))), (17, .g (.f (.a .b)))], []⟩
def topic_plain_o1 : Cut Tb := cutJ tab 0 topic_plain_s1 (fun _ x k => topic_plain_c1 x.1.2.1 x.1.2.2.2.2.2.1 (k .normal ⟨[(3, .sl 4 x.1.1), (10, .sl 4 x.1.2.2.1), (11, .n .i64 x.1.2.2.2.1), (12, .n .i64 x.1.2.2.2.2.1)], []⟩) (k .ret ⟨[(2, .b false)], []⟩))
theorem topic_plain_q1 : (topic_plain_o1).Ok Tryd.prog Wp tab 0 topic_plain_p1 := cutJ_ok (c := topic_plain_p1) tabOk topic_plain_rk (cC (cD trivial) (cD (cS trivial (cC (cD (cS trivial trivial)) (cD trivial))))) (fun _ _ => by kernel_rfl)
def topic_plain_p0 : TCode Tb :=
(.seq (.reg [⟨(.bin .lss .i), [.v 12, .v 11], some 13, none⟩] none)
(.seq (.cond 13 (.drop [13] .skip)
(.drop [3, 10, 11, 12, 13] (.exit 0)))
(.seq (.block 1 (.seq (.reg [⟨.mv, [.v 12], some 14, none⟩, ⟨(.ia 1), [.v 10, .v 12], some 15, none⟩, ⟨(.load none), [.m 15], some 16, none⟩, ⟨.mv, [.m 14], some 4, none⟩, ⟨.mv, [.m 16], some 5, none⟩] none)
(.block 2 (.seq (.seq (.reg [⟨.mv, [.v 5], some 18, none⟩, ⟨(.bin .eql .s), [.m 18, .k (.s [43])], some 19, none⟩, ⟨.mv, [.m 19], some 17, none⟩] none)
(.cond 17 (.drop [4] .skip)
(.drop [17] (.reg [⟨.mv, [.v 5], some 20, none⟩, ⟨(.bin .eql .s), [.m 20, .k (.s [35])], some 21, none⟩, ⟨.mv, [.m 21], some 22, none⟩, ⟨.mv, [.m 4], some 23, some (22, true)⟩, ⟨.mv, [.v 3], some 24, some (22, true)⟩, ⟨.len, [.m 24], some 25, some (22, true)⟩, ⟨(.bin .sub .i), [.m 25, .k (.n .i64 1)], some 26, some (22, true)⟩, ⟨(.bin .eql .i), [.m 23, .m 26], some 27, some (22, true)⟩, ⟨.pick, [.m 22, .m 27, .k (.b false)], some 28, none⟩, ⟨.mv, [.m 28], some 17, none⟩] none))))
(.drop [4, 23, 24, 25, 26] (.cut 0 topic_plain_o1 topic_plain_p1))))))
(.reg [⟨(.bin .add .i), [.m 12, .k (.n .i64 1)], some 32, none⟩, ⟨.mv, [.m 32], some 12, none⟩] none))))
def topic_plain_s0 : SSh := ⟨[(3, .g (.f (.a (.sl 4)))), (10, .g (.f (.a (.sl 4)))), (11, .g (.f (.a (.n .i64)))), (12, .g (.f (.a (.n .i64))))], []⟩
def topic_plain_o0 : Cut Tb := cutL tab 0 topic_plain_s0 (fun x => x.1.2.2.2.1) (fun x => topic_plain_l0 x.1.1 x.1.2.1 x.1.2.2.1) (fun _ x y k => match y with | .inl y => k .ret ⟨[(2, .b false)], []⟩ | .inr y => k (.exit 0) ⟨[], []⟩)
theorem topic_plain_q0 : (topic_plain_o0).Ok Tryd.prog Wp tab 0 (.loop topic_plain_p0) := cutL_ok (c := topic_plain_p0) (Z := Int) (Y := Unit ⊕ Unit) tabOk topic_plain_rk (cS trivial (cS (cC (cD trivial) (cD trivial)) (cS (cB (cS trivial (cB (cS (cS trivial (cC (cD trivial) (cD trivial))) (cD (cT topic_plain_q1)))))) trivial))) (fun _ x z b e => topic_plain_b0 x.1.1 x.1.2.1 x.1.2.2.1 z (fun x6 => b x6) (e (.inl ())) (e (.inr ()))) (fun x z => ⟨[(3, .sl 4 x.1.1), (10, .sl 4 x.1.2.1), (11, .n .i64 x.1.2.2.1), (12, .n .i64 z)], []⟩) (fun x y => match y with | .inl y => (.ret, ⟨[(2, .b false)], []⟩) | .inr y => ((.exit 0), ⟨[], []⟩)) (fun t => (prjS tab 0 topic_plain_s0 t).bind fun x => some x.1.2.2.2.1) (fun e t => (if eqE e .ret then orElse ((prjS tab 0 ⟨[(2, .g (.f (.cb false)))], []⟩ t).bind fun v => some (.inl ())) (if eqE e (.exit 0) then (prjS tab 0 ⟨[], []⟩ t).bind fun v => some (.inr ()) else none) else (if eqE e (.exit 0) then (prjS tab 0 ⟨[], []⟩ t).bind fun v => some (.inr ()) else none))) (fun x => by kernel_rfl) (fun x z => by kernel_rfl) (fun x y k => by rcases y with y | y <;> kernel_rfl) (fun x y => by rcases y with y | y <;> exact nofun) (fun x z => by kernel_rfl) (fun x y => by rcases y with y | y <;> kernel_rfl) (fun x z k => by kernel_rfl)
def topic_plain_p : TCode Tb :=
(.seq (.reg [⟨.mv, [.k (.b false)], some 2, none⟩] none)
(.seq (.seq (.reg [⟨.mv, [.v 0], some 6, none⟩, ⟨(.bin .eql .s), [.m 6, .k (.s [])], some 7, none⟩] none)
(.cond 7 (.drop [0, 2, 7] (.seq (.reg [⟨.mv, [.k (.b false)], some 2, none⟩] none)
.ret))
(.drop [2, 7] .skip)))
(.seq (.reg [⟨.mv, [.m 0], some 8, none⟩, ⟨(.call (some 53) 0), [.m 8, .k (.s [47])], some 9, none⟩, ⟨.mv, [.m 9], some 3, none⟩] none)
(.seq (.seq (.reg [⟨.mv, [.v 3], some 10, none⟩, ⟨.len, [.v 10], some 11, none⟩, ⟨.mv, [.k (.n .i64 0)], some 12, none⟩] none)
(.block 0 (.cut 0 topic_plain_o0 (.loop topic_plain_p0))))
(.seq (.reg [⟨.mv, [.k (.b true)], some 2, none⟩] none)
.ret)))))
def topic_plain_w : Orc Tb := mkOrc (Y := Bool) tab [.g (.f (.a .s))] [] (fun x h => topic_plain x.1) (fun _ y k => k (.b y) [])
theorem topic_plain_k : (topic_plain_w).Ok Tryd.prog Wp tab 48 := orc_ok (Y := Bool) (orcs := topic_plain_r) (c := topic_plain_p) (res := [.tmp 2]) (n := 33) (R := (RSp.one (Y := Bool) tab (.g (.f (.a .b))) [] (fun a b => a) (fun y => y) (fun y => ()))) tabOk topic_plain_rk (RSp.one_ok tabOk (fun _ _ => by kernel_rfl) (fun _ _ => by kernel_rfl)) Tryd.func48 (by kernel_rfl) (by kernel_rfl) (by kernel_rfl) (by kernel_rfl) (cS trivial (cS (cS trivial (cC (cD (cS trivial trivial)) (cD trivial))) (cS trivial (cS (cS trivial (cB (cT topic_plain_q0))) (cS trivial trivial))))) (fun _ y k => by kernel_rfl) (fun y => by kernel_rfl) (fun x h => by kernel_rfl)
def strings_Cut_w : Orc Tb := mkOrc (Y := (List UInt8) × (List UInt8) × Bool) tab [.g (.f (.a .s)), .g (.f (.a .s))] [] (fun x h => strings_Cut x.1 x.2.1) (fun _ y k => k (.tup [.s y.1, .s y.2.1, .b y.2.2]) [])
theorem strings_Cut_k : (strings_Cut_w).Ok Tryd.prog Wp tab 46 := lw_Cut tabOk (by kernel_rfl) (fun _ h => h.2) Tryd.strings_Cut
def topic_Filter_r : Orcs Tb := [(41, text_Right_w), (45, strings_CutPrefix_w), (48, topic_plain_w), (46, strings_Cut_w), (31, topic_Wild_w)]
theorem topic_Filter_rk : OrcsOk Tryd.prog Wp tab topic_Filter_r := (orcs_cons text_Right_k (orcs_cons strings_CutPrefix_k (orcs_cons topic_plain_k (orcs_cons strings_Cut_k (orcs_cons topic_Wild_k orcs_nil)))))
def topic_Filter_p : TCode Tb :=
(.seq (.reg [⟨.mv, [.k (.b false)], some 2, none⟩] none)
(.seq (.seq (.reg [⟨.mv, [.v 0], some 8, none⟩, ⟨(.call (some 41) 0), [.m 8], some 9, none⟩, ⟨(.un .not), [.m 9], some 10, none⟩] none)
(.cond 10 (.drop [0, 2, 10] (.seq (.reg [⟨.mv, [.k (.b false)], some 2, none⟩] none)
.ret))
(.drop [2, 10] .skip)))
(.seq (.reg [⟨.mv, [.v 0], some 12, none⟩, ⟨(.call (some 45) 1), [.m 12, .k (.s [36, 115, 104, 97, 114, 101, 47])], some 13, none⟩, ⟨.mv, [.m 13], some 11, none⟩, ⟨.extm, [.c 11 0], some 14, none⟩, ⟨(.ext 1), [.m 11], some 15, none⟩, ⟨.mv, [.m 14], some 3, none⟩, ⟨.mv, [.m 15], some 4, none⟩] none)
(.seq (.seq (.reg [⟨.mv, [.m 4], some 16, none⟩, ⟨(.un .not), [.m 16], some 17, none⟩] none)
(.cond 17 (.drop [3, 17] (.seq (.reg [⟨.mv, [.m 0], some 18, none⟩, ⟨(.call (some 48) 2), [.m 18], some 19, none⟩, ⟨.mv, [.m 19], some 2, none⟩] none)
.ret))
(.drop [0, 17] .skip)))
(.seq (.reg [⟨.mv, [.m 3], some 21, none⟩, ⟨(.call (some 46) 3), [.m 21, .k (.s [47])], some 22, none⟩, ⟨.mv, [.m 22], some 20, none⟩, ⟨.extm, [.c 20 0], some 23, none⟩, ⟨.extm, [.c 20 1], some 24, none⟩, ⟨(.ext 2), [.m 20], some 25, none⟩, ⟨.mv, [.m 23], some 5, none⟩, ⟨.mv, [.m 24], some 6, none⟩, ⟨.mv, [.m 25], some 7, none⟩] none)
(.seq (.reg [⟨.mv, [.m 7], some 26, none⟩, ⟨.mv, [.m 26], some 27, none⟩, ⟨.mv, [.v 5], some 28, some (27, true)⟩, ⟨(.bin .neq .s), [.m 28, .k (.s [])], some 29, some (27, true)⟩, ⟨.pick, [.m 27, .m 29, .k (.b false)], some 30, none⟩, ⟨.mv, [.m 30], some 31, none⟩, ⟨.mv, [.m 5], some 32, some (31, true)⟩, ⟨(.call (some 31) 4), [.m 32], some 33, some (31, true)⟩, ⟨(.un .not), [.m 33], some 34, some (31, true)⟩, ⟨.pick, [.m 31, .m 34, .k (.b false)], some 35, none⟩, ⟨.mv, [.m 35], some 36, none⟩, ⟨.mv, [.m 6], some 37, some (36, true)⟩, ⟨(.call (some 48) 2), [.m 37], some 38, some (36, true)⟩, ⟨.pick, [.m 36, .m 38, .k (.b false)], some 39, none⟩, ⟨.mv, [.m 39], some 2, none⟩] none)
(.drop [5, 6, 28, 32, 33, 37] .ret)))))))
def topic_Filter_w : Orc Tb := mkOrc (Y := Bool) tab [.g (.f (.a .s))] [] (fun x h => topic_Filter x.1) (fun _ y k => k (.b y) [])
theorem topic_Filter_k : (topic_Filter_w).Ok Tryd.prog Wp tab 29 := orc_ok (Y := Bool) (orcs := topic_Filter_r) (c := topic_Filter_p) (res := [.tmp 2]) (n := 40) (R := (RSp.one (Y := Bool) tab (.g (.f (.a .b))) [] (fun a b => a) (fun y => y) (fun y => ()))) tabOk topic_Filter_rk (RSp.one_ok tabOk (fun _ _ => by kernel_rfl) (fun _ _ => by kernel_rfl)) Tryd.func29 (by kernel_rfl) (by kernel_rfl) (by kernel_rfl) (by kernel_rfl) (cS trivial (cS (cS trivial (cC (cD (cS trivial trivial)) (cD trivial))) (cS trivial (cS (cS trivial (cC (cD (cS trivial trivial)) (cD trivial))) (cS trivial (cS trivial (cD trivial))))))) (fun _ y k => by kernel_rfl) (fun y => by kernel_rfl) (fun x h => by kernel_rfl)
def topic_Shared_r : Orcs Tb := [(45, strings_CutPrefix_w), (29, topic_Filter_w), (46, strings_Cut_w)]
theorem topic_Shared_rk : OrcsOk Tryd.prog Wp tab topic_Shared_r := (orcs_cons strings_CutPrefix_k (orcs_cons topic_Filter_k (orcs_cons strings_Cut_k orcs_nil)))
def topic_Shared_p : TCode Tb :=
(.seq (.reg [⟨.mv, [.k (.s [])], some 2, none⟩, ⟨.mv, [.k (.s [])], some 3, none⟩, ⟨.mv, [.k (.b false)], some 4, none⟩] none)
(.seq (.reg [⟨.mv, [.v 0], some 8, none⟩, ⟨(.call (some 45) 0), [.m 8, .k (.s [36, 115, 104, 97, 114, 101, 47])], some 9, none⟩, ⟨.mv, [.m 9], some 7, none⟩, ⟨.extm, [.c 7 0], some 10, none⟩, ⟨(.ext 1), [.m 7], some 11, none⟩, ⟨.mv, [.m 10], some 5, none⟩, ⟨.mv, [.m 11], some 6, none⟩] none)
(.seq (.seq (.reg [⟨.mv, [.m 6], some 12, none⟩, ⟨(.un .not), [.m 12], some 13, none⟩, ⟨.mv, [.m 13], some 14, none⟩, ⟨.mv, [.m 0], some 15, some (14, false)⟩, ⟨(.call (some 29) 1), [.m 15], some 16, some (14, false)⟩, ⟨(.un .not), [.m 16], some 17, some (14, false)⟩, ⟨.pick, [.m 14, .k (.b true), .m 17], some 18, none⟩] none)
(.drop [0, 2, 3, 4, 15, 16] (.cond 18 (.drop [5, 18] (.seq (.reg [⟨.mv, [.k (.s [])], some 2, none⟩, ⟨.mv, [.k (.s [])], some 3, none⟩, ⟨.mv, [.k (.b false)], some 4, none⟩] none)
.ret))
(.drop [18] .skip))))
(.seq (.reg [⟨.mv, [.m 5], some 19, none⟩, ⟨(.call (some 46) 2), [.m 19, .k (.s [47])], some 20, none⟩, ⟨.extm, [.c 20 0], some 21, none⟩, ⟨.extm, [.c 20 1], some 22, none⟩, ⟨(.ext 2), [.m 20], some 23, none⟩, ⟨.mv, [.m 21], some 2, none⟩, ⟨.mv, [.m 22], some 3, none⟩, ⟨.mv, [.m 23], some 4, none⟩] none)
.ret))))
def topic_Shared_w : Orc Tb := mkOrc (Y := (List UInt8) × (List UInt8) × Bool) tab [.g (.f (.a .s))] [] (fun x h => topic_Shared x.1) (fun _ y k => k (.tup [.s y.1, .s y.2.1, .b y.2.2]) [])
theorem topic_Shared_k : (topic_Shared_w).Ok Tryd.prog Wp tab 24 := orc_ok (Y := (List UInt8) × (List UInt8) × Bool) (orcs := topic_Shared_r) (c := topic_Shared_p) (res := [.tmp 2, .tmp 3, .tmp 4]) (n := 24) (R := (RSp.one (Y := (List UInt8) × (List UInt8) × Bool) tab (.tup [.f (.a .s), .f (.a .s), .f (.a .b)]) [] (fun a b => (a.1, a.2.1, a.2.2.1)) (fun y => (y.1, y.2.1, y.2.2, ())) (fun y => ()))) tabOk topic_Shared_rk (RSp.one_ok tabOk (fun _ _ => by kernel_rfl) (fun _ _ => by kernel_rfl)) Tryd.func24 (by kernel_rfl) (by kernel_rfl) (by kernel_rfl) (by kernel_rfl) (cS trivial (cS trivial (cS (cS trivial (cD (cC (cD (cS trivial trivial)) (cD trivial)))) (cS trivial trivial)))) (fun _ y k => by kernel_rfl) (fun y => by kernel_rfl) (fun x h => by kernel_rfl)
def strings_HasPrefix_r : Orcs Tb := [(62, internal_stringslite_HasPrefix_w)]
theorem strings_HasPrefix_rk : OrcsOk Tryd.prog Wp tab strings_HasPrefix_r := (orcs_cons internal_stringslite_HasPrefix_k orcs_nil)
def strings_HasPrefix_p : TCode Tb :=
(.seq (.reg [⟨.mv, [.k (.b false)], some 4, none⟩] none)
(.seq (.reg [⟨.mv, [.m 0], some 5, none⟩, ⟨.mv, [.m 1], some 6, none⟩, ⟨(.call (some 62) 0), [.m 5, .m 6], some 7, none⟩, ⟨.mv, [.m 7], some 4, none⟩] none)
.ret))
def strings_HasPrefix_w : Orc Tb := mkOrc (Y := Bool) tab [.g (.f (.a .s)), .g (.f (.a .s))] [] (fun x h => strings_HasPrefix x.1 x.2.1) (fun _ y k => k (.b y) [])
theorem strings_HasPrefix_k : (strings_HasPrefix_w).Ok Tryd.prog Wp tab 52 := orc_ok (Y := Bool) (orcs := strings_HasPrefix_r) (c := strings_HasPrefix_p) (res := [.tmp 4]) (n := 8) (R := (RSp.one (Y := Bool) tab (.g (.f (.a .b))) [] (fun a b => a) (fun y => y) (fun y => ()))) tabOk strings_HasPrefix_rk (RSp.one_ok tabOk (fun _ _ => by kernel_rfl) (fun _ _ => by kernel_rfl)) Tryd.func52 (by kernel_rfl) (by kernel_rfl) (by kernel_rfl) (by kernel_rfl) (cS trivial (cS trivial trivial)) (fun _ y k => by kernel_rfl) (fun y => by kernel_rfl) (fun x h => by kernel_rfl)
def topic_Match_r : Orcs Tb := [(29, topic_Filter_w), (27, topic_Name_w), (24, topic_Shared_w), (52, strings_HasPrefix_w), (31, topic_Wild_w), (53, strings_Split_w)]
theorem topic_Match_rk : OrcsOk Tryd.prog Wp tab topic_Match_r := (orcs_cons topic_Filter_k (orcs_cons topic_Name_k (orcs_cons topic_Shared_k (orcs_cons strings_HasPrefix_k (orcs_cons topic_Wild_k (orcs_cons strings_Split_k orcs_nil))))))
def topic_Match_p2 : TCode Tb :=
(.seq (.reg [⟨(.bin .lss .i), [.v 41, .v 40], some 42, none⟩] none)
(.seq (.cond 42 (.drop [42] .skip)
(.drop [39, 40, 41, 42] (.exit 0)))
(.seq (.block 1 (.seq (.reg [⟨.mv, [.v 41], some 43, none⟩, ⟨(.ia 1), [.v 39, .v 41], some 44, none⟩, ⟨(.load none), [.m 44], some 45, none⟩, ⟨.mv, [.m 43], some 10, none⟩, ⟨.mv, [.m 45], some 11, none⟩] none)
(.block 2 (.seq (.reg [⟨.mv, [.v 11], some 47, none⟩, ⟨(.bin .eql .s), [.m 47, .k (.s [35])], some 48, none⟩, ⟨.mv, [.m 48], some 46, none⟩] none)
(.cond 46 (.drop [8, 9, 10, 11, 39, 40, 41, 46] (.seq (.reg [⟨.mv, [.k (.b true)], some 4, none⟩] none)
.ret))
(.drop [46] (.seq (.seq (.reg [⟨.mv, [.v 10], some 50, none⟩, ⟨.mv, [.v 9], some 51, none⟩, ⟨.len, [.m 51], some 52, none⟩, ⟨(.bin .geq .i), [.m 50, .m 52], some 53, none⟩, ⟨.mv, [.m 53], some 49, none⟩] none)
(.cond 49 (.drop [10, 11] .skip)
(.drop [49] (.reg [⟨.mv, [.v 11], some 54, none⟩, ⟨(.bin .neq .s), [.m 54, .k (.s [43])], some 55, none⟩, ⟨.mv, [.m 55], some 56, none⟩, ⟨.mv, [.m 11], some 57, some (56, true)⟩, ⟨.mv, [.v 9], some 58, some (56, true)⟩, ⟨.mv, [.m 10], some 59, some (56, true)⟩, ⟨(.ia 1), [.v 58, .m 59], some 60, some (56, true)⟩, ⟨(.load none), [.m 60], some 61, some (56, true)⟩, ⟨(.bin .neq .s), [.m 57, .m 61], some 62, some (56, true)⟩, ⟨.pick, [.m 56, .m 62, .k (.b false)], some 63, none⟩, ⟨.mv, [.m 63], some 49, none⟩] none))))
(.drop [10, 11, 57, 58, 59, 60, 61] (.cond 49 (.drop [8, 9, 39, 40, 41, 49] (.seq (.reg [⟨.mv, [.k (.b false)], some 4, none⟩] none)
.ret))
(.drop [49] .skip))))))))))
(.reg [⟨(.bin .add .i), [.m 41, .k (.n .i64 1)], some 64, none⟩, ⟨.mv, [.m 64], some 41, none⟩] none))))
def topic_Match_s2 : SSh := ⟨[(8, .g (.f (.a (.sl 4)))), (9, .g (.f (.a (.sl 4)))), (39, .g (.f (.a (.sl 4)))), (40, .g (.f (.a (.n .i64)))), (41, .g (.f (.a (.n .i64))))], []⟩
def topic_Match_o2 : Cut Tb := cutL tab 0 topic_Match_s2 (fun x => x.1.2.2.2.2.1) (fun x => topic_Match_l2 x.1.2.1 x.1.2.2.1 x.1.2.2.2.1) (fun _ x y k => match y with | .inl y => k .ret ⟨[(4, .b y)], []⟩ | .inr y => k (.exit 0) ⟨[(8, .sl 4 x.1.1), (9, .sl 4 x.1.2.1)], []⟩)
theorem topic_Match_q2 : (topic_Match_o2).Ok Tryd.prog Wp tab 0 (.loop topic_Match_p2) := cutL_ok (c := topic_Match_p2) (Z := Int) (Y := Bool ⊕ Unit) tabOk topic_Match_rk (cS trivial (cS (cC (cD trivial) (cD trivial)) (cS (cB (cS trivial (cB (cS trivial (cC (cD (cS trivial trivial)) (cD (cS (cS trivial (cC (cD trivial) (cD trivial))) (cD (cC (cD (cS trivial trivial)) (cD trivial)))))))))) trivial))) (fun _ x z b e => topic_Match_b2 x.1.2.1 x.1.2.2.1 x.1.2.2.2.1 z (fun x21 => b x21) (fun y24 => e (.inl y24)) (e (.inr ()))) (fun x z => ⟨[(8, .sl 4 x.1.1), (9, .sl 4 x.1.2.1), (39, .sl 4 x.1.2.2.1), (40, .n .i64 x.1.2.2.2.1), (41, .n .i64 z)], []⟩) (fun x y => match y with | .inl y => (.ret, ⟨[(4, .b y)], []⟩) | .inr y => ((.exit 0), ⟨[(8, .sl 4 x.1.1), (9, .sl 4 x.1.2.1)], []⟩)) (fun t => (prjS tab 0 topic_Match_s2 t).bind fun x => some x.1.2.2.2.2.1) (fun e t => (if eqE e .ret then orElse ((prjS tab 0 ⟨[(4, .g (.f (.a .b)))], []⟩ t).bind fun v => some (.inl v.1.1)) (if eqE e (.exit 0) then (prjS tab 0 ⟨[(8, .g (.f (.a (.sl 4)))), (9, .g (.f (.a (.sl 4))))], []⟩ t).bind fun v => some (.inr ()) else none) else (if eqE e (.exit 0) then (prjS tab 0 ⟨[(8, .g (.f (.a (.sl 4)))), (9, .g (.f (.a (.sl 4))))], []⟩ t).bind fun v => some (.inr ()) else none))) (fun x => by kernel_rfl) (fun x z => by kernel_rfl) (fun x y k => by rcases y with y | y <;> kernel_rfl) (fun x y => by rcases y with y | y <;> exact nofun) (fun x z => by kernel_rfl) (fun x y => by rcases y with y | y <;> kernel_rfl) (fun x z k => by kernel_rfl)
def topic_Match_p1 : TCode Tb :=
(.seq (.reg [⟨.mv, [.m 0], some 35, none⟩, ⟨(.call (some 53) 5), [.m 35, .k (.s [47])], some 36, none⟩, ⟨.mv, [.m 1], some 37, none⟩, ⟨(.call (some 53) 5), [.m 37, .k (.s [47])], some 38, none⟩, ⟨.mv, [.m 36], some 8, none⟩, ⟨.mv, [.m 38], some 9, none⟩] none)
(.seq (.seq (.reg [⟨.mv, [.v 8], some 39, none⟩, ⟨.len, [.v 39], some 40, none⟩, ⟨.mv, [.k (.n .i64 0)], some 41, none⟩] none)
(.block 0 (.cut 0 topic_Match_o2 (.loop topic_Match_p2))))
(.seq (.reg [⟨.mv, [.m 8], some 65, none⟩, ⟨.len, [.m 65], some 66, none⟩, ⟨.mv, [.m 9], some 67, none⟩, ⟨.len, [.m 67], some 68, none⟩, ⟨(.bin .eql .i), [.m 66, .m 68], some 69, none⟩, ⟨.mv, [.m 69], some 4, none⟩] none)
.ret)))
def topic_Match_s1 : SSh := ⟨[(0, .g (.f (.a .s))), (1, .g (.f (.a .s)))], []⟩
def topic_Match_o1 : Cut Tb := cutJ tab 0 topic_Match_s1 (fun _ x k => topic_Match_c1 x.1.1 x.1.2.1 (fun y26 => k .ret ⟨[(4, .b y26)], []⟩))
theorem topic_Match_q1 : (topic_Match_o1).Ok Tryd.prog Wp tab 0 topic_Match_p1 := cutJ_ok (c := topic_Match_p1) tabOk topic_Match_rk (cS trivial (cS (cS trivial (cB (cT topic_Match_q2))) (cS trivial trivial))) (fun _ _ => by kernel_rfl)
def topic_Match_p0 : TCode Tb :=
(.seq (.seq (.reg [⟨.mv, [.v 1], some 28, none⟩, ⟨(.call (some 52) 3), [.m 28, .k (.s [36])], some 29, none⟩, ⟨.mv, [.m 29], some 30, none⟩, ⟨.mv, [.v 0], some 31, some (30, true)⟩, ⟨(.sstr false true), [.m 31, .k (.n .i64 1)], some 32, some (30, true)⟩, ⟨(.call (some 31) 4), [.m 32], some 33, some (30, true)⟩, ⟨.pick, [.m 30, .m 33, .k (.b false)], some 34, none⟩] none)
(.drop [31, 32] (.cond 34 (.drop [0, 1, 34] (.seq (.reg [⟨.mv, [.k (.b false)], some 4, none⟩] none)
.ret))
(.drop [34] .skip))))
(.cut 0 topic_Match_o1 topic_Match_p1))
def topic_Match_s0 : SSh := ⟨[(0, .g (.f (.a .s))), (1, .g (.f (.a .s)))], []⟩
def topic_Match_o0 : Cut Tb := cutJ tab 0 topic_Match_s0 (fun _ x k => topic_Match_c0 x.1.1 x.1.2.1 (fun y29 => k .ret ⟨[(4, .b y29)], []⟩))
theorem topic_Match_q0 : (topic_Match_o0).Ok Tryd.prog Wp tab 0 topic_Match_p0 := cutJ_ok (c := topic_Match_p0) tabOk topic_Match_rk (cS (cS trivial (cD (cC (cD (cS trivial trivial)) (cD trivial)))) (cT topic_Match_q1)) (fun _ _ => by kernel_rfl)
def topic_Match_p : TCode Tb :=
(.seq (.reg [⟨.mv, [.k (.b false)], some 4, none⟩] none)
(.seq (.seq (.reg [⟨.mv, [.v 0], some 12, none⟩, ⟨(.call (some 29) 0), [.m 12], some 13, none⟩, ⟨(.un .not), [.m 13], some 14, none⟩, ⟨.mv, [.m 14], some 15, none⟩, ⟨.mv, [.v 1], some 16, some (15, false)⟩, ⟨(.call (some 27) 1), [.m 16], some 17, some (15, false)⟩, ⟨(.un .not), [.m 17], some 18, some (15, false)⟩, ⟨.pick, [.m 15, .k (.b true), .m 18], some 19, none⟩] none)
(.drop [4, 16, 17] (.cond 19 (.drop [0, 1, 19] (.seq (.reg [⟨.mv, [.k (.b false)], some 4, none⟩] none)
.ret))
(.drop [19] .skip))))
(.seq (.seq (.reg [⟨.mv, [.v 0], some 21, none⟩, ⟨(.call (some 24) 2), [.m 21], some 22, none⟩, ⟨.mv, [.m 22], some 20, none⟩, ⟨.extm, [.c 20 0], some 23, none⟩, ⟨.extm, [.c 20 1], some 24, none⟩, ⟨(.ext 2), [.m 20], some 25, none⟩, ⟨.mv, [.m 23], some 5, none⟩, ⟨.mv, [.m 24], some 6, none⟩, ⟨.mv, [.m 25], some 7, none⟩] none)
(.seq (.reg [⟨.mv, [.m 7], some 26, none⟩] none)
(.cond 26 (.drop [0, 5, 26] (.reg [⟨.mv, [.m 6], some 27, none⟩, ⟨.mv, [.m 27], some 0, none⟩] none))
(.drop [5, 6, 26] .skip))))
(.cut 0 topic_Match_o0 topic_Match_p0))))
def topic_Match_w : Orc Tb := mkOrc (Y := Bool) tab [.g (.f (.a .s)), .g (.f (.a .s))] [] (fun x h => topic_Match x.1 x.2.1) (fun _ y k => k (.b y) [])
theorem topic_Match_k : (topic_Match_w).Ok Tryd.prog Wp tab 33 := orc_ok (Y := Bool) (orcs := topic_Match_r) (c := topic_Match_p) (res := [.tmp 4]) (n := 70) (R := (RSp.one (Y := Bool) tab (.g (.f (.a .b))) [] (fun a b => a) (fun y => y) (fun y => ()))) tabOk topic_Match_rk (RSp.one_ok tabOk (fun _ _ => by kernel_rfl) (fun _ _ => by kernel_rfl)) Tryd.func33 (by kernel_rfl) (by kernel_rfl) (by kernel_rfl) (by kernel_rfl) (cS trivial (cS (cS trivial (cD (cC (cD (cS trivial trivial)) (cD trivial)))) (cS (cS trivial (cS trivial (cC (cD trivial) (cD trivial)))) (cT topic_Match_q0)))) (fun _ y k => by kernel_rfl) (fun y => by kernel_rfl) (fun x h => by kernel_rfl)
def l04_told_r : Orcs Tb := [(24, topic_Shared_w), (33, topic_Match_w), (29, topic_Filter_w), (27, topic_Name_w)]
theorem l04_told_rk : OrcsOk Tryd.prog Wp tab l04_told_r := (orcs_cons topic_Shared_k (orcs_cons topic_Match_k (orcs_cons topic_Filter_k (orcs_cons topic_Name_k orcs_nil))))
def l04_told_p : TCode Tb :=
(.seq (.reg [⟨.mv, [.k (.b false)], some 0, none⟩] none)
(.seq (.reg [⟨(.call (some 24) 0), [.k (.s [36, 115, 104, 97, 114, 101, 47, 103, 47, 97, 47, 43])], some 5, none⟩, ⟨.mv, [.m 5], some 4, none⟩, ⟨.extm, [.c 4 0], some 6, none⟩, ⟨.extm, [.c 4 1], some 7, none⟩, ⟨(.ext 2), [.m 4], some 8, none⟩, ⟨.mv, [.m 6], some 1, none⟩, ⟨.mv, [.m 7], some 2, none⟩, ⟨.mv, [.m 8], some 3, none⟩] none)
(.seq (.reg [⟨(.call (some 33) 1), [.k (.s [97, 47, 43, 47, 99]), .k (.s [97, 47, 98, 47, 99])], some 9, none⟩, ⟨.mv, [.m 9], some 10, none⟩, ⟨(.call (some 33) 1), [.k (.s [97, 47, 43, 47, 99]), .k (.s [97, 47, 47, 99])], some 11, some (10, true)⟩, ⟨.pick, [.m 10, .m 11, .k (.b false)], some 12, none⟩, ⟨.mv, [.m 12], some 13, none⟩, ⟨(.call (some 33) 1), [.k (.s [97, 47, 43, 47, 99]), .k (.s [97, 47, 98])], some 14, some (13, true)⟩, ⟨(.un .not), [.m 14], some 15, some (13, true)⟩, ⟨.pick, [.m 13, .m 15, .k (.b false)], some 16, none⟩, ⟨.mv, [.m 16], some 17, none⟩, ⟨(.call (some 33) 1), [.k (.s [97, 47, 35]), .k (.s [97])], some 18, some (17, true)⟩, ⟨.pick, [.m 17, .m 18, .k (.b false)], some 19, none⟩, ⟨.mv, [.m 19], some 20, none⟩, ⟨(.call (some 33) 1), [.k (.s [35]), .k (.s [36, 120])], some 21, some (20, true)⟩, ⟨(.un .not), [.m 21], some 22, some (20, true)⟩, ⟨.pick, [.m 20, .m 22, .k (.b false)], some 23, none⟩, ⟨.mv, [.m 23], some 24, none⟩, ⟨.mv, [.m 1], some 25, some (24, true)⟩, ⟨(.bin .eql .s), [.m 25, .k (.s [103])], some 26, some (24, true)⟩, ⟨.pick, [.m 24, .m 26, .k (.b false)], some 27, none⟩, ⟨.mv, [.m 27], some 28, none⟩, ⟨.mv, [.m 2], some 29, some (28, true)⟩, ⟨(.bin .eql .s), [.m 29, .k (.s [97, 47, 43])], some 30, some (28, true)⟩, ⟨.pick, [.m 28, .m 30, .k (.b false)], some 31, none⟩, ⟨.mv, [.m 31], some 32, none⟩, ⟨.mv, [.m 3], some 33, some (32, true)⟩, ⟨.pick, [.m 32, .m 33, .k (.b false)], some 34, none⟩, ⟨.mv, [.m 34], some 35, none⟩, ⟨(.call (some 29) 2), [.k (.s [97, 47, 35, 47, 98])], some 36, some (35, true)⟩, ⟨(.un .not), [.m 36], some 37, some (35, true)⟩, ⟨.pick, [.m 35, .m 37, .k (.b false)], some 38, none⟩, ⟨.mv, [.m 38], some 39, none⟩, ⟨(.call (some 29) 2), [.k (.s [36, 115, 104, 97, 114, 101, 47, 103])], some 40, some (39, true)⟩, ⟨(.un .not), [.m 40], some 41, some (39, true)⟩, ⟨.pick, [.m 39, .m 41, .k (.b false)], some 42, none⟩, ⟨.mv, [.m 42], some 43, none⟩, ⟨(.call (some 27) 3), [.k (.s [97])], some 44, some (43, true)⟩, ⟨.pick, [.m 43, .m 44, .k (.b false)], some 45, none⟩, ⟨.mv, [.m 45], some 46, none⟩, ⟨(.call (some 27) 3), [.k (.s [43])], some 47, some (46, true)⟩, ⟨(.un .not), [.m 47], some 48, some (46, true)⟩, ⟨.pick, [.m 46, .m 48, .k (.b false)], some 49, none⟩, ⟨.mv, [.m 49], some 0, none⟩] none)
(.drop [1, 2, 3, 14, 21, 25, 29, 36, 40, 47] .ret))))
def l04_told_w : Orc Tb := mkOrc (Y := Bool) tab [] [] (fun x h => l04_told) (fun _ y k => k (.b y) [])
theorem l04_told_k : (l04_told_w).Ok Tryd.prog Wp tab 26 := orc_ok (Y := Bool) (orcs := l04_told_r) (c := l04_told_p) (res := [.tmp 0]) (n := 50) (R := (RSp.one (Y := Bool) tab (.g (.f (.a .b))) [] (fun a b => a) (fun y => y) (fun y => ()))) tabOk l04_told_rk (RSp.one_ok tabOk (fun _ _ => by kernel_rfl) (fun _ _ => by kernel_rfl)) Tryd.func26 (by kernel_rfl) (by kernel_rfl) (by kernel_rfl) (by kernel_rfl) (cS trivial (cS trivial (cS trivial (cD trivial)))) (fun _ y k => by kernel_rfl) (fun y => by kernel_rfl) (fun x h => by kernel_rfl)
def r04_FixFilter_r : Orcs Tb := []
theorem r04_FixFilter_rk : OrcsOk Tryd.prog Wp tab r04_FixFilter_r := orcs_nil
def r04_FixFilter_p0 : TCode Tb :=
(.seq (.seq (.reg [⟨.mv, [.v 5], some 7, none⟩, ⟨.mv, [.v 0], some 8, none⟩, ⟨.lens, [.m 8], some 9, none⟩, ⟨(.bin .lss .i), [.m 7, .m 9], some 10, none⟩, ⟨.mv, [.m 10], some 11, none⟩, ⟨.mv, [.v 5], some 12, some (11, true)⟩, ⟨(.bin .lss .i), [.m 12, .k (.n .i64 6)], some 13, some (11, true)⟩, ⟨.pick, [.m 11, .m 13, .k (.b false)], some 14, none⟩] none)
(.drop [12] (.cond 14 (.drop [14] .skip)
(.drop [3, 5, 14] (.exit 0)))))
(.seq (.block 1 (.reg [⟨.mv, [.m 4], some 17, none⟩, ⟨(.bin .add .i), [.m 17, .k (.s [47])], some 18, none⟩, ⟨.mv, [.v 3], some 19, none⟩, ⟨.mv, [.v 0], some 20, none⟩, ⟨.mv, [.v 5], some 21, none⟩, ⟨.sidx, [.m 20, .m 21], some 22, none⟩, ⟨(.cint .i64), [.m 22], some 23, none⟩, ⟨(.bin .rem .i), [.m 23, .k (.n .i64 8)], some 24, none⟩, ⟨(.ia 1), [.v 19, .m 24], some 25, none⟩, ⟨(.load none), [.m 25], some 26, none⟩, ⟨(.bin .add .i), [.m 18, .m 26], some 27, none⟩, ⟨.mv, [.m 27], some 4, none⟩] none))
(.drop [19] (.reg [⟨.mv, [.m 5], some 15, none⟩, ⟨(.bin .add .i), [.m 15, .k (.n .i64 1)], some 16, none⟩, ⟨.mv, [.m 16], some 5, none⟩] none))))
def r04_FixFilter_s0 : SSh := ⟨[(0, .g (.f (.a .s))), (3, .g (.f (.ow 4))), (4, .g (.f (.a .s))), (5, .g (.f (.a (.n .i64))))], []⟩
def r04_FixFilter_o0 : Cut Tb := cutL tab 0 r04_FixFilter_s0 (fun x => (x.1.2.2.1, x.1.2.2.2.1)) (fun x => r04_FixFilter_l0 x.1.1 x.1.2.1) (fun _ x y k => k (.exit 0) ⟨[(0, .s x.1.1), (4, .s y)], []⟩)
theorem r04_FixFilter_q0 : (r04_FixFilter_o0).Ok Tryd.prog Wp tab 0 (.loop r04_FixFilter_p0) := cutL_ok (c := r04_FixFilter_p0) (Z := (List UInt8) × Int) (Y := (List UInt8)) tabOk r04_FixFilter_rk (cS (cS trivial (cD (cC (cD trivial) (cD trivial)))) (cS (cB trivial) (cD trivial))) (fun _ x z b e => r04_FixFilter_b0 x.1.1 x.1.2.1 z.1 z.2 (fun x4 x5 => b (x4, x5)) (fun y10 => e y10)) (fun x z => ⟨[(0, .s x.1.1), (3, .ow 4 x.1.2.1), (4, .s z.1), (5, .n .i64 z.2)], []⟩) (fun x y => ((.exit 0), ⟨[(0, .s x.1.1), (4, .s y)], []⟩)) (fun t => (prjS tab 0 r04_FixFilter_s0 t).bind fun x => some (x.1.2.2.1, x.1.2.2.2.1)) (fun e t => (if eqE e (.exit 0) then (prjS tab 0 ⟨[(0, .g (.f (.a .s))), (4, .g (.f (.a .s)))], []⟩ t).bind fun v => some v.1.2.1 else none)) (fun x => by kernel_rfl) (fun x z => by kernel_rfl) (fun x y k => by kernel_rfl) (fun x y => by exact nofun) (fun x z => by kernel_rfl) (fun x y => by kernel_rfl) (fun x z k => by kernel_rfl)
def r04_FixFilter_p2 : TCode Tb :=
(.seq (.seq (.reg [⟨.mv, [.v 0], some 48, none⟩, ⟨.lens, [.m 48], some 49, none⟩, ⟨(.bin .gtr .i), [.m 49, .k (.n .i64 2)], some 50, none⟩, ⟨.mv, [.m 50], some 51, none⟩, ⟨.mv, [.m 0], some 52, some (51, true)⟩, ⟨.sidx, [.m 52, .k (.n .i64 2)], some 53, some (51, true)⟩, ⟨(.bin .geq .i), [.m 53, .k (.u8 (220 : UInt8))], some 54, some (51, true)⟩, ⟨.pick, [.m 51, .m 54, .k (.b false)], some 55, none⟩] none)
(.drop [0, 52, 53] (.cond 55 (.drop [4, 55] (.reg [⟨.mv, [.k (.s [35])], some 4, none⟩] none))
(.drop [55] .skip))))
(.seq (.reg [⟨.mv, [.m 4], some 56, none⟩, ⟨.mv, [.m 56], some 2, none⟩] none)
.ret))
def r04_FixFilter_s2 : SSh := ⟨[(0, .g (.f (.a .s))), (4, .g (.f (.a .s)))], []⟩
def r04_FixFilter_o2 : Cut Tb := cutJ tab 0 r04_FixFilter_s2 (fun _ x k => r04_FixFilter_c2 x.1.1 x.1.2.1 (fun y21 => k .ret ⟨[(2, .s y21)], []⟩))
theorem r04_FixFilter_q2 : (r04_FixFilter_o2).Ok Tryd.prog Wp tab 0 r04_FixFilter_p2 := cutJ_ok (c := r04_FixFilter_p2) tabOk r04_FixFilter_rk (cS (cS trivial (cD (cC (cD trivial) (cD trivial)))) (cS trivial trivial)) (fun _ _ => by kernel_rfl)
def r04_FixFilter_p1 : TCode Tb :=
(.seq (.seq (.reg [⟨.mv, [.v 0], some 38, none⟩, ⟨.lens, [.m 38], some 39, none⟩, ⟨(.bin .gtr .i), [.m 39, .k (.n .i64 1)], some 40, none⟩, ⟨.mv, [.m 40], some 41, none⟩, ⟨.mv, [.v 0], some 42, some (41, true)⟩, ⟨.sidx, [.m 42, .k (.n .i64 1)], some 43, some (41, true)⟩, ⟨(.bin .geq .i), [.m 43, .k (.u8 (200 : UInt8))], some 44, some (41, true)⟩, ⟨.pick, [.m 41, .m 44, .k (.b false)], some 45, none⟩] none)
(.drop [42, 43] (.cond 45 (.drop [45] (.reg [⟨.mv, [.m 4], some 46, none⟩, ⟨(.bin .add .i), [.k (.s [36, 115, 104, 97, 114, 101, 47, 103, 47]), .m 46], some 47, none⟩, ⟨.mv, [.m 47], some 4, none⟩] none))
(.drop [45] .skip))))
(.cut 0 r04_FixFilter_o2 r04_FixFilter_p2))
def r04_FixFilter_s1 : SSh := ⟨[(0, .g (.f (.a .s))), (4, .g (.f (.a .s)))], []⟩
def r04_FixFilter_o1 : Cut Tb := cutJ tab 0 r04_FixFilter_s1 (fun _ x k => r04_FixFilter_c1 x.1.1 x.1.2.1 (fun y25 => k .ret ⟨[(2, .s y25)], []⟩))
theorem r04_FixFilter_q1 : (r04_FixFilter_o1).Ok Tryd.prog Wp tab 0 r04_FixFilter_p1 := cutJ_ok (c := r04_FixFilter_p1) tabOk r04_FixFilter_rk (cS (cS trivial (cD (cC (cD trivial) (cD trivial)))) (cT r04_FixFilter_q2)) (fun _ _ => by kernel_rfl)
def r04_FixFilter_p : TCode Tb :=
(.seq (.reg [⟨.mv, [.k (.s [])], some 2, none⟩] none)
(.seq (.reg [⟨(.bslice 4 8 ([] : List UInt8) [0, 1, 2, 3, 4, 5, 6, 7]), [.k (.s [97]), .k (.s [43]), .k (.s [98]), .k (.s []), .k (.s [99]), .k (.s [97]), .k (.s [43]), .k (.s [98])], some 6, none⟩, ⟨.mv, [.m 6], some 3, none⟩] none)
(.seq (.reg [⟨.mv, [.k (.s [116])], some 4, none⟩] none)
(.seq (.seq (.reg [⟨.mv, [.k (.n .i64 0)], some 5, none⟩] none)
(.block 0 (.drop [2] (.cut 0 r04_FixFilter_o0 (.loop r04_FixFilter_p0)))))
(.seq (.seq (.reg [⟨.mv, [.v 0], some 28, none⟩, ⟨.lens, [.m 28], some 29, none⟩, ⟨(.bin .gtr .i), [.m 29, .k (.n .i64 0)], some 30, none⟩, ⟨.mv, [.m 30], some 31, none⟩, ⟨.mv, [.v 0], some 32, some (31, true)⟩, ⟨.sidx, [.m 32, .k (.n .i64 0)], some 33, some (31, true)⟩, ⟨(.bin .geq .i), [.m 33, .k (.u8 (200 : UInt8))], some 34, some (31, true)⟩, ⟨.pick, [.m 31, .m 34, .k (.b false)], some 35, none⟩] none)
(.drop [32, 33] (.cond 35 (.drop [35] (.reg [⟨.mv, [.m 4], some 36, none⟩, ⟨(.bin .add .i), [.m 36, .k (.s [47, 35])], some 37, none⟩, ⟨.mv, [.m 37], some 4, none⟩] none))
(.drop [35] .skip))))
(.cut 0 r04_FixFilter_o1 r04_FixFilter_p1))))))
def r04_FixFilter_w : Orc Tb := mkOrc (Y := (List UInt8)) tab [.g (.f (.a .s))] [] (fun x h => r04_FixFilter x.1) (fun _ y k => k (.s y) [])
theorem r04_FixFilter_k : (r04_FixFilter_w).Ok Tryd.prog Wp tab 37 := orc_ok (Y := (List UInt8)) (orcs := r04_FixFilter_r) (c := r04_FixFilter_p) (res := [.tmp 2]) (n := 57) (R := (RSp.one (Y := (List UInt8)) tab (.g (.f (.a .s))) [] (fun a b => a) (fun y => y) (fun y => ()))) tabOk r04_FixFilter_rk (RSp.one_ok tabOk (fun _ _ => by kernel_rfl) (fun _ _ => by kernel_rfl)) Tryd.func37 (by kernel_rfl) (by kernel_rfl) (by kernel_rfl) (by kernel_rfl) (cS trivial (cS trivial (cS trivial (cS (cS trivial (cB (cD (cT r04_FixFilter_q0)))) (cS (cS trivial (cD (cC (cD trivial) (cD trivial)))) (cT r04_FixFilter_q1)))))) (fun _ y k => by kernel_rfl) (fun y => by kernel_rfl) (fun x h => by kernel_rfl)
def l04_TopicDeeper_r : Orcs Tb := [(37, r04_FixFilter_w), (35, r04_Fix_w), (26, l04_told_w), (33, topic_Match_w)]
theorem l04_TopicDeeper_rk : OrcsOk Tryd.prog Wp tab l04_TopicDeeper_r := (orcs_cons r04_FixFilter_k (orcs_cons r04_Fix_k (orcs_cons l04_told_k (orcs_cons topic_Match_k orcs_nil))))
def l04_TopicDeeper_p : TCode Tb :=
(.seq (.reg [⟨.mv, [.k (.b false)], some 4, none⟩] none)
(.seq (.reg [⟨.mv, [.v 0], some 8, none⟩, ⟨.mv, [.m 0], some 9, none⟩, ⟨.lens, [.m 9], some 10, none⟩, ⟨.min, [.m 10, .k (.n .i64 6)], some 11, none⟩, ⟨(.sstr false true), [.m 8, .m 11], some 12, none⟩, ⟨(.call (some 37) 0), [.m 12], some 13, none⟩, ⟨.mv, [.m 1], some 14, none⟩, ⟨(.call (some 35) 1), [.m 14], some 15, none⟩, ⟨(.bin .add .i), [.k (.s [116, 47]), .m 15], some 16, none⟩, ⟨.mv, [.m 13], some 5, none⟩, ⟨.mv, [.m 16], some 6, none⟩] none)
(.seq (.seq (.reg [⟨.mv, [.v 5], some 17, none⟩, ⟨.mv, [.v 5], some 18, none⟩, ⟨.lens, [.m 18], some 19, none⟩, ⟨(.bin .sub .i), [.m 19, .k (.n .i64 1)], some 20, none⟩, ⟨.sidx, [.m 17, .m 20], some 21, none⟩, ⟨(.bin .eql .i), [.m 21, .k (.u8 (35 : UInt8))], some 22, none⟩] none)
(.cond 22 (.drop [4, 5, 6, 22] (.seq (.reg [⟨(.call (some 26) 2), [], some 23, none⟩, ⟨.mv, [.m 23], some 4, none⟩] none)
.ret))
(.drop [4, 22] .skip)))
(.seq (.reg [⟨.mv, [.v 5], some 24, none⟩, ⟨.mv, [.v 6], some 25, none⟩, ⟨(.call (some 33) 3), [.m 24, .m 25], some 26, none⟩, ⟨.mv, [.m 26], some 7, none⟩] none)
(.seq (.reg [⟨(.call (some 26) 2), [], some 27, none⟩, ⟨.mv, [.m 27], some 28, none⟩, ⟨.mv, [.v 5], some 29, some (28, true)⟩, ⟨(.bin .add .i), [.m 29, .k (.s [47, 120])], some 30, some (28, true)⟩, ⟨.mv, [.v 6], some 31, some (28, true)⟩, ⟨(.bin .add .i), [.m 31, .k (.s [47, 120])], some 32, some (28, true)⟩, ⟨(.call (some 33) 3), [.m 30, .m 32], some 33, some (28, true)⟩, ⟨.mv, [.v 7], some 34, some (28, true)⟩, ⟨(.bin .eql .b), [.m 33, .m 34], some 35, some (28, true)⟩, ⟨.pick, [.m 28, .m 35, .k (.b false)], some 36, none⟩, ⟨.mv, [.m 36], some 37, none⟩, ⟨.mv, [.v 5], some 38, some (37, true)⟩, ⟨(.bin .add .i), [.m 38, .k (.s [47, 120])], some 39, some (37, true)⟩, ⟨.mv, [.v 6], some 40, some (37, true)⟩, ⟨(.bin .add .i), [.m 40, .k (.s [47, 121])], some 41, some (37, true)⟩, ⟨(.call (some 33) 3), [.m 39, .m 41], some 42, some (37, true)⟩, ⟨(.un .not), [.m 42], some 43, some (37, true)⟩, ⟨.pick, [.m 37, .m 43, .k (.b false)], some 44, none⟩, ⟨.mv, [.m 44], some 45, none⟩, ⟨.mv, [.v 5], some 46, some (45, true)⟩, ⟨(.bin .add .i), [.m 46, .k (.s [47, 43])], some 47, some (45, true)⟩, ⟨.mv, [.v 6], some 48, some (45, true)⟩, ⟨(.bin .add .i), [.m 48, .k (.s [47, 121])], some 49, some (45, true)⟩, ⟨(.call (some 33) 3), [.m 47, .m 49], some 50, some (45, true)⟩, ⟨.mv, [.v 7], some 51, some (45, true)⟩, ⟨(.bin .eql .b), [.m 50, .m 51], some 52, some (45, true)⟩, ⟨.pick, [.m 45, .m 52, .k (.b false)], some 53, none⟩, ⟨.mv, [.m 53], some 54, none⟩, ⟨.mv, [.m 7], some 55, some (54, true)⟩, ⟨(.un .not), [.m 55], some 56, some (54, true)⟩, ⟨.mv, [.m 56], some 57, some (54, true)⟩, ⟨.mv, [.m 5], some 58, some (57, false)⟩, ⟨(.bin .add .i), [.m 58, .k (.s [47, 35])], some 59, some (57, false)⟩, ⟨.mv, [.m 6], some 60, some (57, false)⟩, ⟨(.bin .add .i), [.m 60, .k (.s [47, 121, 47, 122])], some 61, some (57, false)⟩, ⟨(.call (some 33) 3), [.m 59, .m 61], some 62, some (57, false)⟩, ⟨.pick, [.m 57, .k (.b true), .m 62], some 63, some (54, true)⟩, ⟨.pick, [.m 54, .m 63, .k (.b false)], some 64, none⟩, ⟨.mv, [.m 64], some 4, none⟩] none)
(.drop [5, 6, 7, 29, 30, 31, 32, 33, 34, 38, 39, 40, 41, 42, 46, 47, 48, 49, 50, 51, 55, 56, 57, 58, 59, 60, 61, 62] .ret))))))
def l04_TopicDeeper_w : Orc Tb := mkOrc (Y := Bool) tab [.g (.f (.a .s)), .g (.f (.a .s))] [] (fun x h => l04_TopicDeeper x.1 x.2.1) (fun _ y k => k (.b y) [])
theorem l04_TopicDeeper_k : (l04_TopicDeeper_w).Ok Tryd.prog Wp tab 9 := orc_ok (Y := Bool) (orcs := l04_TopicDeeper_r) (c := l04_TopicDeeper_p) (res := [.tmp 4]) (n := 65) (R := (RSp.one (Y := Bool) tab (.g (.f (.a .b))) [] (fun a b => a) (fun y => y) (fun y => ()))) tabOk l04_TopicDeeper_rk (RSp.one_ok tabOk (fun _ _ => by kernel_rfl) (fun _ _ => by kernel_rfl)) Tryd.func9 (by kernel_rfl) (by kernel_rfl) (by kernel_rfl) (by kernel_rfl) (cS trivial (cS trivial (cS (cS trivial (cC (cD (cS trivial trivial)) (cD trivial))) (cS trivial (cS trivial (cD trivial)))))) (fun _ y k => by kernel_rfl) (fun y => by kernel_rfl) (fun x h => by kernel_rfl)
end Go.Rv
