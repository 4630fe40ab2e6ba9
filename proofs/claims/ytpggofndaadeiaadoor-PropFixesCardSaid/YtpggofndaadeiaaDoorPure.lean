/- The program's functions as plain functions. -/
import Derived.Test.YtpggofndaadeiaaDoorTys
set_option linter.unusedSimpArgs false
set_option linter.unusedVariables false
set_option maxRecDepth 100000
namespace Go.Rv
/- pouch/prop.laterRow -/
def prop_laterRow_c1 {ρ : Type} (x9 : Option (List Int)) (x10 : Option (List Int)) (x11 : UInt8) (x12 : Bool) (k1_ : (Option (List Int)) → Option ρ) (k2_ : prop_row → Option ρ) (k3_ : Option ρ) : Option ρ :=
  if x12 then (slO x9 1 ((L x9).length : Int)).bind fun x14 => k1_ x14 else if decide (x11 = (38 : UInt8)) then k2_ (⟨7, x10⟩ : prop_row) else if decide (x11 = (39 : UInt8)) then k2_ (⟨3, x9⟩ : prop_row) else k3_
def prop_laterRow_c0 {ρ : Type} (x4 : Option (List Int)) (x5 : Option (List Int)) (x6 : UInt8) (x7 : Bool) (k1_ : prop_row → Option ρ) (k2_ : (Option (List Int)) → Option ρ) (k3_ : Option ρ) : Option ρ :=
  if x7 then k1_ (⟨2, x4⟩ : prop_row) else if decide (x6 = (35 : UInt8)) then k1_ (⟨2, (some [3])⟩ : prop_row) else if decide (x6 = (36 : UInt8)) then prop_laterRow_c1 x4 x5 x6 (decide (x6 = (36 : UInt8))) (fun x17 => k2_ x17) (fun x18 => k1_ x18) k3_ else if decide (x6 = (37 : UInt8)) then prop_laterRow_c1 x4 x5 x6 (decide (x6 = (37 : UInt8))) (fun x19 => k2_ x19) (fun x20 => k1_ x20) k3_ else if decide (x6 = (40 : UInt8)) then prop_laterRow_c1 x4 x5 x6 (decide (x6 = (40 : UInt8))) (fun x21 => k2_ x21) (fun x22 => k1_ x22) k3_ else if decide (x6 = (41 : UInt8)) then prop_laterRow_c1 x4 x5 x6 (decide (x6 = (41 : UInt8))) (fun x23 => k2_ x23) (fun x24 => k1_ x24) k3_ else prop_laterRow_c1 x4 x5 x6 (decide (x6 = (42 : UInt8))) (fun x25 => k2_ x25) (fun x26 => k1_ x26) k3_
def prop_laterRow (a1 : UInt8) (a2 : Option (List Int)) (a3 : Option (List Int)) : Option prop_row :=
  if decide (a1 = (28 : UInt8)) then some (⟨5, (some [2, 14])⟩ : prop_row) else if decide (a1 = (31 : UInt8)) then some (⟨5, (some [2, 4, 5, 6, 7, 9, 11, 14, 15])⟩ : prop_row) else if decide (a1 = (33 : UInt8)) then prop_laterRow_c0 a2 a3 a1 (decide (a1 = (33 : UInt8))) (fun x29 => some x29) (fun x30 => some (⟨1, x30⟩ : prop_row)) (some (⟨0, none⟩ : prop_row)) else prop_laterRow_c0 a2 a3 a1 (decide (a1 = (34 : UInt8))) (fun x31 => some x31) (fun x32 => some (⟨1, x32⟩ : prop_row)) (some (⟨0, none⟩ : prop_row))
/- pouch/prop.rowOf -/
def prop_rowOf_b0 {ρ : Type} (x5 : Option (List Int)) (x6 : Int) (kb_ : (Option (List Int)) → Int → Option ρ) (k1_ : (Option (List Int)) → Option ρ) : Option ρ :=
  if decide (x6 ≤ 16) then if !decide (x6 = 12) then if !decide (x6 = 13) then (appO 8 x5 (some [x6])).bind fun x8 => kb_ x8 (w64 (x6 + 1)) else kb_ x5 (w64 (x6 + 1)) else kb_ x5 (w64 (x6 + 1)) else k1_ x5
def prop_rowOf_l0 (z : (Option (List Int)) × Int) : Option (((Option (List Int)) × Int) ⊕ (Option (List Int))) :=
  prop_rowOf_b0 z.1 z.2 (fun x5 x6 => some (.inl (x5, x6))) (fun y9 => some (.inr y9))
def prop_rowOf_c3 {ρ : Type} (x31 : Option (List Int)) (x32 : Option (List Int)) (x34 : UInt8) (x35 : Bool) (k1_ : (Option (List Int)) → Option ρ) (k2_ : (Option (List Int)) → Option ρ) (k3_ : Option ρ) : Option ρ :=
  if x35 then (slO x32 0 1).bind fun x37 => k1_ x37 else if decide (x34 = (24 : UInt8)) then (slO x31 1 ((L x31).length : Int)).bind fun x38 => k2_ x38 else k3_
def prop_rowOf_c2 {ρ : Type} (x20 : Option (List Int)) (x21 : Option (List Int)) (x23 : UInt8) (x24 : Bool) (k1_ : (Option (List Int)) → Option ρ) (k2_ : (Option (List Int)) → Option ρ) (k3_ : prop_row → Option ρ) (k4_ : (Option (List Int)) → Option ρ) (k5_ : (Option (List Int)) → Option ρ) (k6_ : Option ρ) : Option ρ :=
  if x24 then (slO x21 1 ((L x21).length : Int)).bind fun x26 => k1_ x26 else if decide (x23 = (19 : UInt8)) then (slO x21 1 ((L x21).length : Int)).bind fun x27 => k2_ x27 else if decide (x23 = (21 : UInt8)) then (appO 8 x21 (some [15])).bind fun x28 => k3_ (⟨5, x28⟩ : prop_row) else if decide (x23 = (22 : UInt8)) then (appO 8 x21 (some [15])).bind fun x29 => k3_ (⟨6, x29⟩ : prop_row) else if decide (x23 = (23 : UInt8)) then prop_rowOf_c3 x20 x21 x23 (decide (x23 = (23 : UInt8))) (fun x41 => k4_ x41) (fun x42 => k5_ x42) k6_ else prop_rowOf_c3 x20 x21 x23 (decide (x23 = (25 : UInt8))) (fun x43 => k4_ x43) (fun x44 => k5_ x44) k6_
def prop_rowOf_c1 {ρ : Type} (x12 : Option (List Int)) (x13 : Option (List Int)) (x15 : UInt8) (x16 : Bool) (k1_ : prop_row → Option ρ) (k2_ : (Option (List Int)) → Option ρ) (k3_ : (Option (List Int)) → Option ρ) (k4_ : (Option (List Int)) → Option ρ) (k5_ : (Option (List Int)) → Option ρ) (k6_ : Option ρ) : Option ρ :=
  if x16 then k1_ (⟨5, x12⟩ : prop_row) else if decide (x15 = (9 : UInt8)) then k1_ (⟨6, x12⟩ : prop_row) else if decide (x15 = (11 : UInt8)) then k1_ (⟨4, (some [3, 8])⟩ : prop_row) else if decide (x15 = (17 : UInt8)) then (appO 8 x13 (some [14])).bind fun x18 => k1_ (⟨3, x18⟩ : prop_row) else if decide (x15 = (18 : UInt8)) then prop_rowOf_c2 x12 x13 x15 (decide (x15 = (18 : UInt8))) (fun x50 => k2_ x50) (fun x51 => k3_ x51) (fun x52 => k1_ x52) (fun x53 => k4_ x53) (fun x54 => k5_ x54) k6_ else prop_rowOf_c2 x12 x13 x15 (decide (x15 = (26 : UInt8))) (fun x55 => k2_ x55) (fun x56 => k3_ x56) (fun x57 => k1_ x57) (fun x58 => k4_ x58) (fun x59 => k5_ x59) k6_
def prop_rowOf_c4 {ρ : Type} (x75 : UInt8) (x76 : Option (List Int)) (x77 : Option (List Int)) (k1_ : prop_row → Option ρ) : Option ρ :=
  (prop_laterRow x75 x76 x77).bind fun x79 => k1_ x79
def prop_rowOf (a1 : UInt8) : Option prop_row :=
  (iter prop_rowOf_l0 ((some []), 1)).bind fun x10 => if decide (a1 = (1 : UInt8)) then some (⟨1, (some [3, 16])⟩ : prop_row) else if decide (a1 = (2 : UInt8)) then some (⟨3, (some [3, 16])⟩ : prop_row) else if decide (a1 = (3 : UInt8)) then prop_rowOf_c1 (some [3, 16]) (some [1, 2]) a1 (decide (a1 = (3 : UInt8))) (fun x65 => some x65) (fun x66 => some (⟨5, x66⟩ : prop_row)) (fun x67 => some (⟨2, x67⟩ : prop_row)) (fun x68 => some (⟨1, x68⟩ : prop_row)) (fun x69 => some (⟨3, x69⟩ : prop_row)) (prop_rowOf_c4 a1 (some [1, 2]) x10 (fun x81 => some x81)) else prop_rowOf_c1 (some [3, 16]) (some [1, 2]) a1 (decide (a1 = (8 : UInt8))) (fun x70 => some x70) (fun x71 => some (⟨5, x71⟩ : prop_row)) (fun x72 => some (⟨2, x72⟩ : prop_row)) (fun x73 => some (⟨1, x73⟩ : prop_row)) (fun x74 => some (⟨3, x74⟩ : prop_row)) (prop_rowOf_c4 a1 (some [1, 2]) x10 (fun x82 => some x82))
/- pouch/prop.Type -/
def prop_Type (a1 : UInt8) : Option Int :=
  (prop_rowOf a1).bind fun x2 => some x2.kind
/- slices.Index[[]int,int] -/
def slices_Index_s_int_int_b0 {ρ : Type} (x3 : Option (List Int)) (x4 : Int) (x5 : Int) (x6 : Int) (kb_ : Int → Option ρ) (k1_ : Int → Option ρ) (k2_ : Option ρ) : Option ρ :=
  if decide (x6 < x5) then (ix (L x3) x6).bind fun x7 => if decide (x4 = x7) then k1_ x6 else kb_ (w64 (x6 + 1)) else k2_
def slices_Index_s_int_int_l0 (x3 : Option (List Int)) (x4 : Int) (x5 : Int) (z : Int) : Option (Int ⊕ (Int ⊕ Unit)) :=
  slices_Index_s_int_int_b0 x3 x4 x5 z (fun x6 => some (.inl x6)) (fun y8 => some (.inr (.inl y8))) (some (.inr (.inr ())))
def slices_Index_s_int_int (a1 : Option (List Int)) (a2 : Int) : Option Int :=
  (iter (slices_Index_s_int_int_l0 a1 a2 ((L a1).length : Int)) 0).bind fun | .inl x9 => some x9 | .inr _ => some (-1)
/- slices.Contains[[]int,int] -/
def slices_Contains_s_int_int (a1 : Option (List Int)) (a2 : Int) : Option Bool :=
  (slices_Index_s_int_int a1 a2).bind fun x3 => some (decide (x3 ≥ 0))
/- pouch/prop.For -/
def prop_For (a1 : UInt8) (a2 : Int) : Option Bool :=
  (prop_rowOf a1).bind fun x3 => (slices_Contains_s_int_int x3.kinds a2).bind fun x4 => some x4
/- unicode/utf8.ValidString -/
/- strings.Contains -/
/- pouch/text.Right -/
def text_Right (a1 : List UInt8) : Option Bool :=
  if decide ((a1.length : Int) ≤ 65535) then (utf8_ValidString a1).bind fun x2 => if x2 then (strings_Contains a1 [0]).bind fun x3 => some (!x3) else some false else some false
/- pouch/prop.Right -/
def prop_Right_c0 {ρ : Type} (x2 : Bool) (x3 : Bool) (x4 : prop_Prop) (k1_ : Bool → Option ρ) : Option ρ :=
  (prop_Type x4.Id).bind fun x5 => if decide (x5 = 1) then if decide (x4.N < (256 : UInt32)) then k1_ x2 else k1_ false else if decide (x5 = 2) then if decide (x4.N < (65536 : UInt32)) then k1_ x2 else k1_ false else if decide (x5 = 3) then k1_ x2 else if decide (x5 = 4) then if decide (x4.N ≤ (268435455 : UInt32)) then k1_ x2 else k1_ false else if decide (x5 = 5) then if x3 then (text_Right x4.A).bind fun x6 => if x6 then k1_ (decide (x4.B = [])) else k1_ false else k1_ false else if decide (x5 = 6) then if x3 then if decide ((x4.A.length : Int) ≤ 65535) then k1_ (decide (x4.B = [])) else k1_ false else k1_ false else if decide (x5 = 7) then if x3 then (text_Right x4.A).bind fun x7 => if x7 then (text_Right x4.B).bind fun x8 => k1_ x8 else k1_ false else k1_ false else k1_ false
def prop_Right (a1 : prop_Prop) : Option Bool :=
  if decide (a1.A = []) then prop_Right_c0 (decide (a1.B = [])) (decide (a1.N = (0 : UInt32))) a1 (fun x10 => some x10) else prop_Right_c0 false (decide (a1.N = (0 : UInt32))) a1 (fun x11 => some x11)
/- strings.ContainsAny -/
/- pouch/topic.Wild -/
def topic_Wild (a1 : List UInt8) : Option Bool :=
  (strings_ContainsAny a1 [43, 35]).bind fun x2 => some x2
/- pouch/topic.Name -/
def topic_Name (a1 : List UInt8) : Option Bool :=
  if !decide (a1 = []) then (text_Right a1).bind fun x2 => if x2 then (topic_Wild a1).bind fun x3 => some (!x3) else some false else some false
/- pouch/prop.Value -/
def prop_Value_c0 {ρ : Type} (x4 : Bool) (x5 : prop_Prop) (k1_ : Bool → Option ρ) (k2_ : Option ρ) : Option ρ :=
  if x4 then k1_ (!decide (x5.N = (0 : UInt32))) else if decide (x5.Id = (8 : UInt8)) then (topic_Name x5.A).bind fun x6 => k1_ x6 else k2_
def prop_Value (a1 : prop_Prop) : Option Bool :=
  (prop_Right a1).bind fun x2 => if !x2 then some false else (prop_Type a1.Id).bind fun x3 => if decide (x3 = 1) then some (decide (a1.N ≤ (1 : UInt32))) else if decide (a1.Id = (11 : UInt8)) then prop_Value_c0 (decide (a1.Id = (11 : UInt8))) a1 (fun x8 => some x8) (some true) else if decide (a1.Id = (33 : UInt8)) then prop_Value_c0 (decide (a1.Id = (33 : UInt8))) a1 (fun x9 => some x9) (some true) else if decide (a1.Id = (35 : UInt8)) then prop_Value_c0 (decide (a1.Id = (35 : UInt8))) a1 (fun x10 => some x10) (some true) else prop_Value_c0 (decide (a1.Id = (39 : UInt8))) a1 (fun x11 => some x11) (some true)
/- pouch/prop.Often -/
def prop_Often (a1 : UInt8) (a2 : Int) : Option Bool :=
  (prop_For a1 a2).bind fun x3 => if x3 then if decide (a1 = (38 : UInt8)) then some true else if decide (a1 = (11 : UInt8)) then some (decide (a2 = 3)) else some false else some false
/- pouch/pouchlaw05.told -/
def l05_told : Option Bool :=
  (prop_Type (38 : UInt8)).bind fun x1 => if decide (x1 = 7) then (prop_For (35 : UInt8) 3).bind fun x2 => if x2 then (prop_For (35 : UInt8) 16).bind fun x3 => if !x3 then (prop_Value (⟨(33 : UInt8), (0 : UInt32), [], []⟩ : prop_Prop)).bind fun x4 => if !x4 then (prop_Value (⟨(33 : UInt8), (1 : UInt32), [], []⟩ : prop_Prop)).bind fun x5 => if x5 then (prop_Often (11 : UInt8) 3).bind fun x6 => if x6 then (prop_Often (11 : UInt8) 8).bind fun x7 => some (!x7) else some false else some false else some false else some false else some false else some false
/- pouch/pouchref05.Type -/
def r05_Type_c3 {ρ : Type} (x8 : UInt8) (x9 : Bool) (k1_ : Int → Option ρ) (k2_ : Option ρ) : Option ρ :=
  if x9 then k1_ 5 else if decide (x8 = (9 : UInt8)) then if decide (x8 = (9 : UInt8)) then k1_ 6 else if decide (x8 = (38 : UInt8)) then k1_ 7 else k2_ else if decide (x8 = (22 : UInt8)) then k1_ 6 else if decide (x8 = (38 : UInt8)) then k1_ 7 else k2_
def r05_Type_c2 {ρ : Type} (x6 : UInt8) (x7 : Bool) (k1_ : Int → Option ρ) (k2_ : Option ρ) : Option ρ :=
  if x7 then k1_ 3 else if decide (x6 = (11 : UInt8)) then k1_ 4 else if decide (x6 = (3 : UInt8)) then r05_Type_c3 x6 (decide (x6 = (3 : UInt8))) (fun x11 => k1_ x11) k2_ else if decide (x6 = (8 : UInt8)) then r05_Type_c3 x6 (decide (x6 = (8 : UInt8))) (fun x12 => k1_ x12) k2_ else if decide (x6 = (18 : UInt8)) then r05_Type_c3 x6 (decide (x6 = (18 : UInt8))) (fun x13 => k1_ x13) k2_ else if decide (x6 = (21 : UInt8)) then r05_Type_c3 x6 (decide (x6 = (21 : UInt8))) (fun x14 => k1_ x14) k2_ else if decide (x6 = (26 : UInt8)) then r05_Type_c3 x6 (decide (x6 = (26 : UInt8))) (fun x15 => k1_ x15) k2_ else if decide (x6 = (28 : UInt8)) then r05_Type_c3 x6 (decide (x6 = (28 : UInt8))) (fun x16 => k1_ x16) k2_ else r05_Type_c3 x6 (decide (x6 = (31 : UInt8))) (fun x17 => k1_ x17) k2_
def r05_Type_c1 {ρ : Type} (x4 : UInt8) (x5 : Bool) (k1_ : Int → Option ρ) (k2_ : Option ρ) : Option ρ :=
  if x5 then k1_ 2 else if decide (x4 = (2 : UInt8)) then r05_Type_c2 x4 (decide (x4 = (2 : UInt8))) (fun x19 => k1_ x19) k2_ else if decide (x4 = (17 : UInt8)) then r05_Type_c2 x4 (decide (x4 = (17 : UInt8))) (fun x20 => k1_ x20) k2_ else if decide (x4 = (24 : UInt8)) then r05_Type_c2 x4 (decide (x4 = (24 : UInt8))) (fun x21 => k1_ x21) k2_ else r05_Type_c2 x4 (decide (x4 = (39 : UInt8))) (fun x22 => k1_ x22) k2_
def r05_Type_c0 {ρ : Type} (x2 : UInt8) (x3 : Bool) (k1_ : Int → Option ρ) (k2_ : Option ρ) : Option ρ :=
  if x3 then k1_ 1 else if decide (x2 = (19 : UInt8)) then r05_Type_c1 x2 (decide (x2 = (19 : UInt8))) (fun x24 => k1_ x24) k2_ else if decide (x2 = (33 : UInt8)) then r05_Type_c1 x2 (decide (x2 = (33 : UInt8))) (fun x25 => k1_ x25) k2_ else if decide (x2 = (34 : UInt8)) then r05_Type_c1 x2 (decide (x2 = (34 : UInt8))) (fun x26 => k1_ x26) k2_ else r05_Type_c1 x2 (decide (x2 = (35 : UInt8))) (fun x27 => k1_ x27) k2_
def r05_Type (a1 : UInt8) : Option Int :=
  if decide (a1 = (1 : UInt8)) then r05_Type_c0 a1 (decide (a1 = (1 : UInt8))) (fun x29 => some x29) (some 0) else if decide (a1 = (23 : UInt8)) then r05_Type_c0 a1 (decide (a1 = (23 : UInt8))) (fun x30 => some x30) (some 0) else if decide (a1 = (25 : UInt8)) then r05_Type_c0 a1 (decide (a1 = (25 : UInt8))) (fun x31 => some x31) (some 0) else if decide (a1 = (36 : UInt8)) then r05_Type_c0 a1 (decide (a1 = (36 : UInt8))) (fun x32 => some x32) (some 0) else if decide (a1 = (37 : UInt8)) then r05_Type_c0 a1 (decide (a1 = (37 : UInt8))) (fun x33 => some x33) (some 0) else if decide (a1 = (40 : UInt8)) then r05_Type_c0 a1 (decide (a1 = (40 : UInt8))) (fun x34 => some x34) (some 0) else if decide (a1 = (41 : UInt8)) then r05_Type_c0 a1 (decide (a1 = (41 : UInt8))) (fun x35 => some x35) (some 0) else r05_Type_c0 a1 (decide (a1 = (42 : UInt8))) (fun x36 => some x36) (some 0)
/- pouch/pouchref05.kinds -/
def r05_kinds_c4 {ρ : Type} (x10 : UInt8) (x11 : Bool) (k1_ : (Option (List Int)) → Option ρ) (k2_ : Option ρ) : Option ρ :=
  if x11 then k1_ (some [1, 2]) else if decide (x10 = (35 : UInt8)) then k1_ (some [3]) else if decide (x10 = (38 : UInt8)) then k1_ (some [1, 2, 3, 4, 5, 6, 7, 8, 9, 10, 11, 14, 15, 16]) else k2_
def r05_kinds_c3 {ρ : Type} (x8 : UInt8) (x9 : Bool) (k1_ : (Option (List Int)) → Option ρ) (k2_ : Option ρ) : Option ρ :=
  if x9 then k1_ (some [1]) else if decide (x8 = (24 : UInt8)) then k1_ (some [16]) else if decide (x8 = (28 : UInt8)) then k1_ (some [2, 14]) else if decide (x8 = (31 : UInt8)) then k1_ (some [2, 4, 5, 6, 7, 9, 11, 14, 15]) else if decide (x8 = (33 : UInt8)) then r05_kinds_c4 x8 (decide (x8 = (33 : UInt8))) (fun x13 => k1_ x13) k2_ else if decide (x8 = (34 : UInt8)) then r05_kinds_c4 x8 (decide (x8 = (34 : UInt8))) (fun x14 => k1_ x14) k2_ else r05_kinds_c4 x8 (decide (x8 = (39 : UInt8))) (fun x15 => k1_ x15) k2_
def r05_kinds_c2 {ρ : Type} (x6 : UInt8) (x7 : Bool) (k1_ : (Option (List Int)) → Option ρ) (k2_ : Option ρ) : Option ρ :=
  if x7 then k1_ (some [1, 2, 15]) else if decide (x6 = (23 : UInt8)) then r05_kinds_c3 x6 (decide (x6 = (23 : UInt8))) (fun x17 => k1_ x17) k2_ else r05_kinds_c3 x6 (decide (x6 = (25 : UInt8))) (fun x18 => k1_ x18) k2_
def r05_kinds_c1 {ρ : Type} (x4 : UInt8) (x5 : Bool) (k1_ : (Option (List Int)) → Option ρ) (k2_ : Option ρ) : Option ρ :=
  if x5 then k1_ (some [2]) else if decide (x4 = (21 : UInt8)) then r05_kinds_c2 x4 (decide (x4 = (21 : UInt8))) (fun x20 => k1_ x20) k2_ else r05_kinds_c2 x4 (decide (x4 = (22 : UInt8))) (fun x21 => k1_ x21) k2_
def r05_kinds_c0 {ρ : Type} (x2 : UInt8) (x3 : Bool) (k1_ : (Option (List Int)) → Option ρ) (k2_ : Option ρ) : Option ρ :=
  if x3 then k1_ (some [3, 16]) else if decide (x2 = (11 : UInt8)) then k1_ (some [3, 8]) else if decide (x2 = (17 : UInt8)) then k1_ (some [1, 2, 14]) else if decide (x2 = (18 : UInt8)) then r05_kinds_c1 x2 (decide (x2 = (18 : UInt8))) (fun x23 => k1_ x23) k2_ else if decide (x2 = (19 : UInt8)) then r05_kinds_c1 x2 (decide (x2 = (19 : UInt8))) (fun x24 => k1_ x24) k2_ else if decide (x2 = (26 : UInt8)) then r05_kinds_c1 x2 (decide (x2 = (26 : UInt8))) (fun x25 => k1_ x25) k2_ else if decide (x2 = (36 : UInt8)) then r05_kinds_c1 x2 (decide (x2 = (36 : UInt8))) (fun x26 => k1_ x26) k2_ else if decide (x2 = (37 : UInt8)) then r05_kinds_c1 x2 (decide (x2 = (37 : UInt8))) (fun x27 => k1_ x27) k2_ else if decide (x2 = (40 : UInt8)) then r05_kinds_c1 x2 (decide (x2 = (40 : UInt8))) (fun x28 => k1_ x28) k2_ else if decide (x2 = (41 : UInt8)) then r05_kinds_c1 x2 (decide (x2 = (41 : UInt8))) (fun x29 => k1_ x29) k2_ else r05_kinds_c1 x2 (decide (x2 = (42 : UInt8))) (fun x30 => k1_ x30) k2_
def r05_kinds (a1 : UInt8) : Option (Option (List Int)) :=
  if decide (a1 = (1 : UInt8)) then r05_kinds_c0 a1 (decide (a1 = (1 : UInt8))) (fun x32 => some x32) (some none) else if decide (a1 = (2 : UInt8)) then r05_kinds_c0 a1 (decide (a1 = (2 : UInt8))) (fun x33 => some x33) (some none) else if decide (a1 = (3 : UInt8)) then r05_kinds_c0 a1 (decide (a1 = (3 : UInt8))) (fun x34 => some x34) (some none) else if decide (a1 = (8 : UInt8)) then r05_kinds_c0 a1 (decide (a1 = (8 : UInt8))) (fun x35 => some x35) (some none) else r05_kinds_c0 a1 (decide (a1 = (9 : UInt8))) (fun x36 => some x36) (some none)
/- pouch/pouchref05.For -/
def r05_For_b0 {ρ : Type} (x4 : Int) (x5 : Option (List Int)) (x6 : Int) (kb_ : Int → Option ρ) (k1_ : Option ρ) (k2_ : Option ρ) : Option ρ :=
  if decide (x6 < ((L x5).length : Int)) then (ix (L x5) x6).bind fun x7 => if decide (x7 = x4) then k1_ else kb_ (w64 (x6 + 1)) else k2_
def r05_For_l0 (x4 : Int) (x5 : Option (List Int)) (z : Int) : Option (Int ⊕ (Unit ⊕ Unit)) :=
  r05_For_b0 x4 x5 z (fun x6 => some (.inl x6)) (some (.inr (.inl ()))) (some (.inr (.inr ())))
def r05_For (a1 : UInt8) (a2 : Int) : Option Bool :=
  (r05_kinds a1).bind fun x3 => (iter (r05_For_l0 a2 x3) 0).bind fun | .inl _ => some true | .inr _ => some false
/- pouch/pouchref05.Often -/
def r05_Often (a1 : UInt8) (a2 : Int) : Option Bool :=
  (r05_For a1 a2).bind fun x3 => if x3 then if decide (a1 = (38 : UInt8)) then some true else if decide (a1 = (11 : UInt8)) then some (decide (a2 = 3)) else some false else some false
/- pouch/pouchlaw05.PropTypes -/
def l05_PropTypes (a1 : UInt8) (a2 : Int) : Option Bool :=
  (l05_told).bind fun x3 => if x3 then (prop_Type a1).bind fun x4 => (r05_Type a1).bind fun x5 => if decide (x4 = x5) then (prop_For a1 a2).bind fun x6 => (r05_For a1 a2).bind fun x7 => if x6 == x7 then (prop_Often a1 a2).bind fun x8 => (r05_Often a1 a2).bind fun x9 => some (x8 == x9) else some false else some false else some false
/- pouch/pouchlaw05.To -/
def l05_To (a1 : r05_Prop) : Option prop_Prop :=
  some (⟨a1.Id, a1.N, a1.A, a1.B⟩ : prop_Prop)
/- pouch/pouchref02.sign -/
def r02_sign_b1 {ρ : Type} (x10 : List UInt8) (x11 : Int) (x12 : Int) (x13 : Int) (x15 : Int) (kb_ : Int → Int → Option ρ) (k1_ : Option ρ) (k2_ : Int → Option ρ) : Option ρ :=
  if decide (x15 < x12) then (ix x10 (w64 (x11 + x15))).bind fun x16 => if decide ((w64 (x16.toNat : Int)) < 128) then k1_ else if decide ((w64 (x16.toNat : Int)) ≥ 192) then k1_ else kb_ (w64 ((w64 ((w64 (64 * x13)) + (w64 (x16.toNat : Int)))) - 128)) (w64 (x15 + 1)) else k2_ x13
def r02_sign_l1 (x10 : List UInt8) (x11 : Int) (x12 : Int) (z : Int × Int) : Option ((Int × Int) ⊕ (Unit ⊕ Int)) :=
  r02_sign_b1 x10 x11 x12 z.1 z.2 (fun x13 x15 => some (.inl (x13, x15))) (some (.inr (.inl ()))) (fun y17 => some (.inr (.inr y17)))
def r02_sign_c0 {ρ : Type} (x4 : List UInt8) (x5 : Int) (x6 : Int) (x7 : Int) (x8 : Int) (x9 : Int) (k1_ : Int → Int → Option ρ) : Option ρ :=
  if decide (x6 ≥ 248) then k1_ 0 0 else if decide ((w64 (x5 + x7)) > (x4.length : Int)) then k1_ 0 0 else (iter (r02_sign_l1 x4 x5 x7) (x8, 1)).bind fun | .inl _ => k1_ 0 0 | .inr x18 => if decide (x18 < x9) then k1_ 0 0 else if decide (x18 > 1114111) then k1_ 0 0 else if decide (x18 ≥ 55296) then if decide (x18 ≤ 57343) then k1_ 0 0 else k1_ x18 x7 else k1_ x18 x7
def r02_sign (a1 : List UInt8) (a2 : Int) : Option (Int × Int) :=
  (ix a1 a2).bind fun x3 => if decide ((w64 (x3.toNat : Int)) ≥ 240) then r02_sign_c0 a1 a2 (w64 (x3.toNat : Int)) 4 (w64 ((w64 (x3.toNat : Int)) - 240)) 65536 (fun x21 x22 => some (x21, x22)) else if decide ((w64 (x3.toNat : Int)) ≥ 224) then r02_sign_c0 a1 a2 (w64 (x3.toNat : Int)) 3 (w64 ((w64 (x3.toNat : Int)) - 224)) 2048 (fun x23 x24 => some (x23, x24)) else if decide ((w64 (x3.toNat : Int)) ≥ 192) then r02_sign_c0 a1 a2 (w64 (x3.toNat : Int)) 2 (w64 ((w64 (x3.toNat : Int)) - 192)) 128 (fun x25 x26 => some (x25, x26)) else if decide ((w64 (x3.toNat : Int)) ≥ 128) then some (0, 0) else r02_sign_c0 a1 a2 (w64 (x3.toNat : Int)) 1 (w64 (x3.toNat : Int)) 1 (fun x27 x28 => some (x27, x28))
/- pouch/pouchref02.Runes -/
def r02_Runes_b0 {ρ : Type} (x2 : List UInt8) (x3 : Int) (x4 : Int) (kb_ : Int → Int → Option ρ) (k1_ : Option ρ) (k2_ : Int → Option ρ) : Option ρ :=
  if decide (x4 < (x2.length : Int)) then (r02_sign x2 x4).bind fun (x5, x6) => if decide (x6 = 0) then k1_ else kb_ (w64 (x3 + 1)) (w64 (x4 + x6)) else k2_ x3
def r02_Runes_l0 (x2 : List UInt8) (z : Int × Int) : Option ((Int × Int) ⊕ (Unit ⊕ Int)) :=
  r02_Runes_b0 x2 z.1 z.2 (fun x3 x4 => some (.inl (x3, x4))) (some (.inr (.inl ()))) (fun y7 => some (.inr (.inr y7)))
def r02_Runes (a1 : List UInt8) : Option Int :=
  if decide ((a1.length : Int) > 65535) then some (-1) else (iter (r02_Runes_l0 a1) (0, 0)).bind fun | .inl _ => some (-1) | .inr x8 => some x8
/- pouch/pouchref02.Right -/
def r02_Right (a1 : List UInt8) : Option Bool :=
  (r02_Runes a1).bind fun x2 => some (decide (x2 ≥ 0))
/- pouch/pouchref05.Right -/
def r05_Right_c0 {ρ : Type} (x2 : Bool) (x3 : r05_Prop) (k1_ : Bool → Option ρ) : Option ρ :=
  (r05_Type x3.Id).bind fun x4 => if decide (x4 = 1) then if decide (x3.N < (256 : UInt32)) then k1_ x2 else k1_ false else if decide (x4 = 2) then if decide (x3.N < (65536 : UInt32)) then k1_ x2 else k1_ false else if decide (x4 = 3) then k1_ x2 else if decide (x4 = 4) then if decide (x3.N < (268435456 : UInt32)) then k1_ x2 else k1_ false else if decide (x4 = 5) then if decide (x3.N = (0 : UInt32)) then (r02_Right x3.A).bind fun x5 => if x5 then k1_ (decide (x3.B = [])) else k1_ false else k1_ false else if decide (x4 = 6) then if decide (x3.N = (0 : UInt32)) then if decide ((x3.A.length : Int) ≤ 65535) then k1_ (decide (x3.B = [])) else k1_ false else k1_ false else if decide (x4 = 7) then if decide (x3.N = (0 : UInt32)) then (r02_Right x3.A).bind fun x6 => if x6 then (r02_Right x3.B).bind fun x7 => k1_ x7 else k1_ false else k1_ false else k1_ false
def r05_Right (a1 : r05_Prop) : Option Bool :=
  if decide (a1.A = []) then r05_Right_c0 (decide (a1.B = [])) a1 (fun x9 => some x9) else r05_Right_c0 false a1 (fun x10 => some x10)
/- pouch/pouchref04.has -/
def r04_has_b0 {ρ : Type} (x3 : List UInt8) (x4 : UInt8) (x5 : Int) (kb_ : Int → Option ρ) (k1_ : Option ρ) (k2_ : Option ρ) : Option ρ :=
  if decide (x5 < (x3.length : Int)) then (ix x3 x5).bind fun x6 => if decide (x6 = x4) then k1_ else kb_ (w64 (x5 + 1)) else k2_
def r04_has_l0 (x3 : List UInt8) (x4 : UInt8) (z : Int) : Option (Int ⊕ (Unit ⊕ Unit)) :=
  r04_has_b0 x3 x4 z (fun x5 => some (.inl x5)) (some (.inr (.inl ()))) (some (.inr (.inr ())))
def r04_has (a1 : List UInt8) (a2 : UInt8) : Option Bool :=
  (iter (r04_has_l0 a1 a2) 0).bind fun | .inl _ => some true | .inr _ => some false
/- pouch/pouchref04.Wild -/
def r04_Wild (a1 : List UInt8) : Option Bool :=
  (r04_has a1 (43 : UInt8)).bind fun x2 => if x2 then some true else (r04_has a1 (35 : UInt8)).bind fun x3 => some x3
/- pouch/pouchref04.Name -/
def r04_Name (a1 : List UInt8) : Option Bool :=
  (r02_Right a1).bind fun x2 => if x2 then if decide ((a1.length : Int) > 0) then (r04_Wild a1).bind fun x3 => some (!x3) else some false else some false
/- pouch/pouchref05.Value -/
def r05_Value_c1 {ρ : Type} (x6 : UInt8) (x7 : Bool) (x8 : r05_Prop) (k1_ : Bool → Option ρ) (k2_ : Option ρ) : Option ρ :=
  if x7 then k1_ (!decide (x8.N = (0 : UInt32))) else if decide (x6 = (8 : UInt8)) then (r04_Name x8.A).bind fun x9 => k1_ x9 else k2_
def r05_Value_c0 {ρ : Type} (x3 : UInt8) (x4 : Bool) (x5 : r05_Prop) (k1_ : Bool → Option ρ) (k2_ : Option ρ) : Option ρ :=
  if x4 then k1_ (decide (x5.N < (2 : UInt32))) else if decide (x3 = (11 : UInt8)) then r05_Value_c1 x3 (decide (x3 = (11 : UInt8))) x5 (fun x11 => k1_ x11) k2_ else if decide (x3 = (33 : UInt8)) then r05_Value_c1 x3 (decide (x3 = (33 : UInt8))) x5 (fun x12 => k1_ x12) k2_ else if decide (x3 = (35 : UInt8)) then r05_Value_c1 x3 (decide (x3 = (35 : UInt8))) x5 (fun x13 => k1_ x13) k2_ else r05_Value_c1 x3 (decide (x3 = (39 : UInt8))) x5 (fun x14 => k1_ x14) k2_
def r05_Value (a1 : r05_Prop) : Option Bool :=
  (r05_Right a1).bind fun x2 => if !x2 then some false else if decide (a1.Id = (1 : UInt8)) then r05_Value_c0 a1.Id (decide (a1.Id = (1 : UInt8))) a1 (fun x16 => some x16) (some true) else if decide (a1.Id = (23 : UInt8)) then r05_Value_c0 a1.Id (decide (a1.Id = (23 : UInt8))) a1 (fun x17 => some x17) (some true) else if decide (a1.Id = (25 : UInt8)) then r05_Value_c0 a1.Id (decide (a1.Id = (25 : UInt8))) a1 (fun x18 => some x18) (some true) else if decide (a1.Id = (36 : UInt8)) then r05_Value_c0 a1.Id (decide (a1.Id = (36 : UInt8))) a1 (fun x19 => some x19) (some true) else if decide (a1.Id = (37 : UInt8)) then r05_Value_c0 a1.Id (decide (a1.Id = (37 : UInt8))) a1 (fun x20 => some x20) (some true) else if decide (a1.Id = (40 : UInt8)) then r05_Value_c0 a1.Id (decide (a1.Id = (40 : UInt8))) a1 (fun x21 => some x21) (some true) else if decide (a1.Id = (41 : UInt8)) then r05_Value_c0 a1.Id (decide (a1.Id = (41 : UInt8))) a1 (fun x22 => some x22) (some true) else r05_Value_c0 a1.Id (decide (a1.Id = (42 : UInt8))) a1 (fun x23 => some x23) (some true)
/- pouch/pouchlaw05.PropValues -/
def l05_PropValues_c0 {ρ : Type} (x2 : Bool) (k1_ : Bool → Option ρ) (k2_ : Option ρ) : Option ρ :=
  if x2 then (l05_told).bind fun x4 => k1_ x4 else k2_
def l05_PropValues_c1 {ρ : Type} (x8 : r05_Prop) (k1_ : Bool → Option ρ) : Option ρ :=
  (l05_told).bind fun x9 => if x9 then (l05_To (⟨x8.Id, x8.N, x8.A, x8.B⟩ : r05_Prop)).bind fun x10 => (prop_Right (⟨x10.Id, x10.N, x10.A, x10.B⟩ : prop_Prop)).bind fun x11 => (r05_Right (⟨x8.Id, x8.N, x8.A, x8.B⟩ : r05_Prop)).bind fun x12 => if x11 == x12 then (l05_To (⟨x8.Id, x8.N, x8.A, x8.B⟩ : r05_Prop)).bind fun x13 => (prop_Value (⟨x13.Id, x13.N, x13.A, x13.B⟩ : prop_Prop)).bind fun x14 => (r05_Value x8).bind fun x15 => k1_ (x14 == x15) else k1_ false else k1_ false
def l05_PropValues (a1 : r05_Prop) : Option Bool :=
  if decide ((a1.A.length : Int) > 300) then l05_PropValues_c0 true (fun x6 => some x6) (l05_PropValues_c1 a1 (fun x17 => some x17)) else l05_PropValues_c0 (decide ((a1.B.length : Int) > 300)) (fun x7 => some x7) (l05_PropValues_c1 a1 (fun x18 => some x18))
/- pouch/pouchref05.Ids -/
def r05_Ids : Option (Option (List UInt8)) :=
  some (some [(1 : UInt8), (2 : UInt8), (3 : UInt8), (8 : UInt8), (9 : UInt8), (11 : UInt8), (17 : UInt8), (18 : UInt8), (19 : UInt8), (21 : UInt8), (22 : UInt8), (23 : UInt8), (24 : UInt8), (25 : UInt8), (26 : UInt8), (28 : UInt8), (31 : UInt8), (33 : UInt8), (34 : UInt8), (35 : UInt8), (36 : UInt8), (37 : UInt8), (38 : UInt8), (39 : UInt8), (40 : UInt8), (41 : UInt8), (42 : UInt8)])
/- pouch/pouchref02.Fix -/
def r02_Fix_b0 {ρ : Type} (x2 : List UInt8) (x3 : Option (List (List UInt8))) (x4 : List UInt8) (x5 : Int) (kb_ : (List UInt8) → Int → Option ρ) (k1_ : (List UInt8) → Option ρ) : Option ρ :=
  if decide (x5 < (x2.length : Int)) then if decide (x5 < 8) then (ix x2 x5).bind fun x6 => (chk (decide (((L x3).length : Int) ≠ 0))).bind fun _ => (ix (L x3) ((w64 (x6.toNat : Int)).tmod ((L x3).length : Int))).bind fun x7 => (catS x4 x7).bind fun x8 => kb_ x8 (w64 (x5 + 1)) else k1_ x4 else k1_ x4
def r02_Fix_l0 (x2 : List UInt8) (x3 : Option (List (List UInt8))) (z : (List UInt8) × Int) : Option (((List UInt8) × Int) ⊕ (List UInt8)) :=
  r02_Fix_b0 x2 x3 z.1 z.2 (fun x4 x5 => some (.inl (x4, x5))) (fun y9 => some (.inr y9))
def r02_Fix (a1 : List UInt8) : Option (List UInt8) :=
  (iter (r02_Fix_l0 a1 (some [[97], [98], [97, 98], [195, 164], [226, 130, 172], [240, 159, 153, 130], [49], [99]])) ([], 0)).bind fun x10 => some x10
/- pouch/pouchref04.Fix -/
def r04_Fix_b0 {ρ : Type} (x2 : List UInt8) (x3 : Option (List (List UInt8))) (x4 : List UInt8) (x5 : Int) (kb_ : (List UInt8) → Int → Option ρ) (k1_ : (List UInt8) → Option ρ) : Option ρ :=
  if decide (x5 < (x2.length : Int)) then if decide (x5 < 8) then (ix x2 x5).bind fun x6 => (chk (decide (((L x3).length : Int) ≠ 0))).bind fun _ => (ix (L x3) ((w64 (x6.toNat : Int)).tmod ((L x3).length : Int))).bind fun x7 => (catS x4 x7).bind fun x8 => kb_ x8 (w64 (x5 + 1)) else k1_ x4 else k1_ x4
def r04_Fix_l0 (x2 : List UInt8) (x3 : Option (List (List UInt8))) (z : (List UInt8) × Int) : Option (((List UInt8) × Int) ⊕ (List UInt8)) :=
  r04_Fix_b0 x2 x3 z.1 z.2 (fun x4 x5 => some (.inl (x4, x5))) (fun y9 => some (.inr y9))
def r04_Fix (a1 : List UInt8) : Option (List UInt8) :=
  (iter (r04_Fix_l0 a1 (some [[97], [98], [47], [99], [100], [47], [195, 164], [101]])) ([], 0)).bind fun x10 => if decide (x10 = []) then some [97] else some x10
/- pouch/pouchref05.Fix -/
def r05_Fix_b0 {ρ : Type} (x4 : Int) (x6 : Option (List UInt8)) (x5 : Option (List UInt8)) (x7 : Int) (kb_ : (Option (List UInt8)) → Int → Option ρ) (k1_ : (Option (List UInt8)) → Option ρ) : Option ρ :=
  if decide (x7 < ((L x6).length : Int)) then (ix (L x6) x7).bind fun x10 => (r05_For x10 x4).bind fun x11 => if x11 then (ix (L x6) x7).bind fun x12 => (appO 1 x5 (some [x12])).bind fun x13 => kb_ x13 (w64 (x7 + 1)) else kb_ x5 (w64 (x7 + 1)) else k1_ x5
def r05_Fix_l0 (x4 : Int) (x6 : Option (List UInt8)) (z : (Option (List UInt8)) × Int) : Option (((Option (List UInt8)) × Int) ⊕ (Option (List UInt8))) :=
  r05_Fix_b0 x4 x6 z.1 z.2 (fun x5 x7 => some (.inl (x5, x7))) (fun y14 => some (.inr y14))
def r05_Fix (a1 : r05_Prop) (a2 : Int) : Option r05_Prop :=
  (r05_Ids).bind fun x3 => (iter (r05_Fix_l0 a2 x3) (none, 0)).bind fun x15 => if decide (((L x15).length : Int) = 0) then some (⟨(0 : UInt8), (0 : UInt32), [], []⟩ : r05_Prop) else (chk (decide (((L x15).length : Int) ≠ 0))).bind fun _ => (ix (L x15) ((w64 (a1.Id.toNat : Int)).tmod ((L x15).length : Int))).bind fun x16 => (r05_Type x16).bind fun x17 => if decide (x17 = 1) then (chk (decide ((2 : UInt32) ≠ 0))).bind fun _ => some (⟨x16, a1.N % (2 : UInt32), [], []⟩ : r05_Prop) else if decide (x17 = 2) then (chk (decide ((65535 : UInt32) ≠ 0))).bind fun _ => some (⟨x16, (1 : UInt32) + (a1.N % (65535 : UInt32)), [], []⟩ : r05_Prop) else if decide (x17 = 3) then if decide (x16 = (39 : UInt8)) then if decide (a1.N = (0 : UInt32)) then some (⟨x16, (7 : UInt32), [], []⟩ : r05_Prop) else some (⟨x16, a1.N, [], []⟩ : r05_Prop) else some (⟨x16, a1.N, [], []⟩ : r05_Prop) else if decide (x17 = 4) then (chk (decide ((268435455 : UInt32) ≠ 0))).bind fun _ => some (⟨x16, (1 : UInt32) + (a1.N % (268435455 : UInt32)), [], []⟩ : r05_Prop) else if decide (x17 = 5) then (r02_Fix a1.A).bind fun x18 => if decide (x16 = (8 : UInt8)) then (r04_Fix a1.A).bind fun x19 => some (⟨x16, (0 : UInt32), x19, []⟩ : r05_Prop) else some (⟨x16, (0 : UInt32), x18, []⟩ : r05_Prop) else if decide (x17 = 6) then (slc a1.A 0 (imin (a1.A.length : Int) 9)).bind fun x20 => some (⟨x16, (0 : UInt32), x20, []⟩ : r05_Prop) else if decide (x17 = 7) then (r02_Fix a1.A).bind fun x21 => (r02_Fix a1.B).bind fun x22 => some (⟨x16, (0 : UInt32), x21, x22⟩ : r05_Prop) else some (⟨x16, (0 : UInt32), [], []⟩ : r05_Prop)
/- pouch/pouchlaw05.From -/
def l05_From (a1 : prop_Prop) : Option r05_Prop :=
  some (⟨a1.Id, a1.N, a1.A, a1.B⟩ : r05_Prop)
/- pouch/pouchlaw05.PropFixes -/
def l05_PropFixes (a1 : r05_Prop) (a2 : Int) : Option Bool :=
  (chk (decide ((16 : UInt64) ≠ 0))).bind fun _ => (r05_Fix a1 (w64 (1 + (w64 (((u64 a2) % (16 : UInt64)).toNat : Int))))).bind fun x3 => (l05_To (⟨x3.Id, x3.N, x3.A, x3.B⟩ : r05_Prop)).bind fun x4 => (l05_told).bind fun x5 => if x5 then if decide ((w64 (1 + (w64 (((u64 a2) % (16 : UInt64)).toNat : Int)))) = 12) then if (decide (x4.Id = (0 : UInt8))) == true then if decide (x4.Id = (0 : UInt8)) then some true else (prop_Value (⟨x4.Id, x4.N, x4.A, x4.B⟩ : prop_Prop)).bind fun x6 => if x6 then (prop_For x4.Id (w64 (1 + (w64 (((u64 a2) % (16 : UInt64)).toNat : Int))))).bind fun x7 => if x7 then (l05_From (⟨x4.Id, x4.N, x4.A, x4.B⟩ : prop_Prop)).bind fun x8 => (r05_Fix a1 (w64 (1 + (w64 (((u64 a2) % (16 : UInt64)).toNat : Int))))).bind fun x9 => some ((decide (x8.Id = x9.Id)) && ((decide (x8.N = x9.N)) && ((decide (x8.A = x9.A)) && (decide (x8.B = x9.B))))) else some false else some false else some false else if (decide (x4.Id = (0 : UInt8))) == (decide ((w64 (1 + (w64 (((u64 a2) % (16 : UInt64)).toNat : Int)))) = 13)) then if decide (x4.Id = (0 : UInt8)) then some true else (prop_Value (⟨x4.Id, x4.N, x4.A, x4.B⟩ : prop_Prop)).bind fun x10 => if x10 then (prop_For x4.Id (w64 (1 + (w64 (((u64 a2) % (16 : UInt64)).toNat : Int))))).bind fun x11 => if x11 then (l05_From (⟨x4.Id, x4.N, x4.A, x4.B⟩ : prop_Prop)).bind fun x12 => (r05_Fix a1 (w64 (1 + (w64 (((u64 a2) % (16 : UInt64)).toNat : Int))))).bind fun x13 => some ((decide (x12.Id = x13.Id)) && ((decide (x12.N = x13.N)) && ((decide (x12.A = x13.A)) && (decide (x12.B = x13.B))))) else some false else some false else some false else some false
/- internal/stringslite.HasPrefix -/
def internal_stringslite_HasPrefix (a1 : List UInt8) (a2 : List UInt8) : Option Bool :=
  if decide ((a1.length : Int) ≥ (a2.length : Int)) then (slc a1 0 (a2.length : Int)).bind fun x3 => some (decide (x3 = a2)) else some false
/- internal/stringslite.CutPrefix -/
def internal_stringslite_CutPrefix (a1 : List UInt8) (a2 : List UInt8) : Option ((List UInt8) × Bool) :=
  (internal_stringslite_HasPrefix a1 a2).bind fun x3 => if !x3 then some (a1, false) else (slc a1 (a2.length : Int) (a1.length : Int)).bind fun x4 => some (x4, true)
/- strings.CutPrefix -/
def strings_CutPrefix (a1 : List UInt8) (a2 : List UInt8) : Option ((List UInt8) × Bool) :=
  (internal_stringslite_CutPrefix a1 a2).bind fun (x3, x4) => some (x3, x4)
/- strings.Split -/
/- pouch/topic.plain -/
def topic_plain_c1 {ρ : Type} (x9 : List UInt8) (x13 : Bool) (k1_ : Option ρ) (k2_ : Option ρ) : Option ρ :=
  if x13 then k1_ else (topic_Wild x9).bind fun x14 => if x14 then k2_ else k1_
def topic_plain_b0 {ρ : Type} (x3 : Option (List (List UInt8))) (x4 : Option (List (List UInt8))) (x5 : Int) (x6 : Int) (kb_ : Int → Option ρ) (k1_ : Option ρ) (k2_ : Option ρ) : Option ρ :=
  if decide (x6 < x5) then (ix (L x4) x6).bind fun x7 => if decide (x7 = [43]) then topic_plain_c1 x7 (decide (x7 = [43])) (kb_ (w64 (x6 + 1))) k1_ else if decide (x7 = [35]) then topic_plain_c1 x7 (decide (x6 = (w64 (((L x3).length : Int) - 1)))) (kb_ (w64 (x6 + 1))) k1_ else topic_plain_c1 x7 false (kb_ (w64 (x6 + 1))) k1_ else k2_
def topic_plain_l0 (x3 : Option (List (List UInt8))) (x4 : Option (List (List UInt8))) (x5 : Int) (z : Int) : Option (Int ⊕ (Unit ⊕ Unit)) :=
  topic_plain_b0 x3 x4 x5 z (fun x6 => some (.inl x6)) (some (.inr (.inl ()))) (some (.inr (.inr ())))
def topic_plain (a1 : List UInt8) : Option Bool :=
  if decide (a1 = []) then some false else (strings_Split a1 [47]).bind fun x2 => (iter (topic_plain_l0 x2 x2 ((L x2).length : Int)) 0).bind fun | .inl _ => some false | .inr _ => some true
/- strings.Cut -/
/- pouch/topic.Filter -/
def topic_Filter (a1 : List UInt8) : Option Bool :=
  (text_Right a1).bind fun x2 => if !x2 then some false else (strings_CutPrefix a1 [36, 115, 104, 97, 114, 101, 47]).bind fun (x3, x4) => if !x4 then (topic_plain a1).bind fun x5 => some x5 else (strings_Cut x3 [47]).bind fun (x6, x7, x8) => if x8 then if !decide (x6 = []) then (topic_Wild x6).bind fun x9 => if !x9 then (topic_plain x7).bind fun x10 => some x10 else some false else some false else some false
/- pouch/topic.Shared -/
def topic_Shared (a1 : List UInt8) : Option ((List UInt8) × (List UInt8) × Bool) :=
  (strings_CutPrefix a1 [36, 115, 104, 97, 114, 101, 47]).bind fun (x2, x3) => if !x3 then some ([], [], false) else (topic_Filter a1).bind fun x4 => if !x4 then some ([], [], false) else (strings_Cut x2 [47]).bind fun (x5, x6, x7) => some (x5, x6, x7)
/- pouch/pouchref04.share -/
def r04_share_b0 {ρ : Type} (x3 : List UInt8) (x4 : Int) (kb_ : Int → Option ρ) (k1_ : (List UInt8) → (List UInt8) → Int → Option ρ) (k2_ : Option ρ) : Option ρ :=
  if decide (x4 < (x3.length : Int)) then (ix x3 x4).bind fun x5 => if decide (x5 = (47 : UInt8)) then (slc x3 7 x4).bind fun x6 => (slc x3 (w64 (x4 + 1)) (x3.length : Int)).bind fun x7 => k1_ x6 x7 x4 else kb_ (w64 (x4 + 1)) else k2_
def r04_share_l0 (x3 : List UInt8) (z : Int) : Option (Int ⊕ (((List UInt8) × (List UInt8) × Int) ⊕ Unit)) :=
  r04_share_b0 x3 z (fun x4 => some (.inl x4)) (fun y8 y9 y10 => some (.inr (.inl (y8, y9, y10)))) (some (.inr (.inr ())))
def r04_share (a1 : List UInt8) : Option ((List UInt8) × (List UInt8) × Bool) :=
  if decide ((a1.length : Int) < 7) then some ([], [], false) else (slc a1 0 7).bind fun x2 => if !decide (x2 = [36, 115, 104, 97, 114, 101, 47]) then some ([], [], false) else (iter (r04_share_l0 a1) 7).bind fun | .inl (x11, x12, x13) => some (x11, x12, true) | .inr _ => some ([], [], true)
/- pouch/pouchref04.Levels -/
def r04_Levels_c1 {ρ : Type} (x7 : List UInt8) (x8 : Option (List (List UInt8))) (x9 : Int) (x10 : Int) (x11 : Bool) (k1_ : (Option (List (List UInt8))) → Int → Option ρ) : Option ρ :=
  if x11 then (slc x7 x9 x10).bind fun x12 => (appO 16 x8 (some [x12])).bind fun x13 => k1_ x13 (w64 (x10 + 1)) else k1_ x8 x9
def r04_Levels_b0 {ρ : Type} (x2 : List UInt8) (x3 : Option (List (List UInt8))) (x4 : Int) (x5 : Int) (kb_ : (Option (List (List UInt8))) → Int → Int → Option ρ) (k1_ : (Option (List (List UInt8))) → Option ρ) : Option ρ :=
  if decide (x5 ≤ (x2.length : Int)) then if decide (x5 = (x2.length : Int)) then r04_Levels_c1 x2 x3 x4 x5 true (fun x16 x17 => kb_ x16 x17 (w64 (x5 + 1))) else (ix x2 x5).bind fun x6 => r04_Levels_c1 x2 x3 x4 x5 (decide (x6 = (47 : UInt8))) (fun x18 x19 => kb_ x18 x19 (w64 (x5 + 1))) else k1_ x3
def r04_Levels_l0 (x2 : List UInt8) (z : (Option (List (List UInt8))) × Int × Int) : Option (((Option (List (List UInt8))) × Int × Int) ⊕ (Option (List (List UInt8)))) :=
  r04_Levels_b0 x2 z.1 z.2.1 z.2.2 (fun x3 x4 x5 => some (.inl (x3, x4, x5))) (fun y20 => some (.inr y20))
def r04_Levels (a1 : List UInt8) : Option (Option (List (List UInt8))) :=
  (iter (r04_Levels_l0 a1) (none, 0, 0)).bind fun x21 => some x21
/- pouch/pouchref04.plain -/
def r04_plain_b0 {ρ : Type} (x4 : Option (List (List UInt8))) (x5 : Int) (kb_ : Int → Option ρ) (k1_ : Option ρ) (k2_ : Option ρ) : Option ρ :=
  if decide (x5 < ((L x4).length : Int)) then (ix (L x4) x5).bind fun x6 => (r04_has x6 (43 : UInt8)).bind fun x7 => if x7 then (ix (L x4) x5).bind fun x8 => if !decide (x8 = [43]) then k1_ else (ix (L x4) x5).bind fun x9 => (r04_has x9 (35 : UInt8)).bind fun x10 => if x10 then (ix (L x4) x5).bind fun x11 => if !decide (x11 = [35]) then k1_ else if decide ((w64 (x5 + 1)) < ((L x4).length : Int)) then k1_ else kb_ (w64 (x5 + 1)) else kb_ (w64 (x5 + 1)) else (ix (L x4) x5).bind fun x12 => (r04_has x12 (35 : UInt8)).bind fun x13 => if x13 then (ix (L x4) x5).bind fun x14 => if !decide (x14 = [35]) then k1_ else if decide ((w64 (x5 + 1)) < ((L x4).length : Int)) then k1_ else kb_ (w64 (x5 + 1)) else kb_ (w64 (x5 + 1)) else k2_
def r04_plain_l0 (x4 : Option (List (List UInt8))) (z : Int) : Option (Int ⊕ (Unit ⊕ Unit)) :=
  r04_plain_b0 x4 z (fun x5 => some (.inl x5)) (some (.inr (.inl ()))) (some (.inr (.inr ())))
def r04_plain (a1 : List UInt8) : Option Bool :=
  (r04_Levels a1).bind fun x2 => (iter (r04_plain_l0 x2) 0).bind fun | .inl _ => some false | .inr _ => some (decide ((a1.length : Int) > 0))
/- pouch/pouchref04.Filter -/
def r04_Filter (a1 : List UInt8) : Option Bool :=
  (r02_Right a1).bind fun x2 => if !x2 then some false else (r04_share a1).bind fun (x3, x4, x5) => if x5 then if decide ((x3.length : Int) > 0) then (r04_Wild x3).bind fun x6 => if !x6 then (r04_plain x4).bind fun x7 => some x7 else some false else some false else (r04_plain a1).bind fun x8 => some x8
/- pouch/pouchref04.Shared -/
def r04_Shared (a1 : List UInt8) : Option ((List UInt8) × (List UInt8) × Bool) :=
  (r04_share a1).bind fun (x2, x3, x4) => if !x4 then some ([], [], false) else (r04_Filter a1).bind fun x5 => if !x5 then some ([], [], false) else some (x2, x3, true)
/- strings.HasPrefix -/
def strings_HasPrefix (a1 : List UInt8) (a2 : List UInt8) : Option Bool :=
  (internal_stringslite_HasPrefix a1 a2).bind fun x3 => some x3
/- pouch/topic.Match -/
def topic_Match_b2 {ρ : Type} (x18 : Option (List (List UInt8))) (x19 : Option (List (List UInt8))) (x20 : Int) (x21 : Int) (kb_ : Int → Option ρ) (k1_ : Bool → Option ρ) (k2_ : Option ρ) : Option ρ :=
  if decide (x21 < x20) then (ix (L x19) x21).bind fun x22 => if decide (x22 = [35]) then k1_ true else if decide (x21 ≥ ((L x18).length : Int)) then if decide (x21 ≥ ((L x18).length : Int)) then k1_ false else kb_ (w64 (x21 + 1)) else if !decide (x22 = [43]) then (ix (L x18) x21).bind fun x23 => if !decide (x22 = x23) then k1_ false else kb_ (w64 (x21 + 1)) else kb_ (w64 (x21 + 1)) else k2_
def topic_Match_l2 (x18 : Option (List (List UInt8))) (x19 : Option (List (List UInt8))) (x20 : Int) (z : Int) : Option (Int ⊕ (Bool ⊕ Unit)) :=
  topic_Match_b2 x18 x19 x20 z (fun x21 => some (.inl x21)) (fun y24 => some (.inr (.inl y24))) (some (.inr (.inr ())))
def topic_Match_c1 {ρ : Type} (x13 : List UInt8) (x14 : List UInt8) (k1_ : Bool → Option ρ) : Option ρ :=
  (strings_Split x13 [47]).bind fun x15 => (strings_Split x14 [47]).bind fun x16 => (iter (topic_Match_l2 x16 x15 ((L x15).length : Int)) 0).bind fun | .inl x25 => k1_ x25 | .inr _ => k1_ (decide (((L x15).length : Int) = ((L x16).length : Int)))
def topic_Match_c0 {ρ : Type} (x8 : List UInt8) (x9 : List UInt8) (k1_ : Bool → Option ρ) : Option ρ :=
  (strings_HasPrefix x9 [36]).bind fun x10 => if x10 then (slc x8 0 1).bind fun x11 => (topic_Wild x11).bind fun x12 => if x12 then k1_ false else topic_Match_c1 x8 x9 (fun x27 => k1_ x27) else topic_Match_c1 x8 x9 (fun x28 => k1_ x28)
def topic_Match (a1 : List UInt8) (a2 : List UInt8) : Option Bool :=
  (topic_Filter a1).bind fun x3 => if !x3 then some false else (topic_Name a2).bind fun x4 => if !x4 then some false else (topic_Shared a1).bind fun (x5, x6, x7) => if x7 then topic_Match_c0 x6 a2 (fun x30 => some x30) else topic_Match_c0 a1 a2 (fun x31 => some x31)
/- pouch/pouchlaw04.told -/
def l04_told : Option Bool :=
  (topic_Shared [36, 115, 104, 97, 114, 101, 47, 103, 47, 97, 47, 43]).bind fun (x1, x2, x3) => (topic_Match [97, 47, 43, 47, 99] [97, 47, 98, 47, 99]).bind fun x4 => if x4 then (topic_Match [97, 47, 43, 47, 99] [97, 47, 47, 99]).bind fun x5 => if x5 then (topic_Match [97, 47, 43, 47, 99] [97, 47, 98]).bind fun x6 => if !x6 then (topic_Match [97, 47, 35] [97]).bind fun x7 => if x7 then (topic_Match [35] [36, 120]).bind fun x8 => if !x8 then if decide (x1 = [103]) then if decide (x2 = [97, 47, 43]) then if x3 then (topic_Filter [97, 47, 35, 47, 98]).bind fun x9 => if !x9 then (topic_Filter [36, 115, 104, 97, 114, 101, 47, 103]).bind fun x10 => if !x10 then (topic_Name [97]).bind fun x11 => if x11 then (topic_Name [43]).bind fun x12 => some (!x12) else some false else some false else some false else some false else some false else some false else some false else some false else some false else some false else some false
/- pouch/pouchlaw04.TopicTells -/
def l04_TopicTells (a1 : List UInt8) : Option Bool :=
  (slc a1 0 (imin (a1.length : Int) 300)).bind fun x2 => (topic_Shared x2).bind fun (x3, x4, x5) => (r04_Shared x2).bind fun (x6, x7, x8) => (l04_told).bind fun x9 => if x9 then (topic_Name x2).bind fun x10 => (r04_Name x2).bind fun x11 => if x10 == x11 then (topic_Filter x2).bind fun x12 => (r04_Filter x2).bind fun x13 => if x12 == x13 then (topic_Wild x2).bind fun x14 => (r04_Wild x2).bind fun x15 => if x14 == x15 then if decide (x3 = x6) then if decide (x4 = x7) then some (x5 == x8) else some false else some false else some false else some false else some false else some false
/- pouch/pouchref04.Match -/
def r04_Match_b2 {ρ : Type} (x17 : Option (List (List UInt8))) (x18 : Option (List (List UInt8))) (x19 : Int) (kb_ : Int → Option ρ) (k1_ : Bool → Option ρ) (k2_ : Option ρ) : Option ρ :=
  if decide (x19 < ((L x17).length : Int)) then (ix (L x17) x19).bind fun x20 => if decide (x20 = [35]) then k1_ true else if decide (x19 ≥ ((L x18).length : Int)) then k1_ false else (ix (L x17) x19).bind fun x21 => if !decide (x21 = [43]) then (ix (L x17) x19).bind fun x22 => (ix (L x18) x19).bind fun x23 => if !decide (x22 = x23) then k1_ false else kb_ (w64 (x19 + 1)) else kb_ (w64 (x19 + 1)) else k2_
def r04_Match_l2 (x17 : Option (List (List UInt8))) (x18 : Option (List (List UInt8))) (z : Int) : Option (Int ⊕ (Bool ⊕ Unit)) :=
  r04_Match_b2 x17 x18 z (fun x19 => some (.inl x19)) (fun y24 => some (.inr (.inl y24))) (some (.inr (.inr ())))
def r04_Match_c1 {ρ : Type} (x15 : Option (List (List UInt8))) (x16 : Option (List (List UInt8))) (k1_ : Bool → Option ρ) : Option ρ :=
  (iter (r04_Match_l2 x15 x16) 0).bind fun | .inl x25 => k1_ x25 | .inr _ => k1_ (decide (((L x15).length : Int) = ((L x16).length : Int)))
def r04_Match_c0 {ρ : Type} (x8 : List UInt8) (x9 : List UInt8) (k1_ : Bool → Option ρ) : Option ρ :=
  (r04_Levels x8).bind fun x10 => (r04_Levels x9).bind fun x11 => (ix x9 0).bind fun x12 => if decide (x12 = (36 : UInt8)) then (ix x8 0).bind fun x13 => if decide (x13 = (43 : UInt8)) then k1_ false else (ix x8 0).bind fun x14 => if decide (x14 = (35 : UInt8)) then k1_ false else r04_Match_c1 x10 x11 (fun x27 => k1_ x27) else r04_Match_c1 x10 x11 (fun x28 => k1_ x28)
def r04_Match (a1 : List UInt8) (a2 : List UInt8) : Option Bool :=
  (r04_Filter a1).bind fun x3 => if !x3 then some false else (r04_Name a2).bind fun x4 => if !x4 then some false else (r04_share a1).bind fun (x5, x6, x7) => if x7 then r04_Match_c0 x6 a2 (fun x30 => some x30) else r04_Match_c0 a1 a2 (fun x31 => some x31)
/- pouch/pouchlaw04.TopicMatches -/
def l04_TopicMatches (a1 : List UInt8) (a2 : List UInt8) : Option Bool :=
  (slc a1 0 (imin (a1.length : Int) 200)).bind fun x3 => (slc a2 0 (imin (a2.length : Int) 200)).bind fun x4 => (l04_told).bind fun x5 => if x5 then (topic_Match x3 x4).bind fun x6 => (r04_Match x3 x4).bind fun x7 => some (x6 == x7) else some false
end Go.Rv
