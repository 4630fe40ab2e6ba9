/- The program's functions as plain functions. -/
import Derived.Test.YtaegbddjeibolaaDoorTys
set_option linter.unusedSimpArgs false
set_option linter.unusedVariables false
set_option maxRecDepth 100000
namespace Go.Rv
/- unicode/utf8.ValidString -/
/- strings.Contains -/
/- pouch/text.Right -/
def text_Right (a1 : List UInt8) : Option Bool :=
  if decide ((a1.length : Int) ≤ 65535) then (utf8_ValidString a1).bind fun x2 => if x2 then (strings_Contains a1 [0]).bind fun x3 => some (!x3) else some false else some false
/- unicode/utf8.RuneCountInString -/
/- pouch/text.Runes -/
def text_Runes (a1 : List UInt8) : Option Int :=
  (text_Right a1).bind fun x2 => if !x2 then some 0 else (utf8_RuneCountInString a1).bind fun x3 => some x3
/- pouch/pouchlaw02.told -/
def l02_told : Option Bool :=
  (text_Right [97, 195, 164]).bind fun x1 => if x1 then (text_Runes [97, 195, 164]).bind fun x2 => if decide (x2 = 2) then (text_Right [192, 128]).bind fun x3 => if !x3 then (text_Right [237, 160, 128]).bind fun x4 => if !x4 then (text_Right [244, 144, 128, 128]).bind fun x5 => if !x5 then (text_Right [0]).bind fun x6 => if !x6 then (text_Right []).bind fun x7 => some x7 else some false else some false else some false else some false else some false else some false
/- pouch/pouchref02.sign -/
def r02_sign_b1 {ρ : Type} (x10 : List UInt8) (x11 : Int) (x12 : Int) (x13 : Int) (x15 : Int) (kb_ : Int → Int → Option ρ) (k1_ : Option ρ) (k2_ : Int → Option ρ) : Option ρ :=
  if decide (x15 < x12) then (ix x10 (w64 (x11 + x15))).bind fun x16 => if decide ((w64 (x16.toNat : Int)) < 128) then k1_ else if decide ((w64 (x16.toNat : Int)) ≥ 192) then k1_ else kb_ (w64 ((w64 ((w64 (64 * x13)) + (w64 (x16.toNat : Int)))) - 128)) (w64 (x15 + 1)) else k2_ x13
def r02_sign_l1 (x10 : List UInt8) (x11 : Int) (x12 : Int) (z : Int × Int) : Option ((Int × Int) ⊕ (Unit ⊕ Int)) :=
  r02_sign_b1 x10 x11 x12 z.1 z.2 (fun x13 x15 => some (.inl (x13, x15))) (some (.inr (.inl ()))) (fun y17 => some (.inr (.inr y17)))
def r02_sign_c0 {ρ : Type} (x4 : List UInt8) (x5 : Int) (x6 : Int) (x7 : Int) (x8 : Int) (x9 : Int) (k1_ : Int → Int → Option ρ) : Option ρ :=
  if decide (x6 ≥ 248) then k1_ 0 0 else if decide ((w64 (x5 + x7)) > (x4.length : Int)) then k1_ 0 0 else (iter (r02_sign_l1 x4 x5 x7) (x8, 1)).bind fun | .inl _ => k1_ 0 0 | .inr x18 => if decide (x18 < x9) then k1_ 0 0 else if decide (x18 > 1114111) then k1_ 0 0 else if decide (x18 ≥ 55296) then if decide (x18 ≤ 57343) then k1_ 0 0 else k1_ x18 x7 else k1_ x18 x7
def r02_sign (a1 : List UInt8) (a2 : Int) : Option (Int × Int) :=
  (ix a1 a2).bind fun x3 => if decide ((w64 (x3.toNat : Int)) ≥ 240) then r02_sign_c0 a1 a2 (w64 (x3.toNat : Int)) 4 (w64 ((w64 (x3.toNat : Int)) - 240)) 65536 (fun x21 x22 => some (x21, x22)) else if decide ((w64 (x3.toNat : Int)) ≥ 224) then r02_sign_c0 a1 a2 (w64 (x3.toNat : Int)) 3 (w64 ((w64 (x3.toNat : Int)) - 224)) 2048 (fun x23 x24 => some (x23, x24)) else if decide ((w64 (x3.toNat : Int)) ≥ 192) then r02_sign_c0 a1 a2 (w64 (x3.toNat : Int)) 2 (w64 ((w64 (x3.toNat : Int)) - 192)) 128 (fun x25 x26 => some (x25, x26)) else if decide ((w64 (x3.toNat : Int)) ≥ 128) then some (0, 0) else r02_sign_c0 a1 a2 (w64 (x3.toNat : Int)) 1 (w64 (x3.toNat : Int)) 1 (fun x27 x28 => some (x27, x28))
/- pouch/pouchref02.Runes -/
def r02_Runes_b0 {ρ : Type} (x2 : List UInt8) (x3 : Int) (x4 : Int) (kb_ : Int → Int → Option ρ) (k1_ : Option ρ) (k2_ : Int → Option ρ) : Option ρ :=
  if decide (x4 < (x2.length : Int)) then (r02_sign x2 x4).bind fun (x5, x6) => if decide (x6 = 0) then k1_ else kb_ (w64 (x3 + 1)) (w64 (x4 + x6)) else k2_ x3
def r02_Runes_l0 (x2 : List UInt8) (z : Int × Int) : Option ((Int × Int) ⊕ (Unit ⊕ Int)) :=
  r02_Runes_b0 x2 z.1 z.2 (fun x3 x4 => some (.inl (x3, x4))) (some (.inr (.inl ()))) (fun y7 => some (.inr (.inr y7)))
def r02_Runes (a1 : List UInt8) : Option Int :=
  if decide ((a1.length : Int) > 65535) then some (-1) else (iter (r02_Runes_l0 a1) (0, 0)).bind fun | .inl _ => some (-1) | .inr x8 => some x8
/- pouch/pouchref02.Right -/
def r02_Right (a1 : List UInt8) : Option Bool :=
  (r02_Runes a1).bind fun x2 => some (decide (x2 ≥ 0))
/- pouch/pouchlaw02.TextRights -/
def l02_TextRights (a1 : List UInt8) : Option Bool :=
  (slc a1 0 (imin (a1.length : Int) 400)).bind fun x2 => (l02_told).bind fun x3 => if x3 then (text_Right x2).bind fun x4 => (r02_Right x2).bind fun x5 => if x4 == x5 then (text_Runes x2).bind fun x6 => (r02_Runes x2).bind fun x7 => some (decide (x6 = (imax x7 0))) else some false else some false
/- pouch/pouchlaw02.TextFours -/
def l02_TextFours_b0 {ρ : Type} (x2 : List UInt8) (x3 : Int) (kb_ : Int → Option ρ) (k1_ : Option ρ) (k2_ : Option ρ) : Option ρ :=
  if decide (x3 ≤ 4) then (slc x2 0 x3).bind fun x4 => (text_Right x4).bind fun x5 => (slc x2 0 x3).bind fun x6 => (r02_Right x6).bind fun x7 => if !(x5 == x7) then k1_ else (slc x2 (w64 (4 - x3)) (x2.length : Int)).bind fun x8 => (text_Runes x8).bind fun x9 => (slc x2 (w64 (4 - x3)) (x2.length : Int)).bind fun x10 => (r02_Runes x10).bind fun x11 => if !decide (x9 = (imax x11 0)) then k1_ else kb_ (w64 (x3 + 1)) else k2_
def l02_TextFours_l0 (x2 : List UInt8) (z : Int) : Option (Int ⊕ (Unit ⊕ Unit)) :=
  l02_TextFours_b0 x2 z (fun x3 => some (.inl x3)) (some (.inr (.inl ()))) (some (.inr (.inr ())))
def l02_TextFours (a1 : arr4_u8) : Option Bool :=
  (iter (l02_TextFours_l0 [a1.x0, a1.x1, a1.x2, a1.x3]) 1).bind fun | .inl _ => some false | .inr _ => (l02_told).bind fun x12 => some x12
end Go.Rv
