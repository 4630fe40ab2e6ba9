/- The program's functions as plain functions. -/
import Derived.Test.YtaegbddjeibolaaDoorTys
set_option linter.unusedSimpArgs false
set_option linter.unusedVariables false
set_option maxRecDepth 100000
namespace Go.Rv
/- unicode/utf8.ValidString -/
/- strings.Contains -/
/- pouch/text.Right -/
def text_Right (a1 : List UInt8) : Option Bool :=
  if decide ((a1.length : Int) ≤ 65535) then (utf8_ValidString a1).bind fun x2 => if x2 then (strings_Contains a1 [0]).bind fun x3 => some (!x3) else some false else some false
/- unicode/utf8.RuneCountInString -/
/- pouch/text.Runes -/
def text_Runes (a1 : List UInt8) : Option Int :=
  (text_Right a1).bind fun x2 => if !x2 then some 0 else (utf8_RuneCountInString a1).bind fun x3 => some x3
/- pouch/pouchlaw02.told -/
def l02_told : Option Bool :=
  (text_Right [97, 195, 164]).bind fun x1 => if x1 then (text_Runes [97, 195, 164]).bind fun x2 => if decide (x2 = 2) then (text_Right [192, 128]).bind fun x3 => if !x3 then (text_Right [237, 160, 128]).bind fun x4 => if !x4 then (text_Right [244, 144, 128, 128]).bind fun x5 => if !x5 then (text_Right [0]).bind fun x6 => if !x6 then (text_Right []).bind fun x7 => some x7 else some false else some false else some false else some false else some false else some false
/- pouch/pouchref02.sign -/
def r02_sign_b1 {ρ : Type} (x10 : List UInt8) (x11 : Int) (x12 : Int) (x13 : Int) (x15 : Int) (kb_ : Int → Int → Option ρ) (k1_ : Option ρ) (k2_ : Int → Option ρ) : Option ρ :=
  if decide (x15 < x12) then (ix x10 (w64 (x11 + x15))).bind fun x16 => if decide ((w64 (x16.toNat : Int)) < 128) then k1_ else if decide ((w64 (x16.toNat : Int)) ≥ 192) then k1_ else kb_ (w64 ((w64 ((w64 (64 * x13)) + (w64 (x16.toNat : Int)))) - 128)) (w64 (x15 + 1)) else k2_ x13
def r02_sign_l1 (x10 : List UInt8) (x11 : Int) (x12 : Int) (z : Int × Int) : Option ((Int × Int) ⊕ (Unit ⊕ Int)) :=
  r02_sign_b1 x10 x11 x12 z.1 z.2 (fun x13 x15 => some (.inl (x13, x15))) (some (.inr (.inl ()))) (fun y17 => some (.inr (.inr y17)))
def r02_sign_c0 {ρ : Type} (x4 : List UInt8) (x5 : Int) (x6 : Int) (x7 : Int) (x8 : Int) (x9 : Int) (k1_ : Int → Int → Option ρ) : Option ρ :=
  if decide (x6 ≥ 248) then k1_ 0 0 else if decide ((w64 (x5 + x7)) > (x4.length : Int)) then k1_ 0 0 else (iter (r02_sign_l1 x4 x5 x7) (x8, 1)).bind fun | .inl _ => k1_ 0 0 | .inr x18 => if decide (x18 < x9) then k1_ 0 0 else if decide (x18 > 1114111) then k1_ 0 0 else if decide (x18 ≥ 55296) then if decide (x18 ≤ 57343) then k1_ 0 0 else k1_ x18 x7 else k1_ x18 x7
def r02_sign (a1 : List UInt8) (a2 : Int) : Option (Int × Int) :=
  (ix a1 a2).bind fun x3 => if decide ((w64 (x3.toNat : Int)) ≥ 240) then r02_sign_c0 a1 a2 (w64 (x3.toNat : Int)) 4 (w64 ((w64 (x3.toNat : Int)) - 240)) 65536 (fun x21 x22 => some (x21, x22)) else if decide ((w64 (x3.toNat : Int)) ≥ 224) then r02_sign_c0 a1 a2 (w64 (x3.toNat : Int)) 3 (w64 ((w64 (x3.toNat : Int)) - 224)) 2048 (fun x23 x24 => some (x23, x24)) else if decide ((w64 (x3.toNat : Int)) ≥ 192) then r02_sign_c0 a1 a2 (w64 (x3.toNat : Int)) 2 (w64 ((w64 (x3.toNat : Int)) - 192)) 128 (fun x25 x26 => some (x25, x26)) else if decide ((w64 (x3.toNat : Int)) ≥ 128) then some (0, 0) else r02_sign_c0 a1 a2 (w64 (x3.toNat : Int)) 1 (w64 (x3.toNat : Int)) 1 (fun x27 x28 => some (x27, x28))
/- pouch/pouchref02.Runes -/
def r02_Runes_b0 {ρ : Type} (x2 : List UInt8) (x3 : Int) (x4 : Int) (kb_ : Int → Int → Option ρ) (k1_ : Option ρ) (k2_ : Int → Option ρ) : Option ρ :=
  if decide (x4 < (x2.length : Int)) then (r02_sign x2 x4).bind fun (x5, x6) => if decide (x6 = 0) then k1_ else kb_ (w64 (x3 + 1)) (w64 (x4 + x6)) else k2_ x3
def r02_Runes_l0 (x2 : List UInt8) (z : Int × Int) : Option ((Int × Int) ⊕ (Unit ⊕ Int)) :=
  r02_Runes_b0 x2 z.1 z.2 (fun x3 x4 => some (.inl (x3, x4))) (some (.inr (.inl ()))) (fun y7 => some (.inr (.inr y7)))
def r02_Runes (a1 : List UInt8) : Option Int :=
  if decide ((a1.length : Int) > 65535) then some (-1) else (iter (r02_Runes_l0 a1) (0, 0)).bind fun | .inl _ => some (-1) | .inr x8 => some x8
/- pouch/pouchref02.Right -/
def r02_Right (a1 : List UInt8) : Option Bool :=
  (r02_Runes a1).bind fun x2 => some (decide (x2 ≥ 0))
/- pouch/pouchlaw02.TextRights -/
def l02_TextRights (a1 : List UInt8) : Option Bool :=
  (slc a1 0 (imin (a1.length : Int) 400)).bind fun x2 => (l02_told).bind fun x3 => if x3 then (text_Right x2).bind fun x4 => (r02_Right x2).bind fun x5 => if x4 == x5 then (text_Runes x2).bind fun x6 => (r02_Runes x2).bind fun x7 => some (decide (x6 = (imax x7 0))) else some false else some false
/- pouch/pouchref02.Fix -/
def r02_Fix_b0 {ρ : Type} (x2 : List UInt8) (x3 : Option (List (List UInt8))) (x4 : List UInt8) (x5 : Int) (kb_ : (List UInt8) → Int → Option ρ) (k1_ : (List UInt8) → Option ρ) : Option ρ :=
  if decide (x5 < (x2.length : Int)) then if decide (x5 < 8) then (ix x2 x5).bind fun x6 => (chk (decide (((L x3).length : Int) ≠ 0))).bind fun _ => (ix (L x3) ((w64 (x6.toNat : Int)).tmod ((L x3).length : Int))).bind fun x7 => (catS x4 x7).bind fun x8 => kb_ x8 (w64 (x5 + 1)) else k1_ x4 else k1_ x4
def r02_Fix_l0 (x2 : List UInt8) (x3 : Option (List (List UInt8))) (z : (List UInt8) × Int) : Option (((List UInt8) × Int) ⊕ (List UInt8)) :=
  r02_Fix_b0 x2 x3 z.1 z.2 (fun x4 x5 => some (.inl (x4, x5))) (fun y9 => some (.inr y9))
def r02_Fix (a1 : List UInt8) : Option (List UInt8) :=
  (iter (r02_Fix_l0 a1 (some [[97], [98], [97, 98], [195, 164], [226, 130, 172], [240, 159, 153, 130], [49], [99]])) ([], 0)).bind fun x10 => some x10
/- pouch/pouchlaw02.TextJoins -/
def l02_TextJoins (a1 : List UInt8) (a2 : List UInt8) (a3 : Int) : Option Bool :=
  (r02_Fix a1).bind fun x4 => (r02_Fix a2).bind fun x5 => (catS x4 x5).bind fun x6 => (l02_told).bind fun x7 => if !x7 then some false else (text_Right x6).bind fun x8 => if !x8 then some false else (text_Runes x6).bind fun x9 => (text_Runes x4).bind fun x10 => (text_Runes x5).bind fun x11 => if !decide (x9 = (w64 (x10 + x11))) then some false else if decide ((x6.length : Int) = 0) then some true else (chk (decide ((u64 (x6.length : Int)) ≠ 0))).bind fun _ => (slc x6 0 (w64 (((u64 a3) % (u64 (x6.length : Int))).toNat : Int))).bind fun x12 => (text_Right x12).bind fun x13 => (ix x6 (w64 (((u64 a3) % (u64 (x6.length : Int))).toNat : Int))).bind fun x14 => if decide (x14 < (128 : UInt8)) then if x13 == true then (slc x6 (w64 (((u64 a3) % (u64 (x6.length : Int))).toNat : Int)) (x6.length : Int)).bind fun x15 => (text_Right x15).bind fun x16 => (ix x6 (w64 (((u64 a3) % (u64 (x6.length : Int))).toNat : Int))).bind fun x17 => if decide (x17 < (128 : UInt8)) then some (x16 == true) else (ix x6 (w64 (((u64 a3) % (u64 (x6.length : Int))).toNat : Int))).bind fun x18 => some (x16 == (decide (x18 ≥ (192 : UInt8)))) else some false else (ix x6 (w64 (((u64 a3) % (u64 (x6.length : Int))).toNat : Int))).bind fun x19 => if x13 == (decide (x19 ≥ (192 : UInt8))) then (slc x6 (w64 (((u64 a3) % (u64 (x6.length : Int))).toNat : Int)) (x6.length : Int)).bind fun x20 => (text_Right x20).bind fun x21 => (ix x6 (w64 (((u64 a3) % (u64 (x6.length : Int))).toNat : Int))).bind fun x22 => if decide (x22 < (128 : UInt8)) then some (x21 == true) else (ix x6 (w64 (((u64 a3) % (u64 (x6.length : Int))).toNat : Int))).bind fun x23 => some (x21 == (decide (x23 ≥ (192 : UInt8)))) else some false
end Go.Rv
