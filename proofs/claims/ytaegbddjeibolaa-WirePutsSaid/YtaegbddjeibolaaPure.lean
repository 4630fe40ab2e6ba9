/- The program's functions as plain functions. -/
import Derived.Test.YtaegbddjeibolaaTys
set_option linter.unusedSimpArgs false
set_option linter.unusedVariables false
set_option maxRecDepth 100000
namespace Go.Rv
/- pouch/wire.Read -/
def wire_Read (a1 : Option (List UInt8)) : Option wire_Reader :=
  some (⟨L a1, 0⟩ : wire_Reader)
/- (*pouch/wire.Reader).Err -/
def wire_Reader_Err (o1 : wire_Reader) : Option (Int × wire_Reader) :=
  some (o1.err, o1)
/- pouch/wire.digits -/
def wire_digits_b0 {ρ : Type} (x2 : List UInt8) (x3 : UInt32) (x4 : Int) (kb_ : UInt32 → Int → Option ρ) (k1_ : UInt32 → Int → Int → Option ρ) (k2_ : Option ρ) : Option ρ :=
  if decide (x4 < 4) then if decide (x4 ≥ (x2.length : Int)) then k1_ (0 : UInt32) 0 2 else (ix x2 x4).bind fun x5 => (chk (decide (0 ≤ (w64 (7 * x4))))).bind fun _ => if decide (x5 ≥ (128 : UInt8)) then kb_ (x3 ||| (shl_u32 (u32 ((x5 &&& ~~~(128 : UInt8)).toNat : Int)) (w64 (7 * x4)))) (w64 (x4 + 1)) else if decide (x5 = (0 : UInt8)) then if decide (x4 > 0) then k1_ (0 : UInt32) 0 3 else k1_ (x3 ||| (shl_u32 (u32 ((x5 &&& ~~~(128 : UInt8)).toNat : Int)) (w64 (7 * x4)))) (w64 (x4 + 1)) 0 else k1_ (x3 ||| (shl_u32 (u32 ((x5 &&& ~~~(128 : UInt8)).toNat : Int)) (w64 (7 * x4)))) (w64 (x4 + 1)) 0 else k2_
def wire_digits_l0 (x2 : List UInt8) (z : UInt32 × Int) : Option ((UInt32 × Int) ⊕ ((UInt32 × Int × Int) ⊕ Unit)) :=
  wire_digits_b0 x2 z.1 z.2 (fun x3 x4 => some (.inl (x3, x4))) (fun y6 y7 y8 => some (.inr (.inl (y6, y7, y8)))) (some (.inr (.inr ())))
def wire_digits (a1 : List UInt8) : Option (UInt32 × Int × Int) :=
  (iter (wire_digits_l0 a1) ((0 : UInt32), 0)).bind fun | .inl (x9, x10, x11) => some (x9, x10, x11) | .inr _ => some ((0 : UInt32), 0, 3)
/- (*pouch/wire.Reader).Var -/
def wire_Reader_Var (o1 : wire_Reader) : Option (UInt32 × wire_Reader) :=
  (wire_Reader_Err o1).bind fun (x2, x3) => if !decide (x2 = 0) then some ((0 : UInt32), x3) else (wire_digits x3.b).bind fun (x4, x5, x6) => (slc x3.b x5 (x3.b.length : Int)).bind fun x7 => some (x4, (⟨x7, x6⟩ : wire_Reader))
/- (*pouch/pouchref01.Reader).Var -/
def r01_Reader_Var_c1 {ρ : Type} (x9 : Int) (x10 : UInt32) (x11 : r01_Reader) (k1_ : Int → Option ρ) (k2_ : Option ρ) : Option ρ :=
  if decide (x10 < (128 : UInt32)) then k1_ (w64 ((w64 (x11.At + x9)) + 1)) else k2_
def r01_Reader_Var_b0 {ρ : Type} (x5 : r01_Reader) (x2 : UInt32) (x3 : UInt32) (x4 : Int) (kb_ : UInt32 → UInt32 → Int → Option ρ) (k1_ : UInt32 → Int → Int → Option ρ) (k2_ : Option ρ) : Option ρ :=
  if decide (x4 < 4) then if decide ((w64 (x5.At + x4)) ≥ (x5.B.length : Int)) then k1_ (0 : UInt32) x5.At 2 else (ix x5.B (w64 (x5.At + x4))).bind fun x6 => (chk (decide ((128 : UInt32) ≠ 0))).bind fun _ => if decide ((u32 (x6.toNat : Int)) ≥ (128 : UInt32)) then if decide (x4 = 3) then k1_ (0 : UInt32) x5.At 3 else if decide ((u32 (x6.toNat : Int)) = (0 : UInt32)) then if decide (x4 > 0) then k1_ (0 : UInt32) x5.At 3 else r01_Reader_Var_c1 x4 (u32 (x6.toNat : Int)) x5 (fun x13 => k1_ (x2 + (((u32 (x6.toNat : Int)) % (128 : UInt32)) * x3)) x13 x5.Bad) (kb_ (x2 + (((u32 (x6.toNat : Int)) % (128 : UInt32)) * x3)) (x3 * (128 : UInt32)) (w64 (x4 + 1))) else r01_Reader_Var_c1 x4 (u32 (x6.toNat : Int)) x5 (fun x14 => k1_ (x2 + (((u32 (x6.toNat : Int)) % (128 : UInt32)) * x3)) x14 x5.Bad) (kb_ (x2 + (((u32 (x6.toNat : Int)) % (128 : UInt32)) * x3)) (x3 * (128 : UInt32)) (w64 (x4 + 1))) else if decide ((u32 (x6.toNat : Int)) = (0 : UInt32)) then if decide (x4 > 0) then k1_ (0 : UInt32) x5.At 3 else r01_Reader_Var_c1 x4 (u32 (x6.toNat : Int)) x5 (fun x15 => k1_ (x2 + (((u32 (x6.toNat : Int)) % (128 : UInt32)) * x3)) x15 x5.Bad) (kb_ (x2 + (((u32 (x6.toNat : Int)) % (128 : UInt32)) * x3)) (x3 * (128 : UInt32)) (w64 (x4 + 1))) else r01_Reader_Var_c1 x4 (u32 (x6.toNat : Int)) x5 (fun x16 => k1_ (x2 + (((u32 (x6.toNat : Int)) % (128 : UInt32)) * x3)) x16 x5.Bad) (kb_ (x2 + (((u32 (x6.toNat : Int)) % (128 : UInt32)) * x3)) (x3 * (128 : UInt32)) (w64 (x4 + 1))) else k2_
def r01_Reader_Var_l0 (x5 : r01_Reader) (z : UInt32 × UInt32 × Int) : Option ((UInt32 × UInt32 × Int) ⊕ ((UInt32 × Int × Int) ⊕ Unit)) :=
  r01_Reader_Var_b0 x5 z.1 z.2.1 z.2.2 (fun x2 x3 x4 => some (.inl (x2, x3, x4))) (fun y17 y18 y19 => some (.inr (.inl (y17, y18, y19)))) (some (.inr (.inr ())))
def r01_Reader_Var (o1 : r01_Reader) : Option (UInt32 × r01_Reader) :=
  if !decide (o1.Bad = 0) then some ((0 : UInt32), o1) else (iter (r01_Reader_Var_l0 o1) ((0 : UInt32), (1 : UInt32), 0)).bind fun | .inl (x20, x21, x22) => some (x20, (⟨o1.B, x21, x22⟩ : r01_Reader)) | .inr _ => some ((0 : UInt32), o1)
/- pouch/pouchref01.Var -/
def r01_Var_b0 {ρ : Type} (x4 : UInt32) (x5 : Option (List UInt8)) (kb_ : UInt32 → (Option (List UInt8)) → Option ρ) (k1_ : UInt32 → (Option (List UInt8)) → Option ρ) : Option ρ :=
  if decide (x4 ≥ (128 : UInt32)) then (chk (decide ((128 : UInt32) ≠ 0))).bind fun _ => (appO 1 x5 (some [u8 (((x4 % (128 : UInt32)) + (128 : UInt32)).toNat : Int)])).bind fun x6 => (chk (decide ((128 : UInt32) ≠ 0))).bind fun _ => kb_ (x4 / (128 : UInt32)) x6 else k1_ x4 x5
def r01_Var_l0 (z : UInt32 × (Option (List UInt8))) : Option ((UInt32 × (Option (List UInt8))) ⊕ (UInt32 × (Option (List UInt8)))) :=
  r01_Var_b0 z.1 z.2 (fun x4 x5 => some (.inl (x4, x5))) (fun y7 y8 => some (.inr (y7, y8)))
def r01_Var (a1 : Option (List UInt8)) (a2 : UInt32) : Option (Option (List UInt8)) :=
  (appO 1 (some []) a1).bind fun x3 => if decide (a2 > (268435455 : UInt32)) then some x3 else (iter r01_Var_l0 (a2, x3)).bind fun (x9, x10) => (appO 1 x10 (some [u8 (x9.toNat : Int)])).bind fun x11 => some x11
/- slices.Clone[[]byte,byte] -/
def slices_Clone_s_byte_byte (a1 : Option (List UInt8)) : Option (Option (List UInt8)) :=
  if a1.isNone then some none else (appO 1 (some []) a1).bind fun x2 => some x2
/- pouch/wire.Var -/
def wire_Var_b0 {ρ : Type} (x4 : UInt32) (x5 : Option (List UInt8)) (kb_ : UInt32 → (Option (List UInt8)) → Option ρ) (k1_ : UInt32 → (Option (List UInt8)) → Option ρ) : Option ρ :=
  if decide (x4 ≥ (128 : UInt32)) then (appO 1 x5 (some [(u8 (x4.toNat : Int)) ||| (128 : UInt8)])).bind fun x6 => kb_ (shr_u32 x4 ((7 : UInt64).toNat : Int)) x6 else k1_ x4 x5
def wire_Var_l0 (z : UInt32 × (Option (List UInt8))) : Option ((UInt32 × (Option (List UInt8))) ⊕ (UInt32 × (Option (List UInt8)))) :=
  wire_Var_b0 z.1 z.2 (fun x4 x5 => some (.inl (x4, x5))) (fun y7 y8 => some (.inr (y7, y8)))
def wire_Var (a1 : Option (List UInt8)) (a2 : UInt32) : Option (Option (List UInt8)) :=
  (slices_Clone_s_byte_byte a1).bind fun x3 => if decide (a2 > (268435455 : UInt32)) then some x3 else (iter wire_Var_l0 (a2, x3)).bind fun (x9, x10) => (appO 1 x10 (some [u8 (x9.toNat : Int)])).bind fun x11 => some x11
/- pouch/wire.Two -/
def wire_Two (a1 : Option (List UInt8)) (a2 : UInt16) : Option (Option (List UInt8)) :=
  (slices_Clone_s_byte_byte a1).bind fun x3 => (appO 1 x3 (some [u8 ((shr_u16 a2 ((8 : UInt64).toNat : Int)).toNat : Int), u8 (a2.toNat : Int)])).bind fun x4 => some x4
/- pouch/wire.Bin -/
def wire_Bin (a1 : Option (List UInt8)) (a2 : List UInt8) : Option (Option (List UInt8)) :=
  if decide ((a2.length : Int) > 65535) then (slices_Clone_s_byte_byte a1).bind fun x3 => some x3 else (wire_Two a1 (u16 (a2.length : Int))).bind fun x4 => (appO 1 x4 (some a2)).bind fun x5 => some x5
/- (*pouch/wire.Reader).take -/
def wire_Reader_take_c0 {ρ : Type} (x6 : Bool) (k1_ : Option ρ) (k2_ : Option ρ) : Option ρ :=
  if x6 then k1_ else k2_
def wire_Reader_take_c1 {ρ : Type} (x8 : Int) (x9 : wire_Reader) (k1_ : (List UInt8) → (List UInt8) → Option ρ) : Option ρ :=
  (slc x9.b 0 x8).bind fun x10 => (slc x9.b x8 (x9.b.length : Int)).bind fun x11 => k1_ x10 x11
def wire_Reader_take (a1 : Int) (o2 : wire_Reader) : Option ((List UInt8) × Bool × wire_Reader) :=
  (wire_Reader_Err (⟨o2.b, o2.err⟩ : wire_Reader)).bind fun (x3, x4) => if !decide (x3 = 0) then some ([], false, x4) else if decide (a1 < 0) then wire_Reader_take_c0 true (some ([], false, (⟨x4.b, 2⟩ : wire_Reader))) (wire_Reader_take_c1 a1 x4 (fun x14 x15 => some (x14, true, (⟨x15, x4.err⟩ : wire_Reader)))) else wire_Reader_take_c0 (decide (a1 > (x4.b.length : Int))) (some ([], false, (⟨x4.b, 2⟩ : wire_Reader))) (wire_Reader_take_c1 a1 x4 (fun x16 x17 => some (x16, true, (⟨x17, x4.err⟩ : wire_Reader))))
/- (*pouch/wire.Reader).Two -/
def wire_Reader_Two (o1 : wire_Reader) : Option (UInt16 × wire_Reader) :=
  (wire_Reader_take 2 (⟨o1.b, o1.err⟩ : wire_Reader)).bind fun (x2, x3, x4) => if !x3 then some ((0 : UInt16), x4) else (ix x2 0).bind fun x5 => (ix x2 1).bind fun x6 => some ((shl_u16 (u16 (x5.toNat : Int)) ((8 : UInt64).toNat : Int)) ||| (u16 (x6.toNat : Int)), x4)
/- (*pouch/wire.Reader).Bin -/
def wire_Reader_Bin (o1 : wire_Reader) : Option ((List UInt8) × wire_Reader) :=
  (wire_Reader_Two o1).bind fun (x2, x3) => (wire_Reader_take (w64 (x2.toNat : Int)) (⟨x3.b, x3.err⟩ : wire_Reader)).bind fun (x4, x5, x6) => some (x4, x6)
/- (*pouch/wire.Reader).Left -/
def wire_Reader_Left (o1 : wire_Reader) : Option (Int × wire_Reader) :=
  (wire_Reader_Err o1).bind fun (x2, x3) => if !decide (x2 = 0) then some (0, x3) else some ((x3.b.length : Int), x3)
/- pouch/wire.VarSize -/
def wire_VarSize (a1 : UInt32) : Option Int :=
  (wire_Var none a1).bind fun x2 => some ((L x2).length : Int)
/- pouch/pouchlaw01.told -/
def l01_told : Option Bool :=
  (wire_Var none (321 : UInt32)).bind fun x1 => (wire_Bin x1 [97, 98]).bind fun x2 => (wire_Read x2).bind fun x3 => if decide (L x2 = [193, 2, 0, 2, 97, 98]) then (wire_Reader_Var x3).bind fun (x4, x5) => if decide (x4 = (321 : UInt32)) then (wire_Reader_Bin (⟨x5.b, x5.err⟩ : wire_Reader)).bind fun (x6, x7) => if decide (x6 = [97, 98]) then (wire_Reader_Left (⟨x7.b, x7.err⟩ : wire_Reader)).bind fun (x8, x9) => if decide (x8 = 0) then (wire_Reader_Err (⟨x9.b, x9.err⟩ : wire_Reader)).bind fun (x10, x11) => if decide (x10 = 0) then (wire_VarSize (321 : UInt32)).bind fun x12 => some (decide (x12 = 2)) else some false else some false else some false else some false else some false
/- pouch/pouchlaw01.WireVars -/
def l01_WireVars_c0 {ρ : Type} (x10 : Option (List UInt8)) (x11 : UInt32) (x12 : UInt32) (x13 : UInt32) (x14 : Int) (x15 : wire_Reader) (x16 : r01_Reader) (k1_ : Bool → wire_Reader → Option ρ) : Option ρ :=
  (l01_told).bind fun x17 => if !x17 then k1_ false x15 else if !decide (x12 = x13) then k1_ false x15 else (wire_Reader_Err (⟨x15.b, x15.err⟩ : wire_Reader)).bind fun (x18, x19) => if !decide (x18 = x16.Bad) then k1_ false x19 else (wire_VarSize x11).bind fun x20 => if !decide (x20 = x14) then k1_ false x19 else (wire_Var none x11).bind fun x21 => if !decide (((L x21).length : Int) = x14) then k1_ false x19 else (wire_Var none x12).bind fun x22 => if !decide (x16.Bad = 0) then k1_ true x19 else if decide (((L x22).length : Int) = x16.At) then (slO x10 0 ((L x22).length : Int)).bind fun x23 => k1_ (decide (L x22 = L x23)) x19 else k1_ false x19
def l01_WireVars (a1 : Option (List UInt8)) (a2 : UInt32) : Option Bool :=
  (slO a1 0 (imin ((L a1).length : Int) 12)).bind fun x3 => (wire_Read x3).bind fun x4 => (wire_Reader_Var (⟨x4.b, x4.err⟩ : wire_Reader)).bind fun (x5, x6) => (r01_Reader_Var (⟨L x3, 0, 0⟩ : r01_Reader)).bind fun (x7, x8) => if decide (a2 ≤ (268435455 : UInt32)) then (r01_Var none a2).bind fun x9 => l01_WireVars_c0 x3 a2 x5 x7 ((L x9).length : Int) x6 x8 (fun x26 x27 => some x26) else l01_WireVars_c0 x3 a2 x5 x7 0 x6 x8 (fun x28 x29 => some x28)
/- (*pouch/wire.Reader).Byte -/
def wire_Reader_Byte_1 (o1 : wire_Reader) : Option (UInt8 × wire_Reader) :=
  (wire_Reader_take 1 (⟨o1.b, o1.err⟩ : wire_Reader)).bind fun (x2, x3, x4) => if !x3 then some ((0 : UInt8), x4) else (ix x2 0).bind fun x5 => some (x5, x4)
/- (*pouch/pouchref01.Reader).take -/
def r01_Reader_take_c0 {ρ : Type} (x4 : Bool) (k1_ : Option ρ) (k2_ : Option ρ) : Option ρ :=
  if x4 then k1_ else k2_
def r01_Reader_take_c1 {ρ : Type} (x6 : Int) (x7 : r01_Reader) (k1_ : (List UInt8) → Int → Option ρ) : Option ρ :=
  (slc x7.B x7.At (w64 (x7.At + x6))).bind fun x8 => k1_ x8 (w64 (x7.At + x6))
def r01_Reader_take (a1 : Int) (o2 : r01_Reader) : Option ((List UInt8) × Bool × r01_Reader) :=
  if !decide (o2.Bad = 0) then some ([], false, o2) else if decide (a1 < 0) then r01_Reader_take_c0 true (some ([], false, (⟨o2.B, o2.At, 2⟩ : r01_Reader))) (r01_Reader_take_c1 a1 o2 (fun x11 x12 => some (x11, true, (⟨o2.B, x12, o2.Bad⟩ : r01_Reader)))) else r01_Reader_take_c0 (decide (a1 > (w64 ((o2.B.length : Int) - o2.At)))) (some ([], false, (⟨o2.B, o2.At, 2⟩ : r01_Reader))) (r01_Reader_take_c1 a1 o2 (fun x13 x14 => some (x13, true, (⟨o2.B, x14, o2.Bad⟩ : r01_Reader))))
/- (*pouch/pouchref01.Reader).Num -/
def r01_Reader_Num_b0 {ρ : Type} (x6 : List UInt8) (x7 : UInt64) (x8 : Int) (kb_ : UInt64 → Int → Option ρ) (k1_ : UInt64 → Option ρ) : Option ρ :=
  if decide (x8 < (x6.length : Int)) then (ix x6 x8).bind fun x10 => kb_ (((256 : UInt64) * x7) + (u64 (x10.toNat : Int))) (w64 (x8 + 1)) else k1_ x7
def r01_Reader_Num_l0 (x6 : List UInt8) (z : UInt64 × Int) : Option ((UInt64 × Int) ⊕ UInt64) :=
  r01_Reader_Num_b0 x6 z.1 z.2 (fun x7 x8 => some (.inl (x7, x8))) (fun y11 => some (.inr y11))
def r01_Reader_Num (a1 : Int) (o2 : r01_Reader) : Option (UInt64 × r01_Reader) :=
  (r01_Reader_take a1 o2).bind fun (x3, x4, x5) => if !x4 then some ((0 : UInt64), x5) else (iter (r01_Reader_Num_l0 x3) ((0 : UInt64), 0)).bind fun x12 => some (x12, x5)
/- (*pouch/wire.Reader).Four -/
def wire_Reader_Four_1 (o1 : wire_Reader) : Option (UInt32 × wire_Reader) :=
  (wire_Reader_take 4 (⟨o1.b, o1.err⟩ : wire_Reader)).bind fun (x2, x3, x4) => if !x3 then some ((0 : UInt32), x4) else (ix x2 0).bind fun x5 => (ix x2 1).bind fun x6 => (ix x2 2).bind fun x7 => (ix x2 3).bind fun x8 => some ((((shl_u32 (u32 (x5.toNat : Int)) ((24 : UInt64).toNat : Int)) ||| (shl_u32 (u32 (x6.toNat : Int)) ((16 : UInt64).toNat : Int))) ||| (shl_u32 (u32 (x7.toNat : Int)) ((8 : UInt64).toNat : Int))) ||| (u32 (x8.toNat : Int)), x4)
/- (*pouch/pouchref01.Reader).Bin -/
def r01_Reader_Bin (o1 : r01_Reader) : Option ((List UInt8) × r01_Reader) :=
  (r01_Reader_Num 2 (⟨o1.B, o1.At, o1.Bad⟩ : r01_Reader)).bind fun (x2, x3) => (r01_Reader_take (w64 (x2.toNat : Int)) (⟨x3.B, x3.At, x3.Bad⟩ : r01_Reader)).bind fun (x4, x5, x6) => some (x4, x6)
/- (*pouch/wire.Reader).Rest -/
def wire_Reader_Rest_1 (o1 : wire_Reader) : Option ((List UInt8) × wire_Reader) :=
  (wire_Reader_Left o1).bind fun (x2, x3) => (wire_Reader_take x2 (⟨x3.b, x3.err⟩ : wire_Reader)).bind fun (x4, x5, x6) => some (x4, x6)
/- (*pouch/pouchref01.Reader).Left -/
def r01_Reader_Left (o1 : r01_Reader) : Option (Int × r01_Reader) :=
  if !decide (o1.Bad = 0) then some (0, o1) else some (w64 ((o1.B.length : Int) - o1.At), o1)
/- (*pouch/pouchref01.Reader).Rest -/
def r01_Reader_Rest (o1 : r01_Reader) : Option ((List UInt8) × r01_Reader) :=
  (r01_Reader_Left o1).bind fun (x2, x3) => (r01_Reader_take x2 (⟨x3.B, x3.At, x3.Bad⟩ : r01_Reader)).bind fun (x4, x5, x6) => some (x4, x6)
/- (*pouch/wire.Reader).Sub -/
def wire_Reader_Sub_1 (a1 : Int) (o2 : wire_Reader) : Option (wire_Reader × wire_Reader) :=
  (wire_Reader_take a1 o2).bind fun (x3, x4, x5) => some (x5, (⟨x3, x5.err⟩ : wire_Reader))
/- (*pouch/pouchref01.Reader).Sub -/
def r01_Reader_Sub (a1 : Int) (o2 : r01_Reader) : Option (r01_Reader × r01_Reader) :=
  (r01_Reader_take a1 o2).bind fun (x3, x4, x5) => if !x4 then some (x5, (⟨[], 0, x5.Bad⟩ : r01_Reader)) else some (x5, (⟨x3, 0, 0⟩ : r01_Reader))
/- pouch/pouchlaw01.WireReads -/
def l01_WireReads_c1 {ρ : Type} (x62 : Bool) (x63 : wire_Reader) (x64 : r01_Reader) (k1_ : wire_Reader → r01_Reader → Option ρ) (k2_ : wire_Reader → r01_Reader → Option ρ) : Option ρ :=
  if !x62 then k1_ x63 x64 else (wire_Reader_Err (⟨x63.b, x63.err⟩ : wire_Reader)).bind fun (x65, x66) => if !decide (x65 = x64.Bad) then k1_ x66 x64 else (wire_Reader_Left (⟨x66.b, x66.err⟩ : wire_Reader)).bind fun (x67, x68) => (r01_Reader_Left (⟨x64.B, x64.At, x64.Bad⟩ : r01_Reader)).bind fun (x69, x70) => if !decide (x67 = x69) then k1_ x68 x70 else k2_ x68 x70
def l01_WireReads_b0 {ρ : Type} (x8 : Option (List l01_Thing)) (x10 : Int) (x11 : wire_Reader) (x12 : r01_Reader) (kb_ : Int → wire_Reader → r01_Reader → Option ρ) (k1_ : wire_Reader → r01_Reader → Option ρ) (k2_ : wire_Reader → r01_Reader → Option ρ) : Option ρ :=
  if decide (x10 < ((L x8).length : Int)) then if decide (x10 < 40) then (ix (L x8) x10).bind fun x13 => (chk (decide ((7 : UInt64) ≠ 0))).bind fun _ => if decide ((w64 (((u64 x13.Kind) % (7 : UInt64)).toNat : Int)) = 0) then (wire_Reader_Byte_1 (⟨x11.b, x11.err⟩ : wire_Reader)).bind fun (x14, x15) => (r01_Reader_Num 1 (⟨x12.B, x12.At, x12.Bad⟩ : r01_Reader)).bind fun (x16, x17) => l01_WireReads_c1 (decide ((u64 (x14.toNat : Int)) = x16)) x15 x17 (fun x75 x76 => k1_ x75 x76) (fun x77 x78 => kb_ (w64 (x10 + 1)) x77 x78) else if decide ((w64 (((u64 x13.Kind) % (7 : UInt64)).toNat : Int)) = 1) then (wire_Reader_Two (⟨x11.b, x11.err⟩ : wire_Reader)).bind fun (x18, x19) => (r01_Reader_Num 2 (⟨x12.B, x12.At, x12.Bad⟩ : r01_Reader)).bind fun (x20, x21) => l01_WireReads_c1 (decide ((u64 (x18.toNat : Int)) = x20)) x19 x21 (fun x79 x80 => k1_ x79 x80) (fun x81 x82 => kb_ (w64 (x10 + 1)) x81 x82) else if decide ((w64 (((u64 x13.Kind) % (7 : UInt64)).toNat : Int)) = 2) then (wire_Reader_Four_1 (⟨x11.b, x11.err⟩ : wire_Reader)).bind fun (x22, x23) => (r01_Reader_Num 4 (⟨x12.B, x12.At, x12.Bad⟩ : r01_Reader)).bind fun (x24, x25) => l01_WireReads_c1 (decide ((u64 (x22.toNat : Int)) = x24)) x23 x25 (fun x83 x84 => k1_ x83 x84) (fun x85 x86 => kb_ (w64 (x10 + 1)) x85 x86) else if decide ((w64 (((u64 x13.Kind) % (7 : UInt64)).toNat : Int)) = 3) then (wire_Reader_Var (⟨x11.b, x11.err⟩ : wire_Reader)).bind fun (x26, x27) => (r01_Reader_Var (⟨x12.B, x12.At, x12.Bad⟩ : r01_Reader)).bind fun (x28, x29) => l01_WireReads_c1 (decide (x26 = x28)) x27 x29 (fun x87 x88 => k1_ x87 x88) (fun x89 x90 => kb_ (w64 (x10 + 1)) x89 x90) else if decide ((w64 (((u64 x13.Kind) % (7 : UInt64)).toNat : Int)) = 4) then (wire_Reader_Bin (⟨x11.b, x11.err⟩ : wire_Reader)).bind fun (x30, x31) => (r01_Reader_Bin (⟨x12.B, x12.At, x12.Bad⟩ : r01_Reader)).bind fun (x32, x33) => l01_WireReads_c1 (decide (x30 = x32)) x31 x33 (fun x91 x92 => k1_ x91 x92) (fun x93 x94 => kb_ (w64 (x10 + 1)) x93 x94) else if decide ((w64 (((u64 x13.Kind) % (7 : UInt64)).toNat : Int)) = 5) then (wire_Reader_Rest_1 (⟨x11.b, x11.err⟩ : wire_Reader)).bind fun (x34, x35) => (r01_Reader_Rest (⟨x12.B, x12.At, x12.Bad⟩ : r01_Reader)).bind fun (x36, x37) => l01_WireReads_c1 (decide (x34 = x36)) x35 x37 (fun x95 x96 => k1_ x95 x96) (fun x97 x98 => kb_ (w64 (x10 + 1)) x97 x98) else if decide ((w64 (((u64 x13.Kind) % (7 : UInt64)).toNat : Int)) = 6) then (ix (L x8) x10).bind fun x38 => (wire_Reader_Sub_1 x38.N (⟨x11.b, x11.err⟩ : wire_Reader)).bind fun (x39, x40) => (ix (L x8) x10).bind fun x41 => (r01_Reader_Sub x41.N (⟨x12.B, x12.At, x12.Bad⟩ : r01_Reader)).bind fun (x42, x43) => (wire_Reader_Left (⟨x40.b, x40.err⟩ : wire_Reader)).bind fun (x44, x45) => (r01_Reader_Left (⟨x43.B, x43.At, x43.Bad⟩ : r01_Reader)).bind fun (x46, x47) => if decide (x44 = x46) then (wire_Reader_Byte_1 (⟨x45.b, x45.err⟩ : wire_Reader)).bind fun (x48, x49) => (r01_Reader_Num 1 (⟨x47.B, x47.At, x47.Bad⟩ : r01_Reader)).bind fun (x50, x51) => if decide ((u64 (x48.toNat : Int)) = x50) then (wire_Reader_Bin (⟨x49.b, x49.err⟩ : wire_Reader)).bind fun (x52, x53) => (r01_Reader_Bin (⟨x51.B, x51.At, x51.Bad⟩ : r01_Reader)).bind fun (x54, x55) => if decide (x52 = x54) then (wire_Reader_Err (⟨x53.b, x53.err⟩ : wire_Reader)).bind fun (x56, x57) => l01_WireReads_c1 (decide (x56 = x55.Bad)) x39 x42 (fun x99 x100 => k1_ x99 x100) (fun x101 x102 => kb_ (w64 (x10 + 1)) x101 x102) else l01_WireReads_c1 false x39 x42 (fun x103 x104 => k1_ x103 x104) (fun x105 x106 => kb_ (w64 (x10 + 1)) x105 x106) else l01_WireReads_c1 false x39 x42 (fun x107 x108 => k1_ x107 x108) (fun x109 x110 => kb_ (w64 (x10 + 1)) x109 x110) else l01_WireReads_c1 false x39 x42 (fun x111 x112 => k1_ x111 x112) (fun x113 x114 => kb_ (w64 (x10 + 1)) x113 x114) else l01_WireReads_c1 true x11 x12 (fun x115 x116 => k1_ x115 x116) (fun x117 x118 => kb_ (w64 (x10 + 1)) x117 x118) else k2_ x11 x12 else k2_ x11 x12
def l01_WireReads_l0 (x8 : Option (List l01_Thing)) (z : Int × wire_Reader × r01_Reader) : Option ((Int × wire_Reader × r01_Reader) ⊕ ((wire_Reader × r01_Reader) ⊕ (wire_Reader × r01_Reader))) :=
  l01_WireReads_b0 x8 z.1 z.2.1 z.2.2 (fun x10 x11 x12 => some (.inl (x10, x11, x12))) (fun y119 y120 => some (.inr (.inl (y119, y120)))) (fun y121 y122 => some (.inr (.inr (y121, y122))))
def l01_WireReads (a1 : Option (List UInt8)) (a2 : Option (List l01_Thing)) : Option Bool :=
  (slO a1 0 (imin ((L a1).length : Int) 300)).bind fun x3 => (appO 1 (some []) x3).bind fun x4 => (wire_Read x4).bind fun x5 => (l01_told).bind fun x6 => if !x6 then some false else (iter (l01_WireReads_l0 a2) (0, x5, (⟨L x3, 0, 0⟩ : r01_Reader))).bind fun | .inl (x123, x124) => some false | .inr (x125, x126) => some (decide (L x4 = L x3))
/- pouch/wire.Byte -/
def wire_Byte (a1 : Option (List UInt8)) (a2 : UInt8) : Option (Option (List UInt8)) :=
  (slices_Clone_s_byte_byte a1).bind fun x3 => (appO 1 x3 (some [a2])).bind fun x4 => some x4
/- pouch/wire.Four -/
def wire_Four (a1 : Option (List UInt8)) (a2 : UInt32) : Option (Option (List UInt8)) :=
  (wire_Two a1 (u16 ((shr_u32 a2 ((16 : UInt64).toNat : Int)).toNat : Int))).bind fun x3 => (wire_Two x3 (u16 (a2.toNat : Int))).bind fun x4 => some x4
/- pouch/pouchref01.Num -/
def r01_Num_b1 {ρ : Type} (x10 : Int) (x11 : UInt64) (x12 : Int) (kb_ : UInt64 → Int → Option ρ) (k1_ : UInt64 → Option ρ) : Option ρ :=
  if decide (x12 < x10) then (chk (decide ((256 : UInt64) ≠ 0))).bind fun _ => kb_ (x11 / (256 : UInt64)) (w64 (x12 + 1)) else k1_ x11
def r01_Num_l1 (x10 : Int) (z : UInt64 × Int) : Option ((UInt64 × Int) ⊕ UInt64) :=
  r01_Num_b1 x10 z.1 z.2 (fun x11 x12 => some (.inl (x11, x12))) (fun y13 => some (.inr y13))
def r01_Num_b0 {ρ : Type} (x5 : UInt64) (x6 : Option (List UInt8)) (x7 : Int) (kb_ : (Option (List UInt8)) → Int → Option ρ) (k1_ : (Option (List UInt8)) → Option ρ) : Option ρ :=
  if decide (x7 ≥ 0) then (iter (r01_Num_l1 x7) (x5, 0)).bind fun x14 => (chk (decide ((256 : UInt64) ≠ 0))).bind fun _ => (appO 1 x6 (some [u8 ((x14 % (256 : UInt64)).toNat : Int)])).bind fun x15 => kb_ x15 (w64 (x7 - 1)) else k1_ x6
def r01_Num_l0 (x5 : UInt64) (z : (Option (List UInt8)) × Int) : Option (((Option (List UInt8)) × Int) ⊕ (Option (List UInt8))) :=
  r01_Num_b0 x5 z.1 z.2 (fun x6 x7 => some (.inl (x6, x7))) (fun y16 => some (.inr y16))
def r01_Num (a1 : Option (List UInt8)) (a2 : UInt64) (a3 : Int) : Option (Option (List UInt8)) :=
  (appO 1 (some []) a1).bind fun x4 => (iter (r01_Num_l0 a2) (x4, w64 (a3 - 1))).bind fun x17 => some x17
/- pouch/pouchref01.Bin -/
def r01_Bin (a1 : Option (List UInt8)) (a2 : List UInt8) : Option (Option (List UInt8)) :=
  if decide ((a2.length : Int) > 65535) then (appO 1 (some []) a1).bind fun x3 => some x3 else (r01_Num a1 (u64 (a2.length : Int)) 2).bind fun x4 => (appO 1 x4 (some a2)).bind fun x5 => some x5
/- pouch/pouchlaw01.WirePuts -/
def l01_WirePuts_b0 {ρ : Type} (x3 : Option (List UInt32)) (x5 : Option (List UInt8)) (x6 : Option (List UInt8)) (x7 : Int) (kb_ : (Option (List UInt8)) → (Option (List UInt8)) → Int → Option ρ) (k1_ : (Option (List UInt8)) → (Option (List UInt8)) → Option ρ) : Option ρ :=
  if decide (x7 < ((L x3).length : Int)) then if decide (x7 < 20) then (ix (L x3) x7).bind fun x8 => (wire_Byte x5 (u8 (x8.toNat : Int))).bind fun x9 => (ix (L x3) x7).bind fun x10 => (wire_Two x9 (u16 (x10.toNat : Int))).bind fun x11 => (ix (L x3) x7).bind fun x12 => (wire_Four x11 x12).bind fun x13 => (ix (L x3) x7).bind fun x14 => (r01_Num x6 (u64 ((u8 (x14.toNat : Int)).toNat : Int)) 1).bind fun x15 => (ix (L x3) x7).bind fun x16 => (r01_Num x15 (u64 ((u16 (x16.toNat : Int)).toNat : Int)) 2).bind fun x17 => (ix (L x3) x7).bind fun x18 => (r01_Num x17 (u64 (x18.toNat : Int)) 4).bind fun x19 => (ix (L x3) x7).bind fun x20 => (wire_Var x13 x20).bind fun x21 => (ix (L x3) x7).bind fun x22 => (r01_Var x19 x22).bind fun x23 => kb_ x21 x23 (w64 (x7 + 1)) else k1_ x5 x6 else k1_ x5 x6
def l01_WirePuts_l0 (x3 : Option (List UInt32)) (z : (Option (List UInt8)) × (Option (List UInt8)) × Int) : Option (((Option (List UInt8)) × (Option (List UInt8)) × Int) ⊕ ((Option (List UInt8)) × (Option (List UInt8)))) :=
  l01_WirePuts_b0 x3 z.1 z.2.1 z.2.2 (fun x5 x6 x7 => some (.inl (x5, x6, x7))) (fun y24 y25 => some (.inr (y24, y25)))
def l01_WirePuts_b1 {ρ : Type} (x29 : Option (List (List UInt8))) (x30 : Option (List UInt8)) (x31 : Option (List UInt8)) (x32 : Int) (kb_ : (Option (List UInt8)) → (Option (List UInt8)) → Int → Option ρ) (k1_ : Bool → Option ρ) (k2_ : (Option (List UInt8)) → (Option (List UInt8)) → Option ρ) : Option ρ :=
  if decide (x32 < ((L x29).length : Int)) then if decide (x32 < 10) then (ix (L x29) x32).bind fun x33 => if decide ((x33.length : Int) > 300) then (l01_told).bind fun x34 => k1_ x34 else (ix (L x29) x32).bind fun x35 => (wire_Bin x30 x35).bind fun x36 => (ix (L x29) x32).bind fun x37 => (r01_Bin x31 x37).bind fun x38 => kb_ x36 x38 (w64 (x32 + 1)) else k2_ x30 x31 else k2_ x30 x31
def l01_WirePuts_l1 (x29 : Option (List (List UInt8))) (z : (Option (List UInt8)) × (Option (List UInt8)) × Int) : Option (((Option (List UInt8)) × (Option (List UInt8)) × Int) ⊕ (Bool ⊕ ((Option (List UInt8)) × (Option (List UInt8))))) :=
  l01_WirePuts_b1 x29 z.1 z.2.1 z.2.2 (fun x30 x31 x32 => some (.inl (x30, x31, x32))) (fun y39 => some (.inr (.inl y39))) (fun y40 y41 => some (.inr (.inr (y40, y41))))
def l01_WirePuts_b2 {ρ : Type} (x47 : Option (List UInt32)) (x49 : Int) (x50 : wire_Reader) (kb_ : Int → wire_Reader → Option ρ) (k1_ : wire_Reader → Option ρ) (k2_ : wire_Reader → Option ρ) : Option ρ :=
  if decide (x49 < ((L x47).length : Int)) then if decide (x49 < 20) then (wire_Reader_Byte_1 (⟨x50.b, x50.err⟩ : wire_Reader)).bind fun (x51, x52) => (ix (L x47) x49).bind fun x53 => if !decide (x51 = (u8 (x53.toNat : Int))) then k1_ x52 else (wire_Reader_Two (⟨x52.b, x52.err⟩ : wire_Reader)).bind fun (x54, x55) => (ix (L x47) x49).bind fun x56 => if !decide (x54 = (u16 (x56.toNat : Int))) then k1_ x55 else (wire_Reader_Four_1 (⟨x55.b, x55.err⟩ : wire_Reader)).bind fun (x57, x58) => (ix (L x47) x49).bind fun x59 => if !decide (x57 = x59) then k1_ x58 else (ix (L x47) x49).bind fun x60 => if decide (x60 ≤ (268435455 : UInt32)) then (wire_Reader_Var (⟨x58.b, x58.err⟩ : wire_Reader)).bind fun (x61, x62) => (ix (L x47) x49).bind fun x63 => if !decide (x61 = x63) then k1_ x62 else kb_ (w64 (x49 + 1)) x62 else kb_ (w64 (x49 + 1)) x58 else k2_ x50 else k2_ x50
def l01_WirePuts_l2 (x47 : Option (List UInt32)) (z : Int × wire_Reader) : Option ((Int × wire_Reader) ⊕ (wire_Reader ⊕ wire_Reader)) :=
  l01_WirePuts_b2 x47 z.1 z.2 (fun x49 x50 => some (.inl (x49, x50))) (fun y64 => some (.inr (.inl y64))) (fun y65 => some (.inr (.inr y65)))
def l01_WirePuts_b3 {ρ : Type} (x68 : Option (List (List UInt8))) (x69 : Int) (x70 : wire_Reader) (kb_ : Int → wire_Reader → Option ρ) (k1_ : wire_Reader → Option ρ) (k2_ : wire_Reader → Option ρ) : Option ρ :=
  if decide (x69 < ((L x68).length : Int)) then if decide (x69 < 10) then (wire_Reader_Bin (⟨x70.b, x70.err⟩ : wire_Reader)).bind fun (x71, x72) => (ix (L x68) x69).bind fun x73 => if !decide (x71 = x73) then k1_ x72 else kb_ (w64 (x69 + 1)) x72 else k2_ x70 else k2_ x70
def l01_WirePuts_l3 (x68 : Option (List (List UInt8))) (z : Int × wire_Reader) : Option ((Int × wire_Reader) ⊕ (wire_Reader ⊕ wire_Reader)) :=
  l01_WirePuts_b3 x68 z.1 z.2 (fun x69 x70 => some (.inl (x69, x70))) (fun y74 => some (.inr (.inl y74))) (fun y75 => some (.inr (.inr y75)))
def l01_WirePuts (a1 : Option (List UInt32)) (a2 : Option (List (List UInt8))) : Option Bool :=
  (iter (l01_WirePuts_l0 a1) (none, none, 0)).bind fun (x26, x27) => (iter (l01_WirePuts_l1 a2) (x26, x27, 0)).bind fun | .inl x42 => some x42 | .inr (x43, x44) => (l01_told).bind fun x45 => if !x45 then some false else if !decide (L x43 = L x44) then some false else (wire_Read x43).bind fun x46 => (iter (l01_WirePuts_l2 a1) (0, x46)).bind fun | .inl x66 => some false | .inr x67 => (iter (l01_WirePuts_l3 a2) (0, x67)).bind fun | .inl x76 => some false | .inr x77 => (wire_Reader_Err (⟨x77.b, x77.err⟩ : wire_Reader)).bind fun (x78, x79) => if decide (x78 = 0) then (wire_Reader_Left (⟨x79.b, x79.err⟩ : wire_Reader)).bind fun (x80, x81) => some (decide (x80 = 0)) else some false
end Go.Rv
