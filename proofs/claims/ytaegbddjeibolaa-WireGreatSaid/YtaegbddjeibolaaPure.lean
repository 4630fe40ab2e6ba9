/- The program's functions as plain functions. -/
import Derived.Test.YtaegbddjeibolaaTys
set_option linter.unusedSimpArgs false
set_option linter.unusedVariables false
set_option maxRecDepth 100000
namespace Go.Rv
/- slices.Clone[[]byte,byte] -/
def slices_Clone_s_byte_byte (a1 : Option (List UInt8)) : Option (Option (List UInt8)) :=
  if a1.isNone then some none else (appO 1 (some []) a1).bind fun x2 => some x2
/- pouch/wire.Two -/
def wire_Two (a1 : Option (List UInt8)) (a2 : UInt16) : Option (Option (List UInt8)) :=
  (slices_Clone_s_byte_byte a1).bind fun x3 => (appO 1 x3 (some [u8 ((shr_u16 a2 ((8 : UInt64).toNat : Int)).toNat : Int), u8 (a2.toNat : Int)])).bind fun x4 => some x4
/- pouch/wire.Bin -/
def wire_Bin (a1 : Option (List UInt8)) (a2 : List UInt8) : Option (Option (List UInt8)) :=
  if decide ((a2.length : Int) > 65535) then (slices_Clone_s_byte_byte a1).bind fun x3 => some x3 else (wire_Two a1 (u16 (a2.length : Int))).bind fun x4 => (appO 1 x4 (some a2)).bind fun x5 => some x5
/- pouch/wire.Var -/
def wire_Var_b0 {ρ : Type} (x4 : UInt32) (x5 : Option (List UInt8)) (kb_ : UInt32 → (Option (List UInt8)) → Option ρ) (k1_ : UInt32 → (Option (List UInt8)) → Option ρ) : Option ρ :=
  if decide (x4 ≥ (128 : UInt32)) then (appO 1 x5 (some [(u8 (x4.toNat : Int)) ||| (128 : UInt8)])).bind fun x6 => kb_ (shr_u32 x4 ((7 : UInt64).toNat : Int)) x6 else k1_ x4 x5
def wire_Var_l0 (z : UInt32 × (Option (List UInt8))) : Option ((UInt32 × (Option (List UInt8))) ⊕ (UInt32 × (Option (List UInt8)))) :=
  wire_Var_b0 z.1 z.2 (fun x4 x5 => some (.inl (x4, x5))) (fun y7 y8 => some (.inr (y7, y8)))
def wire_Var (a1 : Option (List UInt8)) (a2 : UInt32) : Option (Option (List UInt8)) :=
  (slices_Clone_s_byte_byte a1).bind fun x3 => if decide (a2 > (268435455 : UInt32)) then some x3 else (iter wire_Var_l0 (a2, x3)).bind fun (x9, x10) => (appO 1 x10 (some [u8 (x9.toNat : Int)])).bind fun x11 => some x11
/- pouch/wire.Read -/
def wire_Read (a1 : Option (List UInt8)) : Option wire_Reader :=
  some (⟨L a1, 0⟩ : wire_Reader)
/- (*pouch/wire.Reader).Err -/
def wire_Reader_Err (o1 : wire_Reader) : Option (Int × wire_Reader) :=
  some (o1.err, o1)
/- pouch/wire.digits -/
def wire_digits_b0 {ρ : Type} (x2 : List UInt8) (x3 : UInt32) (x4 : Int) (kb_ : UInt32 → Int → Option ρ) (k1_ : UInt32 → Int → Int → Option ρ) (k2_ : Option ρ) : Option ρ :=
  if decide (x4 < 4) then if decide (x4 ≥ (x2.length : Int)) then k1_ (0 : UInt32) 0 2 else (ix x2 x4).bind fun x5 => (chk (decide (0 ≤ (w64 (7 * x4))))).bind fun _ => if decide (x5 ≥ (128 : UInt8)) then kb_ (x3 ||| (shl_u32 (u32 ((x5 &&& ~~~(128 : UInt8)).toNat : Int)) (w64 (7 * x4)))) (w64 (x4 + 1)) else if decide (x5 = (0 : UInt8)) then if decide (x4 > 0) then k1_ (0 : UInt32) 0 3 else k1_ (x3 ||| (shl_u32 (u32 ((x5 &&& ~~~(128 : UInt8)).toNat : Int)) (w64 (7 * x4)))) (w64 (x4 + 1)) 0 else k1_ (x3 ||| (shl_u32 (u32 ((x5 &&& ~~~(128 : UInt8)).toNat : Int)) (w64 (7 * x4)))) (w64 (x4 + 1)) 0 else k2_
def wire_digits_l0 (x2 : List UInt8) (z : UInt32 × Int) : Option ((UInt32 × Int) ⊕ ((UInt32 × Int × Int) ⊕ Unit)) :=
  wire_digits_b0 x2 z.1 z.2 (fun x3 x4 => some (.inl (x3, x4))) (fun y6 y7 y8 => some (.inr (.inl (y6, y7, y8)))) (some (.inr (.inr ())))
def wire_digits (a1 : List UInt8) : Option (UInt32 × Int × Int) :=
  (iter (wire_digits_l0 a1) ((0 : UInt32), 0)).bind fun | .inl (x9, x10, x11) => some (x9, x10, x11) | .inr _ => some ((0 : UInt32), 0, 3)
/- (*pouch/wire.Reader).Var -/
def wire_Reader_Var (o1 : wire_Reader) : Option (UInt32 × wire_Reader) :=
  (wire_Reader_Err o1).bind fun (x2, x3) => if !decide (x2 = 0) then some ((0 : UInt32), x3) else (wire_digits x3.b).bind fun (x4, x5, x6) => (slc x3.b x5 (x3.b.length : Int)).bind fun x7 => some (x4, (⟨x7, x6⟩ : wire_Reader))
/- (*pouch/wire.Reader).take -/
def wire_Reader_take_c0 {ρ : Type} (x6 : Bool) (k1_ : Option ρ) (k2_ : Option ρ) : Option ρ :=
  if x6 then k1_ else k2_
def wire_Reader_take_c1 {ρ : Type} (x8 : Int) (x9 : wire_Reader) (k1_ : (List UInt8) → (List UInt8) → Option ρ) : Option ρ :=
  (slc x9.b 0 x8).bind fun x10 => (slc x9.b x8 (x9.b.length : Int)).bind fun x11 => k1_ x10 x11
def wire_Reader_take (a1 : Int) (o2 : wire_Reader) : Option ((List UInt8) × Bool × wire_Reader) :=
  (wire_Reader_Err (⟨o2.b, o2.err⟩ : wire_Reader)).bind fun (x3, x4) => if !decide (x3 = 0) then some ([], false, x4) else if decide (a1 < 0) then wire_Reader_take_c0 true (some ([], false, (⟨x4.b, 2⟩ : wire_Reader))) (wire_Reader_take_c1 a1 x4 (fun x14 x15 => some (x14, true, (⟨x15, x4.err⟩ : wire_Reader)))) else wire_Reader_take_c0 (decide (a1 > (x4.b.length : Int))) (some ([], false, (⟨x4.b, 2⟩ : wire_Reader))) (wire_Reader_take_c1 a1 x4 (fun x16 x17 => some (x16, true, (⟨x17, x4.err⟩ : wire_Reader))))
/- (*pouch/wire.Reader).Two -/
def wire_Reader_Two (o1 : wire_Reader) : Option (UInt16 × wire_Reader) :=
  (wire_Reader_take 2 (⟨o1.b, o1.err⟩ : wire_Reader)).bind fun (x2, x3, x4) => if !x3 then some ((0 : UInt16), x4) else (ix x2 0).bind fun x5 => (ix x2 1).bind fun x6 => some ((shl_u16 (u16 (x5.toNat : Int)) ((8 : UInt64).toNat : Int)) ||| (u16 (x6.toNat : Int)), x4)
/- (*pouch/wire.Reader).Bin -/
def wire_Reader_Bin (o1 : wire_Reader) : Option ((List UInt8) × wire_Reader) :=
  (wire_Reader_Two o1).bind fun (x2, x3) => (wire_Reader_take (w64 (x2.toNat : Int)) (⟨x3.b, x3.err⟩ : wire_Reader)).bind fun (x4, x5, x6) => some (x4, x6)
/- (*pouch/wire.Reader).Left -/
def wire_Reader_Left (o1 : wire_Reader) : Option (Int × wire_Reader) :=
  (wire_Reader_Err o1).bind fun (x2, x3) => if !decide (x2 = 0) then some (0, x3) else some ((x3.b.length : Int), x3)
/- pouch/wire.VarSize -/
def wire_VarSize (a1 : UInt32) : Option Int :=
  (wire_Var none a1).bind fun x2 => some ((L x2).length : Int)
/- pouch/pouchlaw01.told -/
def l01_told : Option Bool :=
  (wire_Var none (321 : UInt32)).bind fun x1 => (wire_Bin x1 [97, 98]).bind fun x2 => (wire_Read x2).bind fun x3 => if decide (L x2 = [193, 2, 0, 2, 97, 98]) then (wire_Reader_Var x3).bind fun (x4, x5) => if decide (x4 = (321 : UInt32)) then (wire_Reader_Bin (⟨x5.b, x5.err⟩ : wire_Reader)).bind fun (x6, x7) => if decide (x6 = [97, 98]) then (wire_Reader_Left (⟨x7.b, x7.err⟩ : wire_Reader)).bind fun (x8, x9) => if decide (x8 = 0) then (wire_Reader_Err (⟨x9.b, x9.err⟩ : wire_Reader)).bind fun (x10, x11) => if decide (x10 = 0) then (wire_VarSize (321 : UInt32)).bind fun x12 => some (decide (x12 = 2)) else some false else some false else some false else some false else some false
/- (*pouch/wire.Reader).Byte -/
def wire_Reader_Byte (o1 : wire_Reader) : Option (UInt8 × wire_Reader) :=
  (wire_Reader_take 1 (⟨o1.b, o1.err⟩ : wire_Reader)).bind fun (x2, x3, x4) => if !x3 then some ((0 : UInt8), x4) else (ix x2 0).bind fun x5 => some (x5, x4)
/- pouch/pouchlaw01.WireGreat -/
def l01_WireGreat_b0 {ρ : Type} (x3 : UInt8) (x4 : Int) (x5 : Nat) (x6 : Int) (x7 : List UInt8) (kb_ : Int → (List UInt8) → Option ρ) (k1_ : (List UInt8) → Option ρ) : Option ρ :=
  if decide (x6 < x4) then (chk (decide (0 ≤ x6 ∧ x6 < ((x5 : Nat) : Int)))).bind fun _ => ((ix x7 x6).bind fun x8 => some x3).bind fun x9 => kb_ (w64 (x6 + 97)) (setR x7 x6.toNat x9) else k1_ x7
def l01_WireGreat_l0 (x3 : UInt8) (x4 : Int) (x5 : Nat) (z : Int × (List UInt8)) : Option ((Int × (List UInt8)) ⊕ (List UInt8)) :=
  l01_WireGreat_b0 x3 x4 x5 z.1 z.2 (fun x6 x7 => some (.inl (x6, x7))) (fun y10 => some (.inr y10))
def l01_WireGreat (a1 : Int) (a2 : UInt8) : Option Bool :=
  (chk (decide ((70000 : UInt64) ≠ 0))).bind fun _ => (chk (decide ((w64 (((u64 a1) % (70000 : UInt64)).toNat : Int)) = (w64 (((u64 a1) % (70000 : UInt64)).toNat : Int)) ∧ 0 ≤ (w64 (((u64 a1) % (70000 : UInt64)).toNat : Int)) ∧ (w64 (((u64 a1) % (70000 : UInt64)).toNat : Int)) * ((1 : Nat) : Int) ≤ (room : Int) ∧ (w64 (((u64 a1) % (70000 : UInt64)).toNat : Int)) ≤ (room : Int)))).bind fun _ => (iter (l01_WireGreat_l0 a2 (w64 (((u64 a1) % (70000 : UInt64)).toNat : Int)) ((w64 (((u64 a1) % (70000 : UInt64)).toNat : Int)).toNat)) (0, repR (w64 (((u64 a1) % (70000 : UInt64)).toNat : Int)).toNat (0 : UInt8))).bind fun x11 => (chk (decide (((w64 (((u64 a1) % (70000 : UInt64)).toNat : Int)).toNat) ≤ x11.length))).bind fun _ => (wire_Bin (some [(7 : UInt8)]) (L (some (x11.take ((w64 (((u64 a1) % (70000 : UInt64)).toNat : Int)).toNat))))).bind fun x12 => if decide ((w64 (((u64 a1) % (70000 : UInt64)).toNat : Int)) > 65535) then (l01_told).bind fun x13 => if x13 then some (decide (((L x12).length : Int) = 1)) else some false else (wire_Read x12).bind fun x14 => (l01_told).bind fun x15 => if x15 then if decide (((L x12).length : Int) = (w64 ((w64 (((u64 a1) % (70000 : UInt64)).toNat : Int)) + 3))) then (wire_Reader_Byte (⟨x14.b, x14.err⟩ : wire_Reader)).bind fun (x16, x17) => if decide (x16 = (7 : UInt8)) then (wire_Reader_Bin (⟨x17.b, x17.err⟩ : wire_Reader)).bind fun (x18, x19) => some (decide (x18 = L (some (x11.take ((w64 (((u64 a1) % (70000 : UInt64)).toNat : Int)).toNat))))) else some false else some false else some false
end Go.Rv
