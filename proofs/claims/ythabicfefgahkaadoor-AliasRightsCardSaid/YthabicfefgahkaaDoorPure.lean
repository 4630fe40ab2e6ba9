/- The program's functions as plain functions. -/
import Derived.Test.YthabicfefgahkaaDoorTys
set_option linter.unusedSimpArgs false
set_option linter.unusedVariables false
set_option maxRecDepth 100000
namespace Go.Rv
/- unicode/utf8.ValidString -/
/- strings.Contains -/
/- pouch/text.Right -/
def text_Right (a1 : List UInt8) : Option Bool :=
  if decide ((a1.length : Int) ≤ 65535) then (utf8_ValidString a1).bind fun x2 => if x2 then (strings_Contains a1 [0]).bind fun x3 => some (!x3) else some false else some false
/- strings.ContainsAny -/
/- pouch/topic.Wild -/
def topic_Wild (a1 : List UInt8) : Option Bool :=
  (strings_ContainsAny a1 [43, 35]).bind fun x2 => some x2
/- pouch/topic.Name -/
def topic_Name (a1 : List UInt8) : Option Bool :=
  if !decide (a1 = []) then (text_Right a1).bind fun x2 => if x2 then (topic_Wild a1).bind fun x3 => some (!x3) else some false else some false
/- cmp.isNaN[uint16] -/
def cmp_isNaN_uint16 (a1 : UInt16) : Option Bool :=
  some (!decide (a1 = a1))
/- cmp.Compare[uint16] -/
def cmp_Compare_uint16 (a1 : UInt16) (a2 : UInt16) : Option Int :=
  (cmp_isNaN_uint16 a1).bind fun x3 => (cmp_isNaN_uint16 a2).bind fun x4 => if x3 then if x4 then some 0 else some (-1) else if x4 then some 1 else if decide (a1 < a2) then some (-1) else if decide (a1 > a2) then some 1 else some 0
/- pouch/alias.order -/
def alias_order (a1 : alias_Row) (a2 : alias_Row) : Option Int :=
  (cmp_Compare_uint16 a1.Alias a2.Alias).bind fun x3 => some x3
/- slices.BinarySearchFunc[pouch/alias.Table,pouch/alias.Row,pouch/alias.Row] -/
def slices_BinarySearchFunc_alias_Table_alias_Row_alias_Row_b0 {ρ : Type} (x3 : Option (List alias_Row)) (x7 : alias_Row) (x5 : Int) (x6 : Int) (kb_ : Int → Int → Option ρ) (k1_ : Int → Option ρ) : Option ρ :=
  if decide (x5 < x6) then (ix (L x3) (w64 ((shr_u64 (u64 (w64 (x5 + x6))) ((1 : UInt64).toNat : Int)).toNat : Int))).bind fun x8 => (alias_order (⟨x8.Alias, x8.Topic⟩ : alias_Row) (⟨x7.Alias, x7.Topic⟩ : alias_Row)).bind fun x9 => if decide (x9 < 0) then kb_ (w64 ((w64 ((shr_u64 (u64 (w64 (x5 + x6))) ((1 : UInt64).toNat : Int)).toNat : Int)) + 1)) x6 else kb_ x5 (w64 ((shr_u64 (u64 (w64 (x5 + x6))) ((1 : UInt64).toNat : Int)).toNat : Int)) else k1_ x5
def slices_BinarySearchFunc_alias_Table_alias_Row_alias_Row_l0 (x3 : Option (List alias_Row)) (x7 : alias_Row) (z : Int × Int) : Option ((Int × Int) ⊕ Int) :=
  slices_BinarySearchFunc_alias_Table_alias_Row_alias_Row_b0 x3 x7 z.1 z.2 (fun x5 x6 => some (.inl (x5, x6))) (fun y10 => some (.inr y10))
def slices_BinarySearchFunc_alias_Table_alias_Row_alias_Row (a1 : Option (List alias_Row)) (a2 : alias_Row) : Option (Int × Bool) :=
  (iter (slices_BinarySearchFunc_alias_Table_alias_Row_alias_Row_l0 a1 a2) (0, ((L a1).length : Int))).bind fun x11 => if decide (x11 < ((L a1).length : Int)) then (ix (L a1) x11).bind fun x12 => (alias_order (⟨x12.Alias, x12.Topic⟩ : alias_Row) a2).bind fun x13 => some (x11, decide (x13 = 0)) else some (x11, false)
/- pouch/alias.find -/
def alias_find (a1 : Option (List alias_Row)) (a2 : UInt16) : Option (Int × Bool) :=
  (slices_BinarySearchFunc_alias_Table_alias_Row_alias_Row a1 (⟨a2, []⟩ : alias_Row)).bind fun (x3, x4) => some (x3, x4)
/- slices.Clone[pouch/alias.Table,pouch/alias.Row] -/
def slices_Clone_alias_Table_alias_Row_o (a1 : Option (List alias_Row)) : Option (Option (List alias_Row)) :=
  if a1.isNone then some none else (appO 24 (some []) a1).bind fun x2 => some x2
/- slices.Clone[pouch/alias.Table,pouch/alias.Row] -/
def slices_Clone_alias_Table_alias_Row_v (a1 : Option (List alias_Row)) : Option (((Option (List alias_Row))) ⊕ (Nat × (List alias_Row))) :=
  if a1.isNone then some (.inl none) else (chk (decide ((L a1).length * 24 ≤ room ∧ (L a1).length ≤ room))).bind fun _ => some (.inr ((L a1).length, L a1))
/- slices.Clone[pouch/alias.Table,pouch/alias.Row] -/
/- slices.Insert[pouch/alias.Table,pouch/alias.Row] -/
/- pouch/alias.Use -/
def alias_Use_c0 {ρ : Type} (x6 : Option (List alias_Row)) (x7 : UInt16) (x8 : List UInt8) (k1_ : Option ρ) (k2_ : (Option (List alias_Row)) → Option ρ) (k3_ : (Option (List alias_Row)) → (List UInt8) → (Option (List alias_Row)) → (Option (List alias_Row)) → Option ρ) (k4_ : (List alias_Row) → Option ρ) (k5_ : Nat → (List UInt8) → Nat → Nat → (List alias_Row) → Option ρ) (k6_ : Nat → (List alias_Row) → Option ρ) (k7_ : (Option (List alias_Row)) → Option ρ) : Option ρ :=
  (alias_find x6 x7).bind fun (x9, x10) => (cloneF Tb 1 24 x6).bind fun | .inl _ => if decide (x8 = []) then if !x10 then k1_ else if decide (x8 = []) then none else if x10 then none else (insE x9 (some [(⟨x7, x8⟩ : alias_Row)])).bind fun x12 => k2_ (some x12) else if decide (x8 = []) then none else if x10 then none else (insE x9 (some [(⟨x7, x8⟩ : alias_Row)])).bind fun x13 => k2_ (some x13) | .inr (.inl _) => if decide (x8 = []) then if !x10 then k1_ else if decide (x8 = []) then (ix (L ((some []) : Option (List alias_Row))) x9).bind fun x14 => k3_ (some []) x14.Topic (some []) (some []) else if x10 then (ix (L ((some []) : Option (List alias_Row))) x9).bind fun x15 => none else (insE x9 (some [(⟨x7, x8⟩ : alias_Row)])).bind fun x16 => k2_ (some x16) else if decide (x8 = []) then (ix (L ((some []) : Option (List alias_Row))) x9).bind fun x17 => k3_ (some []) x17.Topic (some []) (some []) else if x10 then (ix (L ((some []) : Option (List alias_Row))) x9).bind fun x18 => none else (insE x9 (some [(⟨x7, x8⟩ : alias_Row)])).bind fun x19 => k2_ (some x19) | .inr (.inr x11) => if decide (x8 = []) then if !x10 then k4_ x11 else if decide (x8 = []) then (chk (decide (0 ≤ x9 ∧ x9 < ((x11.length : Nat) : Int)))).bind fun _ => (ix x11 x9).bind fun x20 => k5_ x11.length x20.Topic x11.length x11.length x11 else if x10 then (chk (decide (0 ≤ x9 ∧ x9 < ((x11.length : Nat) : Int)))).bind fun _ => ((ix x11 x9).bind fun x21 => some (⟨x21.Alias, x8⟩ : alias_Row)).bind fun x22 => k6_ x11.length (setR x11 x9.toNat x22) else (insF x11 x11.length x9 (some [(⟨x7, x8⟩ : alias_Row)])).bind fun x23 => k7_ (some x23) else if decide (x8 = []) then (chk (decide (0 ≤ x9 ∧ x9 < ((x11.length : Nat) : Int)))).bind fun _ => (ix x11 x9).bind fun x24 => k5_ x11.length x24.Topic x11.length x11.length x11 else if x10 then (chk (decide (0 ≤ x9 ∧ x9 < ((x11.length : Nat) : Int)))).bind fun _ => ((ix x11 x9).bind fun x25 => some (⟨x25.Alias, x8⟩ : alias_Row)).bind fun x26 => k6_ x11.length (setR x11 x9.toNat x26) else (insF x11 x11.length x9 (some [(⟨x7, x8⟩ : alias_Row)])).bind fun x27 => k7_ (some x27)
def alias_Use (a1 : Option (List alias_Row)) (a2 : UInt16) (a3 : UInt16) (a4 : List UInt8) : Option ((Option (List alias_Row)) × (List UInt8) × Int) :=
  if decide (a3 = (0 : UInt16)) then some (a1, [], 1) else if decide (a3 > a2) then some (a1, [], 1) else if !decide (a4 = []) then (topic_Name a4).bind fun x5 => if !x5 then some (a1, [], 1) else alias_Use_c0 a1 a3 a4 (some (a1, [], 8)) (fun x42 => some (x42, a4, 0)) (fun x43 x44 x45 x46 => some (x43, x44, 0)) (fun x47 => some (a1, [], 8)) (fun x48 x49 x50 x51 x52 => (chk (decide (x48 ≤ x52.length))).bind fun _ => (chk (decide (x50 ≤ x52.length))).bind fun _ => (chk (decide (x51 ≤ x52.length))).bind fun _ => some ((some (x52.take x48)), x49, 0)) (fun x53 x54 => (chk (decide (x53 ≤ x54.length))).bind fun _ => some ((some (x54.take x53)), a4, 0)) (fun x55 => some (x55, a4, 0)) else alias_Use_c0 a1 a3 a4 (some (a1, [], 8)) (fun x56 => some (x56, a4, 0)) (fun x57 x58 x59 x60 => some (x57, x58, 0)) (fun x61 => some (a1, [], 8)) (fun x62 x63 x64 x65 x66 => (chk (decide (x62 ≤ x66.length))).bind fun _ => (chk (decide (x64 ≤ x66.length))).bind fun _ => (chk (decide (x65 ≤ x66.length))).bind fun _ => some ((some (x66.take x62)), x63, 0)) (fun x67 x68 => (chk (decide (x67 ≤ x68.length))).bind fun _ => some ((some (x68.take x67)), a4, 0)) (fun x69 => some (x69, a4, 0))
/- pouch/alias.Right -/
def alias_Right_b0 {ρ : Type} (x2 : Option (List alias_Row)) (x3 : Option (List alias_Row)) (x4 : Int) (x5 : Int) (kb_ : Int → Option ρ) (k1_ : alias_Row → Option ρ) (k2_ : Option ρ) : Option ρ :=
  if decide (x5 < x4) then (ix (L x3) x5).bind fun x6 => if decide (x6.Alias = (0 : UInt16)) then k1_ x6 else if decide (x5 > 0) then (ix (L x2) (w64 (x5 - 1))).bind fun x7 => (alias_order (⟨x7.Alias, x7.Topic⟩ : alias_Row) (⟨x6.Alias, x6.Topic⟩ : alias_Row)).bind fun x8 => if decide (x8 ≥ 0) then k1_ x6 else (topic_Name x6.Topic).bind fun x9 => if !x9 then k1_ x6 else kb_ (w64 (x5 + 1)) else (topic_Name x6.Topic).bind fun x10 => if !x10 then k1_ x6 else kb_ (w64 (x5 + 1)) else k2_
def alias_Right_l0 (x2 : Option (List alias_Row)) (x3 : Option (List alias_Row)) (x4 : Int) (z : Int) : Option (Int ⊕ (alias_Row ⊕ Unit)) :=
  alias_Right_b0 x2 x3 x4 z (fun x5 => some (.inl x5)) (fun y15 => some (.inr (.inl y15))) (some (.inr (.inr ())))
def alias_Right (a1 : Option (List alias_Row)) : Option Bool :=
  (iter (alias_Right_l0 a1 a1 ((L a1).length : Int)) 0).bind fun | .inl x16 => some false | .inr _ => some true
/- pouch/pouchlaw12.told -/
def l12_told : Option Bool :=
  (alias_Use none (5 : UInt16) (3 : UInt16) [97]).bind fun (x1, x2, x3) => (alias_Use x1 (5 : UInt16) (3 : UInt16) []).bind fun (x4, x5, x6) => (alias_Use x1 (5 : UInt16) (4 : UInt16) []).bind fun (x7, x8, x9) => if decide (x2 = [97]) then if decide (x3 = 0) then if decide (x5 = [97]) then if decide (x6 = 0) then if decide (x9 = 8) then (alias_Right x1).bind fun x10 => some x10 else some false else some false else some false else some false else some false
/- pouch/pouchlaw12.To -/
def l12_To_b0 {ρ : Type} (x2 : Option (List r12_Row)) (x3 : Option (List alias_Row)) (x4 : Int) (kb_ : (Option (List alias_Row)) → Int → Option ρ) (k1_ : (Option (List alias_Row)) → Option ρ) : Option ρ :=
  if decide (x4 < ((L x2).length : Int)) then (ix (L x2) x4).bind fun x5 => (ix (L x2) x4).bind fun x6 => (appO 24 x3 (some [(⟨x5.Alias, x6.Topic⟩ : alias_Row)])).bind fun x7 => kb_ x7 (w64 (x4 + 1)) else k1_ x3
def l12_To_l0 (x2 : Option (List r12_Row)) (z : (Option (List alias_Row)) × Int) : Option (((Option (List alias_Row)) × Int) ⊕ (Option (List alias_Row))) :=
  l12_To_b0 x2 z.1 z.2 (fun x3 x4 => some (.inl (x3, x4))) (fun y8 => some (.inr y8))
def l12_To (a1 : Option (List r12_Row)) : Option (Option (List alias_Row)) :=
  (iter (l12_To_l0 a1) (none, 0)).bind fun x9 => some x9
/- pouch/pouchref02.sign -/
def r02_sign_b1 {ρ : Type} (x10 : List UInt8) (x11 : Int) (x12 : Int) (x13 : Int) (x15 : Int) (kb_ : Int → Int → Option ρ) (k1_ : Option ρ) (k2_ : Int → Option ρ) : Option ρ :=
  if decide (x15 < x12) then (ix x10 (w64 (x11 + x15))).bind fun x16 => if decide ((w64 (x16.toNat : Int)) < 128) then k1_ else if decide ((w64 (x16.toNat : Int)) ≥ 192) then k1_ else kb_ (w64 ((w64 ((w64 (64 * x13)) + (w64 (x16.toNat : Int)))) - 128)) (w64 (x15 + 1)) else k2_ x13
def r02_sign_l1 (x10 : List UInt8) (x11 : Int) (x12 : Int) (z : Int × Int) : Option ((Int × Int) ⊕ (Unit ⊕ Int)) :=
  r02_sign_b1 x10 x11 x12 z.1 z.2 (fun x13 x15 => some (.inl (x13, x15))) (some (.inr (.inl ()))) (fun y17 => some (.inr (.inr y17)))
def r02_sign_c0 {ρ : Type} (x4 : List UInt8) (x5 : Int) (x6 : Int) (x7 : Int) (x8 : Int) (x9 : Int) (k1_ : Int → Int → Option ρ) : Option ρ :=
  if decide (x6 ≥ 248) then k1_ 0 0 else if decide ((w64 (x5 + x7)) > (x4.length : Int)) then k1_ 0 0 else (iter (r02_sign_l1 x4 x5 x7) (x8, 1)).bind fun | .inl _ => k1_ 0 0 | .inr x18 => if decide (x18 < x9) then k1_ 0 0 else if decide (x18 > 1114111) then k1_ 0 0 else if decide (x18 ≥ 55296) then if decide (x18 ≤ 57343) then k1_ 0 0 else k1_ x18 x7 else k1_ x18 x7
def r02_sign (a1 : List UInt8) (a2 : Int) : Option (Int × Int) :=
  (ix a1 a2).bind fun x3 => if decide ((w64 (x3.toNat : Int)) ≥ 240) then r02_sign_c0 a1 a2 (w64 (x3.toNat : Int)) 4 (w64 ((w64 (x3.toNat : Int)) - 240)) 65536 (fun x21 x22 => some (x21, x22)) else if decide ((w64 (x3.toNat : Int)) ≥ 224) then r02_sign_c0 a1 a2 (w64 (x3.toNat : Int)) 3 (w64 ((w64 (x3.toNat : Int)) - 224)) 2048 (fun x23 x24 => some (x23, x24)) else if decide ((w64 (x3.toNat : Int)) ≥ 192) then r02_sign_c0 a1 a2 (w64 (x3.toNat : Int)) 2 (w64 ((w64 (x3.toNat : Int)) - 192)) 128 (fun x25 x26 => some (x25, x26)) else if decide ((w64 (x3.toNat : Int)) ≥ 128) then some (0, 0) else r02_sign_c0 a1 a2 (w64 (x3.toNat : Int)) 1 (w64 (x3.toNat : Int)) 1 (fun x27 x28 => some (x27, x28))
/- pouch/pouchref02.Runes -/
def r02_Runes_b0 {ρ : Type} (x2 : List UInt8) (x3 : Int) (x4 : Int) (kb_ : Int → Int → Option ρ) (k1_ : Option ρ) (k2_ : Int → Option ρ) : Option ρ :=
  if decide (x4 < (x2.length : Int)) then (r02_sign x2 x4).bind fun (x5, x6) => if decide (x6 = 0) then k1_ else kb_ (w64 (x3 + 1)) (w64 (x4 + x6)) else k2_ x3
def r02_Runes_l0 (x2 : List UInt8) (z : Int × Int) : Option ((Int × Int) ⊕ (Unit ⊕ Int)) :=
  r02_Runes_b0 x2 z.1 z.2 (fun x3 x4 => some (.inl (x3, x4))) (some (.inr (.inl ()))) (fun y7 => some (.inr (.inr y7)))
def r02_Runes (a1 : List UInt8) : Option Int :=
  if decide ((a1.length : Int) > 65535) then some (-1) else (iter (r02_Runes_l0 a1) (0, 0)).bind fun | .inl _ => some (-1) | .inr x8 => some x8
/- pouch/pouchref02.Right -/
def r02_Right (a1 : List UInt8) : Option Bool :=
  (r02_Runes a1).bind fun x2 => some (decide (x2 ≥ 0))
/- pouch/pouchref04.has -/
def r04_has_b0 {ρ : Type} (x3 : List UInt8) (x4 : UInt8) (x5 : Int) (kb_ : Int → Option ρ) (k1_ : Option ρ) (k2_ : Option ρ) : Option ρ :=
  if decide (x5 < (x3.length : Int)) then (ix x3 x5).bind fun x6 => if decide (x6 = x4) then k1_ else kb_ (w64 (x5 + 1)) else k2_
def r04_has_l0 (x3 : List UInt8) (x4 : UInt8) (z : Int) : Option (Int ⊕ (Unit ⊕ Unit)) :=
  r04_has_b0 x3 x4 z (fun x5 => some (.inl x5)) (some (.inr (.inl ()))) (some (.inr (.inr ())))
def r04_has (a1 : List UInt8) (a2 : UInt8) : Option Bool :=
  (iter (r04_has_l0 a1 a2) 0).bind fun | .inl _ => some true | .inr _ => some false
/- pouch/pouchref04.Wild -/
def r04_Wild (a1 : List UInt8) : Option Bool :=
  (r04_has a1 (43 : UInt8)).bind fun x2 => if x2 then some true else (r04_has a1 (35 : UInt8)).bind fun x3 => some x3
/- pouch/pouchref04.Name -/
def r04_Name (a1 : List UInt8) : Option Bool :=
  (r02_Right a1).bind fun x2 => if x2 then if decide ((a1.length : Int) > 0) then (r04_Wild a1).bind fun x3 => some (!x3) else some false else some false
/- pouch/pouchref12.Right -/
def r12_Right_b0 {ρ : Type} (x2 : Option (List r12_Row)) (x3 : Int) (kb_ : Int → Option ρ) (k1_ : Option ρ) (k2_ : Option ρ) : Option ρ :=
  if decide (x3 < ((L x2).length : Int)) then (ix (L x2) x3).bind fun x4 => if decide (x4.Alias = (0 : UInt16)) then k1_ else if decide (x3 > 0) then (ix (L x2) (w64 (x3 - 1))).bind fun x5 => (ix (L x2) x3).bind fun x6 => if decide (x5.Alias ≥ x6.Alias) then k1_ else (ix (L x2) x3).bind fun x7 => (r04_Name x7.Topic).bind fun x8 => if !x8 then k1_ else kb_ (w64 (x3 + 1)) else (ix (L x2) x3).bind fun x9 => (r04_Name x9.Topic).bind fun x10 => if !x10 then k1_ else kb_ (w64 (x3 + 1)) else k2_
def r12_Right_l0 (x2 : Option (List r12_Row)) (z : Int) : Option (Int ⊕ (Unit ⊕ Unit)) :=
  r12_Right_b0 x2 z (fun x3 => some (.inl x3)) (some (.inr (.inl ()))) (some (.inr (.inr ())))
def r12_Right (a1 : Option (List r12_Row)) : Option Bool :=
  (iter (r12_Right_l0 a1) 0).bind fun | .inl _ => some false | .inr _ => some true
/- pouch/pouchlaw12.AliasRights -/
def l12_AliasRights_b0 {ρ : Type} (x3 : Option (List r12_Row)) (x4 : Int) (kb_ : Int → Option ρ) (k1_ : Bool → Option ρ) (k2_ : Option ρ) : Option ρ :=
  if decide (x4 < ((L x3).length : Int)) then (ix (L x3) x4).bind fun x5 => if decide ((x5.Topic.length : Int) > 200) then (l12_told).bind fun x6 => k1_ x6 else kb_ (w64 (x4 + 1)) else k2_
def l12_AliasRights_l0 (x3 : Option (List r12_Row)) (z : Int) : Option (Int ⊕ (Bool ⊕ Unit)) :=
  l12_AliasRights_b0 x3 z (fun x4 => some (.inl x4)) (fun y7 => some (.inr (.inl y7))) (some (.inr (.inr ())))
def l12_AliasRights (a1 : Option (List r12_Row)) : Option Bool :=
  (slO a1 0 (imin ((L a1).length : Int) 30)).bind fun x2 => (iter (l12_AliasRights_l0 x2) 0).bind fun | .inl x8 => some x8 | .inr _ => (l12_told).bind fun x9 => if x9 then (l12_To x2).bind fun x10 => (alias_Right x10).bind fun x11 => (r12_Right x2).bind fun x12 => some (x11 == x12) else some false
/- pouch/pouchlaw12.From -/
def l12_From_b0 {ρ : Type} (x2 : Option (List alias_Row)) (x3 : Option (List r12_Row)) (x4 : Int) (kb_ : (Option (List r12_Row)) → Int → Option ρ) (k1_ : (Option (List r12_Row)) → Option ρ) : Option ρ :=
  if decide (x4 < ((L x2).length : Int)) then (ix (L x2) x4).bind fun x5 => (ix (L x2) x4).bind fun x6 => (appO 24 x3 (some [(⟨x5.Alias, x6.Topic⟩ : r12_Row)])).bind fun x7 => kb_ x7 (w64 (x4 + 1)) else k1_ x3
def l12_From_l0 (x2 : Option (List alias_Row)) (z : (Option (List r12_Row)) × Int) : Option (((Option (List r12_Row)) × Int) ⊕ (Option (List r12_Row))) :=
  l12_From_b0 x2 z.1 z.2 (fun x3 x4 => some (.inl (x3, x4))) (fun y8 => some (.inr y8))
def l12_From (a1 : Option (List alias_Row)) : Option (Option (List r12_Row)) :=
  (iter (l12_From_l0 a1) (none, 0)).bind fun x9 => some x9
/- pouch/pouchref12.Get -/
def r12_Get_b0 {ρ : Type} (x3 : Option (List r12_Row)) (x4 : UInt16) (x5 : Int) (kb_ : Int → Option ρ) (k1_ : (List UInt8) → Option ρ) (k2_ : Option ρ) : Option ρ :=
  if decide (x5 < ((L x3).length : Int)) then (ix (L x3) x5).bind fun x6 => if decide (x6.Alias = x4) then (ix (L x3) x5).bind fun x7 => k1_ x7.Topic else kb_ (w64 (x5 + 1)) else k2_
def r12_Get_l0 (x3 : Option (List r12_Row)) (x4 : UInt16) (z : Int) : Option (Int ⊕ (((List UInt8)) ⊕ Unit)) :=
  r12_Get_b0 x3 x4 z (fun x5 => some (.inl x5)) (fun y8 => some (.inr (.inl y8))) (some (.inr (.inr ())))
def r12_Get (a1 : Option (List r12_Row)) (a2 : UInt16) : Option ((List UInt8) × Bool) :=
  (iter (r12_Get_l0 a1 a2) 0).bind fun | .inl x9 => some (x9, true) | .inr _ => some ([], false)
/- pouch/pouchref12.Use -/
def r12_Use_c2 {ρ : Type} (x19 : UInt16) (x20 : List UInt8) (x21 : Option (List r12_Row)) (x22 : Bool) (x24 : Bool) (k1_ : (Option (List r12_Row)) → Bool → Option ρ) : Option ρ :=
  if x24 then (appO 24 x21 (some [(⟨x19, x20⟩ : r12_Row)])).bind fun x25 => k1_ x25 true else k1_ x21 x22
def r12_Use_c3 {ρ : Type} (x32 : Option (List r12_Row)) (x33 : UInt16) (x35 : Option (List r12_Row)) (x37 : Int) (k1_ : (Option (List r12_Row)) → Option ρ) (k2_ : Option ρ) : Option ρ :=
  (ix (L x32) x37).bind fun x38 => if !decide (x38.Alias = x33) then (ix (L x32) x37).bind fun x39 => (appO 24 x35 (some [x39])).bind fun x40 => k1_ x40 else k2_
def r12_Use_b1 {ρ : Type} (x11 : Option (List r12_Row)) (x12 : UInt16) (x13 : List UInt8) (x14 : Option (List r12_Row)) (x15 : Bool) (x16 : Int) (kb_ : (Option (List r12_Row)) → Bool → Int → Option ρ) (k1_ : (Option (List r12_Row)) → Bool → Option ρ) : Option ρ :=
  if decide (x16 < ((L x11).length : Int)) then if !x15 then (ix (L x11) x16).bind fun x17 => r12_Use_c2 x12 x13 x14 x15 (decide (x17.Alias ≥ x12)) (fun x28 x29 => r12_Use_c3 x11 x12 x28 x16 (fun x42 => kb_ x42 x29 (w64 (x16 + 1))) (kb_ x28 x29 (w64 (x16 + 1)))) else r12_Use_c2 x12 x13 x14 x15 false (fun x30 x31 => r12_Use_c3 x11 x12 x30 x16 (fun x43 => kb_ x43 x31 (w64 (x16 + 1))) (kb_ x30 x31 (w64 (x16 + 1)))) else k1_ x14 x15
def r12_Use_l1 (x11 : Option (List r12_Row)) (x12 : UInt16) (x13 : List UInt8) (z : (Option (List r12_Row)) × Bool × Int) : Option (((Option (List r12_Row)) × Bool × Int) ⊕ ((Option (List r12_Row)) × Bool)) :=
  r12_Use_b1 x11 x12 x13 z.1 z.2.1 z.2.2 (fun x14 x15 x16 => some (.inl (x14, x15, x16))) (fun y44 y45 => some (.inr (y44, y45)))
def r12_Use_c0 {ρ : Type} (x6 : Option (List r12_Row)) (x7 : UInt16) (x8 : List UInt8) (k1_ : (List UInt8) → Int → Option ρ) (k2_ : (Option (List r12_Row)) → Option ρ) : Option ρ :=
  if decide (x8 = []) then (r12_Get x6 x7).bind fun (x9, x10) => if !x10 then k1_ [] 8 else k1_ x9 0 else (iter (r12_Use_l1 x6 x7 x8) (none, false, 0)).bind fun (x46, x47) => if !x47 then (appO 24 x46 (some [(⟨x7, x8⟩ : r12_Row)])).bind fun x48 => k2_ x48 else k2_ x46
def r12_Use (a1 : Option (List r12_Row)) (a2 : UInt16) (a3 : UInt16) (a4 : List UInt8) : Option ((Option (List r12_Row)) × (List UInt8) × Int) :=
  if decide (a3 = (0 : UInt16)) then some (a1, [], 1) else if decide (a3 > a2) then some (a1, [], 1) else if !decide (a4 = []) then (r04_Name a4).bind fun x5 => if !x5 then some (a1, [], 1) else r12_Use_c0 a1 a3 a4 (fun x52 x53 => some (a1, x52, x53)) (fun x54 => some (x54, a4, 0)) else r12_Use_c0 a1 a3 a4 (fun x55 x56 => some (a1, x55, x56)) (fun x57 => some (x57, a4, 0))
/- pouch/pouchref12.Same -/
def r12_Same_b0 {ρ : Type} (x3 : Option (List r12_Row)) (x4 : Option (List r12_Row)) (x5 : Int) (kb_ : Int → Option ρ) (k1_ : Option ρ) (k2_ : Option ρ) : Option ρ :=
  if decide (x5 < ((L x3).length : Int)) then (ix (L x3) x5).bind fun x6 => (ix (L x4) x5).bind fun x7 => if !((decide (x6.Alias = x7.Alias)) && (decide (x6.Topic = x7.Topic))) then k1_ else kb_ (w64 (x5 + 1)) else k2_
def r12_Same_l0 (x3 : Option (List r12_Row)) (x4 : Option (List r12_Row)) (z : Int) : Option (Int ⊕ (Unit ⊕ Unit)) :=
  r12_Same_b0 x3 x4 z (fun x5 => some (.inl x5)) (some (.inr (.inl ()))) (some (.inr (.inr ())))
def r12_Same (a1 : Option (List r12_Row)) (a2 : Option (List r12_Row)) : Option Bool :=
  if !decide (((L a1).length : Int) = ((L a2).length : Int)) then some false else (iter (r12_Same_l0 a1 a2) 0).bind fun | .inl _ => some false | .inr _ => some true
/- pouch/alias.Get -/
def alias_Get (a1 : Option (List alias_Row)) (a2 : UInt16) : Option ((List UInt8) × Bool) :=
  (alias_find a1 a2).bind fun (x3, x4) => if !x4 then some ([], false) else (ix (L a1) x3).bind fun x5 => some (x5.Topic, true)
/- pouch/pouchlaw12.AliasUses -/
def l12_AliasUses_b0 {ρ : Type} (x4 : UInt16) (x5 : Option (List l12_Op)) (x6 : Option (List alias_Row)) (x7 : Option (List r12_Row)) (x8 : Int) (kb_ : (Option (List alias_Row)) → (Option (List r12_Row)) → Int → Option ρ) (k1_ : Bool → Option ρ) (k2_ : (Option (List alias_Row)) → Option ρ) : Option ρ :=
  if decide (x8 < ((L x5).length : Int)) then if decide (x8 < 60) then (ix (L x5) x8).bind fun x9 => if decide ((x9.Name.length : Int) > 200) then k1_ true else (l12_From x6).bind fun x10 => (ix (L x5) x8).bind fun x11 => (ix (L x5) x8).bind fun x12 => (alias_Use x6 x4 x11.Alias x12.Name).bind fun (x13, x14, x15) => (ix (L x5) x8).bind fun x16 => (ix (L x5) x8).bind fun x17 => (r12_Use x7 x4 x16.Alias x17.Name).bind fun (x18, x19, x20) => if !decide (x15 = x20) then k1_ false else if !decide (x14 = x19) then k1_ false else (l12_From x13).bind fun x21 => (r12_Same x21 x18).bind fun x22 => if !x22 then k1_ false else (l12_From x6).bind fun x23 => (r12_Same x23 x10).bind fun x24 => if !x24 then k1_ false else (alias_Right x13).bind fun x25 => if !x25 then k1_ false else (ix (L x5) x8).bind fun x26 => (alias_Get x13 x26.Alias).bind fun (x27, x28) => (ix (L x5) x8).bind fun x29 => (r12_Get x18 x29.Alias).bind fun (x30, x31) => if !decide (x27 = x30) then k1_ false else if !(x28 == x31) then k1_ false else kb_ x13 x18 (w64 (x8 + 1)) else k2_ x6 else k2_ x6
def l12_AliasUses_l0 (x4 : UInt16) (x5 : Option (List l12_Op)) (z : (Option (List alias_Row)) × (Option (List r12_Row)) × Int) : Option (((Option (List alias_Row)) × (Option (List r12_Row)) × Int) ⊕ (Bool ⊕ ((Option (List alias_Row))))) :=
  l12_AliasUses_b0 x4 x5 z.1 z.2.1 z.2.2 (fun x6 x7 x8 => some (.inl (x6, x7, x8))) (fun y32 => some (.inr (.inl y32))) (fun y33 => some (.inr (.inr y33)))
def l12_AliasUses (a1 : UInt16) (a2 : Option (List l12_Op)) : Option Bool :=
  (l12_told).bind fun x3 => if !x3 then some false else (iter (l12_AliasUses_l0 a1 a2) (none, none, 0)).bind fun | .inl x34 => some x34 | .inr x35 => some (decide (((L x35).length : Int) ≤ (w64 (a1.toNat : Int))))
end Go.Rv
