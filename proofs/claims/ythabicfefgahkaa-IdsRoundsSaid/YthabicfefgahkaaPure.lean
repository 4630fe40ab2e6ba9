/- The program's functions as plain functions. -/
import Derived.Test.YthabicfefgahkaaTys
set_option linter.unusedSimpArgs false
set_option linter.unusedVariables false
set_option maxRecDepth 100000
namespace Go.Rv
/- pouch/ids.counts -/
def ids_counts (a1 : Int) (a2 : Int) : Option Bool :=
  if decide (a2 = 0) then some true else if decide (a2 > 0) then some (decide (a1 ≥ 5)) else some false
/- cmp.isNaN[uint16] -/
def cmp_isNaN_uint16 (a1 : UInt16) : Option Bool :=
  some (!decide (a1 = a1))
/- cmp.Compare[uint16] -/
def cmp_Compare_uint16 (a1 : UInt16) (a2 : UInt16) : Option Int :=
  (cmp_isNaN_uint16 a1).bind fun x3 => (cmp_isNaN_uint16 a2).bind fun x4 => if x3 then if x4 then some 0 else some (-1) else if x4 then some 1 else if decide (a1 < a2) then some (-1) else if decide (a1 > a2) then some 1 else some 0
/- pouch/ids.order -/
def ids_order (a1 : ids_Row) (a2 : ids_Row) : Option Int :=
  (cmp_Compare_uint16 a1.Id a2.Id).bind fun x3 => some x3
/- slices.BinarySearchFunc[pouch/ids.Table,pouch/ids.Row,pouch/ids.Row] -/
def slices_BinarySearchFunc_ids_Table_ids_Row_ids_Row_b0 {ρ : Type} (x3 : Option (List ids_Row)) (x7 : ids_Row) (x5 : Int) (x6 : Int) (kb_ : Int → Int → Option ρ) (k1_ : Int → Option ρ) : Option ρ :=
  if decide (x5 < x6) then (ix (L x3) (w64 ((shr_u64 (u64 (w64 (x5 + x6))) ((1 : UInt64).toNat : Int)).toNat : Int))).bind fun x8 => (ids_order (⟨x8.Id, x8.State, x8.N⟩ : ids_Row) (⟨x7.Id, x7.State, x7.N⟩ : ids_Row)).bind fun x9 => if decide (x9 < 0) then kb_ (w64 ((w64 ((shr_u64 (u64 (w64 (x5 + x6))) ((1 : UInt64).toNat : Int)).toNat : Int)) + 1)) x6 else kb_ x5 (w64 ((shr_u64 (u64 (w64 (x5 + x6))) ((1 : UInt64).toNat : Int)).toNat : Int)) else k1_ x5
def slices_BinarySearchFunc_ids_Table_ids_Row_ids_Row_l0 (x3 : Option (List ids_Row)) (x7 : ids_Row) (z : Int × Int) : Option ((Int × Int) ⊕ Int) :=
  slices_BinarySearchFunc_ids_Table_ids_Row_ids_Row_b0 x3 x7 z.1 z.2 (fun x5 x6 => some (.inl (x5, x6))) (fun y10 => some (.inr y10))
def slices_BinarySearchFunc_ids_Table_ids_Row_ids_Row (a1 : Option (List ids_Row)) (a2 : ids_Row) : Option (Int × Bool) :=
  (iter (slices_BinarySearchFunc_ids_Table_ids_Row_ids_Row_l0 a1 a2) (0, ((L a1).length : Int))).bind fun x11 => if decide (x11 < ((L a1).length : Int)) then (ix (L a1) x11).bind fun x12 => (ids_order (⟨x12.Id, x12.State, x12.N⟩ : ids_Row) a2).bind fun x13 => some (x11, decide (x13 = 0)) else some (x11, false)
/- pouch/ids.find -/
def ids_find (a1 : Option (List ids_Row)) (a2 : UInt16) : Option (Int × Bool) :=
  (slices_BinarySearchFunc_ids_Table_ids_Row_ids_Row a1 (⟨a2, 0, 0⟩ : ids_Row)).bind fun (x3, x4) => some (x3, x4)
/- slices.Clone[pouch/ids.Table,pouch/ids.Row] -/
def slices_Clone_ids_Table_ids_Row_o (a1 : Option (List ids_Row)) : Option (Option (List ids_Row)) :=
  if a1.isNone then some none else (appO 24 (some []) a1).bind fun x2 => some x2
/- slices.Clone[pouch/ids.Table,pouch/ids.Row] -/
def slices_Clone_ids_Table_ids_Row_v (a1 : Option (List ids_Row)) : Option (((Option (List ids_Row))) ⊕ (Nat × (List ids_Row))) :=
  if a1.isNone then some (.inl none) else (chk (decide ((L a1).length * 24 ≤ room ∧ (L a1).length ≤ room))).bind fun _ => some (.inr ((L a1).length, L a1))
/- slices.Clone[pouch/ids.Table,pouch/ids.Row] -/
/- slices.Insert[pouch/ids.Table,pouch/ids.Row] -/
/- pouch/ids.Open -/
def ids_Open_c0 {ρ : Type} (x5 : Option (List ids_Row)) (x6 : UInt16) (x7 : Int) (x8 : Int) (x9 : Bool) (k1_ : Int → Option ρ) (k2_ : (Option (List ids_Row)) → Option ρ) (k3_ : (Option (List ids_Row)) → Option ρ) : Option ρ :=
  if decide (x6 = (0 : UInt16)) then k1_ 1 else if !x9 then k1_ 1 else (ids_counts x7 x8).bind fun x10 => if !x10 then k1_ 1 else (ids_find x5 x6).bind fun (x11, x12) => if x12 then k1_ 7 else (cloneF Tb 1 24 x5).bind fun | .inl _ => (insE x11 (some [(⟨x6, x7, x8⟩ : ids_Row)])).bind fun x13 => k2_ (some x13) | .inr (.inl _) => (insE x11 (some [(⟨x6, x7, x8⟩ : ids_Row)])).bind fun x14 => k2_ (some x14) | .inr (.inr x15) => (insF x15 x15.length x11 (some [(⟨x6, x7, x8⟩ : ids_Row)])).bind fun x16 => k3_ (some x16)
def ids_Open (a1 : Option (List ids_Row)) (a2 : UInt16) (a3 : Int) (a4 : Int) : Option ((Option (List ids_Row)) × Int) :=
  if decide (a3 = 1) then ids_Open_c0 a1 a2 a3 a4 true (fun x20 => some (a1, x20)) (fun x21 => some (x21, 0)) (fun x22 => some (x22, 0)) else if decide (a3 = 2) then ids_Open_c0 a1 a2 a3 a4 true (fun x23 => some (a1, x23)) (fun x24 => some (x24, 0)) (fun x25 => some (x25, 0)) else if decide (a3 = 5) then ids_Open_c0 a1 a2 a3 a4 true (fun x26 => some (a1, x26)) (fun x27 => some (x27, 0)) (fun x28 => some (x28, 0)) else ids_Open_c0 a1 a2 a3 a4 (decide (a3 = 6)) (fun x29 => some (a1, x29)) (fun x30 => some (x30, 0)) (fun x31 => some (x31, 0))
/- pouch/ids.needs -/
def ids_needs_c0 {ρ : Type} (x2 : Int) (x3 : Int) (x4 : Bool) (k1_ : Int → Option ρ) (k2_ : Option ρ) : Option ρ :=
  if x4 then k1_ (w64 ((w64 (1 + x2)) - 4)) else if decide (x3 = 9) then k1_ 5 else if decide (x3 = 11) then k1_ 6 else k2_
def ids_needs (a1 : Int) : Option Int :=
  if decide (a1 = 4) then ids_needs_c0 a1 a1 (decide (a1 = 4)) (fun x6 => some x6) (some 0) else if decide (a1 = 5) then ids_needs_c0 a1 a1 (decide (a1 = 5)) (fun x7 => some x7) (some 0) else if decide (a1 = 6) then ids_needs_c0 a1 a1 (decide (a1 = 6)) (fun x8 => some x8) (some 0) else ids_needs_c0 a1 a1 (decide (a1 = 7)) (fun x9 => some x9) (some 0)
/- slices.Delete[pouch/ids.Table,pouch/ids.Row] -/
/- pouch/ids.Turn -/
def ids_Turn_c0 {ρ : Type} (x11 : Option (List ids_Row)) (x12 : Int) (x13 : Bool) (x14 : Int) (k1_ : Nat → Nat → (List ids_Row) → Option ρ) (k2_ : (Option (List ids_Row)) → Option ρ) : Option ρ :=
  (cloneF Tb 1 24 x11).bind fun | .inl _ => if decide (x12 = 6) then none else if decide (x12 = 5) then if !x13 then none else none else none | .inr (.inl _) => if decide (x12 = 6) then (ix (L ((some []) : Option (List ids_Row))) x14).bind fun x16 => (ix (L ((some []) : Option (List ids_Row))) x14).bind fun x17 => none else if decide (x12 = 5) then if !x13 then (ix (L ((some []) : Option (List ids_Row))) x14).bind fun x18 => (ix (L ((some []) : Option (List ids_Row))) x14).bind fun x19 => none else none else none | .inr (.inr x15) => if decide (x12 = 6) then (chk (decide (0 ≤ x14 ∧ x14 < ((x15.length : Nat) : Int)))).bind fun _ => (ix x15 x14).bind fun x20 => (chk (decide (0 ≤ x14 ∧ x14 < ((x15.length : Nat) : Int)))).bind fun _ => ((ix x15 x14).bind fun x21 => some (⟨x21.Id, w64 (x20.State + 1), x21.N⟩ : ids_Row)).bind fun x22 => k1_ x15.length x15.length (setR x15 x14.toNat x22) else if decide (x12 = 5) then if !x13 then (chk (decide (0 ≤ x14 ∧ x14 < ((x15.length : Nat) : Int)))).bind fun _ => (ix x15 x14).bind fun x23 => (chk (decide (0 ≤ x14 ∧ x14 < ((x15.length : Nat) : Int)))).bind fun _ => ((ix x15 x14).bind fun x24 => some (⟨x24.Id, w64 (x23.State + 1), x24.N⟩ : ids_Row)).bind fun x25 => k1_ x15.length x15.length (setR x15 x14.toNat x25) else (delF x15 x15.length x14 (w64 (x14 + 1))).bind fun x26 => k2_ (some x26) else (delF x15 x15.length x14 (w64 (x14 + 1))).bind fun x27 => k2_ (some x27)
def ids_Turn (a1 : Option (List ids_Row)) (a2 : Int) (a3 : UInt16) (a4 : Bool) (a5 : Int) : Option ((Option (List ids_Row)) × Int) :=
  (ids_needs a2).bind fun x6 => if decide (x6 = 0) then some (a1, 1) else (ids_find a1 a3).bind fun (x7, x8) => if !x8 then some (a1, 8) else (ix (L a1) x7).bind fun x9 => if !decide (x9.State = x6) then some (a1, 8) else if decide (x6 ≥ 5) then (ix (L a1) x7).bind fun x10 => if !decide (x10.N = a5) then some (a1, 8) else ids_Turn_c0 a1 a2 a4 x7 (fun x32 x33 x34 => (chk (decide (x32 ≤ x34.length))).bind fun _ => (chk (decide (x33 ≤ x34.length))).bind fun _ => some ((some (x34.take x32)), 0)) (fun x35 => some (x35, 0)) else ids_Turn_c0 a1 a2 a4 x7 (fun x36 x37 x38 => (chk (decide (x36 ≤ x38.length))).bind fun _ => (chk (decide (x37 ≤ x38.length))).bind fun _ => some ((some (x38.take x36)), 0)) (fun x39 => some (x39, 0))
/- pouch/ids.Flying -/
def ids_Flying_b0 {ρ : Type} (x3 : Option (List ids_Row)) (x4 : Int) (x2 : Int) (x5 : Int) (kb_ : Int → Int → Option ρ) (k1_ : Int → Option ρ) : Option ρ :=
  if decide (x5 < x4) then (ix (L x3) x5).bind fun x6 => if decide (x6.State ≤ 4) then kb_ (w64 (x2 + 1)) (w64 (x5 + 1)) else kb_ x2 (w64 (x5 + 1)) else k1_ x2
def ids_Flying_l0 (x3 : Option (List ids_Row)) (x4 : Int) (z : Int × Int) : Option ((Int × Int) ⊕ Int) :=
  ids_Flying_b0 x3 x4 z.1 z.2 (fun x2 x5 => some (.inl (x2, x5))) (fun y11 => some (.inr y11))
def ids_Flying (a1 : Option (List ids_Row)) : Option Int :=
  (iter (ids_Flying_l0 a1 ((L a1).length : Int)) (0, 0)).bind fun x12 => some x12
/- pouch/pouchlaw11.told -/
def l11_told : Option Bool :=
  (ids_Open none (7 : UInt16) 2 0).bind fun (x1, x2) => (ids_Turn x1 5 (7 : UInt16) false 0).bind fun (x3, x4) => (ids_Turn x3 6 (7 : UInt16) false 0).bind fun (x5, x6) => (ids_Turn x5 7 (7 : UInt16) false 0).bind fun (x7, x8) => (ids_Open x5 (7 : UInt16) 1 0).bind fun (x9, x10) => if decide (x2 = 0) then if decide (x4 = 0) then if decide (x6 = 0) then if decide (((L x5).length : Int) = 1) then (ix (L x5) 0).bind fun x11 => if decide (x11.State = 4) then if decide (x8 = 0) then if decide (((L x7).length : Int) = 0) then if decide (x10 = 7) then (ids_Flying x5).bind fun x12 => some (decide (x12 = 1)) else some false else some false else some false else some false else some false else some false else some false else some false
/- pouch/pouchlaw11.To -/
def l11_To_b0 {ρ : Type} (x2 : Option (List r11_Row)) (x3 : Option (List ids_Row)) (x4 : Int) (kb_ : (Option (List ids_Row)) → Int → Option ρ) (k1_ : (Option (List ids_Row)) → Option ρ) : Option ρ :=
  if decide (x4 < ((L x2).length : Int)) then (ix (L x2) x4).bind fun x5 => (ix (L x2) x4).bind fun x6 => (ix (L x2) x4).bind fun x7 => (appO 24 x3 (some [(⟨x5.Id, x6.State, x7.N⟩ : ids_Row)])).bind fun x8 => kb_ x8 (w64 (x4 + 1)) else k1_ x3
def l11_To_l0 (x2 : Option (List r11_Row)) (z : (Option (List ids_Row)) × Int) : Option (((Option (List ids_Row)) × Int) ⊕ (Option (List ids_Row))) :=
  l11_To_b0 x2 z.1 z.2 (fun x3 x4 => some (.inl (x3, x4))) (fun y9 => some (.inr y9))
def l11_To (a1 : Option (List r11_Row)) : Option (Option (List ids_Row)) :=
  (iter (l11_To_l0 a1) (none, 0)).bind fun x10 => some x10
/- pouch/ids.Right -/
def ids_Right_b0 {ρ : Type} (x2 : Option (List ids_Row)) (x3 : Option (List ids_Row)) (x4 : Int) (x5 : Int) (kb_ : Int → Option ρ) (k1_ : ids_Row → Option ρ) (k2_ : Option ρ) : Option ρ :=
  if decide (x5 < x4) then (ix (L x3) x5).bind fun x6 => if decide (x6.Id = (0 : UInt16)) then k1_ x6 else if decide (x5 > 0) then (ix (L x2) (w64 (x5 - 1))).bind fun x7 => (ids_order (⟨x7.Id, x7.State, x7.N⟩ : ids_Row) (⟨x6.Id, x6.State, x6.N⟩ : ids_Row)).bind fun x8 => if decide (x8 ≥ 0) then k1_ x6 else if decide (x6.State < 1) then k1_ x6 else if decide (x6.State > 6) then k1_ x6 else (ids_counts x6.State x6.N).bind fun x9 => if !x9 then k1_ x6 else kb_ (w64 (x5 + 1)) else if decide (x6.State < 1) then k1_ x6 else if decide (x6.State > 6) then k1_ x6 else (ids_counts x6.State x6.N).bind fun x10 => if !x10 then k1_ x6 else kb_ (w64 (x5 + 1)) else k2_
def ids_Right_l0 (x2 : Option (List ids_Row)) (x3 : Option (List ids_Row)) (x4 : Int) (z : Int) : Option (Int ⊕ (ids_Row ⊕ Unit)) :=
  ids_Right_b0 x2 x3 x4 z (fun x5 => some (.inl x5)) (fun y15 => some (.inr (.inl y15))) (some (.inr (.inr ())))
def ids_Right (a1 : Option (List ids_Row)) : Option Bool :=
  (iter (ids_Right_l0 a1 a1 ((L a1).length : Int)) 0).bind fun | .inl x16 => some false | .inr _ => some true
/- pouch/pouchref11.counts -/
def r11_counts (a1 : Int) (a2 : Int) : Option Bool :=
  if decide (a2 = 0) then some true else if decide (a2 > 0) then some (decide (a1 ≥ 5)) else some false
/- pouch/pouchref11.Right -/
def r11_Right_b0 {ρ : Type} (x2 : Option (List r11_Row)) (x3 : Int) (kb_ : Int → Option ρ) (k1_ : Option ρ) (k2_ : Option ρ) : Option ρ :=
  if decide (x3 < ((L x2).length : Int)) then (ix (L x2) x3).bind fun x4 => if decide (x4.Id = (0 : UInt16)) then k1_ else if decide (x3 > 0) then (ix (L x2) (w64 (x3 - 1))).bind fun x5 => (ix (L x2) x3).bind fun x6 => if decide (x5.Id ≥ x6.Id) then k1_ else (ix (L x2) x3).bind fun x7 => if decide (x7.State < 1) then k1_ else (ix (L x2) x3).bind fun x8 => if decide (x8.State > 6) then k1_ else (ix (L x2) x3).bind fun x9 => (ix (L x2) x3).bind fun x10 => (r11_counts x9.State x10.N).bind fun x11 => if !x11 then k1_ else kb_ (w64 (x3 + 1)) else (ix (L x2) x3).bind fun x12 => if decide (x12.State < 1) then k1_ else (ix (L x2) x3).bind fun x13 => if decide (x13.State > 6) then k1_ else (ix (L x2) x3).bind fun x14 => (ix (L x2) x3).bind fun x15 => (r11_counts x14.State x15.N).bind fun x16 => if !x16 then k1_ else kb_ (w64 (x3 + 1)) else k2_
def r11_Right_l0 (x2 : Option (List r11_Row)) (z : Int) : Option (Int ⊕ (Unit ⊕ Unit)) :=
  r11_Right_b0 x2 z (fun x3 => some (.inl x3)) (some (.inr (.inl ()))) (some (.inr (.inr ())))
def r11_Right (a1 : Option (List r11_Row)) : Option Bool :=
  (iter (r11_Right_l0 a1) 0).bind fun | .inl _ => some false | .inr _ => some true
/- pouch/pouchlaw11.IdsRights -/
def l11_IdsRights (a1 : Option (List r11_Row)) : Option Bool :=
  (slO a1 0 (imin ((L a1).length : Int) 100)).bind fun x2 => (l11_told).bind fun x3 => if x3 then (l11_To x2).bind fun x4 => (ids_Right x4).bind fun x5 => (r11_Right x2).bind fun x6 => some (x5 == x6) else some false
/- pouch/pouchlaw11.IdsCounts -/
def l11_IdsCounts_c0 {ρ : Type} (x4 : UInt16) (x5 : Int) (x6 : Int) (x7 : Int) (x8 : Int) (k1_ : Bool → Option ρ) : Option ρ :=
  (ids_Open none x4 x7 x5).bind fun (x9, x10) => (ids_Turn x9 x8 x4 false x6).bind fun (x11, x12) => (ids_Turn x9 (w64 (20 - x8)) x4 false x5).bind fun (x13, x14) => (l11_told).bind fun x15 => if x15 then if decide (x10 = 0) then if (decide (x12 = 0)) == (decide (x5 = x6)) then if (decide (((L x11).length : Int) = 0)) == (decide (x5 = x6)) then if decide (x14 = 8) then (ids_Flying x9).bind fun x16 => k1_ (decide (x16 = 0)) else k1_ false else k1_ false else k1_ false else k1_ false else k1_ false
def l11_IdsCounts (a1 : UInt16) (a2 : arr2_i64) (a3 : Bool) : Option Bool :=
  (chk (decide ((50 : UInt64) ≠ 0))).bind fun _ => (chk (decide ((50 : UInt64) ≠ 0))).bind fun _ => if a3 then l11_IdsCounts_c0 (if (1 : UInt16) > a1 then (1 : UInt16) else a1) (w64 (((u64 a2.x0) % (50 : UInt64)).toNat : Int)) (w64 (((u64 a2.x1) % (50 : UInt64)).toNat : Int)) 6 11 (fun x18 => some x18) else l11_IdsCounts_c0 (if (1 : UInt16) > a1 then (1 : UInt16) else a1) (w64 (((u64 a2.x0) % (50 : UInt64)).toNat : Int)) (w64 (((u64 a2.x1) % (50 : UInt64)).toNat : Int)) 5 9 (fun x19 => some x19)
/- pouch/pouchlaw11.From -/
def l11_From_b0 {ρ : Type} (x2 : Option (List ids_Row)) (x3 : Option (List r11_Row)) (x4 : Int) (kb_ : (Option (List r11_Row)) → Int → Option ρ) (k1_ : (Option (List r11_Row)) → Option ρ) : Option ρ :=
  if decide (x4 < ((L x2).length : Int)) then (ix (L x2) x4).bind fun x5 => (ix (L x2) x4).bind fun x6 => (ix (L x2) x4).bind fun x7 => (appO 24 x3 (some [(⟨x5.Id, x6.State, x7.N⟩ : r11_Row)])).bind fun x8 => kb_ x8 (w64 (x4 + 1)) else k1_ x3
def l11_From_l0 (x2 : Option (List ids_Row)) (z : (Option (List r11_Row)) × Int) : Option (((Option (List r11_Row)) × Int) ⊕ (Option (List r11_Row))) :=
  l11_From_b0 x2 z.1 z.2 (fun x3 x4 => some (.inl (x3, x4))) (fun y9 => some (.inr y9))
def l11_From (a1 : Option (List ids_Row)) : Option (Option (List r11_Row)) :=
  (iter (l11_From_l0 a1) (none, 0)).bind fun x10 => some x10
/- pouch/pouchref11.Of -/
def r11_Of_b0 {ρ : Type} (x3 : Option (List r11_Row)) (x4 : UInt16) (x5 : Int) (kb_ : Int → Option ρ) (k1_ : r11_Row → Option ρ) (k2_ : Option ρ) : Option ρ :=
  if decide (x5 < ((L x3).length : Int)) then (ix (L x3) x5).bind fun x7 => if decide (x7.Id = x4) then (ix (L x3) x5).bind fun x8 => k1_ x8 else kb_ (w64 (x5 + 1)) else k2_
def r11_Of_l0 (x3 : Option (List r11_Row)) (x4 : UInt16) (z : Int) : Option (Int ⊕ (r11_Row ⊕ Unit)) :=
  r11_Of_b0 x3 x4 z (fun x5 => some (.inl x5)) (fun y9 => some (.inr (.inl y9))) (some (.inr (.inr ())))
def r11_Of (a1 : Option (List r11_Row)) (a2 : UInt16) : Option r11_Row :=
  (iter (r11_Of_l0 a1 a2) 0).bind fun | .inl x10 => some x10 | .inr _ => some (⟨(0 : UInt16), 0, 0⟩ : r11_Row)
/- pouch/pouchlaw11.IdsRounds -/
def l11_IdsRounds_c1 {ρ : Type} (x17 : Option (List UInt16)) (x21 : Option (List UInt16)) (x22 : Int) (x24 : Int) (k1_ : (Option (List UInt16)) → Option ρ) (k2_ : Option ρ) : Option ρ :=
  if decide (x24 = 0) then (ix (L x17) x22).bind fun x25 => (appO 2 x21 (some [x25])).bind fun x26 => k1_ x26 else k2_
def l11_IdsRounds_b0 {ρ : Type} (x4 : Option (List UInt16)) (x7 : Option (List ids_Row)) (x8 : Option (List UInt16)) (x9 : Int) (kb_ : (Option (List ids_Row)) → (Option (List UInt16)) → Int → Option ρ) (k1_ : Option ρ) (k2_ : (Option (List ids_Row)) → (Option (List UInt16)) → Option ρ) : Option ρ :=
  if decide (x9 < ((L x4).length : Int)) then if decide (x9 < 12) then (ix (L x4) x9).bind fun x10 => (ids_Open x7 x10 2 0).bind fun (x11, x12) => (ix (L x4) x9).bind fun x13 => if !decide (x13 = (0 : UInt16)) then (l11_From x7).bind fun x14 => (ix (L x4) x9).bind fun x15 => (r11_Of x14 x15).bind fun x16 => if !((decide (x12 = 0)) == (decide (x16.Id = (0 : UInt16)))) then k1_ else l11_IdsRounds_c1 x4 x8 x9 x12 (fun x28 => kb_ x11 x28 (w64 (x9 + 1))) (kb_ x7 x8 (w64 (x9 + 1))) else if !((decide (x12 = 0)) == false) then k1_ else l11_IdsRounds_c1 x4 x8 x9 x12 (fun x29 => kb_ x11 x29 (w64 (x9 + 1))) (kb_ x7 x8 (w64 (x9 + 1))) else k2_ x7 x8 else k2_ x7 x8
def l11_IdsRounds_l0 (x4 : Option (List UInt16)) (z : (Option (List ids_Row)) × (Option (List UInt16)) × Int) : Option (((Option (List ids_Row)) × (Option (List UInt16)) × Int) ⊕ (Unit ⊕ ((Option (List ids_Row)) × (Option (List UInt16))))) :=
  l11_IdsRounds_b0 x4 z.1 z.2.1 z.2.2 (fun x7 x8 x9 => some (.inl (x7, x8, x9))) (some (.inr (.inl ()))) (fun y30 y31 => some (.inr (.inr (y30, y31))))
def l11_IdsRounds_b4 {ρ : Type} (x54 : Option (List ids_Row)) (x55 : Option (List UInt16)) (x57 : Int) (x58 : Bool) (x60 : r11_Row) (x59 : Int) (kb_ : Int → Option ρ) (k1_ : Option ρ) (k2_ : Option ρ) : Option ρ :=
  if decide (x59 ≤ 11) then (ix (L x55) x57).bind fun x61 => (ids_Turn x54 x59 x61 x58 0).bind fun (x62, x63) => if !((decide (x63 = 0)) == (decide (x59 = (w64 (x60.State + 3))))) then k1_ else kb_ (w64 (x59 + 1)) else k2_
def l11_IdsRounds_l4 (x54 : Option (List ids_Row)) (x55 : Option (List UInt16)) (x57 : Int) (x58 : Bool) (x60 : r11_Row) (z : Int) : Option (Int ⊕ (Unit ⊕ Unit)) :=
  l11_IdsRounds_b4 x54 x55 x57 x58 x60 z (fun x59 => some (.inl x59)) (some (.inr (.inl ()))) (some (.inr (.inr ())))
def l11_IdsRounds_c5 {ρ : Type} (x69 : Option (List UInt16)) (x71 : Int) (x73 : Bool) (k1_ : (Option (List UInt16)) → Option ρ) (k2_ : Option ρ) : Option ρ :=
  if x73 then (slO x69 0 x71).bind fun x74 => (appO 2 (some []) x74).bind fun x75 => (slO x69 (w64 (x71 + 1)) ((L x69).length : Int)).bind fun x76 => (appO 2 x75 x76).bind fun x77 => k1_ x77 else k2_
def l11_IdsRounds_c3 {ρ : Type} (x46 : Option (List ids_Row)) (x47 : Option (List UInt16)) (x49 : Int) (x50 : Bool) (x51 : r11_Row) (k1_ : Option ρ) (k2_ : (Option (List ids_Row)) → (Option (List UInt16)) → Option ρ) : Option ρ :=
  (iter (l11_IdsRounds_l4 x46 x47 x49 x50 x51) 4).bind fun | .inl _ => k1_ | .inr _ => (ix (L x47) x49).bind fun x64 => (ids_Turn x46 (w64 (x51.State + 3)) x64 x50 0).bind fun (x65, x66) => if decide (x51.State = 4) then l11_IdsRounds_c5 x47 x49 true (fun x79 => k2_ x65 x79) (k2_ x65 x47) else if decide (x51.State = 2) then l11_IdsRounds_c5 x47 x49 x50 (fun x80 => k2_ x65 x80) (k2_ x65 x47) else l11_IdsRounds_c5 x47 x49 false (fun x81 => k2_ x65 x81) (k2_ x65 x47)
def l11_IdsRounds_b2 {ρ : Type} (x34 : Option (List Int)) (x35 : Option (List Bool)) (x36 : Option (List ids_Row)) (x37 : Option (List UInt16)) (x38 : Int) (kb_ : (Option (List ids_Row)) → (Option (List UInt16)) → Int → Option ρ) (k1_ : r11_Row → Option ρ) (k2_ : (Option (List ids_Row)) → (Option (List UInt16)) → Option ρ) : Option ρ :=
  if decide (x38 < ((L x34).length : Int)) then if decide (x38 < 60) then if decide (((L x37).length : Int) > 0) then (ix (L x34) x38).bind fun x39 => (chk (decide ((u64 ((L x37).length : Int)) ≠ 0))).bind fun _ => (l11_From x36).bind fun x40 => (ix (L x37) (w64 (((u64 x39) % (u64 ((L x37).length : Int))).toNat : Int))).bind fun x41 => (r11_Of x40 x41).bind fun x42 => if decide (x38 < ((L x35).length : Int)) then (ix (L x35) x38).bind fun x43 => l11_IdsRounds_c3 x36 x37 (w64 (((u64 x39) % (u64 ((L x37).length : Int))).toNat : Int)) x43 x42 (k1_ x42) (fun x84 x85 => kb_ x84 x85 (w64 (x38 + 1))) else l11_IdsRounds_c3 x36 x37 (w64 (((u64 x39) % (u64 ((L x37).length : Int))).toNat : Int)) false x42 (k1_ x42) (fun x86 x87 => kb_ x86 x87 (w64 (x38 + 1))) else k2_ x36 x37 else k2_ x36 x37 else k2_ x36 x37
def l11_IdsRounds_l2 (x34 : Option (List Int)) (x35 : Option (List Bool)) (z : (Option (List ids_Row)) × (Option (List UInt16)) × Int) : Option (((Option (List ids_Row)) × (Option (List UInt16)) × Int) ⊕ (r11_Row ⊕ ((Option (List ids_Row)) × (Option (List UInt16))))) :=
  l11_IdsRounds_b2 x34 x35 z.1 z.2.1 z.2.2 (fun x36 x37 x38 => some (.inl (x36, x37, x38))) (fun y88 => some (.inr (.inl y88))) (fun y89 y90 => some (.inr (.inr (y89, y90))))
def l11_IdsRounds (a1 : Option (List UInt16)) (a2 : Option (List Int)) (a3 : Option (List Bool)) : Option Bool :=
  (iter (l11_IdsRounds_l0 a1) (none, none, 0)).bind fun | .inl _ => some false | .inr (x32, x33) => (iter (l11_IdsRounds_l2 a2 a3) (x32, x33, 0)).bind fun | .inl x91 => some false | .inr (x92, x93) => (l11_told).bind fun x94 => if x94 then if decide (((L x92).length : Int) = ((L x93).length : Int)) then (ids_Flying x92).bind fun x95 => some (decide (x95 = ((L x93).length : Int))) else some false else some false
/- pouch/pouchref11.with -/
def r11_with_c1 {ρ : Type} (x13 : Option (List r11_Row)) (x14 : Bool) (x16 : Bool) (x17 : r11_Row) (k1_ : (Option (List r11_Row)) → Bool → Option ρ) : Option ρ :=
  if x16 then (appO 24 x13 (some [x17])).bind fun x18 => k1_ x18 true else k1_ x13 x14
def r11_with_c2 {ρ : Type} (x25 : Option (List r11_Row)) (x26 : UInt16) (x27 : Option (List r11_Row)) (x29 : Int) (k1_ : (Option (List r11_Row)) → Option ρ) (k2_ : Option ρ) : Option ρ :=
  (ix (L x25) x29).bind fun x31 => if !decide (x31.Id = x26) then (ix (L x25) x29).bind fun x32 => (appO 24 x27 (some [x32])).bind fun x33 => k1_ x33 else k2_
def r11_with_b0 {ρ : Type} (x4 : Option (List r11_Row)) (x5 : UInt16) (x9 : r11_Row) (x6 : Option (List r11_Row)) (x7 : Bool) (x8 : Int) (kb_ : (Option (List r11_Row)) → Bool → Int → Option ρ) (k1_ : (Option (List r11_Row)) → Bool → Option ρ) : Option ρ :=
  if decide (x8 < ((L x4).length : Int)) then if !x7 then (ix (L x4) x8).bind fun x10 => r11_with_c1 x6 x7 (decide (x10.Id ≥ x5)) x9 (fun x21 x22 => r11_with_c2 x4 x5 x21 x8 (fun x35 => kb_ x35 x22 (w64 (x8 + 1))) (kb_ x21 x22 (w64 (x8 + 1)))) else r11_with_c1 x6 x7 false x9 (fun x23 x24 => r11_with_c2 x4 x5 x23 x8 (fun x36 => kb_ x36 x24 (w64 (x8 + 1))) (kb_ x23 x24 (w64 (x8 + 1)))) else k1_ x6 x7
def r11_with_l0 (x4 : Option (List r11_Row)) (x5 : UInt16) (x9 : r11_Row) (z : (Option (List r11_Row)) × Bool × Int) : Option (((Option (List r11_Row)) × Bool × Int) ⊕ ((Option (List r11_Row)) × Bool)) :=
  r11_with_b0 x4 x5 x9 z.1 z.2.1 z.2.2 (fun x6 x7 x8 => some (.inl (x6, x7, x8))) (fun y37 y38 => some (.inr (y37, y38)))
def r11_with (a1 : Option (List r11_Row)) (a2 : UInt16) (a3 : r11_Row) : Option (Option (List r11_Row)) :=
  (iter (r11_with_l0 a1 a2 a3) (none, decide (a3.Id = (0 : UInt16)), 0)).bind fun (x39, x40) => if !x40 then (appO 24 x39 (some [a3])).bind fun x41 => some x41 else some x39
/- pouch/pouchref11.Open -/
def r11_Open_c0 {ρ : Type} (x9 : Option (List r11_Row)) (x10 : UInt16) (x11 : Int) (x12 : Int) (k1_ : Option ρ) (k2_ : (Option (List r11_Row)) → Option ρ) : Option ρ :=
  (r11_Of x9 x10).bind fun x13 => if !decide (x13.Id = (0 : UInt16)) then k1_ else (r11_with x9 x10 (⟨x10, x11, x12⟩ : r11_Row)).bind fun x14 => k2_ x14
def r11_Open (a1 : Option (List r11_Row)) (a2 : UInt16) (a3 : Int) (a4 : Int) : Option ((Option (List r11_Row)) × Int) :=
  if decide (a2 = (0 : UInt16)) then some (a1, 1) else if !decide (a3 = 1) then if !decide (a3 = 2) then if !decide (a3 = 5) then if !decide (a3 = 6) then some (a1, 1) else (r11_counts a3 a4).bind fun x5 => if !x5 then some (a1, 1) else r11_Open_c0 a1 a2 a3 a4 (some (a1, 7)) (fun x16 => some (x16, 0)) else (r11_counts a3 a4).bind fun x6 => if !x6 then some (a1, 1) else r11_Open_c0 a1 a2 a3 a4 (some (a1, 7)) (fun x17 => some (x17, 0)) else (r11_counts a3 a4).bind fun x7 => if !x7 then some (a1, 1) else r11_Open_c0 a1 a2 a3 a4 (some (a1, 7)) (fun x18 => some (x18, 0)) else (r11_counts a3 a4).bind fun x8 => if !x8 then some (a1, 1) else r11_Open_c0 a1 a2 a3 a4 (some (a1, 7)) (fun x19 => some (x19, 0))
/- pouch/pouchref11.Turn -/
def r11_Turn_c1 {ρ : Type} (x13 : Option (List r11_Row)) (x14 : UInt16) (x15 : Int) (k1_ : (Option (List r11_Row)) → Option ρ) : Option ρ :=
  if decide (x15 = 0) then (r11_with x13 x14 (⟨(0 : UInt16), 0, 0⟩ : r11_Row)).bind fun x16 => k1_ x16 else (r11_with x13 x14 (⟨x14, x15, 0⟩ : r11_Row)).bind fun x17 => k1_ x17
def r11_Turn_c0 {ρ : Type} (x7 : Option (List r11_Row)) (x8 : UInt16) (x9 : Int) (x10 : Int) (x11 : Int) (x12 : r11_Row) (k1_ : Option ρ) (k2_ : (Option (List r11_Row)) → Option ρ) : Option ρ :=
  if decide (x12.Id = (0 : UInt16)) then k1_ else if !decide (x12.State = x10) then k1_ else if decide (x10 ≥ 5) then if !decide (x12.N = x9) then k1_ else r11_Turn_c1 x7 x8 x11 (fun x19 => k2_ x19) else r11_Turn_c1 x7 x8 x11 (fun x20 => k2_ x20)
def r11_Turn (a1 : Option (List r11_Row)) (a2 : Int) (a3 : UInt16) (a4 : Bool) (a5 : Int) : Option ((Option (List r11_Row)) × Int) :=
  (r11_Of a1 a3).bind fun x6 => if decide (a2 = 4) then r11_Turn_c0 a1 a3 a5 1 0 x6 (some (a1, 8)) (fun x22 => some (x22, 0)) else if decide (a2 = 5) then if a4 then r11_Turn_c0 a1 a3 a5 2 0 x6 (some (a1, 8)) (fun x23 => some (x23, 0)) else r11_Turn_c0 a1 a3 a5 2 3 x6 (some (a1, 8)) (fun x24 => some (x24, 0)) else if decide (a2 = 6) then r11_Turn_c0 a1 a3 a5 3 4 x6 (some (a1, 8)) (fun x25 => some (x25, 0)) else if decide (a2 = 7) then r11_Turn_c0 a1 a3 a5 4 0 x6 (some (a1, 8)) (fun x26 => some (x26, 0)) else if decide (a2 = 9) then r11_Turn_c0 a1 a3 a5 5 0 x6 (some (a1, 8)) (fun x27 => some (x27, 0)) else if decide (a2 = 11) then r11_Turn_c0 a1 a3 a5 6 0 x6 (some (a1, 8)) (fun x28 => some (x28, 0)) else some (a1, 1)
/- pouch/pouchref11.Same -/
def r11_Same_b0 {ρ : Type} (x3 : Option (List r11_Row)) (x4 : Option (List r11_Row)) (x5 : Int) (kb_ : Int → Option ρ) (k1_ : Option ρ) (k2_ : Option ρ) : Option ρ :=
  if decide (x5 < ((L x3).length : Int)) then (ix (L x3) x5).bind fun x6 => (ix (L x4) x5).bind fun x7 => if !((decide (x6.Id = x7.Id)) && ((decide (x6.State = x7.State)) && (decide (x6.N = x7.N)))) then k1_ else kb_ (w64 (x5 + 1)) else k2_
def r11_Same_l0 (x3 : Option (List r11_Row)) (x4 : Option (List r11_Row)) (z : Int) : Option (Int ⊕ (Unit ⊕ Unit)) :=
  r11_Same_b0 x3 x4 z (fun x5 => some (.inl x5)) (some (.inr (.inl ()))) (some (.inr (.inr ())))
def r11_Same (a1 : Option (List r11_Row)) (a2 : Option (List r11_Row)) : Option Bool :=
  if !decide (((L a1).length : Int) = ((L a2).length : Int)) then some false else (iter (r11_Same_l0 a1 a2) 0).bind fun | .inl _ => some false | .inr _ => some true
/- pouch/pouchref11.Flying -/
def r11_Flying_b0 {ρ : Type} (x2 : Option (List r11_Row)) (x3 : Int) (x4 : Int) (kb_ : Int → Int → Option ρ) (k1_ : Int → Option ρ) : Option ρ :=
  if decide (x4 < ((L x2).length : Int)) then (ix (L x2) x4).bind fun x5 => if decide (x5.State ≤ 4) then kb_ (w64 (x3 + 1)) (w64 (x4 + 1)) else kb_ x3 (w64 (x4 + 1)) else k1_ x3
def r11_Flying_l0 (x2 : Option (List r11_Row)) (z : Int × Int) : Option ((Int × Int) ⊕ Int) :=
  r11_Flying_b0 x2 z.1 z.2 (fun x3 x4 => some (.inl (x3, x4))) (fun y6 => some (.inr y6))
def r11_Flying (a1 : Option (List r11_Row)) : Option Int :=
  (iter (r11_Flying_l0 a1) (0, 0)).bind fun x7 => some x7
/- pouch/pouchlaw11.IdsActs -/
def l11_IdsActs_c1 {ρ : Type} (x18 : Option (List ids_Row)) (x20 : Option (List r11_Row)) (x21 : Option (List ids_Row)) (x22 : Option (List r11_Row)) (x23 : Int) (x24 : Int) (k1_ : Option ρ) (k2_ : Option ρ) : Option ρ :=
  if !decide (x23 = x24) then k1_ else (l11_From x21).bind fun x25 => (r11_Same x25 x22).bind fun x26 => if !x26 then k1_ else (l11_From x18).bind fun x27 => (r11_Same x27 x20).bind fun x28 => if !x28 then k1_ else (ids_Right x21).bind fun x29 => if !x29 then k1_ else (ids_Flying x21).bind fun x30 => (r11_Flying x22).bind fun x31 => if !decide (x30 = x31) then k1_ else k2_
def l11_IdsActs_b0 {ρ : Type} (x3 : Option (List l11_Op)) (x4 : Option (List ids_Row)) (x5 : Option (List r11_Row)) (x6 : Int) (kb_ : (Option (List ids_Row)) → (Option (List r11_Row)) → Int → Option ρ) (k1_ : Option ρ) (k2_ : Option ρ) : Option ρ :=
  if decide (x6 < ((L x3).length : Int)) then if decide (x6 < 100) then (ix (L x3) x6).bind fun x7 => (l11_From x4).bind fun x8 => if x7.Open then (ids_Open x4 x7.Id x7.State x7.N).bind fun (x9, x10) => (r11_Open x5 x7.Id x7.State x7.N).bind fun (x11, x12) => l11_IdsActs_c1 x4 x8 x9 x11 x10 x12 k1_ (kb_ x9 x11 (w64 (x6 + 1))) else (ids_Turn x4 x7.Kind x7.Id x7.Failed x7.N).bind fun (x13, x14) => (r11_Turn x5 x7.Kind x7.Id x7.Failed x7.N).bind fun (x15, x16) => l11_IdsActs_c1 x4 x8 x13 x15 x14 x16 k1_ (kb_ x13 x15 (w64 (x6 + 1))) else k2_ else k2_
def l11_IdsActs_l0 (x3 : Option (List l11_Op)) (z : (Option (List ids_Row)) × (Option (List r11_Row)) × Int) : Option (((Option (List ids_Row)) × (Option (List r11_Row)) × Int) ⊕ (Unit ⊕ Unit)) :=
  l11_IdsActs_b0 x3 z.1 z.2.1 z.2.2 (fun x4 x5 x6 => some (.inl (x4, x5, x6))) (some (.inr (.inl ()))) (some (.inr (.inr ())))
def l11_IdsActs (a1 : Option (List l11_Op)) : Option Bool :=
  (l11_told).bind fun x2 => if !x2 then some false else (iter (l11_IdsActs_l0 a1) (none, none, 0)).bind fun | .inl _ => some false | .inr _ => some true
end Go.Rv
