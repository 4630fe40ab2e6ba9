/- The types of the program. -/
import Derived.Test.YtpggofndaadeiaaDoorShelf
set_option linter.unusedSimpArgs false
set_option linter.unusedVariables false
set_option maxRecDepth 100000
namespace Go.Rv
structure prop_row where
  kind : Int
  kinds : Option (List Int)
  deriving DecidableEq
def row_prop_row (x : prop_row) : List PV := [.lit (.int .i64 x.kind), oP 1 rowI x.kinds]
structure prop_Prop where
  Id : UInt8
  N : UInt32
  A : List UInt8
  B : List UInt8
  deriving DecidableEq
def row_prop_Prop (x : prop_Prop) : List PV := [.lit (.int .u8 (x.Id.toNat : Int)), .lit (.int .u32 (x.N.toNat : Int)), .lit (.string ⟨x.A.toArray⟩), .lit (.string ⟨x.B.toArray⟩)]
structure r05_Prop where
  Id : UInt8
  N : UInt32
  A : List UInt8
  B : List UInt8
  deriving DecidableEq
def row_r05_Prop (x : r05_Prop) : List PV := [.lit (.int .u8 (x.Id.toNat : Int)), .lit (.int .u32 (x.N.toNat : Int)), .lit (.string ⟨x.A.toArray⟩), .lit (.string ⟨x.B.toArray⟩)]
def Tb : Nat → Type
  | 0 => Int
  | 1 => prop_row
  | 2 => prop_Prop
  | 3 => r05_Prop
  | 4 => List UInt8
  | _ => Unit
def tabSh : Nat → List Tm
  | 0 => [(.n .i64)]
  | 1 => [(.n .i64), (.sl 0)]
  | 2 => [.u8, .u32, .s, .s]
  | 3 => [.u8, .u32, .s, .s]
  | 4 => [.s]
  | _ => []
def tabUn : (k : Nat) → Tb k → tyA Tb (tabSh k)
  | 0, x => (x, ())
  | 1, x => (x.kind, x.kinds, ())
  | 2, x => (x.Id, x.N, x.A, x.B, ())
  | 3, x => (x.Id, x.N, x.A, x.B, ())
  | 4, x => (x, ())
  | (_ + 5), x => ()
def tabBk : (k : Nat) → tyA Tb (tabSh k) → Tb k
  | 0, x => x.1
  | 1, x => (⟨x.1, x.2.1⟩ : prop_row)
  | 2, x => (⟨x.1, x.2.1, x.2.2.1, x.2.2.2.1⟩ : prop_Prop)
  | 3, x => (⟨x.1, x.2.1, x.2.2.1, x.2.2.2.1⟩ : r05_Prop)
  | 4, x => x.1
  | (_ + 5), x => ()
def tabRow : (k : Nat) → Tb k → List PV
  | 0, x => rowI x
  | 1, x => row_prop_row x
  | 2, x => row_prop_Prop x
  | 3, x => row_r05_Prop x
  | 4, x => rowS x
  | (_ + 5), x => []
def tab : Tab Tb := ⟨tabSh, tabUn, tabBk, tabRow⟩
theorem tabOk : tab.Ok := ⟨fun k x => by
  match k, x with
  | 0, x => rfl
  | 1, x => rfl
  | 2, x => rfl
  | 3, x => rfl
  | 4, x => rfl
  | (_ + 5), x => rfl, fun k x => by
  match k, x with
  | 0, x => rfl
  | 1, x => rfl
  | 2, x => rfl
  | 3, x => rfl
  | 4, x => rfl
  | (_ + 5), x => rfl⟩
end Go.Rv
