/- The types of the program. -/
import Derived.Test.YthabicfefgahkaaHandA
set_option linter.unusedSimpArgs false
set_option linter.unusedVariables false
set_option maxRecDepth 100000
namespace Go.Rv
structure r11_Row where
  Id : UInt16
  State : Int
  N : Int
  deriving DecidableEq
def row_r11_Row (x : r11_Row) : List PV := [.lit (.int .u16 (x.Id.toNat : Int)), .lit (.int .i64 x.State), .lit (.int .i64 x.N)]
structure ids_Row where
  Id : UInt16
  State : Int
  N : Int
  deriving DecidableEq
def row_ids_Row (x : ids_Row) : List PV := [.lit (.int .u16 (x.Id.toNat : Int)), .lit (.int .i64 x.State), .lit (.int .i64 x.N)]
structure arr2_i64 where
  x0 : Int
  x1 : Int
  deriving DecidableEq
def row_arr2_i64 (x : arr2_i64) : List PV := [.lit (.int .i64 x.x0), .lit (.int .i64 x.x1)]
structure l11_Op where
  Open : Bool
  Kind : Int
  Id : UInt16
  State : Int
  Failed : Bool
  N : Int
  deriving DecidableEq
def row_l11_Op (x : l11_Op) : List PV := [.lit (.bool x.Open), .lit (.int .i64 x.Kind), .lit (.int .u16 (x.Id.toNat : Int)), .lit (.int .i64 x.State), .lit (.bool x.Failed), .lit (.int .i64 x.N)]
def Tb : Nat → Type
  | 0 => UInt8
  | 1 => ids_Row
  | 2 => r11_Row
  | 3 => arr2_i64
  | 4 => UInt16
  | 5 => Int
  | 6 => Bool
  | 7 => l11_Op
  | _ => Unit
def tabSh : Nat → List Tm
  | 0 => [.u8]
  | 1 => [.u16, (.n .i64), (.n .i64)]
  | 2 => [.u16, (.n .i64), (.n .i64)]
  | 3 => [(.n .i64), (.n .i64)]
  | 4 => [.u16]
  | 5 => [(.n .i64)]
  | 6 => [.b]
  | 7 => [.b, (.n .i64), .u16, (.n .i64), .b, (.n .i64)]
  | _ => []
def tabUn : (k : Nat) → Tb k → tyA Tb (tabSh k)
  | 0, x => (x, ())
  | 1, x => (x.Id, x.State, x.N, ())
  | 2, x => (x.Id, x.State, x.N, ())
  | 3, x => (x.x0, x.x1, ())
  | 4, x => (x, ())
  | 5, x => (x, ())
  | 6, x => (x, ())
  | 7, x => (x.Open, x.Kind, x.Id, x.State, x.Failed, x.N, ())
  | (_ + 8), x => ()
def tabBk : (k : Nat) → tyA Tb (tabSh k) → Tb k
  | 0, x => x.1
  | 1, x => (⟨x.1, x.2.1, x.2.2.1⟩ : ids_Row)
  | 2, x => (⟨x.1, x.2.1, x.2.2.1⟩ : r11_Row)
  | 3, x => (⟨x.1, x.2.1⟩ : arr2_i64)
  | 4, x => x.1
  | 5, x => x.1
  | 6, x => x.1
  | 7, x => (⟨x.1, x.2.1, x.2.2.1, x.2.2.2.1, x.2.2.2.2.1, x.2.2.2.2.2.1⟩ : l11_Op)
  | (_ + 8), x => ()
def tabRow : (k : Nat) → Tb k → List PV
  | 0, x => byteRow x
  | 1, x => row_ids_Row x
  | 2, x => row_r11_Row x
  | 3, x => row_arr2_i64 x
  | 4, x => row_u16 x
  | 5, x => rowI x
  | 6, x => rowB x
  | 7, x => row_l11_Op x
  | (_ + 8), x => []
def tab : Tab Tb := ⟨tabSh, tabUn, tabBk, tabRow, fun l => l⟩
theorem tabOk : tab.Ok := ⟨fun k x => by
  match k, x with
  | 0, x => rfl
  | 1, x => rfl
  | 2, x => rfl
  | 3, x => rfl
  | 4, x => rfl
  | 5, x => rfl
  | 6, x => rfl
  | 7, x => rfl
  | (_ + 8), x => rfl, fun k x => by
  match k, x with
  | 0, x => rfl
  | 1, x => rfl
  | 2, x => rfl
  | 3, x => rfl
  | 4, x => rfl
  | 5, x => rfl
  | 6, x => rfl
  | 7, x => rfl
  | (_ + 8), x => rfl, rfl, fun _ => rfl⟩
end Go.Rv
