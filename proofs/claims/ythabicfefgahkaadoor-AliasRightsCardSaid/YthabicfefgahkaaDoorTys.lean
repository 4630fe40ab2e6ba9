/- The types of the program. -/
import Derived.Test.YthabicfefgahkaaDoorHandA
set_option linter.unusedSimpArgs false
set_option linter.unusedVariables false
set_option maxRecDepth 100000
namespace Go.Rv
structure r12_Row where
  Alias : UInt16
  Topic : List UInt8
  deriving DecidableEq
def row_r12_Row (x : r12_Row) : List PV := [.lit (.int .u16 (x.Alias.toNat : Int)), .lit (.string ⟨x.Topic.toArray⟩)]
structure alias_Row where
  Alias : UInt16
  Topic : List UInt8
  deriving DecidableEq
def row_alias_Row (x : alias_Row) : List PV := [.lit (.int .u16 (x.Alias.toNat : Int)), .lit (.string ⟨x.Topic.toArray⟩)]
structure l12_Op where
  Alias : UInt16
  Name : List UInt8
  deriving DecidableEq
def row_l12_Op (x : l12_Op) : List PV := [.lit (.int .u16 (x.Alias.toNat : Int)), .lit (.string ⟨x.Name.toArray⟩)]
def Tb : Nat → Type
  | 0 => UInt8
  | 1 => alias_Row
  | 2 => r12_Row
  | 3 => l12_Op
  | _ => Unit
def tabSh : Nat → List Tm
  | 0 => [.u8]
  | 1 => [.u16, .s]
  | 2 => [.u16, .s]
  | 3 => [.u16, .s]
  | _ => []
def tabUn : (k : Nat) → Tb k → tyA Tb (tabSh k)
  | 0, x => (x, ())
  | 1, x => (x.Alias, x.Topic, ())
  | 2, x => (x.Alias, x.Topic, ())
  | 3, x => (x.Alias, x.Name, ())
  | (_ + 4), x => ()
def tabBk : (k : Nat) → tyA Tb (tabSh k) → Tb k
  | 0, x => x.1
  | 1, x => (⟨x.1, x.2.1⟩ : alias_Row)
  | 2, x => (⟨x.1, x.2.1⟩ : r12_Row)
  | 3, x => (⟨x.1, x.2.1⟩ : l12_Op)
  | (_ + 4), x => ()
def tabRow : (k : Nat) → Tb k → List PV
  | 0, x => byteRow x
  | 1, x => row_alias_Row x
  | 2, x => row_r12_Row x
  | 3, x => row_l12_Op x
  | (_ + 4), x => []
def tab : Tab Tb := ⟨tabSh, tabUn, tabBk, tabRow, fun l => l⟩
theorem tabOk : tab.Ok := ⟨fun k x => by
  match k, x with
  | 0, x => rfl
  | 1, x => rfl
  | 2, x => rfl
  | 3, x => rfl
  | (_ + 4), x => rfl, fun k x => by
  match k, x with
  | 0, x => rfl
  | 1, x => rfl
  | 2, x => rfl
  | 3, x => rfl
  | (_ + 4), x => rfl, rfl, fun _ => rfl⟩
end Go.Rv
