/- The types of the program. -/
import Derived.Test.YtaegbddjeibolaaDoorShelf
set_option linter.unusedSimpArgs false
set_option linter.unusedVariables false
set_option maxRecDepth 100000
namespace Go.Rv
structure arr4_u8 where
  x0 : UInt8
  x1 : UInt8
  x2 : UInt8
  x3 : UInt8
  deriving DecidableEq
def row_arr4_u8 (x : arr4_u8) : List PV := [.lit (.int .u8 (x.x0.toNat : Int)), .lit (.int .u8 (x.x1.toNat : Int)), .lit (.int .u8 (x.x2.toNat : Int)), .lit (.int .u8 (x.x3.toNat : Int))]
def Tb : Nat → Type
  | 0 => UInt8
  | 1 => List UInt8
  | 2 => arr4_u8
  | _ => Unit
def tabSh : Nat → List Tm
  | 0 => [.u8]
  | 1 => [.s]
  | 2 => [.u8, .u8, .u8, .u8]
  | _ => []
def tabUn : (k : Nat) → Tb k → tyA Tb (tabSh k)
  | 0, x => (x, ())
  | 1, x => (x, ())
  | 2, x => (x.x0, x.x1, x.x2, x.x3, ())
  | (_ + 3), x => ()
def tabBk : (k : Nat) → tyA Tb (tabSh k) → Tb k
  | 0, x => x.1
  | 1, x => x.1
  | 2, x => (⟨x.1, x.2.1, x.2.2.1, x.2.2.2.1⟩ : arr4_u8)
  | (_ + 3), x => ()
def tabRow : (k : Nat) → Tb k → List PV
  | 0, x => byteRow x
  | 1, x => rowS x
  | 2, x => row_arr4_u8 x
  | (_ + 3), x => []
def tab : Tab Tb := ⟨tabSh, tabUn, tabBk, tabRow, fun l => l⟩
theorem tabOk : tab.Ok := ⟨fun k x => by
  match k, x with
  | 0, x => rfl
  | 1, x => rfl
  | 2, x => rfl
  | (_ + 3), x => rfl, fun k x => by
  match k, x with
  | 0, x => rfl
  | 1, x => rfl
  | 2, x => rfl
  | (_ + 3), x => rfl, rfl, fun _ => rfl⟩
end Go.Rv
