/- The types of the program. -/
import Derived.Test.YtaegbddjeibolaaRvD
set_option linter.unusedSimpArgs false
set_option linter.unusedVariables false
set_option maxRecDepth 100000
namespace Go.Rv
structure wire_Reader where
  b : List UInt8
  err : Int
  deriving DecidableEq
def row_wire_Reader (x : wire_Reader) : List PV := [.lit (.string ⟨x.b.toArray⟩), .lit (.int .i64 x.err)]
def Tb : Nat → Type
  | 0 => UInt8
  | _ => Unit
def tabSh : Nat → List Tm
  | 0 => [.u8]
  | _ => []
def tabUn : (k : Nat) → Tb k → tyA Tb (tabSh k)
  | 0, x => (x, ())
  | (_ + 1), x => ()
def tabBk : (k : Nat) → tyA Tb (tabSh k) → Tb k
  | 0, x => x.1
  | (_ + 1), x => ()
def tabRow : (k : Nat) → Tb k → List PV
  | 0, x => byteRow x
  | (_ + 1), x => []
def tab : Tab Tb := ⟨tabSh, tabUn, tabBk, tabRow, fun l => l⟩
theorem tabOk : tab.Ok := ⟨fun k x => by
  match k, x with
  | 0, x => rfl
  | (_ + 1), x => rfl, fun k x => by
  match k, x with
  | 0, x => rfl
  | (_ + 1), x => rfl, rfl, fun _ => rfl⟩
end Go.Rv
