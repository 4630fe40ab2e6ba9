/- The types of the program. -/
import Derived.Test.YtaegbddjeibolaaRvD
set_option linter.unusedSimpArgs false
set_option linter.unusedVariables false
set_option maxRecDepth 100000
namespace Go.Rv
structure wire_Reader where
  b : List UInt8
  err : Int
  deriving DecidableEq
def row_wire_Reader (x : wire_Reader) : List PV := [.lit (.string ⟨x.b.toArray⟩), .lit (.int .i64 x.err)]
structure r01_Reader where
  B : List UInt8
  At : Int
  Bad : Int
  deriving DecidableEq
def row_r01_Reader (x : r01_Reader) : List PV := [.lit (.string ⟨x.B.toArray⟩), .lit (.int .i64 x.At), .lit (.int .i64 x.Bad)]
structure l01_Thing where
  Kind : Int
  N : Int
  deriving DecidableEq
def row_l01_Thing (x : l01_Thing) : List PV := [.lit (.int .i64 x.Kind), .lit (.int .i64 x.N)]
def Tb : Nat → Type
  | 0 => Int
  | 1 => l01_Thing
  | 2 => UInt32
  | 3 => List UInt8
  | _ => Unit
def tabSh : Nat → List Tm
  | 0 => [(.n .i64)]
  | 1 => [(.n .i64), (.n .i64)]
  | 2 => [.u32]
  | 3 => [.s]
  | _ => []
def tabUn : (k : Nat) → Tb k → tyA Tb (tabSh k)
  | 0, x => (x, ())
  | 1, x => (x.Kind, x.N, ())
  | 2, x => (x, ())
  | 3, x => (x, ())
  | (_ + 4), x => ()
def tabBk : (k : Nat) → tyA Tb (tabSh k) → Tb k
  | 0, x => x.1
  | 1, x => (⟨x.1, x.2.1⟩ : l01_Thing)
  | 2, x => x.1
  | 3, x => x.1
  | (_ + 4), x => ()
def tabRow : (k : Nat) → Tb k → List PV
  | 0, x => rowI x
  | 1, x => row_l01_Thing x
  | 2, x => row_u32 x
  | 3, x => rowS x
  | (_ + 4), x => []
def tab : Tab Tb := ⟨tabSh, tabUn, tabBk, tabRow⟩
theorem tabOk : tab.Ok := ⟨fun k x => by
  match k, x with
  | 0, x => rfl
  | 1, x => rfl
  | 2, x => rfl
  | 3, x => rfl
  | (_ + 4), x => rfl, fun k x => by
  match k, x with
  | 0, x => rfl
  | 1, x => rfl
  | 2, x => rfl
  | 3, x => rfl
  | (_ + 4), x => rfl⟩
end Go.Rv
