/- The types of the program. -/
import Derived.Test.YtaegbddjeibolaaDoorShelf
set_option linter.unusedSimpArgs false
set_option linter.unusedVariables false
set_option maxRecDepth 100000
namespace Go.Rv
def Tb : Nat → Type
  | 0 => UInt8
  | 1 => List UInt8
  | _ => Unit
def tabSh : Nat → List Tm
  | 0 => [.u8]
  | 1 => [.s]
  | _ => []
def tabUn : (k : Nat) → Tb k → tyA Tb (tabSh k)
  | 0, x => (x, ())
  | 1, x => (x, ())
  | (_ + 2), x => ()
def tabBk : (k : Nat) → tyA Tb (tabSh k) → Tb k
  | 0, x => x.1
  | 1, x => x.1
  | (_ + 2), x => ()
def tabRow : (k : Nat) → Tb k → List PV
  | 0, x => byteRow x
  | 1, x => rowS x
  | (_ + 2), x => []
def tab : Tab Tb := ⟨tabSh, tabUn, tabBk, tabRow, fun l => l⟩
theorem tabOk : tab.Ok := ⟨fun k x => by
  match k, x with
  | 0, x => rfl
  | 1, x => rfl
  | (_ + 2), x => rfl, fun k x => by
  match k, x with
  | 0, x => rfl
  | 1, x => rfl
  | (_ + 2), x => rfl, rfl, fun _ => rfl⟩
end Go.Rv
