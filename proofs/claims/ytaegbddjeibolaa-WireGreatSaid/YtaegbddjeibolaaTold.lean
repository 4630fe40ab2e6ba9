/- Plain laws. -/
import Derived.Test.YtaegbddjeibolaaWalk
set_option linter.unusedSimpArgs false
set_option linter.unusedVariables false
set_option maxRecDepth 100000
namespace Go.Rv
theorem told_var : wire_Var none 321 = some (some [193, 2]) := by
  unfold wire_Var
  rw [show slices_Clone_s_byte_byte none = some none from rfl]
  simp only [Option.bind_some]
  rw [if_neg (by decide), iter_run 3 (by kernel_rfl)]
  kernel_rfl
theorem told_dig : wire_digits [193, 2, 0, 2, 97, 98] = some (321, 2, 0) := by
  unfold wire_digits
  rw [iter_run 5 (by kernel_rfl)]
  kernel_rfl
theorem told_size : wire_VarSize 321 = some 2 := by
  unfold wire_VarSize
  rw [told_var]; rfl
theorem l01_told_true : l01_told = some true := by
  unfold l01_told
  rw [told_var]
  simp only [Option.bind_some]
  rw [show wire_Bin (some [193, 2]) [97, 98] = some (some [193, 2, 0, 2, 97, 98]) from by kernel_rfl]
  simp only [Option.bind_some]
  rw [show wire_Read (some [193, 2, 0, 2, 97, 98]) = some ⟨[193, 2, 0, 2, 97, 98], 0⟩ from rfl]
  simp only [Option.bind_some]
  rw [show wire_Reader_Var ⟨[193, 2, 0, 2, 97, 98], 0⟩ = some (321, ⟨[0, 2, 97, 98], 0⟩) from by
    unfold wire_Reader_Var wire_Reader_Err
    simp only [Option.bind_some]
    rw [if_neg (by decide), told_dig]
    kernel_rfl]
  rw [told_size]
  kernel_rfl
end Go.Rv
