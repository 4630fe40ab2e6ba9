/- The law WireGreat is true for every input. -/
import Derived.Test.YtaegbddjeibolaaGreat1
import Derived.Test.YtaegbddjeibolaaRows
set_option linter.unusedSimpArgs false
set_option linter.unusedVariables false
set_option maxRecDepth 100000
namespace Go.Proofs.Ytaegbddjeibolaa.wireGreatP
open Go.Rv
theorem own : ownKnob Try.prog.godebug = none := by kernel_rfl
theorem good (x : tyL Tb [.g (.f (.a (.n .i64))), .g (.f (.a .u8))]) (hx : szArgs tab 4 [.g (.f (.a (.n .i64))), .g (.f (.a .u8))] x) : Fun Try.prog (fun _ => True) 6 (avL tab (injL tab [.g (.f (.a (.n .i64))), .g (.f (.a .u8))] x)) [] (.b true) [] := by
  refine law_good l01_WireGreat_k x ?_
  have e : (l01_WireGreat_w).run (injL tab [.g (.f (.a (.n .i64))), .g (.f (.a .u8))] x) [] (fun r H => some (r, H)) = (l01_WireGreat x.1 x.2.1).bind fun y => some (TV.b y, ([] : THeap Tb)) := by kernel_rfl
  rw [e, pure_WireGreat _ hx]
  rfl
theorem lifted (os : Os) (started : os.Started) (H : Type) (enc : TypeId × Value → H) :
    ReturnsInHanded {} Try.checked os 6 .any (Rows.wireGreatSpec.pre6 enc Try.prog Try.f6 Rows.wireGreatRow.domain false) (Rows.wireGreatSpec.post enc Try.prog Try.f6 false true false false) :=
  law_lifted (C := Try.checked) (tb := tab) (sa := [.g (.f (.a (.n .i64))), .g (.f (.a .u8))]) (n := 9) (d := 4) (tr := 4) tabOk own started (by kernel_rfl) Try.func6
    (ChangeSpec.witness6 (enc := enc) (C := Try.checked) false ⟨#[], #[.int .i64 0, .int .u8 0], []⟩ 8 (by kernel_rfl) (by kernel_rfl) (by kernel_rfl) (by kernel_rfl)) rfl
    (fun ds h => match ds, h with | [_, _], _ => rfl) rfl (by kernel_rfl) (by kernel_rfl) (by kernel_rfl) (by kernel_rfl) good
theorem over : Rows.wireGreatRow.holds Try.pinned (OpenSpec.ofChange Rows.wireGreatSpec) :=
  OpenClaim.holds_of_wide 6 Try.f6 rfl rfl rfl rfl rfl rfl rfl ⟨rfl, rfl, rfl, rfl, rfl⟩ rfl rfl rfl rfl rfl (by kernel_rfl) Try.func6 (by kernel_rfl)
    (of_decide_eq_true (by kernel_rfl)) (by unfold Func.isWrapper; first | (rw [if_pos (by decide +kernel)]; kernel_rfl) | (rw [if_neg (by decide +kernel)]; exact ⟨rfl, rfl⟩))
    (fun os started H enc _ => lifted os started H enc)
end Go.Proofs.Ytaegbddjeibolaa.wireGreatP
namespace Go.Proofs.Ytaegbddjeibolaa
/-- The statement. -/
theorem wireGreat_holds : Rows.WireGreatSaid := wireGreatP.over
#print axioms wireGreat_holds
end Go.Proofs.Ytaegbddjeibolaa
