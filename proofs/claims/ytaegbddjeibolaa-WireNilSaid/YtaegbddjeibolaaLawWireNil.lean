/- The law WireNil is true for every input. -/
import Derived.Test.YtaegbddjeibolaaPureNil
import Derived.Test.YtaegbddjeibolaaRows
set_option linter.unusedSimpArgs false
set_option linter.unusedVariables false
set_option maxRecDepth 100000
namespace Go.Proofs.Ytaegbddjeibolaa.wireNilP
open Go.Rv
theorem own : ownKnob Try.prog.godebug = none := by kernel_rfl
theorem good (x : tyL Tb [.g (.f (.a (.n .i64)))]) (hx : szArgs tab 4 [.g (.f (.a (.n .i64)))] x) : Fun Try.prog (fun _ => True) 9 (avL tab (injL tab [.g (.f (.a (.n .i64)))] x)) [] (.b true) [] := by
  refine law_good l01_WireNil_k x ?_
  have e : (l01_WireNil_w).run (injL tab [.g (.f (.a (.n .i64)))] x) [] (fun r H => some (r, H)) = (l01_WireNil x.1).bind fun y => some (TV.b y, ([] : THeap Tb)) := by kernel_rfl
  rw [e, pure_WireNil _ hx]
  rfl
theorem lifted (os : Os) (started : os.Started) (H : Type) (enc : TypeId × Value → H) :
    ReturnsInHanded {} Try.checked os 9 .any (Rows.wireNilSpec.pre6 enc Try.prog Try.f9 Rows.wireNilRow.domain false) (Rows.wireNilSpec.post enc Try.prog Try.f9 false true false false) :=
  law_lifted (C := Try.checked) (tb := tab) (sa := [.g (.f (.a (.n .i64)))]) (n := 9) (d := 4) (tr := 4) tabOk own started (by kernel_rfl) Try.func9
    (ChangeSpec.witness6 (enc := enc) (C := Try.checked) false ⟨#[], #[.int .i64 0], []⟩ 8 (by kernel_rfl) (by kernel_rfl) (by kernel_rfl) (by kernel_rfl)) rfl
    (fun ds h => match ds, h with | [_], _ => rfl) rfl (by kernel_rfl) (by kernel_rfl) (by kernel_rfl) (by kernel_rfl) good
theorem over : Rows.wireNilRow.holds Try.pinned (OpenSpec.ofChange Rows.wireNilSpec) :=
  OpenClaim.holds_of_wide 9 Try.f9 rfl rfl rfl rfl rfl rfl rfl ⟨rfl, rfl, rfl, rfl, rfl⟩ rfl rfl rfl rfl rfl (by kernel_rfl) Try.func9 (by kernel_rfl)
    (of_decide_eq_true (by kernel_rfl)) (by unfold Func.isWrapper; first | (rw [if_pos (by decide +kernel)]; kernel_rfl) | (rw [if_neg (by decide +kernel)]; exact ⟨rfl, rfl⟩))
    (fun os started H enc _ => lifted os started H enc)
end Go.Proofs.Ytaegbddjeibolaa.wireNilP
namespace Go.Proofs.Ytaegbddjeibolaa
/-- The statement. -/
theorem wireNil_holds : Rows.WireNilSaid := wireNilP.over
#print axioms wireNil_holds
end Go.Proofs.Ytaegbddjeibolaa
