/- The law WireReads is true for every input. -/
import Derived.Test.YtaegbddjeibolaaWire6
import Derived.Test.YtaegbddjeibolaaRows
set_option linter.unusedSimpArgs false
set_option linter.unusedVariables false
set_option maxRecDepth 100000
namespace Go.Proofs.Ytaegbddjeibolaa.wireReadsP
open Go.Rv
theorem own : ownKnob Try.prog.godebug = none := by kernel_rfl
theorem good (x : tyL Tb [.g (.f (.a .bs)), .g (.f (.a (.sl 1)))]) (hx : szArgs tab 4 [.g (.f (.a .bs)), .g (.f (.a (.sl 1)))] x) : Fun Try.prog (fun _ => True) 8 (avL tab (injL tab [.g (.f (.a .bs)), .g (.f (.a (.sl 1)))] x)) [] (.b true) [] := by
  refine law_good l01_WireReads_k x ?_
  have e : (l01_WireReads_w).run (injL tab [.g (.f (.a .bs)), .g (.f (.a (.sl 1)))] x) [] (fun r H => some (r, H)) = (l01_WireReads x.1 x.2.1).bind fun y => some (TV.b y, ([] : THeap Tb)) := by kernel_rfl
  rw [e, pure_WireReads _ hx]
  rfl
theorem lifted (os : Os) (started : os.Started) (H : Type) (enc : TypeId × Value → H) :
    ReturnsInHanded {} Try.checked os 8 .any (Rows.wireReadsSpec.pre6 enc Try.prog Try.f8 Rows.wireReadsRow.domain false) (Rows.wireReadsSpec.post enc Try.prog Try.f8 false true false false) :=
  law_lifted (C := Try.checked) (tb := tab) (sa := [.g (.f (.a .bs)), .g (.f (.a (.sl 1)))]) (n := 9) (d := 4) (tr := 4) tabOk own started (by kernel_rfl) Try.func8
    (ChangeSpec.witness6 (enc := enc) (C := Try.checked) false ⟨#[], #[.slice none 0 0, .slice none 0 0], []⟩ 8 (by kernel_rfl) (by kernel_rfl) (by kernel_rfl) (by kernel_rfl)) rfl
    (fun ds h => match ds, h with | [_, _], _ => rfl) rfl (by kernel_rfl) (by kernel_rfl) (by kernel_rfl) (by kernel_rfl) good
theorem over : Rows.wireReadsRow.holds Try.pinned (OpenSpec.ofChange Rows.wireReadsSpec) :=
  OpenClaim.holds_of_wide 8 Try.f8 rfl rfl rfl rfl rfl rfl rfl ⟨rfl, rfl, rfl, rfl, rfl⟩ rfl rfl rfl rfl rfl (by kernel_rfl) Try.func8 (by kernel_rfl)
    (of_decide_eq_true (by kernel_rfl)) (by unfold Func.isWrapper; first | (rw [if_pos (by decide +kernel)]; kernel_rfl) | (rw [if_neg (by decide +kernel)]; exact ⟨rfl, rfl⟩))
    (fun os started H enc _ => lifted os started H enc)
end Go.Proofs.Ytaegbddjeibolaa.wireReadsP
namespace Go.Proofs.Ytaegbddjeibolaa
/-- The statement. -/
theorem wireReads_holds : Rows.WireReadsSaid := wireReadsP.over
#print axioms wireReads_holds
end Go.Proofs.Ytaegbddjeibolaa
