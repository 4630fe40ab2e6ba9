/- The law IdsRights is true for every input. -/
import Derived.Test.YthabicfefgahkaaPIdsR
import Derived.Test.YthabicfefgahkaaRows
set_option linter.unusedSimpArgs false
set_option linter.unusedVariables false
set_option maxRecDepth 100000
namespace Go.Proofs.Ythabicfefgahkaa.idsRightsP
open Go.Rv
theorem own : ownKnob Try.prog.godebug = none := by kernel_rfl
theorem good (x : tyL Tb [.g (.f (.a (.sl 2)))]) (hx : szArgs tab 4 [.g (.f (.a (.sl 2)))] x) : Fun Try.prog (fun _ => True) 5 (avL tab (injL tab [.g (.f (.a (.sl 2)))] x)) [] (.b true) [] := by
  refine law_good l11_IdsRights_k x ?_
  have e : (l11_IdsRights_w).run (injL tab [.g (.f (.a (.sl 2)))] x) [] (fun r H => some (r, H)) = (l11_IdsRights x.1).bind fun y => some (TV.b y, ([] : THeap Tb)) := by kernel_rfl
  rw [e, pure_IdsRights _ hx]
  rfl
theorem lifted (os : Os) (started : os.Started) (H : Type) (enc : TypeId × Value → H) :
    ReturnsInHanded {} Try.checked os 5 .any (Rows.idsRightsSpec.pre6 enc Try.prog Try.f5 Rows.idsRightsRow.domain false) (Rows.idsRightsSpec.post enc Try.prog Try.f5 false true false false) :=
  law_lifted (C := Try.checked) (tb := tab) (sa := [.g (.f (.a (.sl 2)))]) (n := 9) (d := 4) (tr := 4) tabOk own started (by kernel_rfl) Try.func5
    (ChangeSpec.witness6 (enc := enc) (C := Try.checked) false ⟨#[], #[.slice none 0 0], []⟩ 8 (by kernel_rfl) (by kernel_rfl) (by kernel_rfl) (by kernel_rfl)) rfl
    (fun ds h => match ds, h with | [_], _ => rfl) rfl (by kernel_rfl) (by kernel_rfl) (by kernel_rfl) (by kernel_rfl) good
theorem over : Rows.idsRightsRow.holds Try.pinned (OpenSpec.ofChange Rows.idsRightsSpec) :=
  OpenClaim.holds_of_wide 5 Try.f5 rfl rfl rfl rfl rfl rfl rfl ⟨rfl, rfl, rfl, rfl, rfl⟩ rfl rfl rfl rfl rfl (by kernel_rfl) Try.func5 (by kernel_rfl)
    (of_decide_eq_true (by kernel_rfl)) (by unfold Func.isWrapper; first | (rw [if_pos (by decide +kernel)]; kernel_rfl) | (rw [if_neg (by decide +kernel)]; exact ⟨rfl, rfl⟩))
    (fun os started H enc _ => lifted os started H enc)
end Go.Proofs.Ythabicfefgahkaa.idsRightsP
namespace Go.Proofs.Ythabicfefgahkaa
/-- The statement. -/
theorem idsRights_holds : Rows.IdsRightsSaid := idsRightsP.over
#print axioms idsRights_holds
end Go.Proofs.Ythabicfefgahkaa
