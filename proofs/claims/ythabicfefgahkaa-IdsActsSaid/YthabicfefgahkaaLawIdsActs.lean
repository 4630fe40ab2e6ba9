/- The law IdsActs is true for every input. -/
import Derived.Test.YthabicfefgahkaaPIdsA
import Derived.Test.YthabicfefgahkaaRows
set_option linter.unusedSimpArgs false
set_option linter.unusedVariables false
set_option maxRecDepth 100000
namespace Go.Proofs.Ythabicfefgahkaa.idsActsP
open Go.Rv
theorem own : ownKnob Try.prog.godebug = none := by kernel_rfl
theorem good (x : tyL Tb [.g (.f (.a (.sl 7)))]) (hx : szArgs tab 4 [.g (.f (.a (.sl 7)))] x) : Fun Try.prog (fun _ => True) 6 (avL tab (injL tab [.g (.f (.a (.sl 7)))] x)) [] (.b true) [] := by
  refine law_good l11_IdsActs_k x ?_
  have e : (l11_IdsActs_w).run (injL tab [.g (.f (.a (.sl 7)))] x) [] (fun r H => some (r, H)) = (l11_IdsActs x.1).bind fun y => some (TV.b y, ([] : THeap Tb)) := by kernel_rfl
  rw [e, pure_IdsActs _ hx]
  rfl
theorem lifted (os : Os) (started : os.Started) (H : Type) (enc : TypeId × Value → H) :
    ReturnsInHanded {} Try.checked os 6 .any (Rows.idsActsSpec.pre6 enc Try.prog Try.f6 Rows.idsActsRow.domain false) (Rows.idsActsSpec.post enc Try.prog Try.f6 false true false false) :=
  law_lifted (C := Try.checked) (tb := tab) (sa := [.g (.f (.a (.sl 7)))]) (n := 9) (d := 4) (tr := 4) tabOk own started (by kernel_rfl) Try.func6
    (ChangeSpec.witness6 (enc := enc) (C := Try.checked) false ⟨#[], #[.slice none 0 0], []⟩ 8 (by kernel_rfl) (by kernel_rfl) (by kernel_rfl) (by kernel_rfl)) rfl
    (fun ds h => match ds, h with | [_], _ => rfl) rfl (by kernel_rfl) (by kernel_rfl) (by kernel_rfl) (by kernel_rfl) good
theorem over : Rows.idsActsRow.holds Try.pinned (OpenSpec.ofChange Rows.idsActsSpec) :=
  OpenClaim.holds_of_wide 6 Try.f6 rfl rfl rfl rfl rfl rfl rfl ⟨rfl, rfl, rfl, rfl, rfl⟩ rfl rfl rfl rfl rfl (by kernel_rfl) Try.func6 (by kernel_rfl)
    (of_decide_eq_true (by kernel_rfl)) (by unfold Func.isWrapper; first | (rw [if_pos (by decide +kernel)]; kernel_rfl) | (rw [if_neg (by decide +kernel)]; exact ⟨rfl, rfl⟩))
    (fun os started H enc _ => lifted os started H enc)
end Go.Proofs.Ythabicfefgahkaa.idsActsP
namespace Go.Proofs.Ythabicfefgahkaa
/-- The statement. -/
theorem idsActs_holds : Rows.IdsActsSaid := idsActsP.over
#print axioms idsActs_holds
end Go.Proofs.Ythabicfefgahkaa
