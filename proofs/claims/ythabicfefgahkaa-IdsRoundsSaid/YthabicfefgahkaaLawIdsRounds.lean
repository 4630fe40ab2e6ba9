/- The law IdsRounds is true for every input. -/
import Derived.Test.YthabicfefgahkaaPIdsO
import Derived.Test.YthabicfefgahkaaRows
set_option linter.unusedSimpArgs false
set_option linter.unusedVariables false
set_option maxRecDepth 100000
namespace Go.Proofs.Ythabicfefgahkaa.idsRoundsP
open Go.Rv
theorem own : ownKnob Try.prog.godebug = none := by kernel_rfl
theorem good (x : tyL Tb [.g (.f (.a (.sl 4))), .g (.f (.a (.sl 5))), .g (.f (.a (.sl 6)))]) (hx : szArgs tab 4 [.g (.f (.a (.sl 4))), .g (.f (.a (.sl 5))), .g (.f (.a (.sl 6)))] x) : Fun Try.prog (fun _ => True) 3 (avL tab (injL tab [.g (.f (.a (.sl 4))), .g (.f (.a (.sl 5))), .g (.f (.a (.sl 6)))] x)) [] (.b true) [] := by
  refine law_good l11_IdsRounds_k x ?_
  have e : (l11_IdsRounds_w).run (injL tab [.g (.f (.a (.sl 4))), .g (.f (.a (.sl 5))), .g (.f (.a (.sl 6)))] x) [] (fun r H => some (r, H)) = (l11_IdsRounds x.1 x.2.1 x.2.2.1).bind fun y => some (TV.b y, ([] : THeap Tb)) := by kernel_rfl
  rw [e, pure_IdsRounds _ hx]
  rfl
theorem lifted (os : Os) (started : os.Started) (H : Type) (enc : TypeId × Value → H) :
    ReturnsInHanded {} Try.checked os 3 .any (Rows.idsRoundsSpec.pre6 enc Try.prog Try.f3 Rows.idsRoundsRow.domain false) (Rows.idsRoundsSpec.post enc Try.prog Try.f3 false true false false) :=
  law_lifted (C := Try.checked) (tb := tab) (sa := [.g (.f (.a (.sl 4))), .g (.f (.a (.sl 5))), .g (.f (.a (.sl 6)))]) (n := 9) (d := 4) (tr := 4) tabOk own started (by kernel_rfl) Try.func3
    (ChangeSpec.witness6 (enc := enc) (C := Try.checked) false ⟨#[], #[.slice none 0 0, .slice none 0 0, .slice none 0 0], []⟩ 8 (by kernel_rfl) (by kernel_rfl) (by kernel_rfl) (by kernel_rfl)) rfl
    (fun ds h => match ds, h with | [_, _, _], _ => rfl) rfl (by kernel_rfl) (by kernel_rfl) (by kernel_rfl) (by kernel_rfl) good
theorem over : Rows.idsRoundsRow.holds Try.pinned (OpenSpec.ofChange Rows.idsRoundsSpec) :=
  OpenClaim.holds_of_wide 3 Try.f3 rfl rfl rfl rfl rfl rfl rfl ⟨rfl, rfl, rfl, rfl, rfl⟩ rfl rfl rfl rfl rfl (by kernel_rfl) Try.func3 (by kernel_rfl)
    (of_decide_eq_true (by kernel_rfl)) (by unfold Func.isWrapper; first | (rw [if_pos (by decide +kernel)]; kernel_rfl) | (rw [if_neg (by decide +kernel)]; exact ⟨rfl, rfl⟩))
    (fun os started H enc _ => lifted os started H enc)
end Go.Proofs.Ythabicfefgahkaa.idsRoundsP
namespace Go.Proofs.Ythabicfefgahkaa
/-- The statement. -/
theorem idsRounds_holds : Rows.IdsRoundsSaid := idsRoundsP.over
#print axioms idsRounds_holds
end Go.Proofs.Ythabicfefgahkaa
