/- The law IdsCounts is true for every input. -/
import Derived.Test.YthabicfefgahkaaPIdsC
import Derived.Test.YthabicfefgahkaaRows
set_option linter.unusedSimpArgs false
set_option linter.unusedVariables false
set_option maxRecDepth 100000
namespace Go.Proofs.Ythabicfefgahkaa.idsCountsP
open Go.Rv
theorem own : ownKnob Try.prog.godebug = none := by kernel_rfl
theorem good (x : tyL Tb [.g (.f (.a .u16)), .g (.st 3), .g (.f (.a .b))]) (hx : szArgs tab 4 [.g (.f (.a .u16)), .g (.st 3), .g (.f (.a .b))] x) : Fun Try.prog (fun _ => True) 4 (avL tab (injL tab [.g (.f (.a .u16)), .g (.st 3), .g (.f (.a .b))] x)) [] (.b true) [] := by
  refine law_good l11_IdsCounts_k x ?_
  have e : (l11_IdsCounts_w).run (injL tab [.g (.f (.a .u16)), .g (.st 3), .g (.f (.a .b))] x) [] (fun r H => some (r, H)) = (l11_IdsCounts x.1 (⟨x.2.1.x0, x.2.1.x1⟩ : arr2_i64) x.2.2.1).bind fun y => some (TV.b y, ([] : THeap Tb)) := by kernel_rfl
  rw [e, pure_IdsCounts _ hx]
  rfl
theorem lifted (os : Os) (started : os.Started) (H : Type) (enc : TypeId × Value → H) :
    ReturnsInHanded {} Try.checked os 4 .any (Rows.idsCountsSpec.pre6 enc Try.prog Try.f4 Rows.idsCountsRow.domain false) (Rows.idsCountsSpec.post enc Try.prog Try.f4 false true false false) :=
  law_lifted (C := Try.checked) (tb := tab) (sa := [.g (.f (.a .u16)), .g (.st 3), .g (.f (.a .b))]) (n := 9) (d := 4) (tr := 4) tabOk own started (by kernel_rfl) Try.func4
    (ChangeSpec.witness6 (enc := enc) (C := Try.checked) false ⟨#[], #[.int .u16 0, .agg #[.int .i64 0, .int .i64 0], .bool false], []⟩ 8 (by kernel_rfl) (by kernel_rfl) (by kernel_rfl) (by kernel_rfl)) rfl
    (fun ds h => match ds, h with | [_, _, _], _ => rfl) rfl (by kernel_rfl) (by kernel_rfl) (by kernel_rfl) (by kernel_rfl) good
theorem over : Rows.idsCountsRow.holds Try.pinned (OpenSpec.ofChange Rows.idsCountsSpec) :=
  OpenClaim.holds_of_wide 4 Try.f4 rfl rfl rfl rfl rfl rfl rfl ⟨rfl, rfl, rfl, rfl, rfl⟩ rfl rfl rfl rfl rfl (by kernel_rfl) Try.func4 (by kernel_rfl)
    (of_decide_eq_true (by kernel_rfl)) (by unfold Func.isWrapper; first | (rw [if_pos (by decide +kernel)]; kernel_rfl) | (rw [if_neg (by decide +kernel)]; exact ⟨rfl, rfl⟩))
    (fun os started H enc _ => lifted os started H enc)
end Go.Proofs.Ythabicfefgahkaa.idsCountsP
namespace Go.Proofs.Ythabicfefgahkaa
/-- The statement. -/
theorem idsCounts_holds : Rows.IdsCountsSaid := idsCountsP.over
#print axioms idsCounts_holds
end Go.Proofs.Ythabicfefgahkaa
