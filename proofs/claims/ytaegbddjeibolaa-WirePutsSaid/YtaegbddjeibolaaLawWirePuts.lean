/- The law WirePuts is true for every input. -/
import Derived.Test.YtaegbddjeibolaaPuts3
import Derived.Test.YtaegbddjeibolaaRows
set_option linter.unusedSimpArgs false
set_option linter.unusedVariables false
set_option maxRecDepth 100000
namespace Go.Proofs.Ytaegbddjeibolaa.wirePutsP
open Go.Rv
theorem own : ownKnob Try.prog.godebug = none := by kernel_rfl
theorem good (x : tyL Tb [.g (.f (.a (.sl 2))), .g (.f (.a (.sl 3)))]) (hx : szArgs tab 4 [.g (.f (.a (.sl 2))), .g (.f (.a (.sl 3)))] x) : Fun Try.prog (fun _ => True) 7 (avL tab (injL tab [.g (.f (.a (.sl 2))), .g (.f (.a (.sl 3)))] x)) [] (.b true) [] := by
  refine law_good l01_WirePuts_k x ?_
  have e : (l01_WirePuts_w).run (injL tab [.g (.f (.a (.sl 2))), .g (.f (.a (.sl 3)))] x) [] (fun r H => some (r, H)) = (l01_WirePuts x.1 x.2.1).bind fun y => some (TV.b y, ([] : THeap Tb)) := by kernel_rfl
  rw [e, pure_WirePuts _ hx]
  rfl
theorem lifted (os : Os) (started : os.Started) (H : Type) (enc : TypeId × Value → H) :
    ReturnsInHanded {} Try.checked os 7 .any (Rows.wirePutsSpec.pre6 enc Try.prog Try.f7 Rows.wirePutsRow.domain false) (Rows.wirePutsSpec.post enc Try.prog Try.f7 false true false false) :=
  law_lifted (C := Try.checked) (tb := tab) (sa := [.g (.f (.a (.sl 2))), .g (.f (.a (.sl 3)))]) (n := 9) (d := 4) (tr := 4) tabOk own started (by kernel_rfl) Try.func7
    (ChangeSpec.witness6 (enc := enc) (C := Try.checked) false ⟨#[], #[.slice none 0 0, .slice none 0 0], []⟩ 8 (by kernel_rfl) (by kernel_rfl) (by kernel_rfl) (by kernel_rfl)) rfl
    (fun ds h => match ds, h with | [_, _], _ => rfl) rfl (by kernel_rfl) (by kernel_rfl) (by kernel_rfl) (by kernel_rfl) good
theorem over : Rows.wirePutsRow.holds Try.pinned (OpenSpec.ofChange Rows.wirePutsSpec) :=
  OpenClaim.holds_of_wide 7 Try.f7 rfl rfl rfl rfl rfl rfl rfl ⟨rfl, rfl, rfl, rfl, rfl⟩ rfl rfl rfl rfl rfl (by kernel_rfl) Try.func7 (by kernel_rfl)
    (of_decide_eq_true (by kernel_rfl)) (by unfold Func.isWrapper; first | (rw [if_pos (by decide +kernel)]; kernel_rfl) | (rw [if_neg (by decide +kernel)]; exact ⟨rfl, rfl⟩))
    (fun os started H enc _ => lifted os started H enc)
end Go.Proofs.Ytaegbddjeibolaa.wirePutsP
namespace Go.Proofs.Ytaegbddjeibolaa
/-- The statement. -/
theorem wirePuts_holds : Rows.WirePutsSaid := wirePutsP.over
#print axioms wirePuts_holds
end Go.Proofs.Ytaegbddjeibolaa
