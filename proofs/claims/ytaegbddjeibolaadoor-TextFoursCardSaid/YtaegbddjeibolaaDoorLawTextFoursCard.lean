/- The law TextFours is true for every input. -/
import Derived.Test.YtaegbddjeibolaaDoorLaid
import Derived.Test.YtaegbddjeibolaaDoorRows
import Derived.Test.YtaegbddjeibolaaDoorCards
import Derived.Test.YtaegbddjeibolaaDoorTie
import Derived.SevenTiedAt
set_option linter.unusedSimpArgs false
set_option linter.unusedVariables false
set_option maxRecDepth 100000
namespace Go.Proofs.YtaegbddjeibolaaDoor.textFoursP
open Go.Rv
theorem good (x : tyL Tb [.g (.st 2)]) (hx : szArgs tab 4 [.g (.st 2)] x) : Fun Tryd.prog TrydWp 4 (avL tab (injL tab [.g (.st 2)] x)) [] (.b true) [] := by
  refine law_goodW (Wp := TrydWp) l02_TextFours_k x ?_
  have e : (l02_TextFours_w).run (injL tab [.g (.st 2)] x) [] (fun r H => some (r, H)) = (l02_TextFours (⟨x.1.x0, x.1.x1, x.1.x2, x.1.x3⟩ : arr4_u8)).bind fun y => some (TV.b y, ([] : THeap Tb)) := by kernel_rfl
  rw [e, pure_TextFours _ hx]
  rfl
theorem witness_row (os : Os) {H : Type} (enc : TypeId × Value → H) :
    (OpenSpec.ofChange Rows.textFoursSpec).preRow enc Tryd.prog Tryd.f4 Rows.textFoursRow.domain false Rows.textFoursRow.laid ((laidWorld os).forCall (fun _ _ => 0) ⟨#[], #[.agg #[.int .u8 0, .int .u8 0, .int .u8 0, .int .u8 0]], []⟩).memory #[.agg #[.int .u8 0, .int .u8 0, .int .u8 0, .int .u8 0]] := by
  have hw : (DataW.whole enc Tryd.prog ((laidWorld os).forCall (fun _ _ => 0) ⟨#[], #[.agg #[.int .u8 0, .int .u8 0, .int .u8 0, .int .u8 0]], []⟩).memory Tryd.f4.params.toList (OpenSpec.ofChange Rows.textFoursSpec).vars false (#[.agg #[.int .u8 0, .int .u8 0, .int .u8 0, .int .u8 0]] : Array Value).toList 8).map (fun x => (x.1, x.2.1)) =
      some ([.agg [.lit (.int .u8 0), .lit (.int .u8 0), .lit (.int .u8 0), .lit (.int .u8 0)]], []) := by kernel_rfl
  obtain ⟨⟨x1, x2, x3⟩, hx, hx1⟩ := Option.map_eq_some_iff.1 hw
  simp only [Prod.mk.injEq] at hx1
  obtain ⟨rfl, rfl⟩ := hx1
  exact OpenSpec.preRow_of_cond 8 hx (by kernel_rfl) (fun k hk => by cases hk) (by kernel_rfl) (laid_met os _)
theorem lifted (os : Os) (started : os.Started) (H : Type) (enc : TypeId × Value → H) (F : Stop.Interp) :
    ReturnsInHanded {} Tryd.checked os 4 .any ((OpenSpec.ofChange Rows.textFoursSpec).preRow enc Tryd.prog Tryd.f4 Rows.textFoursRow.domain false Rows.textFoursRow.laid) (((OpenSpec.ofChange Rows.textFoursSpec).at F).post enc Tryd.prog Tryd.f4 false true false false) :=
  law_lifted_laid (C := Tryd.checked) (tb := tab) (sa := [.g (.st 2)]) (n := 9) (d := 4) (tr := 4) (Wp := TrydWp) tabOk own started (by kernel_rfl) Tryd.func4
    (witness_row_atRef (enc := enc) (C := Tryd.checked) false (laidWorld os) #[.agg #[.int .u8 0, .int .u8 0, .int .u8 0, .int .u8 0]] rfl (by kernel_rfl) (by kernel_rfl) (by kernel_rfl) (witness_row os enc)) rfl
    (fun ds h => match ds, h with | [_], _ => rfl) rfl (by kernel_rfl) (by kernel_rfl) (by kernel_rfl) (by kernel_rfl) tabs_of good
theorem over : Rows.textFoursRow.holds Tryd.pinned (OpenSpec.ofChange Rows.textFoursSpec) :=
  OpenClaim.holds_of_cond 4 Tryd.f4 rfl rfl rfl rfl rfl rfl rfl ⟨rfl, rfl, rfl, rfl, rfl⟩ rfl rfl rfl rfl rfl (by kernel_rfl) Tryd.func4 (by kernel_rfl)
    (of_decide_eq_true (by kernel_rfl)) (by unfold Func.isWrapper; first | (rw [if_pos (by decide +kernel)]; kernel_rfl) | (rw [if_neg (by decide +kernel)]; exact ⟨rfl, rfl⟩))
    (fun os started H enc _ F0 => by rw [OpenClaim.pre_eq_preRow]; exact lifted os started H enc F0)
end Go.Proofs.YtaegbddjeibolaaDoor.textFoursP
namespace Go.Proofs.YtaegbddjeibolaaDoor
/-- The statement. -/
theorem textFoursCard_holds : Rows.TextFoursCardSaid :=
  Claim7.holds_tied_plain_at .later [] [.data, .pinned] true (true, "fe4be7fade296e122339613ba3f4c61e4b02d8ef8e286693fea93c9f5d22be36") false
    textFoursP.over (fun _ h => by cases h) (by kernel_rfl) (fun _ h => by cases h) textFours_row_tie rfl ⟨rfl, rfl⟩ (by kernel_rfl) rfl
    (fun f fn hf hfn => by
      obtain rfl : f = 4 := Option.some.inj ((show Tryd.prog.funcNamed "pouch/pouchlaw02.TextFours" = some 4 by kernel_rfl).symm.trans hf) |>.symm
      obtain rfl : fn = Tryd.f4 := (Option.some.inj (Tryd.func4.symm.trans hfn)).symm
      exact ⟨by kernel_rfl, Go.Rv.no_stand (by kernel_rfl)⟩)
    (by kernel_rfl)
#print axioms textFoursCard_holds
end Go.Proofs.YtaegbddjeibolaaDoor
