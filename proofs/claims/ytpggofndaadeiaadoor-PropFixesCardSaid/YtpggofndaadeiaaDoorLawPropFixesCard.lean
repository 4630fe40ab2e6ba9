/- The law PropFixes is true for every input. -/
import Derived.Test.YtpggofndaadeiaaDoorLaid
import Derived.Test.YtpggofndaadeiaaDoorRows
import Derived.Test.YtpggofndaadeiaaDoorCards
import Derived.Test.YtpggofndaadeiaaDoorTie
import Derived.SevenTiedAt
set_option linter.unusedSimpArgs false
set_option linter.unusedVariables false
set_option maxRecDepth 100000
namespace Go.Proofs.YtpggofndaadeiaaDoor.propFixesP
open Go.Rv
theorem good (x : tyL Tb [.g (.st 3), .g (.f (.a (.n .i64)))]) (hx : szArgs tab 4 [.g (.st 3), .g (.f (.a (.n .i64)))] x) : Fun Tryd.prog TrydWp 5 (avL tab (injL tab [.g (.st 3), .g (.f (.a (.n .i64)))] x)) [] (.b true) [] := by
  refine law_goodW (Wp := TrydWp) l05_PropFixes_k x ?_
  have e : (l05_PropFixes_w).run (injL tab [.g (.st 3), .g (.f (.a (.n .i64)))] x) [] (fun r H => some (r, H)) = (l05_PropFixes (⟨x.1.Id, x.1.N, x.1.A, x.1.B⟩ : r05_Prop) x.2.1).bind fun y => some (TV.b y, ([] : THeap Tb)) := by kernel_rfl
  rw [e, pure_PropFixes _ hx]
  rfl
theorem witness_row (os : Os) {H : Type} (enc : TypeId × Value → H) :
    (OpenSpec.ofChange Rows.propFixesSpec).preRow enc Tryd.prog Tryd.f5 Rows.propFixesRow.domain false Rows.propFixesRow.laid ((laidWorld os).forCall (fun _ _ => 0) ⟨#[], #[.agg #[.int .u8 0, .int .u32 0, .string ⟨#[]⟩, .string ⟨#[]⟩], .int .i64 0], []⟩).memory #[.agg #[.int .u8 0, .int .u32 0, .string ⟨#[]⟩, .string ⟨#[]⟩], .int .i64 0] := by
  have hw : (DataW.whole enc Tryd.prog ((laidWorld os).forCall (fun _ _ => 0) ⟨#[], #[.agg #[.int .u8 0, .int .u32 0, .string ⟨#[]⟩, .string ⟨#[]⟩], .int .i64 0], []⟩).memory Tryd.f5.params.toList (OpenSpec.ofChange Rows.propFixesSpec).vars false (#[.agg #[.int .u8 0, .int .u32 0, .string ⟨#[]⟩, .string ⟨#[]⟩], .int .i64 0] : Array Value).toList 8).map (fun x => (x.1, x.2.1)) =
      some ([.agg [.lit (.int .u8 0), .lit (.int .u32 0), .lit (.string []), .lit (.string [])], .lit (.int .i64 0)], []) := by kernel_rfl
  obtain ⟨⟨x1, x2, x3⟩, hx, hx1⟩ := Option.map_eq_some_iff.1 hw
  simp only [Prod.mk.injEq] at hx1
  obtain ⟨rfl, rfl⟩ := hx1
  exact OpenSpec.preRow_of_cond 8 hx (by kernel_rfl) (fun k hk => by cases hk) (by kernel_rfl) (laid_met os _)
theorem lifted (os : Os) (started : os.Started) (H : Type) (enc : TypeId × Value → H) (F : Stop.Interp) :
    ReturnsInHanded {} Tryd.checked os 5 .any ((OpenSpec.ofChange Rows.propFixesSpec).preRow enc Tryd.prog Tryd.f5 Rows.propFixesRow.domain false Rows.propFixesRow.laid) (((OpenSpec.ofChange Rows.propFixesSpec).at F).post enc Tryd.prog Tryd.f5 false true false false) :=
  law_lifted_laid (C := Tryd.checked) (tb := tab) (sa := [.g (.st 3), .g (.f (.a (.n .i64)))]) (n := 9) (d := 4) (tr := 4) (Wp := TrydWp) tabOk own started (by kernel_rfl) Tryd.func5
    (witness_row_atRef (enc := enc) (C := Tryd.checked) false (laidWorld os) #[.agg #[.int .u8 0, .int .u32 0, .string ⟨#[]⟩, .string ⟨#[]⟩], .int .i64 0] rfl (by kernel_rfl) (by kernel_rfl) (by kernel_rfl) (witness_row os enc)) rfl
    (fun ds h => match ds, h with | [_, _], _ => rfl) rfl (by kernel_rfl) (by kernel_rfl) (by kernel_rfl) (by kernel_rfl) tabs_of good
theorem over : Rows.propFixesRow.holds Tryd.pinned (OpenSpec.ofChange Rows.propFixesSpec) :=
  OpenClaim.holds_of_cond 5 Tryd.f5 rfl rfl rfl rfl rfl rfl rfl ⟨rfl, rfl, rfl, rfl, rfl⟩ rfl rfl rfl rfl rfl (by kernel_rfl) Tryd.func5 (by kernel_rfl)
    (of_decide_eq_true (by kernel_rfl)) (by unfold Func.isWrapper; first | (rw [if_pos (by decide +kernel)]; kernel_rfl) | (rw [if_neg (by decide +kernel)]; exact ⟨rfl, rfl⟩))
    (fun os started H enc _ F0 => by rw [OpenClaim.pre_eq_preRow]; exact lifted os started H enc F0)
end Go.Proofs.YtpggofndaadeiaaDoor.propFixesP
namespace Go.Proofs.YtpggofndaadeiaaDoor
/-- The statement. -/
theorem propFixesCard_holds : Rows.PropFixesCardSaid :=
  Claim7.holds_tied_plain_at .later [] [.data, .pinned] true (true, "841035e3da58f21fb07af0b580fffb6e821889514fa9adacabe61273cab441ef") false
    propFixesP.over (fun _ h => by cases h) (by kernel_rfl) (fun _ h => by cases h) propFixes_row_tie rfl ⟨rfl, rfl⟩ (by kernel_rfl) rfl
    (fun f fn hf hfn => by
      obtain rfl : f = 5 := Option.some.inj ((show Tryd.prog.funcNamed "pouch/pouchlaw05.PropFixes" = some 5 by kernel_rfl).symm.trans hf) |>.symm
      obtain rfl : fn = Tryd.f5 := (Option.some.inj (Tryd.func5.symm.trans hfn)).symm
      exact ⟨by kernel_rfl, Go.Rv.no_stand (by kernel_rfl)⟩)
    (by kernel_rfl)
#print axioms propFixesCard_holds
end Go.Proofs.YtpggofndaadeiaaDoor
