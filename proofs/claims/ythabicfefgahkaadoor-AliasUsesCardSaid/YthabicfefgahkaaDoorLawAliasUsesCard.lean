/- The law AliasUses is true for every input. -/
import Derived.Test.YthabicfefgahkaaDoorLaid
import Derived.Test.YthabicfefgahkaaDoorRows
import Derived.Test.YthabicfefgahkaaDoorCards
import Derived.Test.YthabicfefgahkaaDoorTie
import Derived.SevenTiedAt
set_option linter.unusedSimpArgs false
set_option linter.unusedVariables false
set_option maxRecDepth 100000
namespace Go.Proofs.YthabicfefgahkaaDoor.aliasUsesP
open Go.Rv
theorem good (x : tyL Tb [.g (.f (.a .u16)), .g (.f (.a (.sl 3)))]) (hx : szArgs tab 4 [.g (.f (.a .u16)), .g (.f (.a (.sl 3)))] x) : Fun Tryd.prog TrydWp 4 (avL tab (injL tab [.g (.f (.a .u16)), .g (.f (.a (.sl 3)))] x)) [] (.b true) [] := by
  refine law_goodW (Wp := TrydWp) l12_AliasUses_k x ?_
  have e : (l12_AliasUses_w).run (injL tab [.g (.f (.a .u16)), .g (.f (.a (.sl 3)))] x) [] (fun r H => some (r, H)) = (l12_AliasUses x.1 x.2.1).bind fun y => some (TV.b y, ([] : THeap Tb)) := by kernel_rfl
  rw [e, pure_AliasUses _ hx]
  rfl
theorem witness_row (os : Os) {H : Type} (enc : TypeId × Value → H) :
    (OpenSpec.ofChange Rows.aliasUsesSpec).preRow enc Tryd.prog Tryd.f4 Rows.aliasUsesRow.domain false Rows.aliasUsesRow.laid ((laidWorld os).forCall (fun _ _ => 0) ⟨#[], #[.int .u16 0, .slice none 0 0], []⟩).memory #[.int .u16 0, .slice none 0 0] := by
  have hw : (DataW.whole enc Tryd.prog ((laidWorld os).forCall (fun _ _ => 0) ⟨#[], #[.int .u16 0, .slice none 0 0], []⟩).memory Tryd.f4.params.toList (OpenSpec.ofChange Rows.aliasUsesSpec).vars false (#[.int .u16 0, .slice none 0 0] : Array Value).toList 8).map (fun x => (x.1, x.2.1)) =
      some ([.lit (.int .u16 0), .nil], []) := by kernel_rfl
  obtain ⟨⟨x1, x2, x3⟩, hx, hx1⟩ := Option.map_eq_some_iff.1 hw
  simp only [Prod.mk.injEq] at hx1
  obtain ⟨rfl, rfl⟩ := hx1
  exact OpenSpec.preRow_of_cond 8 hx (by kernel_rfl) (fun k hk => by cases hk) (by kernel_rfl) (laid_met os _)
theorem lifted (os : Os) (started : os.Started) (H : Type) (enc : TypeId × Value → H) (F : Stop.Interp) :
    ReturnsInHanded {} Tryd.checked os 4 .any ((OpenSpec.ofChange Rows.aliasUsesSpec).preRow enc Tryd.prog Tryd.f4 Rows.aliasUsesRow.domain false Rows.aliasUsesRow.laid) (((OpenSpec.ofChange Rows.aliasUsesSpec).at F).post enc Tryd.prog Tryd.f4 false true false false) :=
  law_lifted_laid (C := Tryd.checked) (tb := tab) (sa := [.g (.f (.a .u16)), .g (.f (.a (.sl 3)))]) (n := 9) (d := 4) (tr := 4) (Wp := TrydWp) tabOk own started (by kernel_rfl) Tryd.func4
    (witness_row_atRef (enc := enc) (C := Tryd.checked) false (laidWorld os) #[.int .u16 0, .slice none 0 0] rfl (by kernel_rfl) (by kernel_rfl) (by kernel_rfl) (witness_row os enc)) rfl
    (fun ds h => match ds, h with | [_, _], _ => rfl) rfl (by kernel_rfl) (by kernel_rfl) (by kernel_rfl) (by kernel_rfl) tabs_of good
theorem over : Rows.aliasUsesRow.holds Tryd.pinned (OpenSpec.ofChange Rows.aliasUsesSpec) :=
  OpenClaim.holds_of_cond 4 Tryd.f4 rfl rfl rfl rfl rfl rfl rfl ⟨rfl, rfl, rfl, rfl, rfl⟩ rfl rfl rfl rfl rfl (by kernel_rfl) Tryd.func4 (by kernel_rfl)
    (of_decide_eq_true (by kernel_rfl)) (by unfold Func.isWrapper; first | (rw [if_pos (by decide +kernel)]; kernel_rfl) | (rw [if_neg (by decide +kernel)]; exact ⟨rfl, rfl⟩))
    (fun os started H enc _ F0 => by rw [OpenClaim.pre_eq_preRow]; exact lifted os started H enc F0)
end Go.Proofs.YthabicfefgahkaaDoor.aliasUsesP
namespace Go.Proofs.YthabicfefgahkaaDoor
/-- The statement. -/
theorem aliasUsesCard_holds : Rows.AliasUsesCardSaid :=
  Claim7.holds_tied_plain_at .later [] [.data, .pinned] true (true, "3484e6c2f8a2da6cc5f6cc05024c3bd1509a57cfb6fade1dfbbfefc468398134") false
    aliasUsesP.over (fun _ h => by cases h) (by kernel_rfl) (fun _ h => by cases h) aliasUses_row_tie rfl ⟨rfl, rfl⟩ (by kernel_rfl) rfl
    (fun f fn hf hfn => by
      obtain rfl : f = 4 := Option.some.inj ((show Tryd.prog.funcNamed "pouch/pouchlaw12.AliasUses" = some 4 by kernel_rfl).symm.trans hf) |>.symm
      obtain rfl : fn = Tryd.f4 := (Option.some.inj (Tryd.func4.symm.trans hfn)).symm
      exact ⟨by kernel_rfl, Go.Rv.no_stand (by kernel_rfl)⟩)
    (by kernel_rfl)
#print axioms aliasUsesCard_holds
end Go.Proofs.YthabicfefgahkaaDoor
