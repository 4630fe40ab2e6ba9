/- The law TopicSelves is true for every input. -/
import Derived.Test.YtpggofndaadeiaaDoorLaid
import Derived.Test.YtpggofndaadeiaaDoorRows
import Derived.Test.YtpggofndaadeiaaDoorCards
import Derived.Test.YtpggofndaadeiaaDoorTie
import Derived.SevenTiedAt
set_option linter.unusedSimpArgs false
set_option linter.unusedVariables false
set_option maxRecDepth 100000
namespace Go.Proofs.YtpggofndaadeiaaDoor.topicSelvesP
open Go.Rv
theorem good (x : tyL Tb [.g (.f (.a .s)), .g (.f (.a (.n .i64)))]) (hx : szArgs tab 4 [.g (.f (.a .s)), .g (.f (.a (.n .i64)))] x) : Fun Tryd.prog TrydWp 8 (avL tab (injL tab [.g (.f (.a .s)), .g (.f (.a (.n .i64)))] x)) [] (.b true) [] := by
  refine law_goodW (Wp := TrydWp) l04_TopicSelves_k x ?_
  have e : (l04_TopicSelves_w).run (injL tab [.g (.f (.a .s)), .g (.f (.a (.n .i64)))] x) [] (fun r H => some (r, H)) = (l04_TopicSelves x.1 x.2.1).bind fun y => some (TV.b y, ([] : THeap Tb)) := by kernel_rfl
  rw [e, pure_TopicSelves _ hx]
  rfl
theorem witness_row (os : Os) {H : Type} (enc : TypeId × Value → H) :
    (OpenSpec.ofChange Rows.topicSelvesSpec).preRow enc Tryd.prog Tryd.f8 Rows.topicSelvesRow.domain false Rows.topicSelvesRow.laid ((laidWorld os).forCall (fun _ _ => 0) ⟨#[], #[.string ⟨#[]⟩, .int .i64 0], []⟩).memory #[.string ⟨#[]⟩, .int .i64 0] := by
  have hw : (DataW.whole enc Tryd.prog ((laidWorld os).forCall (fun _ _ => 0) ⟨#[], #[.string ⟨#[]⟩, .int .i64 0], []⟩).memory Tryd.f8.params.toList (OpenSpec.ofChange Rows.topicSelvesSpec).vars false (#[.string ⟨#[]⟩, .int .i64 0] : Array Value).toList 8).map (fun x => (x.1, x.2.1)) =
      some ([.lit (.string []), .lit (.int .i64 0)], []) := by kernel_rfl
  obtain ⟨⟨x1, x2, x3⟩, hx, hx1⟩ := Option.map_eq_some_iff.1 hw
  simp only [Prod.mk.injEq] at hx1
  obtain ⟨rfl, rfl⟩ := hx1
  exact OpenSpec.preRow_of_cond 8 hx (by kernel_rfl) (fun k hk => by cases hk) (by kernel_rfl) (laid_met os _)
theorem lifted (os : Os) (started : os.Started) (H : Type) (enc : TypeId × Value → H) (F : Stop.Interp) :
    ReturnsInHanded {} Tryd.checked os 8 .any ((OpenSpec.ofChange Rows.topicSelvesSpec).preRow enc Tryd.prog Tryd.f8 Rows.topicSelvesRow.domain false Rows.topicSelvesRow.laid) (((OpenSpec.ofChange Rows.topicSelvesSpec).at F).post enc Tryd.prog Tryd.f8 false true false false) :=
  law_lifted_laid (C := Tryd.checked) (tb := tab) (sa := [.g (.f (.a .s)), .g (.f (.a (.n .i64)))]) (n := 9) (d := 4) (tr := 4) (Wp := TrydWp) tabOk own started (by kernel_rfl) Tryd.func8
    (witness_row_atRef (enc := enc) (C := Tryd.checked) false (laidWorld os) #[.string ⟨#[]⟩, .int .i64 0] rfl (by kernel_rfl) (by kernel_rfl) (by kernel_rfl) (witness_row os enc)) rfl
    (fun ds h => match ds, h with | [_, _], _ => rfl) rfl (by kernel_rfl) (by kernel_rfl) (by kernel_rfl) (by kernel_rfl) tabs_of good
theorem over : Rows.topicSelvesRow.holds Tryd.pinned (OpenSpec.ofChange Rows.topicSelvesSpec) :=
  OpenClaim.holds_of_cond 8 Tryd.f8 rfl rfl rfl rfl rfl rfl rfl ⟨rfl, rfl, rfl, rfl, rfl⟩ rfl rfl rfl rfl rfl (by kernel_rfl) Tryd.func8 (by kernel_rfl)
    (of_decide_eq_true (by kernel_rfl)) (by unfold Func.isWrapper; first | (rw [if_pos (by decide +kernel)]; kernel_rfl) | (rw [if_neg (by decide +kernel)]; exact ⟨rfl, rfl⟩))
    (fun os started H enc _ F0 => by rw [OpenClaim.pre_eq_preRow]; exact lifted os started H enc F0)
end Go.Proofs.YtpggofndaadeiaaDoor.topicSelvesP
namespace Go.Proofs.YtpggofndaadeiaaDoor
/-- The statement. -/
theorem topicSelvesCard_holds : Rows.TopicSelvesCardSaid :=
  Claim7.holds_tied_plain_at .later [] [.data, .pinned] true (true, "841035e3da58f21fb07af0b580fffb6e821889514fa9adacabe61273cab441ef") false
    topicSelvesP.over (fun _ h => by cases h) (by kernel_rfl) (fun _ h => by cases h) topicSelves_row_tie rfl ⟨rfl, rfl⟩ (by kernel_rfl) rfl
    (fun f fn hf hfn => by
      obtain rfl : f = 8 := Option.some.inj ((show Tryd.prog.funcNamed "pouch/pouchlaw04.TopicSelves" = some 8 by kernel_rfl).symm.trans hf) |>.symm
      obtain rfl : fn = Tryd.f8 := (Option.some.inj (Tryd.func8.symm.trans hfn)).symm
      exact ⟨by kernel_rfl, Go.Rv.no_stand (by kernel_rfl)⟩)
    (by kernel_rfl)
#print axioms topicSelvesCard_holds
end Go.Proofs.YtpggofndaadeiaaDoor
