/- The law TopicDeeper is true for every input. -/
import Derived.Test.YtpggofndaadeiaaDoorLaid
import Derived.Test.YtpggofndaadeiaaDoorRows
import Derived.Test.YtpggofndaadeiaaDoorCards
import Derived.Test.YtpggofndaadeiaaDoorTie
import Derived.SevenTiedAt
set_option linter.unusedSimpArgs false
set_option linter.unusedVariables false
set_option maxRecDepth 100000
namespace Go.Proofs.YtpggofndaadeiaaDoor.topicDeeperP
open Go.Rv
theorem good (x : tyL Tb [.g (.f (.a .s)), .g (.f (.a .s))]) (hx : szArgs tab 4 [.g (.f (.a .s)), .g (.f (.a .s))] x) : Fun Tryd.prog TrydWp 9 (avL tab (injL tab [.g (.f (.a .s)), .g (.f (.a .s))] x)) [] (.b true) [] := by
  refine law_goodW (Wp := TrydWp) l04_TopicDeeper_k x ?_
  have e : (l04_TopicDeeper_w).run (injL tab [.g (.f (.a .s)), .g (.f (.a .s))] x) [] (fun r H => some (r, H)) = (l04_TopicDeeper x.1 x.2.1).bind fun y => some (TV.b y, ([] : THeap Tb)) := by kernel_rfl
  rw [e, pure_TopicDeeper _ hx]
  rfl
theorem witness_row (os : Os) {H : Type} (enc : TypeId × Value → H) :
    (OpenSpec.ofChange Rows.topicDeeperSpec).preRow enc Tryd.prog Tryd.f9 Rows.topicDeeperRow.domain false Rows.topicDeeperRow.laid ((laidWorld os).forCall (fun _ _ => 0) ⟨#[], #[.string ⟨#[]⟩, .string ⟨#[]⟩], []⟩).memory #[.string ⟨#[]⟩, .string ⟨#[]⟩] := by
  have hw : (DataW.whole enc Tryd.prog ((laidWorld os).forCall (fun _ _ => 0) ⟨#[], #[.string ⟨#[]⟩, .string ⟨#[]⟩], []⟩).memory Tryd.f9.params.toList (OpenSpec.ofChange Rows.topicDeeperSpec).vars false (#[.string ⟨#[]⟩, .string ⟨#[]⟩] : Array Value).toList 8).map (fun x => (x.1, x.2.1)) =
      some ([.lit (.string []), .lit (.string [])], []) := by kernel_rfl
  obtain ⟨⟨x1, x2, x3⟩, hx, hx1⟩ := Option.map_eq_some_iff.1 hw
  simp only [Prod.mk.injEq] at hx1
  obtain ⟨rfl, rfl⟩ := hx1
  exact OpenSpec.preRow_of_cond 8 hx (by kernel_rfl) (fun k hk => by cases hk) (by kernel_rfl) (laid_met os _)
theorem lifted (os : Os) (started : os.Started) (H : Type) (enc : TypeId × Value → H) (F : Stop.Interp) :
    ReturnsInHanded {} Tryd.checked os 9 .any ((OpenSpec.ofChange Rows.topicDeeperSpec).preRow enc Tryd.prog Tryd.f9 Rows.topicDeeperRow.domain false Rows.topicDeeperRow.laid) (((OpenSpec.ofChange Rows.topicDeeperSpec).at F).post enc Tryd.prog Tryd.f9 false true false false) :=
  law_lifted_laid (C := Tryd.checked) (tb := tab) (sa := [.g (.f (.a .s)), .g (.f (.a .s))]) (n := 9) (d := 4) (tr := 4) (Wp := TrydWp) tabOk own started (by kernel_rfl) Tryd.func9
    (witness_row_atRef (enc := enc) (C := Tryd.checked) false (laidWorld os) #[.string ⟨#[]⟩, .string ⟨#[]⟩] rfl (by kernel_rfl) (by kernel_rfl) (by kernel_rfl) (witness_row os enc)) rfl
    (fun ds h => match ds, h with | [_, _], _ => rfl) rfl (by kernel_rfl) (by kernel_rfl) (by kernel_rfl) (by kernel_rfl) tabs_of good
theorem over : Rows.topicDeeperRow.holds Tryd.pinned (OpenSpec.ofChange Rows.topicDeeperSpec) :=
  OpenClaim.holds_of_cond 9 Tryd.f9 rfl rfl rfl rfl rfl rfl rfl ⟨rfl, rfl, rfl, rfl, rfl⟩ rfl rfl rfl rfl rfl (by kernel_rfl) Tryd.func9 (by kernel_rfl)
    (of_decide_eq_true (by kernel_rfl)) (by unfold Func.isWrapper; first | (rw [if_pos (by decide +kernel)]; kernel_rfl) | (rw [if_neg (by decide +kernel)]; exact ⟨rfl, rfl⟩))
    (fun os started H enc _ F0 => by rw [OpenClaim.pre_eq_preRow]; exact lifted os started H enc F0)
end Go.Proofs.YtpggofndaadeiaaDoor.topicDeeperP
namespace Go.Proofs.YtpggofndaadeiaaDoor
/-- The statement. -/
theorem topicDeeperCard_holds : Rows.TopicDeeperCardSaid :=
  Claim7.holds_tied_plain_at .later [] [.data, .pinned] true (true, "841035e3da58f21fb07af0b580fffb6e821889514fa9adacabe61273cab441ef") false
    topicDeeperP.over (fun _ h => by cases h) (by kernel_rfl) (fun _ h => by cases h) topicDeeper_row_tie rfl ⟨rfl, rfl⟩ (by kernel_rfl) rfl
    (fun f fn hf hfn => by
      obtain rfl : f = 9 := Option.some.inj ((show Tryd.prog.funcNamed "pouch/pouchlaw04.TopicDeeper" = some 9 by kernel_rfl).symm.trans hf) |>.symm
      obtain rfl : fn = Tryd.f9 := (Option.some.inj (Tryd.func9.symm.trans hfn)).symm
      exact ⟨by kernel_rfl, Go.Rv.no_stand (by kernel_rfl)⟩)
    (by kernel_rfl)
#print axioms topicDeeperCard_holds
end Go.Proofs.YtpggofndaadeiaaDoor
