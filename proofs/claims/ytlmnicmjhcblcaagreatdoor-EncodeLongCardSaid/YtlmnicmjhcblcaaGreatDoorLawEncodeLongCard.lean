/- The law EncodeLong is true for every input. -/
import Derived.Test.YtlmnicmjhcblcaaGreatDoorLaid
import Derived.Test.YtlmnicmjhcblcaaGreatDoorRows
import Derived.Test.YtlmnicmjhcblcaaGreatDoorCards
import Derived.Test.YtlmnicmjhcblcaaGreatDoorTie
import Derived.SevenTiedAt
set_option linter.unusedSimpArgs false
set_option linter.unusedVariables false
set_option maxRecDepth 100000
namespace Go.Proofs.YtlmnicmjhcblcaaGreatDoor.encodeLongP
open Go.Rv
theorem good (x : tyL Tb [.g (.f (.a (.n .i64))), .g (.f (.a (.n .i64)))]) (hx : yv686 tab 4 [.g (.f (.a (.n .i64))), .g (.f (.a (.n .i64)))] x) : Fun Tryz.prog TryzWp 12 (avL tab (injL tab [.g (.f (.a (.n .i64))), .g (.f (.a (.n .i64)))] x)) [] (.b true) [] := by
  refine yv738 (Wp := TryzWp) fn43_k x ?_
  have e : (fn43_w).run (injL tab [.g (.f (.a (.n .i64))), .g (.f (.a (.n .i64)))] x) [] (fun r H => some (r, H)) = (fn43 x.1 x.2.1).bind fun y => some (TV.b y, ([] : THeap Tb)) := by kernel_rfl
  rw [e, xv97 _ hx]
  rfl
theorem witness_row (os : Os) {H : Type} (enc : TypeId × Value -> H) :
    (OpenSpec.ofChange Rows.encodeLongSpec).preRow enc Tryz.prog Tryz.f12 Rows.encodeLongRow.domain false Rows.encodeLongRow.laid ((laidWorld os).forCall (fun _ _ => 0) ⟨#[], #[.int .i64 0, .int .i64 0], []⟩).memory #[.int .i64 0, .int .i64 0] := by
  have hw : (DataW.whole enc Tryz.prog ((laidWorld os).forCall (fun _ _ => 0) ⟨#[], #[.int .i64 0, .int .i64 0], []⟩).memory Tryz.f12.params.toList (OpenSpec.ofChange Rows.encodeLongSpec).vars false (#[.int .i64 0, .int .i64 0] : Array Value).toList 8).map (fun x => (x.1, x.2.1)) =
      some ([.lit (.int .i64 0), .lit (.int .i64 0)], []) := by kernel_rfl
  obtain ⟨⟨x1, x2, x3⟩, hx, hx1⟩ := Option.map_eq_some_iff.1 hw
  simp only [Prod.mk.injEq] at hx1
  obtain ⟨rfl, rfl⟩ := hx1
  exact OpenSpec.preRow_of_cond 8 hx (by kernel_rfl) (fun k hk => by cases hk) (by kernel_rfl) (laid_met os _)
theorem lifted (os : Os) (started : os.Started) (H : Type) (enc : TypeId × Value -> H) (F : Stop.Interp) :
    ReturnsInHanded {} Tryz.checked os 12 .any ((OpenSpec.ofChange Rows.encodeLongSpec).preRow enc Tryz.prog Tryz.f12 Rows.encodeLongRow.domain false Rows.encodeLongRow.laid) (((OpenSpec.ofChange Rows.encodeLongSpec).at F).post enc Tryz.prog Tryz.f12 false true false false) :=
  yv501 (C := Tryz.checked) (tb := tab) (sa := [.g (.f (.a (.n .i64))), .g (.f (.a (.n .i64)))]) (n := 9) (d := 4) (tr := 4) (Wp := TryzWp) tabOk own started (by kernel_rfl) Tryz.func12
    (witness_row_atRef (enc := enc) (C := Tryz.checked) false (laidWorld os) #[.int .i64 0, .int .i64 0] rfl (by kernel_rfl) (by kernel_rfl) (by kernel_rfl) (witness_row os enc)) rfl
    (fun ds h => match ds, h with | [_, _], _ => rfl) rfl (by kernel_rfl) (by kernel_rfl) (by kernel_rfl) (by kernel_rfl) tabs_of good
theorem over : Rows.encodeLongRow.holds Tryz.pinned (OpenSpec.ofChange Rows.encodeLongSpec) :=
  OpenClaim.holds_of_cond 12 Tryz.f12 rfl rfl rfl rfl rfl rfl rfl ⟨rfl, rfl, rfl, rfl, rfl⟩ rfl rfl rfl rfl rfl (by kernel_rfl) Tryz.func12 (by kernel_rfl)
    (of_decide_eq_true (by kernel_rfl)) (by unfold Func.isWrapper; first | (rw [if_pos (by decide +kernel)]; kernel_rfl) | (rw [if_neg (by decide +kernel)]; exact ⟨rfl, rfl⟩))
    (fun os started H enc _ F0 => by rw [OpenClaim.pre_eq_preRow]; exact lifted os started H enc F0)
end Go.Proofs.YtlmnicmjhcblcaaGreatDoor.encodeLongP
namespace Go.Proofs.YtlmnicmjhcblcaaGreatDoor
/-- The statement. -/
theorem encodeLongCard_holds : Rows.EncodeLongCardSaid :=
  Claim7.holds_tied_plain_at .later [] [.data, .pinned] true (true, "f0a4efecccd8a93f46196f5d4270261e5966183debdf9c25da1ba4d4d6278b3f") false
    encodeLongP.over (fun _ h => by cases h) (by kernel_rfl) (fun _ h => by cases h) encodeLong_row_tie rfl ⟨rfl, rfl⟩ (by kernel_rfl) rfl
    (fun f fn hf hfn => by
      obtain rfl : f = 12 := Option.some.inj ((show Tryz.prog.funcNamed "pouch/pouchlaw08.EncodeLong" = some 12 by kernel_rfl).symm.trans hf) |>.symm
      obtain rfl : fn = Tryz.f12 := (Option.some.inj (Tryz.func12.symm.trans hfn)).symm
      exact ⟨by kernel_rfl, Go.Rv.no_stand (by kernel_rfl)⟩)
    (by kernel_rfl)
#print axioms encodeLongCard_holds
end Go.Proofs.YtlmnicmjhcblcaaGreatDoor
