/- The law PropsChecks is true for every input. -/
import Derived.Test.YtckhkfheimmffaaDoorLaid
import Derived.Test.YtckhkfheimmffaaDoorRows
import Derived.Test.YtckhkfheimmffaaDoorCards
import Derived.Test.YtckhkfheimmffaaDoorTie
import Derived.SevenTiedAt
set_option linter.unusedSimpArgs false
set_option linter.unusedVariables false
set_option maxRecDepth 100000
namespace Go.Proofs.YtckhkfheimmffaaDoor.propsChecksP
open Go.Rv
theorem good (x:tyL Tb [.g (.f (.a (.n .i64))),.g (.f (.a (.sl 1))),.g (.f (.a .u8))]) (hx:yv721 tab 4 [.g (.f (.a (.n .i64))),.g (.f (.a (.sl 1))),.g (.f (.a .u8))] x):Fun Tryd.prog TrydWp 7 (avL tab (injL tab [.g (.f (.a (.n .i64))),.g (.f (.a (.sl 1))),.g (.f (.a .u8))] x)) [] (.b true) []:=by
 refine yv781 (Wp:=TrydWp) fn35_k x ?_
 have e:(fn35_w).run (injL tab [.g (.f (.a (.n .i64))),.g (.f (.a (.sl 1))),.g (.f (.a .u8))] x) [] (fun r H=>some (r,H))=(fn35 x.1 x.2.1 x.2.2.1).bind fun y=>some (TV.b y,([]:THeap Tb)):=by kernel_rfl
 rw [e,xv101 _ hx]
 rfl
theorem witness_row (os:Os) {H:Type} (enc:TypeId × Value->H) :
 (OpenSpec.ofChange Rows.propsChecksSpec).preRow enc Tryd.prog Tryd.f7 Rows.propsChecksRow.domain false Rows.propsChecksRow.laid ((laidWorld os).forCall (fun _ _=>0) ⟨#[],#[.int .i64 0,.slice none 0 0,.int .u8 0],[]⟩).memory #[.int .i64 0,.slice none 0 0,.int .u8 0]:=by
 have hw:(DataW.whole enc Tryd.prog ((laidWorld os).forCall (fun _ _=>0) ⟨#[],#[.int .i64 0,.slice none 0 0,.int .u8 0],[]⟩).memory Tryd.f7.params.toList (OpenSpec.ofChange Rows.propsChecksSpec).vars false (#[.int .i64 0,.slice none 0 0,.int .u8 0]:Array Value).toList 8).map (fun x=>(x.1,x.2.1)) =
  some ([.lit (.int .i64 0),.nil,.lit (.int .u8 0)],[]):=by kernel_rfl
 obtain ⟨⟨x1,x2,x3⟩,hx,hx1⟩:=Option.map_eq_some_iff.1 hw
 simp only [Prod.mk.injEq] at hx1
 obtain ⟨rfl,rfl⟩:=hx1
 exact OpenSpec.preRow_of_cond 8 hx (by kernel_rfl) (fun k hk=>by cases hk) (by kernel_rfl) (laid_met os _)
theorem lifted (os:Os) (started:os.Started) (H:Type) (enc:TypeId × Value->H) (F:Stop.Interp) :
 ReturnsInHanded {} Tryd.checked os 7 .any ((OpenSpec.ofChange Rows.propsChecksSpec).preRow enc Tryd.prog Tryd.f7 Rows.propsChecksRow.domain false Rows.propsChecksRow.laid) (((OpenSpec.ofChange Rows.propsChecksSpec).at F).post enc Tryd.prog Tryd.f7 false true false false) :=
 yv536 (C:=Tryd.checked) (tb:=tab) (sa:=[.g (.f (.a (.n .i64))),.g (.f (.a (.sl 1))),.g (.f (.a .u8))]) (n:=9) (d:=4) (tr:=4) (Wp:=TrydWp) tabOk own started (by kernel_rfl) Tryd.func7
  (witness_row_atRef (enc:=enc) (C:=Tryd.checked) false (laidWorld os) #[.int .i64 0,.slice none 0 0,.int .u8 0] rfl (by kernel_rfl) (by kernel_rfl) (by kernel_rfl) (witness_row os enc)) rfl
  (fun ds h=>match ds,h with|[_,_,_],_=>rfl) rfl (by kernel_rfl) (by kernel_rfl) (by kernel_rfl) (by kernel_rfl) tabs_of good
theorem over:Rows.propsChecksRow.holds Tryd.pinned (OpenSpec.ofChange Rows.propsChecksSpec) :=
 OpenClaim.holds_of_cond 7 Tryd.f7 rfl rfl rfl rfl rfl rfl rfl ⟨rfl,rfl,rfl,rfl,rfl⟩ rfl rfl rfl rfl rfl (by kernel_rfl) Tryd.func7 (by kernel_rfl)
  (of_decide_eq_true (by kernel_rfl)) (by unfold Func.isWrapper;first|(rw [if_pos (by decide +kernel)];kernel_rfl)|(rw [if_neg (by decide +kernel)];exact ⟨rfl,rfl⟩))
  (fun os started H enc _ F0=>by rw [OpenClaim.pre_eq_preRow];exact lifted os started H enc F0)
end Go.Proofs.YtckhkfheimmffaaDoor.propsChecksP
namespace Go.Proofs.YtckhkfheimmffaaDoor
theorem propsChecksCard_holds:Rows.PropsChecksCardSaid :=
 Claim7.holds_tied_plain_at .later [] [.data,.pinned] true (true,"1fc63ec3e48d14704e3571bc238f28d2a16390d8f95b205a1cf836fbb7346d2f") false
  propsChecksP.over (fun _ h=>by cases h) (by kernel_rfl) (fun _ h=>by cases h) propsChecks_row_tie rfl ⟨rfl,rfl⟩ (by kernel_rfl) rfl
  (fun f fn hf hfn=>by
   obtain rfl:f=7:=Option.some.inj ((show Tryd.prog.funcNamed "pouch/pouchlaw06.PropsChecks"=some 7 by kernel_rfl).symm.trans hf) |>.symm
   obtain rfl:fn=Tryd.f7:=(Option.some.inj (Tryd.func7.symm.trans hfn)).symm
   exact ⟨by kernel_rfl,Go.Rv.no_stand (by kernel_rfl)⟩)
  (by kernel_rfl)
#print axioms propsChecksCard_holds
end Go.Proofs.YtckhkfheimmffaaDoor
