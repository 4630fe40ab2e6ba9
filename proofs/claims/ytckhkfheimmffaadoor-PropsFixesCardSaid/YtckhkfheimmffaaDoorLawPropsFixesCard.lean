/- The law PropsFixes is true for every input. -/
import Derived.Test.YtckhkfheimmffaaDoorLaid
import Derived.Test.YtckhkfheimmffaaDoorRows
import Derived.Test.YtckhkfheimmffaaDoorCards
import Derived.Test.YtckhkfheimmffaaDoorTie
import Derived.SevenTiedAt
set_option linter.unusedSimpArgs false
set_option linter.unusedVariables false
set_option maxRecDepth 100000
namespace Go.Proofs.YtckhkfheimmffaaDoor.propsFixesP
open Go.Rv
theorem good (x:tyL Tb [.g (.f (.a (.n .i64))),.g (.f (.a (.sl 1)))]) (hx:yv721 tab 4 [.g (.f (.a (.n .i64))),.g (.f (.a (.sl 1)))] x):Fun Tryd.prog TrydWp 8 (avL tab (injL tab [.g (.f (.a (.n .i64))),.g (.f (.a (.sl 1)))] x)) [] (.b true) []:=by
 refine yv781 (Wp:=TrydWp) fn41_k x ?_
 have e:(fn41_w).run (injL tab [.g (.f (.a (.n .i64))),.g (.f (.a (.sl 1)))] x) [] (fun r H=>some (r,H))=(fn41 x.1 x.2.1).bind fun y=>some (TV.b y,([]:THeap Tb)):=by kernel_rfl
 rw [e,xv114 _ hx]
 rfl
theorem witness_row (os:Os) {H:Type} (enc:TypeId × Value->H) :
 (OpenSpec.ofChange Rows.propsFixesSpec).preRow enc Tryd.prog Tryd.f8 Rows.propsFixesRow.domain false Rows.propsFixesRow.laid ((laidWorld os).forCall (fun _ _=>0) ⟨#[],#[.int .i64 0,.slice none 0 0],[]⟩).memory #[.int .i64 0,.slice none 0 0]:=by
 have hw:(DataW.whole enc Tryd.prog ((laidWorld os).forCall (fun _ _=>0) ⟨#[],#[.int .i64 0,.slice none 0 0],[]⟩).memory Tryd.f8.params.toList (OpenSpec.ofChange Rows.propsFixesSpec).vars false (#[.int .i64 0,.slice none 0 0]:Array Value).toList 8).map (fun x=>(x.1,x.2.1)) =
  some ([.lit (.int .i64 0),.nil],[]):=by kernel_rfl
 obtain ⟨⟨x1,x2,x3⟩,hx,hx1⟩:=Option.map_eq_some_iff.1 hw
 simp only [Prod.mk.injEq] at hx1
 obtain ⟨rfl,rfl⟩:=hx1
 exact OpenSpec.preRow_of_cond 8 hx (by kernel_rfl) (fun k hk=>by cases hk) (by kernel_rfl) (laid_met os _)
theorem lifted (os:Os) (started:os.Started) (H:Type) (enc:TypeId × Value->H) (F:Stop.Interp) :
 ReturnsInHanded {} Tryd.checked os 8 .any ((OpenSpec.ofChange Rows.propsFixesSpec).preRow enc Tryd.prog Tryd.f8 Rows.propsFixesRow.domain false Rows.propsFixesRow.laid) (((OpenSpec.ofChange Rows.propsFixesSpec).at F).post enc Tryd.prog Tryd.f8 false true false false) :=
 yv536 (C:=Tryd.checked) (tb:=tab) (sa:=[.g (.f (.a (.n .i64))),.g (.f (.a (.sl 1)))]) (n:=9) (d:=4) (tr:=4) (Wp:=TrydWp) tabOk own started (by kernel_rfl) Tryd.func8
  (witness_row_atRef (enc:=enc) (C:=Tryd.checked) false (laidWorld os) #[.int .i64 0,.slice none 0 0] rfl (by kernel_rfl) (by kernel_rfl) (by kernel_rfl) (witness_row os enc)) rfl
  (fun ds h=>match ds,h with|[_,_],_=>rfl) rfl (by kernel_rfl) (by kernel_rfl) (by kernel_rfl) (by kernel_rfl) tabs_of good
theorem over:Rows.propsFixesRow.holds Tryd.pinned (OpenSpec.ofChange Rows.propsFixesSpec) :=
 OpenClaim.holds_of_cond 8 Tryd.f8 rfl rfl rfl rfl rfl rfl rfl ⟨rfl,rfl,rfl,rfl,rfl⟩ rfl rfl rfl rfl rfl (by kernel_rfl) Tryd.func8 (by kernel_rfl)
  (of_decide_eq_true (by kernel_rfl)) (by unfold Func.isWrapper;first|(rw [if_pos (by decide +kernel)];kernel_rfl)|(rw [if_neg (by decide +kernel)];exact ⟨rfl,rfl⟩))
  (fun os started H enc _ F0=>by rw [OpenClaim.pre_eq_preRow];exact lifted os started H enc F0)
end Go.Proofs.YtckhkfheimmffaaDoor.propsFixesP
namespace Go.Proofs.YtckhkfheimmffaaDoor
theorem propsFixesCard_holds:Rows.PropsFixesCardSaid :=
 Claim7.holds_tied_plain_at .later [] [.data,.pinned] true (true,"1fc63ec3e48d14704e3571bc238f28d2a16390d8f95b205a1cf836fbb7346d2f") false
  propsFixesP.over (fun _ h=>by cases h) (by kernel_rfl) (fun _ h=>by cases h) propsFixes_row_tie rfl ⟨rfl,rfl⟩ (by kernel_rfl) rfl
  (fun f fn hf hfn=>by
   obtain rfl:f=8:=Option.some.inj ((show Tryd.prog.funcNamed "pouch/pouchlaw06.PropsFixes"=some 8 by kernel_rfl).symm.trans hf) |>.symm
   obtain rfl:fn=Tryd.f8:=(Option.some.inj (Tryd.func8.symm.trans hfn)).symm
   exact ⟨by kernel_rfl,Go.Rv.no_stand (by kernel_rfl)⟩)
  (by kernel_rfl)
#print axioms propsFixesCard_holds
end Go.Proofs.YtckhkfheimmffaaDoor
