/- The law PropsOnce is true for every input. -/
import Derived.Test.YtckhkfheimmffaaDoorLaid
import Derived.Test.YtckhkfheimmffaaDoorRows
import Derived.Test.YtckhkfheimmffaaDoorCards
import Derived.Test.YtckhkfheimmffaaDoorTie
import Derived.SevenTiedAt
set_option linter.unusedSimpArgs false
set_option linter.unusedVariables false
set_option maxRecDepth 100000
namespace Go.Proofs.YtckhkfheimmffaaDoor.propsOnceP
open Go.Rv
theorem good (x:tyL Tb [.g (.f (.a (.n .i64))),.g (.st 6),.g (.f (.a (.sl 2)))]) (hx:yv721 tab 4 [.g (.f (.a (.n .i64))),.g (.st 6),.g (.f (.a (.sl 2)))] x):Fun Tryd.prog TrydWp 6 (avL tab (injL tab [.g (.f (.a (.n .i64))),.g (.st 6),.g (.f (.a (.sl 2)))] x)) [] (.b true) []:=by
 refine yv781 (Wp:=TrydWp) fn47_k x ?_
 have e:(fn47_w).run (injL tab [.g (.f (.a (.n .i64))),.g (.st 6),.g (.f (.a (.sl 2)))] x) [] (fun r H=>some (r,H))=(fn47 x.1 (⟨x.2.1.x0,x.2.1.x1⟩:fn42) x.2.2.1).bind fun y=>some (TV.b y,([]:THeap Tb)):=by kernel_rfl
 rw [e,xv131 _ hx]
 rfl
theorem witness_row (os:Os) {H:Type} (enc:TypeId × Value->H) :
 (OpenSpec.ofChange Rows.propsOnceSpec).preRow enc Tryd.prog Tryd.f6 Rows.propsOnceRow.domain false Rows.propsOnceRow.laid ((laidWorld os).forCall (fun _ _=>0) ⟨#[],#[.int .i64 0,.agg #[.slice none 0 0,.slice none 0 0],.slice none 0 0],[]⟩).memory #[.int .i64 0,.agg #[.slice none 0 0,.slice none 0 0],.slice none 0 0]:=by
 have hw:(DataW.whole enc Tryd.prog ((laidWorld os).forCall (fun _ _=>0) ⟨#[],#[.int .i64 0,.agg #[.slice none 0 0,.slice none 0 0],.slice none 0 0],[]⟩).memory Tryd.f6.params.toList (OpenSpec.ofChange Rows.propsOnceSpec).vars false (#[.int .i64 0,.agg #[.slice none 0 0,.slice none 0 0],.slice none 0 0]:Array Value).toList 8).map (fun x=>(x.1,x.2.1)) =
  some ([.lit (.int .i64 0),.agg [.nil,.nil],.nil],[]):=by kernel_rfl
 obtain ⟨⟨x1,x2,x3⟩,hx,hx1⟩:=Option.map_eq_some_iff.1 hw
 simp only [Prod.mk.injEq] at hx1
 obtain ⟨rfl,rfl⟩:=hx1
 exact OpenSpec.preRow_of_cond 8 hx (by kernel_rfl) (fun k hk=>by cases hk) (by kernel_rfl) (laid_met os _)
theorem lifted (os:Os) (started:os.Started) (H:Type) (enc:TypeId × Value->H) (F:Stop.Interp) :
 ReturnsInHanded {} Tryd.checked os 6 .any ((OpenSpec.ofChange Rows.propsOnceSpec).preRow enc Tryd.prog Tryd.f6 Rows.propsOnceRow.domain false Rows.propsOnceRow.laid) (((OpenSpec.ofChange Rows.propsOnceSpec).at F).post enc Tryd.prog Tryd.f6 false true false false) :=
 yv536 (C:=Tryd.checked) (tb:=tab) (sa:=[.g (.f (.a (.n .i64))),.g (.st 6),.g (.f (.a (.sl 2)))]) (n:=9) (d:=4) (tr:=4) (Wp:=TrydWp) tabOk own started (by kernel_rfl) Tryd.func6
  (witness_row_atRef (enc:=enc) (C:=Tryd.checked) false (laidWorld os) #[.int .i64 0,.agg #[.slice none 0 0,.slice none 0 0],.slice none 0 0] rfl (by kernel_rfl) (by kernel_rfl) (by kernel_rfl) (witness_row os enc)) rfl
  (fun ds h=>match ds,h with|[_,_,_],_=>rfl) rfl (by kernel_rfl) (by kernel_rfl) (by kernel_rfl) (by kernel_rfl) tabs_of good
theorem over:Rows.propsOnceRow.holds Tryd.pinned (OpenSpec.ofChange Rows.propsOnceSpec) :=
 OpenClaim.holds_of_cond 6 Tryd.f6 rfl rfl rfl rfl rfl rfl rfl ⟨rfl,rfl,rfl,rfl,rfl⟩ rfl rfl rfl rfl rfl (by kernel_rfl) Tryd.func6 (by kernel_rfl)
  (of_decide_eq_true (by kernel_rfl)) (by unfold Func.isWrapper;first|(rw [if_pos (by decide +kernel)];kernel_rfl)|(rw [if_neg (by decide +kernel)];exact ⟨rfl,rfl⟩))
  (fun os started H enc _ F0=>by rw [OpenClaim.pre_eq_preRow];exact lifted os started H enc F0)
end Go.Proofs.YtckhkfheimmffaaDoor.propsOnceP
namespace Go.Proofs.YtckhkfheimmffaaDoor
theorem propsOnceCard_holds:Rows.PropsOnceCardSaid :=
 Claim7.holds_tied_plain_at .later [] [.data,.pinned] true (true,"1fc63ec3e48d14704e3571bc238f28d2a16390d8f95b205a1cf836fbb7346d2f") false
  propsOnceP.over (fun _ h=>by cases h) (by kernel_rfl) (fun _ h=>by cases h) propsOnce_row_tie rfl ⟨rfl,rfl⟩ (by kernel_rfl) rfl
  (fun f fn hf hfn=>by
   obtain rfl:f=6:=Option.some.inj ((show Tryd.prog.funcNamed "pouch/pouchlaw06.PropsOnce"=some 6 by kernel_rfl).symm.trans hf) |>.symm
   obtain rfl:fn=Tryd.f6:=(Option.some.inj (Tryd.func6.symm.trans hfn)).symm
   exact ⟨by kernel_rfl,Go.Rv.no_stand (by kernel_rfl)⟩)
  (by kernel_rfl)
#print axioms propsOnceCard_holds
end Go.Proofs.YtckhkfheimmffaaDoor
