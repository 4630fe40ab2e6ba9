/- The law EncodeOnce is true for every input. -/
import Derived.Test.YtlmnicmjhcblcaaGreatDoorLaid
import Derived.Test.YtlmnicmjhcblcaaGreatDoorRows
import Derived.Test.YtlmnicmjhcblcaaGreatDoorCards
import Derived.Test.YtlmnicmjhcblcaaGreatDoorTie
import Derived.SevenTiedAt
set_option linter.unusedSimpArgs false
set_option linter.unusedVariables false
set_option maxRecDepth 100000
namespace Go.Proofs.YtlmnicmjhcblcaaGreatDoor.encodeOnceP
open Go.Rv
theorem good (x:tyL Tb [.g (.f (.a (.n .i64))),.g (.st 3),.g (.st 3)]) (hx:yv669 tab 4 [.g (.f (.a (.n .i64))),.g (.st 3),.g (.st 3)] x):Fun Tryz.prog TryzWp 11 (avL tab (injL tab [.g (.f (.a (.n .i64))),.g (.st 3),.g (.st 3)] x)) [] (.b true) []:=by
 refine yv723 (Wp:=TryzWp) fn48_k x ?_
 have e:(fn48_w).run (injL tab [.g (.f (.a (.n .i64))),.g (.st 3),.g (.st 3)] x) [] (fun r H=>some (r,H))=(fn48 x.1 (⟨x.2.1.Kind,x.2.1.Dup,x.2.1.Retain,x.2.1.QoS,x.2.1.Id,x.2.1.Clean,x.2.1.Keep,x.2.1.Client,x.2.1.HasWill,x.2.1.HasUser,x.2.1.HasPass,x.2.1.WillQoS,x.2.1.WillRetain,x.2.1.WillProps,x.2.1.WillTopic,x.2.1.WillLoad,x.2.1.User,x.2.1.Pass,x.2.1.Present,x.2.1.Code,x.2.1.Topic,x.2.1.Load,x.2.1.Filters,x.2.1.Codes,x.2.1.Props⟩:fn113) (⟨x.2.2.1.Kind,x.2.2.1.Dup,x.2.2.1.Retain,x.2.2.1.QoS,x.2.2.1.Id,x.2.2.1.Clean,x.2.2.1.Keep,x.2.2.1.Client,x.2.2.1.HasWill,x.2.2.1.HasUser,x.2.2.1.HasPass,x.2.2.1.WillQoS,x.2.2.1.WillRetain,x.2.2.1.WillProps,x.2.2.1.WillTopic,x.2.2.1.WillLoad,x.2.2.1.User,x.2.2.1.Pass,x.2.2.1.Present,x.2.2.1.Code,x.2.2.1.Topic,x.2.2.1.Load,x.2.2.1.Filters,x.2.2.1.Codes,x.2.2.1.Props⟩:fn113)).bind fun y=>some (TV.b y,([]:THeap Tb)):=by kernel_rfl
 rw [e,xv170 _ hx]
 rfl
theorem witness_row (os:Os) {H:Type} (enc:TypeId × Value->H) :
 (OpenSpec.ofChange Rows.encodeOnceSpec).preRow enc Tryz.prog Tryz.f11 Rows.encodeOnceRow.domain false Rows.encodeOnceRow.laid ((laidWorld os).forCall (fun _ _=>0) ⟨#[],#[.int .i64 0,.agg #[.int .i64 0,.bool false,.bool false,.int .u8 0,.int .u16 0,.bool false,.int .u16 0,.string ⟨#[]⟩,.bool false,.bool false,.bool false,.int .u8 0,.bool false,.slice none 0 0,.string ⟨#[]⟩,.string ⟨#[]⟩,.string ⟨#[]⟩,.string ⟨#[]⟩,.bool false,.int .u8 0,.string ⟨#[]⟩,.string ⟨#[]⟩,.slice none 0 0,.slice none 0 0,.slice none 0 0],.agg #[.int .i64 0,.bool false,.bool false,.int .u8 0,.int .u16 0,.bool false,.int .u16 0,.string ⟨#[]⟩,.bool false,.bool false,.bool false,.int .u8 0,.bool false,.slice none 0 0,.string ⟨#[]⟩,.string ⟨#[]⟩,.string ⟨#[]⟩,.string ⟨#[]⟩,.bool false,.int .u8 0,.string ⟨#[]⟩,.string ⟨#[]⟩,.slice none 0 0,.slice none 0 0,.slice none 0 0]],[]⟩).memory #[.int .i64 0,.agg #[.int .i64 0,.bool false,.bool false,.int .u8 0,.int .u16 0,.bool false,.int .u16 0,.string ⟨#[]⟩,.bool false,.bool false,.bool false,.int .u8 0,.bool false,.slice none 0 0,.string ⟨#[]⟩,.string ⟨#[]⟩,.string ⟨#[]⟩,.string ⟨#[]⟩,.bool false,.int .u8 0,.string ⟨#[]⟩,.string ⟨#[]⟩,.slice none 0 0,.slice none 0 0,.slice none 0 0],.agg #[.int .i64 0,.bool false,.bool false,.int .u8 0,.int .u16 0,.bool false,.int .u16 0,.string ⟨#[]⟩,.bool false,.bool false,.bool false,.int .u8 0,.bool false,.slice none 0 0,.string ⟨#[]⟩,.string ⟨#[]⟩,.string ⟨#[]⟩,.string ⟨#[]⟩,.bool false,.int .u8 0,.string ⟨#[]⟩,.string ⟨#[]⟩,.slice none 0 0,.slice none 0 0,.slice none 0 0]]:=by
 have hw:(DataW.whole enc Tryz.prog ((laidWorld os).forCall (fun _ _=>0) ⟨#[],#[.int .i64 0,.agg #[.int .i64 0,.bool false,.bool false,.int .u8 0,.int .u16 0,.bool false,.int .u16 0,.string ⟨#[]⟩,.bool false,.bool false,.bool false,.int .u8 0,.bool false,.slice none 0 0,.string ⟨#[]⟩,.string ⟨#[]⟩,.string ⟨#[]⟩,.string ⟨#[]⟩,.bool false,.int .u8 0,.string ⟨#[]⟩,.string ⟨#[]⟩,.slice none 0 0,.slice none 0 0,.slice none 0 0],.agg #[.int .i64 0,.bool false,.bool false,.int .u8 0,.int .u16 0,.bool false,.int .u16 0,.string ⟨#[]⟩,.bool false,.bool false,.bool false,.int .u8 0,.bool false,.slice none 0 0,.string ⟨#[]⟩,.string ⟨#[]⟩,.string ⟨#[]⟩,.string ⟨#[]⟩,.bool false,.int .u8 0,.string ⟨#[]⟩,.string ⟨#[]⟩,.slice none 0 0,.slice none 0 0,.slice none 0 0]],[]⟩).memory Tryz.f11.params.toList (OpenSpec.ofChange Rows.encodeOnceSpec).vars false (#[.int .i64 0,.agg #[.int .i64 0,.bool false,.bool false,.int .u8 0,.int .u16 0,.bool false,.int .u16 0,.string ⟨#[]⟩,.bool false,.bool false,.bool false,.int .u8 0,.bool false,.slice none 0 0,.string ⟨#[]⟩,.string ⟨#[]⟩,.string ⟨#[]⟩,.string ⟨#[]⟩,.bool false,.int .u8 0,.string ⟨#[]⟩,.string ⟨#[]⟩,.slice none 0 0,.slice none 0 0,.slice none 0 0],.agg #[.int .i64 0,.bool false,.bool false,.int .u8 0,.int .u16 0,.bool false,.int .u16 0,.string ⟨#[]⟩,.bool false,.bool false,.bool false,.int .u8 0,.bool false,.slice none 0 0,.string ⟨#[]⟩,.string ⟨#[]⟩,.string ⟨#[]⟩,.string ⟨#[]⟩,.bool false,.int .u8 0,.string ⟨#[]⟩,.string ⟨#[]⟩,.slice none 0 0,.slice none 0 0,.slice none 0 0]]:Array Value).toList 8).map (fun x=>(x.1,x.2.1)) =
  some ([.lit (.int .i64 0),.agg [.lit (.int .i64 0),.lit (.bool false),.lit (.bool false),.lit (.int .u8 0),.lit (.int .u16 0),.lit (.bool false),.lit (.int .u16 0),.lit (.string []),.lit (.bool false),.lit (.bool false),.lit (.bool false),.lit (.int .u8 0),.lit (.bool false),.nil,.lit (.string []),.lit (.string []),.lit (.string []),.lit (.string []),.lit (.bool false),.lit (.int .u8 0),.lit (.string []),.lit (.string []),.nil,.nil,.nil],.agg [.lit (.int .i64 0),.lit (.bool false),.lit (.bool false),.lit (.int .u8 0),.lit (.int .u16 0),.lit (.bool false),.lit (.int .u16 0),.lit (.string []),.lit (.bool false),.lit (.bool false),.lit (.bool false),.lit (.int .u8 0),.lit (.bool false),.nil,.lit (.string []),.lit (.string []),.lit (.string []),.lit (.string []),.lit (.bool false),.lit (.int .u8 0),.lit (.string []),.lit (.string []),.nil,.nil,.nil]],[]):=by kernel_rfl
 obtain ⟨⟨x1,x2,x3⟩,hx,hx1⟩:=Option.map_eq_some_iff.1 hw
 simp only [Prod.mk.injEq] at hx1
 obtain ⟨rfl,rfl⟩:=hx1
 exact OpenSpec.preRow_of_cond 8 hx (by kernel_rfl) (fun k hk=>by cases hk) (by kernel_rfl) (laid_met os _)
theorem lifted (os:Os) (started:os.Started) (H:Type) (enc:TypeId × Value->H) (F:Stop.Interp) :
 ReturnsInHanded {} Tryz.checked os 11 .any ((OpenSpec.ofChange Rows.encodeOnceSpec).preRow enc Tryz.prog Tryz.f11 Rows.encodeOnceRow.domain false Rows.encodeOnceRow.laid) (((OpenSpec.ofChange Rows.encodeOnceSpec).at F).post enc Tryz.prog Tryz.f11 false true false false) :=
 yv488 (C:=Tryz.checked) (tb:=tab) (sa:=[.g (.f (.a (.n .i64))),.g (.st 3),.g (.st 3)]) (n:=9) (d:=4) (tr:=4) (Wp:=TryzWp) tabOk own started (by kernel_rfl) Tryz.func11
  (witness_row_atRef (enc:=enc) (C:=Tryz.checked) false (laidWorld os) #[.int .i64 0,.agg #[.int .i64 0,.bool false,.bool false,.int .u8 0,.int .u16 0,.bool false,.int .u16 0,.string ⟨#[]⟩,.bool false,.bool false,.bool false,.int .u8 0,.bool false,.slice none 0 0,.string ⟨#[]⟩,.string ⟨#[]⟩,.string ⟨#[]⟩,.string ⟨#[]⟩,.bool false,.int .u8 0,.string ⟨#[]⟩,.string ⟨#[]⟩,.slice none 0 0,.slice none 0 0,.slice none 0 0],.agg #[.int .i64 0,.bool false,.bool false,.int .u8 0,.int .u16 0,.bool false,.int .u16 0,.string ⟨#[]⟩,.bool false,.bool false,.bool false,.int .u8 0,.bool false,.slice none 0 0,.string ⟨#[]⟩,.string ⟨#[]⟩,.string ⟨#[]⟩,.string ⟨#[]⟩,.bool false,.int .u8 0,.string ⟨#[]⟩,.string ⟨#[]⟩,.slice none 0 0,.slice none 0 0,.slice none 0 0]] rfl (by kernel_rfl) (by kernel_rfl) (by kernel_rfl) (witness_row os enc)) rfl
  (fun ds h=>match ds,h with|[_,_,_],_=>rfl) rfl (by kernel_rfl) (by kernel_rfl) (by kernel_rfl) (by kernel_rfl) tabs_of good
theorem over:Rows.encodeOnceRow.holds Tryz.pinned (OpenSpec.ofChange Rows.encodeOnceSpec) :=
 OpenClaim.holds_of_cond 11 Tryz.f11 rfl rfl rfl rfl rfl rfl rfl ⟨rfl,rfl,rfl,rfl,rfl⟩ rfl rfl rfl rfl rfl (by kernel_rfl) Tryz.func11 (by kernel_rfl)
  (of_decide_eq_true (by kernel_rfl)) (by unfold Func.isWrapper;first|(rw [if_pos (by decide +kernel)];kernel_rfl)|(rw [if_neg (by decide +kernel)];exact ⟨rfl,rfl⟩))
  (fun os started H enc _ F0=>by rw [OpenClaim.pre_eq_preRow];exact lifted os started H enc F0)
end Go.Proofs.YtlmnicmjhcblcaaGreatDoor.encodeOnceP
namespace Go.Proofs.YtlmnicmjhcblcaaGreatDoor
theorem encodeOnceCard_holds:Rows.EncodeOnceCardSaid :=
 Claim7.holds_tied_plain_at .later [] [.data,.pinned] true (true,"f0a4efecccd8a93f46196f5d4270261e5966183debdf9c25da1ba4d4d6278b3f") false
  encodeOnceP.over (fun _ h=>by cases h) (by kernel_rfl) (fun _ h=>by cases h) encodeOnce_row_tie rfl ⟨rfl,rfl⟩ (by kernel_rfl) rfl
  (fun f fn hf hfn=>by
   obtain rfl:f=11:=Option.some.inj ((show Tryz.prog.funcNamed "pouch/pouchlaw08.EncodeOnce"=some 11 by kernel_rfl).symm.trans hf) |>.symm
   obtain rfl:fn=Tryz.f11:=(Option.some.inj (Tryz.func11.symm.trans hfn)).symm
   exact ⟨by kernel_rfl,Go.Rv.no_stand (by kernel_rfl)⟩)
  (by kernel_rfl)
#print axioms encodeOnceCard_holds
end Go.Proofs.YtlmnicmjhcblcaaGreatDoor
