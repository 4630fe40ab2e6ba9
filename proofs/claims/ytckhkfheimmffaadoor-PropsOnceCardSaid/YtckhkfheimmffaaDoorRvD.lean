/- A typed interpreter of the program's code, and that it is sound; part 4. -/
import Derived.Test.YtckhkfheimmffaaDoorRvC
import Derived.Laws.BitsLemmas
import Derived.Laws.BitsAllLaws
import Derived.Laws.Bits64
import Derived.WalkKit
import Derived.ProofKit
import Derived.OpenShut
import Derived.ShutString
import Derived.ChangeOld
import Derived.Below
import Derived.SizedLaws
import Derived.Carry
set_option linter.unusedSimpArgs false
set_option linter.unusedVariables false
set_option maxRecDepth 100000
namespace Go.Rv
open Go.RowKit
abbrev w64 (n:Int):Int:=IntKind.i64.wrap n
abbrev As (l:List UInt8):AV:=.s ⟨l.toArray⟩
abbrev L {α:Type} (o:Option (List α)):List α:=o.getD []
def oA {α:Type} (z:Nat) (row:α->List PV):Option (List α)->AV
 | none=>.nilS
 | some l=>.own z (l.map row)
def oP {α:Type} (z:Nat) (row:α->List PV):Option (List α)->PV
 | none=>.lit (.slice none 0 0)
 | some l=>.sl z (l.map row)
abbrev oS {α:Type} (z:Nat) (row:α->List PV) (o:Option (List α)):AV:=.pv (oP z row o)
def ix {α:Type} (l:List α) (i:Int):Option α:=if 0 ≤ i then l[i.toNat]? else none
def slc {α:Type} (l:List α) (lo hi:Int):Option (List α):=if 0 ≤ lo∧lo ≤ hi∧hi ≤ l.length then some ((l.take hi.toNat).drop lo.toNat) else none
def slO {α:Type} (o:Option (List α)) (lo hi:Int):Option (Option (List α)):=match o with
 | none=>if 0 ≤ lo∧lo ≤ hi∧hi ≤ 0 then some none else none
 | some l=>(slc l lo hi).map some
def catS (a b:List UInt8):Option (List UInt8):=if a.length + b.length ≤ 9223372036854775807 then some (a++b) else none
def s2b (l:List UInt8):Option (Option (List UInt8)):=if l.length ≤ room then some (some l) else none
def appO {α:Type} (bytes:Nat) (x y:Option (List α)):Option (Option (List α)):=match x,L y with
 | none,[]=>some none
 | none,a::l=>if (l.length + 1) * bytes ≤ room∧l.length + 1 ≤ room then some (some (a::l)) else none
 | some l,m=>if (l.length + m.length) * bytes ≤ room∧l.length + m.length ≤ room then some (some (l++m)) else none
def chk (b:Bool):Option Unit:=if b then some () else none
theorem yv30 {b:Bool} {u:Unit} (h:chk b=some u):b=true:=by cases b<;>simp [chk] at h ⊢
theorem yv3 {α β:Type} {x:Option α} {f:α->Option β} {r:β} (h:x.bind f=some r):∃ a,x=some a∧f a=some r:=by
 cases x with
 | none=>cases h
 | some a=>exact ⟨a,rfl,h⟩
def up {σ α:Type} (x:Option α):Option (σ ⊕ α):=x.map Sum.inr
def iter {σ α:Type} (step:σ->Option (σ ⊕ α)) (s:σ):Option α:=do
 match ← step s with
 | .inl s'=>iter step s'
 | .inr a=>some a
  partial_fixpoint
def iterN {σ α:Type} (step:σ->Option (σ ⊕ α)):Nat->σ->Option α
 | 0,_=>none
 | n + 1,s=>match step s with
  | some (.inl s')=>iterN step n s'
  | some (.inr a)=>some a
  | none=>none
theorem yv757 {σ α:Type} (step:σ->Option (σ ⊕ α)) (s:σ):iter step s=match step s with
 | some (.inl s')=>iter step s'
 | some (.inr a)=>some a
 | none=>none:=by
 rw [iter]
 cases step s with
 | none=>rfl
 | some e=>cases e<;>rfl
theorem yv756 {σ α:Type} {step:σ->Option (σ ⊕ α)} {s:σ} {a:α} (h:iter step s=some a):∃ n,iterN step n s=some a:=by
 refine iter.partial_correctness step (fun s a=>∃ n,iterN step n s=some a) ?_ s a h
 intro it ih s a h
 cases hs:step s with
 | none=>rw [hs] at h;cases h
 | some e =>
  rw [hs] at h
  cases e with
  | inl s' =>
   obtain ⟨n,hn⟩:=ih s' a h
   exact ⟨n + 1,by simp only [iterN,hs];exact hn⟩
  | inr b =>
   refine ⟨1,?_⟩
   simp only [iterN,hs];exact h
theorem yv726 {σ α:Type} {step:σ->Option (σ ⊕ α)}:∀ {n:Nat} {s:σ} {a:α},iterN step n s=some a->iter step s=some a
 | 0,_,_,h=>by cases h
 | n + 1,s,a,h=>by
  rw [yv757]
  simp only [iterN] at h
  cases hs:step s with
  | none=>rw [hs] at h;cases h
  | some e =>
   rw [hs] at h
   cases e with
   | inl s'=>exact yv726 h
   | inr b=>exact h
variable {P:Program} {W:World->Prop} {b c:SCode} {Q:SExit->St->Prop}
theorem yv811 {σ α:Type} (f:σ->St) {step:σ->Option (σ ⊕ α)} {x0:σ} {d:α} {s:St} (h:iter step x0=some d) (h0:s=f x0)
 (hb:∀ x e,step x=some e->(∀ a,e=.inr a->a=d)->wpS P W b (thenQ (fun s'=>∃ y,e=.inl y∧s'=f y) Q) (f x)):wpS P W (.loop b) Q s:=by
 obtain ⟨n,hn⟩:=yv756 h
 refine ⟨fun n s=>∃ x,s=f x∧iterN step n x=some d,⟨n,x0,h0,hn⟩,?_⟩
 rintro n s ⟨x,rfl,hx⟩
 cases n with
 | zero=>cases hx
 | succ n =>
  simp only [iterN] at hx
  split at hx
  ·rename_i s' hs
   refine yv27 b _ (yv70 ?_ fun _ _ h=>h) (hb x _ hs (fun a ha=>by cases ha))
   rintro s ⟨y,hy,rfl⟩
   cases hy
   exact ⟨n,by omega,_,rfl,hx⟩
  ·rename_i a hs
   cases hx
   refine yv27 b _ (yv70 ?_ fun _ _ h=>h) (hb x _ hs (fun a ha=>by cases ha;rfl))
   rintro s ⟨y,hy,rfl⟩
   cases hy
  ·cases hx
abbrev A8 (x:UInt8):AV:=.i .u8 (x.toNat:Int)
def u8 (x:Int):UInt8:=UInt8.ofNat (x % 256).toNat
theorem yv530 (x:Int):((u8 x).toNat:Int)=x % 256:=by
 have h:=Int.emod_lt_of_pos x (show (0:Int) < 256 by decide)
 have h2:=Int.emod_nonneg x (show (256:Int) ≠ 0 by decide)
 simp only [u8,UInt8.toNat_ofNat']
 omega
theorem yv651 (x:Int):IntKind.u8.wrap x=((u8 x).toNat:Int):=by rw [yv530,IntKind.wrap_u8]
theorem yv617 {a b:UInt8} (h:(a.toNat:Int)=b.toNat):a=b:=UInt8.toNat_inj.1 (by exact_mod_cast h)
theorem u8_bv (a:UInt8):BitVec.ofInt 8 (a.toNat:Int)=a.toBitVec:=by
 apply BitVec.eq_of_toNat_eq
 have:=a.toNat_lt
 simp [BitVec.ofInt_natCast,BitVec.toNat_ofNat,Nat.mod_eq_of_lt this]
theorem u8_eq {a:Int} {b:UInt8} (h:a % 256=b.toNat):IntKind.u8.wrap a=(b.toNat:Int):=by rw [IntKind.wrap_u8,h]
section
variable {t:ET} {a b:UInt8} {h:Heap}
theorem yv549:POp.ev (.bin .add t) [A8 a,A8 b] h=some (A8 (a + b),h):=by
 simp only [POp.ev,AV.i,binV,yv1,intV,if_true,Bool.false_eq_true,if_false,Option.map_some]
 rw [u8_eq (b:=a + b)];simp [UInt8.toNat_add]
theorem yv570:POp.ev (.bin .sub t) [A8 a,A8 b] h=some (A8 (a - b),h):=by
 simp only [POp.ev,AV.i,binV,yv1,intV,if_true,Bool.false_eq_true,if_false,Option.map_some]
 rw [u8_eq (b:=a - b)]
 have ha:=a.toNat_lt
 have hb:=b.toNat_lt
 rw [UInt8.toNat_sub]
 omega
theorem yv561:POp.ev (.bin .mul t) [A8 a,A8 b] h=some (A8 (a * b),h):=by
 simp only [POp.ev,AV.i,binV,yv1,intV,if_true,Bool.false_eq_true,if_false,Option.map_some]
 rw [u8_eq (b:=a * b)]
 rw [UInt8.toNat_mul]
 generalize a.toNat=p
 generalize b.toNat=q
 have e:(p:Int) * (q:Int)=((p * q:Nat):Int):=by simp
 rw [e]
 generalize p * q=r
 omega
theorem yv566 (hb:chk (decide (b ≠ 0))=some ()):POp.ev (.bin .quo t) [A8 a,A8 b] h=some (A8 (a / b),h):=by
 have hb:=of_decide_eq_true (yv30 hb)
 have hb':¬ ((b.toNat:Int)=0):=fun e=>hb (yv617 (by simpa using e))
 simp only [POp.ev,AV.i,binV,yv1,intV,if_true,Bool.false_eq_true,if_false,Option.map_some,hb']
 rw [u8_eq (b:=a / b)]
 have ha:=a.toNat_lt
 rw [UInt8.toNat_div,Int.tdiv_eq_ediv_of_nonneg (by omega)]
 have:a.toNat / b.toNat ≤ a.toNat:=Nat.div_le_self _ _
 have e:((a.toNat:Int) / (b.toNat:Int))=((a.toNat / b.toNat:Nat):Int):=by simp
 rw [e]
 generalize a.toNat / b.toNat=q at this ⊢
 omega
theorem yv567 (hb:chk (decide (b ≠ 0))=some ()):POp.ev (.bin .rem t) [A8 a,A8 b] h=some (A8 (a % b),h):=by
 have hb:=of_decide_eq_true (yv30 hb)
 have hb':¬ ((b.toNat:Int)=0):=fun e=>hb (yv617 (by simpa using e))
 simp only [POp.ev,AV.i,binV,yv1,intV,if_true,Bool.false_eq_true,if_false,Option.map_some,hb']
 rw [UInt8.toNat_mod,Int.tmod_eq_emod_of_nonneg (by omega)]
 simp
theorem yv550:POp.ev (.bin .and t) [A8 a,A8 b] h=some (A8 (a &&& b),h):=by
 simp only [POp.ev,AV.i,binV,yv1,intV,if_true,Bool.false_eq_true,if_false,Option.map_some]
 have e:(((BitVec.ofInt 8 (a.toNat:Int) &&& BitVec.ofInt 8 (b.toNat:Int)).toNat:Nat):Int) % 256=(a &&& b).toNat:=by
  rw [u8_bv,u8_bv,← UInt8.toBitVec_and,UInt8.toNat_toBitVec]
  have:=(a &&& b).toNat_lt
  omega
 exact congrArg (fun z=>some (AV.i .u8 z,h)) (u8_eq e)
theorem yv668:POp.ev (.bin .or t) [A8 a,A8 b] h=some (A8 (a ||| b),h):=by
 simp only [POp.ev,AV.i,binV,yv1,intV,if_true,Bool.false_eq_true,if_false,Option.map_some]
 have e:(((BitVec.ofInt 8 (a.toNat:Int) ||| BitVec.ofInt 8 (b.toNat:Int)).toNat:Nat):Int) % 256=(a ||| b).toNat:=by
  rw [u8_bv,u8_bv,← UInt8.toBitVec_or,UInt8.toNat_toBitVec]
  have:=(a ||| b).toNat_lt
  omega
 exact congrArg (fun z=>some (AV.i .u8 z,h)) (u8_eq e)
theorem yv571:POp.ev (.bin .xor t) [A8 a,A8 b] h=some (A8 (a ^^^ b),h):=by
 simp only [POp.ev,AV.i,binV,yv1,intV,if_true,Bool.false_eq_true,if_false,Option.map_some]
 have e:(((BitVec.ofInt 8 (a.toNat:Int) ^^^ BitVec.ofInt 8 (b.toNat:Int)).toNat:Nat):Int) % 256=(a ^^^ b).toNat:=by
  rw [u8_bv,u8_bv,← UInt8.toBitVec_xor,UInt8.toNat_toBitVec]
  have:=(a ^^^ b).toNat_lt
  omega
 exact congrArg (fun z=>some (AV.i .u8 z,h)) (u8_eq e)
theorem yv285:POp.ev (.bin .andNot t) [A8 a,A8 b] h=some (A8 (a &&& ~~~b),h):=by
 simp only [POp.ev,AV.i,binV,yv1,intV,if_true,Bool.false_eq_true,if_false,Option.map_some]
 have e:(((BitVec.ofInt 8 (a.toNat:Int) &&& ~~~BitVec.ofInt 8 (b.toNat:Int)).toNat:Nat):Int) % 256=(a &&& ~~~b).toNat:=by
  rw [u8_bv,u8_bv,← UInt8.toBitVec_not,← UInt8.toBitVec_and,UInt8.toNat_toBitVec]
  have:=(a &&& ~~~b).toNat_lt
  omega
 exact congrArg (fun z=>some (AV.i .u8 z,h)) (u8_eq e)
theorem yv553:POp.ev (.bin .eql t) [A8 a,A8 b] h=some (.b (decide (a=b)),h):=by
 simp only [POp.ev,AV.i,binV,yv1,intV,if_true,Bool.false_eq_true,if_false,Option.map_some]
 have e:decide (a=b)=((a.toNat:Int) == (b.toNat:Int)):=by
  by_cases hab:a=b
  ·subst hab;simp
  ·have:¬ ((a.toNat:Int)=b.toNat):=fun e=>hab (yv617 e)
   simp [hab,this]
 rw [e]
theorem yv562:POp.ev (.bin .neq t) [A8 a,A8 b] h=some (.b ((!decide (a=b))),h):=by
 simp only [POp.ev,AV.i,binV,yv1,intV,if_true,Bool.false_eq_true,if_false,Option.map_some]
 have e:decide (a=b)=((a.toNat:Int) == (b.toNat:Int)):=by
  by_cases hab:a=b
  ·subst hab;simp
  ·have:¬ ((a.toNat:Int)=b.toNat):=fun e=>hab (yv617 e)
   simp [hab,this]
 rw [e];rfl
theorem yv558:POp.ev (.bin .lss t) [A8 a,A8 b] h=some (.b (decide (a < b)),h):=by
 simp only [POp.ev,AV.i,binV,yv1,intV,if_true,Bool.false_eq_true,if_false,Option.map_some]
 have e:(decide (a < b))=true ↔ ((a.toNat:Int) < b.toNat):=by simp [UInt8.lt_iff_toNat_lt,GT.gt,GE.ge]
 congr 3
 rw [Bool.eq_iff_iff,decide_eq_true_iff]
 exact e.symm
theorem yv557:POp.ev (.bin .leq t) [A8 a,A8 b] h=some (.b (decide (a ≤ b)),h):=by
 simp only [POp.ev,AV.i,binV,yv1,intV,if_true,Bool.false_eq_true,if_false,Option.map_some]
 have e:(decide (a ≤ b))=true ↔ ((a.toNat:Int) ≤ b.toNat):=by simp [UInt8.le_iff_toNat_le,GT.gt,GE.ge]
 congr 3
 rw [Bool.eq_iff_iff,decide_eq_true_iff]
 exact e.symm
theorem yv555:POp.ev (.bin .gtr t) [A8 a,A8 b] h=some (.b (decide (a > b)),h):=by
 simp only [POp.ev,AV.i,binV,yv1,intV,if_true,Bool.false_eq_true,if_false,Option.map_some]
 have e:(decide (a > b))=true ↔ ((a.toNat:Int) > b.toNat):=by simp [UInt8.lt_iff_toNat_lt,GT.gt,GE.ge]
 congr 3
 rw [Bool.eq_iff_iff,decide_eq_true_iff]
 exact e.symm
theorem yv554:POp.ev (.bin .geq t) [A8 a,A8 b] h=some (.b (decide (a ≥ b)),h):=by
 simp only [POp.ev,AV.i,binV,yv1,intV,if_true,Bool.false_eq_true,if_false,Option.map_some]
 have e:(decide (a ≥ b))=true ↔ ((a.toNat:Int) ≥ b.toNat):=by simp [UInt8.le_iff_toNat_le,GT.gt,GE.ge]
 congr 3
 rw [Bool.eq_iff_iff,decide_eq_true_iff]
 exact e.symm
def yv772 (a:UInt8) (y:Int):UInt8:=u8 (a.toNat * 2 ^ (min y.toNat 8))
def yv716 (a:UInt8) (y:Int):UInt8:=u8 ((a.toNat:Int) / 2 ^ (min y.toNat 8))
theorem yv568 {k':IntKind} {y:Int} (hy:chk (decide (0 ≤ y))=some ()):POp.ev (.bin .shl t) [A8 a,.i k' y] h=some (A8 (yv772 a y),h):=by
 have hy:=of_decide_eq_true (yv30 hy)
 simp only [POp.ev,AV.i,binV,yv1,yv120,if_true,Option.map_some,show ¬ y < 0 by omega,if_false,IntKind.bits]
 rw [yv651];rfl
theorem yv569 {k':IntKind} {y:Int} (hy:chk (decide (0 ≤ y))=some ()):POp.ev (.bin .shr t) [A8 a,.i k' y] h=some (A8 (yv716 a y),h):=by
 have hy:=of_decide_eq_true (yv30 hy)
 simp only [POp.ev,AV.i,binV,yv1,yv120,if_true,Option.map_some,show ¬ y < 0 by omega,if_false,IntKind.bits]
 have hp:(0:Int) < 2 ^ (min y.toNat 8):=Int.pow_pos (by decide)
 rw [Int.fdiv_eq_ediv_of_nonneg _ (Int.le_of_lt hp)]
 have ha:=a.toNat_lt
 have h1:(0:Int) ≤ (a.toNat:Int) / 2 ^ (min y.toNat 8):=Int.ediv_nonneg (by omega) (Int.le_of_lt hp)
 have h2:(a.toNat:Int) / 2 ^ (min y.toNat 8) ≤ a.toNat:=Int.ediv_le_self _ (by omega)
 have:=yv530 ((a.toNat:Int) / 2 ^ (min y.toNat 8))
 simp only [yv716,this]
 rw [Int.emod_eq_of_lt h1 (by omega)]
theorem yv407 {k':IntKind} {x:Int}:POp.ev (.cint .u8) [.i k' x] h=some (A8 (u8 x),h):=by
 simp only [POp.ev,AV.i]
 rw [yv651]
theorem yv560:POp.ev .min [A8 a,A8 b] h=some (A8 (if b < a then b else a),h):=by
 simp only [POp.ev,AV.i]
 by_cases hab:b < a
 ·have:(b.toNat:Int) < a.toNat:=by have:=UInt8.lt_iff_toNat_lt.1 hab;omega
  simp [hab,this]
 ·have:¬ (b.toNat:Int) < a.toNat:=fun e=>hab (UInt8.lt_iff_toNat_lt.2 (by omega))
  simp [hab,this]
theorem yv559:POp.ev .max [A8 a,A8 b] h=some (A8 (if b > a then b else a),h):=by
 simp only [POp.ev,AV.i]
 by_cases hab:b > a
 ·have:(b.toNat:Int) > a.toNat:=by have:=UInt8.lt_iff_toNat_lt.1 hab;omega
  simp [hab,this]
 ·have:¬ (b.toNat:Int) > a.toNat:=fun e=>hab (UInt8.lt_iff_toNat_lt.2 (by omega))
  simp [hab,this]
end
abbrev A16 (x:UInt16):AV:=.i .u16 (x.toNat:Int)
def u16 (x:Int):UInt16:=UInt16.ofNat (x % 65536).toNat
theorem yv348 (x:Int):((u16 x).toNat:Int)=x % 65536:=by
 have h:=Int.emod_lt_of_pos x (show (0:Int) < 65536 by decide)
 have h2:=Int.emod_nonneg x (show (65536:Int) ≠ 0 by decide)
 simp only [u16,UInt16.toNat_ofNat']
 omega
theorem yv527 (x:Int):IntKind.u16.wrap x=((u16 x).toNat:Int):=by rw [yv348,IntKind.wrap_u16]
theorem yv347 {a b:UInt16} (h:(a.toNat:Int)=b.toNat):a=b:=UInt16.toNat_inj.1 (by exact_mod_cast h)
theorem yv266 (a:UInt16):BitVec.ofInt 16 (a.toNat:Int)=a.toBitVec:=by
 apply BitVec.eq_of_toNat_eq
 have:=a.toNat_lt
 simp [BitVec.ofInt_natCast,BitVec.toNat_ofNat,Nat.mod_eq_of_lt this]
theorem yv267 {a:Int} {b:UInt16} (h:a % 65536=b.toNat):IntKind.u16.wrap a=(b.toNat:Int):=by rw [IntKind.wrap_u16,h]
section
variable {t:ET} {a b:UInt16} {h:Heap}
theorem yv401:POp.ev (.bin .add t) [A16 a,A16 b] h=some (A16 (a + b),h):=by
 simp only [POp.ev,AV.i,binV,yv1,intV,if_true,Bool.false_eq_true,if_false,Option.map_some]
 rw [yv267 (b:=a + b)];simp [UInt16.toNat_add]
theorem yv452:POp.ev (.bin .sub t) [A16 a,A16 b] h=some (A16 (a - b),h):=by
 simp only [POp.ev,AV.i,binV,yv1,intV,if_true,Bool.false_eq_true,if_false,Option.map_some]
 rw [yv267 (b:=a - b)]
 have ha:=a.toNat_lt
 have hb:=b.toNat_lt
 rw [UInt16.toNat_sub]
 omega
theorem yv431:POp.ev (.bin .mul t) [A16 a,A16 b] h=some (A16 (a * b),h):=by
 simp only [POp.ev,AV.i,binV,yv1,intV,if_true,Bool.false_eq_true,if_false,Option.map_some]
 rw [yv267 (b:=a * b)]
 rw [UInt16.toNat_mul]
 generalize a.toNat=p
 generalize b.toNat=q
 have e:(p:Int) * (q:Int)=((p * q:Nat):Int):=by simp
 rw [e]
 generalize p * q=r
 omega
theorem yv438 (hb:chk (decide (b ≠ 0))=some ()):POp.ev (.bin .quo t) [A16 a,A16 b] h=some (A16 (a / b),h):=by
 have hb:=of_decide_eq_true (yv30 hb)
 have hb':¬ ((b.toNat:Int)=0):=fun e=>hb (yv347 (by simpa using e))
 simp only [POp.ev,AV.i,binV,yv1,intV,if_true,Bool.false_eq_true,if_false,Option.map_some,hb']
 rw [yv267 (b:=a / b)]
 have ha:=a.toNat_lt
 rw [UInt16.toNat_div,Int.tdiv_eq_ediv_of_nonneg (by omega)]
 have:a.toNat / b.toNat ≤ a.toNat:=Nat.div_le_self _ _
 have e:((a.toNat:Int) / (b.toNat:Int))=((a.toNat / b.toNat:Nat):Int):=by simp
 rw [e]
 generalize a.toNat / b.toNat=q at this ⊢
 omega
theorem yv441 (hb:chk (decide (b ≠ 0))=some ()):POp.ev (.bin .rem t) [A16 a,A16 b] h=some (A16 (a % b),h):=by
 have hb:=of_decide_eq_true (yv30 hb)
 have hb':¬ ((b.toNat:Int)=0):=fun e=>hb (yv347 (by simpa using e))
 simp only [POp.ev,AV.i,binV,yv1,intV,if_true,Bool.false_eq_true,if_false,Option.map_some,hb']
 rw [UInt16.toNat_mod,Int.tmod_eq_emod_of_nonneg (by omega)]
 simp
theorem yv404:POp.ev (.bin .and t) [A16 a,A16 b] h=some (A16 (a &&& b),h):=by
 simp only [POp.ev,AV.i,binV,yv1,intV,if_true,Bool.false_eq_true,if_false,Option.map_some]
 have e:(((BitVec.ofInt 16 (a.toNat:Int) &&& BitVec.ofInt 16 (b.toNat:Int)).toNat:Nat):Int) % 65536=(a &&& b).toNat:=by
  rw [yv266,yv266,← UInt16.toBitVec_and,UInt16.toNat_toBitVec]
  have:=(a &&& b).toNat_lt
  omega
 exact congrArg (fun z=>some (AV.i .u16 z,h)) (yv267 e)
theorem yv563:POp.ev (.bin .or t) [A16 a,A16 b] h=some (A16 (a ||| b),h):=by
 simp only [POp.ev,AV.i,binV,yv1,intV,if_true,Bool.false_eq_true,if_false,Option.map_some]
 have e:(((BitVec.ofInt 16 (a.toNat:Int) ||| BitVec.ofInt 16 (b.toNat:Int)).toNat:Nat):Int) % 65536=(a ||| b).toNat:=by
  rw [yv266,yv266,← UInt16.toBitVec_or,UInt16.toNat_toBitVec]
  have:=(a ||| b).toNat_lt
  omega
 exact congrArg (fun z=>some (AV.i .u16 z,h)) (yv267 e)
theorem yv455:POp.ev (.bin .xor t) [A16 a,A16 b] h=some (A16 (a ^^^ b),h):=by
 simp only [POp.ev,AV.i,binV,yv1,intV,if_true,Bool.false_eq_true,if_false,Option.map_some]
 have e:(((BitVec.ofInt 16 (a.toNat:Int) ^^^ BitVec.ofInt 16 (b.toNat:Int)).toNat:Nat):Int) % 65536=(a ^^^ b).toNat:=by
  rw [yv266,yv266,← UInt16.toBitVec_xor,UInt16.toNat_toBitVec]
  have:=(a ^^^ b).toNat_lt
  omega
 exact congrArg (fun z=>some (AV.i .u16 z,h)) (yv267 e)
theorem yv239:POp.ev (.bin .andNot t) [A16 a,A16 b] h=some (A16 (a &&& ~~~b),h):=by
 simp only [POp.ev,AV.i,binV,yv1,intV,if_true,Bool.false_eq_true,if_false,Option.map_some]
 have e:(((BitVec.ofInt 16 (a.toNat:Int) &&& ~~~BitVec.ofInt 16 (b.toNat:Int)).toNat:Nat):Int) % 65536=(a &&& ~~~b).toNat:=by
  rw [yv266,yv266,← UInt16.toBitVec_not,← UInt16.toBitVec_and,UInt16.toNat_toBitVec]
  have:=(a &&& ~~~b).toNat_lt
  omega
 exact congrArg (fun z=>some (AV.i .u16 z,h)) (yv267 e)
theorem yv408:POp.ev (.bin .eql t) [A16 a,A16 b] h=some (.b (decide (a=b)),h):=by
 simp only [POp.ev,AV.i,binV,yv1,intV,if_true,Bool.false_eq_true,if_false,Option.map_some]
 have e:decide (a=b)=((a.toNat:Int) == (b.toNat:Int)):=by
  by_cases hab:a=b
  ·subst hab;simp
  ·have:¬ ((a.toNat:Int)=b.toNat):=fun e=>hab (yv347 e)
   simp [hab,this]
 rw [e]
theorem yv434:POp.ev (.bin .neq t) [A16 a,A16 b] h=some (.b ((!decide (a=b))),h):=by
 simp only [POp.ev,AV.i,binV,yv1,intV,if_true,Bool.false_eq_true,if_false,Option.map_some]
 have e:decide (a=b)=((a.toNat:Int) == (b.toNat:Int)):=by
  by_cases hab:a=b
  ·subst hab;simp
  ·have:¬ ((a.toNat:Int)=b.toNat):=fun e=>hab (yv347 e)
   simp [hab,this]
 rw [e];rfl
theorem yv422:POp.ev (.bin .lss t) [A16 a,A16 b] h=some (.b (decide (a < b)),h):=by
 simp only [POp.ev,AV.i,binV,yv1,intV,if_true,Bool.false_eq_true,if_false,Option.map_some]
 have e:(decide (a < b))=true ↔ ((a.toNat:Int) < b.toNat):=by simp [UInt16.lt_iff_toNat_lt,GT.gt,GE.ge]
 congr 3
 rw [Bool.eq_iff_iff,decide_eq_true_iff]
 exact e.symm
theorem yv419:POp.ev (.bin .leq t) [A16 a,A16 b] h=some (.b (decide (a ≤ b)),h):=by
 simp only [POp.ev,AV.i,binV,yv1,intV,if_true,Bool.false_eq_true,if_false,Option.map_some]
 have e:(decide (a ≤ b))=true ↔ ((a.toNat:Int) ≤ b.toNat):=by simp [UInt16.le_iff_toNat_le,GT.gt,GE.ge]
 congr 3
 rw [Bool.eq_iff_iff,decide_eq_true_iff]
 exact e.symm
theorem yv414:POp.ev (.bin .gtr t) [A16 a,A16 b] h=some (.b (decide (a > b)),h):=by
 simp only [POp.ev,AV.i,binV,yv1,intV,if_true,Bool.false_eq_true,if_false,Option.map_some]
 have e:(decide (a > b))=true ↔ ((a.toNat:Int) > b.toNat):=by simp [UInt16.lt_iff_toNat_lt,GT.gt,GE.ge]
 congr 3
 rw [Bool.eq_iff_iff,decide_eq_true_iff]
 exact e.symm
theorem yv411:POp.ev (.bin .geq t) [A16 a,A16 b] h=some (.b (decide (a ≥ b)),h):=by
 simp only [POp.ev,AV.i,binV,yv1,intV,if_true,Bool.false_eq_true,if_false,Option.map_some]
 have e:(decide (a ≥ b))=true ↔ ((a.toNat:Int) ≥ b.toNat):=by simp [UInt16.le_iff_toNat_le,GT.gt,GE.ge]
 congr 3
 rw [Bool.eq_iff_iff,decide_eq_true_iff]
 exact e.symm
def yv644 (a:UInt16) (y:Int):UInt16:=u16 (a.toNat * 2 ^ (min y.toNat 16))
def yv517 (a:UInt16) (y:Int):UInt16:=u16 ((a.toNat:Int) / 2 ^ (min y.toNat 16))
theorem yv445 {k':IntKind} {y:Int} (hy:chk (decide (0 ≤ y))=some ()):POp.ev (.bin .shl t) [A16 a,.i k' y] h=some (A16 (yv644 a y),h):=by
 have hy:=of_decide_eq_true (yv30 hy)
 simp only [POp.ev,AV.i,binV,yv1,yv120,if_true,Option.map_some,show ¬ y < 0 by omega,if_false,IntKind.bits]
 rw [yv527];rfl
theorem yv449 {k':IntKind} {y:Int} (hy:chk (decide (0 ≤ y))=some ()):POp.ev (.bin .shr t) [A16 a,.i k' y] h=some (A16 (yv517 a y),h):=by
 have hy:=of_decide_eq_true (yv30 hy)
 simp only [POp.ev,AV.i,binV,yv1,yv120,if_true,Option.map_some,show ¬ y < 0 by omega,if_false,IntKind.bits]
 have hp:(0:Int) < 2 ^ (min y.toNat 16):=Int.pow_pos (by decide)
 rw [Int.fdiv_eq_ediv_of_nonneg _ (Int.le_of_lt hp)]
 have ha:=a.toNat_lt
 have h1:(0:Int) ≤ (a.toNat:Int) / 2 ^ (min y.toNat 16):=Int.ediv_nonneg (by omega) (Int.le_of_lt hp)
 have h2:(a.toNat:Int) / 2 ^ (min y.toNat 16) ≤ a.toNat:=Int.ediv_le_self _ (by omega)
 have:=yv348 ((a.toNat:Int) / 2 ^ (min y.toNat 16))
 simp only [yv517,this]
 rw [Int.emod_eq_of_lt h1 (by omega)]
theorem yv361 {k':IntKind} {x:Int}:POp.ev (.cint .u16) [.i k' x] h=some (A16 (u16 x),h):=by
 simp only [POp.ev,AV.i]
 rw [yv527]
theorem yv428:POp.ev .min [A16 a,A16 b] h=some (A16 (if b < a then b else a),h):=by
 simp only [POp.ev,AV.i]
 by_cases hab:b < a
 ·have:(b.toNat:Int) < a.toNat:=by have:=UInt16.lt_iff_toNat_lt.1 hab;omega
  simp [hab,this]
 ·have:¬ (b.toNat:Int) < a.toNat:=fun e=>hab (UInt16.lt_iff_toNat_lt.2 (by omega))
  simp [hab,this]
theorem yv425:POp.ev .max [A16 a,A16 b] h=some (A16 (if b > a then b else a),h):=by
 simp only [POp.ev,AV.i]
 by_cases hab:b > a
 ·have:(b.toNat:Int) > a.toNat:=by have:=UInt16.lt_iff_toNat_lt.1 hab;omega
  simp [hab,this]
 ·have:¬ (b.toNat:Int) > a.toNat:=fun e=>hab (UInt16.lt_iff_toNat_lt.2 (by omega))
  simp [hab,this]
end
abbrev A32 (x:UInt32):AV:=.i .u32 (x.toNat:Int)
def u32 (x:Int):UInt32:=UInt32.ofNat (x % 4294967296).toNat
theorem yv350 (x:Int):((u32 x).toNat:Int)=x % 4294967296:=by
 have h:=Int.emod_lt_of_pos x (show (0:Int) < 4294967296 by decide)
 have h2:=Int.emod_nonneg x (show (4294967296:Int) ≠ 0 by decide)
 simp only [u32,UInt32.toNat_ofNat']
 omega
theorem yv528 (x:Int):IntKind.u32.wrap x=((u32 x).toNat:Int):=by rw [yv350,IntKind.wrap_u32]
theorem yv349 {a b:UInt32} (h:(a.toNat:Int)=b.toNat):a=b:=UInt32.toNat_inj.1 (by exact_mod_cast h)
theorem yv268 (a:UInt32):BitVec.ofInt 32 (a.toNat:Int)=a.toBitVec:=by
 apply BitVec.eq_of_toNat_eq
 have:=a.toNat_lt
 simp [BitVec.ofInt_natCast,BitVec.toNat_ofNat,Nat.mod_eq_of_lt this]
theorem yv269 {a:Int} {b:UInt32} (h:a % 4294967296=b.toNat):IntKind.u32.wrap a=(b.toNat:Int):=by rw [IntKind.wrap_u32,h]
section
variable {t:ET} {a b:UInt32} {h:Heap}
theorem yv402:POp.ev (.bin .add t) [A32 a,A32 b] h=some (A32 (a + b),h):=by
 simp only [POp.ev,AV.i,binV,yv1,intV,if_true,Bool.false_eq_true,if_false,Option.map_some]
 rw [yv269 (b:=a + b)];simp [UInt32.toNat_add]
theorem yv453:POp.ev (.bin .sub t) [A32 a,A32 b] h=some (A32 (a - b),h):=by
 simp only [POp.ev,AV.i,binV,yv1,intV,if_true,Bool.false_eq_true,if_false,Option.map_some]
 rw [yv269 (b:=a - b)]
 have ha:=a.toNat_lt
 have hb:=b.toNat_lt
 rw [UInt32.toNat_sub]
 omega
theorem yv432:POp.ev (.bin .mul t) [A32 a,A32 b] h=some (A32 (a * b),h):=by
 simp only [POp.ev,AV.i,binV,yv1,intV,if_true,Bool.false_eq_true,if_false,Option.map_some]
 rw [yv269 (b:=a * b)]
 rw [UInt32.toNat_mul]
 generalize a.toNat=p
 generalize b.toNat=q
 have e:(p:Int) * (q:Int)=((p * q:Nat):Int):=by simp
 rw [e]
 generalize p * q=r
 omega
theorem yv439 (hb:chk (decide (b ≠ 0))=some ()):POp.ev (.bin .quo t) [A32 a,A32 b] h=some (A32 (a / b),h):=by
 have hb:=of_decide_eq_true (yv30 hb)
 have hb':¬ ((b.toNat:Int)=0):=fun e=>hb (yv349 (by simpa using e))
 simp only [POp.ev,AV.i,binV,yv1,intV,if_true,Bool.false_eq_true,if_false,Option.map_some,hb']
 rw [yv269 (b:=a / b)]
 have ha:=a.toNat_lt
 rw [UInt32.toNat_div,Int.tdiv_eq_ediv_of_nonneg (by omega)]
 have:a.toNat / b.toNat ≤ a.toNat:=Nat.div_le_self _ _
 have e:((a.toNat:Int) / (b.toNat:Int))=((a.toNat / b.toNat:Nat):Int):=by simp
 rw [e]
 generalize a.toNat / b.toNat=q at this ⊢
 omega
theorem yv442 (hb:chk (decide (b ≠ 0))=some ()):POp.ev (.bin .rem t) [A32 a,A32 b] h=some (A32 (a % b),h):=by
 have hb:=of_decide_eq_true (yv30 hb)
 have hb':¬ ((b.toNat:Int)=0):=fun e=>hb (yv349 (by simpa using e))
 simp only [POp.ev,AV.i,binV,yv1,intV,if_true,Bool.false_eq_true,if_false,Option.map_some,hb']
 rw [UInt32.toNat_mod,Int.tmod_eq_emod_of_nonneg (by omega)]
 simp
theorem yv405:POp.ev (.bin .and t) [A32 a,A32 b] h=some (A32 (a &&& b),h):=by
 simp only [POp.ev,AV.i,binV,yv1,intV,if_true,Bool.false_eq_true,if_false,Option.map_some]
 have e:(((BitVec.ofInt 32 (a.toNat:Int) &&& BitVec.ofInt 32 (b.toNat:Int)).toNat:Nat):Int) % 4294967296=(a &&& b).toNat:=by
  rw [yv268,yv268,← UInt32.toBitVec_and,UInt32.toNat_toBitVec]
  have:=(a &&& b).toNat_lt
  omega
 exact congrArg (fun z=>some (AV.i .u32 z,h)) (yv269 e)
theorem yv564:POp.ev (.bin .or t) [A32 a,A32 b] h=some (A32 (a ||| b),h):=by
 simp only [POp.ev,AV.i,binV,yv1,intV,if_true,Bool.false_eq_true,if_false,Option.map_some]
 have e:(((BitVec.ofInt 32 (a.toNat:Int) ||| BitVec.ofInt 32 (b.toNat:Int)).toNat:Nat):Int) % 4294967296=(a ||| b).toNat:=by
  rw [yv268,yv268,← UInt32.toBitVec_or,UInt32.toNat_toBitVec]
  have:=(a ||| b).toNat_lt
  omega
 exact congrArg (fun z=>some (AV.i .u32 z,h)) (yv269 e)
theorem yv456:POp.ev (.bin .xor t) [A32 a,A32 b] h=some (A32 (a ^^^ b),h):=by
 simp only [POp.ev,AV.i,binV,yv1,intV,if_true,Bool.false_eq_true,if_false,Option.map_some]
 have e:(((BitVec.ofInt 32 (a.toNat:Int) ^^^ BitVec.ofInt 32 (b.toNat:Int)).toNat:Nat):Int) % 4294967296=(a ^^^ b).toNat:=by
  rw [yv268,yv268,← UInt32.toBitVec_xor,UInt32.toNat_toBitVec]
  have:=(a ^^^ b).toNat_lt
  omega
 exact congrArg (fun z=>some (AV.i .u32 z,h)) (yv269 e)
theorem yv240:POp.ev (.bin .andNot t) [A32 a,A32 b] h=some (A32 (a &&& ~~~b),h):=by
 simp only [POp.ev,AV.i,binV,yv1,intV,if_true,Bool.false_eq_true,if_false,Option.map_some]
 have e:(((BitVec.ofInt 32 (a.toNat:Int) &&& ~~~BitVec.ofInt 32 (b.toNat:Int)).toNat:Nat):Int) % 4294967296=(a &&& ~~~b).toNat:=by
  rw [yv268,yv268,← UInt32.toBitVec_not,← UInt32.toBitVec_and,UInt32.toNat_toBitVec]
  have:=(a &&& ~~~b).toNat_lt
  omega
 exact congrArg (fun z=>some (AV.i .u32 z,h)) (yv269 e)
theorem yv409:POp.ev (.bin .eql t) [A32 a,A32 b] h=some (.b (decide (a=b)),h):=by
 simp only [POp.ev,AV.i,binV,yv1,intV,if_true,Bool.false_eq_true,if_false,Option.map_some]
 have e:decide (a=b)=((a.toNat:Int) == (b.toNat:Int)):=by
  by_cases hab:a=b
  ·subst hab;simp
  ·have:¬ ((a.toNat:Int)=b.toNat):=fun e=>hab (yv349 e)
   simp [hab,this]
 rw [e]
theorem yv435:POp.ev (.bin .neq t) [A32 a,A32 b] h=some (.b ((!decide (a=b))),h):=by
 simp only [POp.ev,AV.i,binV,yv1,intV,if_true,Bool.false_eq_true,if_false,Option.map_some]
 have e:decide (a=b)=((a.toNat:Int) == (b.toNat:Int)):=by
  by_cases hab:a=b
  ·subst hab;simp
  ·have:¬ ((a.toNat:Int)=b.toNat):=fun e=>hab (yv349 e)
   simp [hab,this]
 rw [e];rfl
theorem yv423:POp.ev (.bin .lss t) [A32 a,A32 b] h=some (.b (decide (a < b)),h):=by
 simp only [POp.ev,AV.i,binV,yv1,intV,if_true,Bool.false_eq_true,if_false,Option.map_some]
 have e:(decide (a < b))=true ↔ ((a.toNat:Int) < b.toNat):=by simp [UInt32.lt_iff_toNat_lt,GT.gt,GE.ge]
 congr 3
 rw [Bool.eq_iff_iff,decide_eq_true_iff]
 exact e.symm
theorem yv420:POp.ev (.bin .leq t) [A32 a,A32 b] h=some (.b (decide (a ≤ b)),h):=by
 simp only [POp.ev,AV.i,binV,yv1,intV,if_true,Bool.false_eq_true,if_false,Option.map_some]
 have e:(decide (a ≤ b))=true ↔ ((a.toNat:Int) ≤ b.toNat):=by simp [UInt32.le_iff_toNat_le,GT.gt,GE.ge]
 congr 3
 rw [Bool.eq_iff_iff,decide_eq_true_iff]
 exact e.symm
theorem yv415:POp.ev (.bin .gtr t) [A32 a,A32 b] h=some (.b (decide (a > b)),h):=by
 simp only [POp.ev,AV.i,binV,yv1,intV,if_true,Bool.false_eq_true,if_false,Option.map_some]
 have e:(decide (a > b))=true ↔ ((a.toNat:Int) > b.toNat):=by simp [UInt32.lt_iff_toNat_lt,GT.gt,GE.ge]
 congr 3
 rw [Bool.eq_iff_iff,decide_eq_true_iff]
 exact e.symm
theorem yv412:POp.ev (.bin .geq t) [A32 a,A32 b] h=some (.b (decide (a ≥ b)),h):=by
 simp only [POp.ev,AV.i,binV,yv1,intV,if_true,Bool.false_eq_true,if_false,Option.map_some]
 have e:(decide (a ≥ b))=true ↔ ((a.toNat:Int) ≥ b.toNat):=by simp [UInt32.le_iff_toNat_le,GT.gt,GE.ge]
 congr 3
 rw [Bool.eq_iff_iff,decide_eq_true_iff]
 exact e.symm
def yv645 (a:UInt32) (y:Int):UInt32:=u32 (a.toNat * 2 ^ (min y.toNat 32))
def yv518 (a:UInt32) (y:Int):UInt32:=u32 ((a.toNat:Int) / 2 ^ (min y.toNat 32))
theorem yv446 {k':IntKind} {y:Int} (hy:chk (decide (0 ≤ y))=some ()):POp.ev (.bin .shl t) [A32 a,.i k' y] h=some (A32 (yv645 a y),h):=by
 have hy:=of_decide_eq_true (yv30 hy)
 simp only [POp.ev,AV.i,binV,yv1,yv120,if_true,Option.map_some,show ¬ y < 0 by omega,if_false,IntKind.bits]
 rw [yv528];rfl
theorem yv450 {k':IntKind} {y:Int} (hy:chk (decide (0 ≤ y))=some ()):POp.ev (.bin .shr t) [A32 a,.i k' y] h=some (A32 (yv518 a y),h):=by
 have hy:=of_decide_eq_true (yv30 hy)
 simp only [POp.ev,AV.i,binV,yv1,yv120,if_true,Option.map_some,show ¬ y < 0 by omega,if_false,IntKind.bits]
 have hp:(0:Int) < 2 ^ (min y.toNat 32):=Int.pow_pos (by decide)
 rw [Int.fdiv_eq_ediv_of_nonneg _ (Int.le_of_lt hp)]
 have ha:=a.toNat_lt
 have h1:(0:Int) ≤ (a.toNat:Int) / 2 ^ (min y.toNat 32):=Int.ediv_nonneg (by omega) (Int.le_of_lt hp)
 have h2:(a.toNat:Int) / 2 ^ (min y.toNat 32) ≤ a.toNat:=Int.ediv_le_self _ (by omega)
 have:=yv350 ((a.toNat:Int) / 2 ^ (min y.toNat 32))
 simp only [yv518,this]
 rw [Int.emod_eq_of_lt h1 (by omega)]
theorem yv362 {k':IntKind} {x:Int}:POp.ev (.cint .u32) [.i k' x] h=some (A32 (u32 x),h):=by
 simp only [POp.ev,AV.i]
 rw [yv528]
theorem yv429:POp.ev .min [A32 a,A32 b] h=some (A32 (if b < a then b else a),h):=by
 simp only [POp.ev,AV.i]
 by_cases hab:b < a
 ·have:(b.toNat:Int) < a.toNat:=by have:=UInt32.lt_iff_toNat_lt.1 hab;omega
  simp [hab,this]
 ·have:¬ (b.toNat:Int) < a.toNat:=fun e=>hab (UInt32.lt_iff_toNat_lt.2 (by omega))
  simp [hab,this]
theorem yv426:POp.ev .max [A32 a,A32 b] h=some (A32 (if b > a then b else a),h):=by
 simp only [POp.ev,AV.i]
 by_cases hab:b > a
 ·have:(b.toNat:Int) > a.toNat:=by have:=UInt32.lt_iff_toNat_lt.1 hab;omega
  simp [hab,this]
 ·have:¬ (b.toNat:Int) > a.toNat:=fun e=>hab (UInt32.lt_iff_toNat_lt.2 (by omega))
  simp [hab,this]
end
abbrev A64 (x:UInt64):AV:=.i .u64 (x.toNat:Int)
def u64 (x:Int):UInt64:=UInt64.ofNat (x % 18446744073709551616).toNat
theorem yv352 (x:Int):((u64 x).toNat:Int)=x % 18446744073709551616:=by
 have h:=Int.emod_lt_of_pos x (show (0:Int) < 18446744073709551616 by decide)
 have h2:=Int.emod_nonneg x (show (18446744073709551616:Int) ≠ 0 by decide)
 simp only [u64,UInt64.toNat_ofNat']
 omega
theorem yv529 (x:Int):IntKind.u64.wrap x=((u64 x).toNat:Int):=by rw [yv352,IntKind.wrap_u64]
theorem yv351 {a b:UInt64} (h:(a.toNat:Int)=b.toNat):a=b:=UInt64.toNat_inj.1 (by exact_mod_cast h)
theorem yv270 (a:UInt64):BitVec.ofInt 64 (a.toNat:Int)=a.toBitVec:=by
 apply BitVec.eq_of_toNat_eq
 have:=a.toNat_lt
 simp [BitVec.ofInt_natCast,BitVec.toNat_ofNat,Nat.mod_eq_of_lt this]
theorem yv271 {a:Int} {b:UInt64} (h:a % 18446744073709551616=b.toNat):IntKind.u64.wrap a=(b.toNat:Int):=by rw [IntKind.wrap_u64,h]
section
variable {t:ET} {a b:UInt64} {h:Heap}
theorem yv403:POp.ev (.bin .add t) [A64 a,A64 b] h=some (A64 (a + b),h):=by
 simp only [POp.ev,AV.i,binV,yv1,intV,if_true,Bool.false_eq_true,if_false,Option.map_some]
 rw [yv271 (b:=a + b)];simp [UInt64.toNat_add]
theorem yv454:POp.ev (.bin .sub t) [A64 a,A64 b] h=some (A64 (a - b),h):=by
 simp only [POp.ev,AV.i,binV,yv1,intV,if_true,Bool.false_eq_true,if_false,Option.map_some]
 rw [yv271 (b:=a - b)]
 have ha:=a.toNat_lt
 have hb:=b.toNat_lt
 rw [UInt64.toNat_sub]
 omega
theorem yv433:POp.ev (.bin .mul t) [A64 a,A64 b] h=some (A64 (a * b),h):=by
 simp only [POp.ev,AV.i,binV,yv1,intV,if_true,Bool.false_eq_true,if_false,Option.map_some]
 rw [yv271 (b:=a * b)]
 rw [UInt64.toNat_mul]
 generalize a.toNat=p
 generalize b.toNat=q
 have e:(p:Int) * (q:Int)=((p * q:Nat):Int):=by simp
 rw [e]
 generalize p * q=r
 omega
theorem yv440 (hb:chk (decide (b ≠ 0))=some ()):POp.ev (.bin .quo t) [A64 a,A64 b] h=some (A64 (a / b),h):=by
 have hb:=of_decide_eq_true (yv30 hb)
 have hb':¬ ((b.toNat:Int)=0):=fun e=>hb (yv351 (by simpa using e))
 simp only [POp.ev,AV.i,binV,yv1,intV,if_true,Bool.false_eq_true,if_false,Option.map_some,hb']
 rw [yv271 (b:=a / b)]
 have ha:=a.toNat_lt
 rw [UInt64.toNat_div,Int.tdiv_eq_ediv_of_nonneg (by omega)]
 have:a.toNat / b.toNat ≤ a.toNat:=Nat.div_le_self _ _
 have e:((a.toNat:Int) / (b.toNat:Int))=((a.toNat / b.toNat:Nat):Int):=by simp
 rw [e]
 generalize a.toNat / b.toNat=q at this ⊢
 omega
theorem yv443 (hb:chk (decide (b ≠ 0))=some ()):POp.ev (.bin .rem t) [A64 a,A64 b] h=some (A64 (a % b),h):=by
 have hb:=of_decide_eq_true (yv30 hb)
 have hb':¬ ((b.toNat:Int)=0):=fun e=>hb (yv351 (by simpa using e))
 simp only [POp.ev,AV.i,binV,yv1,intV,if_true,Bool.false_eq_true,if_false,Option.map_some,hb']
 rw [UInt64.toNat_mod,Int.tmod_eq_emod_of_nonneg (by omega)]
 simp
theorem yv406:POp.ev (.bin .and t) [A64 a,A64 b] h=some (A64 (a &&& b),h):=by
 simp only [POp.ev,AV.i,binV,yv1,intV,if_true,Bool.false_eq_true,if_false,Option.map_some]
 have e:(((BitVec.ofInt 64 (a.toNat:Int) &&& BitVec.ofInt 64 (b.toNat:Int)).toNat:Nat):Int) % 18446744073709551616=(a &&& b).toNat:=by
  rw [yv270,yv270,← UInt64.toBitVec_and,UInt64.toNat_toBitVec]
  have:=(a &&& b).toNat_lt
  omega
 exact congrArg (fun z=>some (AV.i .u64 z,h)) (yv271 e)
theorem yv565:POp.ev (.bin .or t) [A64 a,A64 b] h=some (A64 (a ||| b),h):=by
 simp only [POp.ev,AV.i,binV,yv1,intV,if_true,Bool.false_eq_true,if_false,Option.map_some]
 have e:(((BitVec.ofInt 64 (a.toNat:Int) ||| BitVec.ofInt 64 (b.toNat:Int)).toNat:Nat):Int) % 18446744073709551616=(a ||| b).toNat:=by
  rw [yv270,yv270,← UInt64.toBitVec_or,UInt64.toNat_toBitVec]
  have:=(a ||| b).toNat_lt
  omega
 exact congrArg (fun z=>some (AV.i .u64 z,h)) (yv271 e)
theorem yv457:POp.ev (.bin .xor t) [A64 a,A64 b] h=some (A64 (a ^^^ b),h):=by
 simp only [POp.ev,AV.i,binV,yv1,intV,if_true,Bool.false_eq_true,if_false,Option.map_some]
 have e:(((BitVec.ofInt 64 (a.toNat:Int) ^^^ BitVec.ofInt 64 (b.toNat:Int)).toNat:Nat):Int) % 18446744073709551616=(a ^^^ b).toNat:=by
  rw [yv270,yv270,← UInt64.toBitVec_xor,UInt64.toNat_toBitVec]
  have:=(a ^^^ b).toNat_lt
  omega
 exact congrArg (fun z=>some (AV.i .u64 z,h)) (yv271 e)
theorem yv241:POp.ev (.bin .andNot t) [A64 a,A64 b] h=some (A64 (a &&& ~~~b),h):=by
 simp only [POp.ev,AV.i,binV,yv1,intV,if_true,Bool.false_eq_true,if_false,Option.map_some]
 have e:(((BitVec.ofInt 64 (a.toNat:Int) &&& ~~~BitVec.ofInt 64 (b.toNat:Int)).toNat:Nat):Int) % 18446744073709551616=(a &&& ~~~b).toNat:=by
  rw [yv270,yv270,← UInt64.toBitVec_not,← UInt64.toBitVec_and,UInt64.toNat_toBitVec]
  have:=(a &&& ~~~b).toNat_lt
  omega
 exact congrArg (fun z=>some (AV.i .u64 z,h)) (yv271 e)
theorem yv410:POp.ev (.bin .eql t) [A64 a,A64 b] h=some (.b (decide (a=b)),h):=by
 simp only [POp.ev,AV.i,binV,yv1,intV,if_true,Bool.false_eq_true,if_false,Option.map_some]
 have e:decide (a=b)=((a.toNat:Int) == (b.toNat:Int)):=by
  by_cases hab:a=b
  ·subst hab;simp
  ·have:¬ ((a.toNat:Int)=b.toNat):=fun e=>hab (yv351 e)
   simp [hab,this]
 rw [e]
theorem yv436:POp.ev (.bin .neq t) [A64 a,A64 b] h=some (.b ((!decide (a=b))),h):=by
 simp only [POp.ev,AV.i,binV,yv1,intV,if_true,Bool.false_eq_true,if_false,Option.map_some]
 have e:decide (a=b)=((a.toNat:Int) == (b.toNat:Int)):=by
  by_cases hab:a=b
  ·subst hab;simp
  ·have:¬ ((a.toNat:Int)=b.toNat):=fun e=>hab (yv351 e)
   simp [hab,this]
 rw [e];rfl
theorem yv424:POp.ev (.bin .lss t) [A64 a,A64 b] h=some (.b (decide (a < b)),h):=by
 simp only [POp.ev,AV.i,binV,yv1,intV,if_true,Bool.false_eq_true,if_false,Option.map_some]
 have e:(decide (a < b))=true ↔ ((a.toNat:Int) < b.toNat):=by simp [UInt64.lt_iff_toNat_lt,GT.gt,GE.ge]
 congr 3
 rw [Bool.eq_iff_iff,decide_eq_true_iff]
 exact e.symm
theorem yv421:POp.ev (.bin .leq t) [A64 a,A64 b] h=some (.b (decide (a ≤ b)),h):=by
 simp only [POp.ev,AV.i,binV,yv1,intV,if_true,Bool.false_eq_true,if_false,Option.map_some]
 have e:(decide (a ≤ b))=true ↔ ((a.toNat:Int) ≤ b.toNat):=by simp [UInt64.le_iff_toNat_le,GT.gt,GE.ge]
 congr 3
 rw [Bool.eq_iff_iff,decide_eq_true_iff]
 exact e.symm
theorem yv416:POp.ev (.bin .gtr t) [A64 a,A64 b] h=some (.b (decide (a > b)),h):=by
 simp only [POp.ev,AV.i,binV,yv1,intV,if_true,Bool.false_eq_true,if_false,Option.map_some]
 have e:(decide (a > b))=true ↔ ((a.toNat:Int) > b.toNat):=by simp [UInt64.lt_iff_toNat_lt,GT.gt,GE.ge]
 congr 3
 rw [Bool.eq_iff_iff,decide_eq_true_iff]
 exact e.symm
theorem yv413:POp.ev (.bin .geq t) [A64 a,A64 b] h=some (.b (decide (a ≥ b)),h):=by
 simp only [POp.ev,AV.i,binV,yv1,intV,if_true,Bool.false_eq_true,if_false,Option.map_some]
 have e:(decide (a ≥ b))=true ↔ ((a.toNat:Int) ≥ b.toNat):=by simp [UInt64.le_iff_toNat_le,GT.gt,GE.ge]
 congr 3
 rw [Bool.eq_iff_iff,decide_eq_true_iff]
 exact e.symm
def yv646 (a:UInt64) (y:Int):UInt64:=u64 (a.toNat * 2 ^ (min y.toNat 64))
def yv519 (a:UInt64) (y:Int):UInt64:=u64 ((a.toNat:Int) / 2 ^ (min y.toNat 64))
theorem yv447 {k':IntKind} {y:Int} (hy:chk (decide (0 ≤ y))=some ()):POp.ev (.bin .shl t) [A64 a,.i k' y] h=some (A64 (yv646 a y),h):=by
 have hy:=of_decide_eq_true (yv30 hy)
 simp only [POp.ev,AV.i,binV,yv1,yv120,if_true,Option.map_some,show ¬ y < 0 by omega,if_false,IntKind.bits]
 rw [yv529];rfl
theorem yv451 {k':IntKind} {y:Int} (hy:chk (decide (0 ≤ y))=some ()):POp.ev (.bin .shr t) [A64 a,.i k' y] h=some (A64 (yv519 a y),h):=by
 have hy:=of_decide_eq_true (yv30 hy)
 simp only [POp.ev,AV.i,binV,yv1,yv120,if_true,Option.map_some,show ¬ y < 0 by omega,if_false,IntKind.bits]
 have hp:(0:Int) < 2 ^ (min y.toNat 64):=Int.pow_pos (by decide)
 rw [Int.fdiv_eq_ediv_of_nonneg _ (Int.le_of_lt hp)]
 have ha:=a.toNat_lt
 have h1:(0:Int) ≤ (a.toNat:Int) / 2 ^ (min y.toNat 64):=Int.ediv_nonneg (by omega) (Int.le_of_lt hp)
 have h2:(a.toNat:Int) / 2 ^ (min y.toNat 64) ≤ a.toNat:=Int.ediv_le_self _ (by omega)
 have:=yv352 ((a.toNat:Int) / 2 ^ (min y.toNat 64))
 simp only [yv519,this]
 rw [Int.emod_eq_of_lt h1 (by omega)]
theorem yv363 {k':IntKind} {x:Int}:POp.ev (.cint .u64) [.i k' x] h=some (A64 (u64 x),h):=by
 simp only [POp.ev,AV.i]
 rw [yv529]
theorem yv430:POp.ev .min [A64 a,A64 b] h=some (A64 (if b < a then b else a),h):=by
 simp only [POp.ev,AV.i]
 by_cases hab:b < a
 ·have:(b.toNat:Int) < a.toNat:=by have:=UInt64.lt_iff_toNat_lt.1 hab;omega
  simp [hab,this]
 ·have:¬ (b.toNat:Int) < a.toNat:=fun e=>hab (UInt64.lt_iff_toNat_lt.2 (by omega))
  simp [hab,this]
theorem yv427:POp.ev .max [A64 a,A64 b] h=some (A64 (if b > a then b else a),h):=by
 simp only [POp.ev,AV.i]
 by_cases hab:b > a
 ·have:(b.toNat:Int) > a.toNat:=by have:=UInt64.lt_iff_toNat_lt.1 hab;omega
  simp [hab,this]
 ·have:¬ (b.toNat:Int) > a.toNat:=fun e=>hab (UInt64.lt_iff_toNat_lt.2 (by omega))
  simp [hab,this]
end
section
variable {α:Type} {z n:Nat} {row:α->List PV} {o x y:Option (List α)} {h:Heap} {k:IntKind} {i lo hi:Int} {s u v:List UInt8} {t:ET}
theorem yv444 {k':IntKind} {a y:Int} (hy:chk (decide (0 ≤ y))=some ()):POp.ev (.bin .shl t) [.i .i64 a,.i k' y] h=some (.i .i64 (w64 (a * 2 ^ (min y.toNat 64))),h):=by
 have hy:=of_decide_eq_true (yv30 hy)
 simp only [POp.ev,AV.i,binV,yv1,yv120,if_true,Option.map_some,show ¬ y < 0 by omega,if_false,IntKind.bits]
def imin (a b:Int):Int:=if b < a then b else a
def imax (a b:Int):Int:=if b > a then b else a
theorem yv417:POp.ev .len [oA z row o] h=some (.i .i64 ((L o).length:Int),h):=by cases o<;>simp [oA,POp.ev,AV.nilS,lenOf,AV.i]
theorem yv418:POp.ev .len [oS z row o] h=some (.i .i64 ((L o).length:Int),h):=by cases o<;>simp [oS,oP,POp.ev,AV.nilS,lenOf,AV.i]
theorem yv556:POp.ev .lens [As s] h=some (.i .i64 (s.length:Int),h):=by
 have e:(ByteArray.mk s.toArray).size=s.length:=by simp [ByteArray.size]
 simp only [POp.ev,AV.s,e]
theorem yv437:POp.ev (.bin .eql .sl) [oS z row o,.nilS] h=some (.b o.isNone,h):=by cases o<;>simp [oS,oP,POp.ev,AV.nilS,binV,yv58,AV.b]
theorem yv242:POp.ev (.bin .neq .sl) [oS z row o,.nilS] h=some (.b (!o.isNone),h):=by cases o<;>simp [oS,oP,POp.ev,AV.nilS,binV,yv58,AV.b]
theorem yv623 {a:α} (hi:ix (L o) i=some a):POp.ev (.ia z) [oS z row o,.i k i] h=some (.eref (row a) 0,h):=by
 simp only [ix] at hi
 split at hi
 ·rename_i hp
  cases o with
  | none=>simp [L] at hi
  | some l =>
   simp only [L,Option.getD_some] at hi
   simp [oS,oP,POp.ev,AV.i,hp,hi]
 ·cases hi
theorem yv796 {a:UInt8} (hi:ix s i=some a):POp.ev .sidx [As s,.i k i] h=some (A8 a,h):=by
 simp only [ix] at hi
 split at hi
 ·rename_i hp
  simp only [POp.ev,AV.s,AV.i,hp,if_true]
  simp only [hi,Option.map_some]
 ·cases hi
theorem yv199 (l:List UInt8):(ByteArray.mk l.toArray).size=l.length:=by simp [ByteArray.size]
theorem yv572 (l:List UInt8) (a b:Nat):(ByteArray.mk l.toArray).extract a b=⟨((l.take b).drop a).toArray⟩:=by
 apply ByteArray.ext
 rw [ByteArray.data_extract]
 apply Array.ext'
 simp only [Array.toList_extract,List.extract_eq_take_drop,List.drop_take]
theorem yv799 {r:List UInt8} (hs:slc s lo hi=some r) {k':IntKind}:POp.ev (.sstr true true) [As s,.i k lo,.i k' hi] h=some (As r,h):=by
 simp only [slc] at hs
 split at hs
 ·rename_i hp
  simp only [Option.some.injEq] at hs;subst hs
  simp only [POp.ev,AV.s,AV.i,yv50,yv199,hp,and_self,if_true,Option.map_some,yv572]
 ·cases hs
theorem yv798 {r:List UInt8} (hs:slc s lo (s.length:Int)=some r):POp.ev (.sstr true false) [As s,.i k lo] h=some (As r,h):=by
 simp only [slc] at hs
 split at hs
 ·rename_i hp
  simp only [Option.some.injEq] at hs;subst hs
  simp only [POp.ev,AV.s,AV.i,yv50,yv199,hp,and_self,if_true,Option.map_some,yv572,Int.toNat_natCast]
 ·cases hs
theorem yv800 {r:List UInt8} (hs:slc s 0 hi=some r):POp.ev (.sstr false true) [As s,.i k hi] h=some (As r,h):=by
 simp only [slc] at hs
 split at hs
 ·rename_i hp
  simp only [Option.some.injEq] at hs;subst hs
  simp only [POp.ev,AV.s,AV.i,yv50,yv199,hp,and_self,if_true,Option.map_some,yv572,Int.toNat_zero]
 ·cases hs
theorem yv745 {r:Option (List α)} (hs:slO o lo hi=some r) {k':IntKind}:POp.ev (.ssl z true true) [oS z row o,.i k lo,.i k' hi] h=some (oS z row r,h):=by
 cases o with
 | none =>
  simp only [slO] at hs
  split at hs
  ·rename_i hp
   simp only [Option.some.injEq] at hs;subst hs
   simp [oS,oP,POp.ev,AV.nilS,AV.i,yv50,hp]
  ·cases hs
 | some l =>
  simp only [slO,slc] at hs
  split at hs
  ·rename_i hp
   simp only [Option.map_some,Option.some.injEq] at hs;subst hs
   simp only [oS,oP,POp.ev,AV.i,yv50,List.length_map,hp,and_self,if_true,Option.map_some,List.map_drop,List.map_take]
  ·cases hs
theorem yv744 {r:Option (List α)} (hs:slO o lo ((L o).length:Int)=some r):POp.ev (.ssl z true false) [oS z row o,.i k lo] h=some (oS z row r,h):=by
 cases o with
 | none =>
  simp only [slO,L,Option.getD_none,List.length_nil] at hs
  split at hs
  ·rename_i hp
   simp only [Option.some.injEq] at hs;subst hs
   simp at hp
   simp [oS,oP,POp.ev,AV.nilS,AV.i,yv50,hp]
  ·cases hs
 | some l =>
  simp only [slO,slc,L,Option.getD_some] at hs
  split at hs
  ·rename_i hp
   simp only [Option.map_some,Option.some.injEq] at hs;subst hs
   simp only [oS,oP,POp.ev,AV.i,yv50,List.length_map,hp,and_self,if_true,Option.map_some,List.map_drop,List.map_take,Int.toNat_natCast]
  ·cases hs
theorem yv746 {r:Option (List α)} (hs:slO o 0 hi=some r):POp.ev (.ssl z false true) [oS z row o,.i k hi] h=some (oS z row r,h):=by
 cases o with
 | none =>
  simp only [slO] at hs
  split at hs
  ·rename_i hp
   simp only [Option.some.injEq] at hs;subst hs
   simp at hp
   simp [oS,oP,POp.ev,AV.nilS,AV.i,yv50,hp]
  ·cases hs
 | some l =>
  simp only [slO,slc] at hs
  split at hs
  ·rename_i hp
   simp only [Option.map_some,Option.some.injEq] at hs;subst hs
   simp only [oS,oP,POp.ev,AV.i,yv50,List.length_map,hp,and_self,if_true,Option.map_some,List.map_drop,List.map_take,Int.toNat_zero,List.drop_zero]
  ·cases hs
theorem yv743:POp.ev (.ssl z false false) [oS z row o] h=some (oS z row o,h):=by
 cases o with
 | none=>simp [oS,oP,POp.ev,AV.nilS,yv50]
 | some l=>simp only [oS,oP,POp.ev,yv50,if_true,Option.map_some,List.length_map,List.drop_zero];rw [List.take_of_length_le (by simp)]
theorem yv793 {r:List UInt8} (hs:catS u v=some r):POp.ev (.bin .add t) [As u,As v] h=some (As r,h):=by
 simp only [catS] at hs
 split at hs
 ·rename_i hp
  simp only [Option.some.injEq] at hs;subst hs
  simp only [POp.ev,AV.s,binV,strV,yv199,hp,if_true,Option.map_some]
  have e:(ByteArray.mk u.toArray++ByteArray.mk v.toArray)=ByteArray.mk (u++v).toArray:=by
   apply ByteArray.ext
   simp
  rw [e]
 ·cases hs
theorem mk_eq {u v:List UInt8}:(ByteArray.mk u.toArray=ByteArray.mk v.toArray) ↔ u=v:=by
 constructor
 ·intro e
  have:=congrArg (fun b=>b.data.toList) e
  simpa using this
 ·rintro rfl;rfl
theorem yv761 {u v:List UInt8}:decide (ByteArray.mk u.toArray=ByteArray.mk v.toArray)=decide (u=v):=decide_eq_decide.2 mk_eq
theorem yv666:POp.ev (.bin .eql t) [As u,As v] h=some (.b (decide (u=v)),h):=by
 simp only [POp.ev,AV.s,binV,strV,Option.map_some,yv761]
theorem yv667:POp.ev (.bin .neq t) [As u,As v] h=some (.b (!decide (u=v)),h):=by
 simp only [POp.ev,AV.s,binV,strV,Option.map_some,yv761]
theorem yv795 {r:Option (List UInt8)} (hs:s2b s=some r):POp.ev .s2b [As s] h=some (oS 1 yv5 r,h):=by
 simp only [s2b] at hs
 split at hs
 ·rename_i hp
  simp only [Option.some.injEq] at hs;subst hs
  simp only [POp.ev,AV.s,yv199,hp,if_true,oS,oP,yv18]
 ·cases hs
theorem yv127 (l:List UInt8):yv29 (l.map yv5)=some l:=by
 induction l with
 | nil=>rfl
 | cons b l ih =>
  simp only [List.map_cons,yv29,ih]
  simp [yv510,yv5]
theorem yv664 {o:Option (List UInt8)}:POp.ev .b2s [oA 1 yv5 o] h=some (As (L o),h):=by
 cases o<;>simp [oA,POp.ev,AV.nilS,yv93,yv127,yv29]
theorem yv665 {o:Option (List UInt8)}:POp.ev .b2s [oS 1 yv5 o] h=some (As (L o),h):=by
 cases o<;>simp [oS,oP,POp.ev,AV.nilS,yv93,yv127,yv29]
theorem yv711:yv93 z (oA z row o)=some ((L o).map row):=by cases o<;>simp [oA,AV.nilS,yv93]
theorem yv712:yv93 z (oS z row o)=some ((L o).map row):=by cases o<;>simp [oS,oP,AV.nilS,yv93]
theorem yv653 {r:Option (List α)} (hs:appO n x y=some r):appR z n (oA z row x) ((L y).map row)=some (oA z row r):=by
 simp only [appO] at hs
 cases x with
 | none =>
  generalize L y=m at hs ⊢
  cases m with
  | nil=>simp at hs;subst hs;rfl
  | cons a l =>
   simp only at hs
   split at hs
   ·rename_i hp
    simp only [Option.some.injEq] at hs;subst hs
    simp [oA,AV.nilS,appR,hp]
   ·cases hs
 | some l =>
  generalize L y=m at hs ⊢
  simp only at hs
  split at hs
  ·rename_i hp
   simp only [Option.some.injEq] at hs;subst hs
   simp [oA,appR,hp]
  ·cases hs
theorem yv551 {r:Option (List α)} (hs:appO n x y=some r):POp.ev (.app z n) [oA z row x,oA z row y] h=some (oA z row r,h):=by
 simp only [POp.ev,yv711,yv653 hs,Option.map_some]
theorem yv552 {r:Option (List α)} (hs:appO n x y=some r):POp.ev (.app z n) [oA z row x,oS z row y] h=some (oA z row r,h):=by
 simp only [POp.ev,yv712,yv653 hs,Option.map_some]
theorem yv622 {x r:Option (List UInt8)} (hs:appO 1 x (some s)=some r):POp.ev .apps [oA 1 yv5 x,As s] h=some (oA 1 yv5 r,h):=by
 have:=yv653 (z:=1) (row:=yv5) hs
 simp only [L,Option.getD_some] at this
 simp only [POp.ev,AV.s,yv18,this,Option.map_some]
end
end Go.Rv
namespace Go.Rv
open Go.RowKit
def rdC:AV->Env->Nat->Nat->AV × Env
 | .tup vs,e,t,i=>((nth vs i).getD .junk,put e t (.tup (yv85 vs i .junk)))
 | _,e,_,_=>(.junk,e)
theorem yv813:(∀ e t i,rdA e (.c t i)=rdC (lk e t) e t i)∧(∀ vs e t i,rdC (.tup vs) e t i=((nth vs i).getD .junk,put e t (.tup (yv85 vs i .junk)))) ∧
 (∀ x l,nth (x::l) 0=some x)∧(∀ x l n,nth (x::l) (n + 1)=nth l n)∧(∀ x l v,yv85 (x::l) 0 v=v::l)∧(∀ x l n v,yv85 (x::l) (n + 1) v=x::yv85 l n v)∧(∀ (a d:AV),(some a).getD d=a) :=
 ⟨fun e t i=>by simp only [rdA];cases lk e t<;>rfl,fun _ _ _ _=>rfl,fun _ _=>rfl,fun _ _ _=>rfl,fun _ _ _=>rfl,fun _ _ _ _=>rfl,fun _ _=>rfl⟩
theorem oAs {α:Type} {z:Nat} {row:α->List PV} (o:Option (List α)):strip (oA z row o)=.pv (oP z row o):=by cases o<;>rfl
theorem yv768 {α:Type} {z:Nat} {row:α->List PV} (o:Option (List α)):yv16 (oA z row o)=[]:=by cases o<;>rfl
theorem ren_A {α:Type} {z:Nat} {row:α->List PV} {σ:Nat->Nat} (o:Option (List α)):ren σ (oA z row o)=oA z row o:=by cases o<;>rfl
theorem yv681 {α:Type} {z:Nat} {row:α->List PV} (o:Option (List α)):yv218 (oA z row o)=true:=by cases o<;>rfl
theorem yv737 {α:Type} {z:Nat} {row:α->List PV} (o:Option (List α)):cellsOf (oA z row o)=[oA z row o]:=by cases o<;>rfl
section
variable {P:Program} {W0:World} {L:World->Prop}
theorem Good.adm {as bs:List AV} {H H':Heap} {f:FuncId} {r:AV} (x:admL as bs) (g:Good P L f bs H r H'):Good P L f as H r H':=by
 intro W0 hL φ gh w vs hi hh hl ha
 obtain ⟨h1,h2⟩:=yv97 x
 refine g W0 hL φ gh w vs hi hh (by omega) fun i b v p q=>?_
 have hlt:i < as.length:=by rw [h1];exact (List.getElem?_eq_some_iff.1 p).1
 obtain ⟨b',hb,hx⟩:=h2 i as[i] (by simp [hlt])
 rw [hb] at p
 simp only [Option.some.injEq] at p
 subst p
 exact (ha i as[i] v (by simp [hlt]) q).adm hx
end
def FinR (r:AV) (H:Heap):AV->Heap->Prop:=fun r' h'=>adm r' r∧admH h' H
theorem yv762 {k b:Nat} {g:Gh} {w:World} {o:Obj}:∀ {ds:List Deferred},(∀ d' ∈ ds,∀ b',d'.target=.collected b'->b' < b)->MKs k g w ds->MKs k g (w.putObj b o) ds
 | [],_,_=>trivial
 | d::ds,hb,⟨⟨c,h1,h2,h3,h4,h5⟩,h⟩=>by
  have:=hb d (by simp) c (by rw [h1])
  exact ⟨⟨c,h1,(World.putObj_heap_other (by omega)).trans h2,h3,h4,h5⟩,yv762 (fun d' hd=>hb d' (by simp [hd])) h⟩
theorem yv191 {P:Program} {W0:World} {n0:Nat} {φ0 φ:Nat->Nat} {g0 g:Gh} {w0:World} {e:Env} {H:Heap} {T tmps:Array Value} {fn:Func} {R:Ending->World->Prop} (hb:W0.heap.size ≤ w0.heap.size) :
 ∀ {ds:List Deferred} {w:World},MKs w0.heap.size g w ds->SR W0 φ g w e H T->Tr W0 n0 φ0 g0 w0 H.length φ g w ->
  (∀ w',SR W0 φ g w' e H T->Tr W0 n0 φ0 g0 w0 H.length φ g w'->∃ v,(results fn tmps).run P w'=.ok v w'∧R (.returned v) w')->LeavesInM Fence.wide 0 P fn tmps R ds .returning w
 | [],_,_,hs,ht,hf=>hf _ hs ht
 | d::ds,w,⟨⟨b,h1,h2,h3,h4,h5⟩,hm⟩,hs,ht,hf=>by
  have hlt:=(Array.getElem?_eq_some_iff.1 h2).1
  refine ⟨(fun h=>by cases h),.inl ⟨b,w.putObj b (.deferred none),by rw [h1],run_takeDeferred h2,yv191 hb (yv762 h5 hm) (hs.putM h2 rfl rfl h3 (by omega)) ?_ hf⟩⟩
  refine ⟨ht.ext.trans (yv243 h2 rfl rfl),fun c hc hn=>?_,ht.len,ht.phi⟩
  obtain ⟨a1,a2,a3⟩:=ht.none c hc hn
  exact ⟨(World.putObj_heap_other (by omega)).trans a1,a2,a3⟩
theorem yv365 {P:Program} {L:World->Prop} {f:FuncId} {fn:Func} {sf:SFn} {as:List AV} {H H':Heap} {r:AV} (hf:P.funcs[f]?=some fn) (hok:fnOk P fn sf=true) (hwk:wkOk H.length sf.body=true) (hl:as.length ≤ sf.n) (hH:H.length ≤ H'.length)
 (hw:wpS P L sf.body (endQ sf.res H'.length (FinR r H')) ⟨yv99 0 as,H⟩):Good P L f as H r H':=by
 intro W0 hL φ g w vs hinv hh hvl hva
 simp only [fnOk,Bool.and_eq_true,beq_iff_eq] at hok
 obtain ⟨⟨hm,hn⟩,hr⟩:=hok
 split at hm
 case h_2=>cases hm
 rename_i c hc
 refine (callsIn_wide (n:=0)).1 (callsIn_of_wp_marks hf hc trivial ?_)
 refine wpIn_mono (yv238 (ro:=none) (n0:=H.length) (φ0:=φ) (g0:=g) (w0:=w) (k:=some w.heap.size) hL sf.body c _ _ _ w (.inl ⟨rfl,rfl⟩) hwk hm hw ?_) ?_
 ·refine ⟨⟨φ,g,⟨hinv,hh,fun t=>?_⟩,Tr.refl,trivial⟩,by simp [hvl];omega,fun _ h=>by cases h;exact Nat.le_refl _⟩
  simp only [yv138,Nat.zero_le,if_true,Nat.sub_zero]
  cases ha:as[t]? with
  | none=>exact RepA.junk
  | some a =>
   have hlt:t < vs.length:=by rw [hvl];exact (List.getElem?_eq_some_iff.1 ha).1
   have:=hva t a vs[t] ha (by simp [hlt])
   have he:(vs.toArray++Array.replicate (fn.ntmps - vs.toArray.size) undef).getD t undef=vs[t]:=by
    simp [Array.getD_eq_getD_getElem?,Array.getElem?_append,hlt]
   simp only [Option.getD_some]
   rw [he]
   exact this
 ·intro e a w' hq
  have key:∀ s,endQ sf.res H'.length (FinR r H') .ret s->At W0 H.length φ g w (some w.heap.size) sf.n s a w' ->
   LeavesInM Fence.wide 0 P fn a.tmps (fun e w'=>∃ v_1 φ' g',e=.returned v_1∧Inv W0 g' w'∧RepH W0.heap.size φ' g' w' H'∧RepA W0.heap.size H'.length φ' g' w' .res r v_1∧Tr W0 H.length φ g w H'.length φ' g' w') a.defers .returning w':=by
   rintro s ⟨r',hr',hk,h1,h2,hadm,hadmH⟩ ⟨⟨φ',g',hsr,htr,hmk⟩,hN,_⟩
   refine yv191 hinv.below.size hmk hsr htr fun w' hsr htr=>?_
   have hlen:(s.heap.take H'.length).length=H'.length:=by simp;omega
   generalize hH0:s.heap.take H'.length=H0 at h2 hadmH hlen
   rw [← hlen] at hH0 h1 h2 hH hk
   have hH':=hH0
   have hrr:∃ l,resVs s sf.res=some l∧r'=tupA l:=by
    unfold yv295 at hr'
    split at hr'
    ·rename_i x hx;exact ⟨_,hx,by simpa [tupA] using hr'.symm⟩
    ·rename_i l hne hx
     refine ⟨_,hx,?_⟩
     simp only [Option.some.injEq] at hr'
     match l,hne with
     | [],_=>exact hr'.symm
     | [x],hne=>exact absurd rfl (hne x)
     | _::_::_,_=>exact hr'.symm
    ·cases hr'
   obtain ⟨l,hl',rfl⟩:=hrr
   obtain ⟨g2,us,q1,q2,q3,q4,q5,q6,q7,q8,q9⟩:=yv706 sf.res fn.results.toList 0 g' s.env l hsr hr hl'
   have h3:∃ g3:Gh,Inv W0 g3 w'∧RepH W0.heap.size φ' g3 w' s.heap∧RepA W0.heap.size s.heap.length φ' g3 w' .res (tupA l) (tupV us)∧g3.lim=g2.lim∧∀ b,g2.ow b=none->g3.ow b=none:=by
    match l,us,q6,q8 with
    | [],[],_,_=>exact ⟨g2,q3,q4,.tup _ _ rfl (fun i a v p=>by simp at p),rfl,fun _ h=>h⟩
    | [x],[u],_,q8 =>
     have hkk:=KeepU.reroot W0.heap.size g2 w' (.sub .res 0) .res
     exact ⟨g2.reroot (.sub .res 0) .res,q3.reroot _ _,q4.reroot (by simp [Loc.root]) (by simp [Loc.root]),.b _ _ ((q8 0 x u rfl rfl).keep (Ext.reroot _ _ _ _ _) (Nat.le_refl _) (fun _ _=>rfl) hkk.k0 hkk.k1),rfl,fun _=>yv47⟩
    | x::y::l,u::v::us,q6,q8=>exact ⟨g2,q3,q4,.tup _ _ (by simpa using q6.symm) (fun i a z p q=>by simpa using q8 i a z p (by simpa using q)),rfl,fun _ h=>h⟩
   obtain ⟨g3,i1,i2,i3,i4,i5⟩:=h3
   have hz1:RepH W0.heap.size φ' g3 w' H0:=by
    intro id hid
    have hid':id < s.heap.length:=by omega
    have hob:hget H0 id=hget s.heap id:=by
     rw [← hH0,yv19,yv19,List.getElem?_take,if_pos hid]
    have hmem:hget H0 id ∈ H0:=by
     rw [yv19,List.getElem?_eq_getElem hid];simp
    have hrefs:=List.all_eq_true.1 h2 _ hmem
    rw [hob] at hrefs ⊢
    have z:=(i2 id hid').mv (n':=H0.length) (φ':=φ') (id':=id) (σ:=_root_.id) (Ext.refl _ _ _) rfl ⟨fun _ h=>⟨rfl,rfl,h⟩⟩ (fun _=>⟨fun _ h=>⟨rfl,rfl,h⟩⟩) (fun i hi _=>⟨by
     have:=List.all_eq_true.1 hrefs i hi
     simpa using this,rfl⟩)
    rwa [yv196] at z
   have hz2:RepA W0.heap.size H0.length φ' g3 w' .res (tupA l) (tupV us):=by
    have z:=i3.mv (n':=H0.length) (φ':=φ') (σ:=_root_.id) (Ext.refl _ _ _) KeepU.refl (fun i hi _=>⟨by
     have:=List.all_eq_true.1 h1 i hi
     simpa using this,rfl⟩)
    rwa [yv769] at z
   refine ⟨tupV us,yv197 q5 q7,_,φ',g3,rfl,i1,hz1.adm hadmH,by rw [← hlen];exact hz2.adm hadm,?_⟩
   rw [← hlen]
   refine ⟨⟨htr.ext.size,fun b=>by rw [i4,q1];exact htr.ext.lim b,htr.ext.cell,htr.ext.csz⟩,fun b hb hn=>?_,hH,htr.phi⟩
   obtain ⟨a1,a2,a3⟩:=htr.none b hb hn
   exact ⟨a1,by rw [i4,q1];exact a2,i5 b (q2 b a3)⟩
  cases e with
  | normal=>obtain ⟨s,h1,h2⟩:=hq;exact key s h1 h2
  | ret=>obtain ⟨s,h1,h2⟩:=hq;exact key s h1 h2
  | exit i=>obtain ⟨s,h1,h2⟩:=hq;exact h1.elim
  | goto l=>exact hq.elim
  | panic ch=>exact hq.elim
  | outgrown=>exact hq.elim
theorem yv465 {P:Program} {L:World->Prop} {f:FuncId} {fn:Func} {sf:SFn} {as:List AV} {H H':Heap} {r:AV} (hf:P.funcs[f]?=some fn) (hok:fnOk P fn sf=true) (hwk:wkOk H.length sf.body=true) (hen:yv25 P f=true) (hl:Nat.ble as.length sf.n=true) (hH:Nat.ble H.length H'.length=true)
 (hw:wpS P L sf.body (endQ sf.res H'.length (FinR r H')) ⟨yv99 0 as,H⟩):Fun P L f as H r H':=⟨hen,yv365 hf hok hwk (Nat.le_of_ble_eq_true hl) (Nat.le_of_ble_eq_true hH) hw⟩
section
variable {P:Program} {L:World->Prop} {op:POp} {args:List Arg} {d:Nat} {od:Option Nat} {os:List SOp} {K:St->Prop} {e e':Env} {h h':Heap} {vs vs':List AV} {r:AV} {e2 et ef:Env} {t:Nat} {b want x:Bool} {f:FuncId} {ts:List Nat} {sc p q:SCode} {Q:SExit->St->Prop} {c:Nat} {rs:List SRes} {k:Nat} {R:AV->Heap->Prop} {x':SExit}
theorem o_cs (t:Nat) (ht:b=true->wpO P L os K ⟨et,h⟩) (hf:b=false->wpO P L os K ⟨ef,h⟩) (h1:lk e t=.b b:=by simp only [yv258,reduceIte,Nat.reduceEqDiff]<;>rfl) (hs:srt e=true:=by rfl) (e1:put e t (.b true)=et:=by simp only [yv255,reduceIte,Nat.reduceEqDiff,Nat.reduceLT]<;>rfl)
 (e2:put e t (.b false)=ef:=by simp only [yv255,reduceIte,Nat.reduceEqDiff,Nat.reduceLT]<;>rfl):wpO P L os K ⟨e,h⟩:=by
 have hp:=yv293 (a:=.b b) hs h1 (by simp [AV.b])
 cases b with
 | true=>rw [← e1,hp] at ht;exact ht rfl
 | false=>rw [← e2,hp] at hf;exact hf rfl
theorem d_cs (t:Nat) {us:List (List Nat)} {Fs:List Foot} (ht:b=true->wpD P L os us Fs K ⟨et,h⟩) (hf:b=false->wpD P L os us Fs K ⟨ef,h⟩) (h1:lk e t=.b b:=by simp only [yv258,reduceIte,Nat.reduceEqDiff]<;>rfl) (hs:srt e=true:=by rfl) (e1:put e t (.b true)=et:=by simp only [yv255,reduceIte,Nat.reduceEqDiff,Nat.reduceLT]<;>rfl)
 (e2:put e t (.b false)=ef:=by simp only [yv255,reduceIte,Nat.reduceEqDiff,Nat.reduceLT]<;>rfl):wpD P L os us Fs K ⟨e,h⟩:=by
 have hp:=yv293 (a:=.b b) hs h1 (by simp [AV.b])
 cases b with
 | true=>rw [← e1,hp] at ht;exact ht rfl
 | false=>rw [← e2,hp] at hf;exact hf rfl
theorem yv663 {zs:List AV} {n:Nat} {h2:Heap} (hn:h.length=n) (hh:h++[zs]=h2):POp.ev (.alloc zs) [] h=some (.ref n 0,h2):=by subst hn hh;rfl
theorem yv792 {a:AV} {cs:List AV} {n:Nat} {h2:Heap} (hn:h.length=n) (h1:yv218 a=true) (hc:cellsOf (strip a)=cs) (hh:h++[cs]=h2):POp.ev .box [a] h=some (.ref n 0,h2):=by subst hn hc hh;simp [POp.ev,h1]
theorem yv794 {id off:Nat} {a:AV} {h2:Heap} (h1:nth (hget h id) off=some a) (hh:hset h id (yv85 (hget h id) off .junk)=h2):POp.ev .loadm [.ref id off] h=some (a,h2):=by subst hh;simp [POp.ev,h1]
theorem yv801 {id off k:Nat} {a:AV} {cs:List AV} {h2:Heap} (h0:yv218 a=true) (h1:cellsOf a=cs) (hk:Nat.beq cs.length k=true) (hle:Nat.ble (off + k) (hget h id).length=true) (hh:hset h id (yv94 (hget h id) off cs)=h2) :
 POp.ev (.store k) [.ref id off,a] h=some (.junk,h2):=by
 have e1:=Nat.eq_of_beq_eq_true hk
 have e2:=Nat.le_of_ble_eq_true hle
 subst h1 hh
 simp [POp.ev,h0,e1,e2]
theorem yv791 {zs as cs:List AV} {offs:List (Nat × Nat)} (h1:yv173 zs offs as=some cs):POp.ev (.build zs offs) as h=some (.agg cs,h):=by simp [POp.ev,h1]
end
end Go.Rv
namespace Go.Rv
open Go.RowKit
section
variable {P:Program} {L:World->Prop} {op:POp} {args:List Arg} {d:Nat} {od:Option Nat} {os:List SOp} {K:St->Prop} {e e':Env} {h h':Heap} {vs vs':List AV} {r:AV} {e2 et ef:Env} {t:Nat} {b want:Bool}
 {f:FuncId} {us:List (List Nat)} {Fs:List Foot} {F:Foot} {sc p q:SCode} {Q:SExit->St->Prop} {W:World->Prop} {c:SCode}
end
end Go.Rv
namespace Go.Rv
open Go.RowKit
def rowI (x:Int):List PV:=[.lit (.int .i64 x)]
def rowS (x:List UInt8):List PV:=[.lit (.string ⟨x.toArray⟩)]
section
variable {h:Heap} {a b:Int} {t:ET}
end
end Go.Rv
namespace Go.Rv
open Go.RowKit
inductive TV (T:Nat->Type) where
 | n (k:IntKind) (x:Int)
 | u8 (x:UInt8)
 | u16 (x:UInt16)
 | u32 (x:UInt32)
 | u64 (x:UInt64)
 | b (x:Bool)
 | s (l:List UInt8)
 | bs (o:Option (List UInt8))
 | bo (o:Option (List UInt8))
 | sl (k:Nat) (o:Option (List (T k)))
 | ow (k:Nat) (o:Option (List (T k)))
 | nilS
 | nilP
 | nilF
 | yl (l:Nat)
 | ref (id off:Nat)
 | e8 (x:UInt8)
 | er (k:Nat) (x:T k) (off:Nat)
 | agg (cs:List (TV T))
 | tup (vs:List (TV T))
 | clo (f:Nat) (a c:List (TV T))
 | vw (k id n:Nat)
 | vr (k id:Nat) (i:Int) (off:Nat)
 | blk (k:Nat) (l:List (T k))
 | junk
inductive Tm where
 | n (k:IntKind)|u8|u16|u32|u64|b|s|bs|sl (k:Nat)
variable {T:Nat->Type}
abbrev Tm.ty (T:Nat->Type):Tm->Type
 | .n _=>Int|.u8=>UInt8|.u16=>UInt16|.u32=>UInt32|.u64=>UInt64|.b=>Bool|.s=>List UInt8|.bs=>Option (List UInt8)|.sl k=>Option (List (T k))
abbrev tyA (T:Nat->Type):List Tm->Type
 | []=>Unit
 | a::l=>a.ty T × tyA T l
def injA:(a:Tm)->a.ty T->TV T
 | .n k,x=>.n k x|.u8,x=>.u8 x|.u16,x=>.u16 x|.u32,x=>.u32 x|.u64,x=>.u64 x|.b,x=>.b x|.s,x=>.s x|.bs,x=>.bs x|.sl k,x=>.sl k x
def injAL:(l:List Tm)->tyA T l->List (TV T)
 | [],_=>[]
 | a::l,x=>injA a x.1::injAL l x.2
structure Tab (T:Nat->Type) where
 sh:Nat->List Tm
 un:(k:Nat)->T k->tyA T (sh k)
 bk:(k:Nat)->tyA T (sh k)->T k
 prow:(k:Nat)->T k->List PV
 b8:List (T 0)->List UInt8
def Tab.sz (tb:Tab T) (k:Nat):Nat:=(tb.sh k).length
def pvA (tb:Tab T):(a:Tm)->a.ty T->PV
 | .n k,x=>.lit (.int k x)|.u8,x=>.lit (.int .u8 (UInt8.toNat x:Int))|.u16,x=>.lit (.int .u16 (UInt16.toNat x:Int))|.u32,x=>.lit (.int .u32 (UInt32.toNat x:Int))|.u64,x=>.lit (.int .u64 (UInt64.toNat x:Int))
 | .b,x=>.lit (.bool x)|.s,x=>.lit (.string ⟨List.toArray x⟩)|.bs,x=>oP 1 yv5 x|.sl k,x=>oP (tb.sz k) (tb.prow k) x
def pvAL (tb:Tab T):(l:List Tm)->tyA T l->List PV
 | [],_=>[]
 | a::l,x=>pvA tb a x.1::pvAL tb l x.2
structure Tab.Ok (tb:Tab T):Prop where
 um:∀ k x,tb.un k (tb.bk k x)=x
 row:∀ k x,tb.prow k x=pvAL tb (tb.sh k) (tb.un k x)
 z8:tb.sh 0=[.u8]
 b8:∀ l,(tb.b8 l).map yv5=l.map (tb.prow 0)
def Tab.rw (tb:Tab T) (k:Nat) (x:T k):List (TV T):=injAL (tb.sh k) (tb.un k x)
mutual
def av (tb:Tab T):TV T->AV
 | .n k x=>.i k x
 | .u8 x=>.i .u8 (x.toNat:Int)
 | .u16 x=>.i .u16 (x.toNat:Int)
 | .u32 x=>.i .u32 (x.toNat:Int)
 | .u64 x=>.i .u64 (x.toNat:Int)
 | .b x=>.b x
 | .s l=>.s ⟨l.toArray⟩
 | .bs o=>.pv (oP 1 yv5 o)
 | .bo o=>oA 1 yv5 o
 | .sl k o=>.pv (oP (tb.sz k) (tb.prow k) o)
 | .ow k o=>oA (tb.sz k) (tb.prow k) o
 | .nilS=>.nilS
 | .nilP=>.nilP
 | .nilF=>.pv (.lit .nilFunc)
 | .yl l=>.clo (.yield l) [] []
 | .ref i o=>.ref i o
 | .e8 x=>.eref (yv5 x) 0
 | .er k x off=>.eref (tb.prow k x) off
 | .agg cs=>.agg (avL tb cs)
 | .tup cs=>.tup (avL tb cs)
 | .clo f a c=>.clo (.func f) (avL tb a) (avL tb c)
 | .vw k id n=>.view id 0 n (tb.sz k)
 | .vr k id i off=>.ref id (i.toNat * tb.sz k + off)
 | .blk _ _=>.junk
 | .junk=>.junk
def avL (tb:Tab T):List (TV T)->List AV
 | []=>[]
 | a::l=>av tb a::avL tb l
end
abbrev TEnv (T:Nat->Type):=List (Nat × TV T)
abbrev THeap (T:Nat->Type):=List (List (TV T))
structure TSt (T:Nat->Type) where
 env:TEnv T
 heap:THeap T
def lkT:TEnv T->Nat->TV T
 | [],_=>.junk
 | (k,v)::e,t=>if k=t then v else lkT e t
def rmT:TEnv T->Nat->TEnv T
 | [],_=>[]
 | (k,v)::e,t=>if k=t then rmT e t else (k,v)::rmT e t
def putT':TEnv T->Nat->TV T->TEnv T
 | [],t,v=>[(t,v)]
 | (k,x)::e,t,v=>if t < k then (t,v)::(k,x)::e else if k=t then (t,v)::e else (k,x)::putT' e t v
mutual
def yv43:TV T->TV T
 | .ow k o=>.sl k o
 | .bo o=>.bs o
 | .agg cs=>.agg (yv69 cs)
 | .tup cs=>.tup (yv69 cs)
 | .n k x=>.n k x|.u8 x=>.u8 x|.u16 x=>.u16 x|.u32 x=>.u32 x|.u64 x=>.u64 x|.b x=>.b x|.s l=>.s l|.bs o=>.bs o|.sl k o=>.sl k o|.nilS=>.nilS|.nilP=>.nilP|.nilF=>.nilF|.yl l=>.yl l
 | .ref i o=>.ref i o|.e8 x=>.e8 x|.er k x o=>.er k x o|.clo f a c=>.clo f a c|.vw k i n=>.vw k i n|.vr k j i o=>.vr k j i o|.blk k l=>.blk k l|.junk=>.junk
def yv69:List (TV T)->List (TV T)
 | []=>[]
 | a::l=>yv43 a::yv69 l
end
def nthT:List (TV T)->Nat->Option (TV T)
 | [],_=>none
 | x::_,0=>some x
 | _::l,n + 1=>nthT l n
def yv128:List (TV T)->Nat->TV T->List (TV T)
 | [],_,_=>[]
 | _::l,0,v=>v::l
 | x::l,n + 1,v=>x::yv128 l n v
def hsetT:THeap T->Nat->List (TV T)->THeap T
 | [],_,_=>[]
 | _::h,0,o=>o::h
 | x::h,n + 1,o=>x::hsetT h n o
def hgetT:THeap T->Nat->List (TV T)
 | [],_=>[]
 | x::_,0=>x
 | _::h,n + 1=>hgetT h n
def yv200 (l:List (TV T)) (off:Nat) (cs:List (TV T)):List (TV T):=l.take off++cs++l.drop (off + cs.length)
def yv174:List Nat->TEnv T->TEnv T
 | [],e=>e
 | t::ts,e=>yv174 ts (rmT e t)
def yv61:TV T->List (TV T)
 | .agg cs=>yv69 cs
 | a=>[a]
def yv124:TV T->Bool
 | .tup _=>false
 | .junk=>false
 | .blk _ _=>false
 | _=>true
mutual
def refsT:TV T->List Nat
 | .ref id _=>[id]
 | .agg cs=>yv66 cs
 | .tup cs=>yv66 cs
 | .clo _ a b=>yv66 a++yv66 b
 | .vw _ id _=>[id]
 | .vr _ id _ _=>[id]
 | .blk _ _=>[]
 | .n _ _=>[]|.u8 _=>[]|.u16 _=>[]|.u32 _=>[]|.u64 _=>[]|.b _=>[]|.s _=>[]|.bs _=>[]|.bo _=>[]|.sl _ _=>[]|.ow _ _=>[]|.nilS=>[]|.nilP=>[]|.nilF=>[]|.yl _=>[]|.e8 _=>[]|.er _ _ _=>[]|.junk=>[]
def yv66:List (TV T)->List Nat
 | []=>[]
 | a::l=>refsT a++yv66 l
end
mutual
def renT (σ:Nat->Nat):TV T->TV T
 | .ref id o=>.ref (σ id) o
 | .agg cs=>.agg (renTL σ cs)
 | .tup cs=>.tup (renTL σ cs)
 | .clo f a b=>.clo f (renTL σ a) (renTL σ b)
 | .vw k id n=>.vw k (σ id) n
 | .vr k id i off=>.vr k (σ id) i off
 | .blk k l=>.blk k l
 | .n k x=>.n k x|.u8 x=>.u8 x|.u16 x=>.u16 x|.u32 x=>.u32 x|.u64 x=>.u64 x|.b x=>.b x|.s l=>.s l|.bs o=>.bs o|.bo o=>.bo o|.sl k o=>.sl k o|.ow k o=>.ow k o|.nilS=>.nilS|.nilP=>.nilP|.nilF=>.nilF|.yl l=>.yl l
 | .e8 x=>.e8 x|.er k x o=>.er k x o|.junk=>.junk
def renTL (σ:Nat->Nat):List (TV T)->List (TV T)
 | []=>[]
 | a::l=>renT σ a::renTL σ l
end
def yv701 (h:THeap T):Nat->List Nat->List Nat->List Nat
 | 0,_,acc=>acc
 | _ + 1,[],acc=>acc
 | n + 1,i::t,acc=>if acc.contains i then yv701 h n t acc else yv701 h n (yv66 (hgetT h i)++t) (acc++[i])
def yv169 (h:THeap T) (l:List Nat):THeap T:=l.map fun i=>renTL (posOf l) (hgetT h i)
def yv339 (f:Nat->Nat):THeap T->List Nat->THeap T->THeap T
 | h,i::l,o::H=>yv339 f (hsetT h i (renTL f o)) l H
 | h,_,_=>h
def yv334 (f:Nat->Nat) (h:THeap T) (l:List Nat) (H:THeap T):THeap T:=yv339 f h l H++(H.drop l.length).map (renTL f)
def yv316 (h:THeap T) (l:List Nat) (as:List (TV T)):Bool :=
 (yv66 as).all (fun i=>l.contains i) && l.all (fun i=>decide (i < h.length) && (yv66 (hgetT h i)).all fun j=>l.contains j) && yv477 l
inductive TArg (T:Nat->Type) where
 | v (t:Nat)
 | m (t:Nat)
 | c (t i:Nat)
 | k (a:TV T)
def rdT:TEnv T->TArg T->TV T × TEnv T
 | e,.v t=>(yv43 (lkT e t),e)
 | e,.m t=>(lkT e t,rmT e t)
 | e,.c t i=>match lkT e t with
  | .tup vs=>((nthT vs i).getD .junk,putT' e t (.tup (yv128 vs i .junk)))
  | _=>(.junk,e)
 | e,.k a=>(a,e)
def rdTs:TEnv T->List (TArg T)->List (TV T) × TEnv T
 | e,[]=>([],e)
 | e,x::xs=>let r:=rdT e x;let q:=rdTs r.2 xs;(r.1::q.1,q.2)
variable (tb:Tab T)
def avE (e:TEnv T):Env:=e.map fun p=>(p.1,av tb p.2)
def avO (o:List (TV T)):List AV:=match o with
 | [.blk k l]=>(l.map (tb.prow k)).flatten.map AV.pv
 | o=>avL tb o
def avH (h:THeap T):Heap:=h.map (avO tb)
def avS (s:TSt T):St:=⟨avE tb s.env,avH tb s.heap⟩
def avArg:TArg T->Arg
 | .v t=>.v t
 | .m t=>.m t
 | .c t i=>.c t i
 | .k a=>.k (av tb a)
variable {tb}
theorem yv56:∀ l:List (TV T),avL tb l=l.map (av tb)
 | []=>rfl
 | a::l=>by simp [avL,yv56 l]
theorem lk_av:∀ (e:TEnv T) (t:Nat),lk (avE tb e) t=av tb (lkT e t)
 | [],t=>by simp [avE,lk,lkT,av]
 | (k,v)::e,t=>by
  simp only [avE,List.map_cons,lk,lkT]
  split
  ·rfl
  ·exact lk_av e t
theorem rm_av:∀ (e:TEnv T) (t:Nat),rm (avE tb e) t=avE tb (rmT e t)
 | [],t=>rfl
 | (k,v)::e,t=>by
  have ih:=rm_av e t
  simp only [avE] at ih
  simp only [avE,List.map_cons,rm,rmT]
  split
  ·exact ih
  ·simp only [List.map_cons];rw [ih]
theorem yv177:∀ (e:TEnv T) (t:Nat) (v:TV T),put (avE tb e) t (av tb v)=avE tb (putT' e t v)
 | [],t,v=>rfl
 | (k,x)::e,t,v=>by
  have ih:=yv177 e t v
  simp only [avE] at ih
  simp only [avE,List.map_cons,put,putT']
  split
  ·simp
  ·split
   ·simp
   ·simp only [List.map_cons];rw [ih]
mutual
theorem yv86:∀ a:TV T,strip (av tb a)=av tb (yv43 a)
 | .ow k o=>by simp only [av,yv43];exact oAs o
 | .bo o=>by simp only [av,yv43];exact oAs o
 | .agg cs=>by simp only [av,yv43,strip,yv96 cs]
 | .tup cs=>by simp only [av,yv43,strip,yv96 cs]
 | .n _ _=>rfl|.u8 _=>rfl|.u16 _=>rfl|.u32 _=>rfl|.u64 _=>rfl|.b _=>rfl|.s _=>rfl|.bs _=>rfl|.sl _ _=>rfl|.nilS=>rfl|.nilP=>rfl|.nilF=>rfl|.yl _=>rfl|.ref _ _=>rfl|.e8 _=>rfl|.er _ _ _=>rfl|.clo _ _ _=>rfl|.vw _ _ _=>rfl|.vr _ _ _ _=>rfl|.blk _ _=>rfl|.junk=>rfl
theorem yv96:∀ l:List (TV T),yv26 (avL tb l)=avL tb (yv69 l)
 | []=>rfl
 | a::l=>by simp only [avL,yv26,yv69,yv86 a,yv96 l]
end
mutual
theorem yv263:∀ a:TV T,yv43 (yv43 a)=yv43 a
 | .agg cs=>by simp only [yv43,yv44 cs]
 | .tup cs=>by simp only [yv43,yv44 cs]
 | .ow _ _=>rfl|.bo _=>rfl|.n _ _=>rfl|.u8 _=>rfl|.u16 _=>rfl|.u32 _=>rfl|.u64 _=>rfl|.b _=>rfl|.s _=>rfl|.bs _=>rfl|.sl _ _=>rfl|.nilS=>rfl|.nilP=>rfl|.nilF=>rfl|.yl _=>rfl|.ref _ _=>rfl|.e8 _=>rfl|.er _ _ _=>rfl|.clo _ _ _=>rfl|.vw _ _ _=>rfl|.vr _ _ _ _=>rfl|.blk _ _=>rfl|.junk=>rfl
theorem yv44:∀ l:List (TV T),yv69 (yv69 l)=yv69 l
 | []=>rfl
 | a::l=>by simp only [yv69,yv263 a,yv44 l]
end
theorem yv478:∀ (l:List (TV T)) (n:Nat),nth (avL tb l) n=(nthT l n).map (av tb)
 | [],n=>rfl
 | a::l,0=>rfl
 | a::l,n + 1=>yv478 l n
theorem yv227:∀ (l:List (TV T)) (n:Nat) (v:TV T),yv85 (avL tb l) n (av tb v)=avL tb (yv128 l n v)
 | [],n,v=>rfl
 | a::l,0,v=>rfl
 | a::l,n + 1,v=>by simp only [avL,yv85,yv128,yv227 l n v]
theorem yv189:∀ (h:THeap T) (n:Nat) (o:List (TV T)),hset (avH tb h) n (avO tb o)=avH tb (hsetT h n o)
 | [],n,o=>rfl
 | a::l,0,o=>rfl
 | a::l,n + 1,o=>by
  have ih:=yv189 l n o
  simp only [avH] at ih
  simp only [avH,List.map_cons,hset,hsetT,ih]
theorem yv91:∀ (h:THeap T) (n:Nat),hget (avH tb h) n=avO tb (hgetT h n)
 | [],n=>rfl
 | a::l,0=>rfl
 | a::l,n + 1=>yv91 l n
def nb:List (TV T)->Bool
 | [.blk _ _]=>false
 | _=>true
theorem yv172 {o:List (TV T)} (h:nb o=true):avO tb o=avL tb o:=by
 unfold avO
 split
 ·cases h
 ·rfl
theorem yv626 {h:THeap T} {n:Nat} {o:List (TV T)} (hn:nb o=true):hset (avH tb h) n (avL tb o)=avH tb (hsetT h n o):=by rw [← yv172 hn,yv189]
theorem yv151 {h:THeap T} {n:Nat} (hn:nb (hgetT h n)=true):hget (avH tb h) n=avL tb (hgetT h n):=by rw [yv91,yv172 hn]
theorem yv526 (l:List (TV T)) (n:Nat):(avL tb l).take n=avL tb (l.take n):=by simp [yv56,List.map_take]
theorem yv620 (l:List (TV T)) (n:Nat):(avL tb l).drop n=avL tb (l.drop n):=by simp [yv56,List.map_drop]
theorem yv784 (l m:List (TV T)):avL tb l++avL tb m=avL tb (l++m):=by simp [yv56]
theorem yv109 (l:List (TV T)):(avL tb l).length=l.length:=by simp [yv56]
theorem yv229 (l:List (TV T)) (off:Nat) (cs:List (TV T)):yv94 (avL tb l) off (avL tb cs)=avL tb (yv200 l off cs):=by
 simp only [yv94,yv200,yv526,yv620,yv784,yv109]
theorem yv147:∀ (ts:List Nat) (e:TEnv T),dropL ts (avE tb e)=avE tb (yv174 ts e)
 | [],e=>rfl
 | t::ts,e=>by simp only [dropL,yv174,rm_av,yv147 ts]
theorem yv479 {α:Type} {z:Nat} {row:α->List PV} (o:Option (List α)):oA z row o=.nilS∨∃ rows,oA z row o=.own z rows:=by
 cases o with
 | none=>exact .inl rfl
 | some l=>exact .inr ⟨_,rfl⟩
theorem yv145 (a:TV T):cellsOf (av tb a)=avL tb (yv61 a):=by
 cases a<;>first|rfl|(simp only [av,yv61,avL];exact yv737 _)|(simp only [av,yv61,cellsOf,yv96])
theorem yv71 (a:TV T):yv218 (av tb a)=yv124 a:=by
 cases a<;>first|rfl|(simp only [av,yv124];exact yv681 _)
mutual
theorem yv163:∀ a:TV T,yv16 (av tb a)=refsT a
 | .ow k o=>by simp only [av,refsT];exact yv768 o
 | .bo o=>by simp only [av,refsT];exact yv768 o
 | .agg cs=>by simp only [av,refsT,yv16,yv65 cs]
 | .tup cs=>by simp only [av,refsT,yv16,yv65 cs]
 | .clo f a c=>by simp only [av,refsT,yv16,yv65 a,yv65 c]
 | .n _ _=>rfl|.u8 _=>rfl|.u16 _=>rfl|.u32 _=>rfl|.u64 _=>rfl|.b _=>rfl|.s _=>rfl|.bs _=>rfl|.sl _ _=>rfl|.nilS=>rfl|.nilP=>rfl|.nilF=>rfl|.yl _=>rfl|.ref _ _=>rfl|.e8 _=>rfl|.er _ _ _=>rfl|.vw _ _ _=>rfl|.vr _ _ _ _=>rfl|.blk _ _=>rfl|.junk=>rfl
theorem yv65:∀ l:List (TV T),refsL (avL tb l)=yv66 l
 | []=>rfl
 | a::l=>by simp only [avL,refsL,yv66,yv163 a,yv65 l]
end
mutual
theorem yv704 (σ:Nat->Nat):∀ a:TV T,ren σ (av tb a)=av tb (renT σ a)
 | .ow k o=>by simp only [av,renT];exact ren_A o
 | .bo o=>by simp only [av,renT];exact ren_A o
 | .agg cs=>by simp only [av,renT,ren,yv125 σ cs]
 | .tup cs=>by simp only [av,renT,ren,yv125 σ cs]
 | .clo f a c=>by simp only [av,renT,ren,yv125 σ a,yv125 σ c]
 | .n _ _=>rfl|.u8 _=>rfl|.u16 _=>rfl|.u32 _=>rfl|.u64 _=>rfl|.b _=>rfl|.s _=>rfl|.bs _=>rfl|.sl _ _=>rfl|.nilS=>rfl|.nilP=>rfl|.nilF=>rfl|.yl _=>rfl|.ref _ _=>rfl|.e8 _=>rfl|.er _ _ _=>rfl|.vw _ _ _=>rfl|.vr _ _ _ _=>rfl|.blk _ _=>rfl|.junk=>rfl
theorem yv125 (σ:Nat->Nat):∀ l:List (TV T),renL σ (avL tb l)=avL tb (renTL σ l)
 | []=>rfl
 | a::l=>by simp only [avL,renL,renTL,yv704 σ a,yv125 σ l]
end
theorem refsP:∀ l:List PV,refsL (l.map AV.pv)=[]
 | []=>rfl
 | a::l=>by simp only [List.map_cons,refsL,yv16,refsP l];rfl
theorem renP (σ:Nat->Nat):∀ l:List PV,renL σ (l.map AV.pv)=l.map AV.pv
 | []=>rfl
 | a::l=>by simp only [List.map_cons,renL,ren,renP σ l]
theorem yv82 (o:List (TV T)):refsL (avO tb o)=yv66 o:=by
 unfold avO
 split
 ·rw [refsP];rfl
 ·exact yv65 o
theorem yv806 (σ:Nat->Nat):∀ o:List (TV T),nb (renTL σ o)=nb o
 | []=>rfl
 | [a]=>by cases a<;>rfl
 | a::b::o=>by cases a<;>rfl
theorem yv492 (σ:Nat->Nat) (o:List (TV T)):renL σ (avO tb o)=avO tb (renTL σ o):=by
 cases hn:nb o with
 | true=>rw [yv172 hn,yv172 (by rw [yv806,hn]),yv125]
 | false =>
  match o,hn with
  | [.blk k l],_=>exact renP σ _
theorem yv264 (h:THeap T) (l:List Nat):yv11 (avH tb h) l=avH tb (yv169 h l):=by
 simp only [yv11,yv169,avH,List.map_map]
 refine List.map_congr_left fun i _=>?_
 have:=yv91 (tb:=tb) h i
 simp only [avH] at this
 simp only [this,yv492,Function.comp]
theorem yv340 (f:Nat->Nat):∀ (l:List Nat) (h H:THeap T),yv81 f (avH tb h) l (avH tb H)=avH tb (yv339 f h l H)
 | [],h,H=>by cases H<;>rfl
 | i::l,h,[]=>rfl
 | i::l,h,o::H=>by
  have e:avH tb (o::H)=avO tb o::avH tb H:=rfl
  rw [e]
  simp only [yv81,yv339,yv492,yv189]
  exact yv340 f l _ H
theorem yv335 (f:Nat->Nat) (h:THeap T) (l:List Nat) (H:THeap T):yv130 f (avH tb h) l (avH tb H)=avH tb (yv334 f h l H):=by
 simp only [yv130,yv334,yv340]
 simp only [avH,List.map_append,← List.map_drop,List.map_map]
 congr 1
 refine List.map_congr_left fun o _=>?_
 simp [yv492,Function.comp]
theorem yv12 (h:THeap T):(avH tb h).length=h.length:=by simp [avH]
theorem yv317 (h:THeap T) (l:List Nat) (as:List (TV T)):yv32 (avH tb h) l (avL tb as)=yv316 h l as:=by
 simp only [yv32,yv316,yv65,yv91,yv82,yv12]
theorem yv812 (e:TEnv T) (x:TArg T):rdA (avE tb e) (avArg tb x)=(av tb (rdT e x).1,avE tb (rdT e x).2):=by
 cases x with
 | v t=>simp only [rdA,avArg,rdT,lk_av,yv86]
 | m t=>simp only [rdA,avArg,rdT,lk_av,rm_av]
 | k a=>rfl
 | c t i =>
  simp only [avArg,rdT]
  rw [yv813.1,lk_av]
  cases h:lkT e t with
  | tup vs =>
   simp only [av,rdC]
   rw [yv478]
   have hj:(AV.junk)=av tb (.junk:TV T):=rfl
   rw [hj,yv227]
   have:AV.tup (avL tb (yv128 vs i .junk))=av tb (.tup (yv128 vs i .junk)):=rfl
   rw [this,yv177]
   cases nthT vs i<;>rfl
  | bo o=>rcases yv479 (z:=1) (row:=yv5) o with h|⟨r,h⟩<;>(simp only [av];rw [h];rfl)
  | ow k o=>rcases yv479 (z:=tb.sz k) (row:=tb.prow k) o with h|⟨r,h⟩<;>(simp only [av];rw [h];rfl)
  | _=>rfl
theorem yv160:∀ (xs:List (TArg T)) (e:TEnv T),rdAs (avE tb e) (xs.map (avArg tb))=(avL tb (rdTs e xs).1,avE tb (rdTs e xs).2)
 | [],e=>rfl
 | x::xs,e=>by
  simp only [List.map_cons,rdAs,rdTs,yv812,yv160 xs,avL]
end Go.Rv
set_option maxHeartbeats 4000000
namespace Go.Rv
open Go.RowKit
variable {T:Nat->Type} {tb:Tab T}
inductive OR (T:Nat->Type):Type 1 where
 | no
 | ok (r:TV T) (h:THeap T)
 | opt {β:Type} (o:Option β) (f:β->TV T) (h:THeap T)
 | alt (l:List (Bool × TV T)) (h:THeap T)
 | opth {β:Type} (o:Option β) (f:β->TV T × THeap T)
def altR {ρ:Type} (k:TV T->THeap T->Option ρ) (h:THeap T):List (Bool × TV T)->Option ρ
 | []=>none
 | (c,v)::l=>if c then k v h else altR k h l
def OR.go {ρ:Type} (x:OR T) (k:TV T->THeap T->Option ρ):Option ρ :=
 match x with
 | .no=>none
 | .ok r h=>k r h
 | .opt o f h=>o.bind fun x=>k (f x) h
 | .alt l h=>altR k h l
 | .opth o f=>o.bind fun x=>k (f x).1 (f x).2
def OR.all (p:TV T->THeap T->Prop):OR T->Prop
 | .no=>True
 | .ok r h=>p r h
 | .opt o f h=>∀ x,o=some x->p (f x) h
 | .alt l h=>∀ c v,(c,v) ∈ l->c=true->p v h
 | .opth o f=>∀ x,o=some x->p (f x).1 (f x).2
theorem yv732 {ρ:Type} {k:TV T->THeap T->Option ρ} {h:THeap T} {d:ρ}:∀ {l:List (Bool × TV T)},altR k h l=some d->∃ c v,(c,v) ∈ l∧c=true∧k v h=some d
 | [],hd=>by cases hd
 | (c,v)::l,hd=>by
  simp only [altR] at hd
  split at hd
  ·rename_i hc;exact ⟨c,v,List.mem_cons_self,hc,hd⟩
  ·obtain ⟨c',v',h1,h2⟩:=yv732 hd
   exact ⟨c',v',List.mem_cons_of_mem _ h1,h2⟩
theorem OR.go_all {ρ:Type} {x:OR T} {k:TV T->THeap T->Option ρ} {p:TV T->THeap T->Prop} {d:ρ} (h:x.go k=some d) (hp:x.all p):∃ r h',p r h'∧k r h'=some d:=by
 cases x with
 | no=>cases h
 | ok r h'=>exact ⟨r,h',hp,h⟩
 | opt o f h' =>
  obtain ⟨x,h1,h2⟩:=yv3 h
  exact ⟨f x,h',hp x h1,h2⟩
 | alt l h' =>
  obtain ⟨c,v,h1,h2,h3⟩:=yv732 h
  exact ⟨v,h',hp c v h1 h2,h3⟩
 | opth o f =>
  obtain ⟨x,h1,h2⟩:=yv3 h
  exact ⟨_,_,hp x h1,h2⟩
theorem yv388 {ρ σ:Type} {k:TV T->THeap T->Option σ} {f:σ->Option ρ} {h:THeap T}:∀ {l:List (Bool × TV T)},altR (fun r h=>(k r h).bind f) h l=(altR k h l).bind f
 | []=>rfl
 | (c,v)::l=>by
  simp only [altR,yv388]
  split<;>rfl
theorem OR.par {ρ σ:Type} {x:OR T} {k:TV T->THeap T->Option σ} {f:σ->Option ρ}:x.go (fun r h=>(k r h).bind f)=(x.go k).bind f:=by
 cases x with
 | no=>rfl
 | ok r h'=>rfl
 | opt o f h'=>cases o<;>rfl
 | alt l h'=>exact yv388
 | opth o f=>cases o<;>rfl
def imgT:TV T->Option (Bool × Int)
 | .n _ x=>some (true,x)
 | .u8 x=>some (false,(x.toNat:Int))
 | .u16 x=>some (false,(x.toNat:Int))
 | .u32 x=>some (false,(x.toNat:Int))
 | .u64 x=>some (false,(x.toNat:Int))
 | _=>none
theorem yv53 {v:TV T} {sg:Bool} {x:Int} (h:imgT v=some (sg,x)):∃ k,av tb v=.i k x∧(sg=false->0 ≤ x):=by
 cases v<;>simp [imgT] at h<;>obtain ⟨rfl,rfl⟩:=h<;>exact ⟨_,rfl,by simp⟩
def intR (o:BinOp) (k:IntKind) (a b:Int) (h:THeap T):OR T :=
 match o with
 | .add=>.ok (.n k (k.wrap (a + b))) h
 | .sub=>.ok (.n k (k.wrap (a - b))) h
 | .mul=>.ok (.n k (k.wrap (a * b))) h
 | .quo=>.opt (chk (decide (b ≠ 0))) (fun _=>.n k (k.wrap (a.tdiv b))) h
 | .rem=>.opt (chk (decide (b ≠ 0))) (fun _=>.n k (a.tmod b)) h
 | .and=>.ok (.n k (k.wrap ((BitVec.ofInt k.bits a &&& BitVec.ofInt k.bits b).toNat))) h
 | .or=>.ok (.n k (k.wrap ((BitVec.ofInt k.bits a ||| BitVec.ofInt k.bits b).toNat))) h
 | .xor=>.ok (.n k (k.wrap ((BitVec.ofInt k.bits a ^^^ BitVec.ofInt k.bits b).toNat))) h
 | .andNot=>.ok (.n k (k.wrap ((BitVec.ofInt k.bits a &&& ~~~ BitVec.ofInt k.bits b).toNat))) h
 | .eql=>.ok (.b (decide (a=b))) h
 | .neq=>.ok (.b (!decide (a=b))) h
 | .lss=>.ok (.b (decide (a < b))) h
 | .leq=>.ok (.b (decide (a ≤ b))) h
 | .gtr=>.ok (.b (decide (a > b))) h
 | .geq=>.ok (.b (decide (a ≥ b))) h
 | _=>.no
def shR (o:BinOp) (sg:Bool) (y:Int) (l r:TV T) (h:THeap T):OR T :=
 match o with
 | .shl=>if sg then .opt (chk (decide (0 ≤ y))) (fun _=>l) h else .ok l h
 | .shr=>if sg then .opt (chk (decide (0 ≤ y))) (fun _=>r) h else .ok r h
 | _=>.no
def u8R (o:BinOp) (a b:UInt8) (h:THeap T):OR T :=
 match o with
 | .add=>.ok (.u8 (a + b)) h
 | .sub=>.ok (.u8 (a - b)) h
 | .mul=>.ok (.u8 (a * b)) h
 | .quo=>.opt (chk (decide (b ≠ 0))) (fun _=>.u8 (a / b)) h
 | .rem=>.opt (chk (decide (b ≠ 0))) (fun _=>.u8 (a % b)) h
 | .and=>.ok (.u8 (a &&& b)) h
 | .or=>.ok (.u8 (a ||| b)) h
 | .xor=>.ok (.u8 (a ^^^ b)) h
 | .andNot=>.ok (.u8 (a &&& ~~~b)) h
 | .eql=>.ok (.b (decide (a=b))) h
 | .neq=>.ok (.b (!decide (a=b))) h
 | .lss=>.ok (.b (decide (a < b))) h
 | .leq=>.ok (.b (decide (a ≤ b))) h
 | .gtr=>.ok (.b (decide (a > b))) h
 | .geq=>.ok (.b (decide (a ≥ b))) h
 | _=>.no
def u16R (o:BinOp) (a b:UInt16) (h:THeap T):OR T :=
 match o with
 | .add=>.ok (.u16 (a + b)) h
 | .sub=>.ok (.u16 (a - b)) h
 | .mul=>.ok (.u16 (a * b)) h
 | .quo=>.opt (chk (decide (b ≠ 0))) (fun _=>.u16 (a / b)) h
 | .rem=>.opt (chk (decide (b ≠ 0))) (fun _=>.u16 (a % b)) h
 | .and=>.ok (.u16 (a &&& b)) h
 | .or=>.ok (.u16 (a ||| b)) h
 | .xor=>.ok (.u16 (a ^^^ b)) h
 | .andNot=>.ok (.u16 (a &&& ~~~b)) h
 | .eql=>.ok (.b (decide (a=b))) h
 | .neq=>.ok (.b (!decide (a=b))) h
 | .lss=>.ok (.b (decide (a < b))) h
 | .leq=>.ok (.b (decide (a ≤ b))) h
 | .gtr=>.ok (.b (decide (a > b))) h
 | .geq=>.ok (.b (decide (a ≥ b))) h
 | _=>.no
def u32R (o:BinOp) (a b:UInt32) (h:THeap T):OR T :=
 match o with
 | .add=>.ok (.u32 (a + b)) h
 | .sub=>.ok (.u32 (a - b)) h
 | .mul=>.ok (.u32 (a * b)) h
 | .quo=>.opt (chk (decide (b ≠ 0))) (fun _=>.u32 (a / b)) h
 | .rem=>.opt (chk (decide (b ≠ 0))) (fun _=>.u32 (a % b)) h
 | .and=>.ok (.u32 (a &&& b)) h
 | .or=>.ok (.u32 (a ||| b)) h
 | .xor=>.ok (.u32 (a ^^^ b)) h
 | .andNot=>.ok (.u32 (a &&& ~~~b)) h
 | .eql=>.ok (.b (decide (a=b))) h
 | .neq=>.ok (.b (!decide (a=b))) h
 | .lss=>.ok (.b (decide (a < b))) h
 | .leq=>.ok (.b (decide (a ≤ b))) h
 | .gtr=>.ok (.b (decide (a > b))) h
 | .geq=>.ok (.b (decide (a ≥ b))) h
 | _=>.no
def u64R (o:BinOp) (a b:UInt64) (h:THeap T):OR T :=
 match o with
 | .add=>.ok (.u64 (a + b)) h
 | .sub=>.ok (.u64 (a - b)) h
 | .mul=>.ok (.u64 (a * b)) h
 | .quo=>.opt (chk (decide (b ≠ 0))) (fun _=>.u64 (a / b)) h
 | .rem=>.opt (chk (decide (b ≠ 0))) (fun _=>.u64 (a % b)) h
 | .and=>.ok (.u64 (a &&& b)) h
 | .or=>.ok (.u64 (a ||| b)) h
 | .xor=>.ok (.u64 (a ^^^ b)) h
 | .andNot=>.ok (.u64 (a &&& ~~~b)) h
 | .eql=>.ok (.b (decide (a=b))) h
 | .neq=>.ok (.b (!decide (a=b))) h
 | .lss=>.ok (.b (decide (a < b))) h
 | .leq=>.ok (.b (decide (a ≤ b))) h
 | .gtr=>.ok (.b (decide (a > b))) h
 | .geq=>.ok (.b (decide (a ≥ b))) h
 | _=>.no
def eqR (o:BinOp) (x:Bool) (h:THeap T):OR T :=
 match o with
 | .eql=>.ok (.b x) h
 | .neq=>.ok (.b (!x)) h
 | _=>.no
def binR (o:BinOp) (t:ET) (x y:TV T) (h:THeap T):OR T :=
 match x with
 | .u8 a=>if yv1 o then (match imgT y with|some p=>shR o p.1 p.2 (.u8 (yv772 a p.2)) (.u8 (yv716 a p.2)) h|none=>.no) else (match y with|.u8 b=>u8R o a b h|_=>.no)
 | .u16 a=>if yv1 o then (match imgT y with|some p=>shR o p.1 p.2 (.u16 (yv644 a p.2)) (.u16 (yv517 a p.2)) h|none=>.no) else (match y with|.u16 b=>u16R o a b h|_=>.no)
 | .u32 a=>if yv1 o then (match imgT y with|some p=>shR o p.1 p.2 (.u32 (yv645 a p.2)) (.u32 (yv518 a p.2)) h|none=>.no) else (match y with|.u32 b=>u32R o a b h|_=>.no)
 | .u64 a=>if yv1 o then (match imgT y with|some p=>shR o p.1 p.2 (.u64 (yv646 a p.2)) (.u64 (yv519 a p.2)) h|none=>.no) else (match y with|.u64 b=>u64R o a b h|_=>.no)
 | .n k a=>if yv1 o then (match imgT y with|some p=>(match k with|.i64=>shR o p.1 p.2 (.n .i64 (w64 (a * 2 ^ (min p.2.toNat 64)))) (.n .i64 (a.fdiv (2 ^ (min p.2.toNat 64)))) h|_=>.no)|none=>.no) else (match y with|.n k' b=>if k=k' then intR o k a b h else .no|_=>.no)
 | .b a=>(match y with|.b b=>(match t with|.b=>eqR o (a == b) h|_=>.no)|_=>.no)
 | .s a=>(match y with|.s b=>(match o with|.add=>.opt (catS a b) (fun r=>.s r) h|_=>eqR o (decide (a=b)) h)|_=>.no)
 | .nilP=>(match y with|.nilP=>(match t with|.p=>eqR o true h|_=>.no)|.ref _ _=>(match t with|.p=>eqR o false h|_=>.no)|_=>.no)
 | .ref _ _=>(match y with|.nilP=>(match t with|.p=>eqR o false h|_=>.no)|_=>.no)
 | .nilF=>(match y with|.nilF=>(match t with|.f=>eqR o true h|_=>.no)|_=>.no)
 | .clo _ _ _=>(match y with|.nilF=>(match t with|.f=>eqR o false h|_=>.no)|_=>.no)
 | .nilS=>(match y with|.nilS=>(match t with|.sl=>eqR o true h|_=>.no)|_=>.no)
 | .sl _ q=>(match y with|.nilS=>(match t with|.sl=>eqR o q.isNone h|_=>.no)|_=>.no)
 | .bs q=>(match y with|.nilS=>(match t with|.sl=>eqR o q.isNone h|_=>.no)|_=>.no)
 | _=>.no
abbrev Snd (tb:Tab T) (op:POp) (as:List AV) (h:Heap) (x:OR T):Prop:=x.all fun r h'=>op.ev as h=some (av tb r,avH tb h')
theorem yv448 {t:ET} {k':IntKind} {a y:Int} {h:Heap} (hy:chk (decide (0 ≤ y))=some ()):POp.ev (.bin .shr t) [.i .i64 a,.i k' y] h=some (.i .i64 (a.fdiv (2 ^ (min y.toNat 64))),h):=by
 have hy:=of_decide_eq_true (yv30 hy)
 simp only [POp.ev,AV.i,binV,yv1,yv120,if_true,Option.map_some,show ¬ y < 0 by omega,if_false,IntKind.bits]
theorem yv753 {o:BinOp} {t:ET} {k:IntKind} {a b:Int} {h:THeap T} (hs:yv1 o=false):Snd tb (.bin o t) [.i k a,.i k b] (avH tb h) (intR o k a b h):=by
 cases o<;>simp only [intR,OR.all,av]<;>first
  | rfl
  | trivial
  | exact (yv742.2.2.2.2.2.2.2.2.2.2.1 _ _ _ _ _)
  | exact (yv742.2.2.2.2.2.2.2.2.2.2.2.1 _ _ _ _ _)
  | (intro x hb;have hb:=of_decide_eq_true (yv30 hb);simp [POp.ev,AV.i,binV,yv1,intV,hb])
  | (simp only [POp.ev,AV.i,binV,yv1,intV,if_true,Bool.false_eq_true,if_false,Option.map_some])
theorem yv516 {o:BinOp} {t:ET} {x y:AV} {sg:Bool} {i:Int} {l r:TV T} {h:THeap T} (hs:sg=false->0 ≤ i)
 (hl:chk (decide (0 ≤ i))=some ()->POp.ev (.bin .shl t) [x,y] (avH tb h)=some (av tb l,avH tb h)) (hr:chk (decide (0 ≤ i))=some ()->POp.ev (.bin .shr t) [x,y] (avH tb h)=some (av tb r,avH tb h)) :
 Snd tb (.bin o t) [x,y] (avH tb h) (shR o sg i l r h):=by
 have h0:sg=false->chk (decide (0 ≤ i))=some ():=fun e=>by have:=hs e;simp [chk,this]
 cases o<;>simp only [shR,OR.all]<;>cases sg<;>simp only [if_true,Bool.false_eq_true,if_false,OR.all]<;>first
  | exact hl (h0 rfl)
  | exact hr (h0 rfl)
  | (intro _ hx;exact hl hx)
  | (intro _ hx;exact hr hx)
theorem yv814 {o:BinOp} {t:ET} {a b:UInt8} {h:THeap T} (hs:yv1 o=false):Snd tb (.bin o t) [A8 a,A8 b] (avH tb h) (u8R o a b h):=by
 cases o with
 | add=>exact yv549
 | sub=>exact yv570
 | mul=>exact yv561
 | and=>exact yv550
 | or=>exact yv668
 | xor=>exact yv571
 | andNot=>exact yv285
 | eql=>exact yv553
 | neq=>exact yv562
 | lss=>exact yv558
 | leq=>exact yv557
 | gtr=>exact yv555
 | geq=>exact yv554
 | quo=>exact fun _ hb=>yv566 hb
 | rem=>exact fun _ hb=>yv567 hb
 | _=>cases hs
theorem yv776 {o:BinOp} {t:ET} {a b:UInt16} {h:THeap T} (hs:yv1 o=false):Snd tb (.bin o t) [A16 a,A16 b] (avH tb h) (u16R o a b h):=by
 cases o with
 | add=>exact yv401
 | sub=>exact yv452
 | mul=>exact yv431
 | and=>exact yv404
 | or=>exact yv563
 | xor=>exact yv455
 | andNot=>exact yv239
 | eql=>exact yv408
 | neq=>exact yv434
 | lss=>exact yv422
 | leq=>exact yv419
 | gtr=>exact yv414
 | geq=>exact yv411
 | quo=>exact fun _ hb=>yv438 hb
 | rem=>exact fun _ hb=>yv441 hb
 | _=>cases hs
theorem yv777 {o:BinOp} {t:ET} {a b:UInt32} {h:THeap T} (hs:yv1 o=false):Snd tb (.bin o t) [A32 a,A32 b] (avH tb h) (u32R o a b h):=by
 cases o with
 | add=>exact yv402
 | sub=>exact yv453
 | mul=>exact yv432
 | and=>exact yv405
 | or=>exact yv564
 | xor=>exact yv456
 | andNot=>exact yv240
 | eql=>exact yv409
 | neq=>exact yv435
 | lss=>exact yv423
 | leq=>exact yv420
 | gtr=>exact yv415
 | geq=>exact yv412
 | quo=>exact fun _ hb=>yv439 hb
 | rem=>exact fun _ hb=>yv442 hb
 | _=>cases hs
theorem yv778 {o:BinOp} {t:ET} {a b:UInt64} {h:THeap T} (hs:yv1 o=false):Snd tb (.bin o t) [A64 a,A64 b] (avH tb h) (u64R o a b h):=by
 cases o with
 | add=>exact yv403
 | sub=>exact yv454
 | mul=>exact yv433
 | and=>exact yv406
 | or=>exact yv565
 | xor=>exact yv457
 | andNot=>exact yv241
 | eql=>exact yv410
 | neq=>exact yv436
 | lss=>exact yv424
 | leq=>exact yv421
 | gtr=>exact yv416
 | geq=>exact yv413
 | quo=>exact fun _ hb=>yv440 hb
 | rem=>exact fun _ hb=>yv443 hb
 | _=>cases hs
theorem yv175 {o:BinOp} {t:ET} {x y:AV} {q:Bool} {h:THeap T} (h1:POp.ev (.bin .eql t) [x,y] (avH tb h)=some (.b q,avH tb h)) (h2:POp.ev (.bin .neq t) [x,y] (avH tb h)=some (.b (!q),avH tb h)) :
 Snd tb (.bin o t) [x,y] (avH tb h) (eqR o q h):=by
 cases o<;>simp only [eqR,OR.all,av]<;>first|exact h1|exact h2
theorem yv735 {o:BinOp} {t:ET} {x y:TV T} {h:THeap T}:Snd tb (.bin o t) [av tb x,av tb y] (avH tb h) (binR o t x y h):=by
 have no:∀ {op:POp} {as:List AV} {h:Heap},Snd tb op as h (.no:OR T):=trivial
 cases x with
 | u8 a =>
  simp only [binR]
  split
  ·split
   ·rename_i p hp
    obtain ⟨k,e,h0⟩:=yv53 (tb:=tb) hp
    rw [e]
    exact yv516 h0 yv568 yv569
   ·exact no
  ·rename_i hs
   cases y with
   | u8 b=>exact yv814 (by simpa using hs)
   | _=>exact no
 | u16 a =>
  simp only [binR]
  split
  ·split
   ·rename_i p hp
    obtain ⟨k,e,h0⟩:=yv53 (tb:=tb) hp
    rw [e]
    exact yv516 h0 yv445 yv449
   ·exact no
  ·rename_i hs
   cases y with
   | u16 b=>exact yv776 (by simpa using hs)
   | _=>exact no
 | u32 a =>
  simp only [binR]
  split
  ·split
   ·rename_i p hp
    obtain ⟨k,e,h0⟩:=yv53 (tb:=tb) hp
    rw [e]
    exact yv516 h0 yv446 yv450
   ·exact no
  ·rename_i hs
   cases y with
   | u32 b=>exact yv777 (by simpa using hs)
   | _=>exact no
 | u64 a =>
  simp only [binR]
  split
  ·split
   ·rename_i p hp
    obtain ⟨k,e,h0⟩:=yv53 (tb:=tb) hp
    rw [e]
    exact yv516 h0 yv447 yv451
   ·exact no
  ·rename_i hs
   cases y with
   | u64 b=>exact yv778 (by simpa using hs)
   | _=>exact no
 | n k a =>
  simp only [binR]
  split
  ·split
   ·rename_i p hp
    obtain ⟨k',e,h0⟩:=yv53 (tb:=tb) hp
    rw [e]
    cases k with
    | i64=>exact yv516 h0 yv444 yv448
    | _=>exact no
   ·exact no
  ·rename_i hs
   cases y with
   | n k' b =>
    simp only
    split
    ·rename_i hk;subst hk;exact yv753 (by simpa using hs)
    ·exact no
   | _=>exact no
 | b a =>
  cases y with
  | b b =>
   cases t with
   | b=>exact yv175 rfl rfl
   | _=>exact no
  | _=>exact no
 | s a =>
  cases y with
  | s b =>
   cases o with
   | add=>exact fun r hr=>yv793 hr
   | _=>exact yv175 yv666 yv667
  | _=>exact no
 | nilP =>
  cases y with
  | nilP =>
   cases t with
   | p=>exact yv175 rfl rfl
   | _=>exact no
  | ref =>
   cases t with
   | p=>exact yv175 rfl rfl
   | _=>exact no
  | _=>exact no
 | ref =>
  cases y with
  | nilP =>
   cases t with
   | p=>exact yv175 rfl rfl
   | _=>exact no
  | _=>exact no
 | nilF =>
  cases y with
  | nilF =>
   cases t with
   | f=>exact yv175 rfl rfl
   | _=>exact no
  | _=>exact no
 | clo =>
  cases y with
  | nilF =>
   cases t with
   | f=>exact yv175 rfl rfl
   | _=>exact no
  | _=>exact no
 | nilS =>
  cases y with
  | nilS =>
   cases t with
   | sl=>exact yv175 rfl rfl
   | _=>exact no
  | _=>exact no
 | sl k q =>
  cases y with
  | nilS =>
   cases t with
   | sl=>exact yv175 yv437 yv242
   | _=>exact no
  | _=>exact no
 | bs q =>
  cases y with
  | nilS =>
   cases t with
   | sl=>exact yv175 yv437 yv242
   | _=>exact no
  | _=>exact no
 | _=>exact no
end Go.Rv
set_option maxHeartbeats 4000000
namespace Go.Rv
open Go.RowKit
variable {T:Nat->Type} {tb:Tab T}
inductive TOp (T:Nat->Type) where
 | mv
 | pick
 | alloc (zs:List (TV T))
 | box
 | build (zs:List (TV T)) (offs:List (Nat × Nat))
 | bslice (k n:Nat) (z:T k) (idx:List Nat)
 | b8 (n:Nat) (idx:List Nat)
 | load (n:Option Nat)
 | loadm
 | store (n:Nat)
 | nilck
 | bin (o:BinOp) (t:ET)
 | eqs (neg:Bool) (ts:List ET)
 | un (o:UnOp)
 | cint (k:IntKind)
 | s2b
 | b2s
 | cid
 | sstr (lo hi:Bool)
 | ssl (sz:Nat) (lo hi:Bool)
 | fa (off:Nat)
 | fld (off:Nat) (n:Option Nat)
 | ia (sz:Nat)
 | iarr (len sz:Nat)
 | sidx
 | aidx (len sz:Nat) (n:Option Nat)
 | ext (i:Nat)
 | extm
 | len
 | lens
 | min
 | max
 | app (sz bytes:Nat)
 | apps
 | appv (k bytes:Nat)
 | sarr (n:Nat)
 | b2v
 | mksl (k bytes:Nat) (z:T k)
 | mkf (f nf:Nat)
 | call (f:Option Nat) (i:Nat)
def erO (tb:Tab T):TOp T->POp
 | .mv=>.mv|.pick=>.pick|.alloc zs=>.alloc (avL tb zs)|.box=>.box|.build zs offs=>.build (avL tb zs) offs
 | .bslice k n z idx=>.bslice (tb.sz k) n (tb.prow k z) idx|.b8 n idx=>.bslice 1 n (yv5 0) idx
 | .load n=>.load n|.loadm=>.loadm|.store n=>.store n|.nilck=>.nilck|.bin o t=>.bin o t|.eqs n ts=>.eqs n ts|.un o=>.un o|.cint k=>.cint k|.s2b=>.s2b|.b2s=>.b2s|.cid=>.cid
 | .sstr lo hi=>.sstr lo hi|.ssl sz lo hi=>.ssl sz lo hi|.fa off=>.fa off|.fld off n=>.fld off n|.ia sz=>.ia sz|.iarr l sz=>.iarr l sz|.sidx=>.sidx|.aidx l sz n=>.aidx l sz n
 | .ext i=>.ext i|.extm=>.extm|.len=>.len|.lens=>.lens|.min=>.min|.max=>.max|.app sz b=>.app sz b|.apps=>.apps|.appv k b=>.appv (tb.sz k) b|.sarr n=>.sarr n|.b2v=>.b2v|.mksl k b z=>.mksl (tb.sz k) b ((tb.prow k z).map AV.pv)|.mkf f nf=>.mkf (.func f) nf|.call f _=>.call f
def isR0T:TV T->Bool
 | .ow _ _=>false|.bo _=>false|.agg _=>false|.tup _=>false|.clo _ _ _=>false|.yl _=>false|.junk=>false|.blk _ _=>false
 | _=>true
theorem yv754 {v:TV T} (h:isR0T v=true):isR0 (av tb v)=true:=by
 cases v<;>first|rfl|cases h
def prjA (a:Tm) (v:TV T):Option (a.ty T) :=
 match a,v with
 | .n k,.n k' x=>if k'=k then some x else none
 | .u8,.u8 x=>some x
 | .u16,.u16 x=>some x
 | .u32,.u32 x=>some x
 | .u64,.u64 x=>some x
 | .b,.b x=>some x
 | .s,.s x=>some x
 | .bs,.bs o=>some o
 | .bs,.nilS=>some none
 | .sl k,.sl k' o=>if h:k'=k then some (h ▸ o) else none
 | .sl k,.nilS=>some none
 | _,_=>none
def prjAL:(l:List Tm)->List (TV T)->Option (tyA T l)
 | [],[]=>some ()
 | a::l,v::vs=>(prjA a v).bind fun x=>(prjAL l vs).bind fun y=>some (x,y)
 | _,_=>none
theorem yv634 {a:Tm} {v:TV T} {x:a.ty T} (h:prjA a v=some x):av tb v=.pv (pvA tb a x):=by
 unfold prjA at h
 split at h<;>first
  | (cases h;done)
  | (cases h;rfl)
  | (split at h
     ·rename_i hk;subst hk;cases h;rfl
     ·cases h)
theorem yv487:∀ {l:List Tm} {vs:List (TV T)} {x:tyA T l},prjAL l vs=some x->avL tb vs=(pvAL tb l x).map AV.pv
 | [],[],x,h=>rfl
 | a::l,v::vs,x,h=>by
  simp only [prjAL] at h
  obtain ⟨y,h1,h⟩:=yv3 h
  obtain ⟨z,h2,h⟩:=yv3 h
  cases h
  simp only [avL,pvAL,List.map_cons,yv634 h1,yv487 h2]
 | [],_::_,x,h=>by cases h
 | _::_,[],x,h=>by cases h
theorem yv676:∀ (a:Tm) (x:a.ty T),av tb (injA a x)=.pv (pvA tb a x):=by
 intro a x;cases a<;>rfl
theorem yv469:∀ (l:List Tm) (x:tyA T l),avL tb (injAL l x)=(pvAL tb l x).map AV.pv
 | [],_=>rfl
 | a::l,x=>by simp only [injAL,avL,pvAL,List.map_cons,yv676,yv469 l]
theorem rw_av (ok:tb.Ok) (k:Nat) (x:T k):avL tb (tb.rw k x)=(tb.prow k x).map AV.pv:=by rw [Tab.rw,yv469,ok.row]
theorem yv698 (ok:tb.Ok) (k:Nat) (x:T k):(tb.prow k x).length=(tb.rw k x).length:=by
 have:=congrArg List.length (rw_av ok k x)
 rw [yv109] at this;simpa using this.symm
def mkT (tb:Tab T) (k:Nat) (cs:List (TV T)):Option (T k):=(prjAL (tb.sh k) cs).bind fun x=>some (tb.bk k x)
theorem yv585 (ok:tb.Ok) {k:Nat} {cs:List (TV T)} {x:T k} (h:mkT tb k cs=some x):avL tb cs=(tb.prow k x).map AV.pv:=by
 obtain ⟨y,h1,h2⟩:=yv3 h
 cases h2
 rw [yv487 h1,ok.row,ok.um]
def toT0 (tb:Tab T):List UInt8->Option (List (T 0))
 | []=>some []
 | b::l=>(mkT tb 0 [.u8 b]).bind fun x=>(toT0 tb l).bind fun y=>some (x::y)
theorem yv650 (ok:tb.Ok):∀ {l:List UInt8} {y:List (T 0)},toT0 tb l=some y->y.map (tb.prow 0)=l.map yv5
 | [],y,h=>by cases h;rfl
 | b::l,y,h=>by
  obtain ⟨x,h1,h⟩:=yv3 h
  obtain ⟨z,h2,h⟩:=yv3 h
  cases h
  have e:=yv585 ok h1
  have e2:(tb.prow 0 x)=yv5 b:=by
   generalize tb.prow 0 x=r at e
   simp only [avL,av] at e
   cases r with
   | nil=>cases e
   | cons p r =>
    simp only [List.map_cons,List.cons.injEq] at e
    obtain ⟨e1,e3⟩:=e
    have:r=[]:=by cases r with
     | nil=>rfl
     | cons q r=>simp at e3
    subst this
    cases e1
    rfl
  rw [List.map_cons,List.map_cons,e2,yv650 ok h2]
def srcT (k:Nat):TV T->Option (Option (List (T k)))
 | .sl k' o=>if h:k'=k then some (h ▸ o) else none
 | .ow k' o=>if h:k'=k then some (h ▸ o) else none
 | .nilS=>some none
 | _=>none
def srcB:TV T->Option (Option (List UInt8))
 | .bs o=>some o
 | .bo o=>some o
 | .nilS=>some none
 | _=>none
def yv544:List (TV T)->List (Nat × Nat)->List (TV T)->Option (List (TV T))
 | cs,[],[]=>some cs
 | cs,(off,sz)::offs,a::as =>
  if yv124 a && Nat.beq (yv61 (yv43 a)).length sz && Nat.ble (off + sz) cs.length then yv544 (yv200 cs off (yv61 (yv43 a))) offs as else none
 | _,_,_=>none
def setR {α:Type}:List α->Nat->α->List α
 | [],_,_=>[]
 | _::l,0,r=>r::l
 | x::l,n + 1,r=>x::setR l n r
def repR {α:Type}:Nat->α->List α
 | 0,_=>[]
 | n + 1,a=>a::repR n a
def rowsT (tb:Tab T) (k:Nat):List (T k)->List Nat->List (TV T)->Option (List (T k))
 | rows,[],[]=>some rows
 | rows,i::is,a::as=>(mkT tb k (yv61 (yv43 a))).bind fun x=>if Nat.blt i rows.length then rowsT tb k (setR rows i x) is as else none
 | _,_,_=>none
def rowsB:List UInt8->List Nat->List (TV T)->Option (List UInt8)
 | rows,[],[]=>some rows
 | rows,i::is,.u8 a::as=>if Nat.blt i rows.length then rowsB (setR rows i a) is as else none
 | _,_,_=>none
def altO (i:Int) (f:Nat->Option (TV T)):Nat->Nat->Option (List (Bool × TV T))
 | _,0=>some []
 | j,n + 1=>(f j).bind fun v=>(altO i f (j + 1) n).bind fun l=>some ((decide (i=(j:Int)),v)::l)
def OR.ofO (h:THeap T):Option (List (Bool × TV T))->OR T
 | some l=>.alt l h
 | none=>.no
def fldT (cs:List (TV T)) (off:Nat):Option Nat->Option (TV T)
 | none=>(nthT cs off).bind fun c=>some (yv43 c)
 | some m=>if Nat.ble (off + m) cs.length then some (.agg (yv69 ((cs.drop off).take m))) else none
def OR.ofV (h:THeap T):Option (TV T)->OR T
 | some v=>.ok v h
 | none=>.no
def cintT (k:IntKind) (x:Int):TV T :=
 match k with
 | .u8=>.u8 (u8 x)|.u16=>.u16 (u16 x)|.u32=>.u32 (u32 x)|.u64=>.u64 (u64 x)
 | k=>.n k (k.wrap x)
def yv520 {α:Type} (lo hi:Bool) (n:Int) (is:List (TV T)) (f:Int->Int->Option α) (g:α->TV T) (z:TV T) (h:THeap T):OR T :=
 match lo,hi,is with
 | true,true,[a,b]=>(match imgT a,imgT b with|some p,some q=>.opt (f p.2 q.2) g h|_,_=>.no)
 | true,false,[a]=>(match imgT a with|some p=>.opt (f p.2 n) g h|_=>.no)
 | false,true,[b]=>(match imgT b with|some q=>.opt (f 0 q.2) g h|_=>.no)
 | false,false,[]=>.ok z h
 | _,_,_=>.no
def atomT (t:ET) (a b:TV T):Option Bool :=
 match t,a,b with
 | .b,.b x,.b y=>some (x == y)
 | .i,.u8 x,.u8 y=>some (decide (x=y))
 | .i,.u16 x,.u16 y=>some (decide (x=y))
 | .i,.u32 x,.u32 y=>some (decide (x=y))
 | .i,.u64 x,.u64 y=>some (decide (x=y))
 | .i,.n k x,.n k' y=>if k=k' then some (decide (x=y)) else none
 | .s,.s x,.s y=>some (decide (x=y))
 | _,_,_=>none
def eqT:List ET->List (TV T)->List (TV T)->Option Bool
 | [],[],[]=>some true
 | [t],[a],[b]=>atomT t a b
 | t::ts,a::as,b::bs=>(atomT t a b).bind fun r=>(eqT ts as bs).bind fun q=>some (r && q)
 | _,_,_=>none
def inB (off:Nat) (n:Option Nat) (sz:Nat):Bool:=match n with
 | none=>Nat.blt off sz
 | some m=>Nat.ble (off + m) sz
def ldB (tb:Tab T) (k off:Nat) (n:Option Nat) (i:Int) (o:List (TV T)) (h:THeap T):OR T:=match o with
 | [.blk k' l]=>if hk:k'=k then (if inB off n (tb.sz k) then .opt (ix (hk ▸ l) i) (fun x=>(fldT (tb.rw k x) off n).getD .junk) h else .no) else .no
 | _=>.no
def stB (tb:Tab T) (k id off n:Nat) (i:Int) (a:TV T) (o:List (TV T)) (h:THeap T):OR T:=match o with
 | [.blk k' l]=>if hk:k'=k then (if yv124 a && Nat.beq (yv61 a).length n && Nat.ble (off + n) (tb.sz k) then
  .opth ((ix (hk ▸ l:List (T k)) i).bind fun x=>mkT tb k (yv200 (tb.rw k x) off (yv61 a))) (fun y=>(.junk,hsetT h id [.blk k (setR (hk ▸ l:List (T k)) i.toNat y)])) else .no) else .no
 | _=>.no
def yv545:List (TV T)->Option (List UInt8)
 | []=>some []
 | .u8 x::l=>(yv545 l).bind fun r=>some (x::r)
 | _=>none
def b2vT (tb:Tab T) (o:List (TV T)) (n:Nat) (h:THeap T):OR T:=match o with
 | [.blk 0 l]=>.opt (chk (decide (n ≤ l.length))) (fun _=>.s ((tb.b8 l).take n)) h
 | o=>if nb o && Nat.ble n o.length then (match yv545 (o.take n) with|some l=>.ok (.s l) h|none=>.no) else .no
def evR (tb:Tab T) (op:TOp T) (as:List (TV T)) (h:THeap T):OR T :=
 match op with
 | .mv=>(match as with|[a]=>.ok a h|_=>.no)
 | .pick=>(match as with|[.b true,a,_]=>.ok a h|[.b false,_,b]=>.ok b h|_=>.no)
 | .alloc zs=>(match as with|[]=>if nb zs then .ok (.ref h.length 0) (h++[zs]) else .no|_=>.no)
 | .box=>(match as with|[a]=>if yv124 a && nb (yv61 (yv43 a)) then .ok (.ref h.length 0) (h++[yv61 (yv43 a)]) else .no|_=>.no)
 | .mkf f nf=>if as.all isR0T then .ok (.clo f (as.take nf) (as.drop nf)) h else .no
 | .build zs offs=>(match yv544 zs offs as with|some cs=>.ok (.agg cs) h|none=>.no)
 | .bslice k n z idx=>(match rowsT tb k (repR n z) idx as with|some l=>.ok (.ow k (some l)) h|none=>.no)
 | .b8 n idx=>(match rowsB (repR n 0) idx as with|some l=>.ok (.bo (some l)) h|none=>.no)
 | .load n=>(match as with
  | [.ref id off]=>if nb (hgetT h id) then OR.ofV h (fldT (hgetT h id) off n) else .no
  | [.vr k id i off]=>ldB tb k off n i (hgetT h id) h
  | [.e8 x]=>(match n with|none=>.ok (.u8 x) h|some _=>.no)
  | [.er k x off]=>OR.ofV h (fldT (tb.rw k x) off n)
  | _=>.no)
 | .loadm=>(match as with|[.ref id off]=>(match nthT (hgetT h id) off with|some c=>if nb (hgetT h id) && nb (yv128 (hgetT h id) off .junk) then .ok c (hsetT h id (yv128 (hgetT h id) off .junk)) else .no|none=>.no)|_=>.no)
 | .store n=>(match as with
  | [.ref id off,a]=>if yv124 a && Nat.beq (yv61 a).length n && Nat.ble (off + n) (hgetT h id).length && nb (hgetT h id) && nb (yv200 (hgetT h id) off (yv61 a)) then .ok .junk (hsetT h id (yv200 (hgetT h id) off (yv61 a))) else .no
  | [.vr k id i off,a]=>stB tb k id off n i a (hgetT h id) h
  | _=>.no)
 | .nilck=>(match as with|[.ref id off]=>.ok (.ref id off) h|[.er k x off]=>.ok (.er k x off) h|[.e8 x]=>.ok (.e8 x) h|[.vr k id i off]=>.ok (.vr k id i off) h|_=>.no)
 | .bin o t=>(match as with|[x,y]=>binR o t x y h|_=>.no)
 | .eqs neg ts=>(match as with|[.agg cs,.agg ds]=>(match eqT ts cs ds with|some q=>.ok (.b (if neg then !q else q)) h|none=>.no)|_=>.no)
 | .un o=>(match o,as with|.not,[.b x]=>.ok (.b (!x)) h|.neg,[.n k x]=>.ok (.n k (k.wrap (0 - x))) h|_,_=>.no)
 | .cint k=>(match as with|[a]=>(match imgT a with|some p=>.ok (cintT k p.2) h|none=>.no)|_=>.no)
 | .s2b=>(match as with|[.s l]=>.opt (s2b l) (fun r=>.bs r) h|_=>.no)
 | .b2s=>(match as with|[.bs o]=>.ok (.s (L o)) h|[.bo o]=>.ok (.s (L o)) h|_=>.no)
 | .cid=>(match as with|[.s l]=>.ok (.s l) h|_=>.no)
 | .sstr lo hi=>(match as with|.s l::is=>yv520 lo hi (l.length:Int) is (slc l) (fun r=>.s r) (.s l) h|_=>.no)
 | .ssl sz lo hi=>(match as with
  | .bs o::is=>if sz=1 then yv520 lo hi ((L o).length:Int) is (slO o) (fun r=>.bs r) (.bs o) h else .no
  | .sl k o::is=>if sz=tb.sz k then yv520 lo hi ((L o).length:Int) is (slO o) (fun r=>.sl k r) (.sl k o) h else .no
  | _=>.no)
 | .fa off=>(match as with|[.ref id o]=>.ok (.ref id (o + off)) h|[.er k x o]=>.ok (.er k x (o + off)) h|[.vr k id i o]=>.ok (.vr k id i (o + off)) h|_=>.no)
 | .fld off n=>(match as with|[.agg cs]=>OR.ofV h (fldT cs off n)|_=>.no)
 | .ia sz=>(match as with
  | [.bs o,y]=>(match imgT y with|some p=>if sz=1 then .opt (ix (L o) p.2) (fun a=>.e8 a) h else .no|none=>.no)
  | [.sl k o,y]=>(match imgT y with|some p=>if sz=tb.sz k then .opt (ix (L o) p.2) (fun a=>.er k a 0) h else .no|none=>.no)
  | [.vw k id n,y]=>(match imgT y with|some p=>if sz=tb.sz k then .opt (chk (decide (0 ≤ p.2∧p.2 < (n:Int)))) (fun _=>.vr k id p.2 0) h else .no|none=>.no)
  | _=>.no)
 | .iarr n sz=>(match as with
  | [.ref id off,y]=>(match imgT y with|some p=>OR.ofO h (altO p.2 (fun j=>some (.ref id (off + j * sz))) 0 n)|none=>.no)
  | [.er k x off,y]=>(match imgT y with|some p=>OR.ofO h (altO p.2 (fun j=>some (.er k x (off + j * sz))) 0 n)|none=>.no)
  | _=>.no)
 | .sidx=>(match as with|[.s l,y]=>(match imgT y with|some p=>.opt (ix l p.2) (fun a=>.u8 a) h|none=>.no)|_=>.no)
 | .aidx n sz m=>(match as with|[.agg cs,y]=>(match imgT y with|some p=>OR.ofO h (altO p.2 (fun j=>fldT cs (j * sz) m) 0 n)|none=>.no)|_=>.no)
 | .ext i=>(match as with|[.tup vs]=>OR.ofV h (nthT vs i)|_=>.no)
 | .extm=>(match as with|[a]=>if yv124 a then .ok a h else .no|_=>.no)
 | .len=>(match as with|[.bs o]=>.ok (.n .i64 ((L o).length:Int)) h|[.bo o]=>.ok (.n .i64 ((L o).length:Int)) h|[.sl k o]=>.ok (.n .i64 ((L o).length:Int)) h|[.ow k o]=>.ok (.n .i64 ((L o).length:Int)) h|[.nilS]=>.ok (.n .i64 0) h|[.vw _ _ n]=>.ok (.n .i64 (n:Int)) h|_=>.no)
 | .lens=>(match as with|[.s l]=>.ok (.n .i64 (l.length:Int)) h|_=>.no)
 | .min=>(match as with
  | [.n .i64 a,.n .i64 b]=>.ok (.n .i64 (imin a b)) h|[.u8 a,.u8 b]=>.ok (.u8 (if b < a then b else a)) h|[.u16 a,.u16 b]=>.ok (.u16 (if b < a then b else a)) h
  | [.u32 a,.u32 b]=>.ok (.u32 (if b < a then b else a)) h|[.u64 a,.u64 b]=>.ok (.u64 (if b < a then b else a)) h|_=>.no)
 | .max=>(match as with
  | [.n .i64 a,.n .i64 b]=>.ok (.n .i64 (imax a b)) h|[.u8 a,.u8 b]=>.ok (.u8 (if b > a then b else a)) h|[.u16 a,.u16 b]=>.ok (.u16 (if b > a then b else a)) h
  | [.u32 a,.u32 b]=>.ok (.u32 (if b > a then b else a)) h|[.u64 a,.u64 b]=>.ok (.u64 (if b > a then b else a)) h|_=>.no)
 | .app sz bytes=>(match as with
  | [.ow k x,y]=>(match srcT k y with|some y=>if sz=tb.sz k then .opt (appO bytes x y) (fun r=>.ow k r) h else .no|none=>.no)
  | [.sl k none,y]=>(match srcT k y with|some y=>if sz=tb.sz k then .opt (appO bytes none y) (fun r=>.ow k r) h else .no|none=>.no)
  | [.bo x,y]=>(match srcB y with|some y=>if sz=1 then .opt (appO bytes x y) (fun r=>.bo r) h else .no|none=>.no)
  | [.bs none,y]=>(match srcB y with|some y=>if sz=1 then .opt (appO bytes none y) (fun r=>.bo r) h else .no|none=>.no)
  | _=>.no)
 | .apps=>(match as with
  | [.bo x,.s l]=>.opt (appO 1 x (some l)) (fun r=>.bo r) h
  | [.bs none,.s l]=>.opt (appO 1 none (some l)) (fun r=>.bo r) h
  | _=>.no)
 | .appv k b=>(match as with
  | [.ow k' (some []),y]=>if k'=k then (match srcT k y with|some y=>.opth (chk (decide ((L y).length * b ≤ room∧(L y).length ≤ room))) (fun _=>(.vw k h.length (L y).length,h++[[.blk k (L y)]]))|none=>.no) else .no
  | [.bo (some []),y]=>if k=0 then (match srcB y with|some y=>.opth ((chk (decide ((L y).length * b ≤ room∧(L y).length ≤ room))).bind fun _=>toT0 tb (L y)) (fun l=>(.vw 0 h.length (L y).length,h++[[.blk 0 l]]))|none=>.no) else .no
  | _=>.no)
 | .sarr n=>(match as with|[.ref id 0]=>if Nat.beq (tb.sz 99999) 0 then .ok (.vw 99999 id n) h else .no|_=>.no)
 | .b2v=>(match as with
  | [.vw _ id n]=>b2vT tb (hgetT h id) n h
  | _=>.no)
 | .mksl k b z=>(match as with
  | [x,y]=>(match imgT x,imgT y with
   | some p,some q=>.opth (chk (decide (p.2=q.2∧0 ≤ p.2∧p.2 * (b:Int) ≤ (room:Int)∧p.2 ≤ (room:Int)))) (fun _=>(.vw k h.length p.2.toNat,h++[[.blk k (repR p.2.toNat z)]]))
   | _,_=>.no)
  | _=>.no)
 | .call _ _=>.no
theorem yv2 {op:POp} {as:List AV} {h:Heap}:Snd tb op as h (.no:OR T):=trivial
theorem yv336 {op:POp} {as:List AV} {h:THeap T} {o:Option (TV T)} (hs:∀ v,o=some v->op.ev as (avH tb h)=some (av tb v,avH tb h)):Snd tb op as (avH tb h) (OR.ofV h o):=by
 cases o with
 | none=>exact yv2
 | some v=>exact hs v rfl
theorem yv387 {i:Int} {f:Nat->Option (TV T)}:∀ {n j:Nat} {l:List (Bool × TV T)},altO i f j n=some l->∀ c v,(c,v) ∈ l->c=true->∃ m:Nat,i=(m:Int)∧m < j + n∧f m=some v
 | 0,j,l,h,c,v,hm,hc=>by cases h;cases hm
 | n + 1,j,l,h,c,v,hm,hc=>by
  simp only [altO] at h
  obtain ⟨w,h1,h⟩:=yv3 h
  obtain ⟨l',h2,h⟩:=yv3 h
  cases h
  rcases List.mem_cons.1 hm with e|hm
  ·cases e
   exact ⟨j,by simpa using hc,by omega,h1⟩
  ·obtain ⟨m,a,b,d⟩:=yv387 h2 c v hm hc
   exact ⟨m,a,by omega,d⟩
theorem yv480 {op:POp} {as:List AV} {h:THeap T} {i:Int} {f:Nat->Option (TV T)} {n:Nat} (hs:∀ (m:Nat) v,i=(m:Int)->m < n->f m=some v->op.ev as (avH tb h)=some (av tb v,avH tb h)) :
 Snd tb op as (avH tb h) (OR.ofO h (altO i f 0 n)):=by
 cases hl:altO i f 0 n with
 | none=>exact yv2
 | some l =>
  intro c v hm hc
  obtain ⟨m,h1,h2,h3⟩:=yv387 hl c v hm hc
  exact hs m v h1 (by omega) h3
theorem yv364 {cs:List (TV T)} {off:Nat} {n:Option Nat} {v:TV T} (h:fldT cs off n=some v) :
 (match n with
  | none=>(nth (avL tb cs) off).map strip
  | some k=>if off + k ≤ (avL tb cs).length then some (.agg (yv26 (((avL tb cs).drop off).take k))) else none)=some (av tb v):=by
 cases n with
 | none =>
  obtain ⟨c,h1,h2⟩:=yv3 h
  cases h2
  simp only [yv478,h1,Option.map_some,yv86]
 | some m =>
  simp only [fldT] at h
  split at h
  ·rename_i hb
   cases h
   have:=Nat.le_of_ble_eq_true hb
   simp only [yv109,this,if_true,yv620,yv526,yv96,av]
  ·cases h
theorem yv760 (ok:tb.Ok) {k:Nat} {x:T k} {off:Nat} {n:Option Nat} {v:TV T} {h:THeap T} (hv:fldT (tb.rw k x) off n=some v):POp.ev (.load n) [.eref (tb.prow k x) off] (avH tb h)=some (av tb v,avH tb h):=by
 have e:=yv364 (tb:=tb) hv
 rw [rw_av ok] at e
 cases n with
 | none =>
  simp only [yv155,List.getElem?_map] at e
  simp only [POp.ev]
  cases hp:(tb.prow k x)[off]? with
  | none=>simp [hp] at e
  | some p=>simp only [hp,Option.map_some,Option.some.injEq] at e ⊢;rw [← e];rfl
 | some m =>
  simp only [List.length_map] at e
  simp only [POp.ev]
  split at e
  ·rename_i hle
   rw [if_pos hle]
   simp only [Option.some.injEq] at e ⊢
   rw [← e]
   have:∀ l:List PV,yv26 (l.map AV.pv)=l.map AV.pv:=by
    intro l;induction l with
    | nil=>rfl
    | cons a l ih=>simp only [List.map_cons,yv26,ih];rfl
   rw [← List.map_drop,← List.map_take,this]
  ·cases e
theorem yv228 {α:Type} {op:POp} {x:AV} {lo hi:Bool} {n:Int} {is:List (TV T)} {f:Int->Int->Option α} {g:α->TV T} {z:TV T} {h:THeap T}
 (h2:∀ k k' a b r,f a b=some r->lo=true->hi=true->op.ev [x,.i k a,.i k' b] (avH tb h)=some (av tb (g r),avH tb h))
 (h1:∀ k a r,f a n=some r->lo=true->hi=false->op.ev [x,.i k a] (avH tb h)=some (av tb (g r),avH tb h))
 (hh:∀ k b r,f 0 b=some r->lo=false->hi=true->op.ev [x,.i k b] (avH tb h)=some (av tb (g r),avH tb h))
 (h0:lo=false->hi=false->op.ev [x] (avH tb h)=some (av tb z,avH tb h)):Snd tb op (x::avL tb is) (avH tb h) (yv520 lo hi n is f g z h):=by
 unfold yv520
 split
 ·split
  ·rename_i p q hp hq
   obtain ⟨k,e,_⟩:=yv53 (tb:=tb) hp
   obtain ⟨k',e',_⟩:=yv53 (tb:=tb) hq
   simp only [avL,e,e']
   exact fun r hr=>h2 k k' _ _ r hr rfl rfl
  ·exact yv2
 ·split
  ·rename_i p hp
   obtain ⟨k,e,_⟩:=yv53 (tb:=tb) hp
   simp only [avL,e]
   exact fun r hr=>h1 k _ r hr rfl rfl
  ·exact yv2
 ·split
  ·rename_i p hp
   obtain ⟨k,e,_⟩:=yv53 (tb:=tb) hp
   simp only [avL,e]
   exact fun r hr=>hh k _ r hr rfl rfl
  ·exact yv2
 ·exact h0 rfl rfl
 ·exact yv2
theorem yv392:∀ {offs:List (Nat × Nat)} {cs as ds:List (TV T)},yv544 cs offs as=some ds->yv173 (avL tb cs) offs (avL tb as)=some (avL tb ds)
 | [],cs,[],ds,h=>by cases h;rfl
 | [],cs,_::_,ds,h=>by cases h
 | _::_,cs,[],ds,h=>by cases h
 | (off,sz)::offs,cs,a::as,ds,h=>by
  simp only [yv544] at h
  split at h
  ·rename_i hc
   simp only [Bool.and_eq_true] at hc
   obtain ⟨⟨h1,h2⟩,h3⟩:=hc
   have e2:=Nat.eq_of_beq_eq_true h2
   have e3:=Nat.le_of_ble_eq_true h3
   simp only [avL,yv173,yv86,yv145,yv71,yv109,h1,e2,e3,and_self,if_true,yv229]
   exact yv392 h
  ·cases h
theorem yv767 (l:List PV):pvs (l.map AV.pv)=some l:=by
 induction l with
 | nil=>rfl
 | cons p l ih=>simp [pvs,ih]
mutual
theorem yv774:∀ a:AV,strip (strip a)=strip a
 | .own _ _=>rfl
 | .agg cs=>by simp only [strip,yv525 cs]
 | .tup cs=>by simp only [strip,yv525 cs]
 | .pv _=>rfl|.ref _ _=>rfl|.eref _ _=>rfl|.view _ _ _ _=>rfl|.clo _ _ _=>rfl|.junk=>rfl
theorem yv525:∀ l:List AV,yv26 (yv26 l)=yv26 l
 | []=>rfl
 | a::l=>by simp only [yv26,yv774 a,yv525 l]
end
theorem pcells_of' {x:AV} {row:List PV} (h:cellsOf (strip x)=row.map AV.pv):yv253 x=some row:=by
 unfold yv253
 have h2:=yv774 x
 generalize strip x=y at h h2 ⊢
 have one:∀ {p:AV},[p]=row.map AV.pv->∃ q,p=.pv q∧row=[q]:=by
  intro p h
  cases row with
  | nil=>simp at h
  | cons q row =>
   cases row with
   | nil=>simp at h;exact ⟨q,h,rfl⟩
   | cons=>simp at h
 cases y with
 | agg cs =>
  simp only [cellsOf] at h
  simp only [strip,AV.agg.injEq] at h2
  rw [h2] at h
  simp only [h,yv767]
 | pv p=>obtain ⟨q,h3,h4⟩:=one h;cases h3;subst h4;rfl
 | own=>obtain ⟨q,h3,h4⟩:=one h;cases h3
 | ref=>obtain ⟨q,h3,h4⟩:=one h;cases h3
 | eref=>obtain ⟨q,h3,h4⟩:=one h;cases h3
 | view=>obtain ⟨q,h3,h4⟩:=one h;cases h3
 | tup=>obtain ⟨q,h3,h4⟩:=one h;cases h3
 | clo=>obtain ⟨q,h3,h4⟩:=one h;cases h3
 | junk=>obtain ⟨q,h3,h4⟩:=one h;cases h3
theorem yv590 {a:TV T} {row:List PV} (h:avL tb (yv61 (yv43 a))=row.map AV.pv):yv253 (av tb a)=some row:=by
 rw [← yv145,← yv86] at h
 exact pcells_of' h
theorem yv298:∀ (l:List (List PV)) (i:Nat) (r:List PV),setRow l i r=setR l i r
 | [],i,r=>rfl
 | x::l,0,r=>rfl
 | x::l,n + 1,r=>by simp only [setRow,setR,yv298 l n r]
theorem yv715 {α:Type}:∀ (l:List α) (i:Nat) (r:α),(setR l i r).length=l.length
 | [],i,r=>rfl
 | x::l,0,r=>rfl
 | x::l,n + 1,r=>by simp [setR,yv715 l n r]
theorem rep_R {α:Type} (n:Nat) (a:α):repR n a=List.replicate n a:=by
 induction n with
 | zero=>rfl
 | succ n ih=>simp [repR,ih,List.replicate_succ]
theorem yv167 {α β:Type} (f:α->β):∀ (l:List α) (i:Nat) (r:α),(setR l i r).map f=setR (l.map f) i (f r)
 | [],i,r=>rfl
 | x::l,0,r=>rfl
 | x::l,n + 1,r=>by simp [setR,yv167 f l n r]
theorem yv512 (ok:tb.Ok) {k:Nat}:∀ {idx:List Nat} {rows l:List (T k)} {as:List (TV T)},rowsT tb k rows idx as=some l->rowsL (tb.sz k) (rows.map (tb.prow k)) idx (avL tb as)=some (l.map (tb.prow k))
 | [],rows,l,[],h=>by cases h;rfl
 | [],rows,l,_::_,h=>by cases h
 | _::_,rows,l,[],h=>by cases h
 | i::is,rows,l,a::as,h=>by
  simp only [rowsT] at h
  obtain ⟨x,h1,h⟩:=yv3 h
  split at h
  ·rename_i hlt
   have hlt:i < rows.length:=Nat.le_of_ble_eq_true hlt
   have hp:=yv590 (tb:=tb) (yv585 ok h1)
   have hl:(tb.prow k x).length=tb.sz k:=by
    rw [ok.row]
    have:∀ (l:List Tm) (y:tyA T l),(pvAL tb l y).length=l.length:=by
     intro l;induction l with
     | nil=>intro y;rfl
     | cons a l ih=>intro y;simp [pvAL,ih]
    exact this _ _
   simp only [avL,rowsL,hp,hl,List.length_map,hlt,and_self,if_true,yv298]
   rw [← yv167]
   exact yv512 ok h
  ·cases h
theorem yv344:∀ {idx:List Nat} {rows l:List UInt8} {as:List (TV T)},rowsB rows idx as=some l->rowsL 1 (rows.map yv5) idx (avL tb as)=some (l.map yv5)
 | [],rows,l,[],h=>by cases h;rfl
 | [],rows,l,_::_,h=>by cases h
 | _::_,rows,l,[],h=>by cases h
 | i::is,rows,l,a::as,h=>by
  cases a<;>simp only [rowsB] at h<;>try cases h
  rename_i x
  split at h
  ·rename_i hlt
   have hlt:i < rows.length:=Nat.le_of_ble_eq_true hlt
   have hp:yv253 (av tb (.u8 x:TV T))=some (yv5 x):=rfl
   have hl:(yv5 x).length=1:=rfl
   simp only [avL,rowsL,hp,hl,List.length_map,hlt,and_self,if_true,yv298]
   rw [← yv167]
   exact yv344 h
  ·cases h
theorem yv718 {k:Nat} {v:TV T} {y:Option (List (T k))} (h:srcT k v=some y):av tb v=oS (tb.sz k) (tb.prow k) y∨av tb v=oA (tb.sz k) (tb.prow k) y:=by
 unfold srcT at h
 split at h
 ·split at h
  ·rename_i hk;subst hk;cases h;exact .inl rfl
  ·cases h
 ·split at h
  ·rename_i hk;subst hk;cases h;exact .inr rfl
  ·cases h
 ·cases h;exact .inl rfl
 ·cases h
theorem yv521 {v:TV T} {y:Option (List UInt8)} (h:srcB v=some y):av tb v=oS 1 yv5 y∨av tb v=oA 1 yv5 y:=by
 unfold srcB at h
 split at h
 ·cases h;exact .inl rfl
 ·cases h;exact .inr rfl
 ·cases h;exact .inl rfl
 ·cases h
theorem yv311 {α:Type} {z n:Nat} {row:α->List PV} {x y r:Option (List α)} {v:AV} {h:Heap} (hv:v=oS z row y∨v=oA z row y) (hr:appO n x y=some r):POp.ev (.app z n) [oA z row x,v] h=some (oA z row r,h):=by
 rcases hv with rfl|rfl
 ·exact yv552 hr
 ·exact yv551 hr
theorem yv657 {k k':IntKind} {x:Int} {h:Heap}:POp.ev (.cint k) [.i k' x] h=some (av tb (cintT k x:TV T),h):=by
 cases k<;>first
  | exact yv407
  | exact yv361
  | exact yv362
  | exact yv363
  | rfl
theorem yv680 {o:Option AV} {v:AV} {h:Heap} (e:o.map strip=some v):(o.map fun c=>(strip c,h))=some (v,h):=by
 cases o with
 | none=>cases e
 | some c=>simp only [Option.map_some,Option.some.injEq] at e ⊢;rw [e]
theorem yv797 {s:List UInt8} {h:Heap}:POp.ev (.sstr false false) [As s] h=some (As s,h):=by
 simp only [POp.ev,AV.s,yv50,Option.map_some,yv572,yv199];simp
theorem dec8 (x y:UInt8):((x.toNat:Int) == (y.toNat:Int))=decide (x=y):=by
 rw [Bool.eq_iff_iff];simp [← UInt8.toNat_inj];omega
theorem dec16 (x y:UInt16):((x.toNat:Int) == (y.toNat:Int))=decide (x=y):=by
 rw [Bool.eq_iff_iff];simp [← UInt16.toNat_inj];omega
theorem dec32 (x y:UInt32):((x.toNat:Int) == (y.toNat:Int))=decide (x=y):=by
 rw [Bool.eq_iff_iff];simp [← UInt32.toNat_inj];omega
theorem dec64 (x y:UInt64):((x.toNat:Int) == (y.toNat:Int))=decide (x=y):=by
 rw [Bool.eq_iff_iff];simp [← UInt64.toNat_inj];omega
theorem yv734 {t:ET} {a b:TV T} {q:Bool} (h:atomT t a b=some q):yv58 t (av tb a) (av tb b)=some q:=by
 unfold atomT at h
 split at h<;>first
  | (cases h;done)
  | (cases h;simp only [av,AV.i,AV.b,AV.s,yv58,if_true,dec8,dec16,dec32,dec64];done)
  | (split at h
     ·rename_i hk;subst hk;cases h
      simp only [av,AV.i,yv58,if_true]
      rename_i x y
      rw [show (x == y)=decide (x=y) by rw [Bool.eq_iff_iff];simp]
     ·cases h)
  | (cases h
     simp only [av,AV.s,yv58]
     rename_i x y
     congr 1
     rw [Bool.eq_iff_iff]
     simp)
theorem yv790:∀ {ts:List ET} {as bs:List (TV T)} {q:Bool},eqT ts as bs=some q->yv15 ts (avL tb as) (avL tb bs)=some q:=by
 intro ts
 induction ts with
 | nil =>
  intro as bs q h
  cases as<;>cases bs<;>simp [eqT] at h
  subst h;rfl
 | cons t ts ih =>
  intro as bs q h
  cases as with
  | nil=>cases bs<;>simp [eqT] at h
  | cons a as =>
   cases bs with
   | nil=>simp [eqT] at h
   | cons b bs =>
    have gen:(atomT t a b).bind (fun r=>(eqT ts as bs).bind fun q=>some (r && q))=some q->yv15 (t::ts) (avL tb (a::as)) (avL tb (b::bs))=some q:=by
     intro h
     obtain ⟨r,h1,h⟩:=yv3 h
     obtain ⟨q',h2,h⟩:=yv3 h
     cases h
     simp only [avL,yv15,yv734 h1]
     cases r with
     | true=>simp only [Bool.true_and];exact ih h2
     | false=>simp
    cases ts with
    | nil =>
     cases as with
     | nil =>
      cases bs with
      | nil =>
       refine gen ?_
       simp only [eqT] at h
       rw [h];simp [eqT]
      | cons=>simp [eqT] at h
     | cons=>cases bs<;>simp [eqT] at h
    | cons t2 ts=>exact gen (by simpa [eqT] using h)
theorem yv158 (ok:tb.Ok) (k:Nat) (x:T k):(tb.prow k x).length=tb.sz k:=by
 rw [ok.row]
 have:∀ (l:List Tm) (y:tyA T l),(pvAL tb l y).length=l.length:=by
  intro l;induction l with
  | nil=>intro y;rfl
  | cons a l ih=>intro y;simp [pvAL,ih]
 exact this _ _
theorem rw_sz (ok:tb.Ok) (k:Nat) (x:T k):(tb.rw k x).length=tb.sz k:=by rw [← yv698 ok,yv158 ok]
theorem yv150 {α:Type} {sz:Nat}:∀ {rows:List (List α)} {i off m:Nat} {r:List α},(∀ r ∈ rows,r.length=sz)->rows[i]?=some r->off + m ≤ sz ->
 i * sz + off + m ≤ rows.flatten.length∧(rows.flatten.drop (i * sz + off)).take m=(r.drop off).take m
 | [],i,off,m,r,_,h,_=>by simp at h
 | x::rows,0,off,m,r,hs,h,hm=>by
  simp at h;subst h
  have hx:=hs x (by simp)
  simp only [List.flatten_cons,Nat.zero_mul,Nat.zero_add,List.length_append]
  refine ⟨by omega,?_⟩
  rw [List.drop_append_of_le_length (by omega),List.take_append_of_le_length (by simp;omega)]
 | x::rows,i + 1,off,m,r,hs,h,hm=>by
  simp at h
  have hx:=hs x (by simp)
  obtain ⟨a,b⟩:=yv150 (fun r hr=>hs r (by simp [hr])) h hm
  simp only [List.flatten_cons,List.length_append,Nat.add_mul,Nat.one_mul]
  refine ⟨by omega,?_⟩
  rw [← b,List.drop_append,List.drop_of_length_le (by omega),List.nil_append]
  congr 2
  omega
theorem yv461 {α:Type} {sz:Nat}:∀ {rows:List (List α)} {i off:Nat} {r cs:List α},(∀ r ∈ rows,r.length=sz)->rows[i]?=some r->off + cs.length ≤ sz ->
 rows.flatten.take (i * sz + off)++cs++rows.flatten.drop (i * sz + off + cs.length)=(setR rows i (r.take off++cs++r.drop (off + cs.length))).flatten
 | [],i,off,r,cs,_,h,_=>by simp at h
 | x::rows,0,off,r,cs,hs,h,hm=>by
  simp at h;subst h
  have hx:=hs x (by simp)
  simp only [List.flatten_cons,Nat.zero_mul,Nat.zero_add,setR]
  rw [List.take_append_of_le_length (by omega),List.drop_append_of_le_length (by omega)]
  simp
 | x::rows,i + 1,off,r,cs,hs,h,hm=>by
  simp at h
  have hx:=hs x (by simp)
  have ih:=yv461 (fun r hr=>hs r (by simp [hr])) h hm
  simp only [List.flatten_cons,setR]
  rw [← ih]
  rw [List.take_append,List.drop_append,List.take_of_length_le (by rw [Nat.add_mul];omega),List.drop_of_length_le (by rw [Nat.add_mul];omega)]
  rw [show (i + 1) * sz + off - x.length=i * sz + off by rw [Nat.add_mul];omega,show (i + 1) * sz + off + cs.length - x.length=i * sz + off + cs.length by rw [Nat.add_mul];omega]
  simp
theorem yv669 {cs:List (TV T)} {off:Nat} {n:Option Nat} (h:inB off n cs.length=true):∃ v,fldT cs off n=some v:=by
 cases n with
 | none =>
  have hlt:off < cs.length:=Nat.le_of_ble_eq_true h
  have:∀ (l:List (TV T)) (i:Nat),i < l.length->∃ v,nthT l i=some v:=by
   intro l;induction l with
   | nil=>intro i h;simp at h
   | cons a l ih =>
    intro i h
    cases i with
    | zero=>exact ⟨a,rfl⟩
    | succ i=>exact ih i (by simpa using h)
  obtain ⟨v,hv⟩:=this cs off hlt
  exact ⟨yv43 v,by simp only [fldT,hv,Option.bind_some]⟩
 | some m =>
  simp only [inB] at h
  exact ⟨_,by simp only [fldT];rw [if_pos h]⟩
theorem yv758 {α:Type} {l:List α} {i:Int} {x:α} (h:ix l i=some x):l[i.toNat]?=some x:=by
 simp only [ix] at h
 split at h
 ·exact h
 ·cases h
theorem yv165 (ok:tb.Ok) {k:Nat} (l:List (T k)):∀ r ∈ l.map (tb.prow k),r.length=tb.sz k:=by
 intro r hr
 simp only [List.mem_map] at hr
 obtain ⟨x,_,rfl⟩:=hr
 exact yv158 ok k x
theorem yv759 (ok:tb.Ok) {k id off:Nat} {n:Option Nat} {i:Int} {h:THeap T}:Snd tb (.load n) [.ref id (i.toNat * tb.sz k + off)] (avH tb h) (ldB tb k off n i (hgetT h id) h):=by
 unfold ldB
 split
 case h_2=>exact yv2
 rename_i k' l hg
 split
 case isFalse=>exact yv2
 rename_i hk
 subst hk
 split
 case isFalse=>exact yv2
 rename_i hb
 intro x hx
 have hx:=yv758 hx
 have e:hget (avH tb h) id=((l.map (tb.prow k')).flatten).map AV.pv:=by rw [yv91,hg];rfl
 obtain ⟨v,hv⟩:=yv669 (cs:=tb.rw k' x) (by rw [rw_sz ok];exact hb)
 have e2:=yv364 (tb:=tb) hv
 rw [rw_av ok] at e2
 simp only [hv,Option.getD_some]
 have hr:(l.map (tb.prow k'))[i.toNat]?=some (tb.prow k' x):=by simp [hx]
 simp only [POp.ev,e]
 cases n with
 | none =>
  have hlt:off < tb.sz k':=Nat.le_of_ble_eq_true hb
  have hlt':off < (tb.prow k' x).length:=by rw [yv158 ok];exact hlt
  have hc:(tb.prow k' x)[off]?=some ((tb.prow k' x)[off]'hlt'):=List.getElem?_eq_getElem hlt'
  have h3:=yv210 (yv165 ok l) hr hc
  simp only [yv155,List.getElem?_map,hc,h3] at e2 ⊢
  simp only [Option.map_some,Option.some.injEq] at e2 ⊢
  rw [e2]
 | some m =>
  have hle:off + m ≤ tb.sz k':=Nat.le_of_ble_eq_true hb
  obtain ⟨h3,h4⟩:=yv150 (yv165 ok l) hr hle
  have hl2:(tb.prow k' x).length=tb.sz k':=yv158 ok k' x
  simp only [List.length_map,hl2,hle,if_true,Option.some.injEq] at e2
  simp only [List.length_map,h3,if_true]
  rw [← e2,← List.map_drop,← List.map_take,h4,← List.map_drop,← List.map_take]
theorem yv773 (ok:tb.Ok) {k id off n:Nat} {i:Int} {a:TV T} {h:THeap T}:Snd tb (.store n) [.ref id (i.toNat * tb.sz k + off),av tb a] (avH tb h) (stB tb k id off n i a (hgetT h id) h):=by
 unfold stB
 split
 case h_2=>exact yv2
 rename_i k' l hg
 split
 case isFalse=>exact yv2
 rename_i hk
 subst hk
 split
 case isFalse=>exact yv2
 rename_i hc
 simp only [Bool.and_eq_true] at hc
 obtain ⟨⟨h1,h2⟩,h3⟩:=hc
 have h2:=Nat.eq_of_beq_eq_true h2
 have h3:=Nat.le_of_ble_eq_true h3
 intro y hy
 obtain ⟨x,hx,hm⟩:=yv3 hy
 have hx:=yv758 hx
 have e:hget (avH tb h) id=((l.map (tb.prow k')).flatten).map AV.pv:=by rw [yv91,hg];rfl
 have hr:(l.map (tb.prow k'))[i.toNat]?=some (tb.prow k' x):=by simp [hx]
 have hle:=(yv150 (m:=n) (yv165 ok l) hr h3).1
 have hm2:=yv585 ok hm
 rw [← yv229,rw_av ok] at hm2
 have hnb:nb [(.blk k' (setR l i.toNat y):TV T)]=false:=rfl
 simp only [POp.ev]
 rw [yv71,yv145,yv109,e,List.length_map,if_pos ⟨h1,h2,hle⟩]
 have hgoal:hset (avH tb h) id (yv94 (((l.map (tb.prow k')).flatten).map AV.pv) (i.toNat * tb.sz k' + off) (avL tb (yv61 a)))=avH tb (hsetT h id [.blk k' (setR l i.toNat y)]):=by
  rw [← yv189]
  congr 1
  show _=((setR l i.toNat y).map (tb.prow k')).flatten.map AV.pv
  have hl:off + (avL tb (yv61 a)).length ≤ tb.sz k':=by rw [yv109,h2];exact h3
  have q:=yv461 (rows:=(l.map (tb.prow k')).map (List.map AV.pv)) (i:=i.toNat) (off:=off) (r:=(tb.prow k' x).map AV.pv) (cs:=avL tb (yv61 a)) (sz:=tb.sz k') (fun r hr=>by
   simp only [List.mem_map] at hr
   obtain ⟨_,⟨z,_,rfl⟩,rfl⟩:=hr
   rw [List.length_map,yv158 ok]) (by simp [hx]) hl
  have f1:((l.map (tb.prow k')).map (List.map AV.pv)).flatten=((l.map (tb.prow k')).flatten).map AV.pv:=by rw [List.map_flatten]
  rw [f1] at q
  simp only [yv94] at hm2 ⊢
  rw [q,hm2,yv167,List.map_flatten,yv167]
 rw [hgoal]
 rfl
theorem yv705 (n:Nat) (r:List PV):rep n (r.map AV.pv)=(List.replicate n r).flatten.map AV.pv:=by
 simp only [rep]
 rw [List.map_flatten,List.map_replicate]
theorem yv313:∀ {cs:List (TV T)} {l:List UInt8},yv545 cs=some l->yv144 (avL tb cs)=some l
 | [],l,h=>by cases h;rfl
 | c::cs,l,h=>by
  unfold yv545 at h
  split at h
  ·rename_i e;cases e
  ·rename_i x l' e
   cases e
   obtain ⟨r,h1,h2⟩:=yv3 h
   cases h2
   simp only [avL,av,AV.i,yv144,yv313 h1,Option.map_some,Int.toNat_natCast,UInt8.ofNat_toNat]
  ·cases h
theorem yv719 {k:Nat} {v:TV T} {y:Option (List (T k))} (h:srcT k v=some y):yv93 (tb.sz k) (av tb v)=some ((L y).map (tb.prow k)):=by
 rcases yv718 (tb:=tb) h with e|e<;>rw [e]<;>cases y<;>simp [oS,oP,oA,yv93,L,AV.nilS]
theorem yv621 (ok:tb.Ok) (op:TOp T) (as:List (TV T)) (h:THeap T):Snd tb (erO tb op) (avL tb as) (avH tb h) (evR tb op as h):=by
 cases op with
 | bin o t=>simp only [evR];split;exact yv735;exact yv2
 | call f i=>exact yv2
 | mv=>simp only [evR];split;exact rfl;exact yv2
 | pick=>simp only [evR];split;exact rfl;exact rfl;exact yv2
 | alloc zs =>
  simp only [evR];split
  ·split
   ·rename_i hn
    simp only [OR.all,erO,avL]
    exact yv663 (by simp [avH]) (by simp [avH,yv172 hn])
   ·exact yv2
  ·exact yv2
 | box =>
  simp only [evR];split
  ·split
   ·rename_i a hn
    simp only [Bool.and_eq_true] at hn
    simp only [OR.all,erO,avL]
    exact yv792 (by simp [avH]) (by rw [yv71];exact hn.1) (by rw [yv86,yv145]) (by simp [avH,yv172 hn.2])
   ·exact yv2
  ·exact yv2
 | mkf f nf =>
  simp only [evR];split
  ·rename_i hall
   have h2:(avL tb as).all isR0=true:=by
    rw [yv56,List.all_map,List.all_eq_true]
    intro x hx
    exact yv754 (List.all_eq_true.1 hall x hx)
   show POp.ev (.mkf (.func f) nf) (avL tb as) (avH tb h)=some (av tb (.clo f (as.take nf) (as.drop nf)),avH tb h)
   simp only [POp.ev]
   rw [if_pos h2]
   simp only [av,yv56,List.map_take,List.map_drop]
  ·exact yv2
 | build zs offs =>
  simp only [evR];split
  ·rename_i cs hb;exact yv791 (yv392 hb)
  ·exact yv2
 | bslice k n z idx =>
  simp only [evR];split
  ·rename_i l hl
   have:=yv512 ok hl
   rw [rep_R,List.map_replicate] at this
   simp only [OR.all,erO,POp.ev,this,Option.map_some]
   rfl
  ·exact yv2
 | b8 n idx =>
  simp only [evR];split
  ·rename_i l hl
   have:=yv344 (tb:=tb) hl
   rw [rep_R,List.map_replicate] at this
   simp only [OR.all,erO,POp.ev,this,Option.map_some]
   rfl
  ·exact yv2
 | load n =>
  simp only [evR];split
  ·rename_i id off
   split
   ·rename_i hnb
    refine yv336 fun v hv=>?_
    have:=yv364 (tb:=tb) hv
    simp only [erO,avL,av,POp.ev,yv151 hnb]
    cases n with
    | none=>exact yv680 this
    | some m=>simp only at this ⊢;split at this<;>rename_i hle<;>simp only [hle,if_true,if_false]<;>simp at this ⊢;exact this
   ·exact yv2
  ·exact yv759 ok
  ·split
   ·exact rfl
   ·exact yv2
  ·exact yv336 fun v hv=>yv760 ok hv
  ·exact yv2
 | loadm =>
  simp only [evR];split
  ·split
   ·rename_i id off c hc
    split
    ·rename_i hn
     simp only [Bool.and_eq_true] at hn
     refine yv794 ?_ ?_
     ·rw [yv151 hn.1,yv478,hc];rfl
     ·rw [yv151 hn.1]
      have:AV.junk=av tb (.junk:TV T):=rfl
      rw [this,yv227,yv626 hn.2]
    ·exact yv2
   ·exact yv2
  ·exact yv2
 | store n =>
  simp only [evR];split
  ·split
   ·rename_i id off a hc
    simp only [Bool.and_eq_true] at hc
    obtain ⟨⟨⟨⟨h1,h2⟩,h3⟩,h4⟩,h5⟩:=hc
    exact yv801 (by rw [yv71];exact h1) (yv145 a) (by rw [yv109];exact h2) (by rw [yv151 h4,yv109];exact h3) (by rw [yv151 h4,yv229,yv626 h5])
   ·exact yv2
  ·exact yv773 ok
  ·exact yv2
 | nilck=>simp only [evR];split;exact rfl;exact rfl;exact rfl;exact rfl;exact yv2
 | eqs neg ts =>
  simp only [evR];split
  ·split
   ·rename_i cs ds q hq
    simp only [OR.all,erO,avL,av,POp.ev,yv790 hq,Option.map_some]
   ·exact yv2
  ·exact yv2
 | un o=>simp only [evR];split;exact rfl;exact rfl;exact yv2
 | cint k =>
  simp only [evR];split
  ·split
   ·rename_i p hp
    obtain ⟨k',e,_⟩:=yv53 (tb:=tb) hp
    simp only [OR.all,erO,avL,e]
    exact yv657
   ·exact yv2
  ·exact yv2
 | s2b=>simp only [evR];split;exact fun r hr=>yv795 hr;exact yv2
 | b2s=>simp only [evR];split;exact yv665;exact yv664;exact yv2
 | cid=>simp only [evR];split;exact rfl;exact yv2
 | sstr lo hi =>
  simp only [evR];split
  ·refine yv228 ?_ ?_ ?_ ?_
   ·rintro k k' a b r hr rfl rfl;exact yv799 hr
   ·rintro k a r hr rfl rfl;exact yv798 hr
   ·rintro k a r hr rfl rfl;exact yv800 hr
   ·rintro rfl rfl
    exact yv797
  ·exact yv2
 | ssl sz lo hi =>
  simp only [evR];split
  ·split
   ·rename_i hz;subst hz
    refine yv228 ?_ ?_ ?_ ?_
    ·rintro k k' a b r hr rfl rfl;exact yv745 hr
    ·rintro k a r hr rfl rfl;exact yv744 hr
    ·rintro k a r hr rfl rfl;exact yv746 hr
    ·rintro rfl rfl;exact yv743
   ·exact yv2
  ·split
   ·rename_i hz;subst hz
    refine yv228 ?_ ?_ ?_ ?_
    ·rintro k k' a b r hr rfl rfl;exact yv745 hr
    ·rintro k a r hr rfl rfl;exact yv744 hr
    ·rintro k a r hr rfl rfl;exact yv746 hr
    ·rintro rfl rfl;exact yv743
   ·exact yv2
  ·exact yv2
 | fa off =>
  simp only [evR];split
  ·exact rfl
  ·exact rfl
  ·rename_i k id i o
   simp only [OR.all,erO,avL,av,POp.ev,Nat.add_assoc]
  ·exact yv2
 | fld off n =>
  simp only [evR];split
  ·refine yv336 fun v hv=>?_
   have:=yv364 (tb:=tb) hv
   simp only [erO,avL,av,POp.ev]
   cases n with
   | none=>exact yv680 this
   | some m=>simp only at this ⊢;split at this<;>rename_i hle<;>simp only [hle,if_true,if_false]<;>simp at this ⊢;exact this
  ·exact yv2
 | ia sz =>
  simp only [evR];split
  ·split
   ·split
    ·rename_i p hp hz;subst hz
     obtain ⟨k',e,_⟩:=yv53 (tb:=tb) hp
     simp only [OR.all,erO,avL,e]
     exact fun x hx=>yv623 hx
    ·exact yv2
   ·exact yv2
  ·split
   ·split
    ·rename_i p hp hz;subst hz
     obtain ⟨k',e,_⟩:=yv53 (tb:=tb) hp
     simp only [OR.all,erO,avL,e]
     exact fun x hx=>yv623 hx
    ·exact yv2
   ·exact yv2
  ·split
   ·split
    ·rename_i k id n _ _ p hp hz
     subst hz
     obtain ⟨k',e,_⟩:=yv53 (tb:=tb) hp
     intro _ hc
     have hc:=of_decide_eq_true (yv30 hc)
     simp only [erO,avL,e,av,AV.i,POp.ev]
     rw [if_pos hc]
     simp
    ·exact yv2
   ·exact yv2
  ·exact yv2
 | iarr n sz =>
  simp only [evR];split
  ·split
   ·rename_i p hp
    obtain ⟨k',e,_⟩:=yv53 (tb:=tb) hp
    refine yv480 fun m v hi hm hf=>?_
    cases hf
    simp only [erO,avL,e,hi,AV.i,av,POp.ev]
    rw [if_pos ⟨by omega,by omega⟩]
    simp
   ·exact yv2
  ·split
   ·rename_i p hp
    obtain ⟨k',e,_⟩:=yv53 (tb:=tb) hp
    refine yv480 fun m v hi hm hf=>?_
    cases hf
    simp only [erO,avL,e,hi,AV.i,av,POp.ev]
    rw [if_pos ⟨by omega,by omega⟩]
    simp
   ·exact yv2
  ·exact yv2
 | sidx =>
  simp only [evR];split
  ·split
   ·rename_i p hp
    obtain ⟨k',e,_⟩:=yv53 (tb:=tb) hp
    simp only [OR.all,erO,avL,e]
    exact fun x hx=>yv796 hx
   ·exact yv2
  ·exact yv2
 | aidx n sz m =>
  simp only [evR];split
  ·split
   ·rename_i p hp
    obtain ⟨k',e,_⟩:=yv53 (tb:=tb) hp
    refine yv480 fun j v hi hm hf=>?_
    have:=yv364 (tb:=tb) hf
    simp only [erO,avL,e,hi,AV.i,av,POp.ev]
    rw [if_pos ⟨by omega,by omega⟩]
    simp only [Int.toNat_natCast]
    cases m with
    | none=>exact yv680 this
    | some q=>simp only at this ⊢;split at this<;>rename_i hle<;>simp only [hle,if_true,if_false]<;>simp at this ⊢;exact this
   ·exact yv2
  ·exact yv2
 | ext i =>
  simp only [evR];split
  ·refine yv336 fun v hv=>?_
   simp only [erO,avL,av,POp.ev,yv478,hv,Option.map_some]
  ·exact yv2
 | extm =>
  simp only [evR];split
  ·split
   ·rename_i a hn
    simp only [OR.all,erO,avL,POp.ev]
    have:=yv71 (tb:=tb) a
    rw [hn] at this
    generalize av tb a=x at this ⊢
    cases x<;>first|rfl|cases this
   ·exact yv2
  ·exact yv2
 | len=>simp only [evR];split;exact yv418;exact yv417;exact yv418;exact yv417;exact rfl;exact rfl;exact yv2
 | lens=>simp only [evR];split;exact yv556;exact yv2
 | min=>simp only [evR];split;exact rfl;exact yv560;exact yv428;exact yv429;exact yv430;exact yv2
 | max=>simp only [evR];split;exact rfl;exact yv559;exact yv425;exact yv426;exact yv427;exact yv2
 | app sz n =>
  simp only [evR];split
  ·split
   ·split
    ·rename_i hs hz;subst hz;exact fun r hr=>yv311 (yv718 hs) hr
    ·exact yv2
   ·exact yv2
  ·split
   ·split
    ·rename_i hs hz;subst hz;exact fun r hr=>yv311 (x:=none) (yv718 hs) hr
    ·exact yv2
   ·exact yv2
  ·split
   ·split
    ·rename_i hs hz;subst hz;exact fun r hr=>yv311 (yv521 hs) hr
    ·exact yv2
   ·exact yv2
  ·split
   ·split
    ·rename_i hs hz;subst hz;exact fun r hr=>yv311 (x:=none) (yv521 hs) hr
    ·exact yv2
   ·exact yv2
  ·exact yv2
 | appv k b =>
  simp only [evR];split
  ·split
   ·rename_i hk
    subst hk
    split
    ·rename_i y hs
     intro _ hc
     have hc:=of_decide_eq_true (yv30 hc)
     have e:(avH tb h).length=h.length:=by simp [avH]
     have hr:=yv719 (tb:=tb) hs
     simp only [erO,avL,av,oA,List.map_nil,POp.ev,hr,e,List.length_map]
     rw [if_pos ⟨trivial,hc.1,hc.2⟩]
     simp only [avH,List.map_append,List.map_cons,List.map_nil,avO]
    ·exact yv2
   ·exact yv2
  ·split
   ·rename_i hk
    subst hk
    split
    ·rename_i y hs
     intro l hl
     obtain ⟨_,hc,hl⟩:=yv3 hl
     have hc:=of_decide_eq_true (yv30 hc)
     have e:(avH tb h).length=h.length:=by simp [avH]
     have e1:tb.sz 0=1:=by simp only [Tab.sz,ok.z8];rfl
     have hr:∀ {v:AV},(v=oS 1 yv5 y∨v=oA 1 yv5 y)->yv93 1 v=some ((L y).map yv5):=by
      intro v hv
      rcases hv with rfl|rfl<;>cases y<;>rfl
     have hr:=hr (yv521 (tb:=tb) hs)
     have hm:=yv650 ok hl
     simp only [erO,avL,av,oA,List.map_nil,POp.ev,e1,hr,e,List.length_map]
     rw [if_pos ⟨trivial,hc.1,hc.2⟩]
     simp only [avH,List.map_append,List.map_cons,List.map_nil,avO,hm]
    ·exact yv2
   ·exact yv2
  ·exact yv2
 | sarr n =>
  simp only [evR];split
  ·split
   ·rename_i hz
    simp only [OR.all,erO,avL,av,POp.ev,Nat.eq_of_beq_eq_true hz]
   ·exact yv2
  ·exact yv2
 | b2v =>
  simp only [evR];split
  ·rename_i k0 id n
   unfold b2vT
   split
   ·rename_i l hl
    intro u hu
    have hle:n ≤ l.length:=of_decide_eq_true (yv30 hu)
    have hg:hget (avH tb h) id=((tb.b8 l).map yv5).flatten.map AV.pv:=by rw [yv91,hl,ok.b8];rfl
    have hlen:(((tb.b8 l).map yv5).flatten.map AV.pv).length=l.length:=by
     have e1:∀ x:List UInt8,(x.map yv5).flatten.length=x.length:=by
      intro x;induction x with
      | nil=>rfl
      | cons a x ih=>simp [yv5,ih]
     have e2:=congrArg List.length (ok.b8 l)
     rw [List.length_map,List.length_map] at e2
     rw [List.length_map,e1,e2]
    have hb:∀ (x:List UInt8) (n:Nat),yv144 (((x.map yv5).flatten.map AV.pv).take n)=some (x.take n):=by
     intro x
     induction x with
     | nil=>intro n;simp [yv144]
     | cons a x ih =>
      intro n
      cases n with
      | zero=>simp [yv144]
      | succ n =>
       have:=ih n
       simp only [List.map_cons,List.flatten_cons,yv5,List.cons_append,List.nil_append,List.take_succ_cons]
       simp only [yv144]
       rw [this]
       simp
    simp only [erO,avL,av,POp.ev,hg,List.drop_zero,Nat.zero_add]
    rw [if_pos (by rw [hlen];exact hle),hb]
    rfl
   ·split
    ·rename_i hc
     simp only [Bool.and_eq_true] at hc
     have hle:=Nat.le_of_ble_eq_true hc.2
     split
     ·rename_i l hl
      simp only [OR.all,erO,avL,av,POp.ev,yv151 hc.1,Nat.zero_add,yv109,List.drop_zero,yv526]
      rw [if_pos hle,yv313 hl]
      rfl
     ·exact yv2
    ·exact yv2
  ·exact yv2
 | mksl k b z =>
  simp only [evR];split
  ·split
   ·rename_i p q hp hq
    obtain ⟨k1,e1,_⟩:=yv53 (tb:=tb) hp
    obtain ⟨k2,e2,_⟩:=yv53 (tb:=tb) hq
    intro _ hc
    have hc:=of_decide_eq_true (yv30 hc)
    simp only [erO,avL,e1,e2,AV.i,av,POp.ev]
    rw [if_pos ⟨hc.1,hc.2.1,hc.2.2.1,hc.2.2.2,by rw [List.length_map,yv158 ok]⟩]
    have e:(avH tb h).length=h.length:=by simp [avH]
    simp only [e]
    congr 2
    simp only [avH,List.map_append,List.map_cons,List.map_nil,avO,yv705,rep_R,List.map_replicate]
   ·exact yv2
  ·exact yv2
 | apps=>simp only [evR];split;exact fun r hr=>yv622 hr;exact fun r hr=>yv622 (x:=none) hr;exact yv2
end Go.Rv
set_option maxHeartbeats 4000000
namespace Go.Rv
open Go.RowKit
variable {T:Nat->Type}
structure TSOp (T:Nat->Type) where
 op:TOp T
 args:List (TArg T)
 dst:Option Nat
 guard:Option (Nat × Bool)
structure Orc (T:Nat->Type):Type 1 where
 run:{ρ:Type}->List (TV T)->THeap T->(TV T->THeap T->Option ρ)->Option ρ
structure Cut (T:Nat->Type):Type 1 where
 run:{ρ:Type}->TSt T->(SExit->TSt T->Option ρ)->Option ρ
inductive TCode (T:Nat->Type):Type 1 where
 | skip
 | reg (ops:List (TSOp T)) (draw:Option (List (List Nat)))
 | seq (a b:TCode T)
 | cond (c:Nat) (a b:TCode T)
 | block (id:Nat) (b:TCode T)
 | loop (b:TCode T)
 | exit (id:Nat)
 | ret
 | drop (ts:List Nat) (c:TCode T)
 | cut (k:Nat) (o:Cut T) (c:TCode T)
 | fin (k:Nat) (o:Cut T) (c:TCode T)
 | frz (ts:List Nat) (n:Option Nat) (c:TCode T)
 | fend (n:Nat) (c:TCode T)
 | thw (t:Nat) (c:TCode T)
 | rng (t:Nat) (ps:List Nat) (a b:TCode T)
variable (tb:Tab T)
def erS (o:TSOp T):SOp:=⟨erO tb o.op,o.args.map (avArg tb),o.dst,o.guard⟩
def erC:TCode T->SCode
 | .skip=>.skip
 | .reg ops d=>.reg (ops.map (erS tb)) d
 | .seq a b=>.seq (erC a) (erC b)
 | .cond c a b=>.cond c (erC a) (erC b)
 | .block i b=>.block i (erC b)
 | .loop b=>.loop (erC b)
 | .exit i=>.exit i
 | .ret=>.ret
 | .drop ts c=>.drop ts (erC c)
 | .cut k _ c=>.weak k (erC c)
 | .fin k _ c=>.fin k (erC c)
 | .frz _ _ c=>.frzB (erC c)
 | .fend _ c=>.frzE (erC c)
 | .thw _ c=>.frzE (erC c)
 | .rng t ps a b=>.rng t ps (erC a) (erC b)
def putDT (e:TEnv T) (d:Option Nat) (a:TV T):TEnv T :=
 match d with
 | some t=>putT' e t a
 | none=>e
def rmDT (e:TEnv T) (d:Option Nat):TEnv T :=
 match d with
 | some t=>putT' e t (.tup [])
 | none=>e
def srtT:TEnv T->Bool
 | []=>true
 | [_]=>true
 | (k,_)::(j,y)::e=>decide (k < j) && srtT ((j,y)::e)
def yv475:TV T->Bool
 | .ow _ _=>false|.bo _=>false|_=>true
def isRaT:TV T->Bool
 | .agg cs=>cs.all yv475
 | a=>isR0T a
def yv394:Option Nat->List (TV T)->Option (Nat × List (TV T))
 | some f,as=>some (f,as)
 | none,.clo f fs cs::as=>if as.all isRaT then some (f,fs++(as++cs)) else none
 | none,_=>none
abbrev Orcs (T:Nat->Type):=List (Nat × Orc T)
def findO:Orcs T->Nat->Nat->Option (Orc T)
 | [],_,_=>none
 | (f,o)::_,0,g=>if Nat.beq f g then some o else none
 | _::l,n + 1,g=>findO l n g
def growT (l:List Nat) (r:TV T) (H':THeap T) (n:Nat):Option Nat :=
 if H'.length=l.length∧(refsT r).all (fun i=>decide (i < l.length))=true∧H'.all (fun ob=>(yv66 ob).all fun i=>decide (i < l.length))=true then none else some n
section
variable {ρ:Type}
def callT (orcs:Orcs T) (i:Nat) (f:Option Nat) (as:List (TV T)) (h:THeap T) (k:TV T->THeap T->List Nat->TV T->THeap T->Option ρ):Option ρ :=
 match yv394 f as with
 | some (fid,as')=>match findO orcs i fid with
  | some o =>
   let l:=yv701 h 300 (yv66 as') []
   if yv316 h l as' then o.run (renTL (posOf l) as') (yv169 h l) fun r H'=>k (renT (yv10 l h.length) r) (yv334 (yv10 l h.length) h l H') l r H' else none
  | none=>none
 | none=>none
def pickS (o:TOp T) (args:List (TArg T)):Option Nat :=
 match o,args with
 | .pick,.v t::_=>some t
 | .pick,.m t::_=>some t
 | _,_=>none
def yv168 (t:Nat) (s:TSt T) (k:TSt T->Option ρ):Option ρ :=
 match lkT s.env t with
 | .b c=>if srtT s.env then (if c then k ⟨putT' s.env t (.b true),s.heap⟩ else k ⟨putT' s.env t (.b false),s.heap⟩) else none
 | _=>none
def actT (tb:Tab T) (orcs:Orcs T) (o:TSOp T) (s:TSt T) (k:TSt T->Option ρ):Option ρ :=
 match o.op with
 | .call f i=>callT orcs i f (rdTs s.env o.args).1 s.heap fun r h _ _ _=>k ⟨putDT (rdTs s.env o.args).2 o.dst r,h⟩
 | op=>(evR tb op (rdTs s.env o.args).1 s.heap).go fun r h=>k ⟨putDT (rdTs s.env o.args).2 o.dst r,h⟩
def actP (tb:Tab T) (orcs:Orcs T) (o:TSOp T) (s:TSt T) (k:TSt T->Option ρ):Option ρ :=
 match pickS o.op o.args with
 | some t=>yv168 t s fun s=>actT tb orcs o s k
 | none=>actT tb orcs o s k
def runO (tb:Tab T) (orcs:Orcs T):List (TSOp T)->TSt T->(TSt T->Option ρ)->Option ρ
 | [],s,k=>k s
 | o::os,s,k =>
  match o.guard with
  | none=>actP tb orcs o s fun s=>runO tb orcs os s k
  | some (t,w)=>match lkT s.env t with
   | .tup []=>runO tb orcs os ⟨rmDT s.env o.dst,s.heap⟩ k
   | _=>yv168 t s fun s=>match lkT s.env t,w with
    | .b true,true=>actP tb orcs o s fun s=>runO tb orcs os s k
    | .b false,false=>actP tb orcs o s fun s=>runO tb orcs os s k
    | _,_=>runO tb orcs os ⟨rmDT s.env o.dst,s.heap⟩ k
def actD (tb:Tab T) (orcs:Orcs T) (o:TSOp T) (u:List Nat) (Fs:List Foot) (s:TSt T) (k:Foot->TSt T->Option ρ):Option ρ :=
 match o.op with
 | .call f i=>callT orcs i f (rdTs s.env o.args).1 s.heap fun r h l r0 H' =>
  if yv186 u Fs ⟨l.map wl,l.map wl,growT l r0 H' s.heap.length⟩ then k ⟨l.map wl,l.map wl,growT l r0 H' s.heap.length⟩ ⟨putDT (rdTs s.env o.args).2 o.dst r,h⟩ else none
 | op=>(evR tb op (rdTs s.env o.args).1 s.heap).go fun r h =>
  if (yv9 (erO tb op) (avL tb (rdTs s.env o.args).1) (avH tb s.heap)).ord.all (fun i=>decide (i.1 < s.heap.length)) && yv186 u Fs (yv9 (erO tb op) (avL tb (rdTs s.env o.args).1) (avH tb s.heap)) then
   k (yv9 (erO tb op) (avL tb (rdTs s.env o.args).1) (avH tb s.heap)) ⟨putDT (rdTs s.env o.args).2 o.dst r,h⟩ else none
def actDP (tb:Tab T) (orcs:Orcs T) (o:TSOp T) (u:List Nat) (Fs:List Foot) (s:TSt T) (k:Foot->TSt T->Option ρ):Option ρ :=
 match pickS o.op o.args with
 | some t=>yv168 t s fun s=>actD tb orcs o u Fs s k
 | none=>actD tb orcs o u Fs s k
def runD (tb:Tab T) (orcs:Orcs T):List (TSOp T)->List (List Nat)->List Foot->TSt T->(TSt T->Option ρ)->Option ρ
 | [],_,_,s,k=>k s
 | o::os,us,Fs,s,k =>
  match o.guard with
  | none=>actDP tb orcs o (us.headD []) Fs s fun F s=>runD tb orcs os us.tail (Fs++[F]) s k
  | some (t,w)=>match lkT s.env t with
   | .tup []=>runD tb orcs os us.tail (Fs++[.none]) ⟨rmDT s.env o.dst,s.heap⟩ k
   | _=>yv168 t s fun s=>match lkT s.env t,w with
    | .b true,true=>actDP tb orcs o (us.headD []) Fs s fun F s=>runD tb orcs os us.tail (Fs++[F]) s k
    | .b false,false=>actDP tb orcs o (us.headD []) Fs s fun F s=>runD tb orcs os us.tail (Fs++[F]) s k
    | _,_=>runD tb orcs os us.tail (Fs++[.none]) ⟨rmDT s.env o.dst,s.heap⟩ k
def frzV (tb:Tab T) (j:Nat) (l:List (T j)):TV T:=if hj:j=0 then .bs (some (tb.b8 (hj ▸ l))) else .sl j (some l)
def frz1K (tb:Tab T) (F:List Nat) (h:THeap T) (v:TV T) (k:TV T->Option ρ):Option ρ:=match v with
 | .vw j id n=>if F.contains id then (match hgetT h id with
  | [.blk j' l]=>if hj:j'=j then (if Nat.blt 0 (tb.sz j) then (chk (decide (n ≤ l.length))).bind fun _=>k (frzV tb j ((hj ▸ l:List (T j)).take n)) else none) else none
  | _=>none) else k (.vw j id n)
 | v=>k v
def frzLK (tb:Tab T) (F:List Nat) (h:THeap T):List (TV T)->(List (TV T)->Option ρ)->Option ρ
 | [],k=>k []
 | v::vs,k=>frz1K tb F h v fun v=>frzLK tb F h vs fun vs=>k (v::vs)
def frzAK (tb:Tab T) (F:List Nat) (h:THeap T) (v:TV T) (k:TV T->Option ρ):Option ρ:=match v with
 | .agg cs=>frzLK tb F h cs fun cs=>k (.agg cs)
 | .tup cs=>frzLK tb F h cs fun cs=>k (.tup cs)
 | v=>frz1K tb F h v k
def frzEK (tb:Tab T) (F:List Nat) (h:THeap T):TEnv T->(TEnv T->Option ρ)->Option ρ
 | [],k=>k []
 | (t,v)::e,k=>frzAK tb F h v fun v=>frzEK tb F h e fun e=>k ((t,v)::e)
def frzHK (tb:Tab T) (F:List Nat) (h:THeap T):Nat->THeap T->(THeap T->Option ρ)->Option ρ
 | _,[],k=>k []
 | i,o::os,k=>if F.contains i then frzHK tb F h (i + 1) os fun os=>k ([]::os) else (if nb o then frzLK tb F h o fun o=>if nb o then frzHK tb F h (i + 1) os fun os=>k (o::os) else none else frzHK tb F h (i + 1) os fun os=>k (o::os))
def frzK (tb:Tab T) (F:List Nat) (s:TSt T) (k:TSt T->Option ρ):Option ρ:=frzEK tb F s.heap s.env fun e=>frzHK tb F s.heap 0 s.heap fun h=>k ⟨e,h⟩
def thwK (tb:Tab T) (t:Nat) (s:TSt T) (k:TSt T->Option ρ):Option ρ :=
 match lkT s.env t with
 | .vw q id n=>match hgetT s.heap id with
  | [.blk q' l]=>if q'=q then (if Nat.ble 1 (tb.sz q') && srtT s.env then (chk (decide (0 < n∧n ≤ l.length))).bind fun _=>k ⟨putT' s.env t (.ow q' (some (l.take n))),hsetT s.heap id []⟩ else none) else none
  | _=>none
 | _=>none
def selV (e:TEnv T):List Nat->List Nat
 | []=>[]
 | t::ts=>match lkT e t with
  | .vw _ id _=>id::selV e ts
  | _=>selV e ts
def selN (n:Nat):Nat->THeap T->List Nat
 | _,[]=>[]
 | i,o::os=>if Nat.ble n i && !nb o then i::selN n (i + 1) os else selN n (i + 1) os
def selT (s:TSt T) (ts:List Nat) (n:Option Nat):List Nat:=match n with
 | none=>selV s.env ts
 | some n=>selV s.env ts++selN n 0 s.heap
def runS (tb:Tab T) (orcs:Orcs T):TCode T->TSt T->(SExit->TSt T->Option ρ)->Option ρ
 | .skip,s,k=>k .normal s
 | .reg ops none,s,k=>runO tb orcs ops s (k .normal)
 | .reg ops (some us),s,k=>if srtT s.env then runD tb orcs ops us [] s (k .normal) else none
 | .seq a b,s,k=>runS tb orcs a s fun e s=>match e with
  | .normal=>runS tb orcs b s k
  | e=>k e s
 | .cond c a b,s,k=>match lkT s.env c with
  | .b x=>if x then runS tb orcs a s k else runS tb orcs b s k
  | _=>none
 | .block id b,s,k=>runS tb orcs b s fun e s=>match e with
  | .exit i=>if Nat.beq i id then k .normal s else k (.exit i) s
  | e=>k e s
 | .loop _,_,_=>none
 | .rng _ _ _ _,_,_=>none
 | .exit i,s,k=>k (.exit i) s
 | .ret,s,k=>k .ret s
 | .drop ts c,s,k=>runS tb orcs c ⟨yv174 ts s.env,s.heap⟩ k
 | .cut _ o _,s,k=>o.run s k
 | .fin _ o c,s,k=>runS tb orcs c s fun e s=>match e with
  | .normal=>o.run s k
  | e=>k e s
 | .frz ts n c,s,k=>frzK tb (selT s ts n) s fun s=>runS tb orcs c s k
 | .fend n c,s,k=>runS tb orcs c s fun e s=>frzK tb (selT s [] (some n)) s (k e)
 | .thw t c,s,k=>runS tb orcs c s fun e s=>thwK tb t s (k e)
end
structure Orc.Par (o:Orc T):Prop where
 par:∀ {ρ σ:Type} (as:List (TV T)) (h:THeap T) (k:TV T->THeap T->Option σ) (f:σ->Option ρ),o.run as h (fun r h=>(k r h).bind f)=(o.run as h k).bind f
structure Cut.Par (o:Cut T):Prop where
 par:∀ {ρ σ:Type} (s:TSt T) (k:SExit->TSt T->Option σ) (f:σ->Option ρ),o.run s (fun e t=>(k e t).bind f)=(o.run s k).bind f
def allC (p:Nat->Cut T->TCode T->Prop):TCode T->Prop
 | .seq a b=>allC p a∧allC p b
 | .cond _ a b=>allC p a∧allC p b
 | .block _ b=>allC p b
 | .loop b=>allC p b
 | .drop _ c=>allC p c
 | .cut k o c=>p k o c
 | .fin k o c=>p k o .skip∧allC p c
 | .frz _ _ c=>allC p c
 | .fend _ c=>allC p c
 | .thw _ c=>allC p c
 | .rng _ _ a b=>allC p a∧allC p b
 | _=>True
def yv88 (orcs:Orcs T):Prop:=∀ i f o,findO orcs i f=some o->o.Par
section
variable {tb} {ρ σ:Type} {orcs:Orcs T} {f:σ->Option ρ}
theorem yv314 (ho:yv88 orcs) {i:Nat} {g:Option Nat} {as:List (TV T)} {h:THeap T} {k:TV T->THeap T->List Nat->TV T->THeap T->Option σ} :
 callT orcs i g as h (fun r h l r0 H'=>(k r h l r0 H').bind f)=(callT orcs i g as h k).bind f:=by
 unfold callT
 split
 ·rename_i fid as' hc
  cases hf:findO orcs i fid with
  | none=>rfl
  | some o =>
   simp only
   split
   ·exact (ho _ _ _ hf).par _ _ _ _
   ·rfl
 ·rfl
theorem yv95 {t:Nat} {s:TSt T} {k:TSt T->Option σ}:yv168 t s (fun s=>(k s).bind f)=(yv168 t s k).bind f:=by
 unfold yv168
 split
 ·split
  ·split<;>rfl
  ·rfl
 ·rfl
theorem yv383 (ho:yv88 orcs) {o:TSOp T} {s:TSt T} {k:TSt T->Option σ}:actT tb orcs o s (fun s=>(k s).bind f)=(actT tb orcs o s k).bind f:=by
 unfold actT
 split
 ·exact yv314 ho
 ·exact OR.par
theorem yv275 (ho:yv88 orcs) {o:TSOp T} {s:TSt T} {k:TSt T->Option σ}:actP tb orcs o s (fun s=>(k s).bind f)=(actP tb orcs o s k).bind f:=by
 unfold actP
 split
 ·simp only [yv383 ho];exact yv95
 ·exact yv383 ho
theorem yv118 (ho:yv88 orcs) {k:TSt T->Option σ}:∀ {ops:List (TSOp T)} {s:TSt T},runO tb orcs ops s (fun s=>(k s).bind f)=(runO tb orcs ops s k).bind f
 | [],s=>rfl
 | o::os,s=>by
  simp only [runO]
  split
  ·simp only [yv118 ho (ops:=os)];exact yv275 ho
  ·split
   ·exact yv118 ho
   ·rw [← yv95]
    congr 1;funext s
    split
    ·simp only [yv118 ho (ops:=os)];exact yv275 ho
    ·simp only [yv118 ho (ops:=os)];exact yv275 ho
    ·exact yv118 ho
theorem yv381 (ho:yv88 orcs) {o:TSOp T} {u:List Nat} {Fs:List Foot} {s:TSt T} {k:Foot->TSt T->Option σ}:actD tb orcs o u Fs s (fun F s=>(k F s).bind f)=(actD tb orcs o u Fs s k).bind f:=by
 unfold actD
 split
 ·rw [← yv314 ho];congr 1;funext r h l r0 H';split<;>rfl
 ·rw [← OR.par];congr 1;funext r h;split<;>rfl
theorem yv203 (ho:yv88 orcs) {o:TSOp T} {u:List Nat} {Fs:List Foot} {s:TSt T} {k:Foot->TSt T->Option σ}:actDP tb orcs o u Fs s (fun F s=>(k F s).bind f)=(actDP tb orcs o u Fs s k).bind f:=by
 unfold actDP
 split
 ·simp only [yv381 ho];exact yv95
 ·exact yv381 ho
theorem yv117 (ho:yv88 orcs) {k:TSt T->Option σ}:∀ {ops:List (TSOp T)} {us:List (List Nat)} {Fs:List Foot} {s:TSt T},runD tb orcs ops us Fs s (fun s=>(k s).bind f)=(runD tb orcs ops us Fs s k).bind f
 | [],us,Fs,s=>rfl
 | o::os,us,Fs,s=>by
  simp only [runD]
  split
  ·simp only [yv117 ho (ops:=os)];exact yv203 ho
  ·split
   ·exact yv117 ho
   ·rw [← yv95]
    congr 1;funext s
    split
    ·simp only [yv117 ho (ops:=os)];exact yv203 ho
    ·simp only [yv117 ho (ops:=os)];exact yv203 ho
    ·exact yv117 ho
theorem yv321 {F:List Nat} {h:THeap T} {v:TV T} {k:TV T->Option σ}:frz1K tb F h v (fun v=>(k v).bind f)=(frz1K tb F h v k).bind f:=by
 unfold frz1K
 split
 ·split
  ·split
   ·split
    ·split
     ·rename_i n _ _ _ l _ _ _
      cases chk (decide (n ≤ l.length))<;>rfl
     ·rfl
    ·rfl
   ·rfl
  ·rfl
 ·rfl
theorem yv135 {F:List Nat} {h:THeap T}:∀ {vs:List (TV T)} {k:List (TV T)->Option σ},frzLK tb F h vs (fun v=>(k v).bind f)=(frzLK tb F h vs k).bind f
 | [],k=>rfl
 | v::vs,k=>by simp only [frzLK,yv135 (vs:=vs)];exact yv321
theorem yv573 {F:List Nat} {h:THeap T} {v:TV T} {k:TV T->Option σ}:frzAK tb F h v (fun v=>(k v).bind f)=(frzAK tb F h v k).bind f:=by
 unfold frzAK
 split
 ·exact yv135
 ·exact yv135
 ·exact yv321
theorem yv323 {F:List Nat} {h:THeap T}:∀ {e:TEnv T} {k:TEnv T->Option σ},frzEK tb F h e (fun v=>(k v).bind f)=(frzEK tb F h e k).bind f
 | [],k=>rfl
 | (t,v)::vs,k=>by simp only [frzEK,yv323 (e:=vs)];exact yv573
theorem yv134 {F:List Nat} {h:THeap T}:∀ {os:THeap T} {i:Nat} {k:THeap T->Option σ},frzHK tb F h i os (fun v=>(k v).bind f)=(frzHK tb F h i os k).bind f
 | [],i,k=>rfl
 | o::os,i,k=>by
  simp only [frzHK]
  split
  ·exact yv134
  ·split
   ·rw [← yv135];congr 1;funext o;split
    ·exact yv134
    ·rfl
   ·exact yv134
theorem yv462 {F:List Nat} {s:TSt T} {k:TSt T->Option σ}:frzK tb F s (fun v=>(k v).bind f)=(frzK tb F s k).bind f:=by
 unfold frzK
 simp only [yv134]
 exact yv323
theorem yv722 {t:Nat} {s:TSt T} {k:TSt T->Option σ}:thwK tb t s (fun v=>(k v).bind f)=(thwK tb t s k).bind f:=by
 unfold thwK
 split
 ·split
  ·split
   ·split
    ·cases chk _<;>rfl
    ·rfl
   ·rfl
  ·rfl
 ·rfl
theorem yv514 (ho:yv88 orcs):∀ {c:TCode T},allC (fun _ o _=>o.Par) c->∀ {k:SExit->TSt T->Option σ} {s:TSt T},runS tb orcs c s (fun e s=>(k e s).bind f)=(runS tb orcs c s k).bind f:=by
 intro c
 induction c with
 | skip=>intro _ k s;rfl
 | reg ops d =>
  intro _ k s
  cases d with
  | none=>exact yv118 ho
  | some us=>simp only [runS];split;exact yv117 ho;rfl
 | seq a b iha ihb =>
  intro hc k s
  simp only [runS]
  rw [← iha hc.1]
  congr 1;funext e s
  cases e with
  | normal=>exact ihb hc.2
  | _=>rfl
 | cond c a b iha ihb =>
  intro hc k s
  simp only [runS]
  split
  ·split
   ·exact iha hc.1
   ·exact ihb hc.2
  ·rfl
 | block id b ih =>
  intro hc k s
  simp only [runS]
  rw [← ih hc]
  congr 1;funext e s
  cases e with
  | exit i=>simp only;split<;>rfl
  | _=>rfl
 | loop b ih=>intro _ k s;rfl
 | rng t ps a b=>intro _ k s;rfl
 | exit i=>intro _ k s;rfl
 | ret=>intro _ k s;rfl
 | drop ts c ih=>intro hc k s;exact ih hc
 | cut n o c ih=>intro hc k s;exact hc.par _ _ _
 | fin n o c ih =>
  intro hc k s
  simp only [runS]
  rw [← ih hc.2]
  congr 1;funext e s
  cases e with
  | normal=>exact hc.1.par _ _ _
  | _=>rfl
 | frz ts n c ih =>
  intro hc k s
  simp only [runS,ih hc]
  exact yv462
 | fend n c ih =>
  intro hc k s
  simp only [runS]
  rw [← ih hc]
  congr 1;funext e s
  exact yv462
 | thw t c ih =>
  intro hc k s
  simp only [runS]
  rw [← ih hc]
  congr 1;funext e s
  exact yv722
end
end Go.Rv
set_option maxHeartbeats 4000000
namespace Go.Rv
open Go.RowKit
variable {T:Nat->Type} {tb:Tab T} {P:Program} {W:World->Prop}
structure Orc.Ok (P:Program) (W:World->Prop) (tb:Tab T) (f:Nat) (o:Orc T):Prop extends o.Par where
 en:yv25 P f=true
 snd:∀ {ρ:Type} (as:List (TV T)) (h:THeap T) (k:TV T->THeap T->Option ρ) (d:ρ),o.run as h k=some d->∃ r H',Good P W f (avL tb as) (avH tb h) (av tb r) (avH tb H')∧h.length ≤ H'.length∧k r H'=some d
def yv39 (P:Program) (W:World->Prop) (tb:Tab T) (orcs:Orcs T):Prop:=∀ i f o,findO orcs i f=some o->o.Ok P W tb f
theorem yv39.par {orcs:Orcs T} (h:yv39 P W tb orcs):yv88 orcs:=fun i f o e=>(h i f o e).toPar
abbrev EndT (tb:Tab T) {ρ:Type} (k:SExit->TSt T->Option ρ) (d:ρ):SExit->St->Prop:=fun e s'=>∃ t,s'=avS tb t∧k e t=some d
structure Cut.Ok (P:Program) (W:World->Prop) (tb:Tab T) (n:Nat) (o:Cut T) (c:TCode T):Prop extends o.Par where
 snd:∀ {ρ:Type} (s:TSt T) (k:SExit->TSt T->Option ρ) (d:ρ),o.run s k=some d->wpS P W (.weak n (erC tb c)) (EndT tb k d) (avS tb s)
theorem yv257 (e:TEnv T) (d:Option Nat) (a:TV T):putD (avE tb e) d (av tb a)=avE tb (putDT e d a):=by
 cases d with
 | none=>rfl
 | some t=>exact yv177 e t a
theorem yv615 (e:TEnv T) (d:Option Nat):rmD (avE tb e) d=avE tb (rmDT e d):=by
 cases d with
 | none=>rfl
 | some t=>exact yv177 e t (.tup [])
theorem yv616:∀ {e:TEnv T},srtT e=true->srt (avE tb e)=true
 | [],_=>rfl
 | [_],_=>rfl
 | (k,_)::(j,y)::e,h=>by
  simp only [srtT,Bool.and_eq_true] at h
  have:=yv616 h.2
  simp only [avE,List.map_cons] at this ⊢
  simp only [srt,Bool.and_eq_true]
  exact ⟨h.1,this⟩
theorem yv250:∀ (e:TEnv T) (t:Nat) (v:TV T),lkT (putT' e t v) t=v
 | [],t,v=>by simp [putT',lkT]
 | (k,x)::e,t,v=>by
  simp only [putT']
  split
  ·simp [lkT]
  ·split
   ·simp [lkT]
   ·rename_i h1 h2
    simp only [lkT,h2,if_false]
    exact yv250 e t v
theorem yv476 {v:TV T} (h:yv475 v=true):noOwn (av tb v)=true:=by
 cases v<;>first|rfl|cases h
theorem yv627 {v:TV T} (h:isRaT v=true):isRa (av tb v)=true:=by
 cases v with
 | agg cs =>
  have h:cs.all yv475=true:=h
  show (avL tb cs).all noOwn=true
  rw [yv56,List.all_map,List.all_eq_true]
  intro x hx
  exact yv476 (List.all_eq_true.1 h x hx)
 | _=>first|rfl|cases h
theorem yv547 {g:Option Nat} {as as':List (TV T)} {fid:Nat} (h:yv394 g as=some (fid,as')):yv51 g (avL tb as)=some (fid,avL tb as'):=by
 unfold yv394 at h
 split at h
 ·cases h;rfl
 ·split at h
  ·rename_i f fs cs as hall
   cases h
   have h2:(avL tb as).all isRa=true:=by
    rw [yv56,List.all_map,List.all_eq_true]
    intro x hx
    exact yv627 (List.all_eq_true.1 hall x hx)
   simp only [avL,av,yv51,h2,if_true]
   simp [yv56]
  ·cases h
 ·cases h
theorem yv625 (l:List Nat) (r:TV T) (H':THeap T) (n:Nat):yv176 l (av tb r) (avH tb H') n=growT l r H' n:=by
 unfold yv176 growT
 rw [yv163,yv12]
 have:(avH tb H').all (fun ob=>(refsL ob).all fun i=>decide (i < l.length))=H'.all (fun ob=>(yv66 ob).all fun i=>decide (i < l.length)):=by
  simp only [avH,List.all_map,Function.comp_def,yv82]
 rw [this]
section
variable {ρ:Type} {orcs:Orcs T} {d:ρ}
theorem yv315 (ho:yv39 P W tb orcs) {i:Nat} {g:Option Nat} {as:List (TV T)} {h:THeap T} {k:TV T->THeap T->List Nat->TV T->THeap T->Option ρ} (hk:callT orcs i g as h k=some d) :
 ∃ fid as' l r H',yv51 g (avL tb as)=some (fid,avL tb as')∧yv25 P fid=true∧yv32 (avH tb h) l (avL tb as')=true∧Good P W fid (renL (posOf l) (avL tb as')) (yv11 (avH tb h) l) (av tb r) (avH tb H') ∧
  l.length ≤ H'.length∧k (renT (yv10 l h.length) r) (yv334 (yv10 l h.length) h l H') l r H'=some d:=by
 unfold callT at hk
 split at hk
 ·rename_i fid as' hc
  cases hf:findO orcs i fid with
  | none=>rw [hf] at hk;cases hk
  | some o =>
   rw [hf] at hk
   simp only at hk
   split at hk
   ·rename_i hcl
    obtain ⟨r,H',h1,h2,h3⟩:=(ho _ _ _ hf).snd _ _ _ _ hk
    refine ⟨fid,as',_,r,H',yv547 hc,(ho _ _ _ hf).en,by rw [yv317];exact hcl,?_,?_,h3⟩
    ·rw [yv125,yv264];exact h1
    ·simpa [yv169] using h2
   ·cases hk
 ·cases hk
variable {K:St->Prop} {os:List SOp}
theorem yv261 {t:Nat} {s:TSt T} {k:TSt T->Option ρ} (h:yv168 t s k=some d) (hk:∀ s' x,lkT s'.env t=.b x->k s'=some d->wpO P W os K (avS tb s')):wpO P W os K (avS tb s):=by
 unfold yv168 at h
 split at h
 ·rename_i c hc
  split at h
  ·rename_i hs
   have h1:lk (avE tb s.env) t=.b c:=by rw [lk_av,hc];rfl
   refine o_cs t (b:=c) (et:=avE tb (putT' s.env t (.b true))) (ef:=avE tb (putT' s.env t (.b false))) (fun e=>?_) (fun e=>?_) h1 (yv616 hs) (yv177 _ _ (.b true)) (yv177 _ _ (.b false))
   ·subst e
    exact hk ⟨_,s.heap⟩ true (yv250 _ _ _) (by simpa using h)
   ·subst e
    exact hk ⟨_,s.heap⟩ false (yv250 _ _ _) (by simpa using h)
  ·cases h
 ·cases h
theorem yv260 {us:List (List Nat)} {Fs:List Foot} {t:Nat} {s:TSt T} {k:TSt T->Option ρ} (h:yv168 t s k=some d) (hk:∀ s' x,lkT s'.env t=.b x->k s'=some d->wpD P W os us Fs K (avS tb s')):wpD P W os us Fs K (avS tb s):=by
 unfold yv168 at h
 split at h
 ·rename_i c hc
  split at h
  ·rename_i hs
   have h1:lk (avE tb s.env) t=.b c:=by rw [lk_av,hc];rfl
   refine d_cs t (b:=c) (et:=avE tb (putT' s.env t (.b true))) (ef:=avE tb (putT' s.env t (.b false))) (fun e=>?_) (fun e=>?_) h1 (yv616 hs) (yv177 _ _ (.b true)) (yv177 _ _ (.b false))
   ·subst e
    exact hk ⟨_,s.heap⟩ true (yv250 _ _ _) (by simpa using h)
   ·subst e
    exact hk ⟨_,s.heap⟩ false (yv250 _ _ _) (by simpa using h)
  ·cases h
 ·cases h
theorem yv384 (ok:tb.Ok) (ho:yv39 P W tb orcs) {o:TSOp T} {s:TSt T} {k:TSt T->Option ρ} (h:actT tb orcs o s k=some d) (hk:∀ s',k s'=some d->wpO P W os K (avS tb s')) :
 wpO P W (⟨erO tb o.op,o.args.map (avArg tb),o.dst,none⟩::os) K (avS tb s):=by
 unfold actT at h
 split at h
 ·rename_i f ci hop
  obtain ⟨fid,as',l,r,H',h1,h2,h3,h4,h5,h6⟩:=yv315 ho h
  simp only [wpO,yv7,hop,erO,avS,yv160,h1]
  refine ⟨h2,l,_,_,h3,h4,?_⟩
  rw [yv12,yv704,yv335]
  dsimp only
  rw [yv257]
  exact hk _ h6
 ·obtain ⟨r,h',h1,h2⟩:=OR.go_all h (yv621 ok _ _ _)
  refine yv815 (s1:=avS tb ⟨putDT (rdTs s.env o.args).2 o.dst r,h'⟩) ?_ (hk _ h2)
  simp only [step1,yv7,avS,yv160,h1,yv257]
theorem yv276 (ok:tb.Ok) (ho:yv39 P W tb orcs) {o:TSOp T} {s:TSt T} {k:TSt T->Option ρ} (h:actP tb orcs o s k=some d) (hk:∀ s',k s'=some d->wpO P W os K (avS tb s')) :
 wpO P W (⟨erO tb o.op,o.args.map (avArg tb),o.dst,none⟩::os) K (avS tb s):=by
 unfold actP at h
 split at h
 ·exact yv261 h fun s' x _ hs=>yv384 ok ho hs hk
 ·exact yv384 ok ho h hk
theorem yes_w {op:POp} {args:List Arg} {dst:Option Nat} {t:Nat} {w:Bool} {s:TSt T} (h1:lkT s.env t=.b w) (h:wpO P W (⟨op,args,dst,none⟩::os) K (avS tb s)):wpO P W (⟨op,args,dst,some (t,w)⟩::os) K (avS tb s) :=
 o_yes h (by rw [lk_av,h1];rfl)
theorem no_w {op:POp} {args:List Arg} {dst:Option Nat} {t:Nat} {w:Bool} {s:TSt T} (h1:lkT s.env t=.b (!w)) (h:wpO P W os K (avS tb ⟨rmDT s.env dst,s.heap⟩)):wpO P W (⟨op,args,dst,some (t,w)⟩::os) K (avS tb s) :=
 o_no (e2:=avE tb (rmDT s.env dst)) h (by rw [lk_av,h1];rfl) (yv615 _ _)
theorem nu_w {op:POp} {args:List Arg} {dst:Option Nat} {t:Nat} {w:Bool} {s:TSt T} (h1:lkT s.env t=.tup []) (h:wpO P W os K (avS tb ⟨rmDT s.env dst,s.heap⟩)):wpO P W (⟨op,args,dst,some (t,w)⟩::os) K (avS tb s) :=
 o_nu (e2:=avE tb (rmDT s.env dst)) h (by rw [lk_av,h1];rfl) (yv615 _ _)
theorem yv67 (ok:tb.Ok) (ho:yv39 P W tb orcs) {k:TSt T->Option ρ}:∀ {ops:List (TSOp T)} {s:TSt T},runO tb orcs ops s k=some d->wpO P W (ops.map (erS tb)) (fun s'=>∃ t,s'=avS tb t∧k t=some d) (avS tb s)
 | [],s,h=>⟨s,rfl,h⟩
 | o::os,s,h=>by
  obtain ⟨op,args,dst,guard⟩:=o
  simp only [runO] at h
  simp only [List.map_cons,erS]
  cases guard with
  | none=>exact yv276 ok ho h fun s' hs=>yv67 ok ho hs
  | some p =>
   obtain ⟨t,w⟩:=p
   simp only at h
   split at h
   ·rename_i hl
    exact nu_w hl (yv67 ok ho h)
   ·refine yv261 h fun s' x hx hs=>?_
    rw [hx] at hs
    cases x<;>cases w<;>simp only at hs
    ·exact yes_w hx (yv276 ok ho (o:=⟨op,args,dst,some (t,false)⟩) hs fun s' hs=>yv67 ok ho hs)
    ·exact no_w hx (yv67 ok ho hs)
    ·exact no_w hx (yv67 ok ho hs)
    ·exact yes_w hx (yv276 ok ho (o:=⟨op,args,dst,some (t,true)⟩) hs fun s' hs=>yv67 ok ho hs)
theorem yv382 (ok:tb.Ok) (ho:yv39 P W tb orcs) {o:TSOp T} {us:List (List Nat)} {Fs:List Foot} {s:TSt T} {k:Foot->TSt T->Option ρ} (h:actD tb orcs o (us.headD []) Fs s k=some d)
 (hk:∀ F s',k F s'=some d->wpD P W os us.tail (Fs++[F]) K (avS tb s')):wpD P W (⟨erO tb o.op,o.args.map (avArg tb),o.dst,none⟩::os) us Fs K (avS tb s):=by
 unfold actD at h
 split at h
 ·rename_i f ci hop
  obtain ⟨fid,as',l,r,H',h1,h2,h3,h4,h5,h6⟩:=yv315 ho h
  split at h6
  ·rename_i hf
   simp only [wpD,yv7,hop,erO,avS,yv160,h1]
   refine ⟨h2,l,_,_,l,h3,h4,by rw [yv12];exact h5,by simp,fun i hi=>.inl (by simpa using hi),?_,?_⟩
   ·rw [yv12,yv625];exact hf
   ·rw [yv12,yv625,yv704,yv335]
    dsimp only
    rw [yv257]
    exact hk _ _ h6
  ·cases h6
 ·rename_i hne
  obtain ⟨r,h',h1,h2⟩:=OR.go_all h (yv621 ok _ _ _)
  split at h2
  ·rename_i hf
   simp only [Bool.and_eq_true] at hf
   have hne':∀ g,erO tb o.op ≠ .call g:=by
    intro g hg
    have h1':=h1
    rw [hg] at h1'
    simp [POp.ev] at h1'
   simp only [wpD,yv7,avS,yv160,h1]
   have hord:((yv9 (erO tb o.op) (avL tb (rdTs s.env o.args).fst) (avH tb s.heap)).ord.all fun i=>decide (i.1 < (avH tb s.heap).length))=true:=by
    refine List.all_eq_true.2 fun i hi=>decide_eq_true ?_
    rw [yv12]
    exact of_decide_eq_true (List.all_eq_true.1 hf.1 i hi)
   refine ⟨hord,hf.2,?_⟩
   rw [yv257]
   exact hk _ _ h2
  ·cases h2
theorem yv204 (ok:tb.Ok) (ho:yv39 P W tb orcs) {o:TSOp T} {us:List (List Nat)} {Fs:List Foot} {s:TSt T} {k:Foot->TSt T->Option ρ} (h:actDP tb orcs o (us.headD []) Fs s k=some d)
 (hk:∀ F s',k F s'=some d->wpD P W os us.tail (Fs++[F]) K (avS tb s')):wpD P W (⟨erO tb o.op,o.args.map (avArg tb),o.dst,none⟩::os) us Fs K (avS tb s):=by
 unfold actDP at h
 split at h
 ·exact yv260 h fun s' x _ hs=>yv382 ok ho hs hk
 ·exact yv382 ok ho h hk
theorem yv741 {us:List (List Nat)} {Fs:List Foot} {op:POp} {args:List Arg} {dst:Option Nat} {t:Nat} {w:Bool} {s:TSt T} (h1:lkT s.env t=.b w) (h:wpD P W (⟨op,args,dst,none⟩::os) us Fs K (avS tb s)):wpD P W (⟨op,args,dst,some (t,w)⟩::os) us Fs K (avS tb s) :=
 d_yes h (by rw [lk_av,h1];rfl)
theorem dno_w {us:List (List Nat)} {Fs:List Foot} {op:POp} {args:List Arg} {dst:Option Nat} {t:Nat} {w:Bool} {s:TSt T} (h1:lkT s.env t=.b (!w)) (h:wpD P W os us.tail (Fs++[.none]) K (avS tb ⟨rmDT s.env dst,s.heap⟩)):wpD P W (⟨op,args,dst,some (t,w)⟩::os) us Fs K (avS tb s) :=
 d_no (e2:=avE tb (rmDT s.env dst)) h (by rw [lk_av,h1];rfl) (yv615 _ _)
theorem dnu_w {us:List (List Nat)} {Fs:List Foot} {op:POp} {args:List Arg} {dst:Option Nat} {t:Nat} {w:Bool} {s:TSt T} (h1:lkT s.env t=.tup []) (h:wpD P W os us.tail (Fs++[.none]) K (avS tb ⟨rmDT s.env dst,s.heap⟩)):wpD P W (⟨op,args,dst,some (t,w)⟩::os) us Fs K (avS tb s) :=
 d_nu (e2:=avE tb (rmDT s.env dst)) h (by rw [lk_av,h1];rfl) (yv615 _ _)
theorem yv84 (ok:tb.Ok) (ho:yv39 P W tb orcs) {k:TSt T->Option ρ}:∀ {ops:List (TSOp T)} {us:List (List Nat)} {Fs:List Foot} {s:TSt T},runD tb orcs ops us Fs s k=some d ->
 wpD P W (ops.map (erS tb)) us Fs (fun s'=>∃ t,s'=avS tb t∧k t=some d) (avS tb s)
 | [],us,Fs,s,h=>⟨s,rfl,h⟩
 | o::os,us,Fs,s,h=>by
  obtain ⟨op,args,dst,guard⟩:=o
  simp only [runD] at h
  simp only [List.map_cons,erS]
  cases guard with
  | none=>exact yv204 ok ho h fun F s' hs=>yv84 ok ho hs
  | some p =>
   obtain ⟨t,w⟩:=p
   simp only at h
   split at h
   ·rename_i hl
    exact dnu_w hl (yv84 ok ho h)
   ·refine yv260 h fun s' x hx hs=>?_
    rw [hx] at hs
    cases x<;>cases w<;>simp only at hs
    ·exact yv741 hx (yv204 ok ho (o:=⟨op,args,dst,some (t,false)⟩) hs fun F s' hs=>yv84 ok ho hs)
    ·exact dno_w hx (yv84 ok ho hs)
    ·exact dno_w hx (yv84 ok ho hs)
    ·exact yv741 hx (yv204 ok ho (o:=⟨op,args,dst,some (t,true)⟩) hs fun F s' hs=>yv84 ok ho hs)
theorem yv230 {α:Type} {sz:Nat}:∀ {rows:List (List α)} {n:Nat},(∀ r ∈ rows,r.length=sz)->rows.flatten.take (n * sz)=(rows.take n).flatten
 | [],n,_=>by simp
 | x::rows,0,_=>by simp
 | x::rows,n + 1,hs=>by
  have hx:=hs x (by simp)
  simp only [List.flatten_cons,List.take_succ_cons,Nat.add_mul,Nat.one_mul]
  rw [List.take_append,List.take_of_length_le (by omega),← yv230 (fun r hr=>hs r (by simp [hr]))]
  congr 2
  omega
theorem yv286 {α:Type} {sz:Nat}:∀ {rows:List (List α)},(∀ r ∈ rows,r.length=sz)->rows.flatten.length=rows.length * sz
 | [],_=>by simp
 | x::rows,hs=>by
  have hx:=hs x (by simp)
  have ih:=yv286 (rows:=rows) (sz:=sz) (fun r hr=>hs r (by simp [hr]))
  simp only [List.flatten_cons,List.length_append,List.length_cons,Nat.add_mul,Nat.one_mul]
  omega
theorem yv748 (ok:tb.Ok) {j:Nat} {l:List (T j)}:av tb (frzV tb j l)=.pv (.sl (tb.sz j) (l.map (tb.prow j))):=by
 unfold frzV
 split
 ·rename_i hj
  subst hj
  have e:tb.sz 0=1:=by simp only [Tab.sz,ok.z8];rfl
  rw [e,← ok.b8]
  rfl
 ·rfl
theorem yv322 (ok:tb.Ok) {F:List Nat} {h:THeap T} {v:TV T} {k:TV T->Option ρ} (hk:frz1K tb F h v k=some d):∃ v',frzC (avH tb h) (fun i=>F.contains i) (av tb v) (av tb v')∧k v'=some d:=by
 unfold frz1K at hk
 split at hk
 ·rename_i j id n
  split at hk
  ·rename_i hF
   split at hk
   ·rename_i j' l hg
    split at hk
    ·rename_i hj
     subst hj
     split at hk
     ·rename_i hz
      obtain ⟨_,hc,hk⟩:=yv3 hk
      have hc:=of_decide_eq_true (yv30 hc)
      have hr:=yv165 ok l
      have e:hget (avH tb h) id=((l.map (tb.prow j')).flatten).map AV.pv:=by rw [yv91,hg];rfl
      refine ⟨_,.inr ⟨id,0,n,_,tb.sz j',(l.take n).map (tb.prow j'),rfl,yv748 ok,hF,Nat.le_of_ble_eq_true hz,by simp;omega,yv165 ok _,?_,?_⟩,hk⟩
      ·rw [e,List.length_map,yv286 hr,List.length_map,Nat.zero_add]
       exact Nat.mul_le_mul_right _ hc
      ·rw [e,List.drop_zero,← List.map_take,yv230 hr,List.map_take]
     ·cases hk
    ·cases hk
   ·cases hk
  ·exact ⟨_,.inl rfl,hk⟩
 ·exact ⟨_,.inl rfl,hk⟩
theorem yv136 (ok:tb.Ok) {F:List Nat} {h:THeap T}:∀ {vs:List (TV T)} {k:List (TV T)->Option ρ},frzLK tb F h vs k=some d->∃ vs',frzL (avH tb h) (fun i=>F.contains i) (avL tb vs) (avL tb vs')∧k vs'=some d
 | [],k,hk=>⟨[],trivial,hk⟩
 | v::vs,k,hk=>by
  obtain ⟨v',h1,h2⟩:=yv322 ok hk
  obtain ⟨vs',h3,h4⟩:=yv136 ok h2
  exact ⟨v'::vs',⟨h1,h3⟩,h4⟩
theorem yv747 {H:Heap} {F:Nat->Bool}:∀ {as bs:List AV},frzL H F as bs->frzM H F as bs
 | [],[],_=>trivial
 | [],_::_,h=>h.elim
 | _::_,[],h=>h.elim
 | a::as,b::bs,h=>⟨.inl h.1,yv747 h.2⟩
theorem yv464 {H:Heap} {F:Nat->Bool}:∀ as:List AV,frzL H F as as
 | []=>trivial
 | a::as=>⟨.inl rfl,yv464 as⟩
theorem yv574 (ok:tb.Ok) {F:List Nat} {h:THeap T} {v:TV T} {k:TV T->Option ρ} (hk:frzAK tb F h v k=some d):∃ v',frzA (avH tb h) (fun i=>F.contains i) (av tb v) (av tb v')∧k v'=some d:=by
 unfold frzAK at hk
 split at hk
 ·obtain ⟨cs',h1,h2⟩:=yv136 ok hk
  exact ⟨_,.inl (.inr ⟨_,_,rfl,rfl,h1⟩),h2⟩
 ·obtain ⟨cs',h1,h2⟩:=yv136 ok hk
  exact ⟨_,.inr ⟨_,_,rfl,rfl,yv747 h1⟩,h2⟩
 ·obtain ⟨v',h1,h2⟩:=yv322 ok hk
  exact ⟨v',.inl (.inl h1),h2⟩
theorem yv324 (ok:tb.Ok) {F:List Nat} {h:THeap T}:∀ {e:TEnv T} {k:TEnv T->Option ρ},frzEK tb F h e k=some d->∃ e',(∀ t,frzA (avH tb h) (fun i=>F.contains i) (lk (avE tb e) t) (lk (avE tb e') t))∧k e'=some d
 | [],k,hk=>⟨[],fun t=>.inl (.inl (.inl rfl)),hk⟩
 | (t,v)::vs,k,hk=>by
  obtain ⟨v',h1,h2⟩:=yv574 ok hk
  obtain ⟨vs',h3,h4⟩:=yv324 ok h2
  refine ⟨(t,v')::vs',fun u=>?_,h4⟩
  simp only [avE,List.map_cons,lk]
  split
  ·exact h1
  ·exact h3 u
theorem yv325 (ok:tb.Ok) {F:List Nat} {h:THeap T}:∀ {os:THeap T} {i:Nat} {k:THeap T->Option ρ},frzHK tb F h i os k=some d->∃ os',os'.length=os.length∧(∀ j,j < os.length->frzO (avH tb h) (fun i=>F.contains i) (i + j) (hget (avH tb os) j) (hget (avH tb os') j))∧k os'=some d
 | [],i,k,hk=>⟨[],rfl,fun j hj=>by simp at hj,hk⟩
 | o::os,i,k,hk=>by
  have key:∀ o',frzO (avH tb h) (fun i=>F.contains i) i (avO tb o) (avO tb o')->(frzHK tb F h (i + 1) os fun os=>k (o'::os))=some d->∃ os',os'.length=(o::os).length∧(∀ j,j < (o::os).length->frzO (avH tb h) (fun i=>F.contains i) (i + j) (hget (avH tb (o::os)) j) (hget (avH tb os') j))∧k os'=some d:=by
   intro o' ho hk
   obtain ⟨os',h1,h2,h3⟩:=yv325 ok hk
   refine ⟨o'::os',by simp [h1],fun j hj=>?_,h3⟩
   cases j with
   | zero=>exact ho
   | succ j =>
    have:=h2 j (by simpa using hj)
    rw [show i + (j + 1)=i + 1 + j by omega]
    exact this
  simp only [frzHK] at hk
  split at hk
  ·rename_i hF
   refine key [] ?_ hk
   simp only [frzO,hF,if_true]
   rfl
  ·rename_i hF
   have hF:F.contains i=false:=by simpa using hF
   split at hk
   ·rename_i hn
    obtain ⟨o',h1,h2⟩:=yv136 ok hk
    split at h2
    ·rename_i hn'
     refine key o' ?_ h2
     simp only [frzO,hF]
     rw [yv172 hn,yv172 hn']
     exact h1
    ·cases h2
   ·refine key o ?_ hk
    simp only [frzO,hF]
    exact yv464 _
theorem yv463 (ok:tb.Ok) {F:List Nat} {s:TSt T} {k:TSt T->Option ρ} (hk:frzK tb F s k=some d):∃ s',frzS (fun i=>F.contains i) (avS tb s) (avS tb s')∧k s'=some d:=by
 obtain ⟨e',h1,h2⟩:=yv324 ok hk
 obtain ⟨h',h3,h4,h5⟩:=yv325 ok h2
 refine ⟨⟨e',h'⟩,⟨h1,by simp [avS,yv12,h3],fun i hi=>?_⟩,h5⟩
 have:=h4 i (by simpa [avS,yv12] using hi)
 rw [Nat.zero_add] at this
 exact this
theorem yv328:∀ {h:THeap T} {n:Nat},h.length ≤ n->hgetT h n=[]
 | [],_,_=>rfl
 | _::_,0,hn=>by simp at hn
 | _::h,n + 1,hn=>yv328 (h:=h) (by simpa using hn)
theorem yv723 (ok:tb.Ok) {t:Nat} {s:TSt T} {k:TSt T->Option ρ} (hk:thwK tb t s k=some d):∃ s',thwS t (avS tb s) (avS tb s')∧k s'=some d:=by
 unfold thwK at hk
 split at hk
 case h_2=>cases hk
 rename_i q id n hl
 split at hk
 case h_2=>cases hk
 rename_i q' l ho
 split at hk
 case isFalse=>cases hk
 rename_i hq
 subst hq
 split at hk
 case isFalse=>cases hk
 rename_i hb
 simp only [Bool.and_eq_true] at hb
 obtain ⟨_,hc,hk⟩:=yv3 hk
 have hc:=of_decide_eq_true (yv30 hc)
 have hr:=yv165 ok l
 have e:hget (avH tb s.heap) id=((l.map (tb.prow q')).flatten).map AV.pv:=by rw [yv91,ho];rfl
 refine ⟨_,⟨id,n,tb.sz q',(l.take n).map (tb.prow q'),?_,hc.1,Nat.le_of_ble_eq_true hb.1,?_,by simp;omega,yv165 ok _,?_,?_,?_,fun k=>?_⟩,hk⟩
 ·simp only [avS];rw [lk_av,hl];rfl
 ·simp only [avS]
  rw [yv12]
  rcases Nat.lt_or_ge id s.heap.length with hlt|hge
  ·exact hlt
  ·rw [yv328 hge] at ho;cases ho
 ·simp only [avS]
  rw [e,List.length_map,yv286 hr,List.length_map]
  exact Nat.mul_le_mul_right _ hc.2
 ·simp only [avS]
  rw [e,← List.map_take,yv230 hr,List.map_take]
 ·simp only [avS]
  exact (yv189 s.heap id []).symm
 ·simp only [avS]
  rw [← yv177,yv290]
  rfl
theorem yv119 (ok:tb.Ok) (ho:yv39 P W tb orcs):∀ {c:TCode T},allC (fun n o c=>o.Ok P W tb n c) c->∀ {ρ:Type} {d:ρ} {k:SExit->TSt T->Option ρ} {s:TSt T},runS tb orcs c s k=some d ->
 wpS P W (erC tb c) (EndT tb k d) (avS tb s):=by
 intro c
 induction c with
 | skip=>intro _ ρ d k s h;exact ⟨s,rfl,h⟩
 | reg ops us =>
  intro _ ρ d k s h
  cases us with
  | none=>exact yv67 ok ho h
  | some us =>
   simp only [runS] at h
   split at h
   ·rename_i hs;exact ⟨yv616 hs,yv84 ok ho h⟩
   ·cases h
 | seq a b iha ihb =>
  intro hc ρ d k s h
  refine yv27 (erC tb a) _ ?_ (iha hc.1 h)
  rintro e s' ⟨t,rfl,ht⟩
  cases e with
  | normal=>exact ihb hc.2 ht
  | _=>exact ⟨t,rfl,ht⟩
 | cond c a b iha ihb =>
  intro hc ρ d k s h
  simp only [runS] at h
  split at h
  ·rename_i x hx
   have h1:lk (avS tb s).env c=.pv (.lit (.bool x)):=by
    show lk (avE tb s.env) c=_
    rw [lk_av,hx];rfl
   refine yv810 h1 (fun e=>?_) (fun e=>?_)
   ·subst e;exact iha hc.1 (by simpa using h)
   ·subst e;exact ihb hc.2 (by simpa using h)
  ·cases h
 | block id b ih =>
  intro hc ρ d k s h
  refine yv27 (erC tb b) _ ?_ (ih hc h)
  rintro e s' ⟨t,rfl,ht⟩
  cases e with
  | normal=>exact ⟨t,rfl,ht⟩
  | ret=>exact ⟨t,rfl,ht⟩
  | exit i =>
   simp only at ht
   simp only [yv543]
   split at ht
   ·rename_i hi
    rw [if_pos (Nat.eq_of_beq_eq_true hi)]
    exact ⟨t,rfl,ht⟩
   ·rename_i hi
    rw [if_neg (fun e=>hi (by subst e;exact Nat.beq_refl _))]
    exact ⟨t,rfl,ht⟩
 | loop b ih=>intro _ ρ d k s h;cases h
 | rng t ps a b=>intro _ ρ d k s h;cases h
 | exit i=>intro _ ρ d k s h;exact ⟨s,rfl,h⟩
 | ret=>intro _ ρ d k s h;exact ⟨s,rfl,h⟩
 | drop ts c ih =>
  intro hc ρ d k s h
  have:=ih hc h
  simp only [erC,wpS,avS,yv147] at this ⊢
  exact this
 | cut n o c ih=>intro hc ρ d k s h;exact hc.snd _ _ _ h
 | fin n o c ih =>
  intro hc ρ d k s h
  refine yv27 (erC tb c) _ ?_ (ih hc.2 h)
  rintro e s' ⟨t,rfl,ht⟩
  cases e with
  | normal=>exact hc.1.snd _ _ _ ht
  | _=>exact ⟨t,rfl,ht⟩
 | frz ts n c ih =>
  intro hc ρ d k s h
  obtain ⟨s',h1,h2⟩:=yv463 ok h
  exact ⟨_,_,h1,ih hc h2⟩
 | fend n c ih =>
  intro hc ρ d k s h
  refine yv27 (erC tb c) _ ?_ (ih hc h)
  rintro e s' ⟨t,rfl,ht⟩
  obtain ⟨s',h1,h2⟩:=yv463 ok ht
  exact ⟨_,_,.inl h1,s',rfl,h2⟩
 | thw t c ih =>
  intro hc ρ d k s h
  refine yv27 (erC tb c) _ ?_ (ih hc h)
  rintro e s' ⟨t',rfl,ht⟩
  obtain ⟨s',h1,h2⟩:=yv723 ok ht
  exact ⟨fun _=>false,_,.inr ⟨_,h1⟩,s',rfl,h2⟩
end
end Go.Rv
namespace Go.Rv
open Go.RowKit
variable {T:Nat->Type} {tb:Tab T} {P:Program} {W:World->Prop}
inductive F0 where
 | a (x:Tm)
 | bo
 | ow (k:Nat)
 | e8
 | er (k off:Nat)
 | ref (i o:Nat)
 | vw (k i:Nat)
 | vr (k i o:Nat)
 | blk (k:Nat)
 | yl
 | nilS|nilP|nilF|junk
 | ci (k:IntKind) (n:Int)|c8 (n:UInt8)|c16 (n:UInt16)|c32 (n:UInt32)|c64 (n:UInt64)|cb (b:Bool)|cs
inductive F1 where
 | f (x:F0)
 | st (k:Nat)
 | agg (l:List F0)
 | clo (f:Nat) (a c:List F0)
inductive Sh where
 | g (x:F1)
 | tup (l:List F1)
def F0.ty (T:Nat->Type):F0->Type
 | .a x=>x.ty T
 | .bo=>Option (List UInt8)
 | .ow k=>Option (List (T k))
 | .e8=>UInt8
 | .er k _=>T k
 | .vw _ _=>Nat
 | .vr _ _ _=>Int
 | .blk k=>List (T k)
 | .yl=>Nat
 | _=>Unit
def ty0 (T:Nat->Type):List F0->Type
 | []=>Unit
 | s::l=>s.ty T × ty0 T l
def F1.ty (T:Nat->Type):F1->Type
 | .f x=>x.ty T
 | .st k=>T k
 | .agg l=>ty0 T l
 | .clo _ a c=>ty0 T a × ty0 T c
def ty1 (T:Nat->Type):List F1->Type
 | []=>Unit
 | s::l=>s.ty T × ty1 T l
def Sh.ty (T:Nat->Type):Sh->Type
 | .g x=>x.ty T
 | .tup l=>ty1 T l
def inj0:(s:F0)->s.ty T->TV T
 | .a a,x=>injA a x
 | .bo,x=>.bo x
 | .ow k,x=>.ow k x
 | .e8,x=>.e8 x
 | .er k off,x=>.er k x off
 | .ref i o,_=>.ref i o
 | .vw k i,n=>.vw k i n
 | .vr k i o,x=>.vr k i x o
 | .blk k,l=>.blk k l
 | .yl,l=>.yl l
 | .nilS,_=>.nilS
 | .nilP,_=>.nilP
 | .nilF,_=>.nilF
 | .junk,_=>.junk
 | .ci k n,_=>.n k n|.c8 n,_=>.u8 n|.c16 n,_=>.u16 n|.c32 n,_=>.u32 n|.c64 n,_=>.u64 n|.cb b,_=>.b b|.cs,_=>.s []
def inj0L:(l:List F0)->ty0 T l->List (TV T)
 | [],_=>[]
 | s::l,x=>inj0 s x.1::inj0L l x.2
def inj1 (tb:Tab T):(s:F1)->s.ty T->TV T
 | .f a,x=>inj0 a x
 | .st k,x=>.agg (tb.rw k x)
 | .agg l,x=>.agg (inj0L l x)
 | .clo f a c,x=>.clo f (inj0L a x.1) (inj0L c x.2)
def inj1L (tb:Tab T):(l:List F1)->ty1 T l->List (TV T)
 | [],_=>[]
 | s::l,x=>inj1 tb s x.1::inj1L tb l x.2
def inj (tb:Tab T):(s:Sh)->s.ty T->TV T
 | .g s,x=>inj1 tb s x
 | .tup l,x=>.tup (inj1L tb l x)
def prjBo:TV T->Option (Option (List UInt8))
 | .bo o=>some o
 | .bs none=>some none
 | .nilS=>some none
 | _=>none
def prjOw (k:Nat):TV T->Option (Option (List (T k)))
 | .ow k' o=>if h:k'=k then some (h ▸ o) else none
 | .sl k' none=>if k'=k then some none else none
 | .nilS=>some none
 | _=>none
def prjSt (tb:Tab T) (k:Nat):TV T->Option (T k)
 | .agg cs=>mkT tb k cs
 | _=>none
def prjE8:TV T->Option UInt8
 | .e8 x=>some x
 | _=>none
def prjEr (k off:Nat):TV T->Option (T k)
 | .er k' x off'=>if h:k'=k then (if Nat.beq off' off then some (h ▸ x) else none) else none
 | _=>none
def yv693 (i o:Nat):TV T->Option Unit
 | .ref i' o'=>if Nat.beq i' i && Nat.beq o' o then some () else none
 | _=>none
def prjVw (k i:Nat):TV T->Option Nat
 | .vw k' i' n=>if Nat.beq k' k && Nat.beq i' i then some n else none
 | _=>none
def prjVr (k i o:Nat):TV T->Option Int
 | .vr k' i' x o'=>if Nat.beq k' k && Nat.beq i' i && Nat.beq o' o then some x else none
 | _=>none
def prjYl:TV T->Option Nat
 | .yl l=>some l
 | _=>none
def prjC (c:Nat):TV T->Option Unit
 | .nilS=>if Nat.beq c 0 then some () else none
 | .nilP=>if Nat.beq c 1 then some () else none
 | .nilF=>if Nat.beq c 2 then some () else none
 | .junk=>if Nat.beq c 3 then some () else none
 | _=>none
def prjK:TV T->TV T->Option Unit
 | .n k n,.n k' x=>if k'=k then (if decide (x=n) then some () else none) else none
 | .u8 n,.u8 x=>if decide (x=n) then some () else none
 | .u16 n,.u16 x=>if decide (x=n) then some () else none
 | .u32 n,.u32 x=>if decide (x=n) then some () else none
 | .u64 n,.u64 x=>if decide (x=n) then some () else none
 | .b n,.b x=>if decide (x=n) then some () else none
 | .s n,.s x=>if decide (x=n) then some () else none
 | _,_=>none
def aggO:TV T->Option (List (TV T))
 | .agg cs=>some cs
 | _=>none
def tupO:TV T->Option (List (TV T))
 | .tup cs=>some cs
 | _=>none
def cloO:TV T->Option (Nat × List (TV T) × List (TV T))
 | .clo f a c=>some (f,a,c)
 | _=>none
theorem yv731 {v:TV T} {cs:List (TV T)} (h:aggO v=some cs):v=.agg cs:=by cases v<;>cases h<;>rfl
theorem yv775 {v:TV T} {cs:List (TV T)} (h:tupO v=some cs):v=.tup cs:=by cases v<;>cases h<;>rfl
theorem yv739 {v:TV T} {p:Nat × List (TV T) × List (TV T)} (h:cloO v=some p):v=.clo p.1 p.2.1 p.2.2:=by cases v<;>cases h<;>rfl
def prj0 (s:F0) (v:TV T):Option (s.ty T) :=
 match s with
 | .a a=>prjA a v
 | .bo=>prjBo v
 | .ow k=>prjOw k v
 | .e8=>prjE8 v
 | .er k off=>prjEr k off v
 | .ref i o=>yv693 i o v
 | .vw k i=>prjVw k i v
 | .vr k i o=>prjVr k i o v
 | .blk _=>none
 | .yl=>prjYl v
 | .nilS=>prjC 0 v
 | .nilP=>prjC 1 v
 | .nilF=>prjC 2 v
 | .junk=>prjC 3 v
 | .ci k n=>prjK (.n k n) v|.c8 n=>prjK (.u8 n) v|.c16 n=>prjK (.u16 n) v|.c32 n=>prjK (.u32 n) v|.c64 n=>prjK (.u64 n) v|.cb b=>prjK (.b b) v|.cs=>prjK (.s []) v
def prj0L:(l:List F0)->List (TV T)->Option (ty0 T l)
 | [],[]=>some ()
 | s::l,v::vs=>(prj0 s v).bind fun x=>(prj0L l vs).bind fun y=>some (x,y)
 | _,_=>none
def prj1 (tb:Tab T) (s:F1) (v:TV T):Option (s.ty T) :=
 match s with
 | .f a=>prj0 a v
 | .st k=>prjSt tb k v
 | .agg l=>(aggO v).bind fun cs=>prj0L l cs
 | .clo f a c=>(cloO v).bind fun p=>if Nat.beq p.1 f then (prj0L a p.2.1).bind fun x=>(prj0L c p.2.2).bind fun y=>some (x,y) else none
def prj1L (tb:Tab T):(l:List F1)->List (TV T)->Option (ty1 T l)
 | [],[]=>some ()
 | s::l,v::vs=>(prj1 tb s v).bind fun x=>(prj1L tb l vs).bind fun y=>some (x,y)
 | _,_=>none
def prjX (tb:Tab T) (s:Sh) (v:TV T):Option (s.ty T) :=
 match s with
 | .g a=>prj1 tb a v
 | .tup l=>(tupO v).bind fun cs=>prj1L tb l cs
theorem yv688 {v:TV T} {x:Option (List UInt8)} (h:prjBo v=some x):av tb v=av tb (.bo x):=by
 unfold prjBo at h
 split at h<;>cases h<;>rfl
theorem yv692 {k:Nat} {v:TV T} {x:Option (List (T k))} (h:prjOw k v=some x):av tb v=av tb (.ow k x):=by
 unfold prjOw at h
 split at h
 ·split at h
  ·rename_i hk;subst hk;cases h;rfl
  ·cases h
 ·split at h
  ·rename_i hk;subst hk;cases h;rfl
  ·cases h
 ·cases h;rfl
 ·cases h
theorem yv694 (ok:tb.Ok) {k:Nat} {v:TV T} {x:T k} (h:prjSt tb k v=some x):av tb v=av tb (.agg (tb.rw k x)):=by
 unfold prjSt at h
 split at h
 ·simp only [av,yv585 ok h,rw_av ok]
 ·cases h
theorem yv689 {v:TV T} {x:UInt8} (h:prjE8 v=some x):av tb v=av tb (.e8 x):=by
 unfold prjE8 at h
 split at h<;>cases h;rfl
theorem yv690 {k off:Nat} {v:TV T} {x:T k} (h:prjEr k off v=some x):av tb v=av tb (.er k x off):=by
 unfold prjEr at h
 split at h
 ·split at h
  ·rename_i hk;subst hk
   split at h
   ·rename_i ho;cases h;rw [Nat.eq_of_beq_eq_true ho]
   ·cases h
  ·cases h
 ·cases h
theorem yv592 {i o:Nat} {v:TV T} {x:Unit} (h:yv693 i o v=some x):v=.ref i o:=by
 unfold yv693 at h
 split at h
 ·split at h
  ·rename_i ho
   simp only [Bool.and_eq_true] at ho
   rw [Nat.eq_of_beq_eq_true ho.1,Nat.eq_of_beq_eq_true ho.2]
  ·cases h
 ·cases h
theorem yv696 {k i:Nat} {v:TV T} {x:Nat} (h:prjVw k i v=some x):v=.vw k i x:=by
 unfold prjVw at h
 split at h
 ·split at h
  ·rename_i ho
   simp only [Bool.and_eq_true] at ho
   cases h
   rw [Nat.eq_of_beq_eq_true ho.1,Nat.eq_of_beq_eq_true ho.2]
  ·cases h
 ·cases h
theorem yv695 {k i o:Nat} {v:TV T} {x:Int} (h:prjVr k i o v=some x):v=.vr k i x o:=by
 unfold prjVr at h
 split at h
 ·split at h
  ·rename_i ho
   simp only [Bool.and_eq_true] at ho
   cases h
   rw [Nat.eq_of_beq_eq_true ho.1.1,Nat.eq_of_beq_eq_true ho.1.2,Nat.eq_of_beq_eq_true ho.2]
  ·cases h
 ·cases h
theorem yv697 {v:TV T} {x:Nat} (h:prjYl v=some x):v=.yl x:=by cases v<;>cases h<;>rfl
theorem yv338 {c:Nat} {v:TV T} {x:Unit} (h:prjC c v=some x):(c=0->v=.nilS)∧(c=1->v=.nilP)∧(c=2->v=.nilF)∧(c=3->v=.junk):=by
 unfold prjC at h
 split at h
 all_goals first
  | (cases h;done)
  | (split at h
     ·rename_i hc;have:=Nat.eq_of_beq_eq_true hc;subst this;simp
     ·cases h)
theorem yv157 {a v:TV T} {x:Unit} (h:prjK a v=some x):v=a:=by
 unfold prjK at h
 split at h
 ·split at h
  ·rename_i hk;subst hk
   split at h
   ·rename_i hd;rw [of_decide_eq_true hd]
   ·cases h
  ·cases h
 all_goals first
  | (cases h;done)
  | (split at h
     ·rename_i hd;rw [of_decide_eq_true hd]
     ·cases h)
theorem yv632 {s:F0} {v:TV T} {x:s.ty T} (h:prj0 s v=some x):av tb v=av tb (inj0 s x):=by
 cases s with
 | a a=>exact (yv634 h).trans (yv676 a x).symm
 | bo=>exact yv688 h
 | ow k=>exact yv692 h
 | e8=>exact yv689 h
 | er k off=>exact yv690 h
 | ref i o=>exact congrArg (av tb) (yv592 h)
 | vw k i=>exact congrArg (av tb) (yv696 h)
 | vr k i o=>exact congrArg (av tb) (yv695 h)
 | blk k=>cases h
 | yl=>exact congrArg (av tb) (yv697 h)
 | nilS=>exact congrArg (av tb) ((yv338 h).1 rfl)
 | nilP=>exact congrArg (av tb) ((yv338 h).2.1 rfl)
 | nilF=>exact congrArg (av tb) ((yv338 h).2.2.1 rfl)
 | junk=>exact congrArg (av tb) ((yv338 h).2.2.2 rfl)
 | ci k n=>exact congrArg (av tb) (yv157 h)
 | c8 n=>exact congrArg (av tb) (yv157 h)
 | c16 n=>exact congrArg (av tb) (yv157 h)
 | c32 n=>exact congrArg (av tb) (yv157 h)
 | c64 n=>exact congrArg (av tb) (yv157 h)
 | cb b=>exact congrArg (av tb) (yv157 h)
 | cs=>exact congrArg (av tb) (yv157 h)
theorem yv221:∀ {l:List F0} {vs:List (TV T)} {x:ty0 T l},prj0L l vs=some x->avL tb vs=avL tb (inj0L l x)
 | [],[],x,h=>rfl
 | [],_::_,x,h=>by cases h
 | _::_,[],x,h=>by cases h
 | s::l,v::vs,x,h=>by
  simp only [prj0L] at h
  obtain ⟨y,h1,h⟩:=yv3 h
  obtain ⟨z,h2,h⟩:=yv3 h
  cases h
  simp only [avL,inj0L,yv632 (tb:=tb) h1,yv221 h2]
theorem yv633 (ok:tb.Ok) {s:F1} {v:TV T} {x:s.ty T} (h:prj1 tb s v=some x):av tb v=av tb (inj1 tb s x):=by
 cases s with
 | f a=>exact yv632 h
 | st k=>exact yv694 ok h
 | agg l =>
  obtain ⟨cs,h0,h⟩:=yv3 h
  rw [yv731 h0]
  exact congrArg AV.agg (yv221 h)
 | clo f a c =>
  obtain ⟨p,h0,h⟩:=yv3 h
  rw [yv739 h0]
  split at h
  ·rename_i hf
   obtain ⟨y,h1,h⟩:=yv3 h
   obtain ⟨z,h2,h⟩:=yv3 h
   cases h
   have e:=Nat.eq_of_beq_eq_true hf
   show AV.clo (.func p.1) (avL tb p.2.1) (avL tb p.2.2)=AV.clo (.func f) (avL tb (inj0L a y)) (avL tb (inj0L c z))
   rw [yv221 h1,yv221 h2,e]
  ·cases h
theorem yv486 (ok:tb.Ok):∀ {l:List F1} {vs:List (TV T)} {x:ty1 T l},prj1L tb l vs=some x->avL tb vs=avL tb (inj1L tb l x)
 | [],[],x,h=>rfl
 | [],_::_,x,h=>by cases h
 | _::_,[],x,h=>by cases h
 | s::l,v::vs,x,h=>by
  simp only [prj1L] at h
  obtain ⟨y,h1,h⟩:=yv3 h
  obtain ⟨z,h2,h⟩:=yv3 h
  cases h
  simp only [avL,inj1L,yv633 ok h1,yv486 ok h2]
theorem yv635 (ok:tb.Ok) (s:Sh) (v:TV T) (x:s.ty T) (h:prjX tb s v=some x):av tb v=av tb (inj tb s x):=by
 cases s with
 | g a=>exact yv633 ok h
 | tup l =>
  obtain ⟨cs,h0,h⟩:=yv3 h
  rw [yv775 h0]
  exact congrArg AV.tup (yv486 ok h)
def yv252 {α:Type}:Option α->Option α->Option α
 | some a,_=>some a
 | none,o=>o
def prj (tb:Tab T) (s:Sh) (v:TV T):Option (s.ty T):=yv252 (prjX tb s v) (prjX tb s (yv43 v))
theorem yv489 (ok:tb.Ok) {s:Sh} {v:TV T} {x:s.ty T} (h:prj tb s v=some x):adm (av tb v) (av tb (inj tb s x)):=by
 unfold prj at h
 cases h1:prjX tb s v with
 | some y =>
  rw [h1] at h
  simp only [yv252,Option.some.injEq] at h
  subst h
  exact .inl (yv635 ok s v _ h1)
 | none =>
  rw [h1] at h
  simp only [yv252] at h
  refine .inr ?_
  rw [yv86]
  exact yv635 ok s _ _ h
def tyL (T:Nat->Type):List Sh->Type
 | []=>Unit
 | s::l=>s.ty T × tyL T l
def injL (tb:Tab T):(l:List Sh)->tyL T l->List (TV T)
 | [],_=>[]
 | s::l,x=>inj tb s x.1::injL tb l x.2
def prjL (tb:Tab T):(l:List Sh)->List (TV T)->Option (tyL T l)
 | [],[]=>some ()
 | s::l,v::vs=>(prj tb s v).bind fun x=>(prjL tb l vs).bind fun y=>some (x,y)
 | _,_=>none
theorem yv222 (ok:tb.Ok):∀ {l:List Sh} {vs:List (TV T)} {x:tyL T l},prjL tb l vs=some x->admL (avL tb vs) (avL tb (injL tb l x))
 | [],[],x,h=>trivial
 | [],_::_,x,h=>by cases h
 | _::_,[],x,h=>by cases h
 | s::l,v::vs,x,h=>by
  simp only [prjL] at h
  obtain ⟨y,h1,h⟩:=yv3 h
  obtain ⟨z,h2,h⟩:=yv3 h
  cases h
  exact ⟨yv489 ok h1,yv222 ok h2⟩
def tyH (T:Nat->Type):List (List Sh)->Type
 | []=>Unit
 | l::h=>tyL T l × tyH T h
def injH (tb:Tab T):(h:List (List Sh))->tyH T h->THeap T
 | [],_=>[]
 | l::h,x=>injL tb l x.1::injH tb h x.2
def yv687 (k:Nat):List (TV T)->Option (List (T k))
 | [.blk k' l]=>if h:k'=k then some (h ▸ l) else none
 | _=>none
theorem yv591 {k:Nat} {o:List (TV T)} {l:List (T k)} (h:yv687 k o=some l):o=[.blk k l]:=by
 unfold yv687 at h
 split at h
 ·split at h
  ·rename_i hk;subst hk;cases h;rfl
  ·cases h
 ·cases h
def prjB:(s:Sh)->List (TV T)->Option (s.ty T)
 | .g (.f (.blk k)),o=>yv687 k o
 | _,_=>none
theorem yv766 {s:Sh} {o:List (TV T)} {x:s.ty T} (h:prjB s o=some x):o=[inj tb s x]:=by
 cases s with
 | g f =>
  cases f with
  | f a =>
   cases a with
   | blk k=>exact yv591 h
   | _=>cases h
  | _=>cases h
 | tup l=>cases h
def isBlk:Sh->Bool
 | .g (.f (.blk _))=>true
 | _=>false
def prjO (tb:Tab T):(l:List Sh)->List (TV T)->Option (tyL T l)
 | [],_=>some ()
 | s::l,o=>if isBlk s then (match l with|[]=>(prjB s o).bind fun x=>some (x,())|_::_=>none) else (prjL tb (s::l) o).bind fun x=>if nb o && nb (injL tb (s::l) x) then some x else none
theorem yv386:∀ l:List AV,admL l l
 | []=>trivial
 | a::l=>⟨.inl rfl,yv386 l⟩
theorem yv691 (ok:tb.Ok) {l:List Sh} {o:List (TV T)} {x:tyL T l} (h:prjO tb l o=some x):admO (avO tb o) (avO tb (injL tb l x)):=by
 cases l with
 | nil=>exact .inr rfl
 | cons s l =>
  simp only [prjO] at h
  split at h
  ·cases l with
   | nil =>
    obtain ⟨y,h1,h⟩:=yv3 h
    cases h
    rw [yv766 (tb:=tb) h1]
    exact .inl (yv386 _)
   | cons=>cases h
  ·obtain ⟨y,h1,h⟩:=yv3 h
   split at h
   ·rename_i hn
    cases h
    simp only [Bool.and_eq_true] at hn
    rw [yv172 hn.1,yv172 hn.2]
    exact .inl (yv222 ok h1)
   ·cases h
def prjH (tb:Tab T):(h:List (List Sh))->THeap T->Option (tyH T h)
 | [],[]=>some ()
 | l::h,o::os=>(prjO tb l o).bind fun x=>(prjH tb h os).bind fun y=>some (x,y)
 | _,_=>none
theorem yv114 (ok:tb.Ok):∀ {h:List (List Sh)} {os:THeap T} {x:tyH T h},prjH tb h os=some x->admH (avH tb os) (avH tb (injH tb h x))
 | [],[],x,h=>trivial
 | [],_::_,x,h=>by cases h
 | _::_,[],x,h=>by cases h
 | l::hs,o::os,x,h=>by
  simp only [prjH] at h
  obtain ⟨y,h1,h⟩:=yv3 h
  obtain ⟨z,h2,h⟩:=yv3 h
  cases h
  exact ⟨yv691 ok h1,yv114 ok h2⟩
theorem yv54:∀ (sh:List (List Sh)) (x:tyH T sh),(injH tb sh x).length=sh.length
 | [],_=>rfl
 | _::l,x=>by simp [injH,yv54 l]
def tyE (T:Nat->Type):List (Nat × Sh)->Type
 | []=>Unit
 | (_,s)::l=>s.ty T × tyE T l
def injE (tb:Tab T):(l:List (Nat × Sh))->tyE T l->TEnv T
 | [],_=>[]
 | (k,s)::l,x=>(k,inj tb s x.1)::injE tb l x.2
def prjE (tb:Tab T):(l:List (Nat × Sh))->TEnv T->Option (tyE T l)
 | [],[]=>some ()
 | (k,s)::l,(k',v)::e=>if Nat.beq k' k then (prj tb s v).bind fun x=>(prjE tb l e).bind fun y=>some (x,y) else none
 | _,_=>none
theorem yv488 (ok:tb.Ok):∀ {l:List (Nat × Sh)} {e:TEnv T} {x:tyE T l},prjE tb l e=some x->∀ t,adm (lk (avE tb e) t) (lk (avE tb (injE tb l x)) t)
 | [],[],x,h,t=>.inl rfl
 | [],_::_,x,h,t=>by cases h
 | _::_,[],x,h,t=>by cases h
 | (k,s)::l,(k',v)::e,x,h,t=>by
  simp only [prjE] at h
  split at h
  ·rename_i hk
   obtain ⟨y,h1,h⟩:=yv3 h
   obtain ⟨z,h2,h⟩:=yv3 h
   cases h
   have:=Nat.eq_of_beq_eq_true hk
   subst this
   simp only [avE,List.map_cons,injE,lk]
   split
   ·exact yv489 ok h1
   ·exact yv488 ok h2 t
  ·cases h
structure SSh where
 env:List (Nat × Sh)
 heap:List (List Sh)
def SSh.ty (T:Nat->Type) (s:SSh):Type:=tyE T s.env × tyH T s.heap
def injS (tb:Tab T) (sh:SSh) (x:sh.ty T):TSt T:=⟨injE tb sh.env x.1,injH tb sh.heap x.2⟩
def chkS (m:Nat) (s:TSt T):Bool:=s.env.all (fun p=>(refsT p.2).all fun i=>Nat.blt i m) && s.heap.all fun o=>(yv66 o).all fun i=>Nat.blt i m
def prjS (tb:Tab T) (n:Nat) (sh:SSh) (s:TSt T):Option (sh.ty T) :=
 if Nat.ble n sh.heap.length && Nat.ble sh.heap.length s.heap.length then
  (prjE tb sh.env s.env).bind fun x=>(prjH tb sh.heap (s.heap.take sh.heap.length)).bind fun y=>if chkS sh.heap.length (injS tb sh (x,y)) then some (x,y) else none
 else none
theorem yv236 {i k:Nat} (h:Nat.blt i k=true):i < k:=Nat.le_of_ble_eq_true h
theorem yv369 {p:AV->Bool} (hp:p .junk=true):∀ {e:TEnv T},(∀ q ∈ e,p (av tb q.2)=true)->∀ t,p (lk (avE tb e) t)=true
 | [],_,t=>hp
 | (k,v)::e,h,t=>by
  simp only [avE,List.map_cons,lk]
  split
  ·exact h _ List.mem_cons_self
  ·exact yv369 hp (fun q hq=>h q (List.mem_cons_of_mem _ hq)) t
theorem yv115 (ok:tb.Ok) {n:Nat} {sh:SSh} {s:TSt T} {x:sh.ty T} (h:prjS tb n sh s=some x):admS (avS tb s) (avS tb (injS tb sh x))∧n ≤ (avS tb (injS tb sh x)).heap.length:=by
 simp only [prjS] at h
 split at h
 ·rename_i hb
  simp only [Bool.and_eq_true] at hb
  obtain ⟨b1,b2⟩:=hb
  have b1:=Nat.le_of_ble_eq_true b1
  have b2:=Nat.le_of_ble_eq_true b2
  obtain ⟨y,h1,h⟩:=yv3 h
  obtain ⟨z,h2,h⟩:=yv3 h
  split at h
  ·rename_i hc
   cases h
   have el:(avS tb (injS tb sh (y,z))).heap.length=sh.heap.length:=by
    show (avH tb (injH tb sh.heap z)).length=_
    rw [yv12,yv54]
   have el2:(avS tb s).heap.length=s.heap.length:=yv12 _
   simp only [chkS,Bool.and_eq_true] at hc
   refine ⟨⟨fun t=>.inl (yv488 ok h1 t),by rw [el,el2];exact b2,?_,fun t=>?_,?_⟩,by rw [el];exact b1⟩
   ·rw [el]
    have:(avS tb s).heap.take sh.heap.length=avH tb (s.heap.take sh.heap.length):=by simp [avS,avH,List.map_take]
    rw [this]
    exact yv114 ok h2
   ·rw [el]
    refine yv369 (p:=fun a=>(yv16 a).all fun i=>decide (i < sh.heap.length)) rfl (fun q hq=>?_) t
    refine List.all_eq_true.2 fun i hi=>decide_eq_true ?_
    rw [yv163] at hi
    exact yv236 (List.all_eq_true.1 (List.all_eq_true.1 hc.1 q hq) i hi)
   ·rw [el]
    refine List.all_eq_true.2 fun ob hob=>List.all_eq_true.2 fun i hi=>decide_eq_true ?_
    simp only [avS,avH,List.mem_map] at hob
    obtain ⟨o,ho',rfl⟩:=hob
    rw [yv82] at hi
    exact yv236 (List.all_eq_true.1 (List.all_eq_true.1 hc.2 o ho') i hi)
  ·cases h
 ·cases h
theorem yv304 {p q:Nat->Cut T->TCode T->Prop} (hpq:∀ n o c,p n o c->q n o c):∀ {c:TCode T},allC p c->allC q c:=by
 intro c
 induction c with
 | seq a b iha ihb=>exact fun h=>⟨iha h.1,ihb h.2⟩
 | cond _ a b iha ihb=>exact fun h=>⟨iha h.1,ihb h.2⟩
 | block _ b ih=>exact ih
 | loop b ih=>exact ih
 | drop _ c ih=>exact ih
 | cut n o c ih=>exact hpq n o c
 | fin n o c ih=>exact fun h=>⟨hpq _ _ _ h.1,ih h.2⟩
 | frz _ _ c ih=>exact ih
 | fend _ c ih=>exact ih
 | thw _ c ih=>exact ih
 | rng _ _ a b iha ihb=>exact fun h=>⟨iha h.1,ihb h.2⟩
 | _=>exact fun _=>trivial
section
variable {orcs:Orcs T}
abbrev yv171 (P:Program) (W:World->Prop) (tb:Tab T) (c:TCode T):Prop:=allC (fun n o c=>o.Ok P W tb n c) c
def cutJ (tb:Tab T) (n:Nat) (sh:SSh) (B:(ρ:Type)->sh.ty T->(SExit->TSt T->Option ρ)->Option ρ):Cut T:=⟨fun s k=>(prjS tb n sh s).bind fun x=>B _ x k⟩
theorem yv817 (ok:tb.Ok) (ho:yv39 P W tb orcs) {c:TCode T} (hc:yv171 P W tb c) {n:Nat} {sh:SSh} {B:(ρ:Type)->sh.ty T->(SExit->TSt T->Option ρ)->Option ρ}
 (fact:∀ {ρ:Type} (x:sh.ty T) (k:SExit->TSt T->Option ρ),runS tb orcs c (injS tb sh x) k=B ρ x k):(cutJ tb n sh B).Ok P W tb n c:=by
 refine ⟨⟨fun {ρ σ} s k f=>?_⟩,fun {ρ} s k d h=>?_⟩
 ·simp only [cutJ]
  cases prjS tb n sh s with
  | none=>rfl
  | some x =>
   simp only [Option.bind_some]
   rw [← fact,← fact]
   exact yv514 ho.par (yv304 (fun n o c h=>h.toPar) hc)
 ·obtain ⟨x,h1,h2⟩:=yv3 h
  rw [← fact] at h2
  exact ⟨_,(yv115 ok h1).1,(yv115 ok h1).2,yv119 ok ho hc h2⟩
def cutL {Z Y:Type} (tb:Tab T) (n:Nat) (sh:SSh) (z0:sh.ty T->Z) (step:sh.ty T->Z->Option (Z ⊕ Y)) (EX:(ρ:Type)->sh.ty T->Y->(SExit->TSt T->Option ρ)->Option ρ):Cut T :=
 ⟨fun s k=>(prjS tb n sh s).bind fun x=>(iter (step x) (z0 x)).bind fun y=>EX _ x y k⟩
theorem yv818 {Z Y:Type} (ok:tb.Ok) (ho:yv39 P W tb orcs) {c:TCode T} (hc:yv171 P W tb c) {n:Nat} {sh:SSh} {z0:sh.ty T->Z} {step:sh.ty T->Z->Option (Z ⊕ Y)} {EX:(ρ:Type)->sh.ty T->Y->(SExit->TSt T->Option ρ)->Option ρ}
 (B:(ρ:Type)->sh.ty T->Z->(Z->Option ρ)->(Y->Option ρ)->Option ρ) (up:sh.ty T->Z->TSt T) (ex:sh.ty T->Y->SExit × TSt T) (pz:TSt T->Option Z) (py:SExit->TSt T->Option Y)
 (h0:∀ x,injS tb sh x=up x (z0 x)) (hstep:∀ x z,step x z=B _ x z (fun z=>some (.inl z)) (fun y=>some (.inr y)))
 (hEX:∀ {ρ:Type} x y (k:SExit->TSt T->Option ρ),EX _ x y k=k (ex x y).1 (ex x y).2) (hne:∀ x y,(ex x y).1 ≠ .normal)
 (hpz:∀ x z,pz (up x z)=some z) (hpy:∀ x y,py (ex x y).1 (ex x y).2=some y)
 (fact:∀ {ρ:Type} (x:sh.ty T) (z:Z) (k:SExit->TSt T->Option ρ),runS tb orcs c (up x z) k=B _ x z (fun z=>k .normal (up x z)) (fun y=>EX _ x y k)):(cutL tb n sh z0 step EX).Ok P W tb n (.loop c):=by
 refine ⟨⟨fun {ρ σ} s k f=>?_⟩,fun {ρ} s k d h=>?_⟩
 ·simp only [cutL]
  cases prjS tb n sh s with
  | none=>rfl
  | some x =>
   simp only [Option.bind_some]
   cases iter (step x) (z0 x) with
   | none=>rfl
   | some y=>simp only [Option.bind_some,hEX]
 ·obtain ⟨x,h1,h⟩:=yv3 h
  obtain ⟨y,h2,h3⟩:=yv3 h
  rw [hEX] at h3
  refine ⟨_,(yv115 ok h1).1,(yv115 ok h1).2,?_⟩
  rw [h0]
  simp only [erC]
  refine yv811 (f:=fun z=>avS tb (up x z)) h2 rfl fun z e hs he=>?_
  let k1:SExit->TSt T->Option (Z ⊕ Y):=fun e t=>match e with
   | .normal=>(pz t).bind fun z=>some (.inl z)
   | e=>(py e t).bind fun y=>some (.inr y)
  let C:SExit->TSt T->Prop:=fun e t=>(e=.normal∧∃ z',t=up x z')∨∃ y',(e,t)=ex x y'
  let k2:SExit->TSt T->Option (Z ⊕ Y):=fun e t=>@ite _ (C e t) (Classical.propDecidable _) (k1 e t) none
  have e1:∀ z',k2 .normal (up x z')=some (.inl z'):=fun z'=>by
   simp only [k2]
   rw [if_pos (.inl ⟨rfl,z',rfl⟩)]
   simp only [k1,hpz,Option.bind_some]
  have e2:∀ y',EX _ x y' k2=some (.inr y'):=fun y'=>by
   rw [hEX]
   simp only [k2]
   rw [if_pos (.inr ⟨y',rfl⟩)]
   have h1:=hne x y'
   have h2:=hpy x y'
   generalize (ex x y').1=e at h1 h2 ⊢
   cases e with
   | normal=>exact absurd rfl h1
   | _=>simp only [k1,h2,Option.bind_some]
  have hr:runS tb orcs c (up x z) k2=some e:=by
   rw [fact,← hs,hstep]
   congr 1
   ·funext z';exact e1 z'
   ·funext y';exact e2 y'
  refine yv27 (erC tb c) _ ?_ (yv119 ok ho hc hr)
  rintro e' s' ⟨t,rfl,ht⟩
  simp only [k2] at ht
  split at ht
  ·rename_i hC
   rcases hC with ⟨rfl,z',rfl⟩|⟨y',hy⟩
   ·simp only [k1,hpz,Option.bind_some,Option.some.injEq] at ht
    exact ⟨z',ht.symm,rfl⟩
   ·have h1:=hne x y'
    have h2:=hpy x y'
    rw [← hy] at h1 h2
    simp only at h1 h2
    have h4:e=.inr y':=by
     cases e' with
     | normal=>exact absurd rfl h1
     | _=>simp only [k1,h2,Option.bind_some,Option.some.injEq] at ht;exact ht.symm
    have h5:=he y' h4
    subst h5
    rw [← hy] at h3
    cases e' with
    | normal=>exact absurd rfl h1
    | _=>exact ⟨t,rfl,h3⟩
  ·cases ht
end
end Go.Rv
namespace Go.Rv
open Go.RowKit
variable {T:Nat->Type} {tb:Tab T} {P:Program} {W:World->Prop}
def resVT (s:TSt T):SRes->Option (TV T)
 | .tmp t=>if yv124 (lkT s.env t) then some (lkT s.env t) else none
 | .cell t n=>match lkT s.env t with
  | .ref id off=>if nb (hgetT s.heap id) then fldT (hgetT s.heap id) off n else none
  | _=>none
def yv598:TSt T->List SRes->Option (List (TV T))
 | _,[]=>some []
 | s,r::rs=>(resVT s r).bind fun a=>(yv598 (match r with|.tmp t=>⟨rmT s.env t,s.heap⟩|_=>s) rs).bind fun l=>some (a::l)
def tupT:List (TV T)->TV T
 | [a]=>a
 | l=>.tup l
def yv494 (s:TSt T) (rs:List SRes):Option (TV T):=(yv598 s rs).bind fun l=>some (tupT l)
theorem yv771 {s:TSt T} {r:SRes} {a:TV T} (h:resVT s r=some a):resV (avS tb s) r=some (av tb a):=by
 cases r with
 | tmp t =>
  simp only [resVT] at h
  split at h
  ·rename_i hn
   cases h
   have e:lk (avS tb s).env t=av tb (lkT s.env t):=lk_av _ _
   rw [← yv71 (tb:=tb)] at hn
   simp only [resV,e]
   generalize av tb (lkT s.env t)=x at hn ⊢
   cases x<;>first|rfl|cases hn
  ·cases h
 | cell t n =>
  simp only [resVT] at h
  split at h
  ·rename_i id off hl
   split at h
   case isFalse=>cases h
   rename_i hnb
   have e:lk (avS tb s).env t=.ref id off:=by
    show lk (avE tb s.env) t=_
    rw [lk_av,hl];rfl
   have h2:=yv364 (tb:=tb) h
   simp only [resV,e]
   rw [show hget (avS tb s).heap id=avL tb (hgetT s.heap id) from yv151 hnb]
   cases n with
   | none=>exact h2
   | some m=>exact h2
  ·cases h
theorem yv496:∀ {rs:List SRes} {s:TSt T} {l:List (TV T)},yv598 s rs=some l->resVs (avS tb s) rs=some (avL tb l)
 | [],s,l,h=>by cases h;rfl
 | r::rs,s,l,h=>by
  simp only [yv598] at h
  obtain ⟨a,h1,h⟩:=yv3 h
  obtain ⟨l',h2,h⟩:=yv3 h
  cases h
  have e2:=yv496 h2
  simp only [resVs,yv771 h1]
  cases r with
  | tmp t =>
   simp only [avS,rm_av] at e2 ⊢
   rw [e2];rfl
  | cell t n=>simp only at e2 ⊢;rw [e2];rfl
theorem yv597 {s:TSt T} {rs:List SRes} {r:TV T} (h:yv494 s rs=some r):yv295 (avS tb s) rs=some (av tb r):=by
 obtain ⟨l,h1,h2⟩:=yv3 h
 cases h2
 have:=yv496 (tb:=tb) h1
 match l,this with
 | [],e=>simp only [yv295,e];rfl
 | [a],e=>simp only [yv295,e];rfl
 | a::b::l,e=>simp only [yv295,e];rfl
structure RSp (T:Nat->Type) (tb:Tab T) (Y:Type) where
 py:TV T->THeap T->Option Y
 rs:Y->TV T × THeap T
def endB (k:Nat) (r:TV T) (h:THeap T):Bool:=Nat.ble k h.length && (refsT r).all (fun i=>Nat.blt i k) && (h.take k).all (fun ob=>(yv66 ob).all fun i=>Nat.blt i k)
structure RSp.Ok {Y:Type} (R:RSp T tb Y):Prop where
 ok:∀ r h y,R.py r h=some y->endB (R.rs y).2.length r h=true∧adm (av tb r) (av tb (R.rs y).1)∧admH (avH tb (h.take (R.rs y).2.length)) (avH tb (R.rs y).2)
def RSp.one {Y:Type} (tb:Tab T) (sr:Sh) (sh:List (List Sh)) (to:sr.ty T->tyH T sh->Y) (ofr:Y->sr.ty T) (ofh:Y->tyH T sh):RSp T tb Y :=
 ⟨fun r h=>if endB sh.length r h then (prj tb sr r).bind fun a=>(prjH tb sh (h.take sh.length)).bind fun b=>some (to a b) else none,fun y=>(inj tb sr (ofr y),injH tb sh (ofh y))⟩
theorem RSp.one_ok {Y:Type} (ok:tb.Ok) {sr:Sh} {sh:List (List Sh)} {to:sr.ty T->tyH T sh->Y} {ofr:Y->sr.ty T} {ofh:Y->tyH T sh} (h1:∀ a b,ofr (to a b)=a) (h2:∀ a b,ofh (to a b)=b):(RSp.one tb sr sh to ofr ofh).Ok:=by
 refine ⟨fun r h y hp=>?_⟩
 simp only [RSp.one] at hp
 split at hp
 ·rename_i hb
  obtain ⟨a,p1,hp⟩:=yv3 hp
  obtain ⟨b,p2,hp⟩:=yv3 hp
  cases hp
  simp only [RSp.one,h1,h2,yv54]
  exact ⟨hb,yv489 ok p1,yv114 ok p2⟩
 ·cases hp
def sumEl {α β:Type} (f:α->TV T × THeap T) (g:β->TV T × THeap T):α ⊕ β->TV T × THeap T
 | .inl a=>f a
 | .inr b=>g b
def RSp.or {Y Z:Type} (A:RSp T tb Y) (B:RSp T tb Z):RSp T tb (Y ⊕ Z) :=
 ⟨fun r h=>yv252 ((A.py r h).bind fun y=>some (.inl y)) ((B.py r h).bind fun y=>some (.inr y)),sumEl A.rs B.rs⟩
theorem RSp.or_ok {Y Z:Type} {A:RSp T tb Y} {B:RSp T tb Z} (ha:A.Ok) (hb:B.Ok):(RSp.or A B).Ok:=by
 refine ⟨fun r h y hp=>?_⟩
 simp only [RSp.or] at hp
 cases h1:A.py r h with
 | some z =>
  rw [h1] at hp
  simp only [Option.bind_some,yv252,Option.some.injEq] at hp
  subst hp
  exact ha.ok r h z h1
 | none =>
  rw [h1] at hp
  simp only [Option.bind_none,yv252] at hp
  obtain ⟨z,p1,hp⟩:=yv3 hp
  cases hp
  exact hb.ok r h z p1
def kR {Y:Type} (R:RSp T tb Y) (res:List SRes):SExit->TSt T->Option Y
 | .exit _,_=>none
 | _,t=>(yv494 t res).bind fun r=>R.py r t.heap
def argT:Nat->List (TV T)->TEnv T
 | _,[]=>[]
 | k,a::as=>(k,a)::argT (k + 1) as
theorem yv391:∀ (as:List (TV T)) (k:Nat),avE tb (argT k as)=yv99 k (avL tb as)
 | [],k=>rfl
 | a::as,k=>by
  have:=yv391 as (k + 1)
  simp only [avE] at this
  simp only [avE,argT,List.map_cons,avL,yv99,this]
theorem yv803 {Y:Type} {R:RSp T tb Y} (ho:R.Ok) {res:List SRes} {e:SExit} {t:TSt T} {y:Y} (h:kR R res e t=some y) :
 endQ res (avH tb (R.rs y).2).length (FinR (av tb (R.rs y).1) (avH tb (R.rs y).2)) e (avS tb t):=by
 have key:∀ r,yv494 t res=some r->R.py r t.heap=some y->∃ r',yv295 (avS tb t) res=some r'∧(avH tb (R.rs y).2).length ≤ (avS tb t).heap.length∧(yv16 r').all (fun i=>decide (i < (avH tb (R.rs y).2).length))=true ∧
  ((avS tb t).heap.take (avH tb (R.rs y).2).length).all (fun ob=>(refsL ob).all fun i=>decide (i < (avH tb (R.rs y).2).length))=true∧FinR (av tb (R.rs y).1) (avH tb (R.rs y).2) r' ((avS tb t).heap.take (avH tb (R.rs y).2).length):=by
  intro r hr hp
  obtain ⟨h1,h2,h3⟩:=ho.ok r t.heap y hp
  have el:(avH tb (R.rs y).2).length=(R.rs y).2.length:=yv12 _
  have et:(avS tb t).heap.take (R.rs y).2.length=avH tb (t.heap.take (R.rs y).2.length):=by simp [avS,avH,List.map_take]
  simp only [endB,Bool.and_eq_true] at h1
  obtain ⟨⟨b1,b2⟩,b3⟩:=h1
  have bl:∀ {i k:Nat},Nat.blt i k=true->i < k:=fun h=>Nat.le_of_ble_eq_true h
  refine ⟨_,yv597 hr,?_,?_,?_,?_⟩
  ·rw [el]
   have:(avS tb t).heap.length=t.heap.length:=yv12 _
   rw [this];exact Nat.le_of_ble_eq_true b1
  ·rw [yv163,el]
   exact List.all_eq_true.2 fun i hi=>decide_eq_true (bl (List.all_eq_true.1 b2 i hi))
  ·rw [el,et]
   refine List.all_eq_true.2 fun ob hob=>List.all_eq_true.2 fun i hi=>decide_eq_true ?_
   simp only [avH,List.mem_map] at hob
   obtain ⟨o,ho',rfl⟩:=hob
   rw [yv82] at hi
   exact bl (List.all_eq_true.1 (List.all_eq_true.1 b3 o ho') i hi)
  ·rw [el,et];exact ⟨h2,h3⟩
 cases e with
 | exit i=>cases h
 | normal =>
  obtain ⟨r,h1,h2⟩:=yv3 h
  exact key r h1 h2
 | ret =>
  obtain ⟨r,h1,h2⟩:=yv3 h
  exact key r h1 h2
theorem Good.admH {as:List AV} {H H0 H':Heap} {f:FuncId} {r:AV} (x:Rv.admH H H0) (g:Good P W f as H0 r H'):Good P W f as H r H':=by
 intro W0 hL φ gh w vs hi hh hl ha
 have e:=(yv78 x).1
 rw [e] at ha ⊢
 exact g W0 hL φ gh w vs hi (hh.adm x) hl ha
section
variable {orcs:Orcs T} {Y:Type}
def mkOrc (tb:Tab T) (sa:List Sh) (sh:List (List Sh)) (F:tyL T sa->tyH T sh->Option Y) (RX:(ρ:Type)->Y->(TV T->THeap T->Option ρ)->Option ρ):Orc T :=
 ⟨fun as h k=>(prjL tb sa as).bind fun x=>(prjH tb sh h).bind fun z=>(F x z).bind fun y=>RX _ y k⟩
theorem yv805 {sa:List Sh} {sh:List (List Sh)} {F F1 F2:tyL T sa->tyH T sh->Option Y} {RX:(ρ:Type)->Y->(TV T->THeap T->Option ρ)->Option ρ} {f:Nat} (c:tyL T sa->Bool)
 (hF:∀ x z,F x z=bif c x then F1 x z else F2 x z) (h1:(mkOrc tb sa sh F1 RX).Ok P W tb f) (h2:(mkOrc tb sa sh F2 RX).Ok P W tb f):(mkOrc tb sa sh F RX).Ok P W tb f:=by
 have key:∀ {ρ:Type} (as:List (TV T)) (h:THeap T) (k:TV T->THeap T->Option ρ),(mkOrc tb sa sh F RX).run as h k=(match prjL tb sa as with|none=>none|some x=>bif c x then (mkOrc tb sa sh F1 RX).run as h k else (mkOrc tb sa sh F2 RX).run as h k):=by
  intro ρ as h k
  simp only [mkOrc]
  cases prjL tb sa as with
  | none=>rfl
  | some x =>
   simp only [Option.bind_some,hF]
   cases c x<;>rfl
 refine ⟨⟨fun as h k g=>?_⟩,h1.en,fun as h k d hd=>?_⟩
 ·rw [key,key]
  cases prjL tb sa as with
  | none=>rfl
  | some x =>
   dsimp only
   cases c x with
   | false=>exact h2.par _ _ _ _
   | true=>exact h1.par _ _ _ _
 ·rw [key] at hd
  cases hp:prjL tb sa as with
  | none=>rw [hp] at hd;cases hd
  | some x =>
   rw [hp] at hd
   cases hc:c x<;>simp only [hc,cond_true,cond_false] at hd
   ·exact h2.snd _ _ _ _ hd
   ·exact h1.snd _ _ _ _ hd
theorem yv750 (ok:tb.Ok) (ho:yv39 P W tb orcs) {f:FuncId} {fn:Func} {c:TCode T} {res:List SRes} {n:Nat} {as:List (TV T)} {H:THeap T} {R:RSp T tb Y} (hR:R.Ok) {y:Y}
 (hf:P.funcs[f]?=some fn) (hok:fnOk P fn ⟨erC tb c,res,n⟩=true) (hwk:wkOk H.length (erC tb c)=true) (hen:yv25 P f=true) (hl:Nat.ble as.length n=true) (hH:Nat.ble H.length (R.rs y).2.length=true) (hc:yv171 P W tb c)
 (hrun:runS tb orcs c ⟨argT 0 as,H⟩ (kR R res)=some y):Fun P W f (avL tb as) (avH tb H) (av tb (R.rs y).1) (avH tb (R.rs y).2):=by
 refine yv465 hf hok (by rw [yv12];exact hwk) hen (by rw [yv109];exact hl) (by rw [yv12,yv12];exact hH) ?_
 have:=yv119 ok ho hc hrun
 simp only [avS,yv391] at this
 refine yv27 (erC tb c) _ ?_ this
 rintro e s' ⟨t,rfl,ht⟩
 exact yv803 hR ht
theorem yv154 (ok:tb.Ok) {f:FuncId} {sa:List Sh} {sh:List (List Sh)} {F:tyL T sa->tyH T sh->Option Y} {RX:(ρ:Type)->Y->(TV T->THeap T->Option ρ)->Option ρ} {R:RSp T tb Y} (hen:yv25 P f=true)
 (hRX:∀ (ρ:Type) y (k:TV T->THeap T->Option ρ),RX ρ y k=k (R.rs y).1 (R.rs y).2) (hlen:∀ y,Nat.ble sh.length (R.rs y).2.length=true)
 (hfun:∀ x z y,F x z=some y->Fun P W f (avL tb (injL tb sa x)) (avH tb (injH tb sh z)) (av tb (R.rs y).1) (avH tb (R.rs y).2)):(mkOrc tb sa sh F RX).Ok P W tb f:=by
 refine ⟨⟨fun {ρ σ} as h k g=>?_⟩,hen,fun {ρ} as h k d hd=>?_⟩
 ·simp only [mkOrc]
  cases prjL tb sa as with
  | none=>rfl
  | some x =>
   simp only [Option.bind_some]
   cases prjH tb sh h with
   | none=>rfl
   | some z =>
    simp only [Option.bind_some]
    cases F x z with
    | none=>rfl
    | some y=>simp only [Option.bind_some,hRX]
 ·obtain ⟨x,h1,hd⟩:=yv3 hd
  obtain ⟨z,h2,hd⟩:=yv3 hd
  obtain ⟨y,h3,hd⟩:=yv3 hd
  rw [hRX] at hd
  refine ⟨_,_,((hfun x z y h3).2.admH (yv114 ok h2)).adm (yv222 ok h1),?_,hd⟩
  have e:h.length=sh.length:=by
   have:=(yv78 (yv114 ok h2)).1
   rw [yv12,yv12,yv54] at this;exact this
  rw [e]
  exact Nat.le_of_ble_eq_true (hlen y)
theorem yv821 (ok:tb.Ok) (ho:yv39 P W tb orcs) {f:FuncId} {fn:Func} {c:TCode T} {res:List SRes} {n:Nat} {sa:List Sh} {sh:List (List Sh)} {F:tyL T sa->tyH T sh->Option Y} {RX:(ρ:Type)->Y->(TV T->THeap T->Option ρ)->Option ρ} {R:RSp T tb Y} (hR:R.Ok)
 (hf:P.funcs[f]?=some fn) (hok:fnOk P fn ⟨erC tb c,res,n⟩=true) (hwk:wkOk sh.length (erC tb c)=true) (hen:yv25 P f=true) (hl:Nat.ble sa.length n=true) (hc:yv171 P W tb c)
 (hRX:∀ (ρ:Type) y (k:TV T->THeap T->Option ρ),RX ρ y k=k (R.rs y).1 (R.rs y).2) (hlen:∀ y,Nat.ble sh.length (R.rs y).2.length=true)
 (fact:∀ x z,runS tb orcs c ⟨argT 0 (injL tb sa x),injH tb sh z⟩ (kR R res)=F x z):(mkOrc tb sa sh F RX).Ok P W tb f:=by
 refine yv154 ok hen hRX hlen fun x z y hF=>?_
 have:∀ (l:List Sh) (x:tyL T l),(injL tb l x).length=l.length:=by
  intro l;induction l with
  | nil=>intro x;rfl
  | cons a l ih=>intro x;simp [injL,ih]
 exact yv750 ok ho hR hf hok (by rw [yv54];exact hwk) hen (by rw [this];exact hl) (by rw [yv54];exact hlen y) hc (by rw [fact];exact hF)
end
theorem cS {p:Nat->Cut T->TCode T->Prop} {a b:TCode T} (h1:allC p a) (h2:allC p b):allC p (.seq a b):=⟨h1,h2⟩
theorem cC {p:Nat->Cut T->TCode T->Prop} {a b:TCode T} {t:Nat} (h1:allC p a) (h2:allC p b):allC p (.cond t a b):=⟨h1,h2⟩
theorem cB {p:Nat->Cut T->TCode T->Prop} {a:TCode T} {t:Nat} (h1:allC p a):allC p (.block t a):=h1
theorem cL {p:Nat->Cut T->TCode T->Prop} {a:TCode T} (h1:allC p a):allC p (.loop a):=h1
theorem cD {p:Nat->Cut T->TCode T->Prop} {a:TCode T} {ts:List Nat} (h1:allC p a):allC p (.drop ts a):=h1
theorem cW {p:Nat->Cut T->TCode T->Prop} {a:TCode T} {t:Nat} (h1:allC p a):allC p (.thw t a):=h1
theorem cF {p:Nat->Cut T->TCode T->Prop} {n:Nat} {o:Cut T} {a:TCode T} (h1:p n o .skip) (h2:allC p a):allC p (.fin n o a):=⟨h1,h2⟩
theorem cT {p:Nat->Cut T->TCode T->Prop} {n:Nat} {o:Cut T} {a:TCode T} (h1:p n o a):allC p (.cut n o a):=h1
def eqE:SExit->SExit->Bool
 | .normal,.normal=>true
 | .ret,.ret=>true
 | .exit i,.exit j=>Nat.beq i j
 | _,_=>false
def pyA {Y:Type} (tb:Tab T) (n:Nat) (e0:SExit) (sh:SSh) (f:sh.ty T->Y) (nx:SExit->TSt T->Option Y) (e:SExit) (t:TSt T):Option Y :=
 if eqE e e0 then yv252 ((prjS tb n sh t).bind fun v=>some (f v)) (nx e t) else nx e t
def pyN {Y:Type} (_:SExit) (_:TSt T):Option Y:=none
theorem yv808:yv39 P W tb []:=fun i f o h=>by cases h
theorem yv782 {orcs:Orcs T} {f:Nat} {o:Orc T} (h1:o.Ok P W tb f) (h2:yv39 P W tb orcs):yv39 P W tb ((f,o)::orcs):=by
 intro i g p h
 cases i with
 | zero =>
  simp only [findO] at h
  split at h
  ·rename_i hb
   cases h
   have:=Nat.eq_of_beq_eq_true hb
   subst this;exact h1
  ·cases h
 | succ i=>exact h2 i g p h
end Go.Rv
namespace Go.Rv
open Go.RowKit
variable {T:Nat->Type} {P:Program} {W:World->Prop} {tb:Tab T} {α:Type 1}
structure CP (P:Program) (W:World->Prop) (tb:Tab T):Type 1 where
 n:Nat
 o:Cut T
 c:TCode T
 h:o.Ok P W tb n c
structure DT (T:Nat->Type) where
 ops:List (TOp T × Nat)
 ks:List (TArg T)
variable (D:DT T) (n:Nat)
variable (cs:List (CP P W tb))
end Go.Rv
namespace Go.Rv
open Go.RowKit
variable {T:Nat->Type} {tb:Tab T} {P:Program}
def tmK:Tm->Option IntKind
 | .n .i64=>some .i64|.n .i32=>some .i32|.n .i16=>some .i16|.n .i8=>some .i8
 | .u8=>some .u8|.u16=>some .u16|.u32=>some .u32|.u64=>some .u64
 | _=>none
def okFs (P:Program) (r:TypeId->List Tm->Bool):List Field->Nat->List Tm->Bool
 | [],_,[]=>true
 | f::fs,off,l=>Nat.beq f.offset off && Nat.ble (P.cellsOf f.type) l.length && r f.type (l.take (P.cellsOf f.type)) && okFs P r fs (off + P.cellsOf f.type) (l.drop (P.cellsOf f.type))
 | _,_,_=>false
def okAs (m:Nat) (r:List Tm->Bool):Nat->List Tm->Bool
 | 0,[]=>true
 | n + 1,l=>Nat.ble m l.length && r (l.take m) && okAs m r n (l.drop m)
 | _,_=>false
def okTy (P:Program) (tb:Tab T):Nat->TypeId->List Tm->Bool
 | 0,_,_=>false
 | n + 1,t,l =>
  match P.underlying t with
  | some .bool=>(match l with|[.b]=>true|_=>false)
  | some (.int k)=>(match l with|[a]=>(match tmK a with|some k'=>decide (k'=k)|none=>false)|_=>false)
  | some .string=>(match l with|[.s]=>true|_=>false)
  | some (.slice e)=>(match l with
   | [.bs]=>(match P.underlying e with|some (.int .u8)=>Nat.beq (P.cellsOf e) 1 && Nat.blt 0 (P.bytesOf e)|_=>false)
   | [.sl k]=>Nat.beq (P.cellsOf e) (tb.sz k) && Nat.blt 0 (P.cellsOf e) && okTy P tb n e (tb.sh k)
   | _=>false)
  | some (.struct fs)=>Nat.beq (P.cellsOf t) l.length && okFs P (okTy P tb n) fs.toList 0 l
  | some (.array m e)=>Nat.beq (P.cellsOf t) l.length && okAs (P.cellsOf e) (okTy P tb n e) m l
  | _=>false
def yv178:Nat:=2 ^ 47
def szA (tb:Tab T):Nat->(a:Tm)->a.ty T->Prop
 | 0,_,_=>True
 | d + 1,.s,x=>List.length (α:=UInt8) x ≤ yv178
 | d + 1,.bs,x=>(L (α:=UInt8) x).length ≤ yv178
 | d + 1,.sl k,x=>(L (α:=T k) x).length ≤ maxLen∧∀ y ∈ L (α:=T k) x,szL (szA tb d) (tb.sh k) (tb.un k y)
 | _,_,_=>True
where szL (f:(a:Tm)->a.ty T->Prop):(l:List Tm)->tyA T l->Prop
 | [],_=>True
 | a::l,x=>f a x.1∧szL f l x.2
abbrev g00:Gh:=⟨fun _=>0,fun _=>none⟩
def RepsP (W:World):List PV->List Value->Prop
 | [],[]=>True
 | p::ps,v::vs=>RepP W.heap.size g00 W p v∧RepsP W ps vs
 | _,_=>False
theorem RepsP.len {W:World}:∀ {ps:List PV} {vs:List Value},RepsP W ps vs->ps.length=vs.length
 | [],[],_=>rfl
 | [],_::_,h=>h.elim
 | _::_,[],h=>h.elim
 | _::_,_::_,h=>by simp [RepsP.len h.2]
theorem RepsP.get {W:World}:∀ {ps:List PV} {vs:List Value},RepsP W ps vs->∀ (i:Nat) (p:PV) (v:Value),ps[i]?=some p->vs[i]?=some v->RepP W.heap.size g00 W p v
 | [],[],_,i,p,v,h,_=>by simp at h
 | [],_::_,h,_,_,_,_,_=>h.elim
 | _::_,[],h,_,_,_,_,_=>h.elim
 | a::ps,b::vs,h,i,p,v,hp,hv=>by
  cases i with
  | zero=>simp at hp hv;subst hp hv;exact h.1
  | succ i=>simp at hp hv;exact RepsP.get h.2 i p v hp hv
theorem RepsP.app {W:World}:∀ {ps qs:List PV} {vs ws:List Value},RepsP W ps vs->RepsP W qs ws->RepsP W (ps++qs) (vs++ws)
 | [],_,[],_,_,h=>h
 | [],_,_::_,_,h,_=>h.elim
 | _::_,_,[],_,h,_=>h.elim
 | _::_,_,_::_,_,h,k=>⟨h.1,RepsP.app h.2 k⟩
theorem yv471 (tb:Tab T) (f:(a:Tm)->a.ty T->Prop):∀ (m:Nat) (l:List Tm) (x:tyA T (l.take m)) (y:tyA T (l.drop m)),szA.szL f (l.take m) x->szA.szL f (l.drop m) y ->
 ∃ z:tyA T l,pvAL tb l z=pvAL tb (l.take m) x++pvAL tb (l.drop m) y∧szA.szL f l z
 | 0,l,x,y,hx,hy=>⟨y,rfl,hy⟩
 | m + 1,[],x,y,hx,hy=>⟨(),rfl,trivial⟩
 | m + 1,a::l,x,y,hx,hy=>by
  obtain ⟨z,h1,h2⟩:=yv471 tb f m l x.2 y hx.2 hy
  exact ⟨(x.1,z),by show pvA tb a x.1::pvAL tb l z=pvA tb a x.1::(pvAL tb (l.take m) x.2++pvAL tb (l.drop m) y);rw [h1],hx.1,h2⟩
theorem yv472 {α:Type} {p:Nat->α->Prop}:∀ (n:Nat),(∀ i,i < n->∃ x,p i x)->∃ l:List α,l.length=n∧∀ i x,l[i]?=some x->p i x
 | 0,_=>⟨[],rfl,fun i x h=>by simp at h⟩
 | n + 1,h=>by
  obtain ⟨l,h1,h2⟩:=yv472 n fun i hi=>h i (by omega)
  obtain ⟨x,hx⟩:=h n (by omega)
  refine ⟨l++[x],by simp [h1],fun i y hy=>?_⟩
  by_cases hi:i < n
  ·rw [List.getElem?_append_left (by omega)] at hy
   exact h2 i y hy
  ·rw [List.getElem?_append_right (by omega)] at hy
   have:i=n:=by
    have:=(List.getElem?_eq_some_iff.1 hy).1
    simp at this;omega
   subst this
   simp [h1] at hy
   subst hy;exact hx
theorem uN_of {k:IntKind} {n:Int} (h:(Lit.int k n).wf=true):(k=.u8->((UInt8.ofNat n.toNat).toNat:Int)=n)∧(k=.u16->((UInt16.ofNat n.toNat).toNat:Int)=n)∧(k=.u32->((UInt32.ofNat n.toNat).toNat:Int)=n)∧(k=.u64->((UInt64.ofNat n.toNat).toNat:Int)=n):=by
 refine ⟨?_,?_,?_,?_⟩<;>rintro rfl
 ·have:=bounds_u8 h;simp;omega
 ·have:=bounds_u16 h;simp;omega
 ·have:=bounds_u32 h;simp;omega
 ·have:=bounds_u64 h;simp;omega
section
variable {H:Type} {enc:TypeId × Value->H} {W:World} {spare:Nat->Bool} {held:Bool}
theorem yv703 {k:IntKind} {a:Tm} {n:Int} (hk:tmK a=some k) (hw:(Lit.int k n).wf=true):∃ x:tyA T [a],RepsP W (pvAL tb [a] x) [.int k n]∧∀ d,szA.szL (szA tb d) [a] x:=by
 obtain ⟨h8,h16,h32,h64⟩:=uN_of hw
 cases a with
 | n j=>cases j<;>simp [tmK] at hk<;>subst hk<;>exact ⟨(n,()),⟨.lit _ rfl,trivial⟩,fun d=>⟨by cases d<;>trivial,trivial⟩⟩
 | u8=>simp [tmK] at hk;subst hk;exact ⟨(UInt8.ofNat n.toNat,()),⟨by simp only [pvA];rw [h8 rfl];exact .lit _ rfl,trivial⟩,fun d=>⟨by cases d<;>trivial,trivial⟩⟩
 | u16=>simp [tmK] at hk;subst hk;exact ⟨(UInt16.ofNat n.toNat,()),⟨by simp only [pvA];rw [h16 rfl];exact .lit _ rfl,trivial⟩,fun d=>⟨by cases d<;>trivial,trivial⟩⟩
 | u32=>simp [tmK] at hk;subst hk;exact ⟨(UInt32.ofNat n.toNat,()),⟨by simp only [pvA];rw [h32 rfl];exact .lit _ rfl,trivial⟩,fun d=>⟨by cases d<;>trivial,trivial⟩⟩
 | u64=>simp [tmK] at hk;subst hk;exact ⟨(UInt64.ofNat n.toNat,()),⟨by simp only [pvA];rw [h64 rfl];exact .lit _ rfl,trivial⟩,fun d=>⟨by cases d<;>trivial,trivial⟩⟩
 | _=>simp [tmK] at hk
theorem addP (b o i:Nat):(⟨b,o,none⟩:Addr).add i=⟨b,o + i,none⟩:=by unfold Addr.add;split<;>simp_all
theorem yv342 {α:Type} {z:Nat} {row:α->List PV} {a:Addr} {len cap:Nat} {l:List α} (hz:0 < z) (hl:l.length=len) (hcap:len ≤ cap) (hrow:∀ x,(row x).length=z)
 (hc:∀ i x,l[i]?=some x->∃ cs,W.cells? 0 (a.add (i * z)) z=some cs∧RepsP W (row x) cs):RepP W.heap.size g00 W (oP z row (some l)) (.slice (some a) len cap):=by
 simp only [oP]
 cases l with
 | nil=>simp at hl;subst hl;exact .none _ _ _
 | cons x0 l0 =>
  have hlen:=hl
  obtain ⟨cs0,h0,r0⟩:=hc 0 x0 rfl
  obtain ⟨_,hl0,hg0⟩:=World.cells?_some h0
  obtain ⟨c0,hc0⟩:∃ c0,cs0[0]?=some c0:=by
   cases cs0 with
   | nil=>simp at hl0;omega
   | cons c _=>exact ⟨c,rfl⟩
  obtain ⟨b,off,spot⟩:=a
  have g0:=hg0 0 hz
  rw [hc0,Nat.zero_mul] at g0
  have e00:((⟨b,off,spot⟩:Addr).add 0).add 0=⟨b,off,spot⟩:=by simp [Addr.add]
  rw [e00] at g0
  have hspot:spot=none:=World.cell?_spot g0
  subst hspot
  have hb:b < W.heap.size:=by
   have:=World.cells?_block h0 hz
   simpa [Addr.add] using this
  subst hl
  have key:∀ i r j c,((x0::l0).map row)[i]?=some r->r[j]?=some c->∃ u,W.cell? ⟨b,off + (i * z + j),none⟩=some u∧RepP W.heap.size g00 W c u:=by
   intro i r j c hi hj
   rw [List.getElem?_map] at hi
   cases hx:(x0::l0)[i]? with
   | none=>rw [hx] at hi;cases hi
   | some x =>
    rw [hx] at hi
    simp only [Option.map_some,Option.some.injEq] at hi
    subst hi
    obtain ⟨cs,h1,h2⟩:=hc i x hx
    obtain ⟨_,hl1,hg1⟩:=World.cells?_some h1
    have hj':j < z:=by rw [← hrow x];exact (List.getElem?_eq_some_iff.1 hj).1
    have:=hg1 j hj'
    rw [addP,addP] at this
    have hjc:j < cs.length:=by omega
    refine ⟨cs[j],?_,RepsP.get h2 j c _ hj (by simp [hjc])⟩
    rw [show off + (i * z + j)=off + i * z + j by omega,this]
    simp [hjc]
  have fin:RepP W.heap.size g00 W (.sl z ((x0::l0).map row)) (.slice (some ⟨b,off,none⟩) ((x0::l0).map row).length cap):=by
   refine RepP.sl z _ b off cap (fun i j=>(W.cell? ⟨b,off + (i * z + j),none⟩).getD undef) ?_ (fun o _ _=>.inl hb) hb (by simpa using hcap) ?_ ?_
   ·intro r hr
    simp only [List.mem_map] at hr
    obtain ⟨x,_,rfl⟩:=hr
    exact hrow x
   ·intro i r j c hi hj
    obtain ⟨u,h1,_⟩:=key i r j c hi hj
    rw [h1];rfl
   ·intro i r j c hi hj
    obtain ⟨u,h1,h2⟩:=key i r j c hi hj
    simp only [h1,Option.getD_some];exact h2
  rw [List.length_map] at fin
  exact fin
theorem yv641 {r:TypeId->List Tm->Bool} {q:TypeId->List Value->Prop} {d:Nat} (hr:∀ t l cs,r t l=true->q t cs->∃ x:tyA T l,RepsP W (pvAL tb l x) cs∧szA.szL (szA tb d) l x):∀ (fs:List Field) (off:Nat) (l:List Tm) (cs:List Value),
 okFs P r fs off l=true->cs.length=off + l.length->(∀ f ∈ fs,q f.type ((cs.drop f.offset).take (P.cellsOf f.type)))->∃ x:tyA T l,RepsP W (pvAL tb l x) (cs.drop off)∧szA.szL (szA tb d) l x
 | [],off,[],cs,_,hl,_=>by
  simp at hl
  exact ⟨(),by rw [List.drop_of_length_le (by omega)];trivial,trivial⟩
 | [],off,_::_,cs,h,_,_=>by cases h
 | f::fs,off,l,cs,h,hl,hq=>by
  simp only [okFs,Bool.and_eq_true] at h
  obtain ⟨⟨⟨h1,h2⟩,h3⟩,h4⟩:=h
  have e1:=Nat.eq_of_beq_eq_true h1
  have e2:=Nat.le_of_ble_eq_true h2
  obtain ⟨x,hx,sx⟩:=hr _ _ _ h3 (hq f List.mem_cons_self)
  obtain ⟨y,hy,sy⟩:=yv641 hr fs (off + P.cellsOf f.type) (l.drop (P.cellsOf f.type)) cs h4 (by simp;omega) (fun g hg=>hq g (List.mem_cons_of_mem _ hg))
  obtain ⟨z,hz,sz⟩:=yv471 tb _ _ l x y sx sy
  refine ⟨z,?_,sz⟩
  rw [hz]
  have:cs.drop off=(cs.drop f.offset).take (P.cellsOf f.type)++cs.drop (off + P.cellsOf f.type):=by
   rw [e1,← List.drop_drop,List.take_append_drop]
  rw [this]
  exact hx.app hy
theorem yv640 {r:List Tm->Bool} {q:List Value->Prop} {d m:Nat} (hr:∀ l cs,r l=true->q cs->∃ x:tyA T l,RepsP W (pvAL tb l x) cs∧szA.szL (szA tb d) l x):∀ (n i:Nat) (l:List Tm) (cs:List Value),
 okAs m r n l=true->cs.length=i * m + l.length->(∀ j,j < i + n->q ((cs.drop (j * m)).take m))->∃ x:tyA T l,RepsP W (pvAL tb l x) (cs.drop (i * m))∧szA.szL (szA tb d) l x
 | 0,i,[],cs,_,hl,_=>by
  simp at hl
  exact ⟨(),by rw [List.drop_of_length_le (by omega)];trivial,trivial⟩
 | 0,i,_::_,cs,h,_,_=>by cases h
 | n + 1,i,l,cs,h,hl,hq=>by
  simp only [okAs,Bool.and_eq_true] at h
  obtain ⟨⟨h2,h3⟩,h4⟩:=h
  have e2:=Nat.le_of_ble_eq_true h2
  obtain ⟨x,hx,sx⟩:=hr _ _ h3 (hq i (by omega))
  have em:(i + 1) * m=i * m + m:=by rw [Nat.add_mul];omega
  obtain ⟨y,hy,sy⟩:=yv640 hr n (i + 1) (l.drop m) cs h4 (by simp;rw [em];omega) (fun j hj=>hq j (by omega))
  obtain ⟨z,hz,sz⟩:=yv471 tb _ _ l x y sx sy
  refine ⟨z,?_,sz⟩
  rw [hz]
  have:cs.drop (i * m)=(cs.drop (i * m)).take m++cs.drop ((i + 1) * m):=by
   rw [em,← List.drop_drop,List.take_append_drop]
  rw [this]
  exact hx.app hy
theorem yv299 {e:TypeId}:∀ {ds:List (DataW H)} {i:Nat} {d:DataW H},ds[i]?=some d->∀ n ∈ d.weights P e,n ∈ DataW.weightsAll P e ds
 | [],i,d,h,_,_=>by simp at h
 | d0::ds,0,d,h,n,hn=>by
  simp only [List.getElem?_cons_zero,Option.some.injEq] at h
  subst h
  simp only [DataW.weightsAll,List.mem_append]
  exact Or.inl hn
 | d0::ds,i + 1,d,h,n,hn=>by
  simp only [List.getElem?_cons_succ] at h
  simp only [DataW.weightsAll,List.mem_append]
  exact Or.inr (yv299 h n hn)
theorem yv531:∀ {ts ts':List TypeId} {ds ds':List (DataW H)},∀ n ∈ DataW.weightsEach P ts ds,n ∈ DataW.weightsEach P (ts++ts') (ds++ds')
 | [],_,[],_,n,hn=>by simp [DataW.weightsEach] at hn
 | [],_,_::_,_,n,hn=>by simp [DataW.weightsEach] at hn
 | _::_,_,[],_,n,hn=>by simp [DataW.weightsEach] at hn
 | t::ts,ts',d::ds,ds',n,hn=>by
  simp only [DataW.weightsEach,List.mem_append,List.cons_append] at hn ⊢
  exact hn.imp id (yv531 n)
theorem yv642 (ok:tb.Ok) {d:Nat}:∀ (n:Nat) (d:Nat) (t:TypeId) (l:List Tm) (fuel:Nat) (cs:List Value) (y:DataW H × List MemPlace),okTy P tb n t l=true->DataW.trod enc P W 0 spare held fuel t cs=some y->(∀ n ∈ y.1.weights P t,n ≤ yv178) ->
 ∃ x:tyA T l,RepsP W (pvAL tb l x) cs∧szA.szL (szA tb d) l x:=by
 intro n
 induction n with
 | zero=>intro d t l fuel cs y h;cases h
 | succ n ih =>
  intro d t l fuel cs y h hd hz
  simp only [okTy] at h
  cases hu:P.underlying t with
  | none=>rw [hu] at h;cases h
  | some u =>
   rw [hu] at h
   cases u with
   | bool =>
    simp only at h
    split at h
    ·obtain ⟨b,rfl,_⟩:=DataW.trod_bool hu hd
     exact ⟨(b,()),⟨.lit _ rfl,trivial⟩,⟨by cases d<;>trivial,trivial⟩⟩
    ·cases h
   | int k =>
    simp only at h
    split at h
    ·split at h
     ·rename_i a k' hk
      have:=of_decide_eq_true h
      subst this
      obtain ⟨m,rfl,_,hw⟩:=DataW.trod_int hu hd
      obtain ⟨x,h1,h2⟩:=yv703 (tb:=tb) (W:=W) hk hw
      exact ⟨x,h1,h2 d⟩
     ·cases h
    ·cases h
   | string =>
    simp only at h
    split at h
    ·obtain ⟨s,rfl,rfl,hs⟩:=DataW.trod_string hu hd
     refine ⟨(s.data.toList,()),⟨.lit _ rfl,trivial⟩,⟨?_,trivial⟩⟩
     cases d with
     | zero=>trivial
     | succ d =>
      exact hz _ (by simp [DataW.weights])
    ·cases h
   | slice e =>
    simp only at h
    split at h
    ·-- bytes
     split at h
     ·rename_i he
      simp only [Bool.and_eq_true] at h
      obtain ⟨h,hby⟩:=h
      have hby:0 < P.bytesOf e:=Nat.le_of_ble_eq_true hby
      have hc:=Nat.eq_of_beq_eq_true h
      rcases DataW.trod_slice hu hd with ⟨rfl,_⟩|⟨a,len,cap,elems,rest,m,_,rfl,ey,hb,hlc,hcm,hel,hget,_⟩
      ·exact ⟨(none,()),⟨.lit _ rfl,trivial⟩,⟨by
        cases d with
        | zero=>trivial
        | succ d=>exact Nat.zero_le _,trivial⟩⟩
      ·rw [hc] at hget
       have hx:∀ i,i < len->∃ b:UInt8,∃ cs,W.cells? 0 (a.add (i * 1)) 1=some cs∧RepsP W (yv5 b) cs:=by
        intro i hi
        have hg:=hget i hi
        have hlt:i < elems.length:=by omega
        rw [List.getElem?_eq_getElem hlt] at hg
        obtain ⟨cs,h1,h2⟩:=Option.bind_eq_some_iff.1 hg
        obtain ⟨z,rfl,_,hw⟩:=DataW.trod_int he h2
        refine ⟨UInt8.ofNat z.toNat,_,h1,?_,trivial⟩
        show RepP _ _ _ (.lit (.int .u8 ((UInt8.ofNat z.toNat).toNat:Int))) _
        rw [(uN_of hw).1 rfl];exact .lit _ rfl
       obtain ⟨xs,hl,hxs⟩:=yv472 len hx
       refine ⟨(some xs,()),⟨yv342 (by omega) hl hlc (fun _=>rfl) hxs,trivial⟩,⟨?_,trivial⟩⟩
       cases d with
       | zero=>trivial
       | succ d =>
        show xs.length ≤ yv178
        have hw:=hz ((elems.length + rest.length) * P.bytesOf e) (by rw [ey];simp [DataW.weights,hu])
        have:=Nat.le_mul_of_pos_right (elems.length + rest.length) hby
        omega
     ·cases h
    ·-- others
     rename_i k
     simp only [Bool.and_eq_true] at h
     obtain ⟨⟨hc,hp⟩,he⟩:=h
     have hc:=Nat.eq_of_beq_eq_true hc
     have hp:0 < P.cellsOf e:=Nat.le_of_ble_eq_true hp
     rcases DataW.trod_slice hu hd with ⟨rfl,_⟩|⟨a,len,cap,elems,rest,m,_,rfl,ey,hb,hlc,hcm,hel,hget,_⟩
     ·refine ⟨(none,()),⟨.lit _ rfl,trivial⟩,⟨?_,trivial⟩⟩
      cases d with
      | zero=>trivial
      | succ d=>exact ⟨by simp [L],fun y hy=>by simp [L] at hy⟩
     ·rw [hc] at hget hp
      have hx:∀ i,i < len->∃ x:T k,(∃ cs,W.cells? 0 (a.add (i * tb.sz k)) (tb.sz k)=some cs∧RepsP W (tb.prow k x) cs)∧szA.szL (szA tb (d - 1)) (tb.sh k) (tb.un k x):=by
       intro i hi
       have hg:=hget i hi
       have hlt:i < elems.length:=by omega
       rw [List.getElem?_eq_getElem hlt] at hg
       obtain ⟨cs,h1,h2⟩:=Option.bind_eq_some_iff.1 hg
       obtain ⟨x,h3,h4⟩:=ih (d - 1) e (tb.sh k) m cs _ he h2 (fun n hn=>hz n (by
        rw [ey]
        simp only [DataW.weights,hu,List.mem_cons,List.mem_append]
        exact Or.inr (Or.inl (yv299 (i:=i) (d:=(elems[i]).1) (by simp [hlt]) n hn))))
       refine ⟨tb.bk k x,⟨cs,h1,?_⟩,?_⟩
       ·rw [ok.row,ok.um];exact h3
       ·rw [ok.um];exact h4
      obtain ⟨xs,hl,hxs⟩:=yv472 len hx
      refine ⟨(some xs,()),⟨yv342 hp hl hlc (yv158 ok k) fun i x hix=>(hxs i x hix).1,trivial⟩,⟨?_,trivial⟩⟩
      cases d with
      | zero=>trivial
      | succ d =>
       refine ⟨by simp only [L,Option.getD_some];omega,fun y hy=>?_⟩
       simp only [L,Option.getD_some] at hy
       obtain ⟨i,hi⟩:=List.getElem?_of_mem hy
       exact (hxs i y hi).2
    ·cases h
   | struct fs =>
    simp only [Bool.and_eq_true] at h
    obtain ⟨hc,hf⟩:=h
    have hc:=Nat.eq_of_beq_eq_true hc
    obtain ⟨xs,m,_,ey,hl,hxl,hget⟩:=DataW.trod_struct hu hd
    obtain ⟨x,h1,h2⟩:=yv641 (tb:=tb) (W:=W) (d:=d) (q:=fun t cs=>∃ fuel y,DataW.trod enc P W 0 spare held fuel t cs=some y∧∀ n ∈ y.1.weights P t,n ≤ yv178) (fun t l cs hr ⟨fuel,y,hy,hzy⟩=>ih d t l fuel cs y hr hy hzy) fs.toList 0 l cs hf (by omega) (by
     intro f hf
     obtain ⟨i,hi⟩:=List.getElem?_of_mem hf
     have:=hget i f (by simpa using hi)
     have hlt:i < xs.length:=by
      have:=(List.getElem?_eq_some_iff.1 hi).1
      simp at this;omega
     exact ⟨m,xs[i],by rw [this];simp [hlt],fun n hn=>hz n (by
      rw [ey]
      simp only [DataW.weights,hu]
      exact DataW.weights_mem_each (j:=i) (t:=f.type) (d:=(xs[i]).1) (by simp only [List.getElem?_map,hi];rfl) (by simp [hlt]) n hn)⟩)
    exact ⟨x,h1,h2⟩
   | array m e =>
    simp only [Bool.and_eq_true] at h
    obtain ⟨hc,hf⟩:=h
    have hc:=Nat.eq_of_beq_eq_true hc
    cases fuel with
    | zero=>simp [DataW.trod] at hd
    | succ fu =>
     unfold DataW.trod at hd
     rw [hu] at hd
     have hd2:(if cs.length=P.cellsOf t then ((List.range m).mapM fun i=>DataW.trod enc P W 0 spare held fu e ((cs.drop (i * P.cellsOf e)).take (P.cellsOf e))).map fun xs=>((.agg (xs.map (·.1)),xs.flatMap (·.2)):DataW H × List MemPlace) else none)=some y:=by
      cases cs with
      | nil=>exact hd
      | cons v cs=>cases cs with
       | nil=>cases v<;>first|exact hd|(rename_i o;cases o<;>exact hd)
       | cons=>exact hd
     split at hd2
     ·rename_i hl
      obtain ⟨xs,hm,ey⟩:=Option.map_eq_some_iff.1 hd2
      obtain ⟨x,h1,h2⟩:=yv640 (tb:=tb) (W:=W) (d:=d) (q:=fun cs=>∃ fuel y,DataW.trod enc P W 0 spare held fuel e cs=some y∧∀ n ∈ y.1.weights P e,n ≤ yv178) (fun l cs hr ⟨fuel,y,hy,hzy⟩=>ih d e l fuel cs y hr hy hzy) m 0 l cs hf (by rw [Nat.zero_mul];omega) (by
       intro j hj
       have hxl:=mapM_some_length hm
       simp at hxl
       have:=mapM_some_get hm j j (List.getElem?_range (by omega))
       exact ⟨fu,xs[j]'(by omega),by rw [this];simp [show j < xs.length by omega],fun n hn=>hz n (by
        rw [← ey]
        simp only [DataW.weights,hu]
        exact yv299 (i:=j) (d:=(xs[j]'(by omega)).1) (by simp [show j < xs.length by omega]) n hn)⟩)
      rw [Nat.zero_mul] at h1
      exact ⟨x,h1,h2⟩
     ·cases hd2
   | _=>cases h
end
def yv367 (P:Program) (t:TypeId):Bool :=
 match P.underlying t with
 | some (.struct _)=>true
 | some (.array _ _)=>true
 | _=>false
def okArg (P:Program) (tb:Tab T) (n:Nat) (t:TypeId):Sh->Bool
 | .g (.f (.a a))=>!yv367 P t && okTy P tb n t [a]
 | .g (.st k)=>yv367 P t && okTy P tb n t (tb.sh k)
 | _=>false
def yv587 (P:Program) (tb:Tab T) (n:Nat):List TypeId->List Sh->Bool
 | [],[]=>true
 | t::ts,s::ss=>okArg P tb n t s && yv587 P tb n ts ss
 | _,_=>false
def szSh (tb:Tab T) (d:Nat):(s:Sh)->s.ty T->Prop
 | .g (.f (.a a)),x=>szA tb d a x
 | .g (.st k),x=>szA.szL (szA tb d) (tb.sh k) (tb.un k x)
 | _,_=>True
def yv721 (tb:Tab T) (d:Nat):(l:List Sh)->tyL T l->Prop
 | [],_=>True
 | s::l,x=>szSh tb d s x.1∧yv721 tb d l x.2
theorem yv291 {W:World} {r:Reach} {b:Nat} {t:TypeId} {v:Value} {a:Tm} {n:Nat} (h:yv367 P t=false) (ht:okTy P tb n t [a]=true) (hv:Value.okWide P W r b t v):v.cells.toList=[v]:=by
 cases n with
 | zero=>cases ht
 | succ n =>
  simp only [okTy] at ht
  simp only [yv367] at h
  simp only [Value.okWide] at hv
  cases hu:P.underlying t with
  | none=>rw [hu] at ht;cases ht
  | some u =>
   rw [hu] at ht h hv
   cases u with
   | struct fs=>simp at h
   | array m e=>simp at h
   | bool =>
    simp only [Cell.okWide,hu] at hv
    cases v<;>simp_all [Cell.ok,Value.cells]
   | int k =>
    simp only [Cell.okWide,hu] at hv
    cases v<;>simp_all [Cell.ok,Value.cells]
   | string =>
    simp only [Cell.okWide,hu] at hv
    cases v<;>simp_all [Cell.ok,Value.cells]
   | slice e =>
    simp only [Cell.okWide,hu] at hv
    cases v<;>simp_all [Cell.ok,Value.cells]
   | _=>cases ht
theorem yv539 {W:World} {r:Reach} {b:Nat} {t:TypeId} {v:Value} (h:yv367 P t=true) (hv:Value.okWide P W r b t v):∃ cs,v=.agg cs:=by
 simp only [yv367] at h
 simp only [Value.okWide] at hv
 split at h
 ·rename_i hu;rw [hu] at hv;obtain ⟨cs,h1,_⟩:=hv;exact ⟨cs,h1⟩
 ·rename_i hu;rw [hu] at hv;obtain ⟨cs,h1,_⟩:=hv;exact ⟨cs,h1⟩
 ·cases h
section
variable {H:Type} {enc:TypeId × Value->H} {W:World} {spare:Nat->Bool} {held:Bool}
theorem yv702 (ok:tb.Ok) {n d:Nat} {r:Reach} {b:Nat} {t:TypeId} {s:Sh} {v:Value} {dd:DataW H} {ps:List MemPlace} {l:Loc} (h:okArg P tb n t s=true) (hv:Value.okWide P W r b t v) (hd:DataW.Trod enc P W 0 spare held t v dd ps) (hz:∀ n ∈ dd.weights P t,n ≤ yv178) :
 ∃ x:s.ty T,RepA W.heap.size 0 (fun i=>i) g00 W l (av tb (inj tb s x)) v∧szSh tb d s x:=by
 unfold okArg at h
 split at h
 ·rename_i a
  simp only [Bool.and_eq_true,Bool.not_eq_true'] at h
  obtain ⟨fuel,hd⟩:=hd
  rw [yv291 h.1 h.2 hv] at hd
  obtain ⟨x,h1,h2⟩:=yv642 (tb:=tb) (W:=W) ok (d:=d) n d t [a] fuel _ _ h.2 hd hz
  refine ⟨x.1,?_,h2.1⟩
  have e:av tb (inj tb (.g (.f (.a a))) x.1)=.pv (pvA tb a x.1):=yv676 a x.1
  rw [e]
  exact .b _ _ (.c _ _ (.zero _ _ (.pv _ _ h1.1)))
 ·rename_i k
  simp only [Bool.and_eq_true] at h
  obtain ⟨cs,rfl⟩:=yv539 h.1 hv
  obtain ⟨fuel,hd⟩:=hd
  have e0:(Value.agg cs).cells.toList=cs.toList:=rfl
  rw [e0] at hd
  obtain ⟨x,h1,h2⟩:=yv642 (tb:=tb) (W:=W) ok (d:=d) n d t (tb.sh k) fuel _ _ h.2 hd hz
  refine ⟨tb.bk k x,?_,by show szA.szL (szA tb d) (tb.sh k) (tb.un k (tb.bk k x));rw [ok.um];exact h2⟩
  have e:av tb (inj tb (.g (.st k)) (tb.bk k x))=.agg ((tb.prow k (tb.bk k x)).map AV.pv):=by
   show AV.agg (avL tb (tb.rw k (tb.bk k x)))=_
   rw [rw_av ok]
  rw [e,ok.row,ok.um]
  refine .b _ _ (.agg _ _ (by rw [List.length_map,h1.len];simp) (fun i a v p q=>?_) (fun v hv=>?_))
  ·rw [List.getElem?_map] at p
   cases hp:(pvAL tb (tb.sh k) x)[i]? with
   | none=>rw [hp] at p;cases p
   | some c =>
    rw [hp] at p
    simp only [Option.map_some,Option.some.injEq] at p
    subst p
    exact .zero _ _ (.pv _ _ (h1.get i c v hp (by simpa using q)))
  ·obtain ⟨i,hi⟩:=List.getElem?_of_mem (Array.mem_toList_iff.2 hv)
   have hlt:i < (pvAL tb (tb.sh k) x).length:=by
    rw [h1.len];exact (List.getElem?_eq_some_iff.1 hi).1
   exact (h1.get i _ v (List.getElem?_eq_getElem hlt) hi).one
 ·cases h
theorem yv341 (ok:tb.Ok) {n d:Nat} {r:Reach} {b:Nat}:∀ {ts:List TypeId} {ss:List Sh} {vs:List Value} {ds:List (DataW H)} {ps:List MemPlace} (k:Nat),yv587 P tb n ts ss=true->(∀ (j:Nat) t v,ts[j]?=some t->vs[j]?=some v->Value.okWide P W r b t v) ->
 DataW.TrodAll enc P W 0 spare held ts vs ds ps->(∀ n ∈ DataW.weightsEach P ts ds,n ≤ yv178)->∃ x:tyL T ss,vs.length=ss.length∧yv721 tb d ss x∧∀ (i:Nat) (a:AV) (v:Value),(avL tb (injL tb ss x))[i]?=some a->vs[i]?=some v->RepA W.heap.size 0 (fun i=>i) g00 W (.env (k + i)) a v
 | [],[],vs,ds,ps,k,_,_,h,_=>by
  obtain ⟨rfl,_,_⟩:=Go.ChangeShapes.trodAll_nil h
  exact ⟨(),rfl,trivial,fun i a v p=>by simp [injL,avL] at p⟩
 | [],_::_,_,_,_,_,h,_,_,_=>by cases h
 | _::_,[],_,_,_,_,h,_,_,_=>by cases h
 | t::ts,s::ss,vs,ds,ps,k,h,hv,hd,hz=>by
  simp only [yv587,Bool.and_eq_true] at h
  obtain ⟨v,vs1,d1,ds1,a,b1,rfl,rfl,rfl,h1,h2⟩:=Go.ChangeShapes.trodAll_cons hd
  obtain ⟨x,hx,sx⟩:=yv702 (tb:=tb) (d:=d) (l:=.env (k + 0)) ok h.1 (hv 0 t v rfl rfl) h1 (fun n hn=>hz n (by simp only [DataW.weightsEach,List.mem_append];exact Or.inl hn))
  obtain ⟨y,hl,sy,hy⟩:=yv341 ok (k + 1) h.2 (fun j t v p q=>hv (j + 1) t v (by simpa using p) (by simpa using q)) h2 (fun n hn=>hz n (by simp only [DataW.weightsEach,List.mem_append];exact Or.inr hn))
  refine ⟨(x,y),by simp [hl],⟨sx,sy⟩,fun i a v p q=>?_⟩
  cases i with
  | zero=>simp [injL,avL] at p q;subst p q;exact hx
  | succ i =>
   simp only [injL,avL,List.getElem?_cons_succ] at p q
   have:=hy i a v p q
   rwa [show k + 1 + i=k + (i + 1) by omega] at this
end
theorem yv717 {H:Type} {ts ts':List TypeId} {ds ds':List (DataW H)} (h:(DataW.weightsEach P (ts++ts') (ds++ds')).all (· ≤ reachBytes)=true):∀ n ∈ DataW.weightsEach P ts ds,n ≤ yv178:=by
 intro n hn
 have:=List.all_eq_true.1 h n (yv531 n hn)
 have hr:reachBytes < 2 ^ 47:=reachBytes_lt
 simp only [decide_eq_true_eq] at this
 unfold yv178;omega
theorem yv129 {H:Type} {enc:TypeId × Value->H} {W W':World} (hl:laidOutB P=true) (hb:Below W.heap.size W W'):∀ {ts:List TypeId} {vs:List Value} {ds:List (DataW H)} {ps:List MemPlace},(ts.all fun t=>P.readableRec t && decide (t < P.types.size))=true ->
 DataW.TrodAll enc P W 0 (fun _=>true) true ts vs ds ps->(∀ x ∈ ps,x.block < W.heap.size)->DataW.TrodAll enc P W' 0 (fun b=>decide (b < W.heap.size)) true ts vs ds ps
 | [],vs,ds,ps,_,h,_=>by
  obtain ⟨rfl,rfl,rfl⟩:=Go.ChangeShapes.trodAll_nil h
  rfl
 | t::ts,vs,ds,ps,hr,h,hlt=>by
  simp only [List.all_cons,Bool.and_eq_true] at hr
  obtain ⟨v,vs1,d1,ds1,a,b1,rfl,rfl,rfl,h1,h2⟩:=Go.ChangeShapes.trodAll_cons h
  exact ⟨a,b1,Below.trod hl hr.1.1 (of_decide_eq_true hr.1.2) h1 hb (fun x hx=>hlt x (by simp [hx])),yv129 hl hb hr.2 h2 (fun x hx=>hlt x (by simp [hx])),rfl⟩
theorem yv201 {H:Type} {enc:TypeId × Value->H} {W:World} {b:Nat} {sp:Nat->Bool} {hd:Bool}:∀ {ts:List TypeId} {vs:List Value} {ds:List (DataW H)} {ps:List MemPlace},DataW.TrodAll enc P W b sp hd ts vs ds ps->ds.length=ts.length
 | [],vs,ds,ps,h=>by obtain ⟨_,rfl,_⟩:=Go.ChangeShapes.trodAll_nil h;rfl
 | t::ts,vs,ds,ps,h=>by
  obtain ⟨v,vs1,d1,ds1,a,b1,rfl,rfl,rfl,h1,h2⟩:=Go.ChangeShapes.trodAll_cons h
  simp [yv201 h2]
end Go.Rv
namespace Go.Rv
open Go.RowKit
variable {T:Nat->Type} {tb:Tab T} {P:Program}
theorem yv802 {σ α:Type} {step:σ->Option (σ ⊕ α)} {s:σ} (n:Nat) (h:(iterN step n s).isSome=true):iter step s=iterN step n s:=by
 cases hn:iterN step n s with
 | none=>rw [hn] at h;cases h
 | some a=>exact yv726 hn
end Go.Rv
