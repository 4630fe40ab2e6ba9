/- Plain laws. -/
import Derived.Test.YtlmnicmjhcblcaaGreatDoorWalk
import Derived.Lib.ValidLaws
import Derived.Lib.TrimUEq
import Derived.Lib.RuneCount
import Derived.Lib.SplitLaws
import Derived.Lib.IndexAny
set_option linter.unusedSimpArgs false
set_option linter.unusedVariables false
set_option maxRecDepth 100000
namespace Go.Rv
open Go.Lib
theorem xv0 {x:Int} (h0:-9223372036854775808 ≤ x) (h1:x ≤ 9223372036854775807):w64 x=x:=by
 show IntKind.i64.wrap x=x
 rw [IntKind.wrap_i64];omega
theorem xv2 {α:Type} {l:List α} {i:Nat}:ix l (i:Int)=l[i]?:=by simp [ix]
def contN:Nat->Nat->List UInt8->Option Nat
 | 0,n,_=>some n
 | k + 1,n,c::l=>if c.toNat / 64=2 then contN k (64 * n + c.toNat - 128) l else none
 | _ + 1,_,[]=>none
def contR:Option Nat->Unit ⊕ Int
 | none=>.inl ()
 | some m=>.inr (m:Int)
theorem xv179 (s:List UInt8) (p z:Nat) (hl:s.length ≤ 70000) (hz:z ≤ 4) (hp:p + z ≤ s.length):∀ (k i n:Nat),i + k=z->n < 1000 ^ (i + 1) ->
 iter (fn150_l1 s (p:Int) (z:Int)) ((n:Int),(i:Int))=some (contR (contN k n (s.drop (p + i)))):=by
 intro k
 induction k with
 | zero =>
  intro i n hi hn
  rw [yv700]
  simp only [fn150_l1,fn150_b1]
  rw [if_neg (by simp;omega)]
  rfl
 | succ k ih =>
  intro i n hi hn
  rw [yv700]
  simp only [fn150_l1,fn150_b1]
  have hlt:p + i < s.length:=by omega
  have e1:w64 ((p:Int) + (i:Int))=((p + i:Nat):Int):=by rw [xv0 (by omega) (by omega)];simp
  rw [if_pos (by simp;omega),e1,xv2,List.getElem?_eq_getElem hlt,Option.bind_some,List.drop_eq_getElem_cons hlt]
  have hc:=s[p + i].toNat_lt
  have ih:=ih (i + 1) (64 * n + s[p + i].toNat - 128) (by omega) (by
   rw [Nat.pow_succ]
   have:1000 ≤ 1000 ^ (i + 1):=Nat.le_self_pow (by omega) 1000
   generalize 1000 ^ (i + 1)=M at hn this ⊢
   generalize s[p + i]=c at hc ⊢
   omega)
  rw [show p + (i + 1)=p + i + 1 by omega] at ih
  generalize s[p + i]=c at hc ih ⊢
  have h64:(1000:Nat) ^ (i + 1) ≤ 1000 ^ 5:=Nat.pow_le_pow_right (by decide) (by omega)
  have e64:(1000:Nat) ^ 5=1000000000000000:=by decide
  have ec:w64 (c.toNat:Int)=(c.toNat:Int):=xv0 (by omega) (by omega)
  rw [ec]
  simp only [contN]
  by_cases h1:c.toNat < 128
  ·rw [if_pos (by simp;omega),if_neg (by omega)];rfl
  ·rw [if_neg (by simp;omega)]
   by_cases h2:192 ≤ c.toNat
   ·rw [if_pos (by simp;omega),if_neg (by omega)];rfl
   ·rw [if_neg (by simp;omega),if_pos (by omega)]
    have e2:w64 (w64 (w64 (64 * (n:Int)) + (c.toNat:Int)) - 128)=((64 * n + c.toNat - 128:Nat):Int):=by
     rw [xv0 (x:=64 * (n:Int)) (by omega) (by omega),xv0 (x:=64 * (n:Int) + (c.toNat:Int)) (by omega) (by omega),xv0 (by omega) (by omega)];omega
    have e3:w64 ((i:Int) + 1)=((i + 1:Nat):Int):=by rw [xv0 (by omega) (by omega)];simp
    rw [e2,e3]
    exact ih
def restN (z least:Nat):Option Nat->Nat
 | some n=>if n < least∨n > 1114111∨(n ≥ 55296∧n ≤ 57343) then 0 else z
 | none=>0
theorem xv101 (s:List UInt8) (p c z n least:Nat) (hl:s.length ≤ 70000) (hpl:p ≤ 70000) (hz1:1 ≤ z) (hz:z ≤ 4) (hn:n < 1000000) (hleast:least ≤ 100000) :
 ∃ v,fn150_c0 s (p:Int) (c:Int) (z:Int) (n:Int) (least:Int) (fun a b=>some (a,b))=some (v,((if 248 ≤ c∨s.length < p + z then 0 else restN z least (contN (z - 1) n (s.drop (p + 1))):Nat):Int)):=by
 simp only [fn150_c0]
 by_cases h1:248 ≤ c
 ·rw [if_pos (by simp;omega),if_pos (Or.inl h1)];exact ⟨0,rfl⟩
 ·rw [if_neg (by simp;omega)]
  by_cases hp:s.length < p + z
  ·have e1:w64 ((p:Int) + (z:Int))=((p + z:Nat):Int):=by rw [xv0 (by omega) (by omega)];simp
   rw [e1,if_pos (by simp;omega),if_pos (Or.inr hp)];exact ⟨0,rfl⟩
  ·have e1:w64 ((p:Int) + (z:Int))=((p + z:Nat):Int):=by rw [xv0 (by omega) (by omega)];simp
   have hit:=xv179 s p z hl hz (by omega) (z - 1) 1 n (by omega) (by simpa using hn)
   rw [show (((1:Nat):Int))=1 from rfl] at hit
   rw [e1,if_neg (by simp;omega),if_neg (by omega),hit,Option.bind_some]
   cases contN (z - 1) n (s.drop (p + 1)) with
   | none=>exact ⟨0,rfl⟩
   | some m =>
    simp only [contR,restN]
    by_cases q1:m < least
    ·rw [if_pos (by simp;omega)];exact ⟨0,by simp [q1]⟩
    ·rw [if_neg (by simp;omega)]
     by_cases q2:m > 1114111
     ·rw [if_pos (by simp;omega)];exact ⟨0,by simp [q1,q2]⟩
     ·rw [if_neg (by simp;omega)]
      by_cases q3:m ≥ 55296
      ·rw [if_pos (by simp;omega)]
       by_cases q4:m ≤ 57343
       ·rw [if_pos (by simp;omega)];exact ⟨0,by simp [q1,q2,q3,q4]⟩
       ·rw [if_neg (by simp;omega)];exact ⟨m,by simp [q1,q2,q3,q4]⟩
      ·rw [if_neg (by simp;omega)];exact ⟨m,by simp [q1,q2,q3]⟩
end Go.Rv
namespace Go.Rv
open Go.Lib
def sgn (l:List UInt8):Nat:=match l with
 | []=>0
 | c::t =>
  if 240 ≤ c.toNat then (if 248 ≤ c.toNat∨t.length < 3 then 0 else restN 4 65536 (contN 3 (c.toNat - 240) t))
  else if 224 ≤ c.toNat then (if t.length < 2 then 0 else restN 3 2048 (contN 2 (c.toNat - 224) t))
  else if 192 ≤ c.toNat then (if t.length < 1 then 0 else restN 2 128 (contN 1 (c.toNat - 192) t))
  else if 128 ≤ c.toNat then 0 else restN 1 1 (some c.toNat)
theorem xv301 (s:List UInt8) (p:Nat) (hl:s.length ≤ 70000) (hp:p < s.length):∃ v,fn150 s (p:Int)=some (v,(sgn (s.drop p):Int)):=by
 simp only [fn150]
 rw [xv2,List.getElem?_eq_getElem hp,Option.bind_some,List.drop_eq_getElem_cons hp]
 have hlen:(s.drop (p + 1)).length=s.length - (p + 1):=List.length_drop
 simp only [sgn,hlen]
 generalize s[p]=c
 have hc:=c.toNat_lt
 have ec:w64 (c.toNat:Int)=(c.toNat:Int):=xv0 (by omega) (by omega)
 rw [ec]
 by_cases h1:240 ≤ c.toNat
 ·rw [if_pos (by simp;omega),if_pos h1,show w64 ((c.toNat:Int) - 240)=((c.toNat - 240:Nat):Int) by rw [xv0 (by omega) (by omega)];omega]
  obtain ⟨v,hv⟩:=xv101 s p c.toNat 4 (c.toNat - 240) 65536 hl (by omega) (by omega) (by omega) (by omega) (by omega)
  refine ⟨v,hv.trans ?_⟩
  congr 3
  exact ite_congr (propext (by omega)) (fun _=>rfl) (fun _=>rfl)
 ·rw [if_neg (by simp;omega),if_neg h1]
  by_cases h2:224 ≤ c.toNat
  ·rw [if_pos (by simp;omega),if_pos h2,show w64 ((c.toNat:Int) - 224)=((c.toNat - 224:Nat):Int) by rw [xv0 (by omega) (by omega)];omega]
   obtain ⟨v,hv⟩:=xv101 s p c.toNat 3 (c.toNat - 224) 2048 hl (by omega) (by omega) (by omega) (by omega) (by omega)
   refine ⟨v,hv.trans ?_⟩
   congr 3
   exact ite_congr (propext (by omega)) (fun _=>rfl) (fun _=>rfl)
  ·rw [if_neg (by simp;omega),if_neg h2]
   by_cases h3:192 ≤ c.toNat
   ·rw [if_pos (by simp;omega),if_pos h3,show w64 ((c.toNat:Int) - 192)=((c.toNat - 192:Nat):Int) by rw [xv0 (by omega) (by omega)];omega]
    obtain ⟨v,hv⟩:=xv101 s p c.toNat 2 (c.toNat - 192) 128 hl (by omega) (by omega) (by omega) (by omega) (by omega)
    refine ⟨v,hv.trans ?_⟩
    congr 3
    exact ite_congr (propext (by omega)) (fun _=>rfl) (fun _=>rfl)
   ·rw [if_neg (by simp;omega),if_neg h3]
    by_cases h4:128 ≤ c.toNat
    ·rw [if_pos (by simp;omega),if_pos h4];exact ⟨0,rfl⟩
    ·rw [if_neg (by simp;omega),if_neg h4]
     obtain ⟨v,hv⟩:=xv101 s p c.toNat 1 c.toNat 1 hl (by omega) (by omega) (by omega) (by omega) (by omega)
     refine ⟨v,hv.trans ?_⟩
     rw [if_neg (by omega)];rfl
theorem restS (z least n:Nat):restN z least (some n)=if n < least∨n > 1114111∨(n ≥ 55296∧n ≤ 57343) then 0 else z:=rfl
theorem xv19 (z least:Nat):restN z least none=0:=rfl
theorem xv13 (z least:Nat) (o:Option Nat) (p:Prop) [Decidable p]:restN z least (if p then o else none)=if p then restN z least o else 0:=by split<;>rfl
theorem xv208 (c:UInt8) (t:List UInt8):sgn (c::t)=if decodeL (c::t)=(65533,1)∨c.toNat=0 then 0 else (decodeL (c::t)).2:=by
 rw [decodeL_N]
 have hc:=c.toNat_lt
 by_cases h128:c.toNat < 128
 ·have e:sgn (c::t)=restN 1 1 (some c.toNat):=by simp only [sgn];rw [if_neg (by omega),if_neg (by omega),if_neg (by omega),if_neg (by omega)]
  rw [e]
  simp only [decodeN,List.getD_cons_zero,h128,if_true,restN]
  by_cases h0:c.toNat=0
  ·rw [if_pos (by omega),if_pos (Or.inr h0)]
  ·rw [if_neg (by omega),if_neg (by intro h;rcases h with h|h;(simp only [Prod.mk.injEq] at h;omega);omega)]
 ·have key:∀ (n b1 b2 b3:Nat),(decodeN n c.toNat b1 b2 b3=(65533,1)∨(1 < (decodeN n c.toNat b1 b2 b3).2)):=by
   intro n b1 b2 b3
   simp only [decodeN,h128,if_false]
   repeat' split
   all_goals first|(left;rfl)|(right;exact Nat.lt_of_sub_pos Nat.one_pos)|(right;show 1 < _;simp)
  generalize hD:decodeN (c::t).length ((c::t).getD 0 0).toNat ((c::t).getD 1 0).toNat ((c::t).getD 2 0).toNat ((c::t).getD 3 0).toNat=D
  have hD2:(if D=(65533,1)∨c.toNat=0 then 0 else D.2)=if D.2=1 then 0 else D.2:=by
   rcases key (c::t).length ((c::t).getD 1 0).toNat ((c::t).getD 2 0).toNat ((c::t).getD 3 0).toNat with k|k
   ·rw [← hD]
    simp only [List.getD_cons_zero] at k ⊢
    rw [k];simp
   ·simp only [List.getD_cons_zero] at hD
    rw [hD] at k
    rw [if_neg (by intro h;rcases h with h|h;(rw [h] at k;simp at k);omega),if_neg (by omega)]
  rw [hD2,← hD]
  clear hD hD2 key D
  match t with
  | [] =>
   simp only [sgn,decodeN,List.getD_cons_zero,List.length_cons,List.length_nil,h128,if_false]
   repeat' split
   all_goals omega
  | [d] =>
   have hd:=d.toNat_lt
   have n1:1 < [c,d].length:=by simp
   have n2:¬ 2 < [c,d].length:=by simp
   have n3:¬ 3 < [c,d].length:=by simp
   have l3:[d].length < 3:=by simp
   have l2:[d].length < 2:=by simp
   have l1:¬ [d].length < 1:=by simp
   generalize [c,d].length=n at n1 n2 n3
   simp only [sgn,decodeN,List.getD_cons_zero,List.getD_cons_succ,h128,if_false,n1,n2,n3,l1,l2,l3,true_and,false_and,and_false,or_true,if_true]
   by_cases g4:240 ≤ c.toNat
   ·have x1:¬ c.toNat / 32=6:=by omega
    have x2:¬ c.toNat / 16=14:=by omega
    simp only [g4,if_true,x1,x2,false_and,if_false,contN,xv13,restS,xv19]
    repeat' split
    all_goals omega
   ·by_cases g3:224 ≤ c.toNat
    ·have x1:¬ c.toNat / 32=6:=by omega
     have x2:c.toNat / 16=14:=by omega
     have x3:¬ c.toNat / 8=30:=by omega
     simp only [g4,g3,if_true,x1,x2,x3,true_and,false_and,if_false,contN,xv13,restS,xv19]
     repeat' split
     all_goals omega
    ·by_cases g2:192 ≤ c.toNat
     ·have x1:c.toNat / 32=6:=by omega
      have x2:¬ c.toNat / 16=14:=by omega
      have x3:¬ c.toNat / 8=30:=by omega
      simp only [g4,g3,g2,if_true,x1,x2,x3,true_and,false_and,if_false,contN,xv13,restS,xv19]
      repeat' split
      all_goals omega
     ·have x1:¬ c.toNat / 32=6:=by omega
      have x2:¬ c.toNat / 16=14:=by omega
      have x3:¬ c.toNat / 8=30:=by omega
      have g1:128 ≤ c.toNat:=by omega
      simp only [g4,g3,g2,g1,if_true,x1,x2,x3,false_and,if_false]
  | [d,e] =>
   have hd:=d.toNat_lt
   have he:=e.toNat_lt
   have n1:1 < [c,d,e].length:=by simp
   have n2:2 < [c,d,e].length:=by simp
   have n3:¬ 3 < [c,d,e].length:=by simp
   have l3:[d,e].length < 3:=by simp
   have l2:¬ [d,e].length < 2:=by simp
   have l1:¬ [d,e].length < 1:=by simp
   generalize [c,d,e].length=n at n1 n2 n3
   simp only [sgn,decodeN,List.getD_cons_zero,List.getD_cons_succ,h128,if_false,n1,n2,n3,l1,l2,l3,true_and,false_and,and_false,or_true,if_true]
   by_cases g4:240 ≤ c.toNat
   ·have x1:¬ c.toNat / 32=6:=by omega
    have x2:¬ c.toNat / 16=14:=by omega
    simp only [g4,if_true,x1,x2,false_and,if_false,contN,xv13,restS,xv19]
    repeat' split
    all_goals omega
   ·by_cases g3:224 ≤ c.toNat
    ·have x1:¬ c.toNat / 32=6:=by omega
     have x2:c.toNat / 16=14:=by omega
     have x3:¬ c.toNat / 8=30:=by omega
     simp only [g4,g3,if_true,x1,x2,x3,true_and,false_and,if_false,contN,xv13,restS,xv19]
     repeat' split
     all_goals omega
    ·by_cases g2:192 ≤ c.toNat
     ·have x1:c.toNat / 32=6:=by omega
      have x2:¬ c.toNat / 16=14:=by omega
      have x3:¬ c.toNat / 8=30:=by omega
      simp only [g4,g3,g2,if_true,x1,x2,x3,true_and,false_and,if_false,contN,xv13,restS,xv19]
      repeat' split
      all_goals omega
     ·have x1:¬ c.toNat / 32=6:=by omega
      have x2:¬ c.toNat / 16=14:=by omega
      have x3:¬ c.toNat / 8=30:=by omega
      have g1:128 ≤ c.toNat:=by omega
      simp only [g4,g3,g2,g1,if_true,x1,x2,x3,false_and,if_false]
  | d::e::f::r =>
   have hd:=d.toNat_lt
   have he:=e.toNat_lt
   have hf:=f.toNat_lt
   have n1:1 < (c::d::e::f::r).length:=by simp
   have n2:2 < (c::d::e::f::r).length:=by simp
   have n3:3 < (c::d::e::f::r).length:=by simp
   have l3:¬ (d::e::f::r).length < 3:=by simp
   have l2:¬ (d::e::f::r).length < 2:=by simp
   have l1:¬ (d::e::f::r).length < 1:=by simp
   generalize (c::d::e::f::r).length=n at n1 n2 n3
   simp only [sgn,decodeN,List.getD_cons_zero,List.getD_cons_succ,h128,if_false,n1,n2,n3,l1,l2,l3,true_and,or_false]
   by_cases g4:240 ≤ c.toNat
   ·have x1:¬ c.toNat / 32=6:=by omega
    have x2:¬ c.toNat / 16=14:=by omega
    simp only [g4,if_true,x1,x2,false_and,if_false,contN,xv13,restS,xv19]
    repeat' split
    all_goals omega
   ·by_cases g3:224 ≤ c.toNat
    ·have x1:¬ c.toNat / 32=6:=by omega
     have x2:c.toNat / 16=14:=by omega
     have x3:¬ c.toNat / 8=30:=by omega
     simp only [g4,g3,if_true,x1,x2,x3,true_and,false_and,if_false,contN,xv13,restS,xv19]
     repeat' split
     all_goals omega
    ·by_cases g2:192 ≤ c.toNat
     ·have x1:c.toNat / 32=6:=by omega
      have x2:¬ c.toNat / 16=14:=by omega
      have x3:¬ c.toNat / 8=30:=by omega
      simp only [g4,g3,g2,if_true,x1,x2,x3,true_and,false_and,if_false,contN,xv13,restS,xv19]
      repeat' split
      all_goals omega
     ·have x1:¬ c.toNat / 32=6:=by omega
      have x2:¬ c.toNat / 16=14:=by omega
      have x3:¬ c.toNat / 8=30:=by omega
      have g1:128 ≤ c.toNat:=by omega
      simp only [g4,g3,g2,g1,if_true,x1,x2,x3,false_and,if_false]
end Go.Rv
namespace Go.Rv
open Go.Lib
theorem xv133:∀ (l:List UInt8) (c:UInt8),-1 ≤ indexByte l c∧(0 ≤ indexByte l c ↔ c ∈ l)
 | [],c=>by simp [indexByte]
 | b::l,c=>by
  obtain ⟨h1,h2⟩:=xv133 l c
  simp only [indexByte]
  by_cases hb:b=c
  ·subst hb;simp
  ·have e1:(b == c)=false:=by simpa using hb
   have e2:c ∈ b::l ↔ c ∈ l:=by
    rw [List.mem_cons]
    exact ⟨fun h=>h.resolve_left (fun e=>hb e.symm),Or.inr⟩
   rw [e1,e2,← h2]
   simp only [Bool.false_eq_true,if_false]
   by_cases hi:indexByte l c=-1
   ·rw [hi];simp
   ·have e3:(indexByte l c == -1)=false:=by simpa using hi
    rw [e3]
    simp only [Bool.false_eq_true,if_false]
    omega
def good (l:List UInt8):Bool:=validD l && !decide ((0:UInt8) ∈ l)
theorem xv102 (s:List UInt8):fn91 s=some (decide (s.length ≤ 65535) && good s):=by
 simp only [fn91,good]
 by_cases h:s.length ≤ 65535
 ·rw [if_pos (by simpa using by omega)]
  simp only [fn23]
  rw [if_pos (by omega),Option.bind_some]
  cases hv:validD s with
  | false=>simp
  | true =>
   rw [if_pos rfl]
   simp only [fn24,Option.bind_some]
   have:=(xv133 s 0).2
   by_cases h0:(0:UInt8) ∈ s
   ·simp [h0,this.2 h0,h]
   ·simp [h0,mt this.1 h0,h]
 ·rw [if_neg (by simpa using by omega)]
  simp [h]
theorem xv89:∀ (k n:Nat) (l:List UInt8) (m:Nat),contN k n l=some m->∀ b ∈ l.take k,b.toNat / 64=2
 | 0,n,l,m,h=>by simp
 | k + 1,n,[],m,h=>by simp [contN] at h
 | k + 1,n,c::l,m,h=>by
  simp only [contN] at h
  split at h
  ·rename_i hc
   intro b hb
   rw [List.take_succ_cons,List.mem_cons] at hb
   rcases hb with rfl|hb
   ·exact hc
   ·exact xv89 k _ l m h b hb
  ·cases h
theorem xv151 {z least:Nat} {o:Option Nat} (h:0 < restN z least o):∃ m,o=some m∧restN z least o=z∧least ≤ m:=by
 cases o with
 | none=>simp [restN] at h
 | some m =>
  simp only [restN] at h ⊢
  split at h
  ·omega
  ·exact ⟨m,rfl,by rw [if_neg (by assumption)],by omega⟩
theorem xv258 (l:List UInt8) (h:0 < sgn l):∀ b ∈ l.take (sgn l),b ≠ 0:=by
 cases l with
 | nil=>simp [sgn] at h
 | cons c t =>
  have key:∀ k n least z,z=k + 1->0 < restN z least (contN k n t)->c.toNat ≠ 0->∀ b ∈ (c::t).take (restN z least (contN k n t)),b ≠ 0:=by
   intro k n least z hz hp hc b hb
   obtain ⟨m,h1,h2,_⟩:=xv151 hp
   rw [h2,hz,List.take_succ_cons,List.mem_cons] at hb
   rcases hb with rfl|hb
   ·intro e;rw [e] at hc;exact hc rfl
   ·have:=xv89 k n t m h1 b hb
    intro e;rw [e] at this;simp at this
  simp only [sgn] at h ⊢
  by_cases h1:240 ≤ c.toNat
  ·rw [if_pos h1] at h ⊢
   by_cases q:248 ≤ c.toNat∨t.length < 3
   ·rw [if_pos q] at h;omega
   ·rw [if_neg q] at h ⊢
    exact key 3 _ _ 4 rfl h (by omega)
  ·rw [if_neg h1] at h ⊢
   by_cases h2:224 ≤ c.toNat
   ·rw [if_pos h2] at h ⊢
    by_cases q:t.length < 2
    ·rw [if_pos q] at h;omega
    ·rw [if_neg q] at h ⊢
     exact key 2 _ _ 3 rfl h (by omega)
   ·rw [if_neg h2] at h ⊢
    by_cases h3:192 ≤ c.toNat
    ·rw [if_pos h3] at h ⊢
     by_cases q:t.length < 1
     ·rw [if_pos q] at h;omega
     ·rw [if_neg q] at h ⊢
      exact key 1 _ _ 2 rfl h (by omega)
    ·rw [if_neg h3] at h ⊢
     by_cases h4:128 ≤ c.toNat
     ·rw [if_pos h4] at h;omega
     ·rw [if_neg h4] at h ⊢
      obtain ⟨m,e1,e2,e3⟩:=xv151 h
      have:=key 0 c.toNat 1 1 rfl h (by cases e1;omega)
      exact this
theorem xv97 (z least:Nat) (o:Option Nat):restN z least o ≤ z:=by
 cases o with
 | none=>simp [restN]
 | some m=>simp only [restN];split<;>omega
theorem xv299 (l:List UInt8):sgn l ≤ l.length:=by
 cases l with
 | nil=>simp [sgn]
 | cons c t =>
  have a4:=xv97 4 65536 (contN 3 (c.toNat - 240) t)
  have a3:=xv97 3 2048 (contN 2 (c.toNat - 224) t)
  have a2:=xv97 2 128 (contN 1 (c.toNat - 192) t)
  have a1:=xv97 1 1 (some c.toNat)
  simp only [sgn,List.length_cons]
  repeat' split
  all_goals omega
theorem xv47 (c:UInt8) (t:List UInt8):good (c::t)=if sgn (c::t)=0 then false else good ((c::t).drop (sgn (c::t))):=by
 have hs:=xv208 c t
 have hv:=validD_step (c::t) (by simp)
 by_cases h0:sgn (c::t)=0
 ·rw [if_pos h0]
  rw [h0] at hs
  by_cases hd:decodeL (c::t)=(65533,1)
  ·simp [good,hv,hd]
  ·by_cases hc:c.toNat=0
   ·have:c=0:=by rw [← UInt8.toNat_inj];exact hc
    simp [good,this]
   ·rw [if_neg (by simp [hd,hc])] at hs
    have:=decodeL_width (c::t)
    omega
 ·rw [if_neg h0]
  have ht:=xv258 (c::t) (by omega)
  by_cases hd:decodeL (c::t)=(65533,1)∨c.toNat=0
  ·rw [if_pos hd] at hs;exact absurd hs h0
  ·rw [if_neg hd] at hs
   have h1:¬ ((decodeL (c::t)).1=65533∧(decodeL (c::t)).2=1):=fun e=>hd (Or.inl (Prod.ext e.1 e.2))
   rw [if_neg h1,← hs] at hv
   simp only [good,hv]
   congr 2
   have:(0:UInt8) ∈ (c::t) ↔ (0:UInt8) ∈ (c::t).drop (sgn (c::t)):=by
    constructor
    ·intro h
     rw [← List.take_append_drop (sgn (c::t)) (c::t),List.mem_append] at h
     rcases h with h|h
     ·exact absurd rfl (ht 0 h)
     ·exact h
    ·exact List.mem_of_mem_drop
   exact decide_eq_decide.2 this
theorem xv158 (s:List UInt8) (hl:s.length ≤ 65535):∀ (f p n:Nat),s.length - p ≤ f->p ≤ s.length->n ≤ p->iter (fn121_l0 s) ((n:Int),(p:Int))=some (if good (s.drop p) then .inr ((n + runeCountFrom ⟨s.toArray⟩ f p:Nat):Int) else .inl ()):=by
 intro f
 induction f with
 | zero =>
  intro p n hf hp hn
  rw [yv700]
  simp only [fn121_l0,fn121_b0]
  rw [if_neg (by simp;omega),List.drop_of_length_le (by omega)]
  rfl
 | succ f ih =>
  intro p n hf hp hn
  rw [yv700]
  simp only [fn121_l0,fn121_b0]
  by_cases hlt:p < s.length
  ·rw [if_pos (by simp;omega)]
   obtain ⟨v,hv⟩:=xv301 s p (by omega) hlt
   rw [hv,Option.bind_some]
   have hg:=xv47 s[p] (s.drop (p + 1))
   have hs:=xv208 s[p] (s.drop (p + 1))
   rw [← List.drop_eq_getElem_cons hlt] at hg hs
   have hdl:decodeL (s.drop p)=Utf8.decode ⟨s.toArray⟩ p:=by
    have:=decodeL_drop ⟨s.toArray⟩ p
    simpa using this
   have hw:=decodeL_width (s.drop p)
   simp only
   by_cases h0:sgn (s.drop p)=0
   ·rw [if_pos (by simp [h0]),hg,if_pos h0];rfl
   ·rw [if_neg (by simp;omega),hg,if_neg h0]
    have e2:sgn (s.drop p)=(Utf8.decode ⟨s.toArray⟩ p).2:=by
     rw [hs] at h0 ⊢
     split at h0
     ·exact absurd rfl h0
     ·rename_i hh
      rw [if_neg hh,hdl]
    have hle:p + sgn (s.drop p) ≤ s.length:=by
     have h3:(s.drop p).length=s.length - p:=List.length_drop
     have h4:=xv299 (s.drop p)
     omega
    have e3:w64 ((n:Int) + 1)=((n + 1:Nat):Int):=by rw [xv0 (by omega) (by omega)];simp
    have e4:w64 ((p:Int) + (sgn (s.drop p):Int))=((p + sgn (s.drop p):Nat):Int):=by rw [xv0 (by omega) (by omega)];simp
    rw [e3,e4]
    refine (ih (p + sgn (s.drop p)) (n + 1) (by omega) hle (by omega)).trans ?_
    rw [List.drop_drop]
    have e5:runeCountFrom ⟨s.toArray⟩ (f + 1) p=1 + runeCountFrom ⟨s.toArray⟩ f (p + sgn (s.drop p)):=by
     rw [runeCountFrom,if_pos (by show p < (List.toArray s).size;simpa using hlt),e2]
    rw [e5,← Nat.add_assoc]
  ·rw [if_neg (by simp;omega),List.drop_of_length_le (by omega),runeCountFrom_end _ _ _ (by show ¬ p < (List.toArray s).size;simpa using hlt)]
   rfl
theorem xv189 (s:List UInt8) (hl:s.length ≤ 65535):fn121 s=some (if good s then (runeCount ⟨s.toArray⟩:Int) else -1):=by
 simp only [fn121]
 have h:=xv158 s hl s.length 0 0 (by omega) (by omega) (by omega)
 rw [show (((0:Nat):Int))=0 from rfl] at h
 rw [if_neg (by simp;omega),h,List.drop_zero,Nat.zero_add]
 have e:runeCountFrom ⟨s.toArray⟩ s.length 0=runeCount ⟨s.toArray⟩:=by
  simp only [runeCount]
  rw [show ByteArray.size ⟨s.toArray⟩=s.length from List.size_toArray]
 rw [e]
 cases good s<;>rfl
theorem xv188 (s:List UInt8) (hl:s.length ≤ 65535):fn122 s=some (good s):=by
 simp only [fn122]
 rw [xv189 s hl]
 cases good s<;>simp
end Go.Rv
namespace Go.Rv
theorem xv39 {α:Type} {l:List α} {a b:Nat} (h1:a ≤ b) (h2:b ≤ l.length):slc l (a:Int) (b:Int)=some ((l.take b).drop a):=by
 simp only [slc,Int.toNat_natCast]
 rw [if_pos ⟨by omega,by omega,by omega⟩]
theorem xv31 (s:List UInt8) (h:s.length ≤ 9000):fn91 s=some (good s):=by
 rw [xv102,decide_eq_true (by omega),Bool.true_and]
theorem u8_toNat' {x:Int}:(u8 x).toNat=(x % 256).toNat:=by
 have:=yv484 x;omega
theorem u16_toNat' {x:Int}:(u16 x).toNat=(x % 65536).toNat:=by
 simp only [u16,UInt16.toNat_ofNat']
 have h:=Int.emod_lt_of_pos x (show (0:Int) < 65536 by decide)
 omega
theorem u32_toNat' {x:Int}:(u32 x).toNat=(x % 4294967296).toNat:=by
 simp only [u32,UInt32.toNat_ofNat']
 have h:=Int.emod_lt_of_pos x (show (0:Int) < 4294967296 by decide)
 omega
theorem u64_toNat' {x:Int}:(u64 x).toNat=(x % 18446744073709551616).toNat:=by
 simp only [u64,UInt64.toNat_ofNat']
 have h:=Int.emod_lt_of_pos x (show (0:Int) < 18446744073709551616 by decide)
 omega
theorem xv53 {a:UInt32} {y:Nat} (hy:y ≤ 32):(yv472 a (y:Int)).toNat=a.toNat / 2 ^ y:=by
 simp only [yv472,u32_toNat',Int.toNat_natCast,Nat.min_eq_left hy]
 have:((a.toNat:Int) / 2 ^ y)=((a.toNat / 2 ^ y:Nat):Int):=by simp
 rw [this]
 have h:=a.toNat_lt
 have:a.toNat / 2 ^ y ≤ a.toNat:=Nat.div_le_self _ _
 generalize a.toNat / 2 ^ y=q at this ⊢
 omega
theorem xv115 {a:UInt16} {y:Nat} (hy:y ≤ 16):(yv471 a (y:Int)).toNat=a.toNat / 2 ^ y:=by
 simp only [yv471,u16_toNat',Int.toNat_natCast,Nat.min_eq_left hy]
 have:((a.toNat:Int) / 2 ^ y)=((a.toNat / 2 ^ y:Nat):Int):=by simp
 rw [this]
 have h:=a.toNat_lt
 have:a.toNat / 2 ^ y ≤ a.toNat:=Nat.div_le_self _ _
 generalize a.toNat / 2 ^ y=q at this ⊢
 omega
theorem hi7 (c:UInt8):(c ||| (128:UInt8)).toNat=c.toNat % 128 + 128:=by
 have h:∀ n:Fin 256,((UInt8.ofNat n.val) ||| (128:UInt8)).toNat=n.val % 128 + 128:=by decide +kernel
 have:=h ⟨c.toNat,c.toNat_lt⟩
 simpa using this
theorem eq8 {c d:UInt8}:c=d ↔ c.toNat=d.toNat:=⟨fun h=>by rw [h],fun h=>UInt8.toNat_inj.1 h⟩
theorem chk_d {p:Prop} [Decidable p] (h:p):chk (decide p)=some ():=by simp [chk,h]
theorem xv167 {α:Type} {l:List α} {a:Nat} (h:a ≤ l.length):slc l (a:Int) (l.length:Int)=some (l.drop a):=by
 rw [xv39 h (Nat.le_refl _),List.take_length]
theorem xv325 {α:Type} {o:Option (List α)} {b:Nat} (h:b ≤ (L o).length):∃ r,slO o 0 (b:Int)=some r∧L r=(L o).take b:=by
 cases o with
 | none =>
  simp [L] at h;subst h
  exact ⟨none,rfl,rfl⟩
 | some l =>
  refine ⟨some (l.take b),?_,rfl⟩
  have:=xv39 (l:=l) (Nat.zero_le b) h
  simp only [slO]
  rw [show slc l 0 (b:Int)=some ((l.take b).drop 0) from this]
  rfl
theorem xv29 {α:Type} {n:Nat} {x:List α} {y:Option (List α)} (h1:(x.length + (L y).length) * n ≤ room) (h2:x.length + (L y).length ≤ room):appO n (some x) y=some (some (x++L y)):=by
 simp only [appO]
 rw [if_pos ⟨h1,h2⟩]
theorem xv118 {α:Type} {n:Nat} {a:α} {l:List α} (h1:(l.length + 1) * n ≤ room) (h2:l.length + 1 ≤ room):appO n none (some (a::l))=some (some (a::l)):=by
 simp only [appO,L,Option.getD_some]
 rw [if_pos ⟨h1,h2⟩]
theorem xv23 {α:Type} {n:Nat} {x:Option (List α)} {a:α} {l:List α} (h1:((L x).length + l.length + 1) * n ≤ room) (h2:(L x).length + l.length + 1 ≤ room):appO n x (some (a::l))=some (some (L x++a::l)):=by
 cases x with
 | none=>simp only [L,Option.getD_none,List.length_nil,Nat.zero_add,List.nil_append] at h1 h2 ⊢;exact xv118 h1 h2
 | some x=>exact xv29 (y:=some (a::l)) (by simpa [L,Nat.add_assoc] using h1) (by simpa [L,Nat.add_assoc] using h2)
end Go.Rv
namespace Go.Rv
open Go.Lib
theorem xv1 {α:Type} (l:List α):L (some l)=l:=rfl
def wild (s:List UInt8):Bool:=s.contains 43 || s.contains 35
theorem xv240 (s:List UInt8) (c:UInt8) (hl:s.length ≤ 70000):∀ (f i:Nat),s.length - i ≤ f->i ≤ s.length->iter (fn167_l0 s c) (i:Int)=some (if (s.drop i).contains c then .inl () else .inr ()):=by
 intro f
 induction f with
 | zero =>
  intro i h1 h2
  rw [yv700]
  simp only [fn167_l0,fn167_b0]
  rw [if_neg (by simp;omega),show s.drop i=[] from List.drop_eq_nil_of_le (by omega)]
  rfl
 | succ f ih =>
  intro i h1 h2
  rw [yv700]
  simp only [fn167_l0,fn167_b0]
  by_cases hlt:i < s.length
  ·rw [if_pos (by simp;omega),xv2,List.getElem?_eq_getElem hlt,Option.bind_some,List.drop_eq_getElem_cons hlt]
   by_cases hc:s[i]=c
   ·rw [if_pos (by simpa using hc)]
    simp [hc]
   ·rw [if_neg (by simpa using hc)]
    have e:w64 ((i:Int) + 1)=((i + 1:Nat):Int):=by rw [xv0 (by omega) (by omega)];simp
    have hb:(c == s[i])=false:=by simpa using Ne.symm hc
    rw [e]
    refine (ih (i + 1) (by omega) (by omega)).trans ?_
    rw [List.contains_cons,hb,Bool.false_or]
  ·rw [if_neg (by simp;omega),show s.drop i=[] from List.drop_eq_nil_of_le (by omega)]
   rfl
theorem xv278 (s:List UInt8) (c:UInt8) (hl:s.length ≤ 70000):fn167 s c=some (s.contains c):=by
 simp only [fn167]
 have:=xv240 s c hl s.length 0 (by omega) (by omega)
 rw [show ((0:Nat):Int)=0 from rfl] at this
 rw [this,List.drop_zero]
 cases s.contains c<;>rfl
theorem xv249 (s:List UInt8) (hl:s.length ≤ 70000):fn151 s=some (wild s):=by
 simp only [fn151,xv278 _ _ hl,Option.bind_some,wild]
 cases s.contains 43<;>simp
theorem xv213:∀ s:List UInt8,containsAny s [43,35]=wild s:=by
 intro s
 induction s with
 | nil=>rfl
 | cons b l ih =>
  have h:=indexAny_ge [43,35] l
  simp only [containsAny,wild] at ih ⊢
  rw [indexAny]
  by_cases hb:([43,35]:List UInt8).contains b=true
  ·rw [if_pos hb]
   simp at hb
   rcases hb with rfl|rfl<;>simp
  ·rw [if_neg hb]
   simp at hb
   have n1:¬ (43:UInt8)=b:=fun e=>hb.1 e.symm
   have n2:¬ (35:UInt8)=b:=fun e=>hb.2 e.symm
   simp only [List.contains_cons,beq_iff_eq,n1,n2,decide_false,Bool.false_or] at ih ⊢
   rw [show ((43:UInt8) == b)=false by simpa using n1,show ((35:UInt8) == b)=false by simpa using n2,Bool.false_or,Bool.false_or,← ih]
   by_cases hm:indexAny l [43,35]=-1
   ·rw [hm];rfl
   ·rw [if_neg (by simpa using hm)]
    exact decide_eq_decide.2 (by omega)
theorem xv87 (s:List UInt8) (hl:s.length ≤ 70000):fn94 s=some (wild s):=by
 simp only [fn94,fn17]
 rw [if_true,if_pos (by omega),Option.bind_some,xv213]
def lv:List UInt8->List (List UInt8)
 | []=>[[]]
 | b::t=>if b=47 then []::lv t else match lv t with
  | []=>[[b]]
  | x::l=>(b::x)::l
theorem xv57 (b c:UInt8) (l:List UInt8):index (b::l) [c]=if b=c then 0 else if index l [c]=-1 then -1 else index l [c] + 1:=by
 rw [index]
 by_cases h:b=c
 ·subst h;simp [List.isPrefixOf]
 ·simp [List.isPrefixOf,h,Ne.symm h]
theorem xv259:∀ s:List UInt8,splitK [47] 0 (count s [47]) s=lv s:=by
 intro s
 induction s with
 | nil=>rfl
 | cons b t ih =>
  by_cases h:b=47
  ·subst h
   rw [count_cons_eq,Nat.add_comm,splitK]
   have e:index (47::t) [47]=0:=by rw [xv57,if_pos rfl]
   rw [e,if_neg (by decide)]
   simp only [lv,if_true]
   rw [← ih];rfl
  ·rw [count_cons_ne b 47 t h]
   simp only [lv,if_neg h]
   rw [← ih]
   have hge:=index_ge t [47]
   have hix:index (b::t) [47]=if index t [47]=-1 then -1 else index t [47] + 1:=by rw [xv57,if_neg h]
   cases hk:count t [47] with
   | zero=>rfl
   | succ k =>
    have hm:index t [47] ≠ -1:=fun e=>by rw [count_miss e] at hk;cases hk
    obtain ⟨j,hj⟩:∃ j:Nat,index t [47]=j:=⟨(index t [47]).toNat,by omega⟩
    simp only [splitK]
    rw [hix,if_neg hm,hj]
    rw [if_neg (by simp;omega),if_neg (by simp)]
    simp only
    rw [show ((j:Int) + 1).toNat=j + 1 by omega,Int.toNat_natCast]
    simp [Nat.add_right_comm]
theorem xv192 (s:List UInt8) (hl:s.length ≤ 70000):fn52 s [47]=some (some (lv s)):=by
 simp only [fn52]
 rw [if_pos (by omega),splitB_data]
 exact congrArg (fun l=>some (some l)) (xv259 s)
end Go.Rv
namespace Go.Rv
open Go.Lib
theorem lv_ne:∀ s,lv s ≠ []
 | []=>by simp [lv]
 | b::t=>by
  simp only [lv]
  split
  ·simp
  ·split<;>simp
def lvp (p t:List UInt8):List (List UInt8):=match lv t with
 | []=>[p]
 | x::l=>(p++x)::l
theorem xv284 (p:List UInt8):lvp p []=[p]:=by simp [lvp,lv]
theorem xv319 (p t:List UInt8):lvp p (47::t)=p::lv t:=by simp [lvp,lv]
theorem xv318 (p t:List UInt8) (b:UInt8) (h:b ≠ 47):lvp p (b::t)=lvp (p++[b]) t:=by
 simp only [lvp,lv,if_neg h]
 cases lv t<;>simp
theorem lvp_0 (t:List UInt8):lvp [] t=lv t:=by
 have:=lv_ne t
 simp only [lvp]
 cases h:lv t<;>simp_all
theorem xv244:∀ s,(lv s).length ≤ s.length + 1
 | []=>by simp [lv]
 | b::t=>by
  have:=xv244 t
  simp only [lv]
  split
  ·simp;omega
  ·split
   ·simp
   ·rename_i h;rw [h] at this;simp at this ⊢;omega
theorem xv38 {s:List UInt8} {a i:Nat} (h1:a ≤ i) (h2:i < s.length):(s.take (i + 1)).drop a=(s.take i).drop a++[s[i]]:=by
 rw [List.take_succ_eq_append_getElem h2,List.drop_append_of_le_length (by simp;omega)]
theorem xv112 (s:List UInt8) (hl:s.length ≤ 70000):∀ (f:Nat) (o:Option (List (List UInt8))) (a i:Nat),s.length + 1 - i ≤ f->a ≤ i->i ≤ s.length->(L o).length ≤ i ->
 iter (fn101_l0 s) (o,(a:Int),(i:Int))=some (some (L o++lvp ((s.take i).drop a) (s.drop i))):=by
 intro f
 induction f with
 | zero=>intro o a i h1 h2 h3 h4;omega
 | succ f ih =>
  intro o a i h1 h2 h3 h4
  rw [yv700]
  simp only [fn101_l0,fn101_b0]
  have e:w64 ((i:Int) + 1)=((i + 1:Nat):Int):=by rw [xv0 (by omega) (by omega)];simp
  have happ:appO 16 o (some [(s.take i).drop a])=some (some (L o++[(s.take i).drop a])):=by
   have:=xv23 (n:=16) (x:=o) (a:=(s.take i).drop a) (l:=[]) (by simp [room];omega) (by simp [room];omega)
   simpa using this
  rw [if_pos (by simp;omega)]
  by_cases hi:i=s.length
  ·subst hi
   rw [if_pos (by simp)]
   simp only [fn101_c1,if_true]
   rw [xv39 h2 (Nat.le_refl _),Option.bind_some,happ,Option.bind_some,e]
   have hend:∀ z:Option (List (List UInt8)) × Int × Int,z.2.2=((s.length + 1:Nat):Int)->iter (fn101_l0 s) z=some z.1:=by
    intro z hz
    rw [yv700]
    simp only [fn101_l0,fn101_b0]
    rw [if_neg (by rw [hz];simp;omega)]
   refine (hend _ rfl).trans ?_
   rw [List.drop_length,xv284]
  ·have hlt:i < s.length:=by omega
   rw [if_neg (by simp;omega),xv2,List.getElem?_eq_getElem hlt,Option.bind_some,List.drop_eq_getElem_cons hlt]
   simp only [fn101_c1]
   by_cases hc:s[i]=47
   ·rw [if_pos (by simpa using hc),xv39 h2 h3,Option.bind_some,happ,Option.bind_some,e]
    refine (ih _ (i + 1) (i + 1) (by omega) (Nat.le_refl _) hlt (by simp;omega)).trans ?_
    rw [hc,xv319,show (s.take (i + 1)).drop (i + 1)=[] from List.drop_eq_nil_of_le (by simp;omega),lvp_0]
    simp
   ·rw [if_neg (by simpa using hc),e]
    refine (ih o a (i + 1) (by omega) (by omega) hlt (by omega)).trans ?_
    rw [xv318 _ _ _ hc,xv38 h2 hlt]
theorem xv183 (s:List UInt8) (hl:s.length ≤ 70000):fn101 s=some (some (lv s)):=by
 simp only [fn101]
 have:=xv112 s hl (s.length + 1) none 0 0 (by omega) (by omega) (by omega) (by simp)
 rw [show ((0:Nat):Int)=0 from rfl] at this
 rw [this]
 simp [lvp_0]
def nameB (s:List UInt8):Bool:=!decide (s=[]) && good s && !wild s
theorem xv86 (s:List UInt8) (hl:s.length ≤ 9000):fn95 s=some (nameB s):=by
 simp only [fn95,xv31 s hl,xv87 s (by omega),nameB,Option.bind_some]
 by_cases h:s=[]
 ·simp [h]
 ·cases good s<;>simp [h]
end Go.Rv
namespace Go.Rv
open Go.Lib
def okL (x:List UInt8) (last:Bool):Bool:=decide (x=[43]) || (decide (x=[35]) && last) || !wild x
def xv35:List (List UInt8)->Bool
 | []=>true
 | x::l=>okL x l.isEmpty && xv35 l
def xv60 (s:List UInt8):Bool:=!decide (s=[]) && xv35 (lv s)
theorem xv25:∀ (s x:List UInt8),x ∈ lv s->x.length ≤ s.length
 | [],x,h=>by simp [lv] at h;simp [h]
 | b::t,x,h=>by
  simp only [lv] at h
  split at h
  ·rcases List.mem_cons.1 h with rfl|h
   ·simp
   ·have:=xv25 t x h;simp;omega
  ·split at h
   ·rename_i e;exact absurd e (lv_ne t)
   ·rename_i y l e
    rcases List.mem_cons.1 h with rfl|h
    ·have:=xv25 t y (by rw [e];simp);simp;omega
    ·have:=xv25 t x (by rw [e];simp [h]);simp;omega
theorem xv44 {α:Type} (l:List α) (i:Nat) (h:i < l.length):(l.drop (i + 1)).isEmpty=decide (i + 1=l.length):=by
 rw [Bool.eq_iff_iff]
 simp [List.isEmpty_iff]
 omega
theorem xv116 (l:List (List UInt8)) (hl:l.length ≤ 70000) (hx:∀ x ∈ l,x.length ≤ 70000):∀ (f i:Nat),l.length - i ≤ f->i ≤ l.length ->
 iter (fn77_l0 (some l) (some l) (l.length:Int)) (i:Int)=some (if xv35 (l.drop i) then .inr () else .inl ()):=by
 intro f
 induction f with
 | zero =>
  intro i h1 h2
  rw [yv700]
  simp only [fn77_l0,fn77_b0]
  rw [if_neg (by simp;omega),show l.drop i=[] from List.drop_eq_nil_of_le (by omega)]
  rfl
 | succ f ih =>
  intro i h1 h2
  rw [yv700]
  simp only [fn77_l0,fn77_b0,xv1]
  by_cases hlt:i < l.length
  ·have hw:=xv87 l[i] (hx _ (List.getElem_mem hlt))
   have e:w64 ((i:Int) + 1)=((i + 1:Nat):Int):=by rw [xv0 (by omega) (by omega)];simp
   have e2:w64 ((l.length:Int) - 1)=((l.length - 1:Nat):Int):=by rw [xv0 (by omega) (by omega)];omega
   have ih:=ih (i + 1) (by omega) (by omega)
   have hemp:=xv44 l i hlt
   rw [if_pos (by simp;omega),xv2,List.getElem?_eq_getElem hlt,Option.bind_some,List.drop_eq_getElem_cons hlt,e]
   simp only [e2,xv35,okL,hemp,fn77_c1,hw,Option.bind_some]
   generalize l[i]=x at hw ⊢
   by_cases h43:x=[43]
   ·rw [if_pos (by simpa using h43),if_pos (by simpa using h43)]
    refine ih.trans ?_
    simp [h43]
   ·rw [if_neg (by simpa using h43)]
    by_cases h35:x=[35]
    ·rw [if_pos (by simpa using h35)]
     by_cases hlast:i + 1=l.length
     ·rw [if_pos (by simp;omega)]
      refine ih.trans ?_
      simp [h35,hlast]
     ·rw [if_neg (by simp;omega)]
      have:wild x=true:=by rw [h35];rfl
      rw [this,if_pos rfl]
      simp [h43,h35,hlast,show wild [35]=true from rfl]
    ·rw [if_neg (by simpa using h35),if_neg (by decide)]
     cases wild x
     ·rw [if_neg (by decide)]
      refine ih.trans ?_
      simp
     ·rw [if_pos rfl]
      simp [h43,h35]
  ·rw [if_neg (by simp;omega),show l.drop i=[] from List.drop_eq_nil_of_le (by omega)]
   rfl
theorem xv103 (s:List UInt8) (hl:s.length ≤ 9000):fn77 s=some (xv60 s):=by
 simp only [fn77,xv60]
 by_cases h:s=[]
 ·simp [h]
 ·rw [if_neg (by simpa using h),xv192 s (by omega),Option.bind_some]
  have h2:=xv244 s
  have:=xv116 (lv s) (by omega) (fun x hx=>by have:=xv25 s x hx;omega) (lv s).length 0 (by omega) (by omega)
  rw [show ((0:Nat):Int)=0 from rfl] at this
  simp only [xv1]
  rw [this,List.drop_zero]
  simp only [h,decide_false,Bool.not_false,Bool.true_and]
  cases xv35 (lv s)<;>rfl
theorem xv114 (l:List (List UInt8)) (hl:l.length ≤ 70000) (hx:∀ x ∈ l,x.length ≤ 70000):∀ (f i:Nat),l.length - i ≤ f->i ≤ l.length ->
 iter (fn129_l0 (some l)) (i:Int)=some (if xv35 (l.drop i) then .inr () else .inl ()):=by
 intro f
 induction f with
 | zero =>
  intro i h1 h2
  rw [yv700]
  simp only [fn129_l0,fn129_b0,xv1]
  rw [if_neg (by simp;omega),show l.drop i=[] from List.drop_eq_nil_of_le (by omega)]
  rfl
 | succ f ih =>
  intro i h1 h2
  rw [yv700]
  simp only [fn129_l0,fn129_b0,xv1]
  by_cases hlt:i < l.length
  ·have hw:=fun c=>xv278 l[i] c (hx _ (List.getElem_mem hlt))
   have e:w64 ((i:Int) + 1)=((i + 1:Nat):Int):=by rw [xv0 (by omega) (by omega)];simp
   have ih:=ih (i + 1) (by omega) (by omega)
   have hemp:=xv44 l i hlt
   rw [if_pos (by simp;omega)]
   simp only [xv2,List.getElem?_eq_getElem hlt,Option.bind_some,hw]
   rw [List.drop_eq_getElem_cons hlt,e]
   simp only [xv35,okL,hemp,wild]
   generalize l[i]=x at hw ⊢
   by_cases h43:x=[43]
   ·subst h43
    rw [show ([43]:List UInt8).contains 43=true from rfl,show ([43]:List UInt8).contains 35=false from rfl]
    simp only [if_true,decide_true,Bool.not_true,Bool.false_eq_true,if_false]
    refine ih.trans ?_
    simp
   ·by_cases h35:x=[35]
    ·subst h35
     rw [show ([35]:List UInt8).contains 43=false from rfl,show ([35]:List UInt8).contains 35=true from rfl]
     simp only [if_true,decide_true,Bool.not_true,Bool.false_eq_true,if_false]
     by_cases hlast:i + 1=l.length
     ·rw [if_neg (by simp;omega)]
      refine ih.trans ?_
      simp [hlast]
     ·rw [if_pos (by simp;omega)]
      simp [hlast]
    ·simp only [h43,h35,decide_false,Bool.not_false,if_true,Bool.false_or,Bool.false_and]
     cases x.contains 43
     ·simp only [Bool.false_eq_true,if_false,Bool.false_or]
      cases x.contains 35
      ·simp only [Bool.false_eq_true,if_false]
       refine ih.trans ?_
       simp
      ·simp
     ·simp
  ·rw [if_neg (by simp;omega),show l.drop i=[] from List.drop_eq_nil_of_le (by omega)]
   rfl
theorem xv99 (s:List UInt8) (hl:s.length ≤ 9000):fn129 s=some (xv60 s):=by
 simp only [fn129,xv60,xv183 s (by omega),Option.bind_some]
 have h2:=xv244 s
 have:=xv114 (lv s) (by omega) (fun x hx=>by have:=xv25 s x hx;omega) (lv s).length 0 (by omega) (by omega)
 rw [show ((0:Nat):Int)=0 from rfl] at this
 rw [this,List.drop_zero]
 cases xv35 (lv s)
 ·simp
 ·simp only [if_true,Option.bind_some,Bool.and_true]
  congr 1
  by_cases h:s=[]
  ·simp [h]
  ·have:s.length ≠ 0:=fun e=>h (List.length_eq_zero_iff.1 e)
   simp [h];omega
end Go.Rv
namespace Go.Rv
open Go.Lib
abbrev shP:List UInt8:=[36,115,104,97,114,101,47]
def cutO:List UInt8->Option (List UInt8 × List UInt8)
 | []=>none
 | b::t=>if b=47 then some ([],t) else (cutO t).map fun p=>(b::p.1,p.2)
def cutR (t:List UInt8):Option (List UInt8 × List UInt8)->List UInt8 × List UInt8 × Bool
 | none=>(t,[],false)
 | some (a,b)=>(a,b,true)
theorem xv314:∀ t:List UInt8,cut t [47]=cutR t (cutO t):=by
 intro t
 induction t with
 | nil=>rfl
 | cons b t ih =>
  have hge:=index_ge t [47]
  simp only [cut] at ih ⊢
  rw [xv57]
  simp only [cutO]
  by_cases h:b=47
  ·rw [if_pos h];subst h
   rw [if_pos (by decide)]
   simp [cutR]
  ·rw [if_neg h]
   by_cases hm:index t [47]=-1
   ·rw [hm] at ih ⊢
    rw [if_neg (by decide)] at ih
    rw [if_pos rfl,if_neg (by decide)]
    cases hc:cutO t with
    | none=>simp [h,cutR]
    | some p=>rw [hc] at ih;simp [cutR] at ih
   ·rw [if_neg hm]
    obtain ⟨j,hj⟩:∃ j:Nat,index t [47]=j:=⟨(index t [47]).toNat,by omega⟩
    rw [hj] at ih ⊢
    rw [if_pos (by omega)] at ih
    rw [if_pos (by omega)]
    cases hc:cutO t with
    | none=>rw [hc] at ih;simp [cutR] at ih
    | some p =>
     rw [hc] at ih
     simp only [cutR,Prod.mk.injEq,Int.toNat_natCast] at ih
     simp only [h,if_false,Option.map_some,cutR,show ((j:Int) + 1).toNat=j + 1 by omega,List.take_succ_cons,ih.1]
     rw [← ih.2.1]
     simp [Nat.add_right_comm]
theorem xv210 (s:List UInt8) (hl:s.length ≤ 70000):fn78 s [47]=some (cutR s (cutO s)):=by
 simp only [fn78]
 rw [if_pos (by omega),xv314]
theorem xv277 (s p:List UInt8) (hl:s.length ≤ 70000) (hp:p.length ≤ 100):fn6 s p=some (decide (s.take p.length=p)):=by
 simp only [fn6]
 by_cases h:p.length ≤ s.length
 ·rw [if_pos (by simp;omega)]
  have:=xv39 (l:=s) (a:=0) (b:=p.length) (by omega) h
  rw [show ((0:Nat):Int)=0 from rfl] at this
  rw [this];rfl
 ·rw [if_neg (by simp;omega)]
  congr 1
  symm
  apply decide_eq_false
  intro e
  have:=congrArg List.length e
  simp at this
  omega
theorem xv199 (s:List UInt8) (hl:s.length ≤ 70000):fn21 s shP=some (if s.take 7=shP then (s.drop 7,true) else (s,false)):=by
 simp only [fn21,fn7,xv277 s shP hl (by decide),Option.bind_some,show shP.length=7 from rfl]
 by_cases h:s.take 7=shP
 ·have h7:7 ≤ s.length:=by
   have:=congrArg List.length h
   simp at this;omega
  simp only [h,decide_true,Bool.not_true,Bool.false_eq_true,if_false,if_true]
  rw [show ((7:Nat):Int)=7 from rfl]
  have:=xv167 (l:=s) (a:=7) h7
  rw [show ((7:Nat):Int)=7 from rfl] at this
  rw [this];rfl
 ·simp [h]
def shr (s:List UInt8):Option (Option (List UInt8 × List UInt8)):=if s.take 7=shP then some (cutO (s.drop 7)) else none
def shrR:Option (Option (List UInt8 × List UInt8))->List UInt8 × List UInt8 × Bool
 | none=>([],[],false)
 | some none=>([],[],true)
 | some (some (a,b))=>(a,b,true)
theorem xv166 (s:List UInt8) (hl:s.length ≤ 70000):∀ (f i:Nat),s.length - i ≤ f->7 ≤ i->i ≤ s.length ->
 (cutO (s.drop i)=none->iter (fn128_l0 s) (i:Int)=some (.inr ()))∧∀ a b,cutO (s.drop i)=some (a,b)->∃ v,iter (fn128_l0 s) (i:Int)=some (.inl ((s.take i).drop 7++a,b,v)):=by
 intro f
 induction f with
 | zero =>
  intro i h1 h7 h2
  rw [yv700]
  simp only [fn128_l0,fn128_b0]
  rw [if_neg (by simp;omega),show s.drop i=[] from List.drop_eq_nil_of_le (by omega)]
  exact ⟨fun _=>rfl,fun a b h=>by cases h⟩
 | succ f ih =>
  intro i h1 h7 h2
  rw [yv700]
  simp only [fn128_l0,fn128_b0]
  by_cases hlt:i < s.length
  ·have e:w64 ((i:Int) + 1)=((i + 1:Nat):Int):=by rw [xv0 (by omega) (by omega)];simp
   rw [if_pos (by simp;omega),xv2,List.getElem?_eq_getElem hlt,Option.bind_some,List.drop_eq_getElem_cons hlt]
   simp only [cutO]
   by_cases hc:s[i]=47
   ·rw [if_pos hc,if_pos (by simpa using hc)]
    refine ⟨fun h=>(by cases h),fun a b h=>?_⟩
    cases h
    have hs:=xv39 (l:=s) (a:=7) (b:=i) h7 h2
    rw [show ((7:Nat):Int)=7 from rfl] at hs
    have hf:=xv167 (l:=s) (a:=i + 1) (by omega)
    rw [hs,Option.bind_some,e,hf,Option.bind_some]
    exact ⟨_,by rw [List.append_nil]⟩
   ·rw [if_neg hc,if_neg (by simpa using hc),e]
    obtain ⟨n1,n2⟩:=ih (i + 1) (by omega) (by omega) hlt
    refine ⟨fun h=>n1 (by simpa using h),fun a b h=>?_⟩
    cases hq:cutO (s.drop (i + 1)) with
    | none=>rw [hq] at h;cases h
    | some p =>
     rw [hq] at h
     cases h
     obtain ⟨v,hv⟩:=n2 p.1 p.2 hq
     refine ⟨v,hv.trans ?_⟩
     rw [xv38 h7 hlt,List.append_assoc];rfl
  ·rw [if_neg (by simp;omega),show s.drop i=[] from List.drop_eq_nil_of_le (by omega)]
   exact ⟨fun _=>rfl,fun a b h=>by cases h⟩
theorem xv165 (s:List UInt8) (hl:s.length ≤ 70000):fn128 s=some (shrR (shr s)):=by
 simp only [fn128,shr]
 by_cases h7:s.length < 7
 ·have:s.take 7 ≠ shP:=fun e=>by
   have:=congrArg List.length e
   simp at this;omega
  rw [if_pos (by simp;omega),if_neg this];rfl
 ·have hs:=xv39 (l:=s) (a:=0) (b:=7) (by omega) (by omega)
  rw [show ((0:Nat):Int)=0 from rfl,show ((7:Nat):Int)=7 from rfl,List.drop_zero] at hs
  rw [if_neg (by simp;omega),hs,Option.bind_some]
  by_cases h:s.take 7=shP
  ·rw [if_neg (by simp [h]),if_pos h]
   obtain ⟨n1,n2⟩:=xv166 s hl s.length 7 (by omega) (by omega) (by omega)
   rw [show ((7:Nat):Int)=7 from rfl] at n1 n2
   cases hc:cutO (s.drop 7) with
   | none=>rw [n1 hc];rfl
   | some p =>
    obtain ⟨v,hv⟩:=n2 p.1 p.2 hc
    rw [hv]
    simp [shrR]
  ·rw [if_pos (by simp [h]),if_neg h];rfl
theorem xv76:∀ {t a b:List UInt8},cutO t=some (a,b)->a.length ≤ t.length∧b.length ≤ t.length
 | [],a,b,h=>by cases h
 | x::t,a,b,h=>by
  simp only [cutO] at h
  split at h
  ·cases h;simp
  ·cases hq:cutO t with
   | none=>rw [hq] at h;cases h
   | some p =>
    rw [hq] at h;cases h
    have:=xv76 (a:=p.1) (b:=p.2) hq
    simp;omega
theorem xv300 {s a b:List UInt8} (h:shr s=some (some (a,b))):a.length ≤ s.length∧b.length ≤ s.length:=by
 simp only [shr] at h
 split at h
 ·have:=xv76 (Option.some.inj h)
  simp at this;omega
 ·cases h
def shrF (s:List UInt8):Option (Option (List UInt8 × List UInt8))->Bool
 | none=>xv60 s
 | some none=>false
 | some (some (a,b))=>!decide (a=[]) && !wild a && xv60 b
def xv9 (s:List UInt8):Bool:=good s && shrF s (shr s)
theorem xv149 (s:List UInt8) (hl:s.length ≤ 9000):fn102 s=some (xv9 s):=by
 simp only [fn102,xv188 s (by omega),xv165 s (by omega),Option.bind_some,xv9]
 cases good s with
 | false=>simp
 | true =>
  simp only [Bool.not_true,Bool.false_eq_true,if_false,Bool.true_and]
  cases hs:shr s with
  | none=>simp [shrR,shrF,xv99 s hl]
  | some q =>
   cases q with
   | none=>simp [shrR,shrF]
   | some p =>
    obtain ⟨a,b⟩:=p
    have hlen:=xv300 hs
    simp only [shrR,shrF,if_true,xv249 a (by omega),xv99 b (by omega),Option.bind_some]
    by_cases ha:a=[]
    ·simp [ha]
    ·have:a.length ≠ 0:=fun e=>ha (List.length_eq_zero_iff.1 e)
     rw [if_pos (by simp;omega)]
     simp only [ha,decide_false,Bool.not_false,Bool.true_and]
     cases wild a<;>simp
theorem xv72 (s:List UInt8) (hl:s.length ≤ 9000):fn65 s=some (xv9 s):=by
 simp only [fn65,xv31 s hl,xv199 s (by omega),Option.bind_some,xv9]
 cases good s with
 | false=>simp
 | true =>
  simp only [Bool.not_true,Bool.false_eq_true,if_false,Bool.true_and]
  by_cases h:s.take 7=shP
  ·have hs:shr s=some (cutO (s.drop 7)):=if_pos h
   rw [if_pos h,hs]
   simp only [Bool.not_true,Bool.false_eq_true,if_false]
   rw [xv210 _ (by simp;omega),Option.bind_some]
   cases hc:cutO (s.drop 7) with
   | none=>simp [cutR,shrF]
   | some p =>
    obtain ⟨a,b⟩:=p
    have hlen:=xv76 hc
    simp at hlen
    simp only [cutR,shrF,if_true,xv87 a (by omega),xv103 b (by omega),Option.bind_some]
    by_cases ha:a=[]
    ·simp [ha]
    ·simp only [ha,decide_false,Bool.not_false,Bool.true_and,if_true]
     cases wild a<;>simp
  ·have hs:shr s=none:=if_neg h
   rw [if_neg h,hs]
   simp [shrF,xv103 s hl]
def xv37 (s:List UInt8):List UInt8 × List UInt8 × Bool:=match shr s with
 | some (some (a,b))=>if xv9 s then (a,b,true) else ([],[],false)
 | _=>([],[],false)
theorem xv150 (s:List UInt8) (hl:s.length ≤ 9000):fn103 s=some (xv37 s):=by
 simp only [fn103,xv165 s (by omega),Option.bind_some,xv149 s hl,xv37]
 cases hs:shr s with
 | none=>rfl
 | some q =>
  cases q with
  | none =>
   have:xv9 s=false:=by simp [xv9,hs,shrF]
   simp [shrR,this]
  | some p =>
   obtain ⟨a,b⟩:=p
   simp only [shrR]
   cases xv9 s<;>rfl
theorem xv168 (s:List UInt8) (hl:s.length ≤ 9000):fn66 s=some (xv37 s):=by
 simp only [fn66,xv199 s (by omega),Option.bind_some,xv72 s hl,xv37]
 by_cases h:s.take 7=shP
 ·have hs:shr s=some (cutO (s.drop 7)):=if_pos h
  rw [if_pos h]
  simp only [Bool.not_true,Bool.false_eq_true,if_false]
  have hf:xv9 s=(good s && shrF s (shr s)):=rfl
  rw [hs] at hf ⊢
  rw [xv210 _ (by simp;omega)]
  cases hc:cutO (s.drop 7) with
  | none =>
   rw [hc] at hf
   have:xv9 s=false:=by rw [hf];simp [shrF]
   simp [this]
  | some p =>
   obtain ⟨a,b⟩:=p
   cases xv9 s<;>rfl
 ·have hs:shr s=none:=if_neg h
  rw [if_neg h,hs];rfl
end Go.Rv
namespace Go.Rv
open Go.Lib
theorem all8 {p:UInt8->Prop} (h:∀ n:Fin 256,p (UInt8.ofNat n.val)):∀ x,p x:=by
 intro x
 have:=h ⟨x.toNat,x.toNat_lt⟩
 simpa using this
theorem xv212:iter fn92_l0 ((some []),1)=some (some [1,2,3,4,5,6,7,8,9,10,11,14,15,16]):=by
 rw [yv741 17 (by kernel_rfl)]
 kernel_rfl
def typeT (id:UInt8):Int:=(fn149 id).getD 0
def xv58 (id:UInt8):Option (List Int):=(fn125 id).getD none
theorem xv253:∀ id,fn149 id=some (typeT id):=by
 refine all8 ?_
 have:∀ n:Fin 256,(fn149 (UInt8.ofNat n.val)).isSome=true:=by decide +kernel
 intro n
 obtain ⟨v,hv⟩:=Option.isSome_iff_exists.1 (this n)
 rw [typeT,hv];rfl
theorem xv190:∀ id,fn125 id=some (xv58 id):=by
 refine all8 ?_
 have:∀ n:Fin 256,(fn125 (UInt8.ofNat n.val)).isSome=true:=by decide +kernel
 intro n
 obtain ⟨v,hv⟩:=Option.isSome_iff_exists.1 (this n)
 rw [xv58,hv];rfl
theorem xv296:∀ id,fn92 id=some ⟨typeT id,xv58 id⟩:=by
 intro id
 simp only [fn92,xv212,Option.bind_some]
 revert id
 refine all8 ?_
 decide +kernel
theorem xv81 (id:UInt8):fn115 id=some (typeT id):=by simp only [fn115,xv296,Option.bind_some]
theorem xv92:∀ id,(L (xv58 id)).length ≤ 20:=by
 refine all8 ?_
 decide +kernel
theorem xv134 (o:Option (List Int)) (k:Int) (hl:(L o).length ≤ 70000):∀ (f i:Nat),(L o).length - i ≤ f->i ≤ (L o).length ->
 (((L o).drop i).contains k=true->∃ j:Nat,iter (fn15_l0 o k ((L o).length:Int)) (i:Int)=some (.inl (j:Int)))∧(((L o).drop i).contains k=false->iter (fn15_l0 o k ((L o).length:Int)) (i:Int)=some (.inr ())):=by
 intro f
 induction f with
 | zero =>
  intro i h1 h2
  rw [yv700]
  simp only [fn15_l0,fn15_b0]
  rw [if_neg (by simp;omega),show (L o).drop i=[] from List.drop_eq_nil_of_le (by omega)]
  exact ⟨fun h=>(by cases h),fun _=>rfl⟩
 | succ f ih =>
  intro i h1 h2
  rw [yv700]
  simp only [fn15_l0,fn15_b0]
  by_cases hlt:i < (L o).length
  ·have e:w64 ((i:Int) + 1)=((i + 1:Nat):Int):=by rw [xv0 (by omega) (by omega)];simp
   rw [if_pos (by simp;omega),xv2,List.getElem?_eq_getElem hlt,Option.bind_some,List.drop_eq_getElem_cons hlt,List.contains_cons]
   by_cases hc:k=(L o)[i]
   ·rw [if_pos (by simpa using hc)]
    refine ⟨fun _=>⟨i,rfl⟩,fun h=>?_⟩
    rw [show (k == (L o)[i])=true by simpa using hc] at h
    cases h
   ·rw [if_neg (by simpa using hc),show (k == (L o)[i])=false by simpa using hc,Bool.false_or,e]
    exact ih (i + 1) (by omega) hlt
  ·rw [if_neg (by simp;omega),show (L o).drop i=[] from List.drop_eq_nil_of_le (by omega)]
   exact ⟨fun h=>(by cases h),fun _=>rfl⟩
theorem xv75 (o:Option (List Int)) (k:Int) (hl:(L o).length ≤ 70000):fn13 o k=some ((L o).contains k):=by
 simp only [fn13,fn15]
 have:=xv134 o k hl (L o).length 0 (by omega) (by omega)
 rw [show ((0:Nat):Int)=0 from rfl,List.drop_zero] at this
 cases hc:(L o).contains k with
 | true =>
  obtain ⟨j,hj⟩:=this.1 hc
  rw [hj]
  show some (decide ((j:Int) ≥ 0))=some true
  rw [decide_eq_true (by omega)]
 | false=>rw [this.2 hc];rfl
def forB (id:UInt8) (k:Int):Bool:=(L (xv58 id)).contains k
theorem xv205 (id:UInt8) (k:Int):fn141 id k=some (forB id k):=by
 have:=xv92 id
 simp only [fn141,xv296,Option.bind_some,xv75 _ k (show (L (xv58 id)).length ≤ 70000 by omega),forB]
theorem xv239 (o:Option (List Int)) (k:Int) (hl:(L o).length ≤ 70000):∀ (f i:Nat),(L o).length - i ≤ f->i ≤ (L o).length ->
 iter (fn168_l0 k o) (i:Int)=some (if ((L o).drop i).contains k then .inl () else .inr ()):=by
 intro f
 induction f with
 | zero =>
  intro i h1 h2
  rw [yv700]
  simp only [fn168_l0,fn168_b0]
  rw [if_neg (by simp;omega),show (L o).drop i=[] from List.drop_eq_nil_of_le (by omega)]
  rfl
 | succ f ih =>
  intro i h1 h2
  rw [yv700]
  simp only [fn168_l0,fn168_b0]
  by_cases hlt:i < (L o).length
  ·have e:w64 ((i:Int) + 1)=((i + 1:Nat):Int):=by rw [xv0 (by omega) (by omega)];simp
   rw [if_pos (by simp;omega),xv2,List.getElem?_eq_getElem hlt,Option.bind_some,List.drop_eq_getElem_cons hlt,List.contains_cons]
   by_cases hc:(L o)[i]=k
   ·rw [if_pos (by simpa using hc),show (k == (L o)[i])=true by simpa using hc.symm]
    rfl
   ·rw [if_neg (by simpa using hc),show (k == (L o)[i])=false by simpa using fun e=>hc e.symm,Bool.false_or,e]
    exact ih (i + 1) (by omega) hlt
  ·rw [if_neg (by simp;omega),show (L o).drop i=[] from List.drop_eq_nil_of_le (by omega)]
   rfl
theorem xv152 (id:UInt8) (k:Int):fn168 id k=some (forB id k):=by
 have h:=xv92 id
 simp only [fn168,xv190,Option.bind_some,forB]
 have:=xv239 (xv58 id) k (by omega) (L (xv58 id)).length 0 (by omega) (by omega)
 rw [show ((0:Nat):Int)=0 from rfl,List.drop_zero] at this
 rw [this]
 cases (L (xv58 id)).contains k<;>rfl
def xv45 (id:UInt8) (k:Int):Bool:=forB id k && (decide (id=38) || (decide (id=11) && decide (k=3)))
theorem xv185 (id:UInt8) (k:Int):fn97 id k=some (xv45 id k):=by
 simp only [fn97,xv205,Option.bind_some,xv45]
 cases forB id k<;>cases decide (id=38)<;>cases decide (id=11)<;>simp
theorem xv191 (id:UInt8) (k:Int):fn126 id k=some (xv45 id k):=by
 simp only [fn126,xv152,Option.bind_some,xv45]
 cases forB id k<;>cases decide (id=38)<;>cases decide (id=11)<;>simp
def xv20 (id:UInt8) (n:UInt32) (a b:List UInt8):Bool :=
 if typeT id=1 then decide (n < 256) && (decide (a=[]) && decide (b=[]))
 else if typeT id=2 then decide (n < 65536) && (decide (a=[]) && decide (b=[]))
 else if typeT id=3 then decide (a=[]) && decide (b=[])
 else if typeT id=4 then decide (n < 268435456) && (decide (a=[]) && decide (b=[]))
 else if typeT id=5 then decide (n=0) && good a && decide (b=[])
 else if typeT id=6 then decide (n=0) && decide (b=[])
 else if typeT id=7 then decide (n=0) && good a && good b
 else false
theorem le32 (n:UInt32):decide (n ≤ (268435455:UInt32))=decide (n < (268435456:UInt32)):=by
 rw [Bool.eq_iff_iff]
 simp only [decide_eq_true_eq,UInt32.le_iff_toNat_le,UInt32.lt_iff_toNat_lt]
 show n.toNat ≤ 268435455 ↔ n.toNat < 268435456
 omega
theorem xv95 (p:fn140) (ha:p.A.length ≤ 9000) (hb:p.B.length ≤ 9000):fn93 p=some (xv20 p.Id p.N p.A p.B):=by
 have hla:decide ((p.A.length:Int) ≤ 65535)=true:=decide_eq_true (by omega)
 simp only [fn93,fn93_c0,xv81,Option.bind_some,xv31 _ ha,xv31 _ hb,xv20,le32,hla]
 generalize typeT p.Id=t
 by_cases h1:t=1<;>by_cases h2:t=2<;>by_cases h3:t=3<;>by_cases h4:t=4<;>by_cases h5:t=5<;>by_cases h6:t=6<;>by_cases h7:t=7<;>(try (exfalso;omega)) <;>
  simp only [h1,h2,h3,h4,h5,h6,h7,decide_true,decide_false,if_true,if_false,Bool.false_eq_true] <;>
  cases decide (p.A=[])<;>cases decide (p.B=[])<;>cases decide (p.N=0)<;>cases decide (p.N < 256)<;>cases decide (p.N < 65536)<;>cases decide (p.N < 268435456)<;>cases good p.A<;>cases good p.B<;>simp
end Go.Rv
namespace Go.Rv
open Go.Lib
def valB (id:UInt8) (n:UInt32) (a:List UInt8):Bool :=
 if typeT id=1 then decide (n < 2)
 else if decide (id=11) || decide (id=33) || decide (id=35) || decide (id=39) then !decide (n=0)
 else if id=8 then nameB a
 else true
def xv42 (id:UInt8) (n:UInt32) (a b:List UInt8):Bool:=xv20 id n a b && valB id n a
theorem le1 (n:UInt32):decide (n ≤ (1:UInt32))=decide (n < (2:UInt32)):=by
 rw [Bool.eq_iff_iff]
 simp only [decide_eq_true_eq,UInt32.le_iff_toNat_le,UInt32.lt_iff_toNat_lt]
 show n.toNat ≤ 1 ↔ n.toNat < 2
 omega
theorem xv187 (p:fn140) (ha:p.A.length ≤ 9000) (hb:p.B.length ≤ 9000):fn96 p=some (xv42 p.Id p.N p.A p.B):=by
 simp only [fn96,fn96_c0,xv95 p ha hb,xv81,Option.bind_some,le1,xv86 p.A ha,xv42,valB]
 cases xv20 p.Id p.N p.A p.B with
 | false=>simp
 | true =>
  simp only [Bool.not_true,Bool.false_eq_true,if_false,Bool.true_and]
  by_cases h1:typeT p.Id=1
  ·simp [h1]
  ·simp only [h1,decide_false,Bool.false_eq_true,if_false]
   by_cases a11:p.Id=11
   ·simp [a11]
   ·by_cases a33:p.Id=33
    ·simp [a33]
    ·by_cases a35:p.Id=35
     ·simp [a35]
     ·by_cases a39:p.Id=39
      ·simp [a39]
      ·by_cases a8:p.Id=8<;>simp [a11,a33,a35,a39,a8]
end Go.Rv
namespace Go.Rv
def runL {σ α β:Type} (g:σ->α->σ ⊕ β) (e:σ->β):σ->List α->β
 | s,[]=>e s
 | s,a::l=>match g s a with
  | .inl s'=>runL g e s' l
  | .inr b=>b
def stepL {Z σ β:Type} (mk:σ->Int->Z) (i:Nat):σ ⊕ β->Z ⊕ β
 | .inl s'=>.inl (mk s' ((i + 1:Nat):Int))
 | .inr b=>.inr b
theorem xv24 {Z σ β α:Type} (l:List α) (step:Z->Option (Z ⊕ β)) (mk:σ->Int->Z) (g:σ->α->σ ⊕ β) (e:σ->β) (I:Nat->σ->Prop)
 (hin:∀ s i (h:i < l.length),I i s->step (mk s (i:Int))=some (stepL mk i (g s l[i])))
 (hI:∀ s i (h:i < l.length) s',I i s->g s l[i]=.inl s'->I (i + 1) s')
 (hout:∀ s,I l.length s->step (mk s (l.length:Int))=some (.inr (e s))) (s:σ) (h0:I 0 s) :
 iter step (mk s 0)=some (runL g e s l):=by
 have key:∀ (f i:Nat) (s:σ),l.length - i ≤ f->i ≤ l.length->I i s->iter step (mk s (i:Int))=some (runL g e s (l.drop i)):=by
  intro f
  induction f with
  | zero =>
   intro i s h1 h2 h3
   have:i=l.length:=by omega
   subst this
   rw [yv700,hout s h3,List.drop_length]
   rfl
  | succ f ih =>
   intro i s h1 h2 h3
   by_cases hlt:i < l.length
   ·rw [yv700,hin s i hlt h3,List.drop_eq_getElem_cons hlt]
    simp only [runL]
    cases hg:g s l[i] with
    | inl s'=>exact ih (i + 1) s' (by omega) hlt (hI s i hlt s' h3 hg)
    | inr b=>rfl
   ·have:i=l.length:=by omega
    subst this
    rw [yv700,hout s h3,List.drop_length]
    rfl
 exact key l.length 0 s (by omega) (by omega) h0
theorem xv3 {i:Nat} (h:i < 9223372036854775807):w64 ((i:Int) + 1)=((i + 1:Nat):Int):=by
 rw [xv0 (by omega) (by omega)];simp
def mapO {α β:Type} (f:α->β) (o:Option (List α)):Option (List β):=if (L o).isEmpty then none else some ((L o).map f)
theorem xv108 {α β:Type} (f:α->β) (o:Option (List α)):L (mapO f o)=(L o).map f:=by
 simp only [mapO]
 split
 ·rename_i h
  rw [List.isEmpty_iff.1 h]
  rfl
 ·rfl
def accL {α β:Type} (f:α->β) (s:Option (List β)) (a:α):Option (List β) ⊕ Option (List β):=.inl (some (L s++[f a]))
theorem xv156 {α β:Type} (f:α->β):∀ (l:List α) (s:Option (List β)),runL (accL f) (fun x=>x) s l=if l.isEmpty then s else some (L s++l.map f)
 | [],s=>rfl
 | a::l,s=>by
  simp only [runL,accL]
  rw [xv156 f l]
  cases l with
  | nil=>rfl
  | cons b l=>simp [L]
end Go.Rv
namespace Go.Rv
def pQ (x:fn163):fn140:=⟨x.Id,x.N,x.A,x.B⟩
def pR (x:fn140):fn163:=⟨x.Id,x.N,x.A,x.B⟩
def fQ (x:fn112):fn59:=⟨x.Text,x.Opt⟩
def fR (x:fn59):fn112:=⟨x.Text,x.Opt⟩
theorem pR_pQ (l:List fn163):(l.map pQ).map pR=l:=by rw [List.map_map];exact List.map_id l
theorem fR_fQ (l:List fn112):(l.map fQ).map fR=l:=by rw [List.map_map];exact List.map_id l
theorem xv304 (o:Option (List fn163)) (h:(L o).length ≤ 1000):l06_To o=some (mapO pQ o):=by
 simp only [l06_To]
 have:=xv24 (L o) (l06_To_l0 o) (fun (s:Option (List fn140)) i=>(s,i)) (accL pQ) (fun x=>x) (fun i s=>(L s).length=i)
  (fun s i hi hI=>by
   simp only [l06_To_l0,l06_To_b0,l05_To]
   rw [if_pos (by simp;omega),xv2,List.getElem?_eq_getElem hi]
   simp only [Option.bind_some]
   rw [xv23 (by have:=hI;simp [room];omega) (by have:=hI;simp [room];omega)]
   simp only [Option.bind_some]
   rw [xv3 (by omega)]
   rfl)
  (fun s i hi s' hI hg=>by
   simp only [accL,Sum.inl.injEq] at hg
   subst hg
   simp [L,← hI])
  (fun s hI=>by
   simp only [l06_To_l0,l06_To_b0]
   rw [if_neg (by simp)])
  none rfl
 rw [this]
 simp only [Option.bind_some,xv156,mapO]
 rfl
def nR (p:fn113):fn113:=⟨p.Kind,p.Dup,p.Retain,p.QoS,p.Id,p.Clean,p.Keep,p.Client,p.HasWill,p.HasUser,p.HasPass,p.WillQoS,p.WillRetain,some (L p.WillProps),p.WillTopic,p.WillLoad,p.User,p.Pass,p.Present,p.Code,p.Topic,p.Load,some (L p.Filters),some (L p.Codes),some (L p.Props)⟩
def nP (p:fn60):fn113:=⟨p.Kind,p.Dup,p.Retain,p.QoS,p.Id,p.Clean,p.Keep,p.Client,p.HasWill,p.HasUser,p.HasPass,p.WillQoS,p.WillRetain,some ((L p.WillProps).map pR),p.WillTopic,p.WillLoad,p.User,p.Pass,p.Present,p.Code,p.Topic,p.Load,some ((L p.Filters).map fR),some (L p.Codes),some ((L p.Props).map pR)⟩
structure FewR (p:fn113):Prop where
 wp:(L p.WillProps).length ≤ 30
 pp:(L p.Props).length ≤ 30
 fl:(L p.Filters).length ≤ 30
 tx:p.Client.length + p.WillTopic.length + p.WillLoad.length + p.User.length + p.Pass.length + p.Topic.length + p.Load.length + (L p.Codes).length ≤ 3000
 ft:∀ f ∈ L p.Filters,f.Text.length ≤ 300
 pt:∀ x ∈ L p.Props,x.A.length ≤ 300∧x.B.length ≤ 300
 wt:∀ x ∈ L p.WillProps,x.A.length ≤ 300∧x.B.length ≤ 300
theorem nif {α:Type} (c:Bool) (x y:α):(if (!c)=true then some x else some y)=some (if c=true then y else x):=by cases c<;>rfl
theorem xv117 {α:Type} (l:List α) (step:Int->Option (Int ⊕ (Unit ⊕ Unit))) (q:α->Bool)
 (hin:∀ i (h:i < l.length),step (i:Int)=some (if q l[i] then .inl ((i + 1:Nat):Int) else .inr (.inl ()))) (hout:step (l.length:Int)=some (.inr (.inr ()))) :
 iter step 0=some (if l.all q then .inr () else .inl ()):=by
 have:=xv24 l step (fun (_:Unit) i=>i) (fun (_:Unit) (a:α)=>if q a then (.inl ():Unit ⊕ (Unit ⊕ Unit)) else .inr (.inl ())) (fun _=>.inr ()) (fun i s=>True)
  (fun s i hi hI=>by rw [hin i hi];cases q l[i]<;>rfl) (fun _ _ _ _ _ _=>trivial) (fun s hI=>hout) () trivial
 rw [this]
 have:∀ l:List α,runL (fun (_:Unit) (a:α)=>if q a then (.inl ():Unit ⊕ (Unit ⊕ Unit)) else .inr (.inl ())) (fun _=>.inr ()) () l=if l.all q then .inr () else .inl ():=by
  intro l
  induction l with
  | nil=>rfl
  | cons a l ih =>
   by_cases hq:q a=true
   ·rw [show (a::l).all q=l.all q by rw [List.all_cons,hq,Bool.true_and]]
    simp only [runL]
    rw [if_pos hq];exact ih
   ·rw [show (a::l).all q=false by rw [List.all_cons,show q a=false by simpa using hq,Bool.false_and]]
    simp only [runL]
    rw [if_neg hq];rfl
 rw [this]
def toP (p:fn113):fn60:=⟨p.Kind,p.Dup,p.Retain,p.QoS,p.Id,p.Clean,p.Keep,p.Client,p.HasWill,p.HasUser,p.HasPass,p.WillQoS,p.WillRetain,mapO pQ p.WillProps,p.WillTopic,p.WillLoad,p.User,p.Pass,p.Present,p.Code,p.Topic,p.Load,mapO fQ p.Filters,some (L p.Codes),mapO pQ p.Props⟩
def wF (p:fn60) (o:Option (List fn59)):fn60:=⟨p.Kind,p.Dup,p.Retain,p.QoS,p.Id,p.Clean,p.Keep,p.Client,p.HasWill,p.HasUser,p.HasPass,p.WillQoS,p.WillRetain,p.WillProps,p.WillTopic,p.WillLoad,p.User,p.Pass,p.Present,p.Code,p.Topic,p.Load,o,p.Codes,p.Props⟩
def accF (s:fn60) (a:fn112):fn60 ⊕ fn60:=.inl (wF s (some (L s.Filters++[fQ a])))
theorem xv157:∀ (l:List fn112) (s:fn60),runL accF (fun x=>x) s l=wF s (if l.isEmpty then s.Filters else some (L s.Filters++l.map fQ))
 | [],s=>rfl
 | a::l,s=>by
  simp only [runL,accF]
  rw [xv157 l]
  cases l with
  | nil=>rfl
  | cons b l=>simp [L,wF]
theorem to_eq (p:fn113) (h1:(L p.WillProps).length ≤ 1000) (h2:(L p.Props).length ≤ 1000) (h3:(L p.Filters).length ≤ 1000) (h4:(L p.Codes).length ≤ 100000):l07_To p=some (toP p):=by
 simp only [l07_To]
 rw [xv304 _ h1]
 simp only [Option.bind_some]
 rw [xv29 (y:=p.Codes) (by simp [room];omega) (by simp [room];omega)]
 simp only [Option.bind_some]
 rw [xv304 _ h2]
 simp only [Option.bind_some]
 have:=xv24 (L p.Filters) (l07_To_l0 p) (fun (s:fn60) i=>(i,s)) accF (fun x=>x) (fun i s=>(L s.Filters).length=i)
  (fun s i hi hI=>by
   simp only [l07_To_l0,l07_To_b0]
   rw [if_pos (by simp;omega),xv2,List.getElem?_eq_getElem hi]
   simp only [Option.bind_some]
   rw [xv23 (by have:=hI;simp [room];omega) (by have:=hI;simp [room];omega)]
   simp only [Option.bind_some]
   rw [xv3 (by omega)]
   rfl)
  (fun s i hi s' hI hg=>by
   simp only [accF,Sum.inl.injEq] at hg
   subst hg
   simp [L,wF,← hI])
  (fun s hI=>by
   simp only [l07_To_l0,l07_To_b0]
   rw [if_neg (by simp)])
 rw [this _ rfl]
 simp only [Option.bind_some,xv157]
 rfl
theorem xv137 (p:fn113):nP (toP p)=nR p:=by
 simp only [nP,toP,nR,xv108,pR_pQ,fR_fQ]
 rfl
theorem xv27 {α:Type} (l m:List α) (hlen:l.length=m.length) (step:Int->Option (Int ⊕ (Unit ⊕ Unit))) (q:α->α->Bool)
 (hin:∀ i (h:i < l.length),step (i:Int)=some (if q l[i] (m[i]'(by omega)) then .inl ((i + 1:Nat):Int) else .inr (.inl ()))) (hout:step (l.length:Int)=some (.inr (.inr ()))) (hq:∀ a b,q a b=true ↔ a=b) :
 ∃ r,iter step 0=some r∧((r=.inr ()∧l=m)∨(r=.inl ()∧l ≠ m)):=by
 have:=xv117 (l.zip m) step (fun x=>q x.1 x.2)
  (fun i hi=>by
   have h1:i < l.length:=by simp at hi;omega
   rw [hin i h1]
   simp)
  (by rw [show (l.zip m).length=l.length by simp;omega];exact hout)
 refine ⟨_,this,?_⟩
 have key:(l.zip m).all (fun x=>q x.1 x.2)=true ↔ l=m:=by
  clear this hin hout
  induction l generalizing m with
  | nil =>
   cases m with
   | nil=>simp
   | cons=>simp at hlen
  | cons a l ih =>
   cases m with
   | nil=>simp at hlen
   | cons b m =>
    rw [List.zip_cons_cons,List.all_cons,Bool.and_eq_true,hq,ih m (by simpa using hlen)]
    simp
 by_cases h:l=m
 ·left;rw [key.2 h];exact ⟨rfl,h⟩
 ·right
  have:(l.zip m).all (fun x=>q x.1 x.2)=false:=by
   cases hh:(l.zip m).all (fun x=>q x.1 x.2) with
   | false=>rfl
   | true=>exact absurd (key.1 hh) h
  rw [this];exact ⟨rfl,h⟩
theorem xv159 (a b:Option (List fn163)) (hl:(L a).length ≤ 100000):fn147 a b=some (decide (L a=L b)):=by
 simp only [fn147]
 by_cases hlen:(L a).length=(L b).length
 ·rw [if_neg (by simp [hlen])]
  obtain ⟨r,e,h⟩:=xv27 (L a) (L b) hlen (fn147_l0 a b) (fun x y=>(decide (x.Id=y.Id)) && ((decide (x.N=y.N)) && ((decide (x.A=y.A)) && (decide (x.B=y.B)))))
   (fun i hi=>by
    simp only [fn147_l0,fn147_b0]
    rw [if_pos (by simp;omega),xv2,xv2,List.getElem?_eq_getElem hi,List.getElem?_eq_getElem (show i < (L b).length by omega),xv3 (by omega)]
    simp only [Option.bind_some]
    exact nif _ _ _)
   (by simp only [fn147_l0,fn147_b0];rw [if_neg (by simp)])
   (fun x y=>by
    obtain ⟨a,b,c,d⟩:=x
    obtain ⟨a',b',c',d'⟩:=y
    simp)
  rw [e]
  rcases h with ⟨rfl,h⟩|⟨rfl,h⟩
  ·rw [decide_eq_true h];rfl
  ·rw [decide_eq_false h];rfl
 ·rw [if_pos (by simp;omega),decide_eq_false (fun h=>hlen (by rw [h]))]
theorem xv160 (a b:Option (List fn140)) (hl:(L a).length ≤ 100000):fn90 a b=some (decide ((L a).map pR=(L b).map pR)):=by
 simp only [fn90,fn4]
 have inj:(L a).map pR=(L b).map pR ↔ L a=L b:=⟨fun h=>by
  have:=congrArg (List.map pQ) h
  rw [List.map_map,List.map_map] at this
  simpa [show (pQ ∘ pR)=id from rfl] using this,fun h=>by rw [h]⟩
 by_cases hlen:(L a).length=(L b).length
 ·rw [if_neg (by simp [hlen])]
  obtain ⟨r,e,h⟩:=xv27 (L a) (L b) hlen (fn4_l0 a b ((L a).length:Int)) (fun x y=>(decide (x.Id=y.Id)) && ((decide (x.N=y.N)) && ((decide (x.A=y.A)) && (decide (x.B=y.B)))))
   (fun i hi=>by
    simp only [fn4_l0,fn4_b0]
    rw [if_pos (by simp;omega),xv2,xv2,List.getElem?_eq_getElem hi,List.getElem?_eq_getElem (show i < (L b).length by omega),xv3 (by omega)]
    simp only [Option.bind_some]
    exact nif _ _ _)
   (by simp only [fn4_l0,fn4_b0];rw [if_neg (by simp)])
   (fun x y=>by
    obtain ⟨a,b,c,d⟩:=x
    obtain ⟨a',b',c',d'⟩:=y
    simp)
  rw [e]
  rcases h with ⟨rfl,h⟩|⟨rfl,h⟩
  ·rw [decide_eq_true (inj.2 h)];rfl
  ·rw [decide_eq_false (fun q=>h (inj.1 q))];rfl
 ·rw [if_pos (by simp;omega),decide_eq_false (fun h=>hlen (by rw [inj.1 h]))]
  rfl
theorem xv254 (a b:Option (List UInt8)) (hl:(L a).length ≤ 100000):fn10 a b=some (decide (L a=L b)):=by
 simp only [fn10]
 by_cases hlen:(L a).length=(L b).length
 ·rw [if_neg (by simp [hlen])]
  obtain ⟨r,e,h⟩:=xv27 (L a) (L b) hlen (fn10_l0 a b ((L a).length:Int)) (fun x y=>decide (x=y))
   (fun i hi=>by
    simp only [fn10_l0,fn10_b0]
    rw [if_pos (by simp;omega),xv2,xv2,List.getElem?_eq_getElem hi,List.getElem?_eq_getElem (show i < (L b).length by omega),xv3 (by omega)]
    simp only [Option.bind_some]
    exact nif _ _ _)
   (by simp only [fn10_l0,fn10_b0];rw [if_neg (by simp)])
   (fun x y=>by simp)
  rw [e]
  rcases h with ⟨rfl,h⟩|⟨rfl,h⟩
  ·rw [decide_eq_true h];rfl
  ·rw [decide_eq_false h];rfl
 ·rw [if_pos (by simp;omega),decide_eq_false (fun h=>hlen (by rw [h]))]
theorem xv255 (a b:Option (List fn59)) (hl:(L a).length ≤ 100000):fn2 a b=some (decide ((L a).map fR=(L b).map fR)):=by
 simp only [fn2]
 have inj:(L a).map fR=(L b).map fR ↔ L a=L b:=⟨fun h=>by
  have:=congrArg (List.map fQ) h
  rw [List.map_map,List.map_map] at this
  simpa [show (fQ ∘ fR)=id from rfl] using this,fun h=>by rw [h]⟩
 by_cases hlen:(L a).length=(L b).length
 ·rw [if_neg (by simp [hlen])]
  obtain ⟨r,e,h⟩:=xv27 (L a) (L b) hlen (fn2_l0 a b ((L a).length:Int)) (fun x y=>(decide (x.Text=y.Text)) && (decide (x.Opt=y.Opt)))
   (fun i hi=>by
    simp only [fn2_l0,fn2_b0]
    rw [if_pos (by simp;omega),xv2,xv2,List.getElem?_eq_getElem hi,List.getElem?_eq_getElem (show i < (L b).length by omega),xv3 (by omega)]
    simp only [Option.bind_some]
    exact nif _ _ _)
   (by simp only [fn2_l0,fn2_b0];rw [if_neg (by simp)])
   (fun x y=>by
    obtain ⟨a,b⟩:=x
    obtain ⟨a',b'⟩:=y
    simp)
  rw [e]
  rcases h with ⟨rfl,h⟩|⟨rfl,h⟩
  ·rw [decide_eq_true (inj.2 h)];rfl
  ·rw [decide_eq_false (fun q=>h (inj.1 q))];rfl
 ·rw [if_pos (by simp;omega),decide_eq_false (fun h=>hlen (by rw [inj.1 h]))]
end Go.Rv
namespace Go.Rv
theorem tif (c d:Bool):(if c=true then some d else some false)=some (c && d):=by cases c<;>rfl
theorem nbif (c d:Bool):(if (!c)=true then some false else some d)=some (c && d):=by cases c<;>rfl
theorem xv320 (a b:fn60):nP a=nP b ↔ (a.Kind=b.Kind∧a.Dup=b.Dup∧a.Retain=b.Retain∧a.QoS=b.QoS∧a.Id=b.Id∧a.Clean=b.Clean∧a.Keep=b.Keep∧a.Client=b.Client∧a.HasWill=b.HasWill∧a.HasUser=b.HasUser∧a.HasPass=b.HasPass∧a.WillQoS=b.WillQoS∧a.WillRetain=b.WillRetain∧(L a.WillProps).map pR=(L b.WillProps).map pR∧a.WillTopic=b.WillTopic∧a.WillLoad=b.WillLoad∧a.User=b.User∧a.Pass=b.Pass∧a.Present=b.Present∧a.Code=b.Code∧a.Topic=b.Topic∧a.Load=b.Load∧(L a.Filters).map fR=(L b.Filters).map fR∧L a.Codes=L b.Codes∧(L a.Props).map pR=(L b.Props).map pR):=by
 simp only [nP,fn113.mk.injEq,Option.some.injEq]
theorem xv245 (a b:fn113):nR a=nR b ↔ (a.Kind=b.Kind∧a.Dup=b.Dup∧a.Retain=b.Retain∧a.QoS=b.QoS∧a.Id=b.Id∧a.Clean=b.Clean∧a.Keep=b.Keep∧a.Client=b.Client∧a.HasWill=b.HasWill∧a.HasUser=b.HasUser∧a.HasPass=b.HasPass∧a.WillQoS=b.WillQoS∧a.WillRetain=b.WillRetain∧L a.WillProps=L b.WillProps∧a.WillTopic=b.WillTopic∧a.WillLoad=b.WillLoad∧a.User=b.User∧a.Pass=b.Pass∧a.Present=b.Present∧a.Code=b.Code∧a.Topic=b.Topic∧a.Load=b.Load∧L a.Filters=L b.Filters∧L a.Codes=L b.Codes∧L a.Props=L b.Props):=by
 simp only [nR,fn113.mk.injEq,Option.some.injEq]
structure FewP (q:fn60):Prop where
 wp:(L q.WillProps).length ≤ 1000
 pp:(L q.Props).length ≤ 1000
 fl:(L q.Filters).length ≤ 1000
 cd:(L q.Codes).length ≤ 100000
theorem xv297 (a b:fn60) (h:FewP a):fn74 a b=some (decide (nP a=nP b)):=by
 have h1:=h.wp;have h2:=h.pp;have h3:=h.fl;have h4:=h.cd
 simp only [fn74,fn35,Option.bind_some]
 rw [xv255 _ _ (by omega)]
 simp only [Option.bind_some]
 rw [xv254 _ _ h4]
 simp only [Option.bind_some]
 rw [xv160 _ _ (by omega)]
 simp only [Option.bind_some]
 rw [xv160 _ _ (by omega)]
 simp only [Option.bind_some,tif]
 congr 1
 rw [Bool.eq_iff_iff]
 simp only [Bool.and_eq_true,decide_eq_true_eq,beq_iff_eq,xv320]
 constructor
 ·rintro ⟨⟨a1,a2,a3,a4,a5,a6,a7,a8,a9,a10,a11,a12,a13,a14,a15,a16,a17,a18,a19,a20,a21⟩,b1,b2,b3,b4⟩
  exact ⟨a1,a2,a3,a10,a13,a4,a14,a15,a6,a7,a8,a11,a5,b4,a16,a17,a18,a19,a9,a12,a20,a21,b1,b2,b3⟩
 ·rintro ⟨a1,a2,a3,a10,a13,a4,a14,a15,a6,a7,a8,a11,a5,b4,a16,a17,a18,a19,a9,a12,a20,a21,b1,b2,b3⟩
  exact ⟨⟨a1,a2,a3,a4,a5,a6,a7,a8,a9,a10,a11,a12,a13,a14,a15,a16,a17,a18,a19,a20,a21⟩,b1,b2,b3,b4⟩
theorem xv252 (a b:fn113) (h1:(L a.WillProps).length ≤ 1000) (h2:(L a.Props).length ≤ 1000) (h3:(L a.Filters).length ≤ 1000):fn148 a b=some (decide (nR a=nR b)):=by
 simp only [fn148]
 rw [xv159 _ _ (by omega)]
 simp only [Option.bind_some]
 rw [xv159 _ _ (by omega)]
 simp only [Option.bind_some]
 by_cases hf:(L a.Filters).length=(L b.Filters).length
 ·rw [if_neg (by simp [hf])]
  obtain ⟨r,e,h⟩:=xv27 (L a.Filters) (L b.Filters) hf (fn148_l0 a b) (fun x y=>(decide (x.Text=y.Text)) && (decide (x.Opt=y.Opt)))
   (fun i hi=>by
    simp only [fn148_l0,fn148_b0]
    rw [if_pos (by simp;omega),xv2,xv2,List.getElem?_eq_getElem hi,List.getElem?_eq_getElem (show i < (L b.Filters).length by omega),xv3 (by omega)]
    simp only [Option.bind_some]
    exact nif _ _ _)
   (by simp only [fn148_l0,fn148_b0];rw [if_neg (by simp)])
   (fun x y=>by
    obtain ⟨a,b⟩:=x
    obtain ⟨a',b'⟩:=y
    simp)
  rw [e]
  rcases h with ⟨rfl,h⟩|⟨rfl,h⟩
  ·simp only [Option.bind_some,nbif,tif]
   congr 1
   rw [Bool.eq_iff_iff]
   simp only [Bool.and_eq_true,decide_eq_true_eq,beq_iff_eq,xv245]
   constructor
   ·rintro ⟨c1,c2,c3,a1,a2,a3,a4,a5,a6,a7,a8,a9,a10,a11,a12,a13,a14,a15,a16,a17,a18,a19,a20,a21⟩
    exact ⟨a1,a2,a3,a4,a5,a6,a7,a8,a9,a10,a11,a12,a13,c3,a14,a15,a16,a17,a18,a19,a20,a21,h,c1,c2⟩
   ·rintro ⟨a1,a2,a3,a4,a5,a6,a7,a8,a9,a10,a11,a12,a13,c3,a14,a15,a16,a17,a18,a19,a20,a21,h,c1,c2⟩
    exact ⟨c1,c2,c3,a1,a2,a3,a4,a5,a6,a7,a8,a9,a10,a11,a12,a13,a14,a15,a16,a17,a18,a19,a20,a21⟩
  ·simp only [Option.bind_some]
   rw [decide_eq_false (fun q=>h ((xv245 a b).1 q).2.2.2.2.2.2.2.2.2.2.2.2.2.2.2.2.2.2.2.2.2.2.1)]
   simp only [nbif,Bool.and_false]
 ·rw [if_pos (by simp;omega),decide_eq_false (fun q=>hf (by rw [((xv245 a b).1 q).2.2.2.2.2.2.2.2.2.2.2.2.2.2.2.2.2.2.2.2.2.2.1]))]
def z0 (p:fn113):fn113:=⟨p.Kind,false,false,0,0,false,0,[],false,false,false,0,false,some [],[],[],[],[],false,0,[],[],some [],some [],some []⟩
def bareN (p:fn113):fn113 :=
 if p.Kind=1 then ⟨p.Kind,false,false,0,0,p.Clean,p.Keep,p.Client,p.HasWill,p.HasUser,p.HasPass,if p.HasWill then p.WillQoS else 0,if p.HasWill then p.WillRetain else false,if p.HasWill then p.WillProps else some [],if p.HasWill then p.WillTopic else [],if p.HasWill then p.WillLoad else [],if p.HasUser then p.User else [],if p.HasPass then p.Pass else [],false,0,[],[],some [],some [],p.Props⟩
 else if p.Kind=2 then { z0 p with Present:=p.Present,Code:=p.Code,Props:=p.Props }
 else if p.Kind=3 then { z0 p with Dup:=p.Dup,QoS:=p.QoS,Retain:=p.Retain,Topic:=p.Topic,Id:=p.Id,Load:=p.Load,Props:=p.Props }
 else if p.Kind=4∨p.Kind=5∨p.Kind=6∨p.Kind=7 then { z0 p with Id:=p.Id,Code:=p.Code,Props:=p.Props }
 else if p.Kind=8∨p.Kind=10 then { z0 p with Id:=p.Id,Filters:=p.Filters,Props:=p.Props }
 else if p.Kind=9∨p.Kind=11 then { z0 p with Id:=p.Id,Codes:=p.Codes,Props:=p.Props }
 else if p.Kind=14∨p.Kind=15 then { z0 p with Code:=p.Code,Props:=p.Props }
 else z0 p
theorem xv263 (q:fn60):∃ b,fn73 q=some b∧nP b=bareN (nP q):=by
 have hk:(nP q).Kind=q.Kind:=rfl
 simp only [fn73]
 by_cases h1:q.Kind=1
 ·rw [if_pos (by simpa using h1)]
  simp only [fn18,fn18_c0,fn18_c1]
  unfold bareN
  rw [if_pos (show (nP q).Kind=1 from h1)]
  obtain ⟨kd,dup,ret,qos,id,cl,kp,ct,hw,hu,hp,wq,wr,wp,wt,wl,us,ps,pr,co,tp,ld,fs,cs,pp⟩:=q
  cases hw<;>cases hu<;>cases hp<;>exact ⟨_,rfl,rfl⟩
 ·rw [if_neg (by simpa using h1)]
  by_cases h2:q.Kind=2
  ·rw [if_pos (by simpa using h2)]
   refine ⟨_,rfl,?_⟩
   unfold bareN
   rw [if_neg (show ¬ (nP q).Kind=1 from h1),if_pos (show (nP q).Kind=2 from h2)]
   rfl
  ·rw [if_neg (by simpa using h2)]
   by_cases h3:q.Kind=3
   ·rw [if_pos (by simpa using h3)]
    refine ⟨_,rfl,?_⟩
    unfold bareN
    rw [if_neg (show ¬ (nP q).Kind=1 from h1),if_neg (show ¬ (nP q).Kind=2 from h2),if_pos (show (nP q).Kind=3 from h3)]
    rfl
   ·rw [if_neg (by simpa using h3)]
    unfold bareN
    rw [if_neg (show ¬ (nP q).Kind=1 from h1),if_neg (show ¬ (nP q).Kind=2 from h2),if_neg (show ¬ (nP q).Kind=3 from h3),hk]
    simp only [fn73_c0,fn73_c1,fn73_c2,fn73_c3]
    by_cases h4:q.Kind=4
    ·rw [if_pos (by simpa using h4),if_pos (by simpa using h4),if_pos (show (q.Kind=4∨q.Kind=5∨q.Kind=6∨q.Kind=7) by omega)];exact ⟨_,rfl,rfl⟩
    ·rw [if_neg (by simpa using h4)]
     by_cases h5:q.Kind=5
     ·rw [if_pos (by simpa using h5),if_pos (by simpa using h5),if_pos (show (q.Kind=4∨q.Kind=5∨q.Kind=6∨q.Kind=7) by omega)];exact ⟨_,rfl,rfl⟩
     ·rw [if_neg (by simpa using h5)]
      by_cases h6:q.Kind=6
      ·rw [if_pos (by simpa using h6),if_pos (by simpa using h6),if_pos (show (q.Kind=4∨q.Kind=5∨q.Kind=6∨q.Kind=7) by omega)];exact ⟨_,rfl,rfl⟩
      ·rw [if_neg (by simpa using h6)]
       by_cases h7:q.Kind=7
       ·rw [if_pos (by simpa using h7),if_pos (show (q.Kind=4∨q.Kind=5∨q.Kind=6∨q.Kind=7) by omega)];exact ⟨_,rfl,rfl⟩
       ·rw [if_neg (by simpa using h7),if_neg (show ¬ (q.Kind=4∨q.Kind=5∨q.Kind=6∨q.Kind=7) by omega)]
        by_cases h8:q.Kind=8
        ·rw [if_pos (by simpa using h8),if_pos (by simpa using h8),if_pos (show (q.Kind=8∨q.Kind=10) by omega)];exact ⟨_,rfl,rfl⟩
        ·rw [if_neg (by simpa using h8)]
         by_cases h10:q.Kind=10
         ·rw [if_pos (by simpa using h10),if_pos (show (q.Kind=8∨q.Kind=10) by omega)];exact ⟨_,rfl,rfl⟩
         ·rw [if_neg (by simpa using h10),if_neg (show ¬ (q.Kind=8∨q.Kind=10) by omega)]
          by_cases h9:q.Kind=9
          ·rw [if_pos (by simpa using h9),if_pos (by simpa using h9),if_pos (show (q.Kind=9∨q.Kind=11) by omega)];exact ⟨_,rfl,rfl⟩
          ·rw [if_neg (by simpa using h9)]
           by_cases h11:q.Kind=11
           ·rw [if_pos (by simpa using h11),if_pos (show (q.Kind=9∨q.Kind=11) by omega)];exact ⟨_,rfl,rfl⟩
           ·rw [if_neg (by simpa using h11),if_neg (show ¬ (q.Kind=9∨q.Kind=11) by omega)]
            by_cases h14:q.Kind=14
            ·rw [if_pos (by simpa using h14),if_pos (by simpa using h14),if_pos (show (q.Kind=14∨q.Kind=15) by omega)];exact ⟨_,rfl,rfl⟩
            ·rw [if_neg (by simpa using h14)]
             by_cases h15:q.Kind=15
             ·rw [if_pos (by simpa using h15),if_pos (show (q.Kind=14∨q.Kind=15) by omega)];exact ⟨_,rfl,rfl⟩
             ·rw [if_neg (by simpa using h15),if_neg (show ¬ (q.Kind=14∨q.Kind=15) by omega)];exact ⟨_,rfl,rfl⟩
theorem xv250 (q:fn113):∃ b,fn146 q=some b∧nR b=bareN (nR q):=by
 have hk:(nR q).Kind=q.Kind:=rfl
 simp only [fn146]
 by_cases h1:q.Kind=1
 ·rw [if_pos (by simpa using h1)]
  simp only [fn146_c0,fn146_c1]
  unfold bareN
  rw [if_pos (show (nR q).Kind=1 from h1)]
  obtain ⟨kd,dup,ret,qos,id,cl,kp,ct,hw,hu,hp,wq,wr,wp,wt,wl,us,ps,pr,co,tp,ld,fs,cs,pp⟩:=q
  cases hw<;>cases hu<;>cases hp<;>exact ⟨_,rfl,rfl⟩
 ·rw [if_neg (by simpa using h1)]
  by_cases h2:q.Kind=2
  ·rw [if_pos (by simpa using h2)]
   refine ⟨_,rfl,?_⟩
   unfold bareN
   rw [if_neg (show ¬ (nR q).Kind=1 from h1),if_pos (show (nR q).Kind=2 from h2)]
   rfl
  ·rw [if_neg (by simpa using h2)]
   by_cases h3:q.Kind=3
   ·rw [if_pos (by simpa using h3)]
    refine ⟨_,rfl,?_⟩
    unfold bareN
    rw [if_neg (show ¬ (nR q).Kind=1 from h1),if_neg (show ¬ (nR q).Kind=2 from h2),if_pos (show (nR q).Kind=3 from h3)]
    rfl
   ·rw [if_neg (by simpa using h3)]
    unfold bareN
    rw [if_neg (show ¬ (nR q).Kind=1 from h1),if_neg (show ¬ (nR q).Kind=2 from h2),if_neg (show ¬ (nR q).Kind=3 from h3),hk]
    simp only [fn146_c2,fn146_c3,fn146_c4,fn146_c5]
    by_cases h4:q.Kind=4
    ·rw [if_pos (by simpa using h4),if_pos (by simpa using h4),if_pos (show (q.Kind=4∨q.Kind=5∨q.Kind=6∨q.Kind=7) by omega)];exact ⟨_,rfl,rfl⟩
    ·rw [if_neg (by simpa using h4)]
     by_cases h5:q.Kind=5
     ·rw [if_pos (by simpa using h5),if_pos (by simpa using h5),if_pos (show (q.Kind=4∨q.Kind=5∨q.Kind=6∨q.Kind=7) by omega)];exact ⟨_,rfl,rfl⟩
     ·rw [if_neg (by simpa using h5)]
      by_cases h6:q.Kind=6
      ·rw [if_pos (by simpa using h6),if_pos (by simpa using h6),if_pos (show (q.Kind=4∨q.Kind=5∨q.Kind=6∨q.Kind=7) by omega)];exact ⟨_,rfl,rfl⟩
      ·rw [if_neg (by simpa using h6)]
       by_cases h7:q.Kind=7
       ·rw [if_pos (by simpa using h7),if_pos (show (q.Kind=4∨q.Kind=5∨q.Kind=6∨q.Kind=7) by omega)];exact ⟨_,rfl,rfl⟩
       ·rw [if_neg (by simpa using h7),if_neg (show ¬ (q.Kind=4∨q.Kind=5∨q.Kind=6∨q.Kind=7) by omega)]
        by_cases h8:q.Kind=8
        ·rw [if_pos (by simpa using h8),if_pos (by simpa using h8),if_pos (show (q.Kind=8∨q.Kind=10) by omega)];exact ⟨_,rfl,rfl⟩
        ·rw [if_neg (by simpa using h8)]
         by_cases h10:q.Kind=10
         ·rw [if_pos (by simpa using h10),if_pos (show (q.Kind=8∨q.Kind=10) by omega)];exact ⟨_,rfl,rfl⟩
         ·rw [if_neg (by simpa using h10),if_neg (show ¬ (q.Kind=8∨q.Kind=10) by omega)]
          by_cases h9:q.Kind=9
          ·rw [if_pos (by simpa using h9),if_pos (by simpa using h9),if_pos (show (q.Kind=9∨q.Kind=11) by omega)];exact ⟨_,rfl,rfl⟩
          ·rw [if_neg (by simpa using h9)]
           by_cases h11:q.Kind=11
           ·rw [if_pos (by simpa using h11),if_pos (show (q.Kind=9∨q.Kind=11) by omega)];exact ⟨_,rfl,rfl⟩
           ·rw [if_neg (by simpa using h11),if_neg (show ¬ (q.Kind=9∨q.Kind=11) by omega)]
            by_cases h14:q.Kind=14
            ·rw [if_pos (by simpa using h14),if_pos (by simpa using h14),if_pos (show (q.Kind=14∨q.Kind=15) by omega)];exact ⟨_,rfl,rfl⟩
            ·rw [if_neg (by simpa using h14)]
             by_cases h15:q.Kind=15
             ·rw [if_pos (by simpa using h15),if_pos (show (q.Kind=14∨q.Kind=15) by omega)];exact ⟨_,rfl,rfl⟩
             ·rw [if_neg (by simpa using h15),if_neg (show ¬ (q.Kind=14∨q.Kind=15) by omega)];exact ⟨_,rfl,rfl⟩
end Go.Rv
namespace Go.Rv
theorem xv111 (o:Option (List UInt8)) (k:UInt8) (hl:(L o).length ≤ 70000):∀ (f i:Nat),(L o).length - i ≤ f->i ≤ (L o).length ->
 (((L o).drop i).contains k=true->∃ j:Nat,iter (fn11_l0 o k ((L o).length:Int)) (i:Int)=some (.inl (j:Int)))∧(((L o).drop i).contains k=false->iter (fn11_l0 o k ((L o).length:Int)) (i:Int)=some (.inr ())):=by
 intro f
 induction f with
 | zero =>
  intro i h1 h2
  rw [yv700]
  simp only [fn11_l0,fn11_b0]
  rw [if_neg (by simp;omega),show (L o).drop i=[] from List.drop_eq_nil_of_le (by omega)]
  exact ⟨fun h=>(by cases h),fun _=>rfl⟩
 | succ f ih =>
  intro i h1 h2
  rw [yv700]
  simp only [fn11_l0,fn11_b0]
  by_cases hlt:i < (L o).length
  ·have e:w64 ((i:Int) + 1)=((i + 1:Nat):Int):=by rw [xv0 (by omega) (by omega)];simp
   rw [if_pos (by simp;omega),xv2,List.getElem?_eq_getElem hlt,Option.bind_some,List.drop_eq_getElem_cons hlt,List.contains_cons]
   by_cases hc:k=(L o)[i]
   ·rw [if_pos (by simpa using hc)]
    refine ⟨fun _=>⟨i,rfl⟩,fun h=>?_⟩
    rw [show (k == (L o)[i])=true by simpa using hc] at h
    cases h
   ·rw [if_neg (by simpa using hc),show (k == (L o)[i])=false by simpa using hc,Bool.false_or,e]
    exact ih (i + 1) (by omega) hlt
  ·rw [if_neg (by simp;omega),show (L o).drop i=[] from List.drop_eq_nil_of_le (by omega)]
   exact ⟨fun h=>(by cases h),fun _=>rfl⟩
theorem xv109 (o:Option (List UInt8)) (k:UInt8) (hl:(L o).length ≤ 70000):fn9 o k=some ((L o).contains k):=by
 simp only [fn9,fn11]
 have:=xv111 o k hl (L o).length 0 (by omega) (by omega)
 rw [show ((0:Nat):Int)=0 from rfl,List.drop_zero] at this
 cases hc:(L o).contains k with
 | true =>
  obtain ⟨j,hj⟩:=this.1 hc
  rw [hj]
  show some (decide ((j:Int) ≥ 0))=some true
  rw [decide_eq_true (by omega)]
 | false=>rw [this.2 hc];rfl
def xv178 (v k:Int):List UInt8:=L ((fn98 v k).getD none)
def knB (v k:Int) (c:UInt8):Bool:=(xv178 v k).contains c
def r03N (v k:Int) (c:UInt8):Option Bool:=(fn130 v k).bind fun x4=>(iterN (fn131_l0 c x4) 20 0).bind fun|.inl _=>some true|.inr _=>some false
theorem xv294 {v k:Int} {c:UInt8} {b:Bool} (h:r03N v k c=some b):fn131 v k c=some b:=by
 simp only [r03N] at h
 simp only [fn131]
 cases hs:fn130 v k with
 | none=>rw [hs] at h;cases h
 | some l =>
  rw [hs] at h
  simp only [Option.bind_some] at h ⊢
  cases hn:iterN (fn131_l0 c l) 20 0 with
  | none=>rw [hn] at h;cases h
  | some r =>
   rw [yv741 20 (by rw [hn];rfl),hn]
   rw [hn] at h
   exact h
def bothK (v k:Int):Prop:=∃ l,fn98 v k=some l∧(L l).length ≤ 1000∧∀ c,r03N v k c=some ((L l).contains c)
theorem xv54 (v k:Int) (h1:fn98 v k=some none) (h2:fn130 v k=some none):bothK v k:=⟨none,h1,by simp [L],fun c=>by
 simp only [r03N,h2,Option.bind_some]
 rfl⟩
theorem xv217:bothK 4 2:=⟨_,rfl,by decide,all8 (by decide +kernel)⟩
theorem xv218:bothK 4 4:=⟨_,rfl,by decide,all8 (by decide +kernel)⟩
theorem xv219:bothK 4 5:=⟨_,rfl,by decide,all8 (by decide +kernel)⟩
theorem xv220:bothK 4 6:=⟨_,rfl,by decide,all8 (by decide +kernel)⟩
theorem xv221:bothK 4 7:=⟨_,rfl,by decide,all8 (by decide +kernel)⟩
theorem xv222:bothK 4 9:=⟨_,rfl,by decide,all8 (by decide +kernel)⟩
theorem xv172:bothK 4 14:=⟨_,rfl,by decide,all8 (by decide +kernel)⟩
theorem xv223:bothK 5 2:=⟨_,rfl,by decide,all8 (by decide +kernel)⟩
theorem xv224:bothK 5 4:=⟨_,rfl,by decide,all8 (by decide +kernel)⟩
theorem xv225:bothK 5 5:=⟨_,rfl,by decide,all8 (by decide +kernel)⟩
theorem xv226:bothK 5 6:=⟨_,rfl,by decide,all8 (by decide +kernel)⟩
theorem xv227:bothK 5 7:=⟨_,rfl,by decide,all8 (by decide +kernel)⟩
theorem xv228:bothK 5 9:=⟨_,rfl,by decide,all8 (by decide +kernel)⟩
theorem xv173:bothK 5 11:=⟨_,rfl,by decide,all8 (by decide +kernel)⟩
theorem xv174:bothK 5 14:=⟨_,rfl,by decide,all8 (by decide +kernel)⟩
theorem xv175:bothK 5 15:=⟨_,rfl,by decide,all8 (by decide +kernel)⟩
theorem both (v k:Int):bothK v k:=by
 by_cases hv:v=4
 ·subst hv
  by_cases h2:k=2
  ·subst h2;exact xv217
  by_cases h4:k=4
  ·subst h4;exact xv218
  by_cases h5:k=5
  ·subst h5;exact xv219
  by_cases h6:k=6
  ·subst h6;exact xv220
  by_cases h7:k=7
  ·subst h7;exact xv221
  by_cases h9:k=9
  ·subst h9;exact xv222
  by_cases h14:k=14
  ·subst h14;exact xv172
  exact xv54 4 k (by simp [fn98,fn50,fn50_c0,h2,h4,h5,h6,h7,h9,h14]) (by simp [fn130,fn130_c0,h2,h4,h5,h6,h7,h9,h14])
 ·by_cases hv5:v=5
  ·subst hv5
   by_cases h2:k=2
   ·subst h2;exact xv223
   by_cases h4:k=4
   ·subst h4;exact xv224
   by_cases h5:k=5
   ·subst h5;exact xv225
   by_cases h6:k=6
   ·subst h6;exact xv226
   by_cases h7:k=7
   ·subst h7;exact xv227
   by_cases h9:k=9
   ·subst h9;exact xv228
   by_cases h11:k=11
   ·subst h11;exact xv173
   by_cases h14:k=14
   ·subst h14;exact xv174
   by_cases h15:k=15
   ·subst h15;exact xv175
   exact xv54 5 k (by simp [fn98,fn63,fn63_c0,fn63_c1,h2,h4,h5,h6,h7,h9,h11,h14,h15]) (by simp [fn130,fn130_c1,fn130_c2,h2,h4,h5,h6,h7,h9,h11,h14,h15])
  ·exact xv54 v k (by simp [fn98,hv,hv5]) (by simp [fn130,hv,hv5])
theorem xv136 (v k:Int) (c:UInt8):fn64 v k c=some (knB v k c):=by
 obtain ⟨l,h1,h2,h3⟩:=both v k
 simp only [fn64,h1,Option.bind_some,knB,xv178,Option.getD_some]
 rw [xv109 l c (by omega)]
 rfl
theorem xv62 (v k:Int) (c:UInt8):fn131 v k c=some (knB v k c):=by
 obtain ⟨l,h1,h2,h3⟩:=both v k
 simp only [knB,xv178,h1,Option.getD_some]
 exact xv294 (h3 c)
end Go.Rv
namespace Go.Rv
def hasId (l:List fn163) (id:UInt8):Bool:=l.any (fun a=>decide (a.Id=id))
def zP:fn163:=⟨0,0,[],[]⟩
def getN (l:List fn163) (id:UInt8):fn163 × Bool:=match l.find? (fun a=>decide (a.Id=id)) with|some a=>(a,true)|none=>(zP,false)
theorem xv67 (l:List fn163) (id:UInt8):(getN l id).2=hasId l id:=by
 simp only [getN,hasId]
 cases h:l.find? (fun a=>decide (a.Id=id)) with
 | none =>
  have:=List.find?_eq_none.1 h
  symm
  simp only [List.any_eq_false]
  exact fun x hx=>this x hx
 | some a =>
  symm
  simp only [List.any_eq_true]
  exact ⟨a,List.mem_of_find?_eq_some h,List.find?_some (p:=fun a:fn163=>decide (a.Id=id)) h⟩
theorem xv203 (id:UInt8):∀ (l:List fn140) (s:Nat),
 ((l.find? (fun a=>decide (a.Id=id))=none)∧runL (fun (s:Nat) (a:fn140)=>if a.Id=id then (.inr (.inl ((s:Int),id)):Nat ⊕ ((Int × UInt8) ⊕ UInt8)) else .inl (s + 1)) (fun _=>.inr id) s l=.inr id) ∨
 (∃ k a,l[k]?=some a∧l.find? (fun a=>decide (a.Id=id))=some a∧runL (fun (s:Nat) (a:fn140)=>if a.Id=id then (.inr (.inl ((s:Int),id)):Nat ⊕ ((Int × UInt8) ⊕ UInt8)) else .inl (s + 1)) (fun _=>.inr id) s l=.inl (((s + k:Nat):Int),id))
 | [],s=>.inl ⟨rfl,rfl⟩
 | a::l,s=>by
  by_cases h:a.Id=id
  ·right
   refine ⟨0,a,rfl,by rw [List.find?_cons,decide_eq_true h],?_⟩
   simp only [runL]
   rw [if_pos h]
   rfl
  ·rcases xv203 id l (s + 1) with ⟨h1,h2⟩|⟨k,x,h1,h2,h3⟩
   ·left
    refine ⟨by rw [List.find?_cons,decide_eq_false h];exact h1,?_⟩
    simp only [runL]
    rw [if_neg h]
    exact h2
   ·right
    refine ⟨k + 1,x,by simpa using h1,by rw [List.find?_cons,decide_eq_false h];exact h2,?_⟩
    simp only [runL]
    rw [if_neg h]
    refine h3.trans ?_
    congr 2
    omega
theorem xv94 (o:Option (List fn140)) (id:UInt8) (hl:(L o).length ≤ 100000):∃ p,fn116 o id=some (p,(getN ((L o).map pR) id).2)∧pR p=(getN ((L o).map pR) id).1:=by
 simp only [fn116,fn3]
 have:=xv24 (L o) (fn3_l0 o ((L o).length:Int)) (fun (_:Nat) i=>(i,id)) (fun (s:Nat) (a:fn140)=>if a.Id=id then (.inr (.inl ((s:Int),id)):Nat ⊕ ((Int × UInt8) ⊕ UInt8)) else .inl (s + 1)) (fun _=>.inr id) (fun i s=>s=i)
  (fun s i hi hI=>by
   subst hI
   simp only [fn3_l0,fn3_b0,fn75]
   rw [if_pos (by simp;omega),xv2,List.getElem?_eq_getElem hi]
   simp only [Option.bind_some]
   by_cases h:(L o)[s].Id=id
   ·rw [if_pos (by simpa using h),if_pos h];rfl
   ·rw [if_neg (by simpa using h),if_neg h,xv3 (by omega)];rfl)
  (fun s i hi s' hI hg=>by
   subst hI
   split at hg
   ·cases hg
   ·simpa using hg.symm)
  (fun s hI=>by
   simp only [fn3_l0,fn3_b0]
   rw [if_neg (by simp)])
  0 rfl
 rw [this]
 have hmap:((L o).map pR).find? (fun a=>decide (a.Id=id))=((L o).find? (fun a=>decide (a.Id=id))).map pR:=by rw [List.find?_map];rfl
 rcases xv203 id (L o) 0 with ⟨h1,h2⟩|⟨k,x,h1,h2,h3⟩
 ·rw [h2]
  simp only [Option.bind_some]
  rw [if_pos (by simp)]
  simp only [getN,hmap,h1,Option.map_none]
  exact ⟨_,rfl,rfl⟩
 ·rw [h3]
  simp only [Option.bind_some,Nat.zero_add]
  rw [if_neg (by simp),xv2,h1]
  simp only [getN,hmap,h2,Option.map_some,Option.bind_some]
  exact ⟨_,rfl,rfl⟩
theorem xv98 (id:UInt8):∀ l:List fn163,runL (fun (_:Unit) (a:fn163)=>if a.Id=id then (Sum.inr (.inl a):Unit ⊕ (fn163 ⊕ Unit)) else .inl ()) (fun _=>.inr ()) () l=match l.find? (fun a=>decide (a.Id=id)) with|some a=>.inl a|none=>.inr ()
 | []=>rfl
 | a::l=>by
  simp only [runL,List.find?_cons]
  by_cases h:a.Id=id
  ·rw [if_pos h,decide_eq_true h]
  ·rw [if_neg h,decide_eq_false h]
   exact xv98 id l
theorem xv70 (w:Option (List fn163)) (id:UInt8) (hl:(L w).length ≤ 100000):fn169 w id=some (getN (L w) id):=by
 simp only [fn169]
 have:=xv24 (L w) (fn169_l0 w id) (fun (_:Unit) i=>i) (fun (_:Unit) (a:fn163)=>if a.Id=id then (Sum.inr (.inl a):Unit ⊕ (fn163 ⊕ Unit)) else .inl ()) (fun _=>.inr ()) (fun i s=>True)
  (fun s i hi hI=>by
   simp only [fn169_l0,fn169_b0]
   rw [if_pos (by simp;omega),xv2,List.getElem?_eq_getElem hi]
   simp only [Option.bind_some]
   by_cases h:(L w)[i].Id=id
   ·rw [if_pos (by simpa using h),if_pos h];rfl
   ·rw [if_neg (by simpa using h),if_neg h,xv3 (by omega)];rfl)
  (fun s i hi s' hI hg=>trivial)
  (fun s hI=>by
   simp only [fn169_l0,fn169_b0]
   rw [if_neg (by simp)])
  () trivial
 rw [this,xv98]
 simp only [Option.bind_some,getN]
 cases (L w).find? (fun a=>decide (a.Id=id))<;>rfl
def ordB (k:Int) (prev:Option fn163) (a:fn163):Bool:=match prev with
 | none=>true
 | some p=>!decide (p.Id > a.Id) && (!decide (p.Id=a.Id) || xv45 a.Id k)
def chk1 (k:Int) (prev:Option fn163) (a:fn163):Bool:=xv42 a.Id a.N a.A a.B && forB a.Id k && ordB k prev a
def chkL (k:Int):Option fn163->List fn163->Bool
 | _,[]=>true
 | p,a::l=>chk1 k p a && chkL k (some a) l
def xv7 (k:Int) (l:List fn163):Bool:=!decide (l.length > 1024) && chkL k none l && (hasId l 21 || !hasId l 22)
def xv186 {α:Type} (l:List α) (i:Nat):Option α:=if i=0 then none else l[i - 1]?
theorem xv196 (k:Int):∀ (l:List fn140) (p:Option fn140),runL (fun (p:Option fn140) (a:fn140)=>if chk1 k (p.map pR) (pR a) then (.inl (some a):Option fn140 ⊕ (fn140 ⊕ Unit)) else .inr (.inl a)) (fun _=>.inr ()) p l=.inr ()∧chkL k (p.map pR) (l.map pR)=true∨(∃ a,runL (fun (p:Option fn140) (a:fn140)=>if chk1 k (p.map pR) (pR a) then (.inl (some a):Option fn140 ⊕ (fn140 ⊕ Unit)) else .inr (.inl a)) (fun _=>.inr ()) p l=.inl a)∧chkL k (p.map pR) (l.map pR)=false
 | [],p=>.inl ⟨rfl,rfl⟩
 | a::l,p=>by
  simp only [runL,List.map_cons,chkL]
  by_cases h:chk1 k (p.map pR) (pR a)=true
  ·rw [if_pos h,h,Bool.true_and]
   exact xv196 k l (some a)
  ·right
   rw [if_neg h]
   refine ⟨⟨a,rfl⟩,?_⟩
   rw [show chk1 k (p.map pR) (pR a)=false by simpa using h,Bool.false_and]
theorem xv93 (k:Int) (o:Option (List fn140)) (hl:(L o).length ≤ 100000) (ht:∀ x ∈ L o,x.A.length ≤ 9000∧x.B.length ≤ 9000):fn76 k o=some (xv7 k ((L o).map pR)):=by
 simp only [fn76]
 by_cases hlen:(L o).length > 1024
 ·rw [if_pos (by simp;omega)]
  simp only [xv7,List.length_map]
  rw [decide_eq_true hlen]
  rfl
 ·rw [if_neg (by simp;omega)]
  have:=xv24 (L o) (fn76_l0 k o o ((L o).length:Int)) (fun (_:Option fn140) i=>i) (fun (p:Option fn140) (a:fn140)=>if chk1 k (p.map pR) (pR a) then (.inl (some a):Option fn140 ⊕ (fn140 ⊕ Unit)) else .inr (.inl a)) (fun _=>.inr ()) (fun i s=>s=xv186 (L o) i)
   (fun s i hi hI=>by
    subst hI
    have hx:=ht _ (List.getElem_mem hi)
    simp only [fn76_l0,fn76_b0]
    rw [if_pos (by simp;omega),xv2,List.getElem?_eq_getElem hi]
    simp only [Option.bind_some]
    rw [xv187 _ hx.1 hx.2,xv3 (by omega)]
    simp only [Option.bind_some,xv205]
    by_cases hv:xv42 (L o)[i].Id (L o)[i].N (L o)[i].A (L o)[i].B=true
    ·rw [if_neg (by simp [hv])]
     by_cases hf:forB (L o)[i].Id k=true
     ·rw [if_neg (by simp [hf])]
      have hc:∀ p,chk1 k p (pR (L o)[i])=ordB k p (pR (L o)[i]):=fun p=>by
       simp only [chk1]
       rw [show xv42 (pR (L o)[i]).Id (pR (L o)[i]).N (pR (L o)[i]).A (pR (L o)[i]).B=true from hv,show forB (pR (L o)[i]).Id k=true from hf]
       simp
      rw [hc]
      cases i with
      | zero=>rw [if_pos (by simp)];rfl
      | succ j =>
       have hj:j < (L o).length:=by omega
       rw [if_neg (by simp;omega),show w64 (((j + 1:Nat):Int) - 1)=(j:Int) from by rw [xv0 (by omega) (by omega)];omega,xv2,List.getElem?_eq_getElem hj]
       simp only [Option.bind_some,xv185]
       have ep:(xv186 (L o) (j + 1)).map pR=some (pR (L o)[j]):=by
        simp only [xv186,Nat.add_one_sub_one]
        rw [if_neg (by omega),List.getElem?_eq_getElem hj]
        rfl
       rw [ep]
       have eo:ordB k (some (pR (L o)[j])) (pR (L o)[j + 1])=(!decide ((L o)[j].Id > (L o)[j + 1].Id) && (!decide ((L o)[j].Id=(L o)[j + 1].Id) || xv45 (L o)[j + 1].Id k)):=rfl
       by_cases h1:(L o)[j].Id > (L o)[j + 1].Id
       ·rw [if_pos (by simpa using h1),if_neg (by rw [eo];simp [h1])];rfl
       ·rw [if_neg (by simpa using h1)]
        by_cases h2:(L o)[j].Id=(L o)[j + 1].Id
        ·rw [if_pos (by simpa using h2)]
         by_cases h3:xv45 (L o)[j + 1].Id k=true
         ·rw [if_neg (by simp [h3]),if_pos (by rw [eo];simp [h1,h3])];rfl
         ·rw [if_pos (by simpa using h3),if_neg (by rw [eo];simp [h2,h3])];rfl
        ·rw [if_neg (by simpa using h2),if_pos (by rw [eo];simp [h1,h2])];rfl
     ·rw [if_pos (by simpa using hf),if_neg (by simp only [chk1];intro q;simp only [Bool.and_eq_true] at q;exact hf q.1.2)];rfl
    ·rw [if_pos (by simpa using hv),if_neg (by simp only [chk1];intro q;simp only [Bool.and_eq_true] at q;exact hv q.1.1)];rfl)
   (fun s i hi s' hI hg=>by
    split at hg
    ·simp only [Sum.inl.injEq] at hg
     rw [← hg]
     simp only [xv186,Nat.add_one_sub_one]
     rw [if_neg (by omega),List.getElem?_eq_getElem hi]
    ·cases hg)
   (fun s hI=>by
    simp only [fn76_l0,fn76_b0]
    rw [if_neg (by simp)])
   none rfl
  rw [this]
  have hd:decide (((L o).map pR).length > 1024)=false:=decide_eq_false (by simpa using hlen)
  obtain ⟨p1,g1,_⟩:=xv94 o 22 hl
  obtain ⟨p2,g2,_⟩:=xv94 o 21 hl
  rcases xv196 k (L o) none with ⟨e1,e2⟩|⟨⟨a,e1⟩,e2⟩
  ·have e2:chkL k none ((L o).map pR)=true:=e2
   rw [e1]
   simp only [Option.bind_some]
   rw [g1]
   simp only [Option.bind_some]
   rw [g2]
   simp only [Option.bind_some,xv67]
   simp only [xv7]
   rw [hd,e2]
   cases hasId ((L o).map pR) 21<;>simp
  ·have e2:chkL k none ((L o).map pR)=false:=e2
   rw [e1]
   simp only [xv7]
   rw [hd,e2]
   rfl
end Go.Rv
namespace Go.Rv
def optN (v k:Int) (sh:Bool) (o:UInt8):Bool :=
 !decide ((o &&& (3:UInt8)) > (2:UInt8)) && !decide (o ≥ (48:UInt8)) && (if k=10 then decide (o=0) else if v=4 then decide (o ≤ (2:UInt8)) else (!sh || decide ((o &&& (4:UInt8))=0)))
def optR (v k:Int) (sh:Bool) (o:UInt8):Bool :=
 !decide ((o % (4:UInt8))=(3:UInt8)) && !(decide (k=10) && !decide (o=0)) && !(decide (v=4) && decide (o > (2:UInt8))) && !decide (o ≥ (48:UInt8)) && !(sh && decide (((o / (4:UInt8)) % (2:UInt8))=(1:UInt8)))
theorem xv321:∀ sh o,optN 4 8 sh o=optR 4 8 sh o:=by
 intro sh
 cases sh<;>exact all8 (by decide +kernel)
theorem xv322:∀ sh o,optN 5 8 sh o=optR 5 8 sh o:=by
 intro sh
 cases sh<;>exact all8 (by decide +kernel)
theorem xv288:∀ sh o,optN 4 10 sh o=optR 4 10 sh o:=by
 intro sh
 cases sh<;>exact all8 (by decide +kernel)
theorem xv289:∀ sh o,optN 5 10 sh o=optR 5 10 sh o:=by
 intro sh
 cases sh<;>exact all8 (by decide +kernel)
theorem xv323 (v k:Int) (hv:v=4∨v=5) (hk:k=8∨k=10) (sh:Bool) (o:UInt8):optN v k sh o=optR v k sh o:=by
 rcases hv with rfl|rfl<;>rcases hk with rfl|rfl
 ·exact xv321 sh o
 ·exact xv288 sh o
 ·exact xv322 sh o
 ·exact xv289 sh o
def wantN (v k:Int) (f:fn112):Bool:=xv9 f.Text && optN v k (xv37 f.Text).2.2 f.Opt
theorem xv308 (v k:Int) (f:fn59) (hl:f.Text.length ≤ 9000):fn16 f v k=some (wantN v k (fR f)):=by
 simp only [fn16,xv168 _ hl,xv72 _ hl,Option.bind_some,fn16_c0,fn16_c1]
 have e:wantN v k (fR f)=(xv9 f.Text && optN v k (xv37 f.Text).2.2 f.Opt):=rfl
 rw [e]
 simp only [optN]
 cases hf:xv9 f.Text with
 | false=>simp
 | true =>
  by_cases h3:(f.Opt &&& (3:UInt8)) > (2:UInt8)
  ·simp [h3]
  ·by_cases h48:f.Opt ≥ (48:UInt8)
   ·simp [h3,h48]
   ·by_cases hk:k=10
    ·simp [h3,h48,hk]
    ·by_cases hv:v=4
     ·simp [h3,h48,hk,hv]
     ·cases hs:(xv37 f.Text).2.2<;>simp [h3,h48,hk,hv]
theorem xv230 {α:Type} (want:α->Bool) (v:Int) (p:fn60):∀ (l:List α) (s:Nat),
 (l.all want=true∧runL (fun (s:Nat) (a:α)=>if want a then .inl (s + 1) else (.inr (.inl ((s:Int),v,p)):Nat ⊕ ((Int × Int × fn60) ⊕ (Int × fn60)))) (fun _=>.inr (v,p)) s l=.inr (v,p)) ∨
 (l.all want=false∧∃ k:Nat,runL (fun (s:Nat) (a:α)=>if want a then .inl (s + 1) else (.inr (.inl ((s:Int),v,p)):Nat ⊕ ((Int × Int × fn60) ⊕ (Int × fn60)))) (fun _=>.inr (v,p)) s l=.inl ((k:Int),v,p))
 | [],s=>.inl ⟨rfl,rfl⟩
 | a::l,s=>by
  by_cases h:want a=true
  ·have e:(a::l).all want=l.all want:=by rw [List.all_cons,h,Bool.true_and]
   rw [e]
   simp only [runL]
   rw [if_pos h]
   exact xv230 want v p l (s + 1)
  ·right
   refine ⟨by rw [List.all_cons,show want a=false by simpa using h,Bool.false_and],s,?_⟩
   simp only [runL]
   rw [if_neg h]
theorem cf_eq (o:Option (List fn59)) (v:Int) (p:fn60) (hl:(L o).length ≤ 100000) (ht:∀ f ∈ L o,f.Text.length ≤ 9000) :
 fn0 o v p=some (!((L o).map fR).all (wantN v p.Kind),v,p):=by
 simp only [fn0,fn1]
 have hall:((L o).map fR).all (wantN v p.Kind)=(L o).all (fun f=>wantN v p.Kind (fR f)):=by rw [List.all_map];rfl
 have:=xv24 (L o) (fn1_l0 o ((L o).length:Int)) (fun (_:Nat) i=>(i,v,p)) (fun (s:Nat) (a:fn59)=>if wantN v p.Kind (fR a) then .inl (s + 1) else (.inr (.inl ((s:Int),v,p)):Nat ⊕ ((Int × Int × fn60) ⊕ (Int × fn60)))) (fun _=>.inr (v,p)) (fun i s=>s=i)
  (fun s i hi hI=>by
   subst hI
   simp only [fn1_l0,fn1_b0,fn25]
   rw [if_pos (by simp;omega),xv2,List.getElem?_eq_getElem hi]
   simp only [Option.bind_some]
   rw [xv308 v _ _ (ht _ (List.getElem_mem hi))]
   simp only [Option.bind_some]
   rw [xv3 (by omega)]
   by_cases h:wantN v p.Kind (fR (L o)[s])=true
   ·have e:wantN v p.Kind (fR ⟨(L o)[s].Text,(L o)[s].Opt⟩)=true:=h
    rw [if_neg (by simp [e]),if_pos h];rfl
   ·have e:wantN v p.Kind (fR ⟨(L o)[s].Text,(L o)[s].Opt⟩)=false:=by simpa using h
    rw [if_pos (by simp [e]),if_neg h];rfl)
  (fun s i hi s' hI hg=>by
   subst hI
   split at hg
   ·simpa using hg.symm
   ·cases hg)
  (fun s hI=>by
   simp only [fn1_l0,fn1_b0]
   rw [if_neg (by simp)]) 0 rfl
 rw [this,hall]
 rcases xv230 (fun f=>wantN v p.Kind (fR f)) v p (L o) 0 with ⟨e1,e2⟩|⟨e1,k,e2⟩
 ·rw [e1,e2];rfl
 ·rw [e1,e2]
  simp only [Option.bind_some]
  rw [decide_eq_true (show (k:Int) ≥ 0 by omega)]
  rfl
theorem cc_eq (o:Option (List UInt8)) (v:Int) (p:fn60) (hl:(L o).length ≤ 100000) :
 fn5 o v p=some (!(L o).all (knB v p.Kind),v,p):=by
 simp only [fn5,fn8]
 have:=xv24 (L o) (fn8_l0 o ((L o).length:Int)) (fun (_:Nat) i=>(i,v,p)) (fun (s:Nat) (a:UInt8)=>if knB v p.Kind a then .inl (s + 1) else (.inr (.inl ((s:Int),v,p)):Nat ⊕ ((Int × Int × fn60) ⊕ (Int × fn60)))) (fun _=>.inr (v,p)) (fun i s=>s=i)
  (fun s i hi hI=>by
   subst hI
   simp only [fn8_l0,fn8_b0,fn39]
   rw [if_pos (by simp;omega),xv2,List.getElem?_eq_getElem hi]
   simp only [Option.bind_some]
   rw [xv136]
   simp only [Option.bind_some]
   rw [xv3 (by omega)]
   by_cases h:knB v p.Kind (L o)[s]=true
   ·rw [if_neg (by simp [h]),if_pos h];rfl
   ·rw [if_pos (by simpa using h),if_neg h];rfl)
  (fun s i hi s' hI hg=>by
   subst hI
   split at hg
   ·simpa using hg.symm
   ·cases hg)
  (fun s hI=>by
   simp only [fn8_l0,fn8_b0]
   rw [if_neg (by simp)]) 0 rfl
 rw [this]
 rcases xv230 (knB v p.Kind) v p (L o) 0 with ⟨e1,e2⟩|⟨e1,k,e2⟩
 ·rw [e1,e2];rfl
 ·rw [e1,e2]
  simp only [Option.bind_some]
  rw [decide_eq_true (show (k:Int) ≥ 0 by omega)]
  rfl
def xv10 (n:Nat):Bool:=decide (1 ≤ n) && decide (n ≤ 1024)
theorem xv106 (n:Nat):fn51 (n:Int)=some (xv10 n):=by
 simp only [fn51,xv10]
 by_cases h:1 ≤ n
 ·rw [if_pos (by simp;omega),decide_eq_true h,Bool.true_and]
  congr 1
  exact decide_eq_decide.2 (by omega)
 ·rw [if_neg (by simp;omega),decide_eq_false h,Bool.false_and]
def xv15 (v:Int) (p:fn113):Bool:=xv10 (L p.Filters).length && (L p.Filters).all (wantN v p.Kind)
def xv66 (v:Int) (p:fn113):Bool:=if v=4∧p.Kind=11 then decide ((L p.Codes).length=0) else xv10 (L p.Codes).length && (L p.Codes).all (knB v p.Kind)
structure MidP (q:fn60):Prop extends FewP q where
 ft:∀ f ∈ L q.Filters,f.Text.length ≤ 9000
 pt:∀ x ∈ L q.Props,x.A.length ≤ 9000∧x.B.length ≤ 9000
 wt:∀ x ∈ L q.WillProps,x.A.length ≤ 9000∧x.B.length ≤ 9000
 cl:q.Client.length ≤ 9000
 tp:q.Topic.length ≤ 9000
 wo:q.WillTopic.length ≤ 9000
 us:q.User.length ≤ 9000
theorem xv128 (v:Int) (q:fn60) (h:MidP q):fn38 v q=some (xv15 v (nP q)):=by
 have h3:=h.fl
 simp only [fn38]
 rw [xv106]
 simp only [Option.bind_some]
 have e:xv15 v (nP q)=(xv10 (L q.Filters).length && ((L q.Filters).map fR).all (wantN v q.Kind)):=by
  show (xv10 ((L q.Filters).map fR).length && _)=_
  rw [List.length_map];rfl
 rw [e]
 cases xv10 (L q.Filters).length with
 | false=>rfl
 | true =>
  rw [if_pos rfl,cf_eq _ _ _ (by omega) h.ft]
  simp
theorem xv232 (v:Int) (q:fn60) (h:MidP q):fn67 v q=some (xv66 v (nP q)):=by
 have h4:=h.cd
 have c0:∀ (k:Bool->Int->fn60->Option Bool) (hk:∀ b v p,k b v p=some b),fn67_c0 v q k=some (xv10 (L q.Codes).length && (L q.Codes).all (knB v q.Kind)):=by
  intro k hk
  simp only [fn67_c0]
  rw [xv106]
  simp only [Option.bind_some]
  cases xv10 (L q.Codes).length with
  | false=>rw [if_neg (by simp),hk];rfl
  | true =>
   rw [if_pos rfl,cc_eq _ _ _ h4]
   simp only [Option.bind_some,hk]
   simp
 have e:xv66 v (nP q)=if v=4∧q.Kind=11 then decide ((L q.Codes).length=0) else xv10 (L q.Codes).length && (L q.Codes).all (knB v q.Kind):=rfl
 rw [e]
 simp only [fn67]
 by_cases hv:v=4
 ·rw [if_pos (by simpa using hv)]
  by_cases hk:q.Kind=11
  ·rw [if_pos (by simpa using hk),if_pos ⟨hv,hk⟩]
   congr 1
   exact decide_eq_decide.2 (by omega)
  ·rw [if_neg (by simpa using hk),if_neg (fun h=>hk h.2),c0 _ (fun _ _ _=>rfl)]
 ·rw [if_neg (by simpa using hv),if_neg (fun h=>hv h.1),c0 _ (fun _ _ _=>rfl)]
def pubN (v:Int) (p:fn113):Bool :=
 !decide (p.QoS > 2) && !(p.Dup && decide (p.QoS=0)) && (decide (p.Id=0) == decide (p.QoS=0)) && (nameB p.Topic || (decide (v=5) && decide (p.Topic=[]) && hasId (L p.Props) 35))
theorem xv144 (v:Int) (q:fn60) (h:MidP q):fn37 v q=some (pubN v (nP q)):=by
 have h2:=h.pp
 obtain ⟨p1,g1,_⟩:=xv94 q.Props 35 (by omega)
 have e:pubN v (nP q)=(!decide (q.QoS > 2) && !(q.Dup && decide (q.QoS=0)) && (decide (q.Id=0) == decide (q.QoS=0)) && (nameB q.Topic || (decide (v=5) && decide (q.Topic=[]) && hasId ((L q.Props).map pR) 35))):=rfl
 rw [e]
 simp only [fn37,fn37_c0,g1,xv86 _ h.tp,Option.bind_some,xv67]
 by_cases a1:q.QoS > 2
 ·simp [a1]
 ·cases a2:q.Dup<;>by_cases a3:q.QoS=0<;>by_cases a4:q.Id=0<;>cases a5:nameB q.Topic<;>by_cases a6:v=5<;>by_cases a7:q.Topic=[]<;>simp [a1,a3,a4,a6,a7]
def conN (v:Int) (p:fn113):Bool :=
 !(p.HasWill && (decide (p.WillQoS > 2) || !nameB p.WillTopic)) && (decide (v=5) || ((p.HasUser || !p.HasPass) && (p.Clean || !decide (p.Client=[]))))
theorem xv124 (v:Int) (q:fn60) (h:MidP q):fn36 v q=some (conN v (nP q)):=by
 have e:conN v (nP q)=(!(q.HasWill && (decide (q.WillQoS > 2) || !nameB q.WillTopic)) && (decide (v=5) || ((q.HasUser || !q.HasPass) && (q.Clean || !decide (q.Client=[]))))):=rfl
 rw [e]
 simp only [fn36,fn36_c0,xv86 _ h.wo,Option.bind_some]
 cases a1:q.HasWill<;>by_cases a2:q.WillQoS > 2<;>cases a3:nameB q.WillTopic<;>by_cases a4:v=5<;>cases a5:q.HasUser<;>cases a6:q.HasPass<;>cases a7:q.Clean<;>simp [a2,a4]
end Go.Rv
namespace Go.Rv
def vb (n:Nat):List UInt8:=if h:n < 128 then [UInt8.ofNat n] else UInt8.ofNat (n % 128 + 128)::vb (n / 128)
theorem vb_lt {n:Nat} (h:n < 128):vb n=[UInt8.ofNat n]:=by rw [vb,dif_pos h]
theorem vb_ge {n:Nat} (h:¬ n < 128):vb n=UInt8.ofNat (n % 128 + 128)::vb (n / 128):=by rw [vb,dif_neg h]
theorem xv88:∀ (k n:Nat),n < 128 ^ k->(vb n).length ≤ k + 1
 | 0,n,h=>by rw [vb_lt (by omega)];simp
 | k + 1,n,h=>by
  by_cases hn:n < 128
  ·rw [vb_lt hn];simp
  ·rw [vb_ge hn]
   have:=xv88 k (n / 128) (by rw [Nat.pow_succ] at h;exact Nat.div_lt_of_lt_mul (by omega))
   simp;omega
theorem xv211 (x:UInt32):x.toNat < 128 ^ 5:=by
 have:=x.toNat_lt
 have e:(128:Nat) ^ 5=34359738368:=by decide
 omega
theorem xv105:∀ (m:Nat) (x:UInt32) (out:Option (List UInt8)),x.toNat < m->(L out).length + (vb x.toNat).length ≤ 140737488355328 ->
 ((iter fn143_l0 (x,out)).bind fun (x9,x10)=>(appO 1 x10 (some [u8 (x9.toNat:Int)])).bind fun x11=>some x11)=some (some (L out++vb x.toNat))
 | 0,x,out,h,_=>by omega
 | m + 1,x,out,h,hr=>by
  have hx:=x.toNat_lt
  rw [yv700]
  simp only [fn143_l0,fn143_b0]
  by_cases h1:128 ≤ x.toNat
  ·have hge:(x ≥ (128:UInt32)):=by show (128:UInt32) ≤ x;rw [UInt32.le_iff_toNat_le];exact h1
   rw [vb_ge (by omega)] at hr ⊢
   rw [if_pos (by simpa using hge),xv23 (by simp [room] at hr ⊢;omega) (by simp [room] at hr ⊢;omega),Option.bind_some]
   simp only [Option.bind]
   have e7:(((7:UInt64).toNat:Int))=((7:Nat):Int):=rfl
   have hs:(yv472 x ((7:UInt64).toNat:Int)).toNat=x.toNat / 128:=by rw [e7,xv53 (by omega)]
   have ih:=xv105 m (yv472 x ((7:UInt64).toNat:Int)) (some (L out++[u8 (x.toNat:Int) ||| 128])) (by rw [hs];omega) (by rw [hs];simp [L] at hr ⊢;omega)
   simp only [Option.bind] at ih
   rw [ih,hs]
   have e8:(u8 (x.toNat:Int) ||| 128)=UInt8.ofNat (x.toNat % 128 + 128):=by
    rw [eq8,hi7,u8_toNat']
    simp only [UInt8.toNat_ofNat']
    omega
   rw [e8]
   simp [L]
  ·have hge:¬ (x ≥ (128:UInt32)):=by intro hh;have:=UInt32.le_iff_toNat_le.1 hh;exact h1 this
   rw [vb_lt (by omega)] at hr ⊢
   rw [if_neg (by simpa using hge)]
   simp only [Option.bind]
   rw [xv23 (by simp [room] at hr ⊢;omega) (by simp [room] at hr ⊢;omega)]
   have e8:u8 (x.toNat:Int)=UInt8.ofNat x.toNat:=by rw [eq8,u8_toNat'];simp only [UInt8.toNat_ofNat'];omega
   simp [e8]
theorem xv281 {n:UInt32}:n > (268435455:UInt32) ↔ 268435455 < n.toNat:=UInt32.lt_iff_toNat_lt
theorem xv74 (b:Option (List UInt8)) (h:(L b).length ≤ 140737488355328):fn14 b=some b:=by
 cases b with
 | none=>rfl
 | some l =>
  simp only [fn14]
  rw [if_neg (by simp),xv29 (by simpa [room,L] using h) (by simpa [room,L] using h)]
  rfl
theorem xv104 (b:Option (List UInt8)) (n:UInt32) (h:(L b).length ≤ 140737488355000):fn143 b n=some (if 268435455 < n.toNat then b else some (L b++vb n.toNat)):=by
 simp only [fn143]
 rw [xv74 b (by omega),Option.bind_some]
 have hl:=xv88 5 n.toNat (xv211 n)
 by_cases hn:268435455 < n.toNat
 ·rw [if_pos (by simpa [xv281] using hn),if_pos hn]
 ·rw [if_neg (by simpa [xv281] using hn),if_neg hn]
  exact xv105 _ n b (Nat.lt_succ_self _) (by omega)
def be:Nat->Nat->List UInt8
 | 0,_=>[]
 | k + 1,n=>UInt8.ofNat (n / 256 ^ k % 256)::be k n
theorem xv11:∀ (k n:Nat),(be k n).length=k
 | 0,_=>rfl
 | k + 1,n=>by simp [be,xv11 k n]
theorem be1 (n:Nat):be 1 n=[UInt8.ofNat (n % 256)]:=by simp [be]
theorem be2 (n:Nat):be 2 n=[UInt8.ofNat (n / 256 % 256),UInt8.ofNat (n % 256)]:=by simp [be]
theorem be4 (n:Nat):be 4 n=[UInt8.ofNat (n / 16777216 % 256),UInt8.ofNat (n / 65536 % 256),UInt8.ofNat (n / 256 % 256),UInt8.ofNat (n % 256)]:=by simp [be]
theorem xv306 {n m:Nat} (h:n % 256=m % 256):u8 (n:Int)=UInt8.ofNat m:=by
 rw [eq8,u8_toNat'];simp only [UInt8.toNat_ofNat'];omega
def lim:Nat:=140737488300000
theorem clone_eq' (b:Option (List UInt8)) (h:(L b).length ≤ lim):fn14 b=some b:=xv74 b (by simp only [lim] at h;omega)
theorem xv119 (b:Option (List UInt8)) (a:UInt8) (l:List UInt8) (h:(L b).length + l.length + 1 ≤ lim):appO 1 b (some (a::l))=some (some (L b++a::l)):=by
 simp only [lim] at h
 exact xv23 (by simp [room];omega) (by simp [room];omega)
theorem xv33 (b:Option (List UInt8)) (c:UInt8) (h:(L b).length + 1 ≤ lim):fn117 b c=some (some (L b++be 1 c.toNat)):=by
 simp only [fn117]
 have hc:=c.toNat_lt
 rw [clone_eq' b (by omega),Option.bind_some,xv119 b c [] (by simpa using h),be1,Nat.mod_eq_of_lt (by omega),UInt8.ofNat_toNat];rfl
theorem xv48 (b:Option (List UInt8)) (n:UInt16) (h:(L b).length + 2 ≤ lim):fn142 b n=some (some (L b++be 2 n.toNat)):=by
 simp only [fn142]
 have e8:(((8:UInt64).toNat:Int))=((8:Nat):Int):=rfl
 rw [clone_eq' b (by omega),Option.bind_some,e8,xv119 b _ _ (by simpa using h),be2,xv115 (by omega),xv306 (m:=n.toNat / 256 % 256) (by omega),xv306 (m:=n.toNat % 256) (by omega)];rfl
theorem xv262 (b:Option (List UInt8)) (n:UInt32) (h:(L b).length + 4 ≤ lim):fn118 b n=some (some (L b++be 4 n.toNat)):=by
 simp only [fn118]
 have hn:=n.toNat_lt
 have e16:(((16:UInt64).toNat:Int))=((16:Nat):Int):=rfl
 rw [e16,xv48 b _ (by omega),Option.bind_some,xv48 _ _ (by simp [L,xv11] at h ⊢;omega),be2,be2,be4,u16_toNat',u16_toNat',xv53 (by omega)]
 simp only [Option.bind_some,L,Option.getD_some,List.append_assoc,List.cons_append,List.nil_append]
 congr 3
 have e1:(((n.toNat / 2 ^ 16:Nat):Int) % 65536).toNat=n.toNat / 65536:=by omega
 have e2:((n.toNat:Int) % 65536).toNat=n.toNat % 65536:=by omega
 rw [e1,e2,show n.toNat / 65536 / 256=n.toNat / 16777216 by omega,show n.toNat % 65536 / 256 % 256=n.toNat / 256 % 256 by omega,show n.toNat % 65536 % 256=n.toNat % 256 by omega]
theorem xv305 {n:Nat} (h:n < 65536):(u16 (n:Int)).toNat=n:=by rw [u16_toNat'];omega
theorem xv28 (b:Option (List UInt8)) (x:List UInt8) (hx:x.length ≤ 65535) (h:(L b).length + x.length + 2 ≤ lim):fn144 b x=some (some (L b++(be 2 x.length++x))):=by
 simp only [fn144]
 have hl:(L b).length + x.length + 2 ≤ 140737488300000:=h
 rw [if_neg (by simp;omega),xv48 b _ (by omega),Option.bind_some,xv305 (by omega),xv29 (by simp [room,L,xv11] at hl ⊢;omega) (by simp [room,L,xv11] at hl ⊢;omega)]
 simp [L]
end Go.Rv
namespace Go.Rv
def binN (x:List UInt8):List UInt8:=be 2 x.length++x
def oneN (p:fn163):List UInt8:=p.Id::(
 if typeT p.Id=1 then be 1 p.N.toNat else if typeT p.Id=2 then be 2 p.N.toNat else if typeT p.Id=3 then be 4 p.N.toNat
 else if typeT p.Id=4 then (if 268435455 < p.N.toNat then [] else vb p.N.toNat) else if typeT p.Id=7 then binN p.A++binN p.B else binN p.A)
def secN (l:List fn163):List UInt8:=l.flatMap oneN
def okB (p:fn163):Bool:=xv20 p.Id p.N p.A p.B
theorem xv307 (n:UInt32):(vb n.toNat).length ≤ 6:=xv88 5 n.toNat (xv211 n)
theorem xv138 (p:fn163) (ha:p.A.length ≤ 9000) (hb:p.B.length ≤ 9000):(oneN p).length ≤ 18100:=by
 have:=xv307 p.N
 simp only [oneN,binN]
 split
 ·simp [xv11]
 ·split
  ·simp [xv11]
  ·split
   ·simp [xv11]
   ·split
    ·split<;>simp<;>omega
    ·split<;>simp [xv11]<;>omega
theorem xv309 (n:Nat):be 1 (u8 (n:Int)).toNat=be 1 n:=by
 rw [be1,be1,u8_toNat']
 congr 2
 omega
theorem xv264 (n:Nat):be 2 (u16 (n:Int)).toNat=be 2 n:=by
 have h:(u16 (n:Int)).toNat=n % 65536:=by rw [u16_toNat'];omega
 have e1:n % 65536 / 256 % 256=n / 256 % 256:=by omega
 have e2:n % 65536 % 256=n % 256:=by omega
 rw [be2,be2,h,e1,e2]
theorem xv292 (b:Option (List UInt8)) (p:fn140) (ha:p.A.length ≤ 9000) (hb:p.B.length ≤ 9000) (h:(L b).length ≤ 130000000000000) :
 ∃ o,fn119 b p=some o∧L o=L b++oneN (pR p):=by
 have hl:lim=140737488300000:=rfl
 simp only [fn119]
 rw [xv119 b p.Id [] (by rw [hl];simp;omega)]
 simp only [Option.bind_some,xv81]
 have e:oneN (pR p)=p.Id::(
  if typeT p.Id=1 then be 1 p.N.toNat else if typeT p.Id=2 then be 2 p.N.toNat else if typeT p.Id=3 then be 4 p.N.toNat
  else if typeT p.Id=4 then (if 268435455 < p.N.toNat then [] else vb p.N.toNat) else if typeT p.Id=7 then binN p.A++binN p.B else binN p.A):=rfl
 rw [e]
 have hlen:(L (some (L b++[p.Id]))).length=(L b).length + 1:=by simp [L]
 by_cases h1:typeT p.Id=1
 ·rw [if_pos (by simpa using h1),if_pos h1,xv33 _ _ (by rw [hlen,hl];omega),xv309]
  exact ⟨_,rfl,by simp [L]⟩
 ·rw [if_neg (by simpa using h1),if_neg h1]
  by_cases h2:typeT p.Id=2
  ·rw [if_pos (by simpa using h2),if_pos h2,xv48 _ _ (by rw [hlen,hl];omega),xv264]
   exact ⟨_,rfl,by simp [L]⟩
  ·rw [if_neg (by simpa using h2),if_neg h2]
   by_cases h3:typeT p.Id=3
   ·rw [if_pos (by simpa using h3),if_pos h3,xv262 _ _ (by rw [hlen,hl];omega)]
    exact ⟨_,rfl,by simp [L]⟩
   ·rw [if_neg (by simpa using h3),if_neg h3]
    by_cases h4:typeT p.Id=4
    ·rw [if_pos (by simpa using h4),if_pos h4,xv104 _ _ (by rw [hlen];omega)]
     refine ⟨_,rfl,?_⟩
     split<;>simp [L]
    ·rw [if_neg (by simpa using h4),if_neg h4]
     by_cases h7:typeT p.Id=7
     ·rw [if_pos (by simpa using h7),if_pos h7,xv28 _ _ (by omega) (by rw [hlen,hl];omega)]
      simp only [Option.bind_some]
      rw [xv28 _ _ (by omega) (by rw [hl];simp [L,xv11];simp [L] at h;omega)]
      exact ⟨_,rfl,by simp [L,binN]⟩
     ·rw [if_neg (by simpa using h7),if_neg h7,xv28 _ _ (by omega) (by rw [hlen,hl];omega)]
      exact ⟨_,rfl,by simp [L,binN]⟩
theorem xv142 (g:fn140->Option (List UInt8)->Option (List UInt8)) (hg:∀ p s,L (g p s)=L s++oneN (pR p)):∀ (l:List fn140) (s:Option (List UInt8)),
 ((l.map pR).all okB=true∧∃ o,runL (fun (s:Option (List UInt8)) (a:fn140)=>if okB (pR a) then .inl (g a s) else (.inr (.inl a):Option (List UInt8) ⊕ (fn140 ⊕ Option (List UInt8)))) (fun s=>.inr s) s l=.inr o∧L o=L s++secN (l.map pR)) ∨
 ((l.map pR).all okB=false∧∃ a,runL (fun (s:Option (List UInt8)) (a:fn140)=>if okB (pR a) then .inl (g a s) else (.inr (.inl a):Option (List UInt8) ⊕ (fn140 ⊕ Option (List UInt8)))) (fun s=>.inr s) s l=.inl a)
 | [],s=>.inl ⟨rfl,s,rfl,by simp [secN]⟩
 | a::l,s=>by
  by_cases h:okB (pR a)=true
  ·have e:((a::l).map pR).all okB=(l.map pR).all okB:=by rw [List.map_cons,List.all_cons,h,Bool.true_and]
   rw [e]
   simp only [runL]
   rw [if_pos h]
   rcases xv142 g hg l (g a s) with ⟨h1,o,h2,h3⟩|⟨h1,x,h2⟩
   ·exact .inl ⟨h1,o,h2,by rw [h3,hg];simp [secN,List.append_assoc]⟩
   ·exact .inr ⟨h1,x,h2⟩
  ·right
   refine ⟨by rw [List.map_cons,List.all_cons,show okB (pR a)=false by simpa using h,Bool.false_and],a,?_⟩
   simp only [runL]
   rw [if_neg h]
theorem xv162 (l:List fn163) (h:∀ x ∈ l,x.A.length ≤ 9000∧x.B.length ≤ 9000):(secN l).length ≤ 18100 * l.length:=by
 induction l with
 | nil=>simp [secN]
 | cons a l ih =>
  have h1:=xv138 a (h a (by simp)).1 (h a (by simp)).2
  have h2:=ih (fun x hx=>h x (by simp [hx]))
  have e:secN (a::l)=oneN a++secN l:=rfl
  rw [e,List.length_append,List.length_cons]
  omega
theorem xv293 (o:Option (List fn140)) (hl:(L o).length ≤ 1000) (ht:∀ x ∈ L o,x.A.length ≤ 9000∧x.B.length ≤ 9000) :
 (((L o).map pR).all okB=true∧∃ x,fn53 o=some (x,true)∧L x=secN ((L o).map pR))∨(((L o).map pR).all okB=false∧fn53 o=some (none,false)):=by
 simp only [fn53]
 have htm:∀ x ∈ (L o).map pR,x.A.length ≤ 9000∧x.B.length ≤ 9000:=fun x hx=>by
  obtain ⟨y,hy,rfl⟩:=List.mem_map.1 hx
  exact ht y hy
 have g:∀ (p:fn140) (s:Option (List UInt8)),∃ r:Option (List UInt8),L r=L s++oneN (pR p)∧(p.A.length ≤ 9000∧p.B.length ≤ 9000->(L s).length ≤ 130000000000000->fn119 s p=some r):=by
  intro p s
  by_cases hp:(p.A.length ≤ 9000∧p.B.length ≤ 9000)∧(L s).length ≤ 130000000000000
  ·obtain ⟨r,e1,e2⟩:=xv292 s p hp.1.1 hp.1.2 hp.2
   exact ⟨r,e2,fun _ _=>e1⟩
  ·exact ⟨some (L s++oneN (pR p)),rfl,fun h1 h2=>absurd ⟨h1,h2⟩ hp⟩
 have hex:∃ G:fn140->Option (List UInt8)->Option (List UInt8),∀ p s,L (G p s)=L s++oneN (pR p)∧(p.A.length ≤ 9000∧p.B.length ≤ 9000->(L s).length ≤ 130000000000000->fn119 s p=some (G p s)) :=
  ⟨fun p s=>(g p s).choose,fun p s=>(g p s).choose_spec⟩
 obtain ⟨G,hG⟩:=hex
 have:=xv24 (L o) (fn53_l0 o ((L o).length:Int)) (fun (s:Option (List UInt8)) i=>(s,i)) (fun (s:Option (List UInt8)) (a:fn140)=>if okB (pR a) then .inl (G a s) else (.inr (.inl a):Option (List UInt8) ⊕ (fn140 ⊕ Option (List UInt8)))) (fun s=>.inr s) (fun i s=>(L s).length ≤ 18100 * i)
  (fun s i hi hI=>by
   have hx:=ht _ (List.getElem_mem hi)
   simp only [fn53_l0,fn53_b0]
   rw [if_pos (by simp;omega),xv2,List.getElem?_eq_getElem hi]
   simp only [Option.bind_some]
   rw [xv95 _ hx.1 hx.2]
   simp only [Option.bind_some]
   have e:okB (pR (L o)[i])=xv20 (L o)[i].Id (L o)[i].N (L o)[i].A (L o)[i].B:=rfl
   rw [e]
   by_cases h:xv20 (L o)[i].Id (L o)[i].N (L o)[i].A (L o)[i].B=true
   ·rw [if_neg (by simp [h]),if_pos h,show fn119 s (⟨(L o)[i].Id,(L o)[i].N,(L o)[i].A,(L o)[i].B⟩:fn140)=some (G (L o)[i] s) from (hG _ s).2 hx (by omega),xv3 (by omega)]
    rfl
   ·rw [if_pos (by simpa using h),if_neg h];rfl)
  (fun s i hi s' hI hg=>by
   have hx:=ht _ (List.getElem_mem hi)
   split at hg
   ·simp only [Sum.inl.injEq] at hg
    rw [← hg,(hG _ _).1,List.length_append]
    have:=xv138 (pR (L o)[i]) hx.1 hx.2
    omega
   ·cases hg)
  (fun s hI=>by
   simp only [fn53_l0,fn53_b0]
   rw [if_neg (by simp)]) none (by simp [L])
 rw [this]
 rcases xv142 G (fun p s=>(hG p s).1) (L o) none with ⟨h1,x,h2,h3⟩|⟨h1,x,h2⟩
 ·left
  have h3:L x=secN ((L o).map pR):=by rw [h3];simp [L]
  refine ⟨h1,x,?_,h3⟩
  rw [h2]
  simp only [Option.bind_some]
  have:=xv162 _ htm
  rw [List.length_map] at this
  rw [decide_eq_true]
  rw [h3];omega
 ·right
  exact ⟨h1,by rw [h2];rfl⟩
def putN (l:List fn163):List UInt8:=vb (secN l).length++secN l
theorem xv145 (l:List fn163) (hl:l.length ≤ 1000) (h:∀ x ∈ l,x.A.length ≤ 9000∧x.B.length ≤ 9000):(putN l).length ≤ 18100 * l.length + 6:=by
 have h1:=xv162 l h
 have h2:=xv88 4 (secN l).length (by have:(128:Nat) ^ 4=268435456:=(by decide);omega)
 simp only [putN,List.length_append]
 omega
theorem xv141 (b:Option (List UInt8)) (o:Option (List fn140)) (hb:(L b).length ≤ 130000000000000) (hl:(L o).length ≤ 1000) (ht:∀ x ∈ L o,x.A.length ≤ 9000∧x.B.length ≤ 9000) :
 fn120 b o=if ((L o).map pR).all okB then some (some (L b++putN ((L o).map pR))) else some b:=by
 have hl2:lim=140737488300000:=rfl
 have htm:∀ x ∈ (L o).map pR,x.A.length ≤ 9000∧x.B.length ≤ 9000:=fun x hx=>by
  obtain ⟨y,hy,rfl⟩:=List.mem_map.1 hx
  exact ht y hy
 have hs:=xv162 _ htm
 rw [List.length_map] at hs
 simp only [fn120]
 rcases xv293 o hl ht with ⟨h1,x,h2,h3⟩|⟨h1,h2⟩
 ·rw [h1,h2,if_pos rfl]
  simp only [Option.bind_some]
  have hu:(u32 ((L x).length:Int)).toNat=(secN ((L o).map pR)).length:=by rw [h3,u32_toNat'];omega
  rw [if_neg (by simp),xv104 _ _ (by omega),hu,if_neg (by omega)]
  simp only [Option.bind_some]
  have h4:=xv88 4 (secN ((L o).map pR)).length (by have:(128:Nat) ^ 4=268435456:=(by decide);omega)
  rw [xv29 (y:=x) (by rw [h3];simp [room];omega) (by rw [h3];simp [room];omega),h3]
  simp [putN]
 ·rw [h1,h2]
  simp only [Option.bind_some]
  rw [xv74 b (by omega)]
  rfl
theorem xv143 (o:Option (List fn140)) (hl:(L o).length ≤ 1000) (ht:∀ x ∈ L o,x.A.length ≤ 9000∧x.B.length ≤ 9000) :
 fn100 o=some (if ((L o).map pR).all okB then ((putN ((L o).map pR)).length:Int) else 0):=by
 simp only [fn100]
 rw [xv141 none o (by simp [L]) hl ht]
 cases ((L o).map pR).all okB<;>rfl
end Go.Rv
namespace Go.Rv
def ownN (v:Int) (p:fn113):Bool :=
 if p.Kind=1 then conN v p
 else if p.Kind=2 then knB v p.Kind p.Code && (!p.Present || decide (p.Code=0))
 else if p.Kind=3 then pubN v p
 else if p.Kind=8∨p.Kind=10 then !decide (p.Id=0) && xv15 v p
 else if p.Kind=9∨p.Kind=11 then !decide (p.Id=0) && xv66 v p
 else if p.Kind=12∨p.Kind=13 then true
 else if p.Kind=14 then knB v p.Kind p.Code
 else if p.Kind=15 then knB v p.Kind p.Code && hasId (L p.Props) 21
 else !decide (p.Id=0) && knB v p.Kind p.Code
theorem xv324 (v:Int) (q:fn60) (h:MidP q):fn99 v q=some (ownN v (nP q)):=by
 have h2:=h.pp
 obtain ⟨p1,g1,_⟩:=xv94 q.Props 21 (by omega)
 have hf:=xv128 v q h
 have hc:=xv232 v q h
 have e:ownN v (nP q)=if q.Kind=1 then conN v (nP q)
  else if q.Kind=2 then knB v q.Kind q.Code && (!q.Present || decide (q.Code=0))
  else if q.Kind=3 then pubN v (nP q)
  else if q.Kind=8∨q.Kind=10 then !decide (q.Id=0) && xv15 v (nP q)
  else if q.Kind=9∨q.Kind=11 then !decide (q.Id=0) && xv66 v (nP q)
  else if q.Kind=12∨q.Kind=13 then true
  else if q.Kind=14 then knB v q.Kind q.Code
  else if q.Kind=15 then knB v q.Kind q.Code && hasId ((L q.Props).map pR) 21
  else !decide (q.Id=0) && knB v q.Kind q.Code:=rfl
 rw [e]
 simp only [fn99,fn99_c0,fn99_c1,fn99_c2,fn99_c3,xv136,xv124 v q h,xv144 v q h,hc,g1,Option.bind_some,xv67]
 rw [show fn38 v (⟨q.Kind,q.Dup,q.Retain,q.QoS,q.Id,q.Clean,q.Keep,q.Client,q.HasWill,q.HasUser,q.HasPass,q.WillQoS,q.WillRetain,q.WillProps,q.WillTopic,q.WillLoad,q.User,q.Pass,q.Present,q.Code,q.Topic,q.Load,q.Filters,q.Codes,q.Props⟩:fn60)=some (xv15 v (nP q)) from hf]
 simp only [Option.bind_some]
 by_cases k1:q.Kind=1
 ·simp [k1]
 ·by_cases k2:q.Kind=2
  ·cases a1:knB v 2 q.Code<;>cases a2:q.Present<;>simp [k2,a1]
  ·by_cases k3:q.Kind=3
   ·simp [k3]
   ·by_cases k8:q.Kind=8
    ·by_cases i0:q.Id=0<;>simp [k8,i0]
    ·by_cases k10:q.Kind=10
     ·by_cases i0:q.Id=0<;>simp [k10,i0]
     ·by_cases k9:q.Kind=9
      ·by_cases i0:q.Id=0<;>simp [k9,i0]
      ·by_cases k11:q.Kind=11
       ·by_cases i0:q.Id=0<;>simp [k11,i0]
       ·by_cases k12:q.Kind=12
        ·simp [k12]
        ·by_cases k13:q.Kind=13
         ·simp [k13]
         ·by_cases k14:q.Kind=14
          ·simp [k14]
          ·by_cases k15:q.Kind=15
           ·cases a1:knB v 15 q.Code<;>simp [k15,a1]
           ·by_cases i0:q.Id=0<;>simp [k1,k2,k3,k8,k10,k9,k11,k12,k13,k14,k15,i0]
def textB (s:List UInt8):Bool:=decide (s.length ≤ 65535) && good s
def xv12 (p:fn113):Bool:=textB p.Client && textB p.WillTopic && textB p.User && textB p.Topic && decide (p.WillLoad.length ≤ 65535) && decide (p.Pass.length ≤ 65535)
theorem xv260 (q:fn60):fn62 q=some (xv12 (nP q)):=by
 have e:xv12 (nP q)=(textB q.Client && textB q.WillTopic && textB q.User && textB q.Topic && decide (q.WillLoad.length ≤ 65535) && decide (q.Pass.length ≤ 65535)):=rfl
 rw [e]
 simp only [fn62]
 have:=xv117 [q.Client,q.WillTopic,q.User,q.Topic] (fn62_l0 (some [q.Client,q.WillTopic,q.User,q.Topic]) ((L (some [q.Client,q.WillTopic,q.User,q.Topic])).length:Int)) textB
  (fun i hi=>by
   have hi4:i < 4:=hi
   simp only [fn62_l0,fn62_b0]
   rw [if_pos (by simp [L];omega),xv2,show (L (some [q.Client,q.WillTopic,q.User,q.Topic]))[i]?=some ([q.Client,q.WillTopic,q.User,q.Topic][i]) from List.getElem?_eq_getElem hi]
   simp only [Option.bind_some]
   rw [xv102,xv3 (by omega)]
   simp only [Option.bind_some]
   exact nif _ _ _)
  (by simp only [fn62_l0,fn62_b0];rw [if_neg (by simp [L])])
 rw [this]
 have e4:[q.Client,q.WillTopic,q.User,q.Topic].all textB=(textB q.Client && textB q.WillTopic && textB q.User && textB q.Topic):=by simp [Bool.and_assoc]
 rw [e4]
 have d1:decide ((q.WillLoad.length:Int) ≤ 65535)=decide (q.WillLoad.length ≤ 65535):=decide_eq_decide.2 (by omega)
 have d2:decide ((q.Pass.length:Int) ≤ 65535)=decide (q.Pass.length ≤ 65535):=decide_eq_decide.2 (by omega)
 rw [d1,d2]
 cases (textB q.Client && textB q.WillTopic && textB q.User && textB q.Topic) with
 | false=>rfl
 | true =>
  simp only [Option.bind_some,if_true]
  cases decide (q.WillLoad.length ≤ 65535)<;>rfl
def sizeI (l:List fn163):Int:=if l.all okB then ((putN l).length:Int) else 0
def sectI (v:Int) (l:List fn163):Int:=if v=4 then 0 else sizeI l
theorem xv85 (l:List fn163) (hl:l.length ≤ 1000) (h:∀ x ∈ l,x.A.length ≤ 9000∧x.B.length ≤ 9000):0 ≤ sizeI l∧sizeI l ≤ 18200000:=by
 have:=xv145 l hl h
 simp only [sizeI]
 split<;>omega
theorem xv71 (v:Int) (o:Option (List fn140)) (hl:(L o).length ≤ 1000) (ht:∀ x ∈ L o,x.A.length ≤ 9000∧x.B.length ≤ 9000):fn40 v o=some (sectI v ((L o).map pR)):=by
 simp only [fn40,xv143 o hl ht,Option.bind_some,sectI,sizeI]
 by_cases hv:v=4<;>simp [hv]
def binI (s:List UInt8):Int:=2 + (s.length:Int)
theorem xv14 (s:List UInt8) (h:s.length ≤ 4000000000):fn41 s=some (binI s):=by
 simp only [fn41,binI]
 rw [xv0 (by omega) (by omega)]
def xv22 (k:Int) (l:List fn112):Int:=(l.map (fun f=>binI f.Text + if k=8 then 1 else 0)).sum
theorem xv96 (k:Int):∀ (l:List fn59) (n:Int),runL (fun (n:Int) (f:fn59)=>(.inl (n + (binI f.Text + if k=8 then 1 else 0)):Int ⊕ Int)) (fun n=>n) n l=n + xv22 k (l.map fR)
 | [],n=>by simp [runL,xv22]
 | a::l,n=>by
  simp only [runL]
  rw [xv96 k l]
  have e:xv22 k ((a::l).map fR)=(binI a.Text + if k=8 then 1 else 0) + xv22 k (l.map fR):=rfl
  rw [e];omega
theorem xv251 (k:Int) (l:List fn112) (h:∀ f ∈ l,f.Text.length ≤ 9000):0 ≤ xv22 k l∧xv22 k l ≤ 9100 * (l.length:Int):=by
 induction l with
 | nil=>simp [xv22]
 | cons a l ih =>
  have h1:=h a (by simp)
  have h2:=ih (fun f hf=>h f (by simp [hf]))
  have e:xv22 k (a::l)=(binI a.Text + if k=8 then 1 else 0) + xv22 k l:=rfl
  rw [e,List.length_cons]
  simp only [binI]
  split<;>omega
theorem xv61 (q:fn60) (h:MidP q):fn20 q=some (xv22 q.Kind ((L q.Filters).map fR)):=by
 have h3:=h.fl
 simp only [fn20]
 have:=xv24 (L q.Filters) (fn20_l0 q.Filters ((L q.Filters).length:Int) q) (fun (n:Int) i=>(n,i)) (fun (n:Int) (f:fn59)=>(.inl (n + (binI f.Text + if q.Kind=8 then 1 else 0)):Int ⊕ Int)) (fun n=>n) (fun i s=>0 ≤ s∧s ≤ 9100 * (i:Int))
  (fun s i hi hI=>by
   have hx:=h.ft _ (List.getElem_mem hi)
   simp only [fn20_l0,fn20_b0]
   rw [if_pos (by simp;omega),xv2,List.getElem?_eq_getElem hi,xv3 (by omega)]
   simp only [Option.bind_some]
   rw [xv14 _ (by omega)]
   simp only [Option.bind_some]
   have hb:binI (L q.Filters)[i].Text=2 + ((L q.Filters)[i].Text.length:Int):=rfl
   by_cases hk:q.Kind=8
   ·rw [if_pos (by simpa using hk),xv0 (x:=s + binI (L q.Filters)[i].Text) (by omega) (by omega),xv0 (by omega) (by omega),if_pos hk]
    simp only [stepL]
    rw [Int.add_assoc]
   ·rw [if_neg (by simpa using hk),xv0 (x:=s + binI (L q.Filters)[i].Text) (by omega) (by omega),if_neg hk,Int.add_zero]
    rfl)
  (fun s i hi s' hI hg=>by
   have hx:=h.ft _ (List.getElem_mem hi)
   simp only [Sum.inl.injEq] at hg
   subst hg
   have hb:binI (L q.Filters)[i].Text=2 + ((L q.Filters)[i].Text.length:Int):=rfl
   split<;>omega)
  (fun s hI=>by
   simp only [fn20_l0,fn20_b0]
   rw [if_neg (by simp)]) 0 (by omega)
 rw [this,xv96]
 simp
def codeI (v:Int) (p:fn113):Int:=if v=4∨(p.Code=0∧(L p.Props).length=0) then 0 else if (L p.Props).length=0 then 1 else 1 + sizeI (L p.Props)
theorem xv113 (v:Int) (q:fn60) (h:MidP q):fn29 v q=some (codeI v (nP q)):=by
 have h2:=h.pp
 have hpt:∀ x ∈ (L q.Props).map pR,x.A.length ≤ 9000∧x.B.length ≤ 9000:=fun x hx=>by
  obtain ⟨y,hy,rfl⟩:=List.mem_map.1 hx
  exact h.pt y hy
 have hs:=xv85 ((L q.Props).map pR) (by simpa using h2) hpt
 have e:codeI v (nP q)=if v=4∨(q.Code=0∧((L q.Props).map pR).length=0) then 0 else if ((L q.Props).map pR).length=0 then 1 else 1 + sizeI ((L q.Props).map pR):=rfl
 rw [e,List.length_map]
 have hsz:fn100 q.Props=some (sizeI ((L q.Props).map pR)):=by rw [xv143 q.Props h2 h.pt];rfl
 simp only [fn29,fn29_c0,fn29_c1,hsz,Option.bind_some]
 rw [xv0 (x:=1 + sizeI ((L q.Props).map pR)) (by omega) (by omega)]
 have hz:(((L q.Props).length:Int)=0) ↔ (L q.Props).length=0:=by omega
 by_cases hv:v=4
 ·simp [hv]
 ·by_cases hc:q.Code=0<;>by_cases hp:(L q.Props).length=0<;>simp [hv,hc,hp,hz]
def restI (v:Int) (p:fn113):Int :=
 if p.Kind=1 then 10 + sectI v (L p.Props) + binI p.Client + (if p.HasWill then sectI v (L p.WillProps) + binI p.WillTopic + binI p.WillLoad else 0) + (if p.HasUser then binI p.User else 0) + (if p.HasPass then binI p.Pass else 0)
 else if p.Kind=2 then 2 + sectI v (L p.Props)
 else if p.Kind=3 then binI p.Topic + sectI v (L p.Props) + (p.Load.length:Int) + (if p.QoS > 0 then 2 else 0)
 else if p.Kind=4∨p.Kind=5∨p.Kind=6∨p.Kind=7 then 2 + codeI v p
 else if p.Kind=8∨p.Kind=10 then 2 + sectI v (L p.Props) + xv22 p.Kind (L p.Filters)
 else if p.Kind=9∨p.Kind=11 then 2 + sectI v (L p.Props) + ((L p.Codes).length:Int)
 else if p.Kind=14∨p.Kind=15 then codeI v p
 else 0
end Go.Rv
namespace Go.Rv
structure MidQ (q:fn60):Prop extends MidP q where
 ld:q.Load.length ≤ 1000000
 ps:q.Pass.length ≤ 1000000
 wl:q.WillLoad.length ≤ 1000000
theorem MidP.ptm {q:fn60} (h:MidP q):∀ x ∈ (L q.Props).map pR,x.A.length ≤ 9000∧x.B.length ≤ 9000:=fun x hx=>by
 obtain ⟨y,hy,rfl⟩:=List.mem_map.1 hx
 exact h.pt y hy
theorem MidP.wtm {q:fn60} (h:MidP q):∀ x ∈ (L q.WillProps).map pR,x.A.length ≤ 9000∧x.B.length ≤ 9000:=fun x hx=>by
 obtain ⟨y,hy,rfl⟩:=List.mem_map.1 hx
 exact h.wt y hy
theorem MidP.ftm {q:fn60} (h:MidP q):∀ x ∈ (L q.Filters).map fR,x.Text.length ≤ 9000:=fun x hx=>by
 obtain ⟨y,hy,rfl⟩:=List.mem_map.1 hx
 exact h.ft y hy
theorem xv163 (v:Int) (l:List fn163) (hl:l.length ≤ 1000) (h:∀ x ∈ l,x.A.length ≤ 9000∧x.B.length ≤ 9000):0 ≤ sectI v l∧sectI v l ≤ 18200000:=by
 have:=xv85 l hl h
 simp only [sectI]
 split<;>omega
theorem xv231 (v:Int) (p:fn113) (hl:(L p.Props).length ≤ 1000) (h:∀ x ∈ L p.Props,x.A.length ≤ 9000∧x.B.length ≤ 9000):0 ≤ codeI v p∧codeI v p ≤ 18200001:=by
 have:=xv85 _ hl h
 simp only [codeI]
 split
 ·omega
 ·split<;>omega
theorem xv69 (v:Int) (q:fn60) (h:MidQ q):fn79 v q=some (restI v (nP q))∧restI v (nP q) ≤ 268435455∧0 ≤ restI v (nP q):=by
 have h1:=h.wp;have h2:=h.pp;have h3:=h.fl;have h4:=h.cd
 have m:=h.toMidP
 have l1:=h.cl;have l2:=h.tp;have l3:=h.wo;have l4:=h.us;have l5:=h.ld;have l6:=h.ps;have l7:=h.wl
 have s1:=xv163 v ((L q.Props).map pR) (by simpa using h2) m.ptm
 have s2:=xv163 v ((L q.WillProps).map pR) (by simpa using h1) m.wtm
 have s3:=xv231 v (nP q) (by simpa [nP,L] using h2) m.ptm
 have s4:=xv251 q.Kind ((L q.Filters).map fR) m.ftm
 rw [List.length_map] at s4
 have e:restI v (nP q)=if q.Kind=1 then 10 + sectI v ((L q.Props).map pR) + binI q.Client + (if q.HasWill then sectI v ((L q.WillProps).map pR) + binI q.WillTopic + binI q.WillLoad else 0) + (if q.HasUser then binI q.User else 0) + (if q.HasPass then binI q.Pass else 0)
  else if q.Kind=2 then 2 + sectI v ((L q.Props).map pR)
  else if q.Kind=3 then binI q.Topic + sectI v ((L q.Props).map pR) + (q.Load.length:Int) + (if q.QoS > 0 then 2 else 0)
  else if q.Kind=4∨q.Kind=5∨q.Kind=6∨q.Kind=7 then 2 + codeI v (nP q)
  else if q.Kind=8∨q.Kind=10 then 2 + sectI v ((L q.Props).map pR) + xv22 q.Kind ((L q.Filters).map fR)
  else if q.Kind=9∨q.Kind=11 then 2 + sectI v ((L q.Props).map pR) + ((L q.Codes).length:Int)
  else if q.Kind=14∨q.Kind=15 then codeI v (nP q)
  else 0:=rfl
 have b1:binI q.Client=2 + (q.Client.length:Int):=rfl
 have b2:binI q.WillTopic=2 + (q.WillTopic.length:Int):=rfl
 have b3:binI q.WillLoad=2 + (q.WillLoad.length:Int):=rfl
 have b4:binI q.User=2 + (q.User.length:Int):=rfl
 have b5:binI q.Pass=2 + (q.Pass.length:Int):=rfl
 have b6:binI q.Topic=2 + (q.Topic.length:Int):=rfl
 refine ⟨?_,?_,?_⟩
 ·rw [e]
  simp only [fn79]
  by_cases k1:q.Kind=1
  ·rw [if_pos (by simpa using k1),if_pos k1]
   have rc1:∀ x:Int,0 ≤ x->x ≤ 100000000->fn19_c1 x q (fun y=>some y)=some (x + if q.HasPass=true then binI q.Pass else 0):=by
    intro x x0 x1
    simp only [fn19_c1]
    rw [xv14 q.Pass (by omega)]
    simp only [Option.bind_some]
    split
    ·rw [xv0 (by omega) (by omega)]
    ·rw [Int.add_zero]
   have rc0:∀ x:Int,0 ≤ x->x ≤ 90000000->fn19_c0 x q (fun y=>some y)=some (x + (if q.HasUser=true then binI q.User else 0) + if q.HasPass=true then binI q.Pass else 0):=by
    intro x x0 x1
    simp only [fn19_c0]
    rw [xv14 q.User (by omega)]
    simp only [Option.bind_some]
    split
    ·rw [xv0 (by omega) (by omega),rc1 _ (by omega) (by omega)]
    ·rw [rc1 _ (by omega) (by omega),Int.add_zero]
   simp only [fn19]
   rw [xv71 v q.Props h2 h.pt]
   simp only [Option.bind_some]
   rw [xv14 q.Client (by omega)]
   simp only [Option.bind_some]
   rw [xv71 v q.WillProps h1 h.wt]
   simp only [Option.bind_some]
   rw [xv14 q.WillTopic (by omega),xv14 q.WillLoad (by omega)]
   simp only [Option.bind_some]
   rw [xv0 (x:=10 + sectI v ((L q.Props).map pR)) (by omega) (by omega),xv0 (x:=10 + sectI v ((L q.Props).map pR) + binI q.Client) (by omega) (by omega)]
   by_cases hw:q.HasWill=true
   ·rw [if_pos hw,if_pos hw,xv0 (x:=sectI v ((L q.WillProps).map pR) + binI q.WillTopic) (by omega) (by omega),xv0 (x:=sectI v ((L q.WillProps).map pR) + binI q.WillTopic + binI q.WillLoad) (by omega) (by omega),xv0 (by omega) (by omega),rc0 _ (by omega) (by omega)];rfl
   ·rw [if_neg hw,if_neg hw,rc0 _ (by omega) (by omega),Int.add_zero];rfl
  ·rw [if_neg (by simpa using k1),if_neg k1]
   by_cases k2:q.Kind=2
   ·rw [if_pos (by simpa using k2),if_pos k2,xv71 v q.Props h2 h.pt]
    simp only [Option.bind_some]
    rw [xv0 (by omega) (by omega)]
   ·rw [if_neg (by simpa using k2),if_neg k2]
    by_cases k3:q.Kind=3
    ·rw [if_pos (by simpa using k3),if_pos k3,xv14 q.Topic (by omega)]
     simp only [Option.bind_some]
     rw [xv71 v q.Props h2 h.pt]
     simp only [Option.bind_some]
     rw [xv0 (x:=binI q.Topic + sectI v ((L q.Props).map pR)) (by omega) (by omega),xv0 (x:=binI q.Topic + sectI v ((L q.Props).map pR) + (q.Load.length:Int)) (by omega) (by omega),xv0 (x:=binI q.Topic + sectI v ((L q.Props).map pR) + (q.Load.length:Int) + 2) (by omega) (by omega)]
     by_cases hq:q.QoS > 0
     ·rw [if_pos (by simpa using hq),if_pos hq]
     ·rw [if_neg (by simpa using hq),if_neg hq,Int.add_zero]
    ·rw [if_neg (by simpa using k3),if_neg k3]
     simp only [fn79_c0,fn79_c1,fn79_c2,fn79_c3]
     rw [show fn29 v (⟨q.Kind,q.Dup,q.Retain,q.QoS,q.Id,q.Clean,q.Keep,q.Client,q.HasWill,q.HasUser,q.HasPass,q.WillQoS,q.WillRetain,q.WillProps,q.WillTopic,q.WillLoad,q.User,q.Pass,q.Present,q.Code,q.Topic,q.Load,q.Filters,q.Codes,q.Props⟩:fn60)=some (codeI v (nP q)) from xv113 v q m,
      show fn20 (⟨q.Kind,q.Dup,q.Retain,q.QoS,q.Id,q.Clean,q.Keep,q.Client,q.HasWill,q.HasUser,q.HasPass,q.WillQoS,q.WillRetain,q.WillProps,q.WillTopic,q.WillLoad,q.User,q.Pass,q.Present,q.Code,q.Topic,q.Load,q.Filters,q.Codes,q.Props⟩:fn60)=some (xv22 q.Kind ((L q.Filters).map fR)) from xv61 q m,
      xv71 v q.Props h2 h.pt]
     simp only [Option.bind_some]
     rw [xv0 (x:=2 + codeI v (nP q)) (by omega) (by omega),xv0 (x:=2 + sectI v ((L q.Props).map pR)) (by omega) (by omega),xv0 (x:=2 + sectI v ((L q.Props).map pR) + xv22 q.Kind ((L q.Filters).map fR)) (by omega) (by omega),xv0 (x:=2 + sectI v ((L q.Props).map pR) + ((L q.Codes).length:Int)) (by omega) (by omega)]
     by_cases k4:q.Kind=4
     ·simp [k4]
     ·by_cases k5:q.Kind=5
      ·simp [k5]
      ·by_cases k6:q.Kind=6
       ·simp [k6]
       ·by_cases k7:q.Kind=7
        ·simp [k7]
        ·by_cases k8:q.Kind=8
         ·simp [k8]
         ·by_cases k10:q.Kind=10
          ·simp [k10]
          ·by_cases k9:q.Kind=9
           ·simp [k9]
           ·by_cases k11:q.Kind=11
            ·simp [k11]
            ·by_cases k14:q.Kind=14
             ·simp [k14]
             ·by_cases k15:q.Kind=15
              ·simp [k15]
              ·simp [k4,k5,k6,k7,k8,k9,k10,k11,k14,k15]
 ·rw [e]
  repeat (split;(try (split<;>split<;>split))<;>(try split)<;>omega)
  omega
 ·rw [e]
  repeat (split;(try (split<;>split<;>split))<;>(try split)<;>omega)
  omega
def verB (v k:Int):Bool:=(decide (v=4) || decide (v=5)) && decide (1 ≤ k) && decide (k ≤ 15) && !(decide (v=4) && decide (k=15))
def xv6 (v:Int) (p:fn113):Bool :=
 verB v p.Kind && decide (p=bareN p) && xv12 p && !(decide (v=4) && decide ((L p.Props).length + (L p.WillProps).length > 0)) && xv7 p.Kind (L p.Props) && xv7 16 (L p.WillProps) && ownN v p
theorem xv153 (v:Int) (q:fn60) (h:MidQ q):fn68 v q=some (xv6 v (nP q)):=by
 have h1:=h.wp;have h2:=h.pp
 have m:=h.toMidP
 obtain ⟨b,hb1,hb2⟩:=xv263 q
 obtain ⟨r1,r2,r3⟩:=xv69 v q h
 have c3:fn68_c3 v q (fun x=>some x)=some (xv7 q.Kind ((L q.Props).map pR) && xv7 16 ((L q.WillProps).map pR) && ownN v (nP q)):=by
  simp only [fn68_c3]
  rw [xv93 _ _ (by omega) h.pt]
  simp only [Option.bind_some]
  rw [xv93 _ _ (by omega) h.wt]
  simp only [Option.bind_some]
  rw [xv324 v q m]
  simp only [Option.bind_some]
  rw [show fn79 v (⟨q.Kind,q.Dup,q.Retain,q.QoS,q.Id,q.Clean,q.Keep,q.Client,q.HasWill,q.HasUser,q.HasPass,q.WillQoS,q.WillRetain,q.WillProps,q.WillTopic,q.WillLoad,q.User,q.Pass,q.Present,q.Code,q.Topic,q.Load,q.Filters,q.Codes,q.Props⟩:fn60)=_ from r1]
  simp only [Option.bind_some]
  rw [decide_eq_true r2]
  cases xv7 q.Kind ((L q.Props).map pR)<;>cases xv7 16 ((L q.WillProps).map pR)<;>cases ownN v (nP q)<;>rfl
 have hs:fn74 (⟨q.Kind,q.Dup,q.Retain,q.QoS,q.Id,q.Clean,q.Keep,q.Client,q.HasWill,q.HasUser,q.HasPass,q.WillQoS,q.WillRetain,q.WillProps,q.WillTopic,q.WillLoad,q.User,q.Pass,q.Present,q.Code,q.Topic,q.Load,q.Filters,q.Codes,q.Props⟩:fn60) b=some (decide (nP q=bareN (nP q))):=by
  rw [← hb2];exact xv297 q b m.toFewP
 have c1:∀ z:Bool,fn68_c1 v z q (some false) (fn68_c3 v q (fun x=>some x))=some (!z && (decide (nP q=bareN (nP q)) && xv12 (nP q) && !(decide (v=4) && decide ((L q.Props).length + (L q.WillProps).length > 0)) && (xv7 q.Kind ((L q.Props).map pR) && xv7 16 ((L q.WillProps).map pR) && ownN v (nP q)))):=by
  intro z
  rw [c3]
  simp only [fn68_c1,fn68_c2,hb1,Option.bind_some]
  rw [show fn74 (⟨q.Kind,q.Dup,q.Retain,q.QoS,q.Id,q.Clean,q.Keep,q.Client,q.HasWill,q.HasUser,q.HasPass,q.WillQoS,q.WillRetain,q.WillProps,q.WillTopic,q.WillLoad,q.User,q.Pass,q.Present,q.Code,q.Topic,q.Load,q.Filters,q.Codes,q.Props⟩:fn60) (⟨b.Kind,b.Dup,b.Retain,b.QoS,b.Id,b.Clean,b.Keep,b.Client,b.HasWill,b.HasUser,b.HasPass,b.WillQoS,b.WillRetain,b.WillProps,b.WillTopic,b.WillLoad,b.User,b.Pass,b.Present,b.Code,b.Topic,b.Load,b.Filters,b.Codes,b.Props⟩:fn60)=_ from hs]
  rw [show fn62 (⟨q.Kind,q.Dup,q.Retain,q.QoS,q.Id,q.Clean,q.Keep,q.Client,q.HasWill,q.HasUser,q.HasPass,q.WillQoS,q.WillRetain,q.WillProps,q.WillTopic,q.WillLoad,q.User,q.Pass,q.Present,q.Code,q.Topic,q.Load,q.Filters,q.Codes,q.Props⟩:fn60)=_ from xv260 q]
  simp only [Option.bind_some]
  rw [xv0 (x:=((L q.Props).length:Int) + ((L q.WillProps).length:Int)) (by omega) (by omega)]
  have hd:decide ((((L q.Props).length:Int) + ((L q.WillProps).length:Int)) > 0)=decide ((L q.Props).length + (L q.WillProps).length > 0):=decide_eq_decide.2 (by omega)
  rw [hd]
  generalize (xv7 q.Kind ((L q.Props).map pR) && xv7 16 ((L q.WillProps).map pR) && ownN v (nP q))=w
  generalize decide ((L q.Props).length + (L q.WillProps).length > 0)=y
  generalize decide (nP q=bareN (nP q))=s
  generalize xv12 (nP q)=t
  generalize decide (v=4)=f
  cases z<;>cases s<;>cases t<;>cases f<;>cases y<;>cases w<;>rfl
 have e:xv6 v (nP q)=(verB v q.Kind && (decide (nP q=bareN (nP q)) && xv12 (nP q) && !(decide (v=4) && decide ((L q.Props).length + (L q.WillProps).length > 0)) && (xv7 q.Kind ((L q.Props).map pR) && xv7 16 ((L q.WillProps).map pR) && ownN v (nP q)))):=by
  have e1:xv6 v (nP q)=(verB v q.Kind && decide (nP q=bareN (nP q)) && xv12 (nP q) && !(decide (v=4) && decide (((L q.Props).map pR).length + ((L q.WillProps).map pR).length > 0)) && xv7 q.Kind ((L q.Props).map pR) && xv7 16 ((L q.WillProps).map pR) && ownN v (nP q)):=rfl
  rw [e1,List.length_map,List.length_map]
  simp only [Bool.and_assoc]
 rw [e]
 simp only [fn68,fn68_c0,c1]
 generalize (decide (nP q=bareN (nP q)) && xv12 (nP q) && !(decide (v=4) && decide ((L q.Props).length + (L q.WillProps).length > 0)) && (xv7 q.Kind ((L q.Props).map pR) && xv7 16 ((L q.WillProps).map pR) && ownN v (nP q)))=w
 simp only [verB]
 by_cases v4:v=4
 ·by_cases ka:q.Kind < 1
  ·simp [v4,ka,show ¬ 1 ≤ q.Kind by omega]
  ·by_cases kb:q.Kind > 15
   ·simp [v4,ka,kb,show ¬ q.Kind ≤ 15 by omega]
   ·by_cases kc:q.Kind=15
    ·simp [v4,kc]
    ·simp [v4,ka,kb,kc,show 1 ≤ q.Kind by omega,show q.Kind ≤ 15 by omega]
 ·by_cases v5:v=5
  ·by_cases ka:q.Kind < 1
   ·simp [v5,ka,show ¬ 1 ≤ q.Kind by omega]
   ·by_cases kb:q.Kind > 15
    ·simp [v5,ka,kb,show ¬ q.Kind ≤ 15 by omega]
    ·simp [v5,ka,kb,show 1 ≤ q.Kind by omega,show q.Kind ≤ 15 by omega]
  ·simp [v4,v5]
end Go.Rv
namespace Go.Rv
theorem xv18:good []=true:=by kernel_rfl
theorem xv193:textB []=true:=by simp [textB,xv18]
end Go.Rv
namespace Go.Rv
theorem FewR.ptm {p:fn113} (h:FewR p):∀ x ∈ L p.Props,x.A.length ≤ 9000∧x.B.length ≤ 9000:=fun x hx=>by have:=h.pt x hx;omega
theorem FewR.wtm {p:fn113} (h:FewR p):∀ x ∈ L p.WillProps,x.A.length ≤ 9000∧x.B.length ≤ 9000:=fun x hx=>by have:=h.wt x hx;omega
theorem FewR.ftm {p:fn113} (h:FewR p):∀ x ∈ L p.Filters,x.Text.length ≤ 9000:=fun x hx=>by have:=h.ft x hx;omega
structure MidR (p:fn113):Prop where
 wp:(L p.WillProps).length ≤ 1000
 pp:(L p.Props).length ≤ 1000
 fl:(L p.Filters).length ≤ 1000
 cd:(L p.Codes).length ≤ 100000
 ft:∀ f ∈ L p.Filters,f.Text.length ≤ 9000
 pt:∀ x ∈ L p.Props,x.A.length ≤ 9000∧x.B.length ≤ 9000
 wt:∀ x ∈ L p.WillProps,x.A.length ≤ 9000∧x.B.length ≤ 9000
 cl:p.Client.length ≤ 9000
 tp:p.Topic.length ≤ 9000
 wo:p.WillTopic.length ≤ 9000
 us:p.User.length ≤ 9000
 ld:p.Load.length ≤ 1000000
 ps:p.Pass.length ≤ 1000000
 wl:p.WillLoad.length ≤ 1000000
theorem FewR.mid {p:fn113} (h:FewR p):MidR p:=by
 have h0:=h.tx;have h1:=h.wp;have h2:=h.pp;have h3:=h.fl
 exact ⟨by omega,by omega,by omega,by omega,h.ftm,h.ptm,h.wtm,by omega,by omega,by omega,by omega,by omega,by omega,by omega⟩
theorem MidR.toQ {p:fn113} (h:MidR p):MidQ (toP p):=by
 have h1:=h.wp;have h2:=h.pp;have h3:=h.fl;have h4:=h.cd
 have pm:∀ o:Option (List fn163),(∀ x ∈ L o,x.A.length ≤ 9000∧x.B.length ≤ 9000)->∀ x ∈ L (mapO pQ o),x.A.length ≤ 9000∧x.B.length ≤ 9000:=fun o ho x hx=>by
  rw [xv108] at hx
  obtain ⟨y,hy,rfl⟩:=List.mem_map.1 hx
  exact ho y hy
 refine ⟨⟨⟨?_,?_,?_,?_⟩,?_,?_,?_,h.cl,h.tp,h.wo,h.us⟩,h.ld,h.ps,h.wl⟩
 ·show (L (mapO pQ p.WillProps)).length ≤ 1000;rw [xv108,List.length_map];omega
 ·show (L (mapO pQ p.Props)).length ≤ 1000;rw [xv108,List.length_map];omega
 ·show (L (mapO fQ p.Filters)).length ≤ 1000;rw [xv108,List.length_map];omega
 ·exact h4
 ·intro f hf
  have hf:f ∈ L (mapO fQ p.Filters):=hf
  rw [xv108] at hf
  obtain ⟨y,hy,rfl⟩:=List.mem_map.1 hf
  exact h.ft y hy
 ·exact pm p.Props h.pt
 ·exact pm p.WillProps h.wt
end Go.Rv
namespace Go.Rv
theorem toEq (p:fn113) (h:FewR p):l07_To p=some (toP p):=by
 have h1:=h.wp;have h2:=h.pp;have h3:=h.fl;have h4:=h.tx
 exact to_eq p (by omega) (by omega) (by omega) (by omega)
end Go.Rv
namespace Go.Rv
end Go.Rv
namespace Go.Rv
abbrev SrtP (l:List fn163):Prop:=l.Pairwise (fun a b=>a.Id ≤ b.Id)
theorem xv164 {α:Type}:∀ (p:List α) (y z:α) (t:List α),setR (p++y::t) p.length z=p++z::t
 | [],_,_,_=>rfl
 | a::p,y,z,t=>by simp only [List.cons_append,List.length_cons,setR];rw [xv164 p]
theorem xv302 {α:Type} {l:List α} {k:Nat} (h:l.length=k + 1):∃ l' z,l=l'++[z]∧l'.length=k:=by
 have hne:l ≠ []:=by intro e;rw [e] at h;simp at h
 exact ⟨l.dropLast,l.getLast hne,(List.dropLast_concat_getLast hne).symm,by rw [List.length_dropLast];omega⟩
theorem xv280 (n:Nat) (hn:n ≤ 100000):∀ (k:Nat) (pre:List fn163) (y:fn163) (seg rest:List fn163),pre.length=k->(pre++y::(seg++rest)).length=n->SrtP (pre++seg)->(∀ s ∈ seg,y.Id < s.Id) ->
 ∃ l',iter (fn111_l1 n) ((k:Int),pre++y::(seg++rest))=some (l'++rest)∧SrtP l'∧l'.Perm (pre++y::seg)
 | 0,pre,y,seg,rest,hk,hl,hs,hy=>by
  have:pre=[]:=List.length_eq_zero_iff.1 hk
  subst this
  refine ⟨y::seg,?_,List.pairwise_cons.2 ⟨fun s h=>UInt8.le_of_lt (hy s h),by simpa using hs⟩,by simp⟩
  rw [yv700]
  simp only [fn111_l1,fn111_b1]
  rw [if_neg (by simp)]
  simp
 | k + 1,pre,y,seg,rest,hk,hl,hs,hy=>by
  obtain ⟨pre,z,rfl,hk'⟩:=xv302 hk
  have hlen:k + 1 + (1 + seg.length + rest.length)=n:=by simp only [List.length_append,List.length_cons,List.length_nil] at hl;omega
  have e1:w64 (((k + 1:Nat):Int) - 1)=(k:Int):=by rw [xv0 (by omega) (by omega)];omega
  have g1:((pre++[z])++y::(seg++rest))[k]?=some z:=by rw [List.append_assoc,← hk'];simp
  have g2:((pre++[z])++y::(seg++rest))[k + 1]?=some y:=by rw [← hk];simp
  have s1:setR ((pre++[z])++y::(seg++rest)) k y=pre++y::(y::(seg++rest)):=by rw [List.append_assoc,← hk'];exact xv164 _ _ _ _
  have s2:setR (pre++y::(y::(seg++rest))) (k + 1) z=pre++y::(z::seg++rest):=by
   have:=xv164 (pre++[y]) y z (seg++rest)
   rw [show (pre++[y]).length=k + 1 by simp [hk']] at this
   simpa using this
  have g3:(pre++y::(y::(seg++rest)))[k + 1]?=some y:=by
   have:(pre++[y]++y::(seg++rest))[(pre++[y]).length]?=some y:=by simp
   rw [show (pre++[y]).length=k + 1 by simp [hk']] at this
   simpa using this
  have c1:chk (decide (0 ≤ (k:Int)∧(k:Int) < ((n:Nat):Int)))=some ():=chk_d ⟨by omega,by omega⟩
  have c2:chk (decide (0 ≤ ((k + 1:Nat):Int)∧((k + 1:Nat):Int) < ((n:Nat):Int)))=some ():=chk_d ⟨by omega,by omega⟩
  have hpz:SrtP (pre++z::seg):=by simpa using hs
  rw [yv700]
  simp only [fn111_l1,fn111_b1,e1,c1,c2,xv2,Int.toNat_natCast,g1,g2,s1,Option.bind_some]
  rw [if_pos (by rw [decide_eq_true_eq];omega)]
  by_cases hz:z.Id > y.Id
  ·rw [if_pos (decide_eq_true hz)]
   simp only [g3,s2,Option.bind_some]
   obtain ⟨l',h1,h2,h3⟩:=xv280 n hn k pre y (z::seg) rest hk' (by simp only [List.length_append,List.length_cons];omega) hpz (fun s h=>by
    rcases List.mem_cons.1 h with rfl|h
    ·exact hz
    ·exact hy s h)
   refine ⟨l',h1,h2,h3.trans ?_⟩
   rw [List.append_assoc]
   exact List.Perm.append_left _ (List.Perm.swap _ _ _)
  ·rw [if_neg (by simpa using hz)]
   refine ⟨(pre++[z])++y::seg,by simp,?_,List.Perm.refl _⟩
   have hzy:z.Id ≤ y.Id:=UInt8.not_lt.1 hz
   rw [List.append_assoc]
   obtain ⟨p1,p2,p3⟩:=List.pairwise_append.1 hpz
   obtain ⟨p4,p5⟩:=List.pairwise_cons.1 p2
   refine List.pairwise_append.2 ⟨p1,List.pairwise_cons.2 ⟨fun b hb=>?_,List.pairwise_cons.2 ⟨fun s h=>UInt8.le_of_lt (hy s h),p5⟩⟩,fun a ha b hb=>?_⟩
   ·rcases List.mem_cons.1 hb with rfl|hb
    ·exact hzy
    ·exact p4 b hb
   ·have haz:=p3 a ha z (by simp)
    rcases List.mem_cons.1 hb with rfl|hb
    ·exact haz
    ·rcases List.mem_cons.1 hb with rfl|hb
     ·exact UInt8.le_trans haz hzy
     ·exact p3 a ha b (by simp [hb])
theorem xv209 (n:Nat) (hn:n ≤ 100000):∀ (rest srt:List fn163),SrtP srt->(srt++rest).length=n ->
 ∃ l',iter (fn111_l0 n) ((srt.length:Int),srt++rest)=some l'∧SrtP l'∧l'.Perm (srt++rest)
 | [],srt,hs,hl=>by
  refine ⟨srt,?_,hs,by simp⟩
  rw [yv700]
  simp only [fn111_l0,fn111_b0]
  rw [if_neg (by simp at hl;simp [hl])]
  simp
 | y::rest,srt,hs,hl=>by
  obtain ⟨l',h1,h2,h3⟩:=xv280 n hn srt.length srt y [] rest rfl (by simpa using hl) (by simpa using hs) (by simp)
  have hlen:=h3.length_eq
  simp only [List.length_append,List.length_cons,List.length_nil] at hlen hl
  obtain ⟨l'',k1,k2,k3⟩:=xv209 n hn rest l' h2 (by simp only [List.length_append];omega)
  refine ⟨l'',?_,k2,k3.trans ?_⟩
  ·rw [yv700]
   simp only [fn111_l0,fn111_b0]
   rw [if_pos (by rw [decide_eq_true_eq];omega)]
   simp only [List.nil_append] at h1
   rw [h1]
   simp only [Option.bind_some]
   rw [xv3 (by omega),show srt.length + 1=l'.length by omega]
   exact k1
  ·have:=List.Perm.append_right rest h3
   simpa using this
theorem xv155 (o:Option (List fn163)) (h:(L o).length ≤ 1000):∃ l',fn161 o=some (some l')∧SrtP l'∧l'.Perm (L o):=by
 by_cases he:L o=[]
 ·refine ⟨[],?_,List.Pairwise.nil,by rw [he]⟩
  have e0:(L o).isEmpty=true:=by rw [he];rfl
  simp only [fn161,e0,cond_true,fn110]
  have ha:appO 40 (some []) o=some (some ([]:List fn163)):=by
   simp only [appO,he]
   rw [if_pos (by simp [room])]
   rfl
  rw [ha]
  simp only [Option.bind_some]
  rw [yv700]
  simp only [fn110_l0,fn110_b0]
  rw [if_neg (by simp)]
  rfl
 ·have e0:(L o).isEmpty=false:=by
   cases hl:L o with
   | nil=>exact absurd hl he
   | cons a l=>rfl
  simp only [fn161,e0,cond_false,fn111]
  rw [chk_d ⟨by unfold room;omega,by unfold room;omega⟩]
  obtain ⟨y,l,hl⟩:=List.exists_cons_of_ne_nil he
  obtain ⟨l',h1,h2,h3⟩:=xv209 (L o).length (by omega) l [y] (by simp) (by rw [hl];simp)
  have hlen:=h3.length_eq
  simp only [Option.bind_some]
  have h1':iter (fn111_l0 (L o).length) (1,L o)=some l':=by
   have:=h1
   rw [show ([y]:List fn163)++l=L o from hl.symm] at this
   exact this
  rw [h1']
  have hl2:l'.length=(L o).length:=by rw [hl];simpa using hlen
  simp only [Option.bind_some]
  rw [chk_d ⟨by rw [hl];simp,by omega⟩]
  refine ⟨l',?_,h2,by rw [hl];simpa using h3⟩
  simp only [Option.bind_some]
  rw [← hl2,List.take_length]
end Go.Rv
namespace Go.Rv
open Go.Lib
def SG:List (List UInt8):=[[97],[98],[97,98],[195,164],[226,130,172],[240,159,153,130],[49],[99]]
inductive Sg:Nat->List UInt8->Prop
 | nil:Sg 0 []
 | cons (w t:List UInt8) (n:Nat) (hw:w ∈ SG) (h:Sg n t):Sg (n + 1) (w++t)
theorem Sg.snoc:∀ {n:Nat} {l:List UInt8},Sg n l->∀ w,w ∈ SG->Sg (n + 1) (l++w)
 | _,_,.nil,w,hw=>by have:=Sg.cons w [] 0 hw .nil;simpa using this
 | _,_,.cons v t n hv h,w,hw=>by rw [List.append_assoc];exact .cons v (t++w) _ hv (h.snoc w hw)
theorem Sg.app {n:Nat} {l:List UInt8} (h:Sg n l):∀ {m:Nat} {r:List UInt8},Sg m r->Sg (n + m) (l++r):=by
 induction h with
 | nil=>intro m r k;simpa using k
 | cons v t n hv h ih=>intro m r k;rw [List.append_assoc,show n + 1 + m=n + m + 1 by omega];exact .cons v _ _ hv (ih k)
theorem xv257 (w:List UInt8) (h:w ∈ SG):1 ≤ w.length∧w.length ≤ 4:=by
 simp only [SG,List.mem_cons,List.mem_nil_iff,or_false] at h
 rcases h with rfl|rfl|rfl|rfl|rfl|rfl|rfl|rfl<;>decide
theorem Sg.len:∀ {n:Nat} {l:List UInt8},Sg n l->l.length ≤ 4 * n
 | _,_,.nil=>by simp
 | _,_,.cons w t n hw h=>by have:=h.len;have:=xv257 w hw;simp;omega
theorem xv34 (c:UInt8) (t:List UInt8) (k:Nat) (h:sgn (c::t)=k + 1):good (c::t)=good (t.drop k):=by
 rw [xv47,h,if_neg (by omega)];rfl
theorem xv30 (c:UInt8) (t:List UInt8) (h:128 ≤ c.toNat) (h2:c.toNat < 192):good (c::t)=false:=by
 have:sgn (c::t)=0:=by simp only [sgn];rw [if_neg (by omega),if_neg (by omega),if_neg (by omega),if_pos h]
 rw [xv47,if_pos this]
theorem xv8 (c:UInt8) (t:List UInt8) (h:c.toNat < 128) (h0:c.toNat ≠ 0):good (c::t)=good t:=by
 have:sgn (c::t)=0 + 1:=by
  simp only [sgn];rw [if_neg (by omega),if_neg (by omega),if_neg (by omega),if_neg (by omega),restS,if_neg (by omega)]
 rw [xv34 c t 0 this];rfl
theorem xv55 (w t:List UInt8) (hw:w ∈ SG):good (w++t)=good t:=by
 simp only [SG,List.mem_cons,List.mem_nil_iff,or_false] at hw
 rcases hw with rfl|rfl|rfl|rfl|rfl|rfl|rfl|rfl
 ·exact xv8 _ _ (by decide) (by decide)
 ·exact xv8 _ _ (by decide) (by decide)
 ·exact (xv8 _ _ (by decide) (by decide)).trans (xv8 _ _ (by decide) (by decide))
 ·exact xv34 _ _ 1 (by simp [sgn,contN,restN])
 ·exact xv34 _ _ 2 (by simp [sgn,contN,restN])
 ·exact xv34 _ _ 3 (by simp [sgn,contN,restN])
 ·exact xv8 _ _ (by decide) (by decide)
 ·exact xv8 _ _ (by decide) (by decide)
theorem Sg.good:∀ {n:Nat} {l:List UInt8},Sg n l->Rv.good l=true
 | _,_,.nil=>xv18
 | _,_,.cons w t n hw h=>by rw [xv55 w t hw];exact h.good
def lead (c:UInt8):Bool:=decide (c.toNat < 128) || decide (192 ≤ c.toNat)
theorem xv234 (w t:List UInt8) (hw:w ∈ SG) (ht:Rv.good t=true) (k:Nat) (hk:k < w.length) (c:UInt8) (hc:w[k]?=some c):Rv.good (w.take k)=lead c∧Rv.good (w.drop k++t)=lead c:=by
 have hg:=xv55 w t hw
 have two:∀ (a b:UInt8),Rv.good ((a::b::t))=Rv.good (a::b::t):=fun _ _=>rfl
 have hk4:=(xv257 w hw).2
 simp only [SG,List.mem_cons,List.mem_nil_iff,or_false] at hw
 have g0:=xv18
 have ga:Rv.good [97]=true:=by kernel_rfl
 have b1:Rv.good [195]=false:=by kernel_rfl
 have b2:Rv.good [226]=false:=by kernel_rfl
 have b3:Rv.good [226,130]=false:=by kernel_rfl
 have b4:Rv.good [240]=false:=by kernel_rfl
 have b5:Rv.good [240,159]=false:=by kernel_rfl
 have b6:Rv.good [240,159,153]=false:=by kernel_rfl
 have gb:Rv.good (98::t)=true:=(xv8 98 t (by decide) (by decide)).trans ht
 match k,hk4 with
 | 0,_ =>
  rw [List.take_zero,List.drop_zero,hg,ht,g0]
  rcases hw with rfl|rfl|rfl|rfl|rfl|rfl|rfl|rfl<;>(cases hc;exact ⟨rfl,rfl⟩)
 | 1,_ =>
  rcases hw with rfl|rfl|rfl|rfl|rfl|rfl|rfl|rfl
  ·simp at hk
  ·simp at hk
  ·cases hc;exact ⟨ga,gb⟩
  ·cases hc;exact ⟨b1,xv30 _ _ (by decide) (by decide)⟩
  ·cases hc;exact ⟨b2,xv30 _ _ (by decide) (by decide)⟩
  ·cases hc;exact ⟨b4,xv30 _ _ (by decide) (by decide)⟩
  ·simp at hk
  ·simp at hk
 | 2,_ =>
  rcases hw with rfl|rfl|rfl|rfl|rfl|rfl|rfl|rfl
  ·simp at hk
  ·simp at hk
  ·simp at hk
  ·simp at hk
  ·cases hc;exact ⟨b3,xv30 _ _ (by decide) (by decide)⟩
  ·cases hc;exact ⟨b5,xv30 _ _ (by decide) (by decide)⟩
  ·simp at hk
  ·simp at hk
 | 3,_ =>
  rcases hw with rfl|rfl|rfl|rfl|rfl|rfl|rfl|rfl
  ·simp at hk
  ·simp at hk
  ·simp at hk
  ·simp at hk
  ·simp at hk
  ·cases hc;exact ⟨b6,xv30 _ _ (by decide) (by decide)⟩
  ·simp at hk
  ·simp at hk
 | k + 4,h4=>omega
end Go.Rv
namespace Go.Rv
open Go.Lib
theorem Sg.cut {n:Nat} {l:List UInt8} (h:Sg n l):∀ (k:Nat) (c:UInt8),l[k]?=some c->Rv.good (l.take k)=lead c∧Rv.good (l.drop k)=lead c:=by
 induction h with
 | nil=>intro k c hc;simp at hc
 | cons w t n hw h ih =>
  intro k c hc
  by_cases hk:k < w.length
  ·rw [List.getElem?_append_left hk] at hc
   have:=xv234 w t hw h.good k hk c hc
   rw [List.take_append_of_le_length (by omega),List.drop_append_of_le_length (by omega)]
   exact this
  ·rw [List.getElem?_append_right (by omega)] at hc
   have:=ih (k - w.length) c hc
   rw [List.take_append,List.drop_append,List.take_of_length_le (by omega),List.drop_of_length_le (by omega),List.nil_append,xv55 w _ hw]
   exact this
def fixL:Option (List (List UInt8)):=some [[97],[98],[97,98],[195,164],[226,130,172],[240,159,153,130],[49],[99]]
theorem xv237 (s:List UInt8):∀ (f i n:Nat) (o:List UInt8),f + i=8->n ≤ i->Sg n o->∃ m q,m ≤ 8∧Sg m q∧iter (fn176_l0 s fixL) (o,(i:Int))=some q:=by
 intro f
 induction f with
 | zero =>
  intro i n o hi hn ho
  refine ⟨n,o,by omega,ho,?_⟩
  rw [yv700]
  simp only [fn176_l0,fn176_b0]
  by_cases h:i < s.length
  ·rw [if_pos (by simp;omega),if_neg (by simp;omega)]
  ·rw [if_neg (by simp;omega)]
 | succ f ih =>
  intro i n o hi hn ho
  by_cases h:i < s.length
  ·have hc:=s[i].toNat_lt
   have hm:s[i].toNat % 8 < fixL.get!.length:=by
    show _ < 8;omega
   have hw:fixL.get![s[i].toNat % 8] ∈ SG:=by
    have:=List.getElem_mem hm
    exact this
   obtain ⟨m,q,h1,h2,h3⟩:=ih (i + 1) (n + 1) (o++fixL.get![s[i].toNat % 8]) (by omega) (by omega) (ho.snoc _ hw)
   refine ⟨m,q,h1,h2,?_⟩
   rw [yv700]
   simp only [fn176_l0,fn176_b0]
   have e0:w64 (s[i].toNat:Int)=(s[i].toNat:Int):=xv0 (by omega) (by omega)
   have e8:((L fixL).length:Int)=8:=rfl
   have e1:((s[i].toNat:Int)).tmod 8=((s[i].toNat % 8:Nat):Int):=by
    rw [Int.tmod_eq_emod_of_nonneg (by omega)];simp
   have e2:ix (L fixL) ((s[i].toNat % 8:Nat):Int)=some (fixL.get![s[i].toNat % 8]):=by
    rw [xv2];exact List.getElem?_eq_getElem hm
   have ew:w64 ((i:Int) + 1)=((i + 1:Nat):Int):=by rw [xv0 (by omega) (by omega)];simp
   have hl:=ho.len
   have hl2:=(xv257 _ hw).2
   rw [if_pos (by simp;omega),if_pos (by simp;omega),xv2,List.getElem?_eq_getElem h,Option.bind_some,e8,e0,e1]
   rw [show chk (decide ((8:Int) ≠ 0))=some () from rfl,Option.bind_some,e2,Option.bind_some]
   simp only [catS]
   rw [if_pos (by omega),Option.bind_some,ew]
   exact h3
  ·refine ⟨n,o,by omega,ho,?_⟩
   rw [yv700]
   simp only [fn176_l0,fn176_b0]
   rw [if_neg (by simp;omega)]
theorem xv110 (s:List UInt8):∃ m q,m ≤ 8∧Sg m q∧fn176 s=some q:=by
 obtain ⟨m,q,h1,h2,h3⟩:=xv237 s 8 0 0 [] rfl (Nat.le_refl _) .nil
 refine ⟨m,q,h1,h2,?_⟩
 simp only [fn176]
 rw [show (((0:Nat):Int))=0 from rfl] at h3
 have:iter (fn176_l0 s (some [[97],[98],[97,98],[195,164],[226,130,172],[240,159,153,130],[49],[99]])) ([],0)=some q:=h3
 rw [this];rfl
end Go.Rv
namespace Go.Rv
theorem xv90 (s:List UInt8) (k:Nat) (hk:k ≤ 1000):slc s 0 (imin (s.length:Int) (k:Int))=some (s.take k):=by
 have e:imin (s.length:Int) (k:Int)=((min s.length k:Nat):Int):=by
  simp only [imin];split<;>omega
 have:=xv39 (l:=s) (a:=0) (b:=min s.length k) (by omega) (by omega)
 rw [show ((0:Nat):Int)=0 from rfl,List.drop_zero] at this
 rw [e,this]
 rcases Nat.le_total s.length k with h|h
 ·rw [Nat.min_eq_left h,List.take_length,List.take_of_length_le h]
 ·rw [Nat.min_eq_right h]
end Go.Rv
namespace Go.Rv
open Go.Lib
theorem xv43 (b:List UInt8):∀ (k n:Nat) (t:List UInt8),k ≤ t.length->contN k n (t++b)=contN k n t
 | 0,n,t,h=>rfl
 | k + 1,n,[],h=>by simp at h
 | k + 1,n,c::t,h=>by
  simp only [List.cons_append,contN]
  split
  ·exact xv43 b k _ t (by simpa using h)
  ·rfl
theorem xv298 (l b:List UInt8) (h:sgn l ≠ 0):sgn (l++b)=sgn l:=by
 cases l with
 | nil=>exact absurd rfl h
 | cons c t =>
  simp only [List.cons_append,sgn,List.length_append] at h ⊢
  by_cases h1:240 ≤ c.toNat
  ·rw [if_pos h1] at h ⊢
   rw [if_pos h1]
   by_cases h2:248 ≤ c.toNat∨t.length < 3
   ·rw [if_pos h2] at h;exact absurd rfl h
   ·rw [if_neg h2,if_neg (by omega),xv43 _ _ _ _ (by omega)]
  ·rw [if_neg h1] at h ⊢
   rw [if_neg h1]
   by_cases h3:224 ≤ c.toNat
   ·rw [if_pos h3] at h ⊢
    rw [if_pos h3]
    by_cases h2:t.length < 2
    ·rw [if_pos h2] at h;exact absurd rfl h
    ·rw [if_neg h2,if_neg (by omega),xv43 _ _ _ _ (by omega)]
   ·rw [if_neg h3] at h ⊢
    rw [if_neg h3]
    by_cases h4:192 ≤ c.toNat
    ·rw [if_pos h4] at h ⊢
     rw [if_pos h4]
     by_cases h2:t.length < 1
     ·rw [if_pos h2] at h;exact absurd rfl h
     ·rw [if_neg h2,if_neg (by omega),xv43 _ _ _ _ (by omega)]
    ·rw [if_neg h4,if_neg h4]
theorem xv131 (b:List UInt8):∀ (n:Nat) (a:List UInt8),a.length ≤ n->good a=true->good (a++b)=good b
 | _,[],_,_=>rfl
 | 0,c::t,h,_=>by simp at h
 | n + 1,c::t,h,hg=>by
  rw [xv47] at hg
  by_cases hz:sgn (c::t)=0
  ·rw [if_pos hz] at hg;cases hg
  ·rw [if_neg hz] at hg
   have hle:=xv299 (c::t)
   have e:=xv298 (c::t) b hz
   rw [List.cons_append] at e ⊢
   rw [xv47,e,if_neg hz,← List.cons_append,List.drop_append_of_le_length hle]
   exact xv131 b n _ (by simp at h ⊢;omega) hg
theorem xv79 {a b:List UInt8} (ha:good a=true) (hb:good b=true):good (a++b)=true:=by rw [xv131 b a.length a (Nat.le_refl _) ha,hb]
theorem xv317 (a b:List UInt8):lv (a++47::b)=lv a++lv b:=by
 induction a with
 | nil=>simp [lv]
 | cons c a ih =>
  simp only [List.cons_append,lv,ih]
  split
  ·rfl
  ·cases h:lv a with
   | nil=>exact absurd h (lv_ne a)
   | cons x l=>rfl
theorem xv282 {a:List UInt8} (h:47 ∉ a):lv a=[a]:=by
 induction a with
 | nil=>rfl
 | cons c a ih =>
  simp only [List.mem_cons,not_or] at h
  simp only [lv,if_neg (Ne.symm h.1),ih h.2]
def js:List (List UInt8)->List UInt8
 | []=>[]
 | [x]=>x
 | x::l=>x++47::js l
theorem xv52 (x:List UInt8) {l:List (List UInt8)} (h:l ≠ []):js (x::l)=x++47::js l:=by
 cases l with
 | nil=>exact absurd rfl h
 | cons y l=>rfl
theorem lv_js:∀ {l:List (List UInt8)},l ≠ []->(∀ x ∈ l,47 ∉ x)->lv (js l)=l
 | [],h,_=>absurd rfl h
 | [x],_,h=>xv282 (h x (by simp))
 | x::y::l,_,h=>by
  rw [xv52 x (by simp),xv317,xv282 (h x (by simp)),lv_js (by simp) (fun z hz=>h z (by simp [hz]))]
  rfl
theorem xv276 (t:List UInt8):good (47::t)=good t:=xv8 47 t (by decide) (by decide)
theorem xv204:∀ {l:List (List UInt8)},(∀ x ∈ l,good x=true)->good (js l)=true
 | [],_=>xv18
 | [x],h=>h x (by simp)
 | x::y::l,h=>by
  rw [xv52 x (by simp)]
  exact xv79 (h x (by simp)) (by rw [xv276];exact xv204 (fun z hz=>h z (by simp [hz])))
theorem xv286:∀ {l:List (List UInt8)} {b:UInt8},b ∈ js l->b=47∨∃ x ∈ l,b ∈ x
 | [],b,h=>by simp [js] at h
 | [x],b,h=>.inr ⟨x,by simp,h⟩
 | x::y::l,b,h=>by
  rw [xv52 x (by simp)] at h
  rcases List.mem_append.1 h with h|h
  ·exact .inr ⟨x,by simp,h⟩
  ·rcases List.mem_cons.1 h with h|h
   ·exact .inl h
   ·rcases xv286 h with h|⟨z,h1,h2⟩
    ·exact .inl h
    ·exact .inr ⟨z,by simp [h1],h2⟩
end Go.Rv
namespace Go.Rv
open Go.Lib
def TG:List (List UInt8):=[[97],[98],[47],[99],[100],[47],[195,164],[101]]
inductive Tw:Nat->List UInt8->Prop
 | nil:Tw 0 []
 | cons (w t:List UInt8) (n:Nat) (hw:w ∈ TG) (h:Tw n t):Tw (n + 1) (w++t)
theorem Tw.snoc:∀ {n:Nat} {l:List UInt8},Tw n l->∀ w,w ∈ TG->Tw (n + 1) (l++w)
 | _,_,.nil,w,hw=>by have:=Tw.cons w [] 0 hw .nil;simpa using this
 | _,_,.cons v t n hv h,w,hw=>by rw [List.append_assoc];exact .cons v _ _ hv (h.snoc w hw)
theorem xv303 (w:List UInt8) (h:w ∈ TG):1 ≤ w.length∧w.length ≤ 2:=by
 simp only [TG,List.mem_cons,List.mem_nil_iff,or_false] at h
 rcases h with rfl|rfl|rfl|rfl|rfl|rfl|rfl|rfl<;>decide
theorem Tw.len:∀ {n:Nat} {l:List UInt8},Tw n l->l.length ≤ 2 * n
 | _,_,.nil=>by simp
 | _,_,.cons w t n hw h=>by have:=h.len;have:=xv303 w hw;simp;omega
theorem xv202 (w t:List UInt8) (hw:w ∈ TG):good (w++t)=good t:=by
 simp only [TG,List.mem_cons,List.mem_nil_iff,or_false] at hw
 rcases hw with rfl|rfl|rfl|rfl|rfl|rfl|rfl|rfl
 ·exact xv8 _ _ (by decide) (by decide)
 ·exact xv8 _ _ (by decide) (by decide)
 ·exact xv8 _ _ (by decide) (by decide)
 ·exact xv8 _ _ (by decide) (by decide)
 ·exact xv8 _ _ (by decide) (by decide)
 ·exact xv8 _ _ (by decide) (by decide)
 ·exact xv34 _ _ 1 (by simp [sgn,contN,restN])
 ·exact xv8 _ _ (by decide) (by decide)
theorem Tw.good:∀ {n:Nat} {l:List UInt8},Tw n l->Rv.good l=true
 | _,_,.nil=>xv18
 | _,_,.cons w t n hw h=>by rw [xv202 w t hw];exact h.good
theorem xv261 (w:List UInt8) (h:w ∈ TG):∀ b ∈ w,b ≠ 36∧b ≠ 43∧b ≠ 35∧b ≠ 115:=by
 simp only [TG,List.mem_cons,List.mem_nil_iff,or_false] at h
 rcases h with rfl|rfl|rfl|rfl|rfl|rfl|rfl|rfl<;>decide
theorem Tw.bytes:∀ {n:Nat} {l:List UInt8},Tw n l->∀ b ∈ l,b ≠ 36∧b ≠ 43∧b ≠ 35∧b ≠ 115
 | _,_,.nil=>by simp
 | _,_,.cons w t n hw h=>by
  intro b hb
  rcases List.mem_append.1 hb with hb|hb
  ·exact xv261 w hw b hb
  ·exact h.bytes b hb
theorem xv283 (t:List UInt8):∀ w:List UInt8,47 ∉ w->lv (w++t)=lvp w t
 | [],_=>(lvp_0 t).symm
 | c::w,h=>by
  simp only [List.mem_cons,not_or] at h
  simp only [List.cons_append,lv,if_neg (Ne.symm h.1),xv283 t w h.2,lvp]
  cases lv t<;>rfl
theorem Tw.levels:∀ {n:Nat} {l:List UInt8},Tw n l->∀ x ∈ lv l,Rv.good x=true
 | _,_,.nil=>by intro x h;simp [lv] at h;rw [h];exact xv18
 | _,_,.cons w t n hw h=>by
  intro x hx
  by_cases h47:w=[47]
  ·subst h47
   simp only [List.cons_append,List.nil_append,lv,if_true] at hx
   rcases List.mem_cons.1 hx with rfl|hx
   ·exact xv18
   ·exact h.levels x hx
  ·have hn:47 ∉ w:=by
    simp only [TG,List.mem_cons,List.mem_nil_iff,or_false] at hw
    rcases hw with rfl|rfl|rfl|rfl|rfl|rfl|rfl|rfl<;>first|decide|exact absurd rfl h47
   rw [xv283 t w hn,lvp] at hx
   cases hl:lv t with
   | nil=>exact absurd hl (lv_ne t)
   | cons y l =>
    rw [hl] at hx
    simp only at hx
    rcases List.mem_cons.1 hx with rfl|hx
    ·rw [xv202 w y hw];exact h.levels y (by rw [hl];simp)
    ·exact h.levels x (by rw [hl];simp [hx])
theorem xv194 (s:List UInt8):∀ (f i n:Nat) (o:List UInt8),f + i=8->n ≤ i->Tw n o->∃ m q,m ≤ 8∧Tw m q∧iter (fn177_l0 s (some TG)) (o,(i:Int))=some q:=by
 intro f
 induction f with
 | zero =>
  intro i n o hi hn ho
  refine ⟨n,o,by omega,ho,?_⟩
  rw [yv700]
  simp only [fn177_l0,fn177_b0]
  by_cases h:i < s.length
  ·rw [if_pos (by simp;omega),if_neg (by simp;omega)]
  ·rw [if_neg (by simp;omega)]
 | succ f ih =>
  intro i n o hi hn ho
  by_cases h:i < s.length
  ·have hc:=s[i].toNat_lt
   have hm:s[i].toNat % 8 < TG.length:=by
    show _ < 8;omega
   have hw:TG[s[i].toNat % 8] ∈ TG:=List.getElem_mem hm
   obtain ⟨m,q,h1,h2,h3⟩:=ih (i + 1) (n + 1) (o++TG[s[i].toNat % 8]) (by omega) (by omega) (ho.snoc _ hw)
   refine ⟨m,q,h1,h2,?_⟩
   rw [yv700]
   simp only [fn177_l0,fn177_b0]
   have e0:w64 (s[i].toNat:Int)=(s[i].toNat:Int):=xv0 (by omega) (by omega)
   have e8:((L (some TG)).length:Int)=8:=rfl
   have e1:((s[i].toNat:Int)).tmod 8=((s[i].toNat % 8:Nat):Int):=by
    rw [Int.tmod_eq_emod_of_nonneg (by omega)];simp
   have e2:ix (L (some TG)) ((s[i].toNat % 8:Nat):Int)=some (TG[s[i].toNat % 8]):=by
    rw [xv2];exact List.getElem?_eq_getElem hm
   have ew:w64 ((i:Int) + 1)=((i + 1:Nat):Int):=by rw [xv0 (by omega) (by omega)];simp
   have hl:=ho.len
   have hl2:=(xv303 _ hw).2
   rw [if_pos (by simp;omega),if_pos (by simp;omega),xv2,List.getElem?_eq_getElem h,Option.bind_some,e8,e0,e1]
   rw [show chk (decide ((8:Int) ≠ 0))=some () from rfl,Option.bind_some,e2,Option.bind_some]
   simp only [catS]
   rw [if_pos (by omega),Option.bind_some,ew]
   exact h3
  ·refine ⟨n,o,by omega,ho,?_⟩
   rw [yv700]
   simp only [fn177_l0,fn177_b0]
   rw [if_neg (by simp;omega)]
theorem xv169 (s:List UInt8):∃ m q,m ≤ 8∧Tw m q∧q ≠ []∧fn177 s=some q:=by
 obtain ⟨m,q,h1,h2,h3⟩:=xv194 s 8 0 0 [] rfl (Nat.le_refl _) .nil
 rw [show (((0:Nat):Int))=0 from rfl] at h3
 have h4:iter (fn177_l0 s (some [[97],[98],[47],[99],[100],[47],[195,164],[101]])) ([],0)=some q:=h3
 simp only [fn177,h4,Option.bind_some]
 by_cases h:q=[]
 ·exact ⟨1,[97],by omega,.cons [97] [] 0 (by decide) .nil,by simp,by simp [h]⟩
 ·exact ⟨m,q,h1,h2,h,by simp [h]⟩
theorem xv80 {x:List UInt8} (h:∀ b ∈ x,b ≠ 43∧b ≠ 35):wild x=false:=by
 simp only [wild,Bool.or_eq_false_iff]
 constructor
 ·rw [Bool.eq_false_iff];intro e;exact (h 43 (by simpa using e)).1 rfl
 ·rw [Bool.eq_false_iff];intro e;exact (h 35 (by simpa using e)).2 rfl
theorem xv140:∀ {l:List (List UInt8)},(∀ x ∈ l,x=[43]∨wild x=false)->xv35 l=true
 | [],_=>rfl
 | x::l,h=>by
  simp only [xv35,xv140 (fun y hy=>h y (List.mem_cons_of_mem _ hy)),Bool.and_true,okL]
  rcases h x (by simp) with rfl|e
  ·simp
  ·simp [e]
theorem xv68:∀ {l:List (List UInt8)},(∀ x ∈ l,x=[43]∨wild x=false)->xv35 (l++[[35]])=true
 | [],_=>by simp [xv35,okL]
 | x::l,h=>by
  simp only [List.cons_append,xv35,xv68 (fun y hy=>h y (List.mem_cons_of_mem _ hy)),Bool.and_true,okL]
  rcases h x (by simp) with rfl|e
  ·simp
  ·simp [e]
theorem xv233 (g b:List UInt8) (h:47 ∉ g):cutO (g++47::b)=some (g,b):=by
 induction g with
 | nil=>simp [cutO]
 | cons c g ih =>
  simp only [List.mem_cons,not_or] at h
  simp only [List.cons_append,cutO,if_neg (Ne.symm h.1),ih h.2,Option.map_some]
end Go.Rv
namespace Go.Rv
open Go.Lib
def idsL:List UInt8:=[1,2,3,8,9,11,17,18,19,21,22,23,24,25,26,28,31,33,34,35,36,37,38,39,40,41,42]
theorem xv181 (k:Int):∀ (f i:Nat) (o:Option (List UInt8)),idsL.length - i ≤ f->i ≤ idsL.length->(L o).length ≤ i ->
 ∃ o',iter (fn181_l0 k (some idsL)) (o,(i:Int))=some o'∧L o'=L o++(idsL.drop i).filter (fun x=>forB x k):=by
 intro f
 induction f with
 | zero =>
  intro i o h1 h2 h3
  refine ⟨o,?_,?_⟩
  ·rw [yv700]
   simp only [fn181_l0,fn181_b0,xv1]
   rw [if_neg (by rw [decide_eq_true_eq];omega)]
  ·rw [show idsL.drop i=[] from List.drop_eq_nil_of_le (by omega)];simp
 | succ f ih =>
  intro i o h1 h2 h3
  by_cases hlt:i < idsL.length
  ·have hl:idsL.length=27:=rfl
   have e:w64 ((i:Int) + 1)=((i + 1:Nat):Int):=by rw [xv0 (by omega) (by omega)];simp
   cases hb:forB idsL[i] k with
   | true =>
    have happ:appO 1 o (some [idsL[i]])=some (some (L o++[idsL[i]])):=by
     have:=xv23 (n:=1) (x:=o) (a:=idsL[i]) (l:=[]) (by simp [room];omega) (by simp [room];omega)
     simpa using this
    obtain ⟨o',h4,h5⟩:=ih (i + 1) (some (L o++[idsL[i]])) (by omega) hlt (by simp;omega)
    refine ⟨o',?_,?_⟩
    ·rw [yv700]
     simp only [fn181_l0,fn181_b0,xv1,xv2,List.getElem?_eq_getElem hlt,Option.bind_some,xv152,hb,if_true,happ,e]
     rw [if_pos (by rw [decide_eq_true_eq];omega)]
     exact h4
    ·rw [h5,xv1,List.drop_eq_getElem_cons hlt,List.filter_cons,if_pos hb];simp
   | false =>
    obtain ⟨o',h4,h5⟩:=ih (i + 1) o (by omega) hlt (by omega)
    refine ⟨o',?_,?_⟩
    ·rw [yv700]
     simp only [fn181_l0,fn181_b0,xv1,xv2,List.getElem?_eq_getElem hlt,Option.bind_some,xv152,hb,Bool.false_eq_true,if_false,e]
     rw [if_pos (by rw [decide_eq_true_eq];omega)]
     exact h4
    ·rw [h5,List.drop_eq_getElem_cons hlt,List.filter_cons,if_neg (by simp [hb])]
  ·refine ⟨o,?_,?_⟩
   ·rw [yv700]
    simp only [fn181_l0,fn181_b0,xv1]
    rw [if_neg (by rw [decide_eq_true_eq];omega)]
   ·rw [show idsL.drop i=[] from List.drop_eq_nil_of_le (by omega)];simp
def idsOf (k:Int):List UInt8:=idsL.filter (fun x=>forB x k)
theorem xv241:∀ k:Fin 16,(decide (idsOf ((k.val:Int) + 1)=[]))=(decide (k.val=11) || decide (k.val=12)):=by decide +kernel
theorem xv242:∀ x ∈ idsL,x ≠ 0∧1 ≤ typeT x∧typeT x ≤ 7∧(x=11->typeT x=4)∧(x=33->typeT x=2)∧(x=35->typeT x=2)∧(x=39->typeT x=3)∧(x=8->typeT x=5):=by decide +kernel
theorem xv50 {id:UInt8} {n:UInt32} {a b:List UInt8} (hr:xv20 id n a b=true) (h1:typeT id=1->n < 2) (h2:(id=11∨id=33∨id=35∨id=39)->n ≠ 0) (h3:id=8->nameB a=true):xv42 id n a b=true:=by
 rw [xv42,hr,Bool.true_and,valB]
 split
 ·rename_i h;exact decide_eq_true (h1 h)
 ·split
  ·rename_i h
   simp only [Bool.or_eq_true,decide_eq_true_eq] at h
   have:n ≠ 0:=h2 (by rcases h with ((h|h)|h)|h<;>simp [h])
   simp [this]
  ·split
   ·rename_i h;exact h3 h
   ·rfl
theorem xv316 (p:fn163) (k:Nat) (h1:1 ≤ k) (h16:k ≤ 16) :
 ∃ q,fn181 p (k:Int)=some q∧(decide (q.Id=0)=(decide (k=12) || decide (k=13)))∧(q.Id ≠ 0->forB q.Id k=true∧xv42 q.Id q.N q.A q.B=true∧q.A.length ≤ 100∧q.B.length ≤ 100):=by
 obtain ⟨o,ho,hL⟩:=xv181 (k:Int) 27 0 none (by decide) (by decide) (by decide)
 rw [show ((0:Nat):Int)=0 from rfl] at ho
 have hL:L o=idsOf k:=by rw [hL];rfl
 have hnone:=xv241 ⟨k - 1,by omega⟩
 rw [show (((k - 1:Nat):Int) + 1)=(k:Int) by omega] at hnone
 have hk:(decide (k - 1=11) || decide (k - 1=12))=(decide (k=12) || decide (k=13)):=by
  rw [show decide (k - 1=11)=decide (k=12) from decide_eq_decide.2 (by omega),show decide (k - 1=12)=decide (k=13) from decide_eq_decide.2 (by omega)]
 rw [hk] at hnone
 have ho':iter (fn181_l0 (k:Int) (some [(1:UInt8),(2:UInt8),(3:UInt8),(8:UInt8),(9:UInt8),(11:UInt8),(17:UInt8),(18:UInt8),(19:UInt8),(21:UInt8),(22:UInt8),(23:UInt8),(24:UInt8),(25:UInt8),(26:UInt8),(28:UInt8),(31:UInt8),(33:UInt8),(34:UInt8),(35:UInt8),(36:UInt8),(37:UInt8),(38:UInt8),(39:UInt8),(40:UInt8),(41:UInt8),(42:UInt8)])) (none,0)=some o:=ho
 simp only [fn181,fn180,Option.bind_some]
 rw [ho',Option.bind_some,hL]
 by_cases he:idsOf (k:Int)=[]
 ·rw [he] at hnone ⊢
  refine ⟨⟨0,0,[],[]⟩,by rw [if_pos (by decide)],?_,fun h=>absurd rfl h⟩
  rw [← hnone];decide
 ·have hlen:(idsOf (k:Int)).length ≠ 0:=fun e=>he (List.length_eq_zero_iff.1 e)
  have hlen2:(idsOf (k:Int)).length ≤ 27:=List.length_filter_le _ _
  have hm:p.Id.toNat % (idsOf (k:Int)).length < (idsOf (k:Int)).length:=Nat.mod_lt _ (by omega)
  have hc:=p.Id.toNat_lt
  rw [if_neg (by rw [decide_eq_true_eq];omega),chk_d (by omega),Option.bind_some,show w64 (p.Id.toNat:Int)=(p.Id.toNat:Int) from xv0 (by omega) (by omega),
   show ((p.Id.toNat:Int)).tmod ((idsOf (k:Int)).length:Int)=((p.Id.toNat % (idsOf (k:Int)).length:Nat):Int) by rw [Int.tmod_eq_emod_of_nonneg (by omega)];simp,xv2,List.getElem?_eq_getElem hm,Option.bind_some]
  have hmem:=List.getElem_mem hm
  generalize (idsOf (k:Int))[p.Id.toNat % (idsOf (k:Int)).length]=x at hmem ⊢
  simp only [idsOf,List.mem_filter] at hmem
  obtain ⟨hx,hfor⟩:=hmem
  obtain ⟨x0,t1,t7,i11,i33,i35,i39,i8⟩:=xv242 x hx
  have hz:decide (x=0)=(decide (k=12) || decide (k=13)):=by
   rw [← hnone,decide_eq_false x0,decide_eq_false he]
  rw [xv253,Option.bind_some]
  have hd2:chk (decide ((2:UInt32) ≠ 0))=some ():=by decide
  have hd3:chk (decide ((65535:UInt32) ≠ 0))=some ():=by decide
  have hd4:chk (decide ((268435455:UInt32) ≠ 0))=some ():=by decide
  have hex1:typeT x=1->¬ (x=11∨x=33∨x=35∨x=39):=by
   rintro c (h|h|h|h)
   ·rw [i11 h] at c;omega
   ·rw [i33 h] at c;omega
   ·rw [i35 h] at c;omega
   ·rw [i39 h] at c;omega
  by_cases c1:typeT x=1
  ·rw [if_pos (decide_eq_true c1),hd2,Option.bind_some]
   refine ⟨_,rfl,hz,fun _=>⟨hfor,?_,by simp,by simp⟩⟩
   have hm2:p.N % 2 < 2:=by rw [UInt32.lt_iff_toNat_lt,UInt32.toNat_mod];exact Nat.mod_lt _ (by decide)
   refine xv50 ?_ (fun _=>hm2) (fun h=>absurd h (hex1 c1)) (fun h=>by rw [i8 h] at c1;omega)
   rw [xv20,if_pos c1]
   have:p.N % 2 < 256:=by rw [UInt32.lt_iff_toNat_lt] at hm2 ⊢;exact Nat.lt_trans hm2 (by decide)
   simp [this]
  rw [if_neg (by simpa using c1)]
  by_cases c2:typeT x=2
  ·rw [if_pos (decide_eq_true c2),hd3,Option.bind_some]
   refine ⟨_,rfl,hz,fun _=>⟨hfor,?_,by simp,by simp⟩⟩
   have hm2:(1 + p.N % 65535).toNat=1 + p.N.toNat % 65535:=by
    rw [UInt32.toNat_add,UInt32.toNat_mod]
    show (1 + p.N.toNat % 65535) % 4294967296=_
    omega
   refine xv50 ?_ (fun h=>absurd h c1) (fun _ h=>?_) (fun h=>by rw [i8 h] at c2;omega)
   ·rw [xv20,if_neg c1,if_pos c2]
    have:1 + p.N % 65535 < 65536:=by rw [UInt32.lt_iff_toNat_lt,hm2];show _ < 65536;omega
    simp [this]
   ·have:=congrArg UInt32.toNat h
    rw [hm2] at this
    have h0:(0:UInt32).toNat=0:=rfl
    omega
  rw [if_neg (by simpa using c2)]
  by_cases c3:typeT x=3
  ·rw [if_pos (decide_eq_true c3)]
   have hr:∀ n,xv20 x n [] []=true:=fun n=>by rw [xv20,if_neg c1,if_neg c2,if_pos c3];rfl
   by_cases c39:x=39
   ·rw [if_pos (by simpa using c39)]
    by_cases hn:p.N=0
    ·rw [if_pos (by simpa using hn)]
     exact ⟨_,rfl,hz,fun _=>⟨hfor,xv50 (hr _) (fun h=>absurd h c1) (fun _=>(by decide:(7:UInt32) ≠ 0)) (fun h=>by rw [i8 h] at c3;omega),by simp,by simp⟩⟩
    ·rw [if_neg (by simpa using hn)]
     exact ⟨_,rfl,hz,fun _=>⟨hfor,xv50 (hr _) (fun h=>absurd h c1) (fun _ h=>hn h) (fun h=>by rw [i8 h] at c3;omega),by simp,by simp⟩⟩
   ·rw [if_neg (by simpa using c39)]
    refine ⟨_,rfl,hz,fun _=>⟨hfor,xv50 (hr _) (fun h=>absurd h c1) (fun h=>?_) (fun h=>by rw [i8 h] at c3;omega),by simp,by simp⟩⟩
    rcases h with h|h|h|h
    ·rw [i11 h] at c3;omega
    ·rw [i33 h] at c3;omega
    ·rw [i35 h] at c3;omega
    ·exact absurd h c39
  rw [if_neg (by simpa using c3)]
  by_cases c4:typeT x=4
  ·rw [if_pos (decide_eq_true c4),hd4,Option.bind_some]
   refine ⟨_,rfl,hz,fun _=>⟨hfor,?_,by simp,by simp⟩⟩
   have hm2:(1 + p.N % 268435455).toNat=1 + p.N.toNat % 268435455:=by
    rw [UInt32.toNat_add,UInt32.toNat_mod]
    show (1 + p.N.toNat % 268435455) % 4294967296=_
    omega
   refine xv50 ?_ (fun h=>absurd h c1) (fun _ h=>?_) (fun h=>by rw [i8 h] at c4;omega)
   ·rw [xv20,if_neg c1,if_neg c2,if_neg c3,if_pos c4]
    have:1 + p.N % 268435455 < 268435456:=by rw [UInt32.lt_iff_toNat_lt,hm2];show _ < 268435456;omega
    simp [this]
   ·have:=congrArg UInt32.toNat h
    rw [hm2] at this
    have h0:(0:UInt32).toNat=0:=rfl
    omega
  rw [if_neg (by simpa using c4)]
  have hno:(x=11∨x=33∨x=35∨x=39)->(0:UInt32) ≠ 0:=by
   intro h
   exfalso
   rcases h with h|h|h|h
   ·exact c4 (i11 h)
   ·exact c2 (i33 h)
   ·exact c2 (i35 h)
   ·exact c3 (i39 h)
  by_cases c5:typeT x=5
  ·rw [if_pos (decide_eq_true c5)]
   obtain ⟨m,q,m8,hq,hqe⟩:=xv110 p.A
   have hql:=hq.len
   rw [hqe,Option.bind_some]
   have hr:∀ a,good a=true->xv20 x 0 a []=true:=fun a h=>by rw [xv20,if_neg c1,if_neg c2,if_neg c3,if_neg c4,if_pos c5,h];rfl
   by_cases c8:x=8
   ·rw [if_pos (by simpa using c8)]
    obtain ⟨m',q',m8',hq',h0',hqe'⟩:=xv169 p.A
    have hql':=hq'.len
    rw [hqe',Option.bind_some]
    refine ⟨_,rfl,hz,fun _=>⟨hfor,xv50 (hr _ hq'.good) (fun h=>absurd h c1) hno (fun _=>?_),by show q'.length ≤ 100;omega,by simp⟩⟩
    have hw:wild q'=false:=xv80 fun b h=>⟨(hq'.bytes b h).2.1,(hq'.bytes b h).2.2.1⟩
    simp [nameB,h0',hq'.good,hw]
   ·rw [if_neg (by simpa using c8)]
    exact ⟨_,rfl,hz,fun _=>⟨hfor,xv50 (hr _ hq.good) (fun h=>absurd h c1) hno (fun h=>absurd h c8),by show q.length ≤ 100;omega,by simp⟩⟩
  rw [if_neg (by simpa using c5)]
  have h8:x ≠ 8:=fun h=>c5 (i8 h)
  by_cases c6:typeT x=6
  ·rw [if_pos (decide_eq_true c6)]
   have hcs:=xv90 p.A 9 (by omega)
   rw [show ((9:Nat):Int)=9 from rfl] at hcs
   rw [hcs,Option.bind_some]
   exact ⟨_,rfl,hz,fun _=>⟨hfor,xv50 (by rw [xv20,if_neg c1,if_neg c2,if_neg c3,if_neg c4,if_neg c5,if_pos c6];rfl) (fun h=>absurd h c1) hno (fun h=>absurd h h8),by show (p.A.take 9).length ≤ 100;simp;omega,by simp⟩⟩
  rw [if_neg (by simpa using c6)]
  have c7:typeT x=7:=by omega
  rw [if_pos (decide_eq_true c7)]
  obtain ⟨m,q,m8,hq,hqe⟩:=xv110 p.A
  obtain ⟨m',q',m8',hq',hqe'⟩:=xv110 p.B
  have hql:=hq.len
  have hql':=hq'.len
  rw [hqe,Option.bind_some,hqe',Option.bind_some]
  exact ⟨_,rfl,hz,fun _=>⟨hfor,xv50 (by rw [xv20,if_neg c1,if_neg c2,if_neg c3,if_neg c4,if_neg c5,if_neg c6,if_pos c7,hq.good,hq'.good];rfl) (fun h=>absurd h c1) hno (fun h=>absurd h h8),by show q.length ≤ 100;omega,by show q'.length ≤ 100;omega⟩⟩
end Go.Rv
namespace Go.Rv
open Go.Lib
theorem xv135 (x:List UInt8):∀ {l:List (List UInt8)},l ≠ []->js (l++[x])=js l++47::x
 | [],h=>absurd rfl h
 | [y],_=>rfl
 | y::z::l,_=>by
  rw [List.cons_append,xv52 y (by simp),xv52 y (by simp),xv135 x (by simp)]
  simp
theorem xv243 {m:Nat}:∀ {l:List (List UInt8)},(∀ x ∈ l,x.length ≤ m)->(js l).length ≤ l.length * (m + 1)
 | [],_=>by simp [js]
 | [x],h=>by have:=h x (by simp);simp [js];omega
 | x::y::l,h=>by
  rw [xv52 x (by simp)]
  have h1:=h x (by simp)
  have h2:=xv243 (l:=y::l) (fun z hz=>h z (by simp [hz]))
  simp only [List.length_append,List.length_cons,Nat.add_mul] at h2 ⊢
  omega
theorem xv176 {a b:List UInt8} (ha:a.length ≤ 100000) (hb:b.length ≤ 100000):catS a b=some (a++b):=by
 simp only [catS];rw [if_pos (by omega)]
theorem take7 {f:List UInt8} (h:∀ b ∈ f,b ≠ 115):f.take 7 ≠ shP:=by
 intro e
 have h1:(115:UInt8) ∈ f.take 7:=by rw [e];decide
 exact h 115 (List.mem_of_mem_take h1) rfl
theorem xv184 {s:List UInt8} (h:s ≠ []) (hp:xv35 (lv s)=true):xv60 s=true:=by simp [xv60,h,hp]
def FG:List (List UInt8):=[[97],[43],[98],[],[99],[97],[43],[98]]
theorem xv125 (x:List UInt8) (h:x ∈ FG):x.length ≤ 1∧47 ∉ x∧(x=[43]∨wild x=false)∧x ≠ [35]∧good x=true∧(∀ b ∈ x,b ≠ 115∧b ≠ 35):=by
 have:∀ x ∈ FG,x.length ≤ 1∧47 ∉ x∧(x=[43]∨wild x=false)∧x ≠ [35]∧good x=true∧(∀ b ∈ x,b ≠ 115∧b ≠ 35):=by decide +kernel
 exact this x h
theorem xv272 (s:List UInt8):∀ (f i:Nat) (M:List (List UInt8)),f + i=6->M.length ≤ i->(∀ x ∈ M,x ∈ FG) ->
 ∃ M',M'.length ≤ 6∧(∀ x ∈ M',x ∈ FG)∧iter (fn58_l0 s (some FG)) (js ([116]::M),(i:Int))=some (js ([116]::M')):=by
 intro f
 induction f with
 | zero =>
  intro i M hi hn hM
  refine ⟨M,by omega,hM,?_⟩
  rw [yv700]
  simp only [fn58_l0,fn58_b0]
  by_cases h:i < s.length
  ·rw [if_pos (by simp;omega),if_neg (by simp;omega)]
  ·rw [if_neg (by simp;omega)]
 | succ f ih =>
  intro i M hi hn hM
  by_cases h:i < s.length
  ·have hc:=s[i].toNat_lt
   have hm:s[i].toNat % 8 < FG.length:=by
    show _ < 8;omega
   have hw:FG[s[i].toNat % 8] ∈ FG:=List.getElem_mem hm
   obtain ⟨M',h1,h2,h3⟩:=ih (i + 1) (M++[FG[s[i].toNat % 8]]) (by omega) (by simp;omega) (fun x hx=>by
    rcases List.mem_append.1 hx with hx|hx
    ·exact hM x hx
    ·simp at hx;rw [hx];exact hw)
   refine ⟨M',h1,h2,?_⟩
   rw [yv700]
   simp only [fn58_l0,fn58_b0]
   have e0:w64 (s[i].toNat:Int)=(s[i].toNat:Int):=xv0 (by omega) (by omega)
   have e1:((s[i].toNat:Int)).tmod 8=((s[i].toNat % 8:Nat):Int):=by
    rw [Int.tmod_eq_emod_of_nonneg (by omega)];simp
   have e2:ix (L (some FG)) ((s[i].toNat % 8:Nat):Int)=some (FG[s[i].toNat % 8]):=by
    rw [xv2];exact List.getElem?_eq_getElem hm
   have ew:w64 ((i:Int) + 1)=((i + 1:Nat):Int):=by rw [xv0 (by omega) (by omega)];simp
   have hb:(js ([116]::M)).length ≤ 7 * 2:=by
    have:=xv243 (l:=[116]::M) (m:=1) (fun x hx=>by
     rcases List.mem_cons.1 hx with rfl|hx
     ·simp
     ·exact (xv125 x (hM x hx)).1)
    refine Nat.le_trans this (Nat.mul_le_mul_right _ ?_)
    simp;omega
   have hl2:=(xv125 _ hw).1
   have ej:js ([116]::(M++[FG[s[i].toNat % 8]]))=js ([116]::M)++[47]++FG[s[i].toNat % 8]:=by
    rw [← List.cons_append,xv135 _ (by simp)];simp
   rw [ej] at h3
   rw [if_pos (by simp;omega),if_pos (by simp;omega),xv176 (by omega) (by simp),Option.bind_some,xv2,List.getElem?_eq_getElem h,Option.bind_some,e0,e1]
   rw [show chk (decide (8 ≠ 0))=some () from rfl,Option.bind_some,e2,Option.bind_some,xv176 (by simp;omega) (by omega),Option.bind_some,ew]
   exact h3
  ·refine ⟨M,by omega,hM,?_⟩
   rw [yv700]
   simp only [fn58_l0,fn58_b0]
   rw [if_neg (by simp;omega)]
def TL (t:List (List UInt8)):Prop:=t=[]∨t=[[35]]
def FF (F:List UInt8):Prop:=F.length ≤ 60∧(F=[35]∨∃ M t,M.length ≤ 6∧(∀ x ∈ M,x ∈ FG)∧TL t∧(F=js ([116]::(M++t))∨F=shP++([103]++47::js ([116]::(M++t)))))
theorem ff_c2 (a F:List UInt8) (h:FF F):∃ G,FF G∧fn58_c2 a F (fun x=>some x)=some G:=by
 simp only [fn58_c2]
 by_cases h2:2 < a.length
 ·rw [if_pos (by simp;omega)]
  have:=xv2 (l:=a) (i:=2)
  rw [show ((2:Nat):Int)=2 from rfl,List.getElem?_eq_getElem h2] at this
  rw [this,Option.bind_some]
  split
  ·exact ⟨[35],⟨by simp,.inl rfl⟩,rfl⟩
  ·exact ⟨F,h,rfl⟩
 ·rw [if_neg (by simp;omega)];exact ⟨F,h,rfl⟩
theorem ff_c1 (a F:List UInt8) (hl:F.length ≤ 50) (h:∃ M t,M.length ≤ 6∧(∀ x ∈ M,x ∈ FG)∧TL t∧F=js ([116]::(M++t))):∃ G,FF G∧fn58_c1 a F (fun x=>some x)=some G:=by
 have h0:FF F:=⟨by omega,.inr (h.imp fun M ⟨t,a,b,d,c⟩=>⟨t,a,b,d,.inl c⟩)⟩
 simp only [fn58_c1]
 by_cases h2:1 < a.length
 ·rw [if_pos (by simp;omega)]
  have:=xv2 (l:=a) (i:=1)
  rw [show ((1:Nat):Int)=1 from rfl,List.getElem?_eq_getElem h2] at this
  rw [this,Option.bind_some]
  split
  ·rw [xv176 (by simp) (by omega),Option.bind_some]
   obtain ⟨M,t,a',b,d,rfl⟩:=h
   exact ff_c2 a _ ⟨by simp;omega,.inr ⟨M,t,a',b,d,.inr rfl⟩⟩
  ·exact ff_c2 a F h0
 ·rw [if_neg (by simp;omega)];exact ff_c2 a F h0
theorem ff_eq (a:List UInt8):∃ F,FF F∧fn58 a=some F:=by
 obtain ⟨M,h1,h2,h3⟩:=xv272 a 6 0 [] rfl (Nat.le_refl _) (by simp)
 rw [show (((0:Nat):Int))=0 from rfl] at h3
 have h4:iter (fn58_l0 a (some [[97],[43],[98],[],[99],[97],[43],[98]])) ([116],0)=some (js ([116]::M)):=h3
 have hb:(js ([116]::M)).length ≤ 7 * 2:=by
  have:=xv243 (l:=[116]::M) (m:=1) (fun x hx=>by
   rcases List.mem_cons.1 hx with rfl|hx
   ·simp
   ·exact (xv125 x (h2 x hx)).1)
  refine Nat.le_trans this (Nat.mul_le_mul_right _ ?_)
  simp;omega
 have ea:js ([116]::M)++[47,35]=js ([116]::(M++[[35]])):=by
  rw [← List.cons_append,xv135 _ (by simp)]
 have e0:js ([116]::M)=js ([116]::(M++[])):=by rw [List.append_nil]
 simp only [fn58,h4,Option.bind_some]
 by_cases h0:0 < a.length
 ·rw [if_pos (by simp;omega)]
  have:=xv2 (l:=a) (i:=0)
  rw [show ((0:Nat):Int)=0 from rfl,List.getElem?_eq_getElem h0] at this
  rw [this,Option.bind_some]
  split
  ·rw [xv176 (a:=js ([116]::M)) (by omega) (by simp),Option.bind_some]
   exact ff_c1 a (js ([116]::M)++[47,35]) (by rw [List.length_append];simp only [List.length_cons,List.length_nil];omega) ⟨M,_,h1,h2,.inr rfl,ea⟩
  ·exact ff_c1 a (js ([116]::M)) (by omega) ⟨M,_,h1,h2,.inl rfl,e0⟩
 ·rw [if_neg (by rw [decide_eq_true_eq];omega)]
  exact ff_c1 a (js ([116]::M)) (by omega) ⟨M,_,h1,h2,.inl rfl,e0⟩
theorem ff_js {M t:List (List UInt8)} (h1:∀ x ∈ M,x ∈ FG) (ht:TL t):good (js ([116]::(M++t)))=true∧xv60 (js ([116]::(M++t)))=true∧∀ b ∈ js ([116]::(M++t)),b ≠ 115:=by
 have hx:∀ x ∈ [116]::(M++t),good x=true∧47 ∉ x∧∀ b ∈ x,b ≠ 115:=by
  intro x hx
  rcases List.mem_cons.1 hx with rfl|hx
  ·exact ⟨by kernel_rfl,by decide,by decide⟩
  ·rcases List.mem_append.1 hx with hx|hx
   ·have:=xv125 x (h1 x hx)
    exact ⟨this.2.2.2.2.1,this.2.1,fun b hb=>(this.2.2.2.2.2 b hb).1⟩
   ·rcases ht with rfl|rfl
    ·cases hx
    ·simp at hx;subst hx;exact ⟨by kernel_rfl,by decide,by decide⟩
 have hne:([116]::(M++t)) ≠ []:=by simp
 refine ⟨xv204 (fun x h=>(hx x h).1),xv184 ?_ ?_,?_⟩
 ·intro e
  have:=lv_js hne (fun x h=>(hx x h).2.1)
  rw [e] at this
  simp [lv] at this
 ·rw [lv_js hne (fun x h=>(hx x h).2.1)]
  have hp:∀ x ∈ [116]::M,x=[43]∨wild x=false:=by
   intro x hx
   rcases List.mem_cons.1 hx with rfl|hx
   ·exact .inr (by decide)
   ·exact (xv125 x (h1 x hx)).2.2.1
  rcases ht with rfl|rfl
  ·rw [List.append_nil];exact xv140 hp
  ·have:=xv68 hp
   simpa using this
 ·intro b hb
  rcases xv286 hb with rfl|⟨x,hx',hbx⟩
  ·decide
  ·exact (hx x hx').2.2 b hbx
theorem xv180 {F:List UInt8} (h:FF F):xv9 F=true:=by
 rcases h.2 with rfl|⟨M,t,_,h2,h3,h4⟩
 ·decide +kernel
 ·obtain ⟨g1,g2,g3⟩:=ff_js h2 h3
  rcases h4 with rfl|rfl
  ·simp only [xv9,g1,Bool.true_and,shr]
   rw [if_neg (take7 g3)]
   exact g2
  ·have e1:(shP++([103]++47::js ([116]::(M++t)))).take 7=shP:=by
    rw [List.take_append_of_le_length (by decide)];rfl
   have e2:(shP++([103]++47::js ([116]::(M++t)))).drop 7=[103]++47::js ([116]::(M++t)):=by
    rw [List.drop_append_of_le_length (by decide)];rfl
   have eg:good (shP++([103]++47::js ([116]::(M++t))))=true:=by
    refine xv79 (by kernel_rfl) (xv79 (by kernel_rfl) ?_)
    rw [xv276];exact g1
   simp only [xv9,eg,Bool.true_and,shr]
   rw [if_pos e1,e2,xv233 _ _ (by decide)]
   simp only [shrF,g2,Bool.and_true]
   decide
end Go.Rv
namespace Go.Rv
open Go.Lib
theorem xv171 (v k:Int):∀ (f i:Nat) (o:Option (List UInt8)),256 - i ≤ f->i ≤ 256->(L o).length ≤ i->(∀ x ∈ L o,knB v k x=true) ->
 ∃ o',iter (fn178_l0 v k) (o,(i:Int))=some o'∧(L o').length ≤ 256∧(∀ x ∈ L o',knB v k x=true)∧(∀ x ∈ L o,x ∈ L o')∧∀ j,i ≤ j->j < 256->knB v k (u8 (j:Int))=true->u8 (j:Int) ∈ L o':=by
 intro f
 induction f with
 | zero =>
  intro i o h1 h2 h3 h4
  refine ⟨o,?_,by omega,h4,fun _ h=>h,fun j _ _=>by omega⟩
  rw [yv700]
  simp only [fn178_l0,fn178_b0]
  rw [if_neg (by rw [decide_eq_true_eq];omega)]
 | succ f ih =>
  intro i o h1 h2 h3 h4
  by_cases hlt:i < 256
  ·have e:w64 ((i:Int) + 1)=((i + 1:Nat):Int):=xv3 (by omega)
   cases hb:knB v k (u8 (i:Int)) with
   | true =>
    have happ:appO 1 o (some [u8 (i:Int)])=some (some (L o++[u8 (i:Int)])):=by
     have:=xv23 (n:=1) (x:=o) (a:=u8 (i:Int)) (l:=[]) (by simp [room];omega) (by simp [room];omega)
     simpa using this
    obtain ⟨o',k1,k2,k3,k4,k5⟩:=ih (i + 1) (some (L o++[u8 (i:Int)])) (by omega) hlt (by simp;omega) (fun x hx=>by
     simp at hx
     rcases hx with hx|rfl
     ·exact h4 x hx
     ·exact hb)
    refine ⟨o',?_,k2,k3,fun x hx=>k4 x (by simp [hx]),fun j h5 h6 h7=>?_⟩
    ·rw [yv700]
     simp only [fn178_l0,fn178_b0,xv62,Option.bind_some,hb,if_true,happ,e]
     rw [if_pos (by rw [decide_eq_true_eq];omega)]
     exact k1
    ·by_cases hj:j=i
     ·subst hj;exact k4 _ (by simp)
     ·exact k5 j (by omega) h6 h7
   | false =>
    obtain ⟨o',k1,k2,k3,k4,k5⟩:=ih (i + 1) o (by omega) hlt (by omega) h4
    refine ⟨o',?_,k2,k3,k4,fun j h5 h6 h7=>?_⟩
    ·rw [yv700]
     simp only [fn178_l0,fn178_b0,xv62,Option.bind_some,hb,Bool.false_eq_true,if_false,e]
     rw [if_pos (by rw [decide_eq_true_eq];omega)]
     exact k1
    ·by_cases hj:j=i
     ·subst hj;rw [hb] at h7;cases h7
     ·exact k5 j (by omega) h6 h7
  ·refine ⟨o,?_,by omega,h4,fun _ h=>h,fun j _ _=>by omega⟩
   rw [yv700]
   simp only [fn178_l0,fn178_b0]
   rw [if_neg (by rw [decide_eq_true_eq];omega)]
theorem xv147 (v k:Int) (c:UInt8):∃ d,fn179 v k c=some d∧(knB v k 0=true->knB v k d=true):=by
 obtain ⟨o,h1,h2,h3,_,h5⟩:=xv171 v k 256 0 none (by decide) (by decide) (by decide) (by simp)
 rw [show ((0:Nat):Int)=0 from rfl] at h1
 have ha:fn178 v k=some o:=by simp only [fn178,h1,Option.bind_some]
 simp only [fn179,ha,Option.bind_some]
 by_cases he:(L o).length=0
 ·refine ⟨0,by rw [if_pos (by rw [decide_eq_true_eq];omega)],fun h=>h⟩
 ·have hm:c.toNat % (L o).length < (L o).length:=Nat.mod_lt _ (by omega)
  have hc:=c.toNat_lt
  rw [if_neg (by rw [decide_eq_true_eq];omega),chk_d (by omega),Option.bind_some,show w64 (c.toNat:Int)=(c.toNat:Int) from xv0 (by omega) (by omega),
   show ((c.toNat:Int)).tmod ((L o).length:Int)=((c.toNat % (L o).length:Nat):Int) by rw [Int.tmod_eq_emod_of_nonneg (by omega)];simp,xv2,List.getElem?_eq_getElem hm,Option.bind_some]
  exact ⟨_,rfl,fun _=>h3 _ (List.getElem_mem hm)⟩
theorem kn0 {v k:Int} (h:(v=4∧(k=2∨k=4∨k=5∨k=6∨k=7∨k=9∨k=14))∨(v=5∧(k=2∨k=4∨k=5∨k=6∨k=7∨k=9∨k=11∨k=14∨k=15))):knB v k 0=true:=by
 have key:∀ v k,r03N v k 0=some true->knB v k 0=true:=fun v k h=>by
  have:=xv294 h
  rw [xv62] at this
  exact Option.some.inj this
 rcases h with ⟨rfl,h⟩|⟨rfl,h⟩
 ·rcases h with rfl|rfl|rfl|rfl|rfl|rfl|rfl<;>exact key _ _ (by kernel_rfl)
 ·rcases h with rfl|rfl|rfl|rfl|rfl|rfl|rfl|rfl|rfl<;>exact key _ _ (by kernel_rfl)
end Go.Rv
namespace Go.Rv
open Go.Lib
def DupP (k:Int) (a b:fn163):Prop:=a.Id=b.Id->xv45 a.Id k=true
theorem DupP.symm {k:Int} {a b:fn163} (h:DupP k a b):DupP k b a:=fun e=>by rw [e];exact h e.symm
structure OneP (k:Int) (p:fn163):Prop where
 f:forB p.Id k=true
 v:xv42 p.Id p.N p.A p.B=true
 a:p.A.length ≤ 100
 b:p.B.length ≤ 100
structure ManyP (k:Int) (l:List fn163):Prop where
 one:∀ p ∈ l,OneP k p
 dup:l.Pairwise (DupP k)
theorem xv51 {l:List fn163} {id:UInt8}:hasId l id=true ↔ ∃ a ∈ l,a.Id=id:=by
 simp only [hasId,List.any_eq_true,decide_eq_true_eq]
theorem ManyP.perm {k:Int} {l m:List fn163} (h:ManyP k l) (p:m.Perm l):ManyP k m :=
 ⟨fun x hx=>h.one x (p.mem_iff.1 hx),(p.pairwise_iff (fun h=>DupP.symm h)).2 h.dup⟩
theorem xv56 {l m:List fn163} (p:m.Perm l) (id:UInt8):hasId m id=hasId l id:=by
 rw [Bool.eq_iff_iff,xv51,xv51]
 exact ⟨fun ⟨a,h,e⟩=>⟨a,p.mem_iff.1 h,e⟩,fun ⟨a,h,e⟩=>⟨a,p.mem_iff.2 h,e⟩⟩
theorem xv195 (k:Int):∀ (l:List fn163) (prev:Option fn163),ManyP k l->SrtP l->(∀ b,prev=some b->∀ a ∈ l,b.Id ≤ a.Id∧DupP k b a)->chkL k prev l=true
 | [],_,_,_,_=>rfl
 | a::l,prev,hm,hs,hp=>by
  have h1:=hm.one a (by simp)
  obtain ⟨s1,s2⟩:=List.pairwise_cons.1 hs
  obtain ⟨d1,d2⟩:=List.pairwise_cons.1 hm.dup
  have ih:=xv195 k l (some a) ⟨fun p hp=>hm.one p (by simp [hp]),d2⟩ s2 (fun b hb x hx=>by cases hb;exact ⟨s1 x hx,d1 x hx⟩)
  simp only [chkL,ih,Bool.and_true,chk1,h1.f,h1.v,Bool.true_and]
  cases prev with
  | none=>rfl
  | some b =>
   obtain ⟨q1,q2⟩:=hp b rfl a (by simp)
   have:¬ b.Id > a.Id:=UInt8.not_lt.2 q1
   simp only [ordB,decide_eq_false this,Bool.not_false,Bool.true_and]
   by_cases e:b.Id=a.Id
   ·rw [decide_eq_true e]
    have:=q2 e
    rw [e] at this
    simp [this]
   ·rw [decide_eq_false e];rfl
theorem xv123 {k:Int} {l:List fn163} (hm:ManyP k l) (hs:SrtP l) (hl:l.length ≤ 1024) (h:hasId l 21=true∨hasId l 22=false):xv7 k l=true:=by
 have h1:¬ l.length > 1024:=by omega
 simp only [xv7,decide_eq_false h1,xv195 k l none hm hs (fun b hb=>by cases hb),Bool.not_false,Bool.true_and]
 rcases h with h|h<;>simp [h]
theorem ManyP.snoc {k:Int} {l:List fn163} {q:fn163} (h:ManyP k l) (hq:OneP k q) (hd:hasId l q.Id=true->xv45 q.Id k=true):ManyP k (l++[q]):=by
 refine ⟨fun p hp=>?_,List.pairwise_append.2 ⟨h.dup,List.pairwise_singleton _ _,fun a ha b hb e=>?_⟩⟩
 ·rcases List.mem_append.1 hp with hp|hp
  ·exact h.one p hp
  ·simp at hp;rw [hp];exact hq
 ·simp at hb;subst hb
  rw [e]
  exact hd (xv51.2 ⟨a,ha,e⟩)
theorem xv73 {o:Option (List fn163)} {q:fn163} (h:(L o).length ≤ 100):appO 40 o (some [q])=some (some (L o++[q])):=by
 have:=xv23 (n:=40) (x:=o) (a:=q) (l:=[]) (by simp [room];omega) (by simp [room];omega)
 simpa using this
theorem xv271 (o:Option (List fn163)) (k:Nat) (h1:1 ≤ k) (h16:k ≤ 16):∀ (f i:Nat) (x:Option (List fn163)),f + i=8->(L x).length ≤ i->ManyP (k:Int) (L x) ->
 (∃ q,iter (fn182_l0 o (k:Int)) (x,(i:Int))=some (.inl q))∨∃ x',iter (fn182_l0 o (k:Int)) (x,(i:Int))=some (.inr x')∧(L x').length ≤ 8∧ManyP (k:Int) (L x'):=by
 intro f
 induction f with
 | zero =>
  intro i x hi hl hm
  refine .inr ⟨x,?_,by omega,hm⟩
  rw [yv700]
  simp only [fn182_l0,fn182_b0]
  by_cases h:i < (L o).length
  ·rw [if_pos (by simp;omega),if_neg (by simp;omega)]
  ·rw [if_neg (by simp;omega)]
 | succ f ih =>
  intro i x hi hl hm
  by_cases h:i < (L o).length
  ·obtain ⟨q,hq,_,hok⟩:=xv316 (L o)[i] k h1 h16
   have e:w64 ((i:Int) + 1)=((i + 1:Nat):Int):=xv3 (by omega)
   have e8:decide ((i:Int) < 8)=true:=by rw [decide_eq_true_eq];omega
   by_cases h0:q.Id=0
   ·refine .inl ⟨q,?_⟩
    rw [yv700]
    simp only [fn182_l0,fn182_b0,xv2,List.getElem?_eq_getElem h,Option.bind_some,hq,e8,if_true]
    rw [if_pos (by simp;omega),if_pos (by simpa using h0)]
   ·obtain ⟨q1,q2,q3,q4⟩:=hok h0
    have hone:OneP (k:Int) q:=⟨q1,q2,q3,q4⟩
    have hg:=xv70 x q.Id (by omega)
    have hg2:=xv67 (L x) q.Id
    rcases hgn:getN (L x) q.Id with ⟨g1,g2⟩
    rw [hgn] at hg hg2
    simp only at hg2
    have step:∀ x',(L x').length ≤ i + 1->ManyP (k:Int) (L x')->fn182_l0 o (k:Int) (x,(i:Int))=some (.inl (x',((i + 1:Nat):Int))) ->
     (∃ q,iter (fn182_l0 o (k:Int)) (x,(i:Int))=some (.inl q))∨∃ x',iter (fn182_l0 o (k:Int)) (x,(i:Int))=some (.inr x')∧(L x').length ≤ 8∧ManyP (k:Int) (L x'):=by
     intro x' hx1 hx2 hx3
     have he:iter (fn182_l0 o (k:Int)) (x,(i:Int))=iter (fn182_l0 o (k:Int)) (x',((i + 1:Nat):Int)):=by rw [yv700,hx3]
     rw [he]
     exact ih (i + 1) x' (by omega) hx1 hx2
    have hstep:fn182_l0 o (k:Int) (x,(i:Int))=(if g2=true then (if (!xv45 q.Id (k:Int))=true then some (.inl (x,((i + 1:Nat):Int))) else some (.inl (some (L x++[q]),((i + 1:Nat):Int)))) else some (.inl (some (L x++[q]),((i + 1:Nat):Int)))):=by
     simp only [fn182_l0,fn182_b0,xv2,List.getElem?_eq_getElem h,Option.bind_some,hq,e8,if_true]
     rw [if_pos (by simp;omega),if_neg (by simpa using h0),hg]
     simp only [Option.bind_some,xv191,xv73 (q:=q) (show (L x).length ≤ 100 by omega),e]
    cases g2 with
    | false =>
     refine step (some (L x++[q])) (by simp;omega) ?_ (by rw [hstep];simp)
     exact hm.snoc hone (fun hh=>by rw [← hg2] at hh;cases hh)
    | true =>
     cases ho:xv45 q.Id (k:Int) with
     | false=>exact step x (by omega) hm (by rw [hstep,ho];simp)
     | true =>
      refine step (some (L x++[q])) (by simp;omega) ?_ (by rw [hstep,ho];simp)
      exact hm.snoc hone (fun _=>ho)
  ·refine .inr ⟨x,?_,by omega,hm⟩
   rw [yv700]
   simp only [fn182_l0,fn182_b0]
   rw [if_neg (by simp;omega)]
theorem xv182:∀ k:Fin 17,forB 22 (k.val:Int)=true->forB 21 (k.val:Int)=true:=by decide +kernel
theorem val21 (a:List UInt8) (h:good a=true):xv42 21 0 a []=true:=by
 have:typeT 21=5:=by decide +kernel
 simp [xv42,xv20,valB,this,h]
theorem xv148 (o:Option (List fn163)) (k:Nat) (h1:1 ≤ k) (h16:k ≤ 16) :
 ∃ r,fn182 o (k:Int)=some r∧(L r).length ≤ 9∧ManyP (k:Int) (L r)∧SrtP (L r)∧(hasId (L r) 21=true∨hasId (L r) 22=false):=by
 have sorted:∀ x:Option (List fn163),(L x).length ≤ 9->ManyP (k:Int) (L x)->(hasId (L x) 21=true∨hasId (L x) 22=false) ->
  ∃ r,fn182_c2 x (fun x=>some x)=some r∧(L r).length ≤ 9∧ManyP (k:Int) (L r)∧SrtP (L r)∧(hasId (L r) 21=true∨hasId (L r) 22=false):=by
  intro x hl hm hh
  obtain ⟨l',s1,s2,s3⟩:=xv155 x (by omega)
  refine ⟨some l',by simp only [fn182_c2,s1,Option.bind_some],?_,hm.perm s3,s2,?_⟩
  ·rw [xv1,s3.length_eq];exact hl
  ·rw [xv1,xv56 s3,xv56 s3];exact hh
 rcases xv271 o k h1 h16 8 0 none rfl (by simp) ⟨by simp,by simp⟩ with ⟨q,hq⟩|⟨x,hx,hl,hm⟩
 ·rw [show ((0:Nat):Int)=0 from rfl] at hq
  refine ⟨none,by simp only [fn182,hq,Option.bind_some],by simp,⟨by simp,by simp⟩,by simp,.inr rfl⟩
 ·rw [show ((0:Nat):Int)=0 from rfl] at hx
  have hg:=xv70 x 22 (by omega)
  have hg2:=xv67 (L x) 22
  rcases hgn:getN (L x) 22 with ⟨a1,a2⟩
  have hf:=xv70 x 21 (by omega)
  have hf2:=xv67 (L x) 21
  rcases hfn:getN (L x) 21 with ⟨b1,b2⟩
  rw [hgn] at hg hg2
  rw [hfn] at hf hf2
  simp only at hg2 hf2
  simp only [fn182,hx,Option.bind_some,hg]
  cases a2 with
  | false =>
   obtain ⟨r,r1,r2⟩:=sorted x (by omega) hm (.inr hg2.symm)
   exact ⟨r,by simpa using r1,r2⟩
  | true =>
   simp only [if_true,hf,Option.bind_some]
   cases b2 with
   | true =>
    obtain ⟨r,r1,r2⟩:=sorted x (by omega) hm (.inl hf2.symm)
    exact ⟨r,by simpa using r1,r2⟩
   | false =>
    obtain ⟨m,w,m8,hw,hwe⟩:=xv110 [109]
    have hwl:=hw.len
    simp only [Bool.not_false,if_true,hwe,Option.bind_some,xv73 (q:=(⟨21,0,w,[]⟩:fn163)) (show (L x).length ≤ 100 by omega)]
    obtain ⟨p,hp,he⟩:=xv51.1 hg2.symm
    have h22:=(hm.one p hp).f
    rw [he] at h22
    have h21:=xv182 ⟨k,by omega⟩ h22
    exact sorted (some (L x++[⟨21,0,w,[]⟩])) (by simp;omega)
     (hm.snoc ⟨h21,val21 w hw.good,by show w.length ≤ 100;omega,by simp⟩ (fun hh=>by rw [show (⟨21,0,w,[]⟩:fn163).Id=21 from rfl,← hf2] at hh;cases hh))
     (.inl (xv51.2 ⟨⟨21,0,w,[]⟩,by simp,rfl⟩))
end Go.Rv
